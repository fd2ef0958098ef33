import Derived.Test.YthlcobdnemhcdaaGreatW10
import Derived.Test.YthlcobdnemhcdaaGreatW7
import Derived.Test.YthlcobdnemhcdaaGreatW8
import Derived.Test.YthlcobdnemhcdaaGreatW3
set_option linter.unusedSimpArgs false
set_option linter.unusedVariables false
noncomputable section
namespace Go.Proofs.YthlcobdnemhcdaaGreat.K
open Go.RowKit Go.Conc
theorem QSK {l:List Job}{k:Nat}(hk:k<l.length):((l.drop k).map jV).toArray.getD 0 undef=jV l[k]/\((l.drop k).map jV).toArray.extract 1 ((l.drop k).map jV).toArray.size=((l.drop (k+1)).map jV).toArray:=by
 rw [Bg hk,BP]
 constructor
 ·rfl
 ·rw [←Array.toList_inj]
  simp only [Array.toList_extract,DA,Br]
  simp
  exact DE (by simp)
theorem Qqq {X0 X:Nat->Nat->Prop}{w W W':World}{S g:Nat}{x:Estate}{u:Value}(hv:Rd X W Qm x u)(hg:W.grownBy W' (some g))(hX: ∀ o,X g o)(h0: ∀ b o,X0 b o->X b o)(hb:Below S w W)(h1:S<=g)(h2:S<=W.heap.size):Rd X0 W' Qm x u/\Below S w W':=
 ⟨(hv.stand (QB0 hg hX)).more (fun b o _ h=>h0 b o h),FN hb hg h1 h2⟩
section
variable {P:Program}{Q:Exit->Act->World->Prop}{a:Act}{w:World}{ops:Array Oper}
theorem QEg {i:Nat}{rest:List Nat}{o:Oper}{v:Value}{w':World}(d:Option Nat)(ho:ops[i]? = some o)(hd:o.dst=d)(hw:Region.wanted o (yielded ops a.tmps)=true)(hr:(execOp a.eval o).run P w= .ok (.value v) w')
  (h:LN P ops Q rest (a.put d v) w'):LN P ops Q (i::rest) a w:=LN.value ho hw hr (hd▸h)
theorem QSL {i:Nat}{rest:List Nat}{o:Oper}{c cap s r:Nat}{buf:Array Value}{z:Value}{tm closed ok:Bool}(d:Option Nat)(ho:ops[i]? = some o)(hd:o.dst=d)(hw:Region.wanted o (yielded ops a.tmps)=true)
  (hr:(execOp a.eval o).run P w= .ok (.comm #[rcase c z] true (.recv ok)) w) (hc:w.heap[c]? = some (.chan cap buf closed s r tm)) (hs:0<buf.size)
  (h:LN P ops Q rest (a.put d (got ok (buf.getD 0 undef) true)) (w.setChan c cap (buf.extract 1 buf.size) closed s (r+1) tm)):LN P ops Q (i::rest) a w:=LN.recv ho hw hr hc hs (hd▸h)
theorem QSM {i:Nat}{rest:List Nat}{o:Oper}{c cap s r:Nat}{z:Value}{tm ok:Bool}(d:Option Nat)(ho:ops[i]? = some o)(hd:o.dst=d)(hw:Region.wanted o (yielded ops a.tmps)=true)
  (hr:(execOp a.eval o).run P w= .ok (.comm #[rcase c z] true (.recv ok)) w) (hc:w.heap[c]? = some (.chan cap #[] true s r tm))
  (h:LN P ops Q rest (a.put d (got ok z false)) w):LN P ops Q (i::rest) a w:=LN.shut ho hw hr hc (hd▸h)
end
set_option maxRecDepth 50000 in
set_option maxHeartbeats 4000000 in
theorem QEh {X0:Nat->Nat->Prop}{w:World}{e:Estate}{y:Policy}{l:List Job}{A:Option Addr}{n c:Nat}{a0 a1 a2 p0 p1:Value}(hn:l.length=n)(hl:n<=9223372036854775807)
  (hX0: ∀ b o,X0 b o->b<w.heap.size) (he:Rd X0 w Qm e (.agg #[a0,a1,a2])) (hp:Rd X0 w QE y (.agg #[p0,p1])) (oa0:a0.oneCell'=true) (oa1:a1.oneCell'=true) (oa2:a2.oneCell'=true) (op0:p0.oneCell'=true) (op1:p1.oneCell'=true)
  (hc:0<n→ ∃ b off,A=some ⟨b,off,none⟩/\b<w.heap.size∧ ∀ j v,(cJ l)[j]? = some v->w.cell? ⟨b,off+j,none⟩=some v) (h:FB e y l=true):
  Calls Tryz.prog 12 #[.agg #[a0,a1,a2],.agg #[p0,p1],.slice A n c] w fun en w'=> ∃ v,en= .returned (.tuple #[v,.int .i64 (Zk e y l).2.1,.int .i64 (Zk e y l).2.2])/\Rd X0 w' Qm (Zk e y l).1 v/\Below w.heap.size w w':=by
 have HC:=Lib.hid hc
 have HN:=Lib.hid hn
 have HE:=Lib.hid he
 have HP:=Lib.hid hp
 have HH:=Lib.hid h
 have HX0:=Lib.hid hX0
 clear hc hn he hp h hX0
 refine WN.calls Tryz.func12 rfl ?_
 simp only [Tryz.ntmps12,DA,Br,Bv,Nat.reduceAdd,Nat.reduceSub,Array.replicate_succ,
   Array.replicate_zero,List.push_toArray,List.append_toArray,BV,Dt]
 refine WN.seq (WN.of ?_)
 go_wp2_with fail
 refine WN.seq (WN.of ?_)
 go_wp2_with fail
 obtain ⟨Wa,hWa⟩: ∃ W,W=w.alloc (.cells #[a0,a1,a2] 29):=⟨_,rfl⟩
 obtain ⟨Wb,hWb⟩: ∃ W,W=Wa.alloc (.cells #[p0,p1] 33):=⟨_,rfl⟩
 obtain ⟨Wc,hWc⟩: ∃ W,W=Wb.alloc (.cells #[.slice none 0 0,.slice none 0 0,.slice none 0 0] 29):=⟨_,rfl⟩
 obtain ⟨S,hS⟩: ∃ S,S=w.heap.size:=⟨_,rfl⟩
 rw [←hWa, ← hWb, ← hWc, ← hS]
 have sa:Wa.heap.size=S+1:=by rw [hWa,World.size_alloc,hS]
 have sb:Wb.heap.size=S+1+1:=by rw [hWb,World.size_alloc,sa]
 have sc:Wc.heap.size=S+1+1+1:=by rw [hWc,World.size_alloc,sb]
 have bW:Below w.heap.size w Wc:=by
  rw [hWc,hWb,hWa]
  have e1:=(Below.refl w.heap.size w).alloc (BB _) (.cells #[a0,a1,a2] 29)
  have e2:=e1.alloc e1.size (.cells #[p0,p1] 33)
  exact e2.alloc e2.size _
 have kP:Go.Proofs.YthlcobdnemhcdaaGreat.Blk Wc (S+1) 33 #[p0,p1]:=by
  rw [hWc];refine Go.Proofs.YthlcobdnemhcdaaGreat.Blk.alloc ?_ _;rw [hWb, ← sa];exact Go.Proofs.YthlcobdnemhcdaaGreat.Blk.new _ _ _
 have kR:Go.Proofs.YthlcobdnemhcdaaGreat.Blk Wc (S+1+1) 29 #[.slice none 0 0,.slice none 0 0,.slice none 0 0]:=by
  rw [hWc, ← sb];exact Go.Proofs.YthlcobdnemhcdaaGreat.Blk.new _ _ _
 clear hWa hWb hWc sa sb
 have e1:Rd (fun b o=>X0 b o∨b=S+1+1) Wc Qm e (.agg #[a0,a1,a2]):=(HE.out.more (fun b o hb hx=>hx.elim id (fun h=>by omega))).stand (StX.below bW)
 have p1':Rd (fun b o=>X0 b o∨b=S+1+1) Wc QE y (.agg #[p0,p1]):=(HP.out.more (fun b o hb hx=>hx.elim id (fun h=>by omega))).stand (StX.below bW)
 have hok:=Bf.1 HH.out
 refine (QPV (fun b o hx=>hx.elim (fun h=>by have:=HX0.out b o h;omega) (fun h=>by omega)) e1 hok.1).mono ?_
 rintro en w1 ⟨v,rfl,hv,hb1⟩
 have hjl:=QyT HH.out
 obtain ⟨c0,c1,c2,rfl,oc0,oc1,oc2⟩:=Qgw hv
 have kP:=kP.ext hb1
 have kR:=kR.ext hb1
 have bl1:Below S w w1:=hS▸G0 bW hb1 (by omega)
 obtain ⟨q,hq⟩: ∃ q,q=w1.heap.size:=⟨_,rfl⟩
 have hqS:S+1+1<q:=by have:=hb1.size;omega
 have hv:Rd (fun b o=>X0 b o∨b=S+1+1∨b=q) w1 Qm e (.agg #[c0,c1,c2]):=hv.more (fun b o hb hx=>hx.elim .inl (fun h=>h.elim .inr (fun h=>by omega)))
 have hp2:Rd (fun b o=>X0 b o∨b=S+1+1∨b=q) w1 QE y (.agg #[p0,p1]):=(p1'.stand (StX.below hb1)).more (fun b o hb hx=>hx.elim .inl (fun h=>h.elim .inr (fun h=>by omega)))
 have HV:=Lib.hid hv
 have HP2:=Lib.hid hp2
 have HKP:=Lib.hid kP
 have HKR:=Lib.hid kR
 have HB1:=Lib.hid bl1
 have HQ:=Lib.hid hq
 have HQS:=Lib.hid hqS
 have HJ:=Lib.hid hjl
 have HS:=Lib.hid hS
 clear bW kP kR e1 p1' hb1 hv hp2 bl1 hq hqS hjl sc hS hok HE HP oa0 oa1 oa2
 have sv0:=fun a m W=>run_store Tryz.prog W a c0 m oc0
 have sv1:=fun a m W=>run_store Tryz.prog W a c1 m oc1
 have sv2:=fun a m W=>run_store Tryz.prog W a c2 m oc2
 go_wp2_with fail
 clear sv0 sv1 sv2
 obtain ⟨W2,hW2⟩: ∃ W,W=w1.alloc (.cells #[c0,c1,c2] 29):=⟨_,rfl⟩
 have hq:=HQ.out
 rw [←hW2, ← hq]
 have b2:Below w1.heap.size w1 W2:=hW2▸(Below.refl _ _).alloc (BB _) _
 have HKQ:=Lib.hid (show Go.Proofs.YthlcobdnemhcdaaGreat.Blk W2 q 29 #[c0,c1,c2] by rw [hW2,hq];exact Go.Proofs.YthlcobdnemhcdaaGreat.Blk.new _ _ _)
 have HKP:=Lib.hid (HKP.out.ext b2)
 have HKR:=Lib.hid (HKR.out.ext b2)
 have HV:=Lib.hid (HV.out.stand (StX.below b2))
 have HP2:=Lib.hid (HP2.out.stand (StX.below b2))
 have HB2:=Lib.hid (G0 HB1.out b2 (by have:=HQS.out;omega))
 clear hW2 b2 hq HB1 HQ
 by_cases h60:60<n
 ·have z0:=HKQ.out.cell 0
  have z1:=HKQ.out.cell 1
  have z2:=HKQ.out.cell 2
  have r0:=HKR.out.cell 0
  have r1:=HKR.out.cell 1
  have r2:=HKR.out.cell 2
  have f0:=HKR.out.frozen 0
  have f1:=HKR.out.frozen 1
  have f2:=HKR.out.frozen 2
  simp only [Dq,BZ,B5] at z0 z1 z2 r0 r1 r2
  refine WN.seq (WN.seq (WN.of ?_))
  go_wp2_with fail
  refine WN.of ?_
  have sv0:=fun a m W=>run_store Tryz.prog W a c0 m oc0
  have sv1:=fun a m W=>run_store Tryz.prog W a c1 m oc1
  have sv2:=fun a m W=>run_store Tryz.prog W a c2 m oc2
  go_wp2_with fail
  have hfin:=Qgu HKR.out c0 c1 c2
  have hgf:=Qgv W2 (S+1+1) c0 c1 c2
  generalize ((W2.setCell ⟨S+1+1,0,none⟩ c0).setCell ⟨S+1+1,1,none⟩ c1).setCell ⟨S+1+1,2,none⟩ c2=W3 at*
  have q0:=hfin.cell 0
  have q1:=hfin.cell 1
  have q2:=hfin.cell 2
  simp only [Dq,BZ,B5] at q0 q1 q2
  obtain ⟨g1,g2⟩:=Qqq HV.out hgf (fun _=> .inr (.inl rfl)) (fun _ _ h=> .inl h) HB2.out (by omega) (by have:=HKQ.out.lt;have:=HQS.out;omega)
  refine bodyPost_ret (by simp [results,Tryz.results12,go_sem,q0,q1,q2];rfl) rfl ?_
  have ea:Zk e y l=(e,0,3):=by
   unfold Zk
   rw [show igt (Qc l) 60=true from Be (by simp only [Qc,HN.out];omega)]
   rfl
  rw [ea]
  exact ⟨_,rfl,g1,by rw [←HS.out];exact g2⟩
 ·refine WN.seq (WN.seq (WN.of ?_))
  go_wp2_with fail
  refine WN.of ?_
  go_wp2_with fail
  refine WN.seq (WN.of ?_)
  go_wp2_with fail
  have hc2:0<n→ ∃ b off,A=some ⟨b,off,none⟩/\b<W2.heap.size∧ ∀ j v,(cJ l)[j]? = some v->W2.cell? ⟨b,off+j,none⟩=some v:=fun h0=>by
   obtain ⟨b,off,rfl,g1,g2⟩:=HC.out h0
   have hb:b<S:=by rw [HS.out];exact g1
   exact ⟨b,off,rfl,by have:=HKQ.out.lt;have:=HQS.out;omega,fun j v hj=>(HB2.out.cell (p:=⟨b,off+j,none⟩) hb).trans (g2 j v hj)⟩
  have HC2:=Lib.hid hc2
  clear hc2
  refine WN.seq (WN.seq (WN.of ?_))
  go_wp2_with fail
  refine (QL0 l A n c W2 HN.out (by omega) HC2.out).mono ?_
  rintro en w4 ⟨ch,rfl,hch1,hch2,hca,hb4⟩
  have hqW:q<W2.heap.size:=HKQ.out.lt
  have hqS:=HQS.out
  have HKQ:=Lib.hid (HKQ.out.ext hb4)
  have HKP:=Lib.hid (HKP.out.ext hb4)
  have HKR:=Lib.hid (HKR.out.ext hb4)
  have HV:=Lib.hid (HV.out.stand (StX.below hb4))
  have HP2:=Lib.hid (HP2.out.stand (StX.below hb4))
  have HB4:=Lib.hid (G0 HB2.out hb4 (by omega))
  have HCA:=Lib.hid hca
  have HCH:=Lib.hid (show q<ch by omega)
  have HCW:=Lib.hid hch2
  clear hb4 hch1 hch2 hca HB2 HC2
  go_wp2_with fail
  refine WN.block (WN.loop (fun m a w'=> ∃ (k:Nat) (cur:Estate) (s r:Nat) (d0 d1 d2 u11 u12 u13 u22 u23 u24 u25 u26 u27 u28 u29 u30 u31 u32 u33 u34 u35 u36 u37 u38 u39 u40 u41:Value),m+k=n/\a=⟨#[.agg #[a0,a1,a2],.agg #[p0,p1],.slice A n c,.pointer (some ⟨S,0,none⟩),.pointer (some ⟨S+1,0,none⟩),undef,
     .pointer (some ⟨S+1+1,0,none⟩),.int .i64 0,.int .i64 0,.pointer (some ⟨q,0,none⟩),.int .i64 k,u11,u12,u13,.agg #[a0,a1,a2],.agg #[c0,c1,c2],.slice A n c,.int .i64 n,.bool (decide (60<(n:Int))),undef,.slice A n c,.chan (some ch),
     u22,u23,u24,u25,u26,u27,u28,u29,u30,u31,u32,u33,u34,u35,u36,u37,u38,u39,u40,u41],[]⟩∧
    w'.heap[ch]? = some (.chan n ((l.drop k).map jV).toArray true s r false)/\Go.Proofs.YthlcobdnemhcdaaGreat.Blk w' q 29 #[d0,d1,d2]/\(d0.oneCell'=true/\d1.oneCell'=true/\d2.oneCell'=true)∧
    Go.Proofs.YthlcobdnemhcdaaGreat.Blk w' (S+1) 33 #[p0,p1]/\Go.Proofs.YthlcobdnemhcdaaGreat.Blk w' (S+1+1) 29 #[.slice none 0 0,.slice none 0 0,.slice none 0 0]∧
    Rd (fun b o=>X0 b o∨b=S+1+1∨b=q) w' Qm cur (.agg #[d0,d1,d2])/\Rd (fun b o=>X0 b o∨b=S+1+1∨b=q) w' QE y (.agg #[p0,p1])/\Below S w w'/\Jg cur y=true/\Zc y (l.drop k) cur k=Zc y l e 0) n ?_ ?_)
  ·obtain ⟨s,r,hch⟩:=HCA.out
   exact ⟨0,e,s,r,c0,c1,c2,_,_,_,_,_,_,_,_,_,_,_,_,_,_,_,_,_,_,_,_,_,_,_,rfl,rfl,hch,HKQ.out,⟨oc0,oc1,oc2⟩,HKP.out,HKR.out,HV.out,HP2.out,HB4.out,HJ.out,rfl⟩
  ·rintro m a w' ⟨k,cur,s,r,d0,d1,d2,u11,u12,u13,u22,u23,u24,u25,u26,u27,u28,u29,u30,u31,u32,u33,u34,u35,u36,u37,u38,u39,u40,u41,hm,rfl,hch,kq,⟨od0,od1,od2⟩,kp,kr,rv,rp,bl,hjl,hz⟩
   have HM:=Lib.hid hm
   have HCH2:=Lib.hid hch
   have HKQ:=Lib.hid kq
   have HKP:=Lib.hid kp
   have HKR:=Lib.hid kr
   have HV:=Lib.hid rv
   have HP2:=Lib.hid rp
   have HB4:=Lib.hid bl
   have HJ:=Lib.hid hjl
   have HZ:=Lib.hid hz
   clear hm hch kq kp kr rv rp bl hjl hz oc0 oc1 oc2
   refine WN.seq (LN.region ?_)
   simp only [DA,Br,Bv,Nat.reduceAdd,List.range,List.range.loop]
   have hlt3:ch<w'.heap.size:=(BY.1 HCH2.out).1
   by_cases hlt:k<n
   ·have hkl:k<l.length:=by rw [HN.out];exact hlt
    obtain ⟨j1,j2⟩:=QSK hkl
    obtain ⟨t,ht⟩: ∃ t,t=l[k]:=⟨_,rfl⟩
    rw [←ht] at j1
    have hd:Zc y (l.drop k) cur (k:Int)=bif ieq (apE cur y t) 0 then Zc y (l.drop (k+1)) (apF cur y t).1 ((k:Int)+1) else (cur,(k:Int),apE cur y t):=by
     rw [Bg hkl,ht]
     rfl
    have HZ:=Lib.hid (hd.symm.trans HZ.out)
    clear hd ht
    refine QSL (some 22) (i:=0) (c:=ch) (z:= .agg #[.int .i64 0,.int .i64 0,.int .i64 0,.int .i64 0]) (ok:=true) rfl rfl rfl (by simp [go_sem,rcase]) HCH2.out (by simp;omega) ?_
    rw [j1,j2]
    obtain ⟨W3,hW3⟩: ∃ W,W=w'.setChan ch n ((l.drop (k+1)).map jV).toArray true s (r+1) false:=⟨_,rfl⟩
    rw [←hW3]
    refine QEg (some 23) (i:=1) rfl rfl rfl (v:= .bool true) (w':=W3) (by simp [go_sem,got]) ?_
    refine LN.nil ?_
    have HCH3:=Lib.hid (show W3.heap[ch]? = some (.chan n ((l.drop (k+1)).map jV).toArray true s (r+1) false) by rw [hW3];exact heap_setChan w' ch n _ true s (r+1) false hlt3)
    have hcc:=QPX HCH2.out n ((l.drop (k+1)).map jV).toArray true s (r+1) false (fun b o=>X0 b o∨b=S+1+1∨b=q)
    have hgc:=QB1 w' ch n ((l.drop (k+1)).map jV).toArray true s (r+1) false
    have hbc:=below_setChan HB4.out (show S<=ch by have:=HCH.out;omega) n ((l.drop (k+1)).map jV).toArray true s (r+1) false
    rw [←hW3] at hcc hgc hbc
    have hqc:=HCH.out
    have hc3:ch<W3.heap.size:=(BY.1 HCH3.out).1
    have HKQ:=Lib.hid (HKQ.out.grown hgc (fun e=>by injection e;omega))
    have HKP:=Lib.hid (HKP.out.grown hgc (fun e=>by injection e;omega))
    have HKR:=Lib.hid (HKR.out.grown hgc (fun e=>by injection e;omega))
    have HV:=Lib.hid (HV.out.stand hcc)
    have HP2:=Lib.hid (HP2.out.stand hcc)
    have HB4:=Lib.hid hbc
    clear hW3 hcc hgc hbc HCH2 j1 j2 hlt3
    simp only [Exit.then,got,if_true,jV]
    go_frame
    refine WN.seq (WN.of ?_)
    go_wp2_with fail
    refine WN.block (WN.seq (WN.of ?_))
    go_wp2_with fail
    obtain ⟨g,hg⟩: ∃ g,g=W3.heap.size:=⟨_,rfl⟩
    obtain ⟨W5,hW5⟩: ∃ W,W=W3.alloc (.cells #[.int .i64 t.1,.int .i64 t.2.1.1.1,.int .i64 t.2.1.1.2.1,.int .i64 t.2.1.2.1] 47):=⟨_,rfl⟩
    rw [←hW5, ← hg]
    have b5:Below W3.heap.size W3 W5:=hW5▸(Below.refl _ _).alloc (BB _) _
    have HKT:=Lib.hid (show Go.Proofs.YthlcobdnemhcdaaGreat.Blk W5 g 47 #[.int .i64 t.1,.int .i64 t.2.1.1.1,.int .i64 t.2.1.1.2.1,.int .i64 t.2.1.2.1] by rw [hW5,hg];exact Go.Proofs.YthlcobdnemhcdaaGreat.Blk.new _ _ _)
    have HCH3:=Lib.hid ((b5.block ch hc3).trans HCH3.out)
    have hqW:q<W3.heap.size:=HKQ.out.lt
    have HKQ:=Lib.hid (HKQ.out.ext b5)
    have HKP:=Lib.hid (HKP.out.ext b5)
    have HKR:=Lib.hid (HKR.out.ext b5)
    have HV:=Lib.hid (HV.out.stand (StX.below b5))
    have HP2:=Lib.hid (HP2.out.stand (StX.below b5))
    have HB4:=Lib.hid (G0 HB4.out b5 (by omega))
    have HC3:=Lib.hid (show ch<W5.heap.size by have:=b5.size;omega)
    have HG:=Lib.hid hg
    clear hW5 b5 hg
    have t0:=HKT.out.cell 0
    have t1:=HKT.out.cell 1
    have t2:=HKT.out.cell 2
    have t3:=HKT.out.cell 3
    have z0:=HKQ.out.cell 0
    have z1:=HKQ.out.cell 1
    have z2:=HKQ.out.cell 2
    have r0:=HKP.out.cell 0
    have r1:=HKP.out.cell 1
    simp only [Dq,BZ,B5] at z0 z1 z2 r0 r1 t0 t1 t2 t3
    refine WN.seq (WN.of ?_)
    go_wp2_with fail
    refine (QPW (X:=fun b o=>X0 b o∨b=S+1+1∨b=q) (fun b o hx=>hx.elim (fun h=>by have:=HX0.out b o h;have:=HB4.out.size;omega) (fun h=>by have:=HKQ.out.lt;have:=HQS.out;omega)) HV.out HP2.out HJ.out).mono ?_
    rintro en w5 ⟨rr,rfl,hr,hb5⟩
    obtain ⟨x0,x1,x2,rfl,ox0,ox1,ox2⟩:=Qgw hr
    have HX:=Lib.hid hr
    have HCH3:=Lib.hid ((hb5.block ch HC3.out).trans HCH3.out)
    have HKQ2:=Lib.hid (HKQ.out.ext hb5)
    have HKP:=Lib.hid (HKP.out.ext hb5)
    have HKR:=Lib.hid (HKR.out.ext hb5)
    have HV:=Lib.hid (HV.out.stand (StX.below hb5))
    have HP2:=Lib.hid (HP2.out.stand (StX.below hb5))
    have HB4:=Lib.hid (G0 HB4.out hb5 (by have:=HKQ.out.lt;omega))
    have HC3:=Lib.hid (show ch<w5.heap.size by have:=hb5.size;have:=HC3.out;omega)
    have HKQ:=HKQ2
    clear hb5 hr HKQ2 t0 t1 t2 t3 z0 z1 z2 r0 r1
    have sx0:=fun a m W=>run_store Tryz.prog W a x0 m ox0
    have sx1:=fun a m W=>run_store Tryz.prog W a x1 m ox1
    have sx2:=fun a m W=>run_store Tryz.prog W a x2 m ox2
    go_wp2_with fail
    clear sx0 sx1 sx2
    obtain ⟨g2,hg2⟩: ∃ g,g=w5.heap.size:=⟨_,rfl⟩
    obtain ⟨W6,hW6⟩: ∃ W,W=w5.alloc (.cells #[x0,x1,x2] 29):=⟨_,rfl⟩
    rw [←hW6, ← hg2]
    have b6:Below w5.heap.size w5 W6:=hW6▸(Below.refl _ _).alloc (BB _) _
    have HKX:=Lib.hid (show Go.Proofs.YthlcobdnemhcdaaGreat.Blk W6 g2 29 #[x0,x1,x2] by rw [hW6,hg2];exact Go.Proofs.YthlcobdnemhcdaaGreat.Blk.new _ _ _)
    have HCH3:=Lib.hid ((b6.block ch HC3.out).trans HCH3.out)
    have hqW:q<w5.heap.size:=HKQ.out.lt
    have HKQ:=Lib.hid (HKQ.out.ext b6)
    have HKP:=Lib.hid (HKP.out.ext b6)
    have HKR:=Lib.hid (HKR.out.ext b6)
    have HV:=Lib.hid (HV.out.stand (StX.below b6))
    have HP2:=Lib.hid (HP2.out.stand (StX.below b6))
    have HX:=Lib.hid (HX.out.stand (StX.below b6))
    have HB4:=Lib.hid (G0 HB4.out b6 (by omega))
    have HC3:=Lib.hid (show ch<W6.heap.size by have:=b6.size;have:=HC3.out;omega)
    clear hW6 b6 hg2
    cases hq0:ieq (apE cur y t) 0 with
    |false=>
     have hne:(apF cur y t).2≠0:=fun h=>by
      have h:apE cur y t=0:=h
      rw [h] at hq0
      cases hq0
     have HZ:=Lib.hid (show (cur,(k:Int),(apF cur y t).2)=Zc y l e 0 by have:=HZ.out;rw [hq0] at this;exact this)
     have z0:=HKQ.out.cell 0
     have z1:=HKQ.out.cell 1
     have z2:=HKQ.out.cell 2
     have r0:=HKR.out.cell 0
     have r1:=HKR.out.cell 1
     have r2:=HKR.out.cell 2
     have f0:=HKR.out.frozen 0
     have f1:=HKR.out.frozen 1
     have f2:=HKR.out.frozen 2
     simp only [Dq,BZ,B5] at z0 z1 z2 r0 r1 r2
     refine WN.seq (WN.seq (WN.of ?_))
     go_wp2_with fail
     refine WN.of ?_
     have sv0:=fun a m W=>run_store Tryz.prog W a d0 m od0
     have sv1:=fun a m W=>run_store Tryz.prog W a d1 m od1
     have sv2:=fun a m W=>run_store Tryz.prog W a d2 m od2
     go_wp2_with fail
     have hfin:=Qgu HKR.out d0 d1 d2
     have hgf:=Qgv W6 (S+1+1) d0 d1 d2
     generalize ((W6.setCell ⟨S+1+1,0,none⟩ d0).setCell ⟨S+1+1,1,none⟩ d1).setCell ⟨S+1+1,2,none⟩ d2=W7 at*
     have q0:=hfin.cell 0
     have q1:=hfin.cell 1
     have q2:=hfin.cell 2
     simp only [Dq,BZ,B5] at q0 q1 q2
     obtain ⟨g1,g2⟩:=Qqq HV.out hgf (fun _=> .inr (.inl rfl)) (fun _ _ h=> .inl h) HB4.out (by omega) (by have:=HKQ.out.lt;have:=HQS.out;omega)
     refine bodyPost_ret (by simp [results,Tryz.results12,go_sem,q0,q1,q2];rfl) rfl ?_
     have ea:Zk e y l=(cur,(k:Int),(apF cur y t).2):=by
      unfold Zk
      rw [show igt (Qc l) 60=false from Bq (by simp only [Qc,HN.out];omega)]
      exact HZ.out.symm
     rw [ea]
     exact ⟨_,rfl,g1,by rw [←HS.out];exact g2⟩
    |true=>
     have hne:(apF cur y t).2=0:=eq_of_beq hq0
     have hne':apE cur y t=0:=hne
     have HZ:=Lib.hid (show Zc y (l.drop (k+1)) (apF cur y t).1 ((k:Int)+1)=Zc y l e 0 by have:=HZ.out;rw [hq0] at this;exact this)
     have hjl2:=Qe1 HJ.out hne'
     have z0:=HKX.out.cell 0
     have z1:=HKX.out.cell 1
     have z2:=HKX.out.cell 2
     have r0:=HKQ.out.cell 0
     have r1:=HKQ.out.cell 1
     have r2:=HKQ.out.cell 2
     have f0:=HKQ.out.frozen 0
     have f1:=HKQ.out.frozen 1
     have f2:=HKQ.out.frozen 2
     simp only [Dq,BZ,B5] at z0 z1 z2 r0 r1 r2
     refine WN.seq (WN.seq (WN.of ?_))
     go_wp2_with fail
     refine WN.of ?_
     go_wp2_with fail
     refine WN.of ?_
     have sv0:=fun a m W=>run_store Tryz.prog W a x0 m ox0
     have sv1:=fun a m W=>run_store Tryz.prog W a x1 m ox1
     have sv2:=fun a m W=>run_store Tryz.prog W a x2 m ox2
     go_wp2_with fail
     have hfin:=Qgu HKQ.out x0 x1 x2
     have hgf:=Qgv W6 q x0 x1 x2
     generalize ((W6.setCell ⟨q,0,none⟩ x0).setCell ⟨q,1,none⟩ x1).setCell ⟨q,2,none⟩ x2=W7 at*
     have hst:=QB0 (X:=fun b o=>X0 b o∨b=S+1+1∨b=q) hgf (fun _=> .inr (.inr rfl))
     have hqS:=HQS.out
     have hqc:=HCH.out
     exact ⟨m-1,by have:=HM.out;omega,k+1,(apF cur y t).1,s,r+1,x0,x1,x2,_,_,_,_,_,_,_,_,_,_,_,_,_,_,_,_,_,_,_,_,_,_,_,by have:=HM.out;omega,rfl,
      (hgf.block ch (by have:=HC3.out;omega) (fun e=>by injection e;omega)).trans HCH3.out,hfin,⟨ox0,ox1,ox2⟩,HKP.out.grown hgf (fun e=>by injection e;omega),HKR.out.grown hgf (fun e=>by injection e;omega),
      HX.out.stand hst,HP2.out.stand hst,FN HB4.out hgf (by omega) (by have:=HKQ.out.lt;omega),hjl2,HZ.out⟩
   ·obtain rfl:k=n:=by have:=HM.out;omega
    have hd:l.drop k=[]:=List.drop_of_length_le (by rw [HN.out];exact BB _)
    have hch:=HCH2.out
    have hz:=HZ.out
    rw [hd] at hch hz
    have HZ:=Lib.hid (show (cur,(k:Int),(0:Int))=Zc y l e 0 from hz)
    clear HCH2 hz hd
    refine QSM (some 22) (i:=0) (c:=ch) (z:= .agg #[.int .i64 0,.int .i64 0,.int .i64 0,.int .i64 0]) (ok:=true) rfl rfl rfl (by simp [go_sem,rcase]) hch ?_
    refine QEg (some 23) (i:=1) rfl rfl rfl (v:= .bool false) (w':=w') (by simp [go_sem,got]) ?_
    refine LN.nil ?_
    have z0:=HKQ.out.cell 0
    have z1:=HKQ.out.cell 1
    have z2:=HKQ.out.cell 2
    have r0:=HKR.out.cell 0
    have r1:=HKR.out.cell 1
    have r2:=HKR.out.cell 2
    have f0:=HKR.out.frozen 0
    have f1:=HKR.out.frozen 1
    have f2:=HKR.out.frozen 2
    simp only [Dq,BZ,B5] at z0 z1 z2 r0 r1 r2
    clear hch
    simp only [Exit.then,got,if_true]
    go_frame
    refine WN.seq (WN.of ?_)
    go_wp2_with fail
    refine WN.of ?_
    have sv0:=fun a m W=>run_store Tryz.prog W a d0 m od0
    have sv1:=fun a m W=>run_store Tryz.prog W a d1 m od1
    have sv2:=fun a m W=>run_store Tryz.prog W a d2 m od2
    go_wp2_with fail
    have hfin:=Qgu HKR.out d0 d1 d2
    have hgf:=Qgv w' (S+1+1) d0 d1 d2
    generalize ((w'.setCell ⟨S+1+1,0,none⟩ d0).setCell ⟨S+1+1,1,none⟩ d1).setCell ⟨S+1+1,2,none⟩ d2=W7 at*
    have q0:=hfin.cell 0
    have q1:=hfin.cell 1
    have q2:=hfin.cell 2
    simp only [Dq,BZ,B5] at q0 q1 q2
    obtain ⟨g1,g2⟩:=Qqq HV.out hgf (fun _=> .inr (.inl rfl)) (fun _ _ h=> .inl h) HB4.out (by omega) (by have:=HKQ.out.lt;have:=HQS.out;omega)
    refine bodyPost_ret (by simp [results,Tryz.results12,go_sem,q0,q1,q2];rfl) rfl ?_
    have ea:Zk e y l=(cur,(k:Int),0):=by
     unfold Zk
     rw [show igt (Qc l) 60=false from Bq (by simp only [Qc,HN.out];omega)]
     exact HZ.out.symm
    rw [ea]
    exact ⟨_,rfl,g1,by rw [←HS.out];exact g2⟩
end Go.Proofs.YthlcobdnemhcdaaGreat.K
noncomputable section
namespace Go.Proofs.YthlcobdnemhcdaaGreat.K
open Go.RowKit
noncomputable section
theorem WK (a:Int):ine a a=false:=by simp [ine]
theorem Qbe (a:Int):ieq a a=true:=by simp [ieq]
theorem QBA (a:Bool):Fu a a=true:=by cases a<;>rfl
theorem bneq_s (a:Bool):IX a a=false:=by cases a<;>rfl
theorem sne_s (a:ByteArray):sne a a=false:=by simp [sne]
theorem seq_s (a:ByteArray):seq a a=true:=by simp [seq]
def XE {α:Type}(a b:List α)(i:Int):Bool:= @decide (a=b/\a.length<=100000/\0<=i/\i<=a.length) (Classical.propDecidable _)
def YO {α:Type}(a b:α):Bool:= @decide (a=b) (Classical.propDecidable _)
theorem Wm {α:Type}(a:α):YO a a=true:= @Be _ (Classical.propDecidable _) rfl
theorem WL {α:Type}{a b:α}(h:YO a b=true):a=b:= @BD _ (Classical.propDecidable _) h
theorem Qf6 {α:Type}{a b:List α}{i:Int}(h:XE a b i=true):a=b/\a.length<=100000/\0<=i/\i<=a.length:= @BD _ (Classical.propDecidable _) h
theorem Qf7 {α:Type}{a:List α}(h:a.length<=100000):XE a a 0=true:= @Be _ (Classical.propDecidable _) ⟨rfl,h,B1 0,by omega⟩
def Qf8 (_ _:List ByteArray):Bool:=true
def Qf9 (a b:List ByteArray):Bool:=YO a b&&decide (a.length<=100000)
abbrev Qga:Sh:=⟨[(0,.ty (.sl .str)),(1,.ty (.sl .str)),(5,.ty tI)],[]⟩
abbrev Qbf:Sh:=⟨[(4,.ty .bool)],[]⟩
abbrev FL:Sh:=⟨[],[]⟩
def Qo1:Fg:=Qga.f
def QBB:TC:=aF Tryz.f237 [(58,pL 0 Qo1),(931,.fg FL.f),(1864,pD [(0,[]),(1,[]),(2,[]),(3,[]),(4,[]),(5,[]),(6,[]),(7,[]),(8,[])] (.of [0,1,2,3,4,5,6,7,8])),(7461,.fg Qbf.f)]
def QBC:TC:=lb 0 QBB
def QBD (x0 x1:List ByteArray)(x5:Int):VS:=Qga.st (x0,x1,x5,()) ()
def XF (x4:Bool):VS:=Qbf.st (x4,()) ()
def Qo2  : VS:=FL.st () ()
def QPF:VS->Option (Bool×List (Bool×Exit×VS)):=mkL Qga (fun x y=>(XE x.1 x.2.1 x.2.2.1)) (fun x y=>[((false),.ret,XF (false)),(true,.exit 0,Qo2)])
def Qo3:G:=gG 26 [] (Ls [QPF])
def Qgb (x0 x1:List ByteArray)(x5:Int):OX:=Qx (QA Qo3 Qo1 QBC) (QBD x0 x1 x5)
def Qbg (kk:List ByteArray->List ByteArray->Int->OX)(x0 x1:List ByteArray)(x5:Int):OX:=br (ilt x5 (Qc x0)) (br (cIx x0 x5) (br (cIx x1 x5) (br (sne (lgt .str x0 (Int.toNat x5)) (lgt .str x1 (Int.toNat x5))) (some (.ret,XF false)) (kk x0 x1 (Qj .i64 x5 1))) none) none) (some (.exit 0,Qo2))
def Qgc (x0 x1:List ByteArray)(x5:Int):OX:=br (false) (some (.ret,XF (false)))<|some (.exit 0,Qo2)
theorem QBE (x0 x1:List ByteArray)(x5:Int):Qgb x0 x1 x5=Qbg Qgb x0 x1 x5:=lnT (x:=Qbg (fun x0 x1 x5=>some (.normal,QBD x0 x1 x5)) x0 x1 x5) (by simp only [Qbg,nxA];rfl)
def QBF (p0 p1:List ByteArray):OV:=br (ine (Qc p0) (Qc p1)) (some (.t .bool false,[])) (br (XE p0 p1 (0:Int)) (br (false) (some (.t .bool (false),[])) (some (.t .bool true,[]))) none)
theorem QPG (x0 x1:List ByteArray)(x5:Int)(h:(XE x0 x1 x5)=true):Qgb x0 x1 x5=Qgc x0 x1 x5:=by
 obtain ⟨rfl,h2,h3,h4⟩:=Qf6 h
 obtain ⟨k,rfl⟩:=Bl h3
 refine QQ x0 (fun k=>Qgb x0 x0 (k:Int)=Qgc x0 x0 (k:Int)) ?_ ?_ k (by omega)
 ·rw [QBE]
  simp only [Qbg,Qgc,Qy,Qc,BN,BM,Qi]
 ·intro k hk ih
  rw [QBE]
  simp only [Qbg,Qy,Qc,QK,hk,Bo,Qf,Bb,QO (show k<4611686018427387904 by omega),sne_s,Qi,ih,Qgc]
theorem QPH:LO Qo3 Qo1 QBC 0:=QI (s:=Qga) fun x y h _ q=>by simp only [QG,QH] at q;exact (QPG x.1 x.2.1 x.2.2.1 h).trans q
theorem s_f237 (a b:List ByteArray)(h:Qf9 a b=true):QBF a b=some (.t .bool (Qf8 a b),[]):=by
 obtain ⟨h1,h2⟩:=Bf.1 h
 obtain rfl:=WL h1
 unfold QBF
 rw [WK,Qi]
 refine brY (Qf7 (BD h2)) rfl
def QBG:Ent:=Qo (.pr (.sl .str) (.pr (.sl .str) .nil)) (fun x=>(Qf9 x.1 x.2.1)) (fun x=>(.t .bool (Qf8 x.1 x.2.1)))
theorem QPI:EM 237 QBG:=mS (lk:=lkL (lkc QPH lkn)) Qo3 QBB [((.t 4),some .bool)] false (gB gN) fun m=>Qs m fun x hok=>kT (s_f237 x.1 x.2.1 hok)
def Oq (_ _:List Int):Bool:=true
def EG (a b:List Int):Bool:=YO a b&&decide (a.length<=100000)
abbrev Qgd:Sh:=⟨[(0,.ty (.sl tI)),(1,.ty (.sl tI)),(5,.ty tI)],[]⟩
def Qo4:Fg:=Qgd.f
def QBH:TC:=aF Tryz.f97 [(58,pL 0 Qo4),(931,.fg FL.f),(1864,pD [(0,[]),(1,[]),(2,[]),(3,[]),(4,[]),(5,[]),(6,[]),(7,[]),(8,[])] (.of [0,1,2,3,4,5,6,7,8])),(7461,.fg Qbf.f)]
def QBI:TC:=lb 0 QBH
def QBJ (x0 x1:List Int)(x5:Int):VS:=Qgd.st (x0,x1,x5,()) ()
def Qo5  : VS:=FL.st () ()
def QPJ:VS->Option (Bool×List (Bool×Exit×VS)):=mkL Qgd (fun x y=>(XE x.1 x.2.1 x.2.2.1)) (fun x y=>[((false),.ret,XF (false)),(true,.exit 0,Qo5)])
def Qo6:G:=gG 26 [] (Ls [QPJ])
def Qge (x0 x1:List Int)(x5:Int):OX:=Qx (QA Qo6 Qo4 QBI) (QBJ x0 x1 x5)
def Qbh (kk:List Int->List Int->Int->OX)(x0 x1:List Int)(x5:Int):OX:=br (ilt x5 (Qc x0)) (br (cIx x0 x5) (br (cIx x1 x5) (br (ine (lgt tI x0 (Int.toNat x5)) (lgt tI x1 (Int.toNat x5))) (some (.ret,XF false)) (kk x0 x1 (Qj .i64 x5 1))) none) none) (some (.exit 0,Qo5))
def Qgf (x0 x1:List Int)(x5:Int):OX:=br (false) (some (.ret,XF (false)))<|some (.exit 0,Qo5)
theorem QBK (x0 x1:List Int)(x5:Int):Qge x0 x1 x5=Qbh Qge x0 x1 x5:=lnT (x:=Qbh (fun x0 x1 x5=>some (.normal,QBJ x0 x1 x5)) x0 x1 x5) (by simp only [Qbh,nxA];rfl)
def r_f97 (p0 p1:List Int):OV:=br (ine (Qc p0) (Qc p1)) (some (.t .bool false,[])) (br (XE p0 p1 (0:Int)) (br (false) (some (.t .bool (false),[])) (some (.t .bool true,[]))) none)
theorem QPK (x0 x1:List Int)(x5:Int)(h:(XE x0 x1 x5)=true):Qge x0 x1 x5=Qgf x0 x1 x5:=by
 obtain ⟨rfl,h2,h3,h4⟩:=Qf6 h
 obtain ⟨k,rfl⟩:=Bl h3
 refine QQ x0 (fun k=>Qge x0 x0 (k:Int)=Qgf x0 x0 (k:Int)) ?_ ?_ k (by omega)
 ·rw [QBK]
  simp only [Qbh,Qgf,Qy,Qc,BN,BM,Qi]
 ·intro k hk ih
  rw [QBK]
  simp only [Qbh,Qy,Qc,QK,hk,Bo,Qf,Bb,QO (show k<4611686018427387904 by omega),WK,Qi,ih,Qgf]
theorem QPL:LO Qo6 Qo4 QBI 0:=QI (s:=Qgd) fun x y h _ q=>by simp only [QG,QH] at q;exact (QPK x.1 x.2.1 x.2.2.1 h).trans q
theorem s_f97 (a b:List Int)(h:EG a b=true):r_f97 a b=some (.t .bool (Oq a b),[]):=by
 obtain ⟨h1,h2⟩:=Bf.1 h
 obtain rfl:=WL h1
 unfold r_f97
 rw [WK,Qi]
 refine brY (Qf7 (BD h2)) rfl
def QBL:Ent:=Qo (.pr (.sl tI) (.pr (.sl tI) .nil)) (fun x=>(EG x.1 x.2.1)) (fun x=>(.t .bool (Oq x.1 x.2.1)))
theorem ms_f97:EM 97 QBL:=mS (lk:=lkL (lkc QPL lkn)) Qo6 QBH [((.t 4),some .bool)] false (gB gN) fun m=>Qs m fun x hok=>kT (s_f97 x.1 x.2.1 hok)
def Qgg (_ _:Certificate):Bool:=true
def Qgh (a b:Certificate):Bool:=YO a b&&decide ((Q0 a).length<=100000)
def QPM:TC:=aF Tryz.f204 []
def g_f204:G:=gG 87 [(237,QBG)] (fun _ _=>none)
def QBM (p0 p1:Certificate):OV:=br (ieq p0.1 p1.1) (br (seq p0.2.1 p1.2.1) (br (seq p0.2.2.1 p1.2.2.1) (br (and (ieq p0.2.2.2.1.1 p1.2.2.2.1.1) (and (ieq p0.2.2.2.1.2.1 p1.2.2.2.1.2.1) true)) (br (ieq p0.2.2.2.2.1 p1.2.2.2.2.1) (br (and (ieq p0.2.2.2.2.2.1.1 p1.2.2.2.2.2.1.1) (and (ieq p0.2.2.2.2.2.1.2.1 p1.2.2.2.2.2.1.2.1) true)) (br (ieq p0.2.2.2.2.2.2.1 p1.2.2.2.2.2.2.1) (br (ieq p0.2.2.2.2.2.2.2.1 p1.2.2.2.2.2.2.2.1) (br (Fu p0.2.2.2.2.2.2.2.2.1 p1.2.2.2.2.2.2.2.2.1) (br (ieq p0.2.2.2.2.2.2.2.2.2.1 p1.2.2.2.2.2.2.2.2.2.1) (br (Qf9 p0.2.2.2.2.2.2.2.2.2.2.1 p1.2.2.2.2.2.2.2.2.2.2.1) (br (Qf8 p0.2.2.2.2.2.2.2.2.2.2.1 p1.2.2.2.2.2.2.2.2.2.2.1) (some (.t .bool (and (ieq p0.2.2.2.2.2.2.2.2.2.2.2.1.1 p1.2.2.2.2.2.2.2.2.2.2.2.1.1) (and (ieq p0.2.2.2.2.2.2.2.2.2.2.2.1.2.1 p1.2.2.2.2.2.2.2.2.2.2.2.1.2.1) true)),[])) (some (.t .bool false,[]))) none) (some (.t .bool false,[]))) (some (.t .bool false,[]))) (some (.t .bool false,[]))) (some (.t .bool false,[]))) (some (.t .bool false,[]))) (some (.t .bool false,[]))) (some (.t .bool false,[]))) (some (.t .bool false,[]))) (some (.t .bool false,[]))) (some (.t .bool false,[]))
theorem s_f204 (a b:Certificate)(h:Qgh a b=true):QBM a b=some (.t .bool (Qgg a b),[]):=by
 obtain ⟨h1,h2⟩:=Bf.1 h
 obtain rfl:=WL h1
 have hq:Qf9 (Q0 a) (Q0 a)=true:=Bf.2 ⟨Wm _,h2⟩
 unfold QBM
 simp only [Qbe,seq_s,QBA,Qf,and,Qf8]
 refine brY hq ?_
 rfl
def QBN:Ent:=Qo (.pr QP (.pr QP .nil)) (fun x=>(Qgh x.1 x.2.1)) (fun x=>(.t .bool (Qgg x.1 x.2.1)))
theorem QPN:EM 204 QBN:=mS g_f204 QPM [((.t 4),some .bool)] false (gB (gD QPI gN)) fun m=>Qs m fun x hok=>kT (s_f204 x.1 x.2.1 hok)
def Qgi (_ _:List Certificate):Bool:=true
def Qgj (a b:List Certificate):Bool:=YO a b&&JJ a
abbrev Qgk:Sh:=⟨[(0,.ty (.sl QP)),(1,.ty (.sl QP)),(5,.ty tI)],[]⟩
def Qo7:Fg:=Qgk.f
def QBO:TC:=aF Tryz.f153 [(58,pL 0 Qo7),(931,.fg FL.f),(1864,pD [(0,[]),(1,[]),(2,[]),(3,[]),(4,[]),(5,[]),(6,[]),(7,[]),(8,[]),(9,[])] (.of [0,1,2,3,4,5,6,7,8,9])),(7461,.fg Qbf.f)]
def QBP:TC:=lb 0 QBO
def QBQ (x0 x1:List Certificate)(x5:Int):VS:=Qgk.st (x0,x1,x5,()) ()
def Qo8  : VS:=FL.st () ()
def QPO:VS->Option (Bool×List (Bool×Exit×VS)):=mkL Qgk (fun x y=>(XE x.1 x.2.1 x.2.2.1&&JJ x.1)) (fun x y=>[((false),.ret,XF (false)),(true,.exit 0,Qo8)])
def Qo9:G:=gG 27 [(204,QBN)] (Ls [QPO])
def Qgl (x0 x1:List Certificate)(x5:Int):OX:=Qx (QA Qo9 Qo7 QBP) (QBQ x0 x1 x5)
def Qbi (kk:List Certificate->List Certificate->Int->OX)(x0 x1:List Certificate)(x5:Int):OX:=
 let a1:=lgt QP x0 (Int.toNat x5)
 let a2:=lgt QP x1 (Int.toNat x5)
 br (ilt x5 (Qc x0)) (br (cIx x0 x5) (br (cIx x1 x5) (br (Qgh a1 a2) (br (!(Qgg a1 a2)) (some (.ret,XF false)) (kk x0 x1 (Qj .i64 x5 1))) none) none) none) (some (.exit 0,Qo8))
def Qgm (x0 x1:List Certificate)(x5:Int):OX:=br (false) (some (.ret,XF (false)))<|some (.exit 0,Qo8)
theorem QBR (x0 x1:List Certificate)(x5:Int):Qgl x0 x1 x5=Qbi Qgl x0 x1 x5:=lnT (x:=Qbi (fun x0 x1 x5=>some (.normal,QBQ x0 x1 x5)) x0 x1 x5) (by simp only [Qbi,nxA];rfl)
def QBS (p0 p1:List Certificate):OV:=br (ine (Qc p0) (Qc p1)) (some (.t .bool false,[])) (br (XE p0 p1 (0:Int)&&JJ p0) (br (false) (some (.t .bool (false),[])) (some (.t .bool true,[]))) none)
theorem QPP (x0 x1:List Certificate)(x5:Int)(h:(XE x0 x1 x5&&JJ x0)=true):Qgl x0 x1 x5=Qgm x0 x1 x5:=by
 obtain ⟨h,hc⟩:=Bf.1 h
 obtain ⟨rfl,h2,h3,h4⟩:=Qf6 h
 obtain ⟨k,rfl⟩:=Bl h3
 refine QQ x0 (fun k=>Qgl x0 x0 (k:Int)=Qgm x0 x0 (k:Int)) ?_ ?_ k (by omega)
 ·rw [QBR]
  simp only [Qbi,Qgm,Qy,Qc,BN,BM,Qi]
 ·intro k hk ih
  rw [QBR]
  have hq:Qgh x0[k] x0[k]=true:=Bf.2 ⟨Wm _,Be (QcJ (QjN hc hk))⟩
  simp only [Qbi,Qy,Qc,QK,hk,Bo,Qf,Bb,QO (show k<4611686018427387904 by omega),QL (y:=QP) hk,hq,Qgg,BF,Qi,ih,Qgm]
theorem QPQ:LO Qo9 Qo7 QBP 0:=QI (s:=Qgk) fun x y h _ q=>by simp only [QG,QH] at q;exact (QPP x.1 x.2.1 x.2.2.1 h).trans q
theorem s_f153 (a b:List Certificate)(h:Qgj a b=true):QBS a b=some (.t .bool (Qgi a b),[]):=by
 obtain ⟨h1,h2⟩:=Bf.1 h
 obtain rfl:=WL h1
 unfold QBS
 rw [WK,Qi]
 refine brY ?_ rfl
 rw [h2,Qf7 (QcQ h2)]
 rfl
def QBT:Ent:=Qo (.pr (.sl QP) (.pr (.sl QP) .nil)) (fun x=>(Qgj x.1 x.2.1)) (fun x=>(.t .bool (Qgi x.1 x.2.1)))
theorem QPR:EM 153 QBT:=mS (lk:=lkL (lkc QPQ lkn)) Qo9 QBO [((.t 4),some .bool)] false (gB (gD QPN gN)) fun m=>Qs m fun x hok=>kT (s_f153 x.1 x.2.1 hok)
def Qgn (_ _:List Identity):Bool:=true
def Qgo (a b:List Identity):Bool:=YO a b&&(decide (a.length<=100000)&&a.all J0)
abbrev Qgp:Sh:=⟨[(0,.ty (.sl QX)),(1,.ty (.sl QX)),(5,.ty tI)],[]⟩
def Qpa:Fg:=Qgp.f
def QBU:TC:=aF Tryz.f98 [(58,pL 0 Qpa),(931,.fg FL.f),(1864,pD [(0,[]),(1,[]),(2,[]),(3,[]),(4,[]),(5,[]),(6,[]),(7,[]),(8,[]),(9,[]),(10,[]),(11,[]),(12,[]),(13,[]),(14,[]),(15,[]),(16,[]),(17,[]),(18,[]),(19,[]),(20,[]),(21,[]),(22,[]),(23,[]),(24,[]),(25,[]),(26,[]),(27,[]),(28,[]),(29,[]),(30,[]),(31,[]),(32,[]),(33,[]),(34,[]),(35,[]),(36,[]),(37,[])] (.of [0,1,2,3,4,5,6,7,8,9,10,11,12,13,14,15,16,17,18,19,20,21,22,23,24,25,26,27,28,29,30,31,32,33,34,35,36,37])),(7461,.fg Qbf.f)]
def QBV:TC:=lb 0 QBU
def QBW (x0 x1:List Identity)(x5:Int):VS:=Qgp.st (x0,x1,x5,()) ()
def Qpb  : VS:=FL.st () ()
def QPS:VS->Option (Bool×List (Bool×Exit×VS)):=mkL Qgp (fun x y=>(XE x.1 x.2.1 x.2.2.1&&x.1.all J0)) (fun x y=>[((false),.ret,XF (false)),(true,.exit 0,Qpb)])
def Qpc:G:=gG 55 [(153,QBT)] (Ls [QPS])
def Qgq (x0 x1:List Identity)(x5:Int):OX:=Qx (QA Qpc Qpa QBV) (QBW x0 x1 x5)
def Qbj (kk:List Identity->List Identity->Int->OX)(x0 x1:List Identity)(x5:Int):OX:=
 let a1:=lgt QX x0 (Int.toNat x5)
 let a2:=lgt QX x1 (Int.toNat x5)
 br (ilt x5 (Qc x0)) (br (cIx x0 x5) (br (cIx x1 x5) (br (!(and (ieq ((a1.1).1) ((a2.1).1)) (and (ieq (((a1.1).2).1) (((a2.1).2).1)) true))) (some (.ret,XF false)) (br (cIx x0 x5) (br (cIx x1 x5) (br (ine ((a1.2).1) ((a2.2).1)) (some (.ret,XF false)) (br (cIx x0 x5) (br (cIx x1 x5) (br (Qgj (((a1.2).2).1) (((a2.2).2).1)) (br (!(Qgi (((a1.2).2).1) (((a2.2).2).1))) (some (.ret,XF false)) (kk x0 x1 (Qj .i64 x5 1))) none) none) none)) none) none)) none) none) (some (.exit 0,Qpb))
def Qgr (x0 x1:List Identity)(x5:Int):OX:=br (false) (some (.ret,XF (false)))<|some (.exit 0,Qpb)
theorem QBX (x0 x1:List Identity)(x5:Int):Qgq x0 x1 x5=Qbj Qgq x0 x1 x5:=lnT (x:=Qbj (fun x0 x1 x5=>some (.normal,QBW x0 x1 x5)) x0 x1 x5) (by simp only [Qbj,nxA];rfl)
def r_f98 (p0 p1:List Identity):OV:=br (ine (Qc p0) (Qc p1)) (some (.t .bool false,[])) (br (XE p0 p1 (0:Int)&&p0.all J0) (br (false) (some (.t .bool (false),[])) (some (.t .bool true,[]))) none)
theorem QPT (x0 x1:List Identity)(x5:Int)(h:(XE x0 x1 x5&&x0.all J0)=true):Qgq x0 x1 x5=Qgr x0 x1 x5:=by
 obtain ⟨h,hc⟩:=Bf.1 h
 obtain ⟨rfl,h2,h3,h4⟩:=Qf6 h
 obtain ⟨k,rfl⟩:=Bl h3
 refine QQ x0 (fun k=>Qgq x0 x0 (k:Int)=Qgr x0 x0 (k:Int)) ?_ ?_ k (by omega)
 ·rw [QBX]
  simp only [Qbj,Qgr,Qy,Qc,BN,BM,Qi]
 ·intro k hk ih
  rw [QBX]
  have hq:Qgj x0[k].2.2.1 x0[k].2.2.1=true:=Bf.2 ⟨Wm _,Bi.1 hc _ (Bw hk)⟩
  simp only [Qbj,Qy,Qc,QK,hk,Bo,Qf,Bb,QO (show k<4611686018427387904 by omega),QL (y:=QX) hk,hq,Qgi,Qbe,WK,and,BF,Qi,ih,Qgr]
theorem QPU:LO Qpc Qpa QBV 0:=QI (s:=Qgp) fun x y h _ q=>by simp only [QG,QH] at q;exact (QPT x.1 x.2.1 x.2.2.1 h).trans q
theorem s_f98 (a b:List Identity)(h:Qgo a b=true):r_f98 a b=some (.t .bool (Qgn a b),[]):=by
 obtain ⟨h1,h2⟩:=Bf.1 h
 obtain rfl:=WL h1
 obtain ⟨h2,h3⟩:=Bf.1 h2
 unfold r_f98
 rw [WK,Qi]
 refine brY ?_ rfl
 rw [h3,Qf7 (BD h2)]
 rfl
def QBY:Ent:=Qo (.pr (.sl QX) (.pr (.sl QX) .nil)) (fun x=>(Qgo x.1 x.2.1)) (fun x=>(.t .bool (Qgn x.1 x.2.1)))
theorem ms_f98:EM 98 QBY:=mS (lk:=lkL (lkc QPU lkn)) Qpc QBU [((.t 4),some .bool)] false (gB (gD QPR gN)) fun m=>Qs m fun x hok=>kT (s_f98 x.1 x.2.1 hok)
def Qgs (_ _:Endpoint):Bool:=true
def Qgt (a b:Endpoint):Bool:=YO a b&&Jd a
def tc_f56:TC:=aF Tryz.f56 []
def g_f56:G:=gG 66 [(97,QBL),(98,QBY)] (fun _ _=>none)
def r_f56 (p0 p1:Endpoint):OV:=br (seq p0.1 p1.1) (br (ieq p0.2.1 p1.2.1) (br (ieq p0.2.2.1 p1.2.2.1) (br (EG p0.2.2.2.1 p1.2.2.2.1) (br (Oq p0.2.2.2.1 p1.2.2.2.1) (br (Fu p0.2.2.2.2.1 p1.2.2.2.2.1) (br (Qgo p0.2.2.2.2.2.1 p1.2.2.2.2.2.1) (br (Qgn p0.2.2.2.2.2.1 p1.2.2.2.2.2.1) (br (EG p0.2.2.2.2.2.2.1 p1.2.2.2.2.2.2.1) (br (Oq p0.2.2.2.2.2.2.1 p1.2.2.2.2.2.2.1) (br (EG p0.2.2.2.2.2.2.2.1 p1.2.2.2.2.2.2.2.1) (br (Oq p0.2.2.2.2.2.2.2.1 p1.2.2.2.2.2.2.2.1) (some (.t .bool (Fu p0.2.2.2.2.2.2.2.2.1 p1.2.2.2.2.2.2.2.2.1),[])) (some (.t .bool false,[]))) none) (some (.t .bool false,[]))) none) (some (.t .bool false,[]))) none) (some (.t .bool false,[]))) (some (.t .bool false,[]))) none) (some (.t .bool false,[]))) (some (.t .bool false,[]))) (some (.t .bool false,[]))
theorem s_f56 (a b:Endpoint)(h:Qgt a b=true):r_f56 a b=some (.t .bool (Qgs a b),[]):=by
 obtain ⟨h1,h2⟩:=Bf.1 h
 obtain rfl:=WL h1
 simp only [Jd,Bc,Ba] at h2
 obtain ⟨⟨_,g1,g2,g3,g4⟩,g5⟩:=h2
 have hI: ∀ {l:List Int},l.length<=100000->EG l l=true:=fun h=>Bf.2 ⟨Wm _,Be h⟩
 have hq:Qgo (Jl a) (Jl a)=true:=Bf.2 ⟨Wm _,Bf.2 ⟨Be g2,g5⟩⟩
 unfold r_f56
 simp only [Qbe,seq_s,QBA,Qf,Oq,Qgn,EG,Wm,Bu]
 refine brY (Be g1) (brY hq (brY (Be g3) (brY (Be g4) rfl)))
def QBZ:Ent:=Qo (.pr QC (.pr QC .nil)) (fun x=>(Qgt x.1 x.2.1)) (fun x=>(.t .bool (Qgs x.1 x.2.1)))
theorem ms_f56:EM 56 QBZ:=mS g_f56 tc_f56 [((.t 4),some .bool)] false (gB (gD ms_f97 (gD ms_f98 gN))) fun m=>Qs m fun x hok=>kT (s_f56 x.1 x.2.1 hok)
end
end Go.Proofs.YthlcobdnemhcdaaGreat.K
noncomputable section
namespace Go.Proofs.YthlcobdnemhcdaaGreat.K
open Go.RowKit
noncomputable section
def Qjh (_ _:Item):Bool:=true
def Qji (a b:Item):Bool:=YO a b&&XC a
abbrev Qjj:Sh:=⟨[(2,.ptr 2 0),(3,.ptr 3 0),(43,.ty tI),(44,.ty tI)],[(2,.box Qp),(3,.box Qp)]⟩
abbrev Qcx:Sh:=⟨[(4,.ty .bool)],[]⟩
abbrev Qjk:Sh:=⟨[],[]⟩
def Qsn:Fg:=Qjj.f
def QHq:TC:=aF Tryz.f57 [(58,pL 0 Qsn),(933,.fg Qjk.f),(7474,pD [(0,[2]),(1,[2]),(2,[]),(3,[]),(4,[]),(5,[3]),(6,[3]),(7,[]),(8,[]),(9,[]),(10,[])] (.of [0,1,2,3,4,5,6,7,8,9,10])),(29901,.fg Qcx.f)]
def QHr:TC:=lb 0 QHq
def QHs (x43 x44:Int)(y2 y3:Item):VS:=Qjj.st ((),(),x43,x44,()) (y2,y3,())
def W0 (x4:Bool):VS:=Qcx.st (x4,()) ()
def Qso  : VS:=Qjk.st () ()
def QVG:VS->Option (Bool×List (Bool×Exit×VS)):=mkL Qjj (fun x y=>(YO y.1 y.2.1&&decide (x.2.2.1=y.1.2.2.2.1.length/\0<=x.2.2.2.1/\x.2.2.2.1<=x.2.2.1/\x.2.2.1<=1000))) (fun x y=>[((false),.ret,W0 (false)),(true,.exit 0,Qso)])
def Qsp:G:=gG 59 [] (Ls [QVG])
def Qjl (x43 x44:Int)(y2 y3:Item):OX:=Qx (QA Qsp Qsn QHr) (QHs x43 x44 y2 y3)
def Qcy (kk:Int->Int->Item->Item->OX)(x43 x44:Int)(y2 y3:Item):OX:=
 let a1:=lgt Q2 y2.2.2.2.1 (Int.toNat x44)
 let a2:=lgt Q2 y3.2.2.2.1 (Int.toNat x44)
 br (ilt x44 x43) (br (cIx y2.2.2.2.1 x44) (br (cIx y3.2.2.2.1 x44) (br (!(and (ieq ((a1.1).1) ((a2.1).1)) (and (ieq (((a1.1).2).1) (((a2.1).2).1)) (and (ieq ((a1.2).1) ((a2.2).1)) true)))) (some (.ret,W0 false)) (kk x43 (Qj .i64 x44 1) y2 y3)) none) none) (some (.exit 0,Qso))
def Qjm (x43 x44:Int)(y2 y3:Item):OX:=br (false) (some (.ret,W0 (false)))<|some (.exit 0,Qso)
theorem QHt (x43 x44:Int)(y2 y3:Item):Qjl x43 x44 y2 y3=Qcy Qjl x43 x44 y2 y3:=lnT (x:=Qcy (fun x43 x44 y2 y3=>some (.normal,QHs x43 x44 y2 y3)) x43 x44 y2 y3) (by simp only [Qcy,nxA];rfl)
def r_f57 (p0 p1:Item):OV:=
 let a1:=Qc p0.2.2.2.1
 br (sne p0.1 p1.1) (some (.t .bool false,[])) (br (ine p0.2.1 p1.2.1) (some (.t .bool false,[])) (br (ine p0.2.2.1 p1.2.2.1) (some (.t .bool false,[])) (br (ine p0.2.2.2.2.1 p1.2.2.2.2.1) (some (.t .bool false,[])) (br (ine a1 (Qc p1.2.2.2.1)) (some (.t .bool false,[])) (br (YO p0 p1&&decide (a1=p0.2.2.2.1.length/\0<=(0:Int)/\(0:Int)<=a1/\a1<=1000)) (br (false) (some (.t .bool (false),[])) (some (.t .bool true,[]))) none)))))
theorem QVH (x43 x44:Int)(y2 y3:Item)(h:(YO y2 y3&&decide (x43=y2.2.2.2.1.length/\0<=x44/\x44<=x43/\x43<=1000))=true):Qjl x43 x44 y2 y3=Qjm x43 x44 y2 y3:=by
 obtain ⟨h,hc⟩:=Bf.1 h
 obtain rfl:=WL h
 obtain ⟨rfl,h2,h3,h4⟩:=BD hc
 obtain ⟨k,rfl⟩:=Bl h2
 refine QQ y2.2.2.2.1 (fun k=>Qjl (y2.2.2.2.1.length:Int) (k:Int) y2 y2=Qjm (y2.2.2.2.1.length:Int) (k:Int) y2 y2) ?_ ?_ k (by omega)
 ·rw [QHt]
  simp only [Qcy,Qjm,Qy,Qc,BN,BM,Qi]
 ·intro k hk ih
  rw [QHt]
  simp only [Qcy,Qy,Qc,QK,hk,Bo,Qf,Bb,QO (show k<4611686018427387904 by omega),QL (y:=Q2) hk,Qbe,and,BF,Qi,ih,Qjm]
theorem QVI:LO Qsp Qsn QHr 0:=QI (s:=Qjj) fun x y h _ q=>by simp only [QG,QH] at q;exact (QVH x.2.2.1 x.2.2.2.1 y.1 y.2.1 h).trans q
theorem s_f57 (a b:Item)(h:Qji a b=true):r_f57 a b=some (.t .bool (Qjh a b),[]):=by
 obtain ⟨h1,h2⟩:=Bf.1 h
 obtain rfl:=WL h1
 have h2:a.2.2.2.1.length<=1000:=BD h2
 unfold r_f57
 simp only [WK,sne_s,Qi]
 refine brY ?_ rfl
 rw [Wm,Bu]
 refine Be ?_
 simp [Qc]
 omega
def QHu:Ent:=Qo (.pr Qp (.pr Qp .nil)) (fun x=>(Qji x.1 x.2.1)) (fun x=>(.t .bool (Qjh x.1 x.2.1)))
theorem ms_f57:EM 57 QHu:=mS (lk:=lkL (lkc QVI lkn)) Qsp QHq [((.t 4),some .bool)] false (gB gN) fun m=>Qs m fun x hok=>kT (s_f57 x.1 x.2.1 hok)
def Vb (_ _:Estate):Bool:=true
def Qcz (a b:Estate):Bool:=YO a b&&JE a
def Qsq (n i:Int)(a b:Estate):Bool:=YO a b&&((JN a).all Jd&&decide (n=(JN a).length/\0<=i/\i<=n/\n<=100000))
def Qsr (n i:Int)(a b:Estate):Bool:=YO a b&&decide (n=(ZR a).length/\0<=i/\i<=n/\n<=100000)
def Qss (n i:Int)(a b:Estate):Bool:=YO a b&&((Je a).all XC&&decide (n=(Je a).length/\0<=i/\i<=n/\n<=100000))
abbrev Qjn:Sh:=⟨[(2,.ptr 2 0),(3,.ptr 3 0),(35,.ty tI),(36,.ty tI)],[(2,.box Qm),(3,.box Qm)]⟩
abbrev Qst:Sh:=⟨[(2,.ptr 2 0),(3,.ptr 3 0)],[(2,.box Qm),(3,.box Qm)]⟩
abbrev Qjo:Sh:=⟨[(2,.ptr 2 0),(3,.ptr 3 0),(54,.ty tI),(55,.ty tI)],[(2,.box Qm),(3,.box Qm)]⟩
abbrev Qjp:Sh:=⟨[(2,.ptr 2 0),(3,.ptr 3 0),(72,.ty tI),(73,.ty tI)],[(2,.box Qm),(3,.box Qm)]⟩
def Qsu:Fg:=Qjn.f
def Qsv:Fg:=Qjo.f
def Qsw:Fg:=Qjp.f
def Qjq:TC:=aF Tryz.f14 [(58,pL 0 Qsu),(933,.fg Qst.f),(7474,pD [(0,[2]),(1,[2]),(2,[]),(3,[]),(4,[]),(5,[3]),(6,[3]),(7,[]),(8,[]),(9,[]),(10,[]),(11,[])] (.of [0,1,2,3,4,5,6,7,8,9,10,11])),(29901,.fg Qcx.f),(122,pL 1 Qsv),(1957,.fg Qst.f),(15666,pD [(0,[2]),(1,[2]),(2,[]),(3,[]),(4,[]),(5,[3]),(6,[3]),(7,[]),(8,[]),(9,[]),(10,[])] (.of [0,1,2,3,4,5,6,7,8,9,10])),(62669,.fg Qcx.f),(250,pL 2 Qsw),(4005,.fg Qjk.f),(32050,pD [(0,[2]),(1,[2]),(2,[]),(3,[]),(4,[]),(5,[3]),(6,[3]),(7,[]),(8,[]),(9,[]),(10,[]),(11,[])] (.of [0,1,2,3,4,5,6,7,8,9,10,11])),(128205,.fg Qcx.f)]
def QHv:TC:=lb 0 Qjq
def QHw:TC:=lb 1 Qjq
def QHx:TC:=lb 2 Qjq
def QHy (x35 x36:Int)(y2 y3:Estate):VS:=Qjn.st ((),(),x35,x36,()) (y2,y3,())
def Vc (y2 y3:Estate):VS:=Qst.st ((),(),()) (y2,y3,())
def QHz (x54 x55:Int)(y2 y3:Estate):VS:=Qjo.st ((),(),x54,x55,()) (y2,y3,())
def QHA (x72 x73:Int)(y2 y3:Estate):VS:=Qjp.st ((),(),x72,x73,()) (y2,y3,())
def Qsx  : VS:=Qjk.st () ()
def QVJ:VS->Option (Bool×List (Bool×Exit×VS)):=mkL Qjn (fun x y=>(Qsq x.2.2.1 x.2.2.2.1 y.1 y.2.1)) (fun x y=>[((false),.ret,W0 (false)),(true,.exit 0,Vc (y.1) (y.2.1))])
def QVK:VS->Option (Bool×List (Bool×Exit×VS)):=mkL Qjo (fun x y=>(Qsr x.2.2.1 x.2.2.2.1 y.1 y.2.1)) (fun x y=>[((false),.ret,W0 (false)),(true,.exit 2,Vc (y.1) (y.2.1))])
def QVL:VS->Option (Bool×List (Bool×Exit×VS)):=mkL Qjp (fun x y=>(Qss x.2.2.1 x.2.2.2.1 y.1 y.2.1)) (fun x y=>[((false),.ret,W0 (false)),(true,.exit 4,Qsx)])
def E8:G:=gG 89 [(56,QBZ),(57,QHu)] (Ls [QVJ,QVK,QVL])
def Qjr (x35 x36:Int)(y2 y3:Estate):OX:=Qx (QA E8 Qsu QHv) (QHy x35 x36 y2 y3)
def QcA (kk:Int->Int->Estate->Estate->OX)(x35 x36:Int)(y2 y3:Estate):OX:=
 let a1:=Int.toNat x36
 let a2:=lgt QC y2.1 a1
 let a3:=lgt QC y3.1 a1
 br (ilt x36 x35) (br (cIx y2.1 x36) (br (cIx y3.1 x36) (br (Qgt a2 a3) (br (!(Qgs a2 a3)) (some (.ret,W0 false)) (kk x35 (Qj .i64 x36 1) y2 y3)) none) none) none) (some (.exit 0,Vc y2 y3))
def Qjs (x35 x36:Int)(y2 y3:Estate):OX:=br (false) (some (.ret,W0 (false)))<|some (.exit 0,Vc (y2) (y3))
theorem QHB (x35 x36:Int)(y2 y3:Estate):Qjr x35 x36 y2 y3=QcA Qjr x35 x36 y2 y3:=lnT (x:=QcA (fun x35 x36 y2 y3=>some (.normal,QHy x35 x36 y2 y3)) x35 x36 y2 y3) (by simp only [QcA,nxA];rfl)
def Qjt (x54 x55:Int)(y2 y3:Estate):OX:=Qx (QA E8 Qsv QHw) (QHz x54 x55 y2 y3)
def QcB (kk:Int->Int->Estate->Estate->OX)(x54 x55:Int)(y2 y3:Estate):OX:=
 let a1:=Int.toNat x55
 br (ilt x55 x54) (br (cIx y2.2.1 x55) (br (cIx y3.2.1 x55) (br (!(and (ieq ((lgt Qk y2.2.1 a1).1) ((lgt Qk y3.2.1 a1).1)) (and (ieq (((lgt Qk y2.2.1 a1).2).1) (((lgt Qk y3.2.1 a1).2).1)) true))) (some (.ret,W0 false)) (kk x54 (Qj .i64 x55 1) y2 y3)) none) none) (some (.exit 2,Vc y2 y3))
def Qju (x54 x55:Int)(y2 y3:Estate):OX:=br (false) (some (.ret,W0 (false)))<|some (.exit 2,Vc (y2) (y3))
theorem QHC (x54 x55:Int)(y2 y3:Estate):Qjt x54 x55 y2 y3=QcB Qjt x54 x55 y2 y3:=lnT (x:=QcB (fun x54 x55 y2 y3=>some (.normal,QHz x54 x55 y2 y3)) x54 x55 y2 y3) (by simp only [QcB,nxA];rfl)
def Qjv (x72 x73:Int)(y2 y3:Estate):OX:=Qx (QA E8 Qsw QHx) (QHA x72 x73 y2 y3)
def QcC (kk:Int->Int->Estate->Estate->OX)(x72 x73:Int)(y2 y3:Estate):OX:=
 let a1:=Int.toNat x73
 let a2:=lgt Qp y2.2.2.1 a1
 let a3:=lgt Qp y3.2.2.1 a1
 br (ilt x73 x72) (br (cIx y2.2.2.1 x73) (br (cIx y3.2.2.1 x73) (br (Qji a2 a3) (br (!(Qjh a2 a3)) (some (.ret,W0 false)) (kk x72 (Qj .i64 x73 1) y2 y3)) none) none) none) (some (.exit 4,Qsx))
def Qjw (x72 x73:Int)(y2 y3:Estate):OX:=br (false) (some (.ret,W0 (false)))<|some (.exit 4,Qsx)
theorem QHD (x72 x73:Int)(y2 y3:Estate):Qjv x72 x73 y2 y3=QcC Qjv x72 x73 y2 y3:=lnT (x:=QcC (fun x72 x73 y2 y3=>some (.normal,QHA x72 x73 y2 y3)) x72 x73 y2 y3) (by simp only [QcC,nxA];rfl)
def r_f14 (p0 p1:Estate):OV:=br (ine (Qc p0.1) (Qc p1.1)) (some (.t .bool false,[])) (br (ine (Qc p0.2.1) (Qc p1.2.1)) (some (.t .bool false,[])) (br (ine (Qc p0.2.2.1) (Qc p1.2.2.1)) (some (.t .bool false,[])) (br (Qsq (Qc p0.1) (0:Int) p0 p1) (br (false) (some (.t .bool (false),[])) (br (Qsr (Qc (((p0).2).1)) (0:Int) (p0) (p1)) (br (false) (some (.t .bool (false),[])) (br (Qss (Qc ((((p0).2).2).1)) (0:Int) (p0) (p1)) (br (false) (some (.t .bool (false),[])) (some (.t .bool true,[]))) none)) none)) none)))
theorem QVM (x35 x36:Int)(y2 y3:Estate)(h:(Qsq x35 x36 y2 y3)=true):Qjr x35 x36 y2 y3=Qjs x35 x36 y2 y3:=by
 obtain ⟨h,hc⟩:=Bf.1 h
 obtain rfl:=WL h
 obtain ⟨ha,hn⟩:=Bf.1 hc
 obtain ⟨rfl,h2,h3,h4⟩:=BD hn
 obtain ⟨k,rfl⟩:=Bl h2
 refine QQ (JN y2) (fun k=>Qjr ((JN y2).length:Int) (k:Int) y2 y2=Qjs ((JN y2).length:Int) (k:Int) y2 y2) ?_ ?_ k (by omega)
 ·rw [QHB]
  simp only [QcA,Qjs,Qy,Qc,BN,BM,Qi]
 ·intro k hk ih
  rw [QHB]
  have hk0:k<y2.1.length:=hk
  have hq:Qgt y2.1[k] y2.1[k]=true:=Bf.2 ⟨Wm _,Bi.1 ha _ (Bw hk0)⟩
  simp only [QcA,Qy,Qc,QK,hk,hk0,Bo,Qf,Bb,QO (show k<4611686018427387904 by omega),QL (y:=QC) hk0,hq,Qgs,BF,Qi,ih,Qjs]
theorem QVN (x54 x55:Int)(y2 y3:Estate)(h:(Qsr x54 x55 y2 y3)=true):Qjt x54 x55 y2 y3=Qju x54 x55 y2 y3:=by
 obtain ⟨h,hc⟩:=Bf.1 h
 obtain rfl:=WL h
 obtain ⟨rfl,h2,h3,h4⟩:=BD hc
 obtain ⟨k,rfl⟩:=Bl h2
 refine QQ (ZR y2) (fun k=>Qjt ((ZR y2).length:Int) (k:Int) y2 y2=Qju ((ZR y2).length:Int) (k:Int) y2 y2) ?_ ?_ k (by omega)
 ·rw [QHC]
  simp only [QcB,Qju,Qy,Qc,BN,BM,Qi]
 ·intro k hk ih
  rw [QHC]
  have hk0:k<y2.2.1.length:=hk
  simp only [QcB,Qy,Qc,QK,hk,hk0,Bo,Qf,Bb,QO (show k<4611686018427387904 by omega),QL (y:=Qk) hk0,Qbe,and,BF,Qi,ih,Qju]
theorem QVO (x72 x73:Int)(y2 y3:Estate)(h:(Qss x72 x73 y2 y3)=true):Qjv x72 x73 y2 y3=Qjw x72 x73 y2 y3:=by
 obtain ⟨h,hc⟩:=Bf.1 h
 obtain rfl:=WL h
 obtain ⟨ha,hn⟩:=Bf.1 hc
 obtain ⟨rfl,h2,h3,h4⟩:=BD hn
 obtain ⟨k,rfl⟩:=Bl h2
 refine QQ (Je y2) (fun k=>Qjv ((Je y2).length:Int) (k:Int) y2 y2=Qjw ((Je y2).length:Int) (k:Int) y2 y2) ?_ ?_ k (by omega)
 ·rw [QHD]
  simp only [QcC,Qjw,Qy,Qc,BN,BM,Qi]
 ·intro k hk ih
  rw [QHD]
  have hk0:k<y2.2.2.1.length:=hk
  have hq:Qji y2.2.2.1[k] y2.2.2.1[k]=true:=Bf.2 ⟨Wm _,Bi.1 ha _ (Bw hk0)⟩
  simp only [QcC,Qy,Qc,QK,hk,hk0,Bo,Qf,Bb,QO (show k<4611686018427387904 by omega),QL (y:=Qp) hk0,hq,Qjh,BF,Qi,ih,Qjw]
theorem QVP:LO E8 Qsu QHv 0:=QI (s:=Qjn) fun x y h _ q=>by simp only [QG,QH] at q;exact (QVM x.2.2.1 x.2.2.2.1 y.1 y.2.1 h).trans q
theorem QVQ:LO E8 Qsv QHw 1:=QI (s:=Qjo) fun x y h _ q=>by simp only [QG,QH] at q;exact (QVN x.2.2.1 x.2.2.2.1 y.1 y.2.1 h).trans q
theorem QVR:LO E8 Qsw QHx 2:=QI (s:=Qjp) fun x y h _ q=>by simp only [QG,QH] at q;exact (QVO x.2.2.1 x.2.2.2.1 y.1 y.2.1 h).trans q
theorem s_f14 (a b:Estate)(h:Qcz a b=true):r_f14 a b=some (.t .bool (Vb a b),[]):=by
 obtain ⟨h1,h2⟩:=Bf.1 h
 obtain rfl:=WL h1
 obtain ⟨h2,h3⟩:=Bf.1 h2
 have hi:=F1 (I5 h2)
 simp only [ZC,Bc,Ba] at h2
 obtain ⟨⟨g1,g2⟩,g3,_⟩:=h2
 unfold r_f14
 simp only [WK,Qi]
 refine brY ?_ (brY ?_ (brY ?_ rfl))
 ·refine Bf.2 ⟨Wm _,Bf.2 ⟨g3,Be ⟨rfl,B1 0,Int.natCast_nonneg _, ?_⟩⟩⟩
  show ((JN a).length:Int)<=100000
  omega
 ·refine Bf.2 ⟨Wm _,Be ⟨rfl,B1 0,Int.natCast_nonneg _, ?_⟩⟩
  show ((ZR a).length:Int)<=100000
  omega
 ·refine Bf.2 ⟨Wm _,Bf.2 ⟨h3,Be ⟨rfl,B1 0,Int.natCast_nonneg _, ?_⟩⟩⟩
  show ((Je a).length:Int)<=100000
  omega
def QHE:Ent:=Qo (.pr Qm (.pr Qm .nil)) (fun x=>(Qcz x.1 x.2.1)) (fun x=>(.t .bool (Vb x.1 x.2.1)))
theorem ms_f14:EM 14 QHE:=mS (lk:=lkL (lkc QVP (lkc QVQ (lkc QVR lkn)))) E8 Qjq [((.t 4),some .bool)] false (gB (gD ms_f56 (gD ms_f57 gN))) fun m=>Qs m fun x hok=>kT (s_f14 x.1 x.2.1 hok)
theorem QHF (a:Estate)(h:JE a=true):Qcz a a=true:=Bf.2 ⟨Wm _,h⟩
end
end Go.Proofs.YthlcobdnemhcdaaGreat.K
noncomputable section
namespace Go.Proofs.YthlcobdnemhcdaaGreat.K
open Go.RowKit Go.Conc
theorem rd_to {X:Nat->Nat->Prop}{w:World}{σ:Pl}{y:Ty}{x:y.T}{u:Value}(h:Rd X w y x u):C X w σ (V.t y x).d u:=
 C.ext0 (X:=X) (X':=X) ⟨BB _,fun b q hb hn=>⟨hn,rfl⟩⟩ _ _ (fun k hk=>by rw [show (V.t y x).d=y.d x from rfl,Ty.refs_d] at hk;cases hk) h
theorem QvV {X:Nat->Nat->Prop}{w:World}{σ:Pl}: ∀ {l:List Job} {vs:List Value},Cs X w σ (l.flatMap Jb.cells) vs->vs=cJ l
 | [],vs,h=>by simpa [Cs,cJ] using h
 |x::l,vs,h=>by
  have h:Cs X w σ (D.v (.int .i64 x.1)::D.v (.int .i64 x.2.1.1.1)::D.v (.int .i64 x.2.1.1.2.1)::D.v (.int .i64 x.2.1.2.1)::l.flatMap Jb.cells) vs:=h
  simp only [Cs] at h
  obtain ⟨u0,r0,rfl,c0,u1,r1,rfl,c1,u2,r2,rfl,c2,u3,r3,rfl,c3,h2⟩:=h
  simp only [C] at c0 c1 c2 c3
  rw [QvV h2,c0.1,c1.1,c2.1,c3.1]
  rfl
def Qlq:Ent:=Qo (.pr Qm (.pr QE (.pr (.sl Jb) .nil))) (fun x=>(FB x.1 x.2.1 x.2.2.1)) (fun x=>(.tu [(.t Qm ((Zk x.1 x.2.1 x.2.2.1).1)),(.t tI (((Zk x.1 x.2.1 x.2.2.1).2).1)),(.t tI (((Zk x.1 x.2.1 x.2.2.1).2).2))]))
theorem en_f12:Ja Tryz.prog 12:= .inr ⟨by decide,_,Tryz.func12,by kernel_rfl,by kernel_rfl⟩
theorem ms_f12:Qu Tryz.prog 12 (Qv Qlq):=by
 unfold Qlq
 refine QeK (fun z hok X w σ vs hfin hc=> ?_)
 obtain ⟨e,y,l,u⟩:=z
 have hc:Cs X w σ [(V.t Qm e).d,(V.t QE y).d,(V.t (.sl Jb) l).d] vs:=hc
 simp only [Cs] at hc
 obtain ⟨ev,r0,rfl,c0,pv,r1,rfl,c1,lv,r2,rfl,c2,rfl⟩:=hc
 obtain ⟨a0,a1,a2,rfl,oa0,oa1,oa2⟩:=Qgw c0
 obtain ⟨p0,p1,rfl,op0,op1⟩:=QPY c1
 have c2:C X w σ (D.sl l.length (l.flatMap Jb.cells)) lv:=c2
 simp only [C] at c2
 obtain ⟨A,c,rfl,g1,g2,g3,g4⟩:=c2
 refine (QEh (X0:=X) (l:=l) (n:=l.length) rfl (by simp only [maxLen] at g2;omega) hfin (Qbk c0 (fun _ _ _ h=>h)) (Qbk c1 (fun _ _ _ h=>h)) oa0 oa1 oa2 op0 op1 ?_ hok).mono ?_
 ·intro hp
  obtain ⟨b,off,vs,rfl,k1,k2⟩:=g4 hp
  rw [QvV k1] at k2
  exact ⟨b,off,rfl,k2.lt,fun j v hv=>k2.at_ j v hv⟩
 ·rintro en w' ⟨v,rfl,h1,hb⟩
  refine ⟨_,rfl, ?_,hb⟩
  show C X w' σ (.tu [(V.t Qm (Zk e y l).1).d,.v (.int .i64 (Zk e y l).2.1),.v (.int .i64 (Zk e y l).2.2)]) _
  simp only [C,Cs]
  exact ⟨_,rfl,v,_,rfl,rd_to h1,_,_,rfl,⟨rfl,rfl⟩,_,_,rfl,⟨rfl,rfl⟩,rfl⟩
def zE:Estate:=([],([],([],())))
def zY:Policy:=([],([],()))
def zJ:Job:=(0,(((0,(0,())),(0,())),()))
def zEv:Value:= .agg #[.slice none 0 0,.slice none 0 0,.slice none 0 0]
def zYv:Value:= .agg #[.slice none 0 0,.slice none 0 0]
def zJv:Value:= .agg #[.int .i64 0,.int .i64 0,.int .i64 0,.int .i64 0]
theorem VU {X:Nat->Nat->Prop}{w:World}{σ:Pl}:C X w σ (D.sl 0 []) (.slice none 0 0):=by
 simp only [C]
 exact ⟨none,0,rfl,BB _,Da _,fun _=>trivial,fun h=>absurd h (BN _)⟩
theorem Qlr {X:Nat->Nat->Prop}{w:World}:Rd X w Qm zE zEv:=by
 unfold Rd
 simp only [V.d]
 rw [Ty.d_row Qm _ rfl]
 simp only [C]
 exact ⟨_,rfl,_,_,rfl,VU,_,_,rfl,VU,_,_,rfl,VU,rfl⟩
theorem Qls {X:Nat->Nat->Prop}{w:World}:Rd X w QE zY zYv:=by
 unfold Rd
 simp only [V.d]
 rw [Ty.d_row QE _ rfl]
 simp only [C]
 exact ⟨_,rfl,_,_,rfl,VU,_,_,rfl,VU,rfl⟩
theorem rd_zJ {X:Nat->Nat->Prop}{w:World}:Rd X w Jb zJ zJv:=by
 unfold Rd
 simp only [V.d]
 rw [Ty.d_row Jb _ rfl]
 simp only [C]
 exact ⟨[.int .i64 0,.int .i64 0,.int .i64 0,.int .i64 0],rfl,_,_,rfl,⟨rfl,rfl⟩,_,_,rfl,⟨rfl,rfl⟩,_,_,rfl,⟨rfl,rfl⟩,_,_,rfl,⟨rfl,rfl⟩,rfl⟩
theorem due_0 (w:World):Calls Tryz.prog 19 #[zEv,zYv] w fun en w'=> ∃ A c,en= .returned (.tuple #[.slice A 0 c,.int .i64 0])/\Below w.heap.size w w':=by
 have hF:Qv Qnw [.t Qm zE,.t QE zY] []=some (.tu [.t (.sl tI) [],.t tI 0],[]):=by kernel_rfl
 refine (U5 (by decide) (QyM.2 _ _ _ _ hF (fun _ _=>False) w Q3 [zEv,zYv] (fun _ _ h=>h.elim) QhN ⟨zEv,_,rfl,Qlr,zYv,_,rfl,Qls,rfl⟩)).mono ?_
 rintro en w' ⟨r,X',σ',rfl,h1,h2⟩
 have h1:C X' w' σ' (.tu [(V.t (.sl tI) []).d,.v (.int .i64 0)]) r:=h1
 simp only [C,Cs] at h1
 obtain ⟨vs,rfl,u1,us,rfl,c1,u2,us2,rfl,⟨rfl,_⟩,rfl⟩:=h1
 have c1:C X' w' σ' (D.sl 0 []) u1:=c1
 simp only [C] at c1
 obtain ⟨A,c,rfl,_⟩:=c1
 exact ⟨A,c,rfl,QhO h2⟩
theorem QKH (w:World):Calls Tryz.prog 15 #[zEv,zYv,zJv] w fun en w'=>en= .returned (.int .i64 52)/\Below w.heap.size w w':=by
 have hF:Qv Qnl [.t Qm zE,.t QE zY,.t Jb zJ] []=some (.t tI 52,[]):=by kernel_rfl
 refine (U5 (by decide) (Qyy.2 _ _ _ _ hF (fun _ _=>False) w Q3 [zEv,zYv,zJv] (fun _ _ h=>h.elim) QhN ⟨zEv,_,rfl,Qlr,zYv,_,rfl,Qls,zJv,_,rfl,rd_zJ,rfl⟩)).mono ?_
 rintro en w' ⟨r,X',σ',rfl,h1,h2⟩
 have h1:C X' w' σ' (.v (.int .i64 52)) r:=h1
 simp only [C] at h1
 obtain ⟨rfl,_⟩:=h1
 exact ⟨rfl,QhO h2⟩
def VV:Array Value:=madeCells #[.int .i64 0,.int .i64 0,.int .i64 0,.int .i64 0] 244
def Iz:List Job:=List.replicate 61 zJ
theorem QvW: ∀ n:Nat,cJ (List.replicate n zJ)=List.replicate (n*4) (.int .i64 0)
 |0=>rfl
 |n+1=>by
  rw [List.replicate_succ,show (n+1)*4=n*4+1+1+1+1 by omega]
  show Value.int .i64 0::Value.int .i64 0::Value.int .i64 0::Value.int .i64 0::cJ (List.replicate n zJ)=_
  rw [QvW n]
  rfl
theorem cJ_z {j:Nat}{v:Value}(h:(cJ Iz)[j]? = some v):VV[j]? = some v:=by
 unfold Iz at h
 rw [QvW] at h
 obtain ⟨hj,h⟩:=BJ.1 h
 rw [List.getElem_replicate] at h
 rw [List.length_replicate] at hj
 subst h
 have h4:j % 4=0∨j % 4=1∨j % 4=2∨j % 4=3:=by omega
 have h5:(#[Value.int .i64 0,.int .i64 0,.int .i64 0,.int .i64 0]:Array Value)[j % 4]! = Value.int .i64 0:=by
  rcases h4 with h4|h4|h4|h4<;>rw [h4]<;>rfl
 have hj:j<244:=hj
 have hr:(Array.range 244)[j]? = some j:=by simp [hj]
 unfold VV madeCells
 rw [Array.getElem?_map,hr]
 exact congrArg some h5
theorem QvX:Iz.length=61:=List.length_replicate
theorem make_z (W:World):(Instr.makeSlice 34 (.int .i64 61) (.int .i64 61)).run Tryz.prog W= .ok (.slice (some ⟨W.heap.size,0,none⟩) 61 61) (W.alloc (.cells VV 47)):=by
 have hi:(Tryz.prog.info? 47).map (fun i=>(i.zero,i.size,decide (i.bytes<=1000)))=some (some (.agg #[.int .i64 0,.int .i64 0,.int .i64 0,.int .i64 0]),4,true):=by kernel_rfl
 obtain ⟨inf,hi,hq⟩:=Bj.1 hi
 simp only [Bp,Ba] at hq
 have h:=run_makeSlice (P:=Tryz.prog) (w:=W) 34 47 inf _ (by kernel_rfl) hi hq.1 .i64 .i64 61 61 (by decide) (by decide) (by rw [hq.2.1];decide) (by omega) (by decide)
 rw [hq.2.1] at h
 exact h
theorem all_z:Zk zE zY Iz=(zE,0,3):=by
 unfold Zk
 rw [show igt (Qc Iz) 60=true from Be (by simp only [Qc,QvX];decide)]
 rfl
set_option maxRecDepth 20000 in
theorem QKI (w:World):Calls Tryz.prog 9 #[] w fun en w'=>en= .returned (.bool true)/\Below w.heap.size w w':=by
 refine WN.calls Tryz.func9 rfl ?_
 simp only [Tryz.ntmps9,DA,Br,Bv,Nat.reduceAdd,Nat.reduceSub,Array.replicate_succ,
   Array.replicate_zero,List.push_toArray,List.append_toArray,BV,Dt]
 refine WN.seq (WN.of ?_)
 go_wp2_with fail
 refine WN.seq (WN.of ?_)
 go_wp2_with fail
 refine (due_0 _).mono ?_
 rintro en w1 ⟨A,c,rfl,b1⟩
 go_wp2_with fail
 have hmk:=make_z
 refine WN.seq (WN.of ?_)
 go_wp2_with fail
 refine (QEh (X0:=fun _ _=>False) (l:=Iz) (e:=zE) (y:=zY) QvX (by decide) (fun _ _ h=>h.elim) Qlr Qls rfl rfl rfl rfl rfl (fun _=>⟨_,0,rfl,by rw [World.size_alloc];omega,fun j v hj=> ?_⟩) (by kernel_rfl)).mono ?_
 ·rw [DS]
  exact ((Go.Proofs.YthlcobdnemhcdaaGreat.Blk.new w1 47 VV).cell j).trans (cJ_z hj)
 rintro en w2 ⟨v,rfl,hv,b2⟩
 rw [all_z] at hv ⊢
 obtain ⟨x0,x1,x2,rfl,ox0,ox1,ox2⟩:=Qgw hv
 have sx0:=fun a m W=>run_store Tryz.prog W a x0 m ox0
 have sx1:=fun a m W=>run_store Tryz.prog W a x1 m ox1
 have sx2:=fun a m W=>run_store Tryz.prog W a x2 m ox2
 clear hmk
 go_wp2_with fail
 clear sx0 sx1 sx2
 refine WN.seq (WN.of ?_)
 go_wp2_with fail
 refine (QKH _).mono ?_
 rintro en w3 ⟨rfl,b3⟩
 go_wp2_with fail
 have c1:=b1.alloc b1.size (.cells VV 47)
 have c2:=G0 c1 b2 c1.size
 have c3:=c2.alloc c2.size (.cells #[x0,x1,x2] 29)
 have c4:=G0 c3 b3 c3.size
 refine WN.of ?_
 go_wp2_with fail
 go_ret
 exact ⟨rfl,c4⟩
def Qlt:Bool:=true
def Qlu:Ent:=Qo .nil (fun x=>true) (fun x=>(.t .bool Qlt))
theorem en_f9:Ja Tryz.prog 9:= .inr ⟨by decide,_,Tryz.func9,by kernel_rfl,by kernel_rfl⟩
theorem ms_f9:Qu Tryz.prog 9 (Qv Qlu):=by
 unfold Qlu
 refine QeK (fun z hok X w σ vs hfin hc=> ?_)
 have hc:Cs X w σ [] vs:=hc
 simp only [Cs] at hc
 subst hc
 refine (QKI w).mono ?_
 rintro en w' ⟨rfl,hb⟩
 refine ⟨_,rfl, ?_,hb⟩
 show C X w' σ (.v (.bool true)) _
 simp only [C]
 exact ⟨trivial,rfl⟩
end Go.Proofs.YthlcobdnemhcdaaGreat.K
noncomputable section
namespace Go.Proofs.YthlcobdnemhcdaaGreat.K.SO
open Go.RowKit
noncomputable section
theorem QvH: ∀ (n:Nat) (day:Int) (d:Dice),(Yd n day d).1.length=n
 |0,_,_=>rfl
 |n+1,day,d=>by
  have:=QvH n (Qj .i64 (Qj .i64 day 1) (dof (Qe d 6) [5,30,0,100])) (Ql (Qe d 6) [5,30,0,100])
  simp only [Yd,Br,this]
theorem Qlk (d:Dice)(s:ByteArray):1<=(Ww d s).2.2.2.1.length/\(Ww d s).2.2.2.1.length<=3:=by
 have hv:=Q7 (d:=Qe (Qe (Qe d 2) 4) 20) (n:=3) (by omega)
 have e:(Ww d s).2.2.2.1.length=(Qj .i64 1 (Qh (Qe (Qe (Qe d 2) 4) 20) 3)).toNat:=QvH _ _ _
 rw [e,Jz (by omega)]
 omega
theorem QvI: ∀ (n:Nat) (d:Dice) (i:Item),i∈(itZ n d).1->1<=i.2.2.2.1.length/\i.2.2.2.1.length<=3
 |0,_,i,h=>by cases h
 |n+1,d,i,h=>by
  simp only [itZ,BA] at h
  rcases h with rfl|h
  ·exact Qlk _ _
  ·exact QvI n _ i h
theorem QvJ (n:Nat)(d:Dice):(itZ n d).1.all XC=true:=Bi.2 fun i hi=>Be (by have:=QvI n d i hi;omega)
def QdI:List Keep:=[(3,(0,())),(4,(0,())),(2,(0,())),(17,(256,()))]
def jbD (n:Int)(d:Dice):Job:=(Qh d n,(((lgt Qk QdI (Qh (Qe d n) 4).toNat).1,((lgt Qk QdI (Qh (Qe d n) 4).toNat).2.1,())),(Qh (Qe (Qe d n) 4) 250,())),())
def jbN (n:Int)(d:Dice):Dice:=Qe (Qe (Qe d n) 4) 250
def jbZ (n:Int):Nat->Dice->List Job×Dice
 |0,d=>([],d)
 |k+1,d=>(jbD n d::(jbZ n k (jbN n d)).1,(jbZ n k (jbN n d)).2)
def jD1 (d:Dice):Dice:=Qe (Yf d) 3
def Y2 (d:Dice):List Item×Dice:=itZ (Qj .i64 1 (Qh (Yf d) 3)).toNat (jD1 d)
def jE (d:Dice):Estate:=((JQ d).1,((JQ d).2.1,((Y2 d).1,())))
def jD2 (d:Dice):Dice:=EF (Y2 d).2
def jB (d:Dice):Bool:=ieq (Qh (jD2 d) 2) 0
def jD3 (d:Dice):Dice:=Ql (Ql (Qe (jD2 d) 2) [2,1,5]) [30,60,200]
def jR (d:Dice):Rule:=(false,(dof (Qe (jD2 d) 2) [2,1,5],(0,(0,(dof (Ql (Qe (jD2 d) 2) [2,1,5]) [30,60,200],(40001,()))))))
def jP (d:Dice):Policy:=(bif jB d then (YN (Y2 d).2).1++[jR d] else (YN (Y2 d).2).1,((YN (Y2 d).2).2.1,()))
def jD4 (d:Dice):Dice:=bif jB d then jD3 d else Qe (jD2 d) 2
def jL (d:Dice):List Job×Dice:=jbZ (Qc (Y2 d).1) (Qh (jD4 d) 4).toNat (Qe (jD4 d) 4)
def Ud (d:Dice):Estate×Policy×List Job:=(jE d,jP d,(jL d).1)
def UF (d:Dice):Dice:=(jL d).2
abbrev QdJ:Sh:=⟨[(0,.ptr 50000 0),(2,.ptr 2 0),(3,.ptr 3 0),(5,.ptr 5 0),(6,.ty tI)],[(2,.box Qm),(3,.box QE),(5,.bag [.ms 11,.ty (.sl Qk),.ms 20502]),(11,.arr 111 QC),(28,.no),(31,.no),(45,.no),(5011,.arr 62 Qp),(5031,.no),(10011,.no),(10031,.no),(15011,.no),(15031,.no),(20502,.arr 62 Qp),(50000,.box Qt)]⟩
abbrev QKz:Sh:=⟨[(0,.ptr 50000 0),(2,.ptr 2 0),(3,.ptr 3 0),(5,.ptr 5 0)],[(2,.box Qm),(3,.box QE),(5,.bag [.ms 11,.ty (.sl Qk),.ms 20502]),(11,.arr 111 QC),(28,.no),(31,.no),(45,.no),(5011,.arr 62 Qp),(5031,.no),(10011,.no),(10031,.no),(15011,.no),(15031,.no),(20502,.arr 62 Qp),(50000,.box Qt)]⟩
abbrev QdK:Sh:=⟨[(0,.ptr 50000 0),(2,.ptr 2 0),(3,.ptr 3 0),(5,.ptr 5 0),(7,.ptr 7 0),(8,.ms 8),(9,.ty tI)],[(2,.box Qm),(3,.box QE),(5,.bag [.ty (.sl QC),.ty (.sl Qk),.ms 20502]),(7,.bag [.ms 31,.ty (.sl Qk)]),(8,.arr 47 Jb),(11,.no),(28,.no),(31,.arr 66 Q4),(45,.no),(73,.no),(5011,.no),(5031,.no),(10011,.no),(10031,.no),(15011,.no),(15031,.no),(20502,.arr 62 Qp),(50000,.box Qt)]⟩
abbrev QKA:Sh:=⟨[(2,.ptr 2 0),(3,.ptr 3 0),(5,.ptr 5 0),(7,.ptr 7 0),(8,.ms 8)],[(2,.box Qm),(3,.box QE),(5,.bag [.ty (.sl QC),.ty (.sl Qk),.ms 20502]),(7,.bag [.ms 31,.ty (.sl Qk)]),(8,.arr 47 Jb),(11,.no),(28,.no),(31,.arr 66 Q4),(45,.no),(73,.no),(5011,.no),(5031,.no),(10011,.no),(10031,.no),(15011,.no),(15031,.no),(20502,.arr 62 Qp),(50000,.box Qt)]⟩
def Qll:Fg:=QdJ.f
def Qlm:Fg:=QdK.f
def Qln:TC:=aF Tryz.f10 [(122,.nf 5 2 62 20502),(122,pL 0 Qll),(1955,.fg ⟨[(0,none),(2,none),(3,none),(5,none)],[(2,some Qm),(3,some QE),(5,some Qm),(11,none),(28,none),(31,none),(45,none),(5011,none),(5031,none),(10011,none),(10031,none),(15011,none),(15031,none),(20502,none),(50000,some Qt)]⟩),(1956,pD [(0,[5,11,28,5011,10011,15011,20502]),(1,[5,11,28,5011,10011,15011,20502]),(2,[50000]),(3,[50000]),(4,[]),(5,[25,5025,10025,15025,50000]),(6,[26,5026,10026,15026,50000]),(7,[]),(8,[2,5,11,28,5011,5028,10011,10028,15011,15028,20502]),(9,[5,11,28,5011,10011,15011,20502]),(10,[2,5,11,28,5011,10011,15011,20502])] (.of [0,1,2,3,4,5,6,7,8,9,10])),(506,pD [(0,[7,31,45,5031,10031,15031]),(1,[7,31,45,5031,10031,15031]),(2,[50000]),(3,[]),(4,[39,5039,10039,15039,50000]),(5,[50000]),(6,[]),(7,[42,5042,10042,15042,50000]),(8,[]),(9,[]),(10,[3,7,31,45,5031,5045,10031,10045,15031,15045]),(11,[7,31,45,5031,10031,15031]),(12,[3,7,31,45,5031,10031,15031])] (.of [0,1,2,3,5,6,4,7,8,9,10,11,12])),(2042,.fz [11,5011,5031]),(2042,.nw 8 47),(2042,pL 1 Qlm),(32675,.fg ⟨[(2,none),(3,none),(5,none),(7,none),(8,none)],[(2,some Qm),(3,some QE),(5,some Qm),(7,some QE),(8,none),(11,none),(28,none),(31,none),(45,none),(73,none),(5011,none),(5031,none),(10011,none),(10031,none),(15011,none),(15031,none),(20502,none),(50000,some Qt)]⟩),(32676,pD [(0,[8,73]),(1,[50000]),(2,[5,11,28,5011,10011,15011,20502]),(3,[5,11,28,5011,10011,15011,20502]),(4,[11,28,5011,10011,15011,20502]),(5,[58,5058,10058,15058,50000]),(6,[]),(7,[]),(8,[]),(9,[]),(10,[]),(11,[50000]),(12,[65,5065,10065,15065,50000]),(13,[]),(14,[]),(15,[50000]),(16,[69,5069,10069,15069,50000]),(17,[]),(18,[]),(19,[]),(20,[8,73,5073,10073,15073]),(21,[8,73])] (.of [0,1,2,3,4,6,7,8,9,10,11,15,5,12,13,14,16,17,18,19,20,21])),(1022,pD [(0,[5,11,28,5011,10011,15011,20502]),(1,[7,31,45,5031,10031,15031]),(2,[8,73]),(3,[2,5,11,28,5011,10011,15011,20502]),(4,[3,7,31,45,5031,10031,15031]),(5,[8,73])] (.of [0,1,2,3,4,5]))]
def QvK:TC:=lb 0 Qln
def QvL:TC:=lb 1 Qln
def QvM (x6:Int)(y2:Estate)(y3:Policy)(y5_1:List Keep)(y11:List Endpoint)(Z0 QW:List Item)(Qa:Dice):VS:=QdJ.st ((),(),(),(),x6,()) (y2,y3,((),y5_1,(),()),y11,(),(),(),Z0,(),(),(),(),(),QW,Qa,())
def Qlo (y2:Estate)(y3:Policy)(y5_1:List Keep)(y11:List Endpoint)(Z0 QW:List Item)(Qa:Dice):VS:=QKz.st ((),(),(),(),()) (y2,y3,((),y5_1,(),()),y11,(),(),(),Z0,(),(),(),(),(),QW,Qa,())
def QvN (x9:Int)(y2:Estate)(y3:Policy)(y5_0:List Endpoint)(y5_1 y7_1:List Keep)(y8:List Job)(y31:List Rule)(QW:List Item)(Qa:Dice):VS:=QdK.st ((),(),(),(),(),(),x9,()) (y2,y3,(y5_0,y5_1,(),()),((),y7_1,()),y8,(),(),y31,(),(),(),(),(),(),(),(),QW,Qa,())
def Qlp (y2:Estate)(y3:Policy)(y5_0:List Endpoint)(y5_1 y7_1:List Keep)(y8:List Job)(y31:List Rule)(QW:List Item)(Qa:Dice):VS:=QKA.st ((),(),(),(),(),()) (y2,y3,(y5_0,y5_1,(),()),((),y7_1,()),y8,(),(),y31,(),(),(),(),(),(),(),(),QW,Qa,())
def QKB:VS->Option (Bool×List (Bool×Exit×VS)):=mkL QdJ (fun x y=>(dOk y.2.2.2.2.2.2.2.2.2.2.2.2.2.2.1&&decide (0<=x.2.2.2.2.1/\x.2.2.2.2.1<=3/\y.2.2.2.2.2.2.2.2.2.2.2.2.2.1.length+x.2.2.2.2.1.toNat<=100))) (fun x y=>[(true,.exit 0,Qlo (y.1) (y.2.1) (y.2.2.1.2.1) (y.2.2.2.1) (y.2.2.2.2.2.2.2.1) (y.2.2.2.2.2.2.2.2.2.2.2.2.2.1++(itZ x.2.2.2.2.1.toNat y.2.2.2.2.2.2.2.2.2.2.2.2.2.2.1).1) ((itZ x.2.2.2.2.1.toNat y.2.2.2.2.2.2.2.2.2.2.2.2.2.2.1).2))])
def QKC:VS->Option (Bool×List (Bool×Exit×VS)):=mkL QdK (fun x y=>(dOk y.2.2.2.2.2.2.2.2.2.2.2.2.2.2.2.2.2.1&&decide (1<=y.2.2.2.2.2.2.2.2.2.2.2.2.2.2.2.2.1.length/\y.2.2.2.2.2.2.2.2.2.2.2.2.2.2.2.2.1.length<=100/\0<=x.2.2.2.2.2.2.1/\x.2.2.2.2.2.2.1<=3/\y.2.2.2.2.1.length+x.2.2.2.2.2.2.1.toNat<=100))) (fun x y=>[(true,.exit 2,Qlp (y.1) (y.2.1) (y.2.2.1.1) (y.2.2.1.2.1) (y.2.2.2.1.2.1) (y.2.2.2.2.1++(jbZ (Qc y.2.2.2.2.2.2.2.2.2.2.2.2.2.2.2.2.1) x.2.2.2.2.2.2.1.toNat y.2.2.2.2.2.2.2.2.2.2.2.2.2.2.2.2.2.1).1) (y.2.2.2.2.2.2.2.1) (y.2.2.2.2.2.2.2.2.2.2.2.2.2.2.2.2.1) ((jbZ (Qc y.2.2.2.2.2.2.2.2.2.2.2.2.2.2.2.2.1) x.2.2.2.2.2.2.1.toNat y.2.2.2.2.2.2.2.2.2.2.2.2.2.2.2.2.2.1).2))])
def VQ:G:=gG 77 [(31,Qwc),(32,Xl),(47,Qfz),(48,VC),(49,QbT),(50,WZ)] (Ls [QKB,QKC])
def QdL (x6:Int)(y2:Estate)(y3:Policy)(y5_1:List Keep)(y11:List Endpoint)(Z0 QW:List Item)(Qa:Dice):OX:=Qx (QA VQ Qll QvK) (QvM x6 y2 y3 y5_1 y11 Z0 QW Qa)
def VR (kk:Int->Estate->Policy->List Keep->List Endpoint->List Item->List Item->Dice->OX)(x6:Int)(y2:Estate)(y3:Policy)(y5_1:List Keep)(y11:List Endpoint)(Z0 QW:List Item)(Qa:Dice):OX:=
 let a2:=(ByteArray.mk #[98,97,99,107,117,112])
 let a3:=(ByteArray.mk #[100,101,101,100])
 let a5:=(YQ Qa ([a2,a3]))
 let a6:=(ZA Qa ([a2,a3]))
 let a1:=Ww a5 a6
 let a4:=((a1.2).1,(((a1.2).2).1,((((a1.2).2).2).1,(((((a1.2).2).2).2).1,()))))
 br (igt x6 0) (br (YR Qa ([a2,a3])) (br (Ub a5 a6) (br (Qq QW ([(a1.1,a4)]) 64) (kk (Qw .i64 x6 1) y2 y3 y5_1 y11 Z0 (QW++([(a1.1,a4)])) (Ua a5 a6)) none) none) none) (some (.exit 0,Qlo y2 y3 y5_1 y11 Z0 QW Qa))
def QdM (x6:Int)(y2:Estate)(y3:Policy)(y5_1:List Keep)(y11:List Endpoint)(Z0 QW:List Item)(Qa:Dice):OX:=some (.exit 0,Qlo (y2) (y3) (y5_1) (y11) (Z0) (QW++(itZ x6.toNat Qa).1) ((itZ x6.toNat Qa).2))
theorem QvO (x6:Int)(y2:Estate)(y3:Policy)(y5_1:List Keep)(y11:List Endpoint)(Z0 QW:List Item)(Qa:Dice):QdL x6 y2 y3 y5_1 y11 Z0 QW Qa=VR QdL x6 y2 y3 y5_1 y11 Z0 QW Qa:=lnT (x:=VR (fun x6 y2 y3 y5_1 y11 Z0 QW Qa=>some (.normal,QvM x6 y2 y3 y5_1 y11 Z0 QW Qa)) x6 y2 y3 y5_1 y11 Z0 QW Qa) (by simp only [VR,nxA];rfl)
def QdN (x9:Int)(y2:Estate)(y3:Policy)(y5_0:List Endpoint)(y5_1 y7_1:List Keep)(y8:List Job)(y31:List Rule)(QW:List Item)(Qa:Dice):OX:=Qx (QA VQ Qlm QvL) (QvN x9 y2 y3 y5_0 y5_1 y7_1 y8 y31 QW Qa)
def VT (kk:Int->Estate->Policy->List Endpoint->List Keep->List Keep->List Job->List Rule->List Item->Dice->OX)(x9:Int)(y2:Estate)(y3:Policy)(y5_0:List Endpoint)(y5_1 y7_1:List Keep)(y8:List Job)(y31:List Rule)(QW:List Item)(Qa:Dice):OX:=
 let a2:=Qe Qa (Qc QW)
 let a1:=(lgt Qk ([(3,(0,())),(4,(0,())),(2,(0,())),(17,(256,()))]) (Int.toNat (Qh a2 4)))
 let a3:=((Qh Qa (Qc QW)),(((a1.1,((a1.2).1,())),((Qh (Qe a2 4) 250),())),()))
 br (igt x9 0) (br (Qz Qa (Qc QW)) (br (Qz a2 4) (br (cIx ([(3,(0,())),(4,(0,())),(2,(0,())),(17,(256,()))]) (Qh a2 4)) (br (Qz (Qe a2 4) 250) (br (Qq y8 ([a3]) 32) (kk (Qw .i64 x9 1) y2 y3 y5_0 y5_1 y7_1 (y8++([a3])) y31 QW (Qe (Qe a2 4) 250)) none) none) none) none) none) (some (.exit 2,Qlp y2 y3 y5_0 y5_1 y7_1 y8 y31 QW Qa))
def QdO (x9:Int)(y2:Estate)(y3:Policy)(y5_0:List Endpoint)(y5_1 y7_1:List Keep)(y8:List Job)(y31:List Rule)(QW:List Item)(Qa:Dice):OX:=
 let a1:=jbZ (Qc QW) x9.toNat Qa
 some (.exit 2,Qlp (y2) (y3) (y5_0) (y5_1) (y7_1) (y8++a1.1) (y31) (QW) (a1.2))
theorem QvP (x9:Int)(y2:Estate)(y3:Policy)(y5_0:List Endpoint)(y5_1 y7_1:List Keep)(y8:List Job)(y31:List Rule)(QW:List Item)(Qa:Dice):QdN x9 y2 y3 y5_0 y5_1 y7_1 y8 y31 QW Qa=VT QdN x9 y2 y3 y5_0 y5_1 y7_1 y8 y31 QW Qa:=lnT (x:=VT (fun x9 y2 y3 y5_0 y5_1 y7_1 y8 y31 QW Qa=>some (.normal,QvN x9 y2 y3 y5_0 y5_1 y7_1 y8 y31 QW Qa)) x9 y2 y3 y5_0 y5_1 y7_1 y8 y31 QW Qa) (by simp only [VT,nxA];rfl)
def r_f10 (d0:Dice):OV:=
 let a5:=Qj .i64 1 (Qh (Yf d0) 3)
 let a1:=itZ a5.toNat (Qe (Yf d0) 3)
 let a3:=Qe (EF (a1.2)) 2
 let a2:=(Ql (Ql a3 ([2,1,5])) ([30,60,200]))
 let a4:=(Qc (([]:List Item)++a1.1))
 let a6:=(dof (Ql a3 ([2,1,5])) ([30,60,200]))
 let a7:=jbZ a4 (Qh a2 4).toNat (Qe a2 4)
 let a8:=jbZ a4 (Qh a3 4).toNat (Qe a3 4)
 let a9:=((YN (a1.2)).1)
 br (dOk d0) (br (Qz (Yf d0) 3) (br (dOk (Qe (Yf d0) 3)&&decide (0<=a5/\a5<=3/\([]:List Item).length+a5.toNat<=100)) (br (dOk (a1.2)) (br (Qz (EF (a1.2)) 2) (br (ieq (Qh (EF (a1.2)) 2) 0) (br (QM a3 ([2,1,5])) (br (QM (Ql a3 ([2,1,5])) ([30,60,200])) (br (Qq a9 ([(false,((dof a3 ([2,1,5])),(0,(0,(a6,(40001,()))))))]) 48) (br (Qz a2 4) (br (dOk (Qe a2 4)&&decide (1<=(([]:List Item)++a1.1).length/\(([]:List Item)++a1.1).length<=100/\0<=(Qh a2 4)/\(Qh a2 4)<=3/\([]:List Job).length+(Qh a2 4).toNat<=100)) (some (.tu [(.ag [(.t (.sl QC) ((JQ d0).1)),(.t (.sl Qk) (((JQ d0).2).1)),(.ms 50001)]),(.ag [(.ms 50002),(.t (.sl Qk) (((YN (a1.2)).2).1))]),(.ms 50003)],[.box (.t Qt (a7.2)),.arr 62 Qp (([]:List Item)++a1.1),.arr 66 Q4 (a9++([(false,((dof a3 ([2,1,5])),(0,(0,(a6,(40001,()))))))])),.arr 47 Jb (([]:List Job)++a7.1)])) none) none) none) none) none) (br (Qz a3 4) (br (dOk (Qe a3 4)&&decide (1<=(([]:List Item)++a1.1).length/\(([]:List Item)++a1.1).length<=100/\0<=(Qh a3 4)/\(Qh a3 4)<=3/\([]:List Job).length+(Qh a3 4).toNat<=100)) (some (.tu [(.ag [(.t (.sl QC) ((JQ d0).1)),(.t (.sl Qk) (((JQ d0).2).1)),(.ms 50001)]),(.ag [(.ms 50002),(.t (.sl Qk) (((YN (a1.2)).2).1))]),(.ms 50003)],[.box (.t Qt (a8.2)),.arr 62 Qp (([]:List Item)++a1.1),.arr 66 Q4 a9,.arr 47 Jb (([]:List Job)++a8.1)])) none) none)) none) none) none) none) none
theorem QKD (x6:Int)(y2:Estate)(y3:Policy)(y5_1:List Keep)(y11:List Endpoint)(Z0 QW:List Item)(Qa:Dice)(h:(dOk Qa&&decide (0<=x6/\x6<=3/\QW.length+x6.toNat<=100))=true):QdL x6 y2 y3 y5_1 y11 Z0 QW Qa=QdM x6 y2 y3 y5_1 y11 Z0 QW Qa:=by
 simp only [Bc,Ba] at h
 obtain ⟨hd,h0,h1,hl⟩:=h
 obtain ⟨n,rfl⟩:=Bl h0
 rw [Bb] at hl
 have key: ∀ (n:Nat) (QW:List Item) (Qa:Dice),dOk Qa=true->QW.length+n<=100->QdL (n:Int) y2 y3 y5_1 y11 Z0 QW Qa=QdM (n:Int) y2 y3 y5_1 y11 Z0 QW Qa:=by
  intro n
  induction n with
  |zero=>
   intro QW Qa _ _
   rw [QvO]
   simp only [VR,QdM,show igt ((0:Nat):Int) 0=false from rfl,Qi,Bb,itZ,BL]
  |succ n ih=>
   intro QW Qa hd hl
   rw [QvO]
   have e2:Qw .i64 ((n+1:Nat):Int) 1=(n:Int):=(JO (by omega)).trans (by omega)
   have c1:YR Qa sIt=true:=by simp [YR,hd]
   have c2:Ub (YQ Qa sIt) (ZA Qa sIt)=true:=GM hd
   have c3: ∀ v,Qq QW [v] 64=true:=fun v=>Q1 (by omega) (by simp only [Bh];omega)
   simp only [VR,show igt ((n+1:Nat):Int) 0=true from Be (by omega),Qf,e2,c1,c2,c3]
   refine Eq.trans (ih _ _ (Vz (s:=ZA Qa sIt) (GM hd)) (by simp only [Bm,Bh];omega)) ?_
   simp only [QdM,Bb,itZ,BI,BH]
 exact key n QW Qa hd (by omega)
theorem QKE (x9:Int)(y2:Estate)(y3:Policy)(y5_0:List Endpoint)(y5_1 y7_1:List Keep)(y8:List Job)(y31:List Rule)(QW:List Item)(Qa:Dice)(h:(dOk Qa&&decide (1<=QW.length/\QW.length<=100/\0<=x9/\x9<=3/\y8.length+x9.toNat<=100))=true):QdN x9 y2 y3 y5_0 y5_1 y7_1 y8 y31 QW Qa=QdO x9 y2 y3 y5_0 y5_1 y7_1 y8 y31 QW Qa:=by
 simp only [Bc,Ba] at h
 obtain ⟨hd,i1,i2,h0,h1,hl⟩:=h
 obtain ⟨n,rfl⟩:=Bl h0
 rw [Bb] at hl
 have key: ∀ (n:Nat) (y8:List Job) (Qa:Dice),dOk Qa=true->y8.length+n<=100->QdN (n:Int) y2 y3 y5_0 y5_1 y7_1 y8 y31 QW Qa=QdO (n:Int) y2 y3 y5_0 y5_1 y7_1 y8 y31 QW Qa:=by
  intro n
  induction n with
  |zero=>
   intro y8 Qa _ _
   rw [QvP]
   simp only [VT,QdO,show igt ((0:Nat):Int) 0=false from rfl,Qi,Bb,jbZ,BL]
  |succ n ih=>
   intro y8 Qa hd hl
   rw [QvP]
   have e2:Qw .i64 ((n+1:Nat):Int) 1=(n:Int):=(JO (by omega)).trans (by omega)
   have k2:=QB (n:=Qc QW) hd
   have c1:Qz Qa (Qc QW)=true:=JD hd (by simp only [Qc];omega)
   have c2:Qz (Qe Qa (Qc QW)) 4=true:=JD k2 (by omega)
   have hv:=Q7 (d:=Qe Qa (Qc QW)) (n:=4) (by omega)
   have c3:cIx QdI (Qh (Qe Qa (Qc QW)) 4)=true:=by
    have:QdI.length=4:=rfl
    simp only [cIx,Ba]
    omega
   have k3:=QB (n:=4) k2
   have c4:Qz (Qe (Qe Qa (Qc QW)) 4) 250=true:=JD k3 (by omega)
   have c5: ∀ v,Qq y8 [v] 32=true:=fun v=>Q1 (by omega) (by simp only [Bh];omega)
   simp only [VT,show igt ((n+1:Nat):Int) 0=true from Be (by omega),Qf,e2,c1,c2,c4,c5]
   refine brY c3 ?_
   refine Eq.trans (ih _ _ (QB k3) (by simp only [Bm,Bh];omega)) ?_
   simp only [QdO,Bb,jbZ,BI,BH]
   rfl
 exact key n y8 Qa hd (by omega)
theorem QKF:LO VQ Qll QvK 0:=QI (s:=QdJ) fun x y h _ q=>by simp only [QG,QH] at q;exact (QKD x.2.2.2.2.1 y.1 y.2.1 y.2.2.1.2.1 y.2.2.2.1 y.2.2.2.2.2.2.2.1 y.2.2.2.2.2.2.2.2.2.2.2.2.2.1 y.2.2.2.2.2.2.2.2.2.2.2.2.2.2.1 h).trans q
theorem QKG:LO VQ Qlm QvL 1:=QI (s:=QdK) fun x y h _ q=>by simp only [QG,QH] at q;exact (QKE x.2.2.2.2.2.2.1 y.1 y.2.1 y.2.2.1.1 y.2.2.1.2.1 y.2.2.2.1.2.1 y.2.2.2.2.1 y.2.2.2.2.2.2.2.1 y.2.2.2.2.2.2.2.2.2.2.2.2.2.2.2.2.1 y.2.2.2.2.2.2.2.2.2.2.2.2.2.2.2.2.2.1 h).trans q
theorem QdP: ∀ (n:Nat) (d:Dice),dOk d=true->dOk (itZ n d).2=true
 |0,_,h=>h
 |n+1,d,h=>QdP n _ (Vz (s:=ZA d sIt) (GM h))
theorem QvQ {d:Dice}(hd:dOk d=true):dOk (Yf d)=true:=QdP _ _ (QB (Qfw (Jq d).length (Jq d).length 0 [] _ (Qfv (Jq d) 0 (Qe d 2) (QB (n:=2) hd)) (Da _)).1)
theorem QvR (d:Dice):1<=(Qj .i64 1 (Qh (Yf d) 3)).toNat/\(Qj .i64 1 (Qh (Yf d) 3)).toNat<=3/\0<=Qj .i64 1 (Qh (Yf d) 3)/\Qj .i64 1 (Qh (Yf d) 3)<=3:=by
 have hv:=Q7 (d:=Yf d) (n:=3) (by omega)
 rw [Jz (by omega)]
 omega
theorem QvS (d:Dice):(Y2 d).1.length=(Qj .i64 1 (Qh (Yf d) 3)).toNat:=(QcD _ _).2.2
theorem QvT (d:Dice):(YN d).1.length<=6/\(YN d).2.1.length<=2:=by
 have h1:=Q7 (d:=d) (n:=7) (by omega)
 have h2:=Q7 (d:=(Qbd d).2) (n:=3) (by omega)
 constructor
 ·rw [show (YN d).1.length=(Qh d 7).toNat from (QBy _ _).1];omega
 ·rw [show (YN d).2.1.length=(Qh (Qbd d).2 3).toNat from (QBz _ _).1];omega
theorem s_f10 (d:Dice)(h:dOk d=true):r_f10 d=some (.tu [.ag [.t (.sl QC) (jE d).1,.t (.sl Qk) (jE d).2.1,.ms 50001],.ag [.ms 50002,.t (.sl Qk) (jP d).2.1],.ms 50003],[.box (.t Qt (UF d)),.arr 62 Qp (jE d).2.2.1,.arr 66 Q4 (jP d).1,.arr 47 Jb (jL d).1]):=by
 have k1:=QvQ h
 have c1:Qz (Yf d) 3=true:=JD k1 (by omega)
 have k2:dOk (jD1 d)=true:=QB k1
 have k3:dOk (Y2 d).2=true:=QdP _ _ k2
 have hn:=QvR d
 have hm:=QvS d
 have hp:=QvT (Y2 d).2
 have k4:dOk (jD2 d)=true:=QBx k3
 have k5:=QB (n:=2) k4
 have k6:=Jc (l:=[2,1,5]) k5
 have k7:dOk (jD3 d)=true:=Jc (l:=[30,60,200]) k6
 have hv: ∀ x,0<=Qh x 4/\Qh x 4<4:=fun x=>Q7 (d:=x) (n:=4) (by omega)
 have cl: ∀ x,dOk x=true->(dOk (Qe x 4)&&decide (1<=(Y2 d).1.length/\(Y2 d).1.length<=100/\0<=Qh x 4/\Qh x 4<=3/\([]:List Job).length+(Qh x 4).toNat<=100))=true:=fun x hx=>by
  have:=hv x
  rw [QB hx,Be (by simp only [Bv];omega)]
  rfl
 simp only [r_f10,BV]
 refine brY h (brY c1 (brY ?_ (brY k3 (brY (JD k4 (by omega)) ?_))))
 ·refine Bf.2 ⟨k2,Be ⟨hn.2.2.1,hn.2.2.2, ?_⟩⟩
  simp only [Bv]
  omega
 ·show br (jB d) _ _=_
  cases hb:jB d with
  |true=>
   rw [Qf]
   refine brY (Yu k5 (by decide) (by decide)) (brY (Yu k6 (by decide) (by decide)) (brY ?_ (brY (JD k7 (by omega)) (brY (cl _ k7) ?_))))
   ·exact Q1 (by omega) (by simp only [Bh];show (YN (Y2 d).2).1.length+1<=_;omega)
   ·unfold UF jP jL jD4
    rw [hb]
    rfl
  |false=>
   rw [Qi]
   refine brY (JD k5 (by omega)) (brY (cl _ k5) ?_)
   unfold UF jP jL jD4
   rw [hb]
   rfl
def QvU:Ent:=XA [.ptr 50000 0] [.box Qt] (fun x y=>(dOk y.1)) (fun x y=>(.tu [(.ag [(.t (.sl QC) (((Ud y.1).1).1)),(.t (.sl Qk) ((((Ud y.1).1).2).1)),(.ms 50001)]),(.ag [(.ms 50002),(.t (.sl Qk) (((((Ud y.1).2).1).2).1))]),(.ms 50003)])) (fun x y=>[.box (.t Qt (UF y.1)),.arr 62 Qp (((((Ud y.1).1).2).2).1),.arr 66 Q4 ((((Ud y.1).2).1).1),.arr 47 Jb (((Ud y.1).2).2)])
theorem ms_f10:EM 10 QvU:=mS (lk:=lkL (lkc QKF (lkc QKG lkn))) VQ Qln [((.c 2 true 3),none),((.c 3 true 2),none),((.t 4),none)] true (gB (gD ms_f31 (gD XM (gC Qz2 Qz3 (gD Qde (gD QhM (gD UB gN))))))) fun m=>X8 m fun x y hok=>kT (s_f10 y.1 hok)
theorem jE_len (d:Dice):JE (jE d)=true:=by
 have h:=(snd_ok d).2
 have hi:=QcD (Qj .i64 1 (Qh (Yf d) 3)).toNat (jD1 d)
 have hn:=QvR d
 simp only [ZC,Bc] at h
 refine Bf.2 ⟨?_,QvJ _ _⟩
 unfold ZC
 refine Bf.2 ⟨h.1,Bf.2 ⟨h.2.1, ?_⟩⟩
 refine Bf.2 ⟨Be ?_,hi.2.1⟩
 show (Y2 d).1.length<=100000
 rw [QvS]
 omega
theorem jP_len (d:Dice):Q5 (jP d)=true:=by
 have hp:=QvT (Y2 d).2
 unfold Q5 Q8 jP
 refine Bf.2 ⟨Be ?_,Be ?_⟩
 ·cases jB d with
  |true=>simp only [B8,Bm,Bh];omega
  |false=>simp only [BW];omega
 ·show (YN (Y2 d).2).2.1.length<=100000
  omega
end
end Go.Proofs.YthlcobdnemhcdaaGreat.K.SO
noncomputable section
namespace Go.Proofs.YthlcobdnemhcdaaGreat.K.SO
open Go.RowKit
noncomputable section
theorem QD4 {e:Estate}{y:Policy}{j:Job}(hc:JE e=true)(h0:apE e y j=0)(hl:Jg e y=true):JE (apF e y j).1=true:=by
 have h1:=Qe1 hl h0
 obtain ⟨g1,g2,g3,g4,g5,g6⟩:=ap_ok h0
 refine Bf.2 ⟨(Bf.1 h1).1, ?_⟩
 rw [g6]
 have ho:=(QCL g1).1
 have hk:j.1.toNat<(Je e).length:=by omega
 refine Bi.2 fun z hz=> ?_
 have hz:z∈(Je e).set j.1.toNat (Oz (JB e j.1.toNat) j.2.1.1 j.2.1.2.1):=hz
 rcases List.mem_or_eq_of_mem_set hz with hz|rfl
 ·exact Bi.1 (Bf.1 hc).2 z hz
 ·have hi:=JK.1 (QCM ho (QQG hk))
  have h8:=hi.2.2.2.1.2
  refine Be ?_
  simp only [Oz,Bm,Bh]
  omega
theorem QD5 {y:Policy}: ∀ {l:List Job} {e:Estate} {n:Int},JE e=true->Jg e y=true->JE (Zc y l e n).1=true
 | [],e,n,h,_=>h
 |j::l,e,n,h,hl=>by
  unfold Zc
  cases hq:ieq (apE e y j) 0 with
  |true=>
   have h0:apE e y j=0:=eq_of_beq hq
   rw [B8]
   exact QD5 (QD4 h h0 hl) (Qe1 hl h0)
  |false=>exact h
theorem QD6 (n:Int): ∀ (k:Nat) (d:Dice),(jbZ n k d).1.length=k
 |0,_=>rfl
 |k+1,d=>by
  have:=QD6 n k (jbN n d)
  simp only [jbZ,Br,this]
theorem jL_len (d:Dice):(jL d).1.length<=3:=by
 have hv:=Q7 (d:=jD4 d) (n:=4) (by omega)
 have:(jL d).1.length=(Qh (jD4 d) 4).toNat:=QD6 _ _ _
 omega
-- loop 0: (x5 : (List Job)) (x7 : Int) (x8 : Int) (x34 : (List Job)) (x35 : Int) (x36 : Int) (y4 : Policy) (y6 : Estate) (y9 : Estate); out: ('ret',) (x2 : Bool); ('exit', 0) (x5 : (List Job)) (x7 : Int) (x8 : Int) (y6 : Estate) (y9 : Estate)
end
end Go.Proofs.YthlcobdnemhcdaaGreat.K.SO
namespace Go.Proofs.YthlcobdnemhcdaaGreat.K
open Go.RowKit SO
end Go.Proofs.YthlcobdnemhcdaaGreat.K
noncomputable section
namespace Go.Proofs.YthlcobdnemhcdaaGreat.K.PE
open Go.RowKit
noncomputable section
def QKR:List DO:=dT Tryz.f58 2
abbrev Gu:Sh:=⟨[(0,.ptr 50000 0),(1,.ty .str),(4,.ptr 4 0),(5,.ptr 5 0),(6,.ty tI)],[(4,.box QC),(5,.bag [.ty .str,.ty tI,.ty tI,.ms 15,.ty .bool,.ms 20505,.nl,.nl,.ty .bool]),(15,.arr 3 tI),(78,.no),(5015,.no),(10015,.no),(15015,.no),(20505,.arr 126 QX),(50000,.box Qt)]⟩
abbrev QlI:Sh:=⟨[(0,.ptr 50000 0),(4,.ptr 4 0),(5,.ptr 5 0)],[(4,.box QC),(5,.bag [.ty .str,.ty tI,.ty tI,.ms 15,.ty .bool,.ms 20505,.nl,.nl,.ty .bool]),(15,.arr 3 tI),(78,.no),(5015,.no),(10015,.no),(15015,.no),(20505,.arr 126 QX),(50000,.box Qt)]⟩
def Fl:Fg:=Gu.f
def Ue:TC:=aF Tryz.f58 [(14,pD [(0,[5,15,78,5015,10015,15015,20505]),(1,[5,15,78,5015,10015,15015,20505]),(2,[50000]),(3,[5,15,78,5015,10015,15015,20505]),(4,[5,15,78,5015,10015,15015,20505]),(5,[15,78,5015,10015,15015,20505]),(6,[27,5027,10027,15027,50000]),(7,[15,78,5015,10015,15015,20505]),(8,[5,15,78,5015,10015,15015,20505]),(9,[4,5,15,78,5015,10015,15015,20505])] (.of [0,1,2,3,4,5,6,7,8,9])),(250,.nf 5 5 126 20505),(250,pL 0 Fl),(4003,.fg ⟨[(0,none),(4,none),(5,none)],[(4,some QC),(5,some QC),(15,none),(78,none),(5015,none),(10015,none),(15015,none),(20505,none),(50000,some Qt)]⟩)]
def IF:TC:=lb 0 Ue
def Eh:List (RV×Option Ty):=[((.c 4 true 9),some QC)]
def Gv (x1:ByteArray)(x6:Int)(y4:Endpoint)(y5_0:ByteArray)(y5_1 y5_2:Int)(y5_4 y5_8:Bool)(y15:List Int)(QN:List Identity)(Qa:Dice):VS:=Gu.st ((),x1,(),(),x6,()) (y4,(y5_0,y5_1,y5_2,(),y5_4,(),(),(),y5_8,()),y15,(),(),(),(),QN,Qa,())
def Fm (y4:Endpoint)(y5_0:ByteArray)(y5_1 y5_2:Int)(y5_4 y5_8:Bool)(y15:List Int)(QN:List Identity)(Qa:Dice):VS:=QlI.st ((),(),(),()) (y4,(y5_0,y5_1,y5_2,(),y5_4,(),(),(),y5_8,()),y15,(),(),(),(),QN,Qa,())
def QlJ:VS->Option (Bool×List (Bool×Exit×VS)):=mkL Gu (fun x y=>(decide (0<=x.2.2.2.2.1/\(y.2.2.2.2.2.2.2.1.length:Int)+x.2.2.2.2.1<=10/\x.2.1.size<=1000)&&dOk y.2.2.2.2.2.2.2.2.1)) (fun x y=>[(true,.exit 0,Fm (y.1) (y.2.1.1) (y.2.1.2.1) (y.2.1.2.2.1) (y.2.1.2.2.2.2.1) (y.2.1.2.2.2.2.2.2.2.2.1) (y.2.2.1) (y.2.2.2.2.2.2.2.1++(Zn x.2.2.2.2.1.toNat x.2.1 y.2.2.2.2.2.2.2.2.1).1) ((Zn x.2.2.2.2.1.toNat x.2.1 y.2.2.2.2.2.2.2.2.1).2))])
def Xs:G:=gG 100 [(32,Xl),(35,F5),(50,WZ),(99,Qqp),(100,Qr1),(101,Qe5),(102,Qr8)] (Ls [QlJ])
def Qv3 (x1:ByteArray)(x6:Int)(y4:Endpoint)(y5_0:ByteArray)(y5_1 y5_2:Int)(y5_4 y5_8:Bool)(y15:List Int)(QN:List Identity)(Qa:Dice):OX:=
 let a1:=Qe (Jo Qa) 3
 let a2:=(ZW (Ql a1 ([5,7])) (dof a1 ([5,7])))
 let a3:=((dof a1 ([5,7])),((YK (Ql a1 ([5,7])) (dof a1 ([5,7]))),()))
 let a4:=Qj .i64 100 (Qh a2 20)
 let a5:=Qj .i64 100 (Qh a1 20)
 let a6:=((Yk Qa).1,(((Yk Qa).2).1,()))
 let a7:=Qe (Qe a2 20) 9
 let a8:=Qe (Qe a1 20) 9
 let a9:=Qw .i64 x6 1
 let a10:=((YY a8 x1 (Yk Qa) a5),())
 let a11:=((YY a7 x1 a3 a4),())
 br (igt x6 0) (br (dOk Qa) (br (Qz (Jo Qa) 3) (br (igt (Qh (Jo Qa) 3) 0) (br (QM a1 ([5,7])) (br (GH (Ql a1 ([5,7])) (dof a1 ([5,7]))) (br (Qz a2 20) (br (QT (Qe a2 20) 9) (br (!(done (Qe a2 20) 9)) (br (Wr a7 x1 a3 a4) (br (Qq QN ([(a3,(a4,a11))]) 48) (some (.normal,Gv x1 a9 y4 y5_0 y5_1 y5_2 y5_4 y5_8 y15 (QN++([(a3,(a4,a11))])) (Gc a7 x1 a3 a4))) none) none) (br (Qq QN ([(a3,(a4,(([]:List Certificate),())))]) 48) (some (.normal,Gv x1 a9 y4 y5_0 y5_1 y5_2 y5_4 y5_8 y15 (QN++([(a3,(a4,(([]:List Certificate),())))])) a7)) none)) none) none) none) none) (br (Qz a1 20) (br (QT (Qe a1 20) 9) (br (!(done (Qe a1 20) 9)) (br (Wr a8 x1 (Yk Qa) a5) (br (Qq QN ([(a6,(a5,a10))]) 48) (some (.normal,Gv x1 a9 y4 y5_0 y5_1 y5_2 y5_4 y5_8 y15 (QN++([(a6,(a5,a10))])) (Gc a8 x1 (Yk Qa) a5))) none) none) (br (Qq QN ([(a6,(a5,(([]:List Certificate),())))]) 48) (some (.normal,Gv x1 a9 y4 y5_0 y5_1 y5_2 y5_4 y5_8 y15 (QN++([(a6,(a5,(([]:List Certificate),())))])) a8)) none)) none) none)) none) none) (some (.exit 0,Fm y4 y5_0 y5_1 y5_2 y5_4 y5_8 y15 QN Qa))
def Xt (x1:ByteArray)(x6:Int)(y4:Endpoint)(y5_0:ByteArray)(y5_1 y5_2:Int)(y5_4 y5_8:Bool)(y15:List Int)(QN:List Identity)(Qa:Dice):OX:=Qx (QA Xs Fl IF) (Gv x1 x6 y4 y5_0 y5_1 y5_2 y5_4 y5_8 y15 QN Qa)
def UI (x1:ByteArray)(x6:Int)(y4:Endpoint)(y5_0:ByteArray)(y5_1 y5_2:Int)(y5_4 y5_8:Bool)(y15:List Int)(QN:List Identity)(Qa:Dice):OX:=
 let a1:=Qe (Jo Qa) 3
 let a2:=(ZW (Ql a1 ([5,7])) (dof a1 ([5,7])))
 let a3:=((dof a1 ([5,7])),((YK (Ql a1 ([5,7])) (dof a1 ([5,7]))),()))
 let a4:=Qj .i64 100 (Qh a2 20)
 let a5:=Qj .i64 100 (Qh a1 20)
 let a6:=((Yk Qa).1,(((Yk Qa).2).1,()))
 let a7:=Qe (Qe a2 20) 9
 let a8:=Qe (Qe a1 20) 9
 let a9:=Qw .i64 x6 1
 let a10:=((YY a8 x1 (Yk Qa) a5),())
 let a11:=((YY a7 x1 a3 a4),())
 br (igt x6 0) (br (dOk Qa) (br (Qz (Jo Qa) 3) (br (igt (Qh (Jo Qa) 3) 0) (br (QM a1 ([5,7])) (br (GH (Ql a1 ([5,7])) (dof a1 ([5,7]))) (br (Qz a2 20) (br (QT (Qe a2 20) 9) (br (!(done (Qe a2 20) 9)) (br (Wr a7 x1 a3 a4) (br (Qq QN ([(a3,(a4,a11))]) 48) (Xt x1 a9 y4 y5_0 y5_1 y5_2 y5_4 y5_8 y15 (QN++([(a3,(a4,a11))])) (Gc a7 x1 a3 a4)) none) none) (br (Qq QN ([(a3,(a4,(([]:List Certificate),())))]) 48) (Xt x1 a9 y4 y5_0 y5_1 y5_2 y5_4 y5_8 y15 (QN++([(a3,(a4,(([]:List Certificate),())))])) a7) none)) none) none) none) none) (br (Qz a1 20) (br (QT (Qe a1 20) 9) (br (!(done (Qe a1 20) 9)) (br (Wr a8 x1 (Yk Qa) a5) (br (Qq QN ([(a6,(a5,a10))]) 48) (Xt x1 a9 y4 y5_0 y5_1 y5_2 y5_4 y5_8 y15 (QN++([(a6,(a5,a10))])) (Gc a8 x1 (Yk Qa) a5)) none) none) (br (Qq QN ([(a6,(a5,(([]:List Certificate),())))]) 48) (Xt x1 a9 y4 y5_0 y5_1 y5_2 y5_4 y5_8 y15 (QN++([(a6,(a5,(([]:List Certificate),())))])) a8) none)) none) none)) none) none) (some (.exit 0,Fm y4 y5_0 y5_1 y5_2 y5_4 y5_8 y15 QN Qa))
def Y3 (x1:ByteArray)(x6:Int)(y4:Endpoint)(y5_0:ByteArray)(y5_1 y5_2:Int)(y5_4 y5_8:Bool)(y15:List Int)(QN:List Identity)(Qa:Dice):OX:=
 let a1:=Zn x6.toNat x1 Qa
 some (.exit 0,Fm (y4) (y5_0) (y5_1) (y5_2) (y5_4) (y5_8) (y15) (QN++a1.1) (a1.2))
theorem QKS (x1:ByteArray)(x6:Int)(y4:Endpoint)(y5_0:ByteArray)(y5_1 y5_2:Int)(y5_4 y5_8:Bool)(y15:List Int)(QN:List Identity)(Qa:Dice):QA Xs Fl IF (Gv x1 x6 y4 y5_0 y5_1 y5_2 y5_4 y5_8 y15 QN Qa)=Qv3 x1 x6 y4 y5_0 y5_1 y5_2 y5_4 y5_8 y15 QN Qa:=by kernel_rfl
theorem VY (x1:ByteArray)(x6:Int)(y4:Endpoint)(y5_0:ByteArray)(y5_1 y5_2:Int)(y5_4 y5_8:Bool)(y15:List Int)(QN:List Identity)(Qa:Dice):Xt x1 x6 y4 y5_0 y5_1 y5_2 y5_4 y5_8 y15 QN Qa=UI x1 x6 y4 y5_0 y5_1 y5_2 y5_4 y5_8 y15 QN Qa:=(Ft _ _).trans (by
 rw [QKS]
 simp only [Qv3,UI,Xy,XX,XY,XZ,X5]
 rfl)
def Ei (d0:Dice)(p1:ByteArray):OV:=
 let a4:=(Ql d0 ([1,1,2,3]))
 let a6:=Qe (YD a4) 2
 let a13:=(dof d0 ([1,1,2,3]))
 let a5:=Qw .i64 5 a13
 let a12:=Qe (Qe a6 2) a5
 let a1:=Qe a12 3
 let a7:=(Ql a1 ([3,4,2]))
 let a10:=(dof a7 ([1,2,1,3,0]))
 let a2:=(Zn a10.toNat p1 (Ql a7 ([1,2,1,3,0])))
 let a11:=(dof a1 ([1,2,1,3,0]))
 let a3:=(Zn a11.toNat p1 (Ql a1 ([1,2,1,3,0])))
 let a8:=Qe (a2.2) 5
 let a9:=Qe (a3.2) 5
 br (QM d0 ([1,1,2,3])) (br (dOk a4) (br (QT (YD a4) 2) (br (QT a6 2) (br (Qz (Qe a6 2) a5) (br (Qz a12 3) (br (igt (Qh a12 3) 0) (br (QM a1 ([3,4,2])) (br (QM a7 ([1,2,1,3,0])) (br (decide (0<=a10/\(([]:List Identity).length:Int)+a10<=10/\p1.size<=1000)&&dOk (Ql a7 ([1,2,1,3,0]))) (br (Qz (a2.2) 5) (br (cIx ([[1,2],[1,2],[1],[2,11],([]:List Int)]) (Qh (a2.2) 5)) (br (Qz a8 3) (br (cIx ([[1,2,3,4],[2,3,4],[3,4]]) (Qh a8 3)) (some (.t QC ((p1),((1:Int),((dof a1 ([3,4,2])),((Wp a4),((done (YD a4) 2),((([]:List Identity)++a2.1),((lgt (.sl tI) ([[1,2],[1,2],[1],[2,11],([]:List Int)]) (Int.toNat (Qh (a2.2) 5))),((lgt (.sl tI) ([[1,2,3,4],[2,3,4],[3,4]]) (Int.toNat (Qh a8 3))),((done a6 2),()))))))))),[.box (.t Qt (Qe a8 3))])) none) none) none) none) none) none) none) (br (QM a1 ([1,2,1,3,0])) (br (decide (0<=a11/\(([]:List Identity).length:Int)+a11<=10/\p1.size<=1000)&&dOk (Ql a1 ([1,2,1,3,0]))) (br (Qz (a3.2) 5) (br (cIx ([[1,2],[1,2],[1],[2,11],([]:List Int)]) (Qh (a3.2) 5)) (br (Qz a9 3) (br (cIx ([[1,2,3,4],[2,3,4],[3,4]]) (Qh a9 3)) (some (.t QC ((p1),(a13,((Qj .i64 a13 (Qh (Qe a6 2) a5)),((Wp a4),((done (YD a4) 2),((([]:List Identity)++a3.1),((lgt (.sl tI) ([[1,2],[1,2],[1],[2,11],([]:List Int)]) (Int.toNat (Qh (a3.2) 5))),((lgt (.sl tI) ([[1,2,3,4],[2,3,4],[3,4]]) (Int.toNat (Qh a9 3))),((done a6 2),()))))))))),[.box (.t Qt (Qe a9 3))])) none) none) none) none) none) none)) none) none) none) none) none) none
theorem QlK (d0:Dice)(p1:ByteArray):QS Xs Ue Eh false [.ptr 50000 0,.t .str p1] [.box (.t Qt d0)]=Ei d0 p1:=by kernel_rfl
theorem ok_f58:Option.map (trC Tryz.prog) Tryz.f58.body=some Ue.er:=by kernel_rfl
theorem QKT:XV Tryz.prog Tryz.f58.results.toList=some (Eh.map Prod.fst):=by kernel_rfl
theorem Qv4:Ja Tryz.prog 58:= .inr ⟨by decide,_,Tryz.func58,by kernel_rfl,by kernel_rfl⟩
theorem QlL:GOk Tryz.prog Xs:=Jp _ (gA (gD XM (gD E5 (gD UB (gD QEf (gD QGD (gD QnG (gD QGQ gN))))))))
theorem QlM (x1:ByteArray)(x6:Int)(y4:Endpoint)(y5_0:ByteArray)(y5_1 y5_2:Int)(y5_4 y5_8:Bool)(y15:List Int)(QN:List Identity)(Qa:Dice)(h:(decide (0<=x6/\(QN.length:Int)+x6<=10/\x1.size<=1000)&&dOk Qa)=true):Xt x1 x6 y4 y5_0 y5_1 y5_2 y5_4 y5_8 y15 QN Qa=Y3 x1 x6 y4 y5_0 y5_1 y5_2 y5_4 y5_8 y15 QN Qa:=by
 obtain ⟨h,hd⟩:=Bf.1 h
 obtain ⟨h0,h1,h2⟩:=BD h
 clear h
 obtain ⟨n,rfl⟩:=Bl h0
 have key: ∀ (n:Nat) (QN:List Identity) (Qa:Dice),QN.length+n<=10->dOk Qa=true->Xt x1 (n:Int) y4 y5_0 y5_1 y5_2 y5_4 y5_8 y15 QN Qa=Y3 x1 (n:Int) y4 y5_0 y5_1 y5_2 y5_4 y5_8 y15 QN Qa:=by
  intro n
  induction n with
  |zero=>
   intro QN Qa _ _
   rw [VY]
   simp only [UI,Y3,show igt ((0:Nat):Int) 0=false from rfl,Qi,Bb,Zn,BL]
  |succ n ih=>
   intro QN Qa hl hd
   rw [VY]
   have e2:Qw .i64 ((n+1:Nat):Int) 1=(n:Int):=(JO (by omega)).trans (by omega)
   have k1:=Qi0 hd
   have k2:=QB (n:=3) k1
   have k3:=Jc (l:=[5,7]) k2
   have k4: ∀ a,dOk (ZW (Ql (Qe (Jo Qa) 3) [5,7]) a)=true:=fun a=>Qe6 k3
   have c1:Qz (Jo Qa) 3=true:=JD k1 (by omega)
   have c2:QM (Qe (Jo Qa) 3) [5,7]=true:=Yu k2 (by decide) (by decide)
   have c3: ∀ a,GH (Ql (Qe (Jo Qa) 3) [5,7]) a=true:=fun a=>k3
   have c4: ∀ a,Qz (ZW (Ql (Qe (Jo Qa) 3) [5,7]) a) 20=true:=fun a=>JD (k4 a) (by omega)
   have c5: ∀ a,QT (Qe (ZW (Ql (Qe (Jo Qa) 3) [5,7]) a) 20) 9=true:=fun a=>Xk (QB (k4 a)) (by omega) (by omega)
   have c6:Qz (Qe (Jo Qa) 3) 20=true:=JD k2 (by omega)
   have c7:QT (Qe (Qe (Jo Qa) 3) 20) 9=true:=Xk (QB k2) (by omega) (by omega)
   have c8: ∀ a k i,Wr (Qe (Qe (ZW (Ql (Qe (Jo Qa) 3) [5,7]) a) 20) 9) x1 k i=true:=fun a k i=>Bf.2 ⟨QB (QB (k4 a)),Be h2⟩
   have c9: ∀ k i,Wr (Qe (Qe (Qe (Jo Qa) 3) 20) 9) x1 k i=true:=fun k i=>Bf.2 ⟨QB (QB k2),Be h2⟩
   have ca: ∀ v,Qq QN [v] 48=true:=fun v=>Q1 (by omega) (by simp only [Bh];omega)
   have cb: ∀ d:Dice,Qj .i64 100 (Qh d 20)=100+Qh d 20:=fun d=>by
    have b:=Q7 (d:=d) (n:=20) (by omega)
    exact Jz (by omega)
   simp only [UI,show igt ((n+1:Nat):Int) 0=true from Be (by omega),Qf,hd,e2,c1,c2,c3,c4,c5,c6,c7,c8,c9,ca,cb]
   have hi: ∀ v d,dOk d=true->Xt x1 (n:Int) y4 y5_0 y5_1 y5_2 y5_4 y5_8 y15 (QN++[v]) d=Y3 x1 (n:Int) y4 y5_0 y5_1 y5_2 y5_4 y5_8 y15 (QN++[v]) d:=fun v d hd=>ih _ _ (by simp only [Bm,Bh];omega) hd
   have hz:=hi (idV Qa x1) (iD6 Qa x1) (V4 hd)
   have goal2:Y3 x1 (n:Int) y4 y5_0 y5_1 y5_2 y5_4 y5_8 y15 (QN++[idV Qa x1]) (iD6 Qa x1)=Y3 x1 ((n+1:Nat):Int) y4 y5_0 y5_1 y5_2 y5_4 y5_8 y15 QN Qa:=by
    simp only [Y3,Bb,Zn,BI,BH]
   refine Eq.trans ?_ (hz.trans goal2)
   simp only [idV,iD6,iCh,iId,Gw,iD3,iB,iD2,iA,iD4,iD5]
   cases igt (Qh (Jo Qa) 3) 0 with
   |true=>
    simp only [Qf,B8]
    cases done (Qe (ZW (Ql (Qe (Jo Qa) 3) [5,7]) (dof (Qe (Jo Qa) 3) [5,7])) 20) 9<;>rfl
   |false=>
    simp only [Qi,BW]
    cases done (Qe (Qe (Jo Qa) 3) 20) 9<;>rfl
 exact key n _ _ (by omega) hd
theorem QlN:LO Xs Fl IF 0:=QI (s:=Gu) fun x y h _ q=>by simp only [QG,QH] at q;exact (QlM x.2.1 x.2.2.2.2.1 y.1 y.2.1.1 y.2.1.2.1 y.2.1.2.2.1 y.2.1.2.2.2.2.1 y.2.1.2.2.2.2.2.2.2.2.1 y.2.2.1 y.2.2.2.2.2.2.2.1 y.2.2.2.2.2.2.2.2.1 h).trans q
theorem QlO:Ue.lok Xs:=by
 repeat (first|exact trivial|exact QlN|refine ⟨?_, ?_⟩)
theorem QlP (d:Dice)(nm:ByteArray)(h:Fn d nm=true):Ei d nm=some (.t QC (epV d nm),[.box (.t Qt (epN d nm))]):=by
 unfold epV
 simp only [Fn,Bc,Ba] at h
 obtain ⟨h,hn⟩:=h
 have m0:=Zo (d:=d) (l:=[1,1,2,3]) (by decide)
 simp only [BA,BQ,Dd] at m0
 have k1:=Jc (l:=[1,1,2,3]) h
 have k2:=QbO k1
 have k3:=QB (n:=2) k2
 have k4:=QB (n:=2) k3
 have e0:Qw .i64 5 (dof d [1,1,2,3])=5-eL0 d:=JO (by omega)
 have b4:=Q7 (d:=eD4 d) (n:=5-eL0 d) (by show 0<5-dof d [1,1,2,3];omega)
 have e1:Qj .i64 (dof d [1,1,2,3]) (Qh (eD4 d) (5-eL0 d))=eL0 d+Qh (eD4 d) (5-eL0 d):=Jz (by show _/\_;have:eL0 d=dof d [1,1,2,3]:=rfl;omega)
 have k5:=QB (n:=5-eL0 d) k4
 have k6:=QB (n:=3) k5
 have k6':=Jc (l:=[3,4,2]) k6
 have k7:dOk (eD7 d)=true:=by
  unfold eD7
  cases eB d
  ·exact k6
  ·exact k6'
 have k8:=Jc (l:=[1,2,1,3,0]) k7
 have m7:=Zo (d:=eD7 d) (l:=[1,2,1,3,0]) (by decide)
 simp only [BA,BQ,Dd] at m7
 obtain ⟨k9,_⟩:=V5 (dof (eD7 d) [1,2,1,3,0]).toNat nm (eD8 d) k8
 have k10:=QB (n:=5) k9
 have c1:QM d [1,1,2,3]=true:=Yu h (by decide) (by decide)
 have c3:QT (YD (Ql d [1,1,2,3])) 2=true:=Xk k2 (by omega) (by omega)
 have c4:QT (Qe (YD (Ql d [1,1,2,3])) 2) 2=true:=Xk k3 (by omega) (by omega)
 have c5:Qz (eD4 d) (5-eL0 d)=true:=JD k4 (by show 5-dof d [1,1,2,3]<=_;omega)
 have c6:Qz (eD5 d) 3=true:=JD k5 (by omega)
 have c7:QM (eD6 d) [3,4,2]=true:=Yu k6 (by decide) (by decide)
 have c8:QM (eD7 d) [1,2,1,3,0]=true:=Yu k7 (by decide) (by decide)
 have k8':dOk (Ql (eD7 d) [1,2,1,3,0])=true:=k8
 have e5:Zn (dof (eD7 d) [1,2,1,3,0]).toNat nm (Ql (eD7 d) [1,2,1,3,0])=ZF d nm:=rfl
 have c9:(decide ((0:Int)<=dof (eD7 d) [1,2,1,3,0]/\(([]:List Identity).length:Int)+dof (eD7 d) [1,2,1,3,0]<=10/\nm.size<=1000)&&true)=true:=by
  rw [B7]
  exact Be ⟨by omega,by simp only [Bv];omega,hn⟩
 have c10:Qz (ZF d nm).2 5=true:=JD k9 (by omega)
 have b10:=Q7 (d:=(ZF d nm).2) (n:=5) (by omega)
 have c11:cIx [[1,2],[1,2],[1],[2,11],([]:List Int)] (Qh (ZF d nm).2 5)=true:=Be (by simp only [Br,Bv];omega)
 have c12:Qz (Qe (ZF d nm).2 5) 3=true:=JD k10 (by omega)
 have b12:=Q7 (d:=Qe (ZF d nm).2 5) (n:=3) (by omega)
 have c13:cIx [[1,2,3,4],[2,3,4],([3,4]:List Int)] (Qh (Qe (ZF d nm).2 5) 3)=true:=Be (by simp only [Br,Bv];omega)
 simp only [Ei,c1,k1,c3,c4,e0,c5,c6,e1,c7,Qf]
 cases hb:eB d with
 |true=>
  have e7:Ql (eD6 d) [3,4,2]=eD7 d:=by unfold eD7;rw [hb];rfl
  have e8:XS d=1:=by unfold XS;rw [hb];rfl
  have e9:XT d=dof (eD6 d) [3,4,2]:=by unfold XT;rw [hb];rfl
  refine Eq.trans (congrArg (fun b=>br b _ _) hb) ?_
  simp only [Qf,e7,c8,k8',e5,Qf,c10,c11,c12,c13]
  refine Eq.trans (congrArg (fun b=>br b _ _) c9) ?_
  rw [Qf,e8,e9]
  refine Eq.trans (congrArg (fun b=>br b _ _) c13) ?_
  rfl
 |false=>
  have e7:eD6 d=eD7 d:=by unfold eD7;rw [hb];rfl
  have e8:XS d=eL0 d:=by unfold XS;rw [hb];rfl
  have e9:XT d=eL0 d+Qh (eD4 d) (5-eL0 d):=by unfold XT;rw [hb];rfl
  refine Eq.trans (congrArg (fun b=>br b _ _) hb) ?_
  simp only [Qi,e7,c8,k8',e5,Qf,c10,c11,c12,c13]
  refine Eq.trans (congrArg (fun b=>br b _ _) c9) ?_
  rw [Qf,e8,e9]
  refine Eq.trans (congrArg (fun b=>br b _ _) c13) ?_
  rfl
def QdQ:Ent:=Xx Qt (.pr .str .nil) (fun d x=>(Fn d x.1)) (fun d x=>(.t QC (epV d x.1))) (fun d x=>(epN d x.1))
theorem Qv5:Qu Tryz.prog 58 (Qv QdQ):=WA (R:=QS Xs Ue Eh false) (mG Tryz.func58 (by kernel_rfl) Tryz.ntmps58 (by kernel_rfl) QlL QlO) rfl fun d x hok=>(QlK d x.1).trans (QlP d x.1 hok)
end
end Go.Proofs.YthlcobdnemhcdaaGreat.K.PE
noncomputable section
namespace Go.Proofs.YthlcobdnemhcdaaGreat.K.PE
open Go.RowKit
noncomputable section
abbrev UJ:List ByteArray:=[(ByteArray.mk #[97,112,112]),(ByteArray.mk #[100,98]),(ByteArray.mk #[109,97,105,108]),(ByteArray.mk #[119,101,98])]
def mkZ:List ByteArray->Dice->List Endpoint×Dice
 | [],d=>([],d)
 |s::r,d=>(epV d s::(mkZ r (epN d s)).1,(mkZ r (epN d s)).2)
def edM:Nat->Int->Int->List Keep->Dice->List Keep×Dice
 |0,_,_,l,d=>(l,d)
 |m+1,i,k,l,d=>bif ine i k then (bif ieq (Qh d 3) 0 then edM m i (k+1) (l++[(i,(k,()))]) (Qe d 3) else edM m i (k+1) l (Qe d 3)) else edM m i (k+1) l d
def edN:Nat->Nat->Int->List Keep->Dice->List Keep×Dice
 |0,_,_,l,d=>(l,d)
 |m+1,n,i,l,d=>edN m n (i+1) (edM n i 0 l d).1 (edM n i 0 l d).2
def JA (d:Dice):List ByteArray:=lsl UJ 0 (Qj .i64 2 (Qh d 3))
def Yy (d:Dice):List Keep×Dice:=edN (JA d).length (JA d).length 0 [] (mkZ (JA d) (Qe d 3)).2
def IG (d:Dice):List Item×Dice:=itZ (Qh (Yy d).2 3).toNat (Qe (Yy d).2 3)
def mkX (d:Dice):Estate:=((mkZ (JA d) (Qe d 3)).1,((Yy d).1,((IG d).1,())))
def mkXN (d:Dice):Dice:=(IG d).2
theorem QlY: ∀ (l:List ByteArray) (d:Dice),dOk d=true->dOk (mkZ l d).2=true
 | [],_,h=>h
 |s::r,d,h=>QlY r (epN d s) (QnC h)
theorem IH: ∀ (m:Nat) (i k:Int) (l:List Keep) (d:Dice),dOk d=true->dOk (edM m i k l d).2=true/\(edM m i k l d).1.length<=l.length+m
 |0,_,_,_,_,h=>⟨h,BB _⟩
 |m+1,i,k,l,d,h=>by
  unfold edM
  cases ine i k with
  |false=>
   have:=IH m i (k+1) l d h
   exact ⟨this.1,by have:=this.2;simp only [BW];omega⟩
  |true=>
   cases ieq (Qh d 3) 0 with
   |false=>
    have:=IH m i (k+1) l (Qe d 3) (QB h)
    exact ⟨this.1,by have:=this.2;simp only [B8,BW];omega⟩
   |true=>
    have:=IH m i (k+1) (l++[(i,(k,()))]) (Qe d 3) (QB h)
    simp only [Bm,Bh] at this
    exact ⟨this.1,by have:=this.2;simp only [B8];omega⟩
theorem Qwd: ∀ (m n:Nat) (i:Int) (l:List Keep) (d:Dice),dOk d=true->dOk (edN m n i l d).2=true
 |0,_,_,_,_,h=>h
 |m+1,n,i,l,d,h=>Qwd m n (i+1) _ _ (IH n i 0 l d h).1
theorem QlZ (d:Dice):JA d=UJ.take 2∨JA d=UJ.take 3∨JA d=UJ:=by
 have hv:=Q7 (d:=d) (n:=3) (by omega)
 have e:Qj .i64 2 (Qh d 3)=2+Qh d 3:=Jz (by omega)
 unfold JA
 rw [e]
 rcases (show Qh d 3=0∨Qh d 3=1∨Qh d 3=2 by omega) with h|h|h<;>rw [h]
 ·exact .inl rfl
 ·exact .inr (.inl rfl)
 ·exact .inr (.inr rfl)
theorem Ql0 (d:Dice):2<=(JA d).length/\(JA d).length<=4/\(JA d).all nm1=true:=by
 rcases QlZ d with h|h|h<;>rw [h]<;>exact ⟨by decide,by decide,by decide⟩
abbrev QdT:Sh:=⟨[(0,.ptr 50000 0),(2,.ptr 2 0),(3,.ptr 3 0),(4,.ty (.sl .str)),(5,.ty tI)],[(2,.box Qm),(3,.bag [.ms 20300,.ms 20301,.ms 20302]),(29,.no),(57,.no),(73,.no),(20300,.arr 111 QC),(20301,.arr 113 Qk),(20302,.arr 62 Qp),(50000,.box Qt)]⟩
abbrev QK3:Sh:=⟨[(0,.ptr 50000 0),(2,.ptr 2 0),(3,.ptr 3 0),(4,.ty (.sl .str))],[(2,.box Qm),(3,.bag [.ms 20300,.ms 20301,.ms 20302]),(29,.no),(57,.no),(73,.no),(20300,.arr 111 QC),(20301,.arr 113 Qk),(20302,.arr 62 Qp),(50000,.box Qt)]⟩
abbrev QdU:Sh:=⟨[(0,.ptr 50000 0),(2,.ptr 2 0),(3,.ptr 3 0),(4,.ty (.sl .str)),(6,.ty tI),(7,.ty tI)],[(2,.box Qm),(3,.bag [.ms 20300,.ms 20301,.ms 20302]),(29,.no),(57,.no),(73,.no),(20300,.arr 111 QC),(20301,.arr 113 Qk),(20302,.arr 62 Qp),(50000,.box Qt)]⟩
abbrev QdV:Sh:=⟨[(0,.ptr 50000 0),(2,.ptr 2 0),(3,.ptr 3 0),(4,.ty (.sl .str)),(6,.ty tI)],[(2,.box Qm),(3,.bag [.ms 20300,.ms 20301,.ms 20302]),(29,.no),(57,.no),(73,.no),(20300,.arr 111 QC),(20301,.arr 113 Qk),(20302,.arr 62 Qp),(50000,.box Qt)]⟩
abbrev QK4:Sh:=⟨[(0,.ptr 50000 0),(2,.ptr 2 0),(3,.ptr 3 0)],[(2,.box Qm),(3,.bag [.ms 20300,.ms 20301,.ms 20302]),(29,.no),(57,.no),(73,.no),(20300,.arr 111 QC),(20301,.arr 113 Qk),(20302,.arr 62 Qp),(50000,.box Qt)]⟩
abbrev QdW:Sh:=⟨[(0,.ptr 50000 0),(2,.ptr 2 0),(3,.ptr 3 0),(8,.ty tI)],[(2,.box Qm),(3,.bag [.ms 20300,.ms 20301,.ms 20302]),(29,.no),(57,.no),(73,.no),(20300,.arr 111 QC),(20301,.arr 113 Qk),(20302,.arr 62 Qp),(50000,.box Qt)]⟩
abbrev QK5:Sh:=⟨[(2,.ptr 2 0),(3,.ptr 3 0)],[(2,.box Qm),(3,.bag [.ms 20300,.ms 20301,.ms 20302]),(29,.no),(57,.no),(73,.no),(20300,.arr 111 QC),(20301,.arr 113 Qk),(20302,.arr 62 Qp),(50000,.box Qt)]⟩
def Ql1:Fg:=QdT.f
def Ql2:Fg:=QdU.f
def Ql3:Fg:=QdV.f
def Ql4:Fg:=QdW.f
def V6:TC:=aF Tryz.f16 [(122,.nf 3 2 62 20302),(122,.nf 3 1 113 20301),(122,.nf 3 0 111 20300),(122,pL 0 Ql1),(1955,.fg ⟨[(0,none),(2,none),(3,none),(4,some (.sl .str))],[(2,some Qm),(3,some Qm),(29,none),(57,none),(73,none),(20300,none),(20301,none),(20302,none),(50000,some Qt)]⟩),(1956,pD [(0,[3,29,57,73,20300,20301,20302]),(1,[3,29,57,73,20300,20301,20302]),(2,[50000]),(3,[]),(4,[]),(5,[]),(6,[]),(7,[27,5027,10027,15027,50000]),(8,[]),(9,[2,3,29,57,73,5029,10029,15029,20300,20301,20302]),(10,[3,29,57,73,20300,20301,20302]),(11,[2,3,29,57,73,20300,20301,20302])] (.of [0,1,2,3,4,5,6,7,8,9,10,11])),(250,.nf 3 2 62 20302),(250,.nf 3 0 111 20300),(250,.nf 3 1 113 20301),(250,pL 2 Ql3),(4003,.fg ⟨[(0,none),(2,none),(3,none)],[(2,some Qm),(3,some Qm),(29,none),(57,none),(73,none),(20300,none),(20301,none),(20302,none),(50000,some Qt)]⟩),(16018,.nf 3 2 62 20302),(16018,.nf 3 0 111 20300),(16018,.nf 3 1 113 20301),(16018,pL 1 Ql2),(256291,.fg ⟨[(0,none),(2,none),(3,none),(4,some (.sl .str)),(6,some tI)],[(2,some Qm),(3,some Qm),(29,none),(57,none),(73,none),(20300,none),(20301,none),(20302,none),(50000,some Qt)]⟩),(506,.nf 3 1 113 20301),(506,.nf 3 0 111 20300),(506,.nf 3 2 62 20302),(506,pL 3 Ql4),(8099,.fg ⟨[(2,none),(3,none)],[(2,some Qm),(3,some Qm),(29,none),(57,none),(73,none),(20300,none),(20301,none),(20302,none),(50000,some Qt)]⟩),(8100,pD [(0,[3,29,57,73,20300,20301,20302]),(1,[3,29,57,73,20300,20301,20302]),(2,[50000]),(3,[50000]),(4,[]),(5,[70,5070,10070,15070,50000]),(6,[71,5071,10071,15071,50000]),(7,[]),(8,[2,3,29,57,73,5073,10073,15073,20300,20301,20302]),(9,[3,29,57,73,20300,20301,20302]),(10,[2,3,29,57,73,20300,20301,20302])] (.of [0,1,2,3,4,5,6,7,8,9,10]))]
def Qwe:TC:=lb 0 V6
def Qwf:TC:=lb 1 V6
def Qwg:TC:=lb 2 V6
def Qwh:TC:=lb 3 V6
def Qwi (x4:List ByteArray)(x5:Int)(y2:Estate)(Qb:List Endpoint)(Qg:List Keep)(Qd:List Item)(Qa:Dice):VS:=QdT.st ((),(),(),x4,x5,()) (y2,((),(),(),()),(),(),(),Qb,Qg,Qd,Qa,())
def Ql5 (x4:List ByteArray)(y2:Estate)(Qb:List Endpoint)(Qg:List Keep)(Qd:List Item)(Qa:Dice):VS:=QK3.st ((),(),(),x4,()) (y2,((),(),(),()),(),(),(),Qb,Qg,Qd,Qa,())
def Qwj (x4:List ByteArray)(x6 x7:Int)(y2:Estate)(Qb:List Endpoint)(Qg:List Keep)(Qd:List Item)(Qa:Dice):VS:=QdU.st ((),(),(),x4,x6,x7,()) (y2,((),(),(),()),(),(),(),Qb,Qg,Qd,Qa,())
def V7 (x4:List ByteArray)(x6:Int)(y2:Estate)(Qb:List Endpoint)(Qg:List Keep)(Qd:List Item)(Qa:Dice):VS:=QdV.st ((),(),(),x4,x6,()) (y2,((),(),(),()),(),(),(),Qb,Qg,Qd,Qa,())
def Ql6 (y2:Estate)(Qb:List Endpoint)(Qg:List Keep)(Qd:List Item)(Qa:Dice):VS:=QK4.st ((),(),(),()) (y2,((),(),(),()),(),(),(),Qb,Qg,Qd,Qa,())
def Qwk (x8:Int)(y2:Estate)(Qb:List Endpoint)(Qg:List Keep)(Qd:List Item)(Qa:Dice):VS:=QdW.st ((),(),(),x8,()) (y2,((),(),(),()),(),(),(),Qb,Qg,Qd,Qa,())
def Ql7 (y2:Estate)(Qb:List Endpoint)(Qg:List Keep)(Qd:List Item)(Qa:Dice):VS:=QK5.st ((),(),()) (y2,((),(),(),()),(),(),(),Qb,Qg,Qd,Qa,())
def QK6:VS->Option (Bool×List (Bool×Exit×VS)):=mkL QdT (fun x y=>(dOk y.2.2.2.2.2.2.2.2.1&&(decide (0<=x.2.2.2.2.1/\x.2.2.2.2.1<=x.2.2.2.1.length/\x.2.2.2.1.length<=4/\y.2.2.2.2.2.1.length<=x.2.2.2.2.1)&&x.2.2.2.1.all nm1))) (fun x y=>[(true,.exit 0,Ql5 (x.2.2.2.1) (y.1) (y.2.2.2.2.2.1++(mkZ (x.2.2.2.1.drop x.2.2.2.2.1.toNat) y.2.2.2.2.2.2.2.2.1).1) (y.2.2.2.2.2.2.1) (y.2.2.2.2.2.2.2.1) ((mkZ (x.2.2.2.1.drop x.2.2.2.2.1.toNat) y.2.2.2.2.2.2.2.2.1).2))])
def QK7:VS->Option (Bool×List (Bool×Exit×VS)):=mkL QdU (fun x y=>(dOk y.2.2.2.2.2.2.2.2.1&&decide (0<=x.2.2.2.2.2.1/\x.2.2.2.2.2.1<=x.2.2.2.1.length/\x.2.2.2.1.length<=4/\0<=x.2.2.2.2.1/\x.2.2.2.2.1<=4/\y.2.2.2.2.2.2.1.length<=4*x.2.2.2.2.1+x.2.2.2.2.2.1))) (fun x y=>[(true,.exit 4,V7 (x.2.2.2.1) (x.2.2.2.2.1) (y.1) (y.2.2.2.2.2.1) ((edM (x.2.2.2.1.length-x.2.2.2.2.2.1).toNat x.2.2.2.2.1 x.2.2.2.2.2.1 y.2.2.2.2.2.2.1 y.2.2.2.2.2.2.2.2.1).1) (y.2.2.2.2.2.2.2.1) ((edM (x.2.2.2.1.length-x.2.2.2.2.2.1).toNat x.2.2.2.2.1 x.2.2.2.2.2.1 y.2.2.2.2.2.2.1 y.2.2.2.2.2.2.2.2.1).2))])
def QK8:VS->Option (Bool×List (Bool×Exit×VS)):=mkL QdV (fun x y=>(dOk y.2.2.2.2.2.2.2.2.1&&decide (0<=x.2.2.2.2.1/\x.2.2.2.2.1<=x.2.2.2.1.length/\x.2.2.2.1.length<=4/\y.2.2.2.2.2.2.1.length<=4*x.2.2.2.2.1))) (fun x y=>[(true,.exit 2,Ql6 (y.1) (y.2.2.2.2.2.1) ((edN (x.2.2.2.1.length-x.2.2.2.2.1).toNat x.2.2.2.1.length x.2.2.2.2.1 y.2.2.2.2.2.2.1 y.2.2.2.2.2.2.2.2.1).1) (y.2.2.2.2.2.2.2.1) ((edN (x.2.2.2.1.length-x.2.2.2.2.1).toNat x.2.2.2.1.length x.2.2.2.2.1 y.2.2.2.2.2.2.1 y.2.2.2.2.2.2.2.2.1).2))])
def QK9:VS->Option (Bool×List (Bool×Exit×VS)):=mkL QdW (fun x y=>(dOk y.2.2.2.2.2.2.2.2.1&&decide (0<=x.2.2.2.1/\x.2.2.2.1<=3/\y.2.2.2.2.2.2.2.1.length+x.2.2.2.1.toNat<=100))) (fun x y=>[(true,.exit 6,Ql7 (y.1) (y.2.2.2.2.2.1) (y.2.2.2.2.2.2.1) (y.2.2.2.2.2.2.2.1++(itZ x.2.2.2.1.toNat y.2.2.2.2.2.2.2.2.1).1) ((itZ x.2.2.2.1.toNat y.2.2.2.2.2.2.2.2.1).2))])
def Gx:G:=gG 76 [(32,Xl),(48,VC),(49,QbT),(58,QdQ)] (Ls [QK6,QK7,QK8,QK9])
def QdX (x4:List ByteArray)(x5:Int)(y2:Estate)(Qb:List Endpoint)(Qg:List Keep)(Qd:List Item)(Qa:Dice):OX:=Qx (QA Gx Ql1 Qwe) (Qwi x4 x5 y2 Qb Qg Qd Qa)
def V8 (kk:List ByteArray->Int->Estate->List Endpoint->List Keep->List Item->Dice->OX)(x4:List ByteArray)(x5:Int)(y2:Estate)(Qb:List Endpoint)(Qg:List Keep)(Qd:List Item)(Qa:Dice):OX:=
 let a3:=lgt .str x4 (Int.toNat x5)
 let a1:=epV Qa a3
 let a2:=((a1.2).1,(((a1.2).2).1,((((a1.2).2).2).1,(((((a1.2).2).2).2).1,((((((a1.2).2).2).2).2).1,(((((((a1.2).2).2).2).2).2).1,((((((((a1.2).2).2).2).2).2).2).1,(((((((((a1.2).2).2).2).2).2).2).2).1,()))))))))
 br (ilt x5 (Qc x4)) (br (cIx x4 x5) (br (Fn Qa a3) (br (Qq Qb ([(a1.1,a2)]) 144) (kk x4 (Qj .i64 x5 1) y2 (Qb++([(a1.1,a2)])) Qg Qd (epN Qa a3)) none) none) none) (some (.exit 0,Ql5 x4 y2 Qb Qg Qd Qa))
def QdY (x4:List ByteArray)(x5:Int)(y2:Estate)(Qb:List Endpoint)(Qg:List Keep)(Qd:List Item)(Qa:Dice):OX:=
 let a1:=mkZ (x4.drop x5.toNat) Qa
 some (.exit 0,Ql5 (x4) (y2) (Qb++a1.1) (Qg) (Qd) (a1.2))
theorem Qwl (x4:List ByteArray)(x5:Int)(y2:Estate)(Qb:List Endpoint)(Qg:List Keep)(Qd:List Item)(Qa:Dice):QdX x4 x5 y2 Qb Qg Qd Qa=V8 QdX x4 x5 y2 Qb Qg Qd Qa:=lnT (x:=V8 (fun x4 x5 y2 Qb Qg Qd Qa=>some (.normal,Qwi x4 x5 y2 Qb Qg Qd Qa)) x4 x5 y2 Qb Qg Qd Qa) (by simp only [V8,nxA];rfl)
def QdZ (x4:List ByteArray)(x6 x7:Int)(y2:Estate)(Qb:List Endpoint)(Qg:List Keep)(Qd:List Item)(Qa:Dice):OX:=Qx (QA Gx Ql2 Qwf) (Qwj x4 x6 x7 y2 Qb Qg Qd Qa)
def V9 (kk:List ByteArray->Int->Int->Estate->List Endpoint->List Keep->List Item->Dice->OX)(x4:List ByteArray)(x6 x7:Int)(y2:Estate)(Qb:List Endpoint)(Qg:List Keep)(Qd:List Item)(Qa:Dice):OX:=
 let a1:=Qj .i64 x7 1
 br (ilt x7 (Qc x4)) (br (ine x6 x7) (br (Qz Qa 3) (br (ieq (Qh Qa 3) 0) (br (Qq Qg ([(x6,(x7,()))]) 16) (kk x4 x6 a1 y2 Qb (Qg++([(x6,(x7,()))])) Qd (Qe Qa 3)) none) (kk x4 x6 a1 y2 Qb Qg Qd (Qe Qa 3))) none) (kk x4 x6 a1 y2 Qb Qg Qd Qa)) (some (.exit 4,V7 x4 x6 y2 Qb Qg Qd Qa))
def Qd0 (x4:List ByteArray)(x6 x7:Int)(y2:Estate)(Qb:List Endpoint)(Qg:List Keep)(Qd:List Item)(Qa:Dice):OX:=
 let a1:=edM (x4.length-x7).toNat x6 x7 Qg Qa
 some (.exit 4,V7 (x4) (x6) (y2) (Qb) (a1.1) (Qd) (a1.2))
theorem Qwm (x4:List ByteArray)(x6 x7:Int)(y2:Estate)(Qb:List Endpoint)(Qg:List Keep)(Qd:List Item)(Qa:Dice):QdZ x4 x6 x7 y2 Qb Qg Qd Qa=V9 QdZ x4 x6 x7 y2 Qb Qg Qd Qa:=lnT (x:=V9 (fun x4 x6 x7 y2 Qb Qg Qd Qa=>some (.normal,Qwj x4 x6 x7 y2 Qb Qg Qd Qa)) x4 x6 x7 y2 Qb Qg Qd Qa) (by simp only [V9,nxA];rfl)
def Qd1 (x4:List ByteArray)(x6:Int)(y2:Estate)(Qb:List Endpoint)(Qg:List Keep)(Qd:List Item)(Qa:Dice):OX:=Qx (QA Gx Ql3 Qwg) (V7 x4 x6 y2 Qb Qg Qd Qa)
def Qaa (kk:List ByteArray->Int->Estate->List Endpoint->List Keep->List Item->Dice->OX)(x4:List ByteArray)(x6:Int)(y2:Estate)(Qb:List Endpoint)(Qg:List Keep)(Qd:List Item)(Qa:Dice):OX:=
 let a1:=(edM (x4.length-(0:Int)).toNat x6 (0:Int) Qg Qa)
 br (ilt x6 (Qc x4)) (br (dOk Qa&&decide (0<=(0:Int)/\(0:Int)<=x4.length/\x4.length<=4/\0<=x6/\x6<=4/\Qg.length<=4*x6+(0:Int))) (kk (x4) (Qj .i64 (x6) 1) (y2) (Qb) (a1.1) (Qd) (a1.2)) none) (some (.exit 2,Ql6 y2 Qb Qg Qd Qa))
def Qd2 (x4:List ByteArray)(x6:Int)(y2:Estate)(Qb:List Endpoint)(Qg:List Keep)(Qd:List Item)(Qa:Dice):OX:=
 let a1:=edN (x4.length-x6).toNat x4.length x6 Qg Qa
 some (.exit 2,Ql6 (y2) (Qb) (a1.1) (Qd) (a1.2))
theorem Qwn (x4:List ByteArray)(x6:Int)(y2:Estate)(Qb:List Endpoint)(Qg:List Keep)(Qd:List Item)(Qa:Dice):Qd1 x4 x6 y2 Qb Qg Qd Qa=Qaa Qd1 x4 x6 y2 Qb Qg Qd Qa:=lnT (x:=Qaa (fun x4 x6 y2 Qb Qg Qd Qa=>some (.normal,V7 x4 x6 y2 Qb Qg Qd Qa)) x4 x6 y2 Qb Qg Qd Qa) (by simp only [Qaa,nxA];rfl)
def Qd3 (x8:Int)(y2:Estate)(Qb:List Endpoint)(Qg:List Keep)(Qd:List Item)(Qa:Dice):OX:=Qx (QA Gx Ql4 Qwh) (Qwk x8 y2 Qb Qg Qd Qa)
def Qab (kk:Int->Estate->List Endpoint->List Keep->List Item->Dice->OX)(x8:Int)(y2:Estate)(Qb:List Endpoint)(Qg:List Keep)(Qd:List Item)(Qa:Dice):OX:=
 let a2:=(ByteArray.mk #[98,97,99,107,117,112])
 let a3:=(ByteArray.mk #[100,101,101,100])
 let a5:=(YQ Qa ([a2,a3]))
 let a6:=(ZA Qa ([a2,a3]))
 let a1:=Ww a5 a6
 let a4:=((a1.2).1,(((a1.2).2).1,((((a1.2).2).2).1,(((((a1.2).2).2).2).1,()))))
 br (igt x8 0) (br (YR Qa ([a2,a3])) (br (Ub a5 a6) (br (Qq Qd ([(a1.1,a4)]) 64) (kk (Qw .i64 x8 1) y2 Qb Qg (Qd++([(a1.1,a4)])) (Ua a5 a6)) none) none) none) (some (.exit 6,Ql7 y2 Qb Qg Qd Qa))
def Qd4 (x8:Int)(y2:Estate)(Qb:List Endpoint)(Qg:List Keep)(Qd:List Item)(Qa:Dice):OX:=some (.exit 6,Ql7 (y2) (Qb) (Qg) (Qd++(itZ x8.toNat Qa).1) ((itZ x8.toNat Qa).2))
theorem Qwo (x8:Int)(y2:Estate)(Qb:List Endpoint)(Qg:List Keep)(Qd:List Item)(Qa:Dice):Qd3 x8 y2 Qb Qg Qd Qa=Qab Qd3 x8 y2 Qb Qg Qd Qa:=lnT (x:=Qab (fun x8 y2 Qb Qg Qd Qa=>some (.normal,Qwk x8 y2 Qb Qg Qd Qa)) x8 y2 Qb Qg Qd Qa) (by simp only [Qab,nxA];rfl)
def r_f16 (d0:Dice):OV:=
 let a7:=(ByteArray.mk #[97,112,112])
 let a9:=(ByteArray.mk #[100,98])
 let a5:=(ByteArray.mk #[109,97,105,108])
 let a8:=(ByteArray.mk #[119,101,98])
 let a1:=(lsl ([a7,a9,a5,a8]) 0 (Qj .i64 2 (Qh d0 3)))
 let a4:=(mkZ (a1.drop (0:Int).toNat) (Qe d0 3))
 let a2:=(edN (a1.length-(0:Int)).toNat a1.length (0:Int) ([]:List Keep) (a4.2))
 let a3:=Qh (a2.2) 3
 let a6:=itZ a3.toNat (Qe (a2.2) 3)
 br (Qz d0 3) (br (cSl ([a7,a9,a5,a8]) 0 (Qj .i64 2 (Qh d0 3)) ((List.length ([a7,a9,a5,a8]):Nat):Int)) (br (dOk (Qe d0 3)&&(decide (0<=(0:Int)/\(0:Int)<=a1.length/\a1.length<=4/\([]:List Endpoint).length<=(0:Int))&&a1.all nm1)) (br (dOk (a4.2)&&decide (0<=(0:Int)/\(0:Int)<=a1.length/\a1.length<=4/\([]:List Keep).length<=4*(0:Int))) (br (Qz (a2.2) 3) (br (dOk (Qe (a2.2) 3)&&decide (0<=a3/\a3<=3/\([]:List Item).length+a3.toNat<=100)) (some (.t Qm ((([]:List Endpoint)++a4.1),((a2.1),((([]:List Item)++a6.1),()))),[.box (.t Qt (a6.2))])) none) none) none) none) none) none
theorem QLa (x4:List ByteArray)(x5:Int)(y2:Estate)(Qb:List Endpoint)(Qg:List Keep)(Qd:List Item)(Qa:Dice)(h:(dOk Qa&&(decide (0<=x5/\x5<=x4.length/\x4.length<=4/\Qb.length<=x5)&&x4.all nm1))=true):QdX x4 x5 y2 Qb Qg Qd Qa=QdY x4 x5 y2 Qb Qg Qd Qa:=by
 simp only [Bc,Ba] at h
 obtain ⟨hd,⟨h0,h1,h2,hl⟩,ha⟩:=h
 obtain ⟨k,rfl⟩:=Bl h0
 clear h0
 revert Qb Qa
 refine QQ x4 (fun k=> ∀ (Qb:List Endpoint) (Qa:Dice),dOk Qa=true->(Qb.length:Int)<=(k:Int)->QdX x4 (k:Int) y2 Qb Qg Qd Qa=QdY x4 (k:Int) y2 Qb Qg Qd Qa) ?_ ?_ k (by omega)
 ·intro Qb Qa _ _
  rw [Qwl]
  simp only [V8,QdY,Qc,Qy,BN,BM,Qi,Bb,BS,mkZ,BL]
 ·intro k hk ih Qb Qa hd hl
  rw [Qwl]
  have c1:Fn Qa x4[k]=true:=Bf.2 ⟨hd,Bi.1 ha _ (Bw hk)⟩
  simp only [V8,Qc,Qy,QK,hk,Bo,Qf,Bb,QO (show k<4611686018427387904 by omega),QL (y:= .str) hk,c1]
  refine brY (Q1 (by omega) (by simp only [Bh];omega)) ?_
  refine Eq.trans (ih (Qb++[epV Qa x4[k]]) (epN Qa x4[k]) (QnC hd) (by simp only [Bm,Bh];omega)) ?_
  simp only [QdY,Bb,Bg hk,mkZ,BI,BH]
theorem QLb (x4:List ByteArray)(x6 x7:Int)(y2:Estate)(Qb:List Endpoint)(Qg:List Keep)(Qd:List Item)(Qa:Dice)(h:(dOk Qa&&decide (0<=x7/\x7<=x4.length/\x4.length<=4/\0<=x6/\x6<=4/\Qg.length<=4*x6+x7))=true):QdZ x4 x6 x7 y2 Qb Qg Qd Qa=Qd0 x4 x6 x7 y2 Qb Qg Qd Qa:=by
 simp only [Bc,Ba] at h
 obtain ⟨hd,h0,h1,h2,h3,h4,hl⟩:=h
 have key: ∀ (m:Nat) (x7:Int) (Qg:List Keep) (Qa:Dice),x7+m=x4.length->0<=x7->dOk Qa=true->(Qg.length:Int)<=4*x6+x7->QdZ x4 x6 x7 y2 Qb Qg Qd Qa=Qd0 x4 x6 x7 y2 Qb Qg Qd Qa:=by
  intro m
  induction m with
  |zero=>
   intro x7 Qg Qa e _ _ _
   rw [Qwm]
   have e1:x7=(x4.length:Int):=by omega
   subst e1
   simp only [V9,Qd0,Qc,Qy,BN,BM,Qi,Int.sub_self,By,edM]
  |succ m ih=>
   intro x7 Qg Qa e h0 hd hl
   rw [Qwm]
   have c1:Qz Qa 3=true:=JD hd (by omega)
   have c2:Qq Qg [(x6,(x7,()))] 16=true:=Q1 (by omega) (by simp only [Bh];omega)
   have e1:Qj .i64 x7 1=x7+1:=Jz (by omega)
   have e2:((x4.length:Int)-x7).toNat=m+1:=by omega
   have e3:((x4.length:Int)-(x7+1)).toNat=m:=by omega
   simp only [V9,show ilt x7 (Qc x4)=true from Be (by simp only [Qc];omega),Qf,c1,c2,e1]
   rw [ih (x7+1) Qg Qa (by omega) (by omega) hd (by omega),ih (x7+1) Qg (Qe Qa 3) (by omega) (by omega) (QB hd) (by omega),ih (x7+1) (Qg++[(x6,(x7,()))]) (Qe Qa 3) (by omega) (by omega) (QB hd) (by simp only [Bm,Bh];omega)]
   simp only [Qd0,e2,e3,edM]
   cases ine x6 x7<;>cases ieq (Qh Qa 3) 0<;>rfl
 exact key ((x4.length:Int)-x7).toNat x7 Qg Qa (by omega) h0 hd hl
theorem QLc (x4:List ByteArray)(x6:Int)(y2:Estate)(Qb:List Endpoint)(Qg:List Keep)(Qd:List Item)(Qa:Dice)(h:(dOk Qa&&decide (0<=x6/\x6<=x4.length/\x4.length<=4/\Qg.length<=4*x6))=true):Qd1 x4 x6 y2 Qb Qg Qd Qa=Qd2 x4 x6 y2 Qb Qg Qd Qa:=by
 simp only [Bc,Ba] at h
 obtain ⟨hd,h0,h1,h2,hl⟩:=h
 have key: ∀ (m:Nat) (x6:Int) (Qg:List Keep) (Qa:Dice),x6+m=x4.length->0<=x6->dOk Qa=true->(Qg.length:Int)<=4*x6->Qd1 x4 x6 y2 Qb Qg Qd Qa=Qd2 x4 x6 y2 Qb Qg Qd Qa:=by
  intro m
  induction m with
  |zero=>
   intro x6 Qg Qa e _ _ _
   rw [Qwn]
   have e1:x6=(x4.length:Int):=by omega
   subst e1
   simp only [Qaa,Qd2,Qc,Qy,BN,BM,Qi,Int.sub_self,By,edN]
  |succ m ih=>
   intro x6 Qg Qa e h0 hd hl
   rw [Qwn]
   have e1:Qj .i64 x6 1=x6+1:=Jz (by omega)
   have e2:((x4.length:Int)-x6).toNat=m+1:=by omega
   have e3:((x4.length:Int)-(x6+1)).toNat=m:=by omega
   have e4:((x4.length:Int)-0).toNat=x4.length:=by omega
   have hz:=IH x4.length x6 0 Qg Qa hd
   simp only [Qaa,show ilt x6 (Qc x4)=true from Be (by simp only [Qc];omega),Qf,e1,e4,hd,Bu]
   refine brY (Be (by omega)) ?_
   rw [ih (x6+1) _ _ (by omega) (by omega) hz.1 (by omega)]
   simp only [Qd2,e2,e3,edN]
 exact key ((x4.length:Int)-x6).toNat x6 Qg Qa (by omega) h0 hd hl
theorem QLd (x8:Int)(y2:Estate)(Qb:List Endpoint)(Qg:List Keep)(Qd:List Item)(Qa:Dice)(h:(dOk Qa&&decide (0<=x8/\x8<=3/\Qd.length+x8.toNat<=100))=true):Qd3 x8 y2 Qb Qg Qd Qa=Qd4 x8 y2 Qb Qg Qd Qa:=by
 simp only [Bc,Ba] at h
 obtain ⟨hd,h0,h1,hl⟩:=h
 obtain ⟨n,rfl⟩:=Bl h0
 rw [Bb] at hl
 have key: ∀ (n:Nat) (Qd:List Item) (Qa:Dice),dOk Qa=true->Qd.length+n<=100->Qd3 (n:Int) y2 Qb Qg Qd Qa=Qd4 (n:Int) y2 Qb Qg Qd Qa:=by
  intro n
  induction n with
  |zero=>
   intro Qd Qa _ _
   rw [Qwo]
   simp only [Qab,Qd4,show igt ((0:Nat):Int) 0=false from rfl,Qi,Bb,itZ,BL]
  |succ n ih=>
   intro Qd Qa hd hl
   rw [Qwo]
   have e2:Qw .i64 ((n+1:Nat):Int) 1=(n:Int):=(JO (by omega)).trans (by omega)
   have c1:YR Qa sIt=true:=by simp [YR,hd]
   have c2:Ub (YQ Qa sIt) (ZA Qa sIt)=true:=GM hd
   have c3: ∀ v,Qq Qd [v] 64=true:=fun v=>Q1 (by omega) (by simp only [Bh];omega)
   simp only [Qab,show igt ((n+1:Nat):Int) 0=true from Be (by omega),Qf,e2,c1,c2,c3]
   refine Eq.trans (ih _ _ (Vz (s:=ZA Qa sIt) (GM hd)) (by simp only [Bm,Bh];omega)) ?_
   simp only [Qd4,Bb,itZ,BI,BH]
 exact key n Qd Qa hd (by omega)
theorem QLe:LO Gx Ql1 Qwe 0:=QI (s:=QdT) fun x y h _ q=>by simp only [QG,QH] at q;exact (QLa x.2.2.2.1 x.2.2.2.2.1 y.1 y.2.2.2.2.2.1 y.2.2.2.2.2.2.1 y.2.2.2.2.2.2.2.1 y.2.2.2.2.2.2.2.2.1 h).trans q
theorem QLf:LO Gx Ql2 Qwf 1:=QI (s:=QdU) fun x y h _ q=>by simp only [QG,QH] at q;exact (QLb x.2.2.2.1 x.2.2.2.2.1 x.2.2.2.2.2.1 y.1 y.2.2.2.2.2.1 y.2.2.2.2.2.2.1 y.2.2.2.2.2.2.2.1 y.2.2.2.2.2.2.2.2.1 h).trans q
theorem QLg:LO Gx Ql3 Qwg 2:=QI (s:=QdV) fun x y h _ q=>by simp only [QG,QH] at q;exact (QLc x.2.2.2.1 x.2.2.2.2.1 y.1 y.2.2.2.2.2.1 y.2.2.2.2.2.2.1 y.2.2.2.2.2.2.2.1 y.2.2.2.2.2.2.2.2.1 h).trans q
theorem QLh:LO Gx Ql4 Qwh 3:=QI (s:=QdW) fun x y h _ q=>by simp only [QG,QH] at q;exact (QLd x.2.2.2.1 y.1 y.2.2.2.2.2.1 y.2.2.2.2.2.2.1 y.2.2.2.2.2.2.2.1 y.2.2.2.2.2.2.2.2.1 h).trans q
set_option maxRecDepth 100000 in
theorem s_f16 (d:Dice)(h:dOk d=true):r_f16 d=some (.t Qm (mkX d),[.box (.t Qt (mkXN d))]):=by
 have hv:=Q7 (d:=d) (n:=3) (by omega)
 have e:Qj .i64 2 (Qh d 3)=2+Qh d 3:=Jz (by omega)
 have c1:Qz d 3=true:=JD h (by omega)
 have hn:=Ql0 d
 have hd:=QB (n:=3) h
 have hz:=QlY (JA d) (Qe d 3) hd
 have hy1:dOk (Yy d).2=true:=Qwd (JA d).length (JA d).length 0 [] _ hz
 have hv3:=Q7 (d:=(Yy d).2) (n:=3) (by omega)
 have e4:(((JA d).length:Int)-0).toNat=(JA d).length:=by omega
 simp only [r_f16,show lsl UJ 0 (Qj .i64 2 (Qh d 3))=JA d from rfl,BV,By,BG,e4]
 simp only [show edN (JA d).length (JA d).length 0 [] (mkZ (JA d) (Qe d 3)).2=Yy d from rfl]
 refine brY c1 (brY (Be (by rw [e];refine ⟨by omega,by omega, ?_, ?_⟩<;>simp<;>omega)) (brY ?_ (brY ?_ (brY (JD hy1 (by omega)) (brY ?_ rfl)))))
 ·rw [hd,hn.2.2,B7,Bu]
  exact Be (by simp only [Bv];omega)
 ·rw [hz,Bu]
  exact Be (by simp only [Bv];omega)
 ·rw [QB hy1,Bu]
  exact Be (by simp only [Bv];omega)
def Qwp:Ent:=Xx Qt .nil (fun d x=>(dOk d)) (fun d x=>(.t Qm (mkX d))) (fun d x=>(mkXN d))
theorem ms_f16:EM 16 Qwp:=mS (lk:=lkL (lkc QLe (lkc QLg (lkc QLf (lkc QLh lkn))))) Gx V6 [((.c 2 true 3),some Qm)] false (gB (gD XM (gD Qde (gD QhM (gC Qv4 Qv5 gN))))) fun m=>WA m rfl fun d x hok=>kT (s_f16 d hok)
end
end Go.Proofs.YthlcobdnemhcdaaGreat.K.PE
noncomputable section
namespace Go.Proofs.YthlcobdnemhcdaaGreat.K
open Go.RowKit
noncomputable section
def noAn (e:Endpoint):Endpoint:=(e.1,(e.2.1,(e.2.2.1,(e.2.2.2.1,(e.2.2.2.2.1,(e.2.2.2.2.2.1,(([]:List Int),e.2.2.2.2.2.2.2)))))))
def an (b:Bool)(e:Endpoint):Endpoint:=bif b then noAn e else e
end
end Go.Proofs.YthlcobdnemhcdaaGreat.K
