import Derived.Test.YtmjnnemhoeolgaaGreatQ8
import Derived.Test.YtmjnnemhoeolgaaGreatQ7
set_option linter.unusedSimpArgs false
set_option linter.unusedVariables false
noncomputable section
namespace Go.Proofs.YtmjnnemhoeolgaaGreat.K
open Go.RowKit
theorem QAd {X:Nat->Nat->Prop}{w w':World}(h:Below w.heap.size w w'):Ext0 X w X w':=⟨h.size,fun b o hb hx=>⟨hx,h.cell (p:=⟨b,o,none⟩) hb⟩⟩
theorem QAe (s:Endpoint)(o:Keep):(Ji s o).1=[]∨ ∃ a b c d,(Ji s o).1=[a,b,c,d]:=by
 unfold Ji
 cases QN s with
 |false=>exact .inl rfl
 |true=>
  cases ine (QX o.2.1).2 0 with
  |true=>exact .inl rfl
  |false=>
   cases (Zc s o.2.1).2 with
   |false=>exact .inl rfl
   |true=>exact .inr ⟨_,_,_,_,rfl⟩
theorem mV_mth (s:Endpoint)(o:Keep):Value.agg (mV o (Ji s o).1)=kV (JZ s o):=by
 unfold mV kV JZ cU
 rw [BG,BG,List.map_flatMap]
 rfl
theorem QnV (s:Endpoint)(o:Keep):(JZ s o).length=10:=by
 have h:(G4 (Ji s o).1).length=4:=by simp [G4]
 have h2:=QeV (G4 (Ji s o).1)
 have h3:((G4 (Ji s o).1).flatMap fun u=>[u.1,u.2.1]).length=(cU (G4 (Ji s o).1)).length:=by
  unfold cU
  rw [List.length_flatMap,List.length_flatMap]
  rfl
 unfold JZ
 rw [Bt,Bt,h3,h2,h]
def EpV (w:World)(s:Endpoint)(v0 v1 v2 v3 v4 v5 v6 v7 v8:Value):Prop:=
 (∃ (X:Nat->Nat->Prop) (σ:Pl),(∀ b q,X b q->b<w.heap.size)/\C X w σ (V.t Qo s).d (.agg #[v0,v1,v2,v3,v4,v5,v6,v7,v8]))∧
 (v0.oneCell'=true/\v1.oneCell'=true/\v2.oneCell'=true/\v3.oneCell'=true/\v4.oneCell'=true/\v5.oneCell'=true/\v6.oneCell'=true/\v7.oneCell'=true/\v8.oneCell'=true)
def Stand (w w':World):Prop:=w.heap.size<=w'.heap.size∧ ∀ b o,b<w.heap.size->w'.cell? ⟨b,o,none⟩=w.cell? ⟨b,o,none⟩
theorem Stand.below {w w':World}(h:Below w.heap.size w w'):Stand w w':=⟨h.size,fun b o hb=>h.cell (p:=⟨b,o,none⟩) hb⟩
theorem Stand.trans {a b c:World}(h:Stand a b)(k:Stand b c):Stand a c:=⟨Dc h.1 k.1,fun x o hx=>(k.2 x o (BP hx h.1)).trans (h.2 x o hx)⟩
theorem EpV.stand {w w':World}{s:Endpoint}{v0 v1 v2 v3 v4 v5 v6 v7 v8:Value}(h:EpV w s v0 v1 v2 v3 v4 v5 v6 v7 v8)(k:Stand w w'):EpV w' s v0 v1 v2 v3 v4 v5 v6 v7 v8:=by
 obtain ⟨⟨X,σ,hf,hc⟩,h1⟩:=h
 exact ⟨⟨X,σ,fun b q hq=>BP (hf b q hq) k.1,C.ext0 ⟨k.1,fun b o hb hx=>⟨hx,k.2 b o hb⟩⟩ _ _ (fun _ _=>rfl) hc⟩,h1⟩
theorem QnW {w:World}{s:Endpoint}{o:Keep}{v0 v1 v2 v3 v4 v5 v6 v7 v8:Value}(hs:EpV w s v0 v1 v2 v3 v4 v5 v6 v7 v8)(hl:Q0 s=true):
  Calls Tryz.prog 59 #[.agg #[v0,v1,v2,v3,v4,v5,v6,v7,v8],G3 o] w fun e w'=>e= .returned (kV (JZ s o))/\Below w.heap.size w w':=by
 obtain ⟨o0,o1,o2,o3,o4,o5,o6,o7,o8⟩:=hs.2
 rw [←mV_mth]
 exact of_any o0 o1 o2 o3 o4 o5 o6 o7 o8 (fun W hW=>by
  obtain ⟨⟨X,σ,hf,hc⟩,_⟩:=hs.stand (Stand.below hW)
  exact QKB hf hc hl) (QAe s o)
theorem QnX {X:Nat->Nat->Prop}{w:World}{σ:Pl}{s:Endpoint}{u:Value}(h:C X w σ (V.t Qo s).d u): ∃ v0 v1 v2 v3 v4 v5 v6 v7 v8,u= .agg #[v0,v1,v2,v3,v4,v5,v6,v7,v8]∧
  (v0.oneCell'=true/\v1.oneCell'=true/\v2.oneCell'=true/\v3.oneCell'=true/\v4.oneCell'=true/\v5.oneCell'=true/\v6.oneCell'=true/\v7.oneCell'=true/\v8.oneCell'=true):=by
 simp only [V.d] at h
 rw [Ty.d_row Qo _ rfl] at h
 simp only [C] at h
 obtain ⟨us,rfl,h⟩:=h
 have hl:us.length=9:=h.len.trans (by rw [Qo.cells_len];rfl)
 have one: ∀ v∈us,v.oneCell'=true:=Cs.cell1 h (show (Qo.cells s).all D.cell1=true from rfl)
 match us,hl with
 | [v0,v1,v2,v3,v4,v5,v6,v7,v8],_=>exact ⟨v0,v1,v2,v3,v4,v5,v6,v7,v8,rfl,one _ (by simp),one _ (by simp),one _ (by simp),one _ (by simp),one _ (by simp),one _ (by simp),one _ (by simp),one _ (by simp),one _ (by simp)⟩
theorem QAf {X:Nat->Nat->Prop}{w:World}{σ:Pl}{e:Estate}{i:Int}{bv:Value}(hfin: ∀ b q,X b q->b<w.heap.size)(hs:C X w σ (V.t Qw e).d bv)(hok:YT e i=true):
  Calls Tryz.prog 55 #[bv,.int .i64 i] w fun en w'=> ∃ A c v0 v1 v2 v3 v4 v5 v6 v7 v8,en= .returned (.tuple #[.slice A (Jc e i).1.length c,.agg #[v0,v1,v2,v3,v4,v5,v6,v7,v8]])/\(Jc e i).1.length<=c/\c<=maxLen∧
   (0<(Jc e i).1.length→ ∃ b off,A=some ⟨b,off,none⟩/\b<w'.heap.size∧ ∀ j v,(cU (Jc e i).1)[j]? = some v->w'.cell? ⟨b,off+j,none⟩=some v)/\EpV w' (Jc e i).2 v0 v1 v2 v3 v4 v5 v6 v7 v8/\Below w.heap.size w w':=by
 have hF:Qx EC [.t Qw e,.t tI i] []=some (.tu [.t (.sl Qe) (Jc e i).1,.t Qo (Jc e i).2],[]):=by
  unfold EC
  exact Qbb (a:= .pr Qw (.pr tI .nil)) (x:=(e,(i,()))) (by simp [Ty.args,Qeu]) hok
 refine (UU (by decide) (Qkr.2 _ _ _ _ hF X w σ [bv,.int .i64 i] hfin Ql4 ⟨bv,_,rfl,hs,.int .i64 i,_,rfl,⟨rfl,rfl⟩,rfl⟩)).mono ?_
 rintro en w' ⟨u,X',σ',rfl,h1,h2⟩
 have h1:C X' w' σ' (.tu [.sl (Jc e i).1.length ((Jc e i).1.flatMap Qe.cells),(V.t Qo (Jc e i).2).d]) u:=h1
 simp only [C,Cs] at h1
 obtain ⟨vs,rfl,u1,us,rfl,⟨A,c,rfl,g1,g2,g3,g4⟩,u2,us2,rfl,hep,rfl⟩:=h1
 obtain ⟨v0,v1,v2,v3,v4,v5,v6,v7,v8,rfl,hone⟩:=QnX hep
 refine ⟨A,c,v0,v1,v2,v3,v4,v5,v6,v7,v8,rfl,g1,g2,fun hp=> ?_,⟨⟨X',σ',h2.fin,hep⟩,hone⟩,Ql5 h2⟩
 obtain ⟨b,off,vs,rfl,k1,k2⟩:=g4 hp
 rw [QeW k1] at k2
 exact ⟨b,off,rfl,k2.lt,fun j v hv=>k2.at_ j v hv⟩
theorem QAg {X:Nat->Nat->Prop}{w:World}{σ:Pl}{e:Estate}{i:Int}{bv:Value}(hfin: ∀ b q,X b q->b<w.heap.size)(hs:C X w σ (V.t Qw e).d bv)(hok:YT e i=true):
  Calls Tryz.prog 55 #[bv,.int .i64 i] w fun en w'=> ∃ A c X' σ' v0 v1 v2 v3 v4 v5 v6 v7 v8,en= .returned (.tuple #[.slice A (Jc e i).1.length c,.agg #[v0,v1,v2,v3,v4,v5,v6,v7,v8]])/\(Jc e i).1.length<=c/\c<=maxLen∧
   (∀ b q,X' b q->b<w'.heap.size)/\(∀ b q,b<w.heap.size->X b q->X' b q)/\(0<(Jc e i).1.length→ ∃ b off,A=some ⟨b,off,none⟩/\b<w'.heap.size∧ ¬ X' b off∧ ∀ j v,(cU (Jc e i).1)[j]? = some v->w'.cell? ⟨b,off+j,none⟩=some v)/\C X' w' σ' (V.t Qo (Jc e i).2).d (.agg #[v0,v1,v2,v3,v4,v5,v6,v7,v8])/\(v0.oneCell'=true/\v1.oneCell'=true/\v2.oneCell'=true/\v3.oneCell'=true/\v4.oneCell'=true/\v5.oneCell'=true/\v6.oneCell'=true/\v7.oneCell'=true/\v8.oneCell'=true)/\Below w.heap.size w w':=by
 have hF:Qx EC [.t Qw e,.t tI i] []=some (.tu [.t (.sl Qe) (Jc e i).1,.t Qo (Jc e i).2],[]):=by
  unfold EC
  exact Qbb (a:= .pr Qw (.pr tI .nil)) (x:=(e,(i,()))) (by simp [Ty.args,Qeu]) hok
 refine (UU (by decide) (Qkr.2 _ _ _ _ hF X w σ [bv,.int .i64 i] hfin Ql4 ⟨bv,_,rfl,hs,.int .i64 i,_,rfl,⟨rfl,rfl⟩,rfl⟩)).mono ?_
 rintro en w' ⟨u,X',σ',rfl,h1,h2⟩
 have h1:C X' w' σ' (.tu [.sl (Jc e i).1.length ((Jc e i).1.flatMap Qe.cells),(V.t Qo (Jc e i).2).d]) u:=h1
 simp only [C,Cs] at h1
 obtain ⟨vs,rfl,u1,us,rfl,⟨A,c,rfl,g1,g2,g3,g4⟩,u2,us2,rfl,hep,rfl⟩:=h1
 obtain ⟨v0,v1,v2,v3,v4,v5,v6,v7,v8,rfl,hone⟩:=QnX hep
 refine ⟨A,c,X',σ',v0,v1,v2,v3,v4,v5,v6,v7,v8,rfl,g1,g2,h2.fin,fun b q hb hq=>h2.old b q hb (fun i hi=>absurd hi (by simp)) hq,fun hp=> ?_,hep,hone,Ql5 h2⟩
 obtain ⟨b,off,vs,rfl,k1,k2⟩:=g4 hp
 rw [QeW k1] at k2
 have nx:=k2.nx 0 (by rw [QeV];omega)
 exact ⟨b,off,rfl,k2.lt,nx,fun j v hv=>k2.at_ j v hv⟩
theorem Qgd: ∀ (l:List Keep) (k:Nat) (hk:k<l.length),(cU l)[k*2]? = some (.int .i64 l[k].1)/\(cU l)[k*2+1]? = some (.int .i64 l[k].2.1)
 | [],_,h=>by simp at h
 |x::l,0,_=>⟨rfl,rfl⟩
 |x::l,k+1,h=>by
  have:=Qgd l k (by simpa using h)
  have e:cU (x::l)= .int .i64 x.1:: .int .i64 x.2.1::cU l:=rfl
  rw [e,show (k+1)*2=k*2+1+1 by omega,BS,BS,BS,BS]
  exact this
theorem QnY {w w':World}(h:Below w.heap.size w w'):w.grownBy w' none:=⟨h.os,h.tape,h.output,h.size,fun j hj _=>h.block j hj⟩
theorem QnZ {X:Nat->Nat->Prop}{w:World}{σ:Pl}{s:Estate}{u:Value}(h:C X w σ (V.t Qw s).d u): ∃ v0 v1 v2,u= .agg #[v0,v1,v2]/\(v0.oneCell'=true/\v1.oneCell'=true/\v2.oneCell'=true):=by
 simp only [V.d] at h
 rw [Ty.d_row Qw _ rfl] at h
 simp only [C] at h
 obtain ⟨us,rfl,h⟩:=h
 have hl:us.length=3:=h.len.trans (by rw [Qw.cells_len];rfl)
 have one: ∀ v∈us,v.oneCell'=true:=fun v hv=>Cs.cell1 h (show (Qw.cells s).all D.cell1=true from rfl) v hv
 match us,hl with
 | [v0,v1,v2],_=>exact ⟨v0,v1,v2,rfl,one _ (by simp),one _ (by simp),one _ (by simp)⟩
theorem QAh:ElemOk Tryz.prog 48 54 2 16:=ElemOk.of (.agg #[.int .i64 0,.int .i64 0]) (by kernel_rfl) (by kernel_rfl) (by kernel_rfl) (by decide)
theorem QAi {X:Nat->Nat->Prop}{w w':World}{σ:Pl}{d:D}{u:Value}(h:C X w σ d u)(k:Stand w w'):C X w' σ d u:=C.ext0 ⟨k.1,fun b o hb hx=>⟨hx,k.2 b o hb⟩⟩ _ _ (fun _ _=>rfl) h
def MapAt (w:World)(bm:Nat)(ks:List (List Int)):Prop:= ∃ es clk,w.heap[bm]? = some (.map es clk)/\Qc3 es.toList ks
theorem MapAt.below {w w':World}{bm:Nat}{ks:List (List Int)}(h:MapAt w bm ks)(hb:Below w.heap.size w w'):MapAt w' bm ks:=by
 obtain ⟨es,clk,h1,h2⟩:=h
 exact ⟨es,clk,(hb.block bm (BW.1 h1).1).trans h1,h2⟩
set_option maxRecDepth 50000 in
set_option maxHeartbeats 4000000 in
theorem QAj {X:Nat->Nat->Prop}{w:World}{σ:Pl}{b a:Estate}{i:Int}{u0 u1 u2 t0 t1 t2:Value}(hfin: ∀ b q,X b q->b<w.heap.size)
  (hb:C X w σ (V.t Qw b).d (.agg #[u0,u1,u2])) (ha:C X w σ (V.t Qw a).d (.agg #[t0,t1,t2])) (ou0:u0.oneCell'=true) (ou1:u1.oneCell'=true) (ou2:u2.oneCell'=true) (ot0:t0.oneCell'=true) (ot1:t1.oneCell'=true) (ot2:t2.oneCell'=true)
  (h1:YT b i=true) (h2:YT a i=true):
  Calls Tryz.prog 32 #[.agg #[u0,u1,u2],.agg #[t0,t1,t2],.int .i64 i] w fun en w'=> ∃ sv B,en= .returned sv/\w.heap.size<=B/\w'.ownsRow B 54 2 sv (YL b a i).length (cU (YL b a i))/\Below w.heap.size w w':=by
 have HB:=Lib.hid hb
 have HA:=Lib.hid ha
 have HF:=Lib.hid hfin
 have H1:=Lib.hid h1
 have H2:=Lib.hid h2
 clear hb ha hfin h1 h2
 have hmm:= @run_makeMap Tryz.prog
 go_enter Tryz.func32,Tryz.ntmps32
 go_wp2_with fail
 obtain ⟨Wa,ha⟩: ∃ Wa,Wa=w.alloc (.cells #[u0,u1,u2] 31):=⟨_,rfl⟩
 obtain ⟨Wb,hb⟩: ∃ Wb,Wb=Wa.alloc (.cells #[t0,t1,t2] 31):=⟨_,rfl⟩
 obtain ⟨Wc,hc⟩: ∃ Wc,Wc=Wb.alloc (.map #[] 0):=⟨_,rfl⟩
 obtain ⟨S,hS⟩: ∃ S,S=w.heap.size:=⟨_,rfl⟩
 rw [←ha, ← hb, ← hc, ← hS]
 have sa:Wa.heap.size=S+1:=by rw [ha,World.size_alloc,hS]
 have sb:Wb.heap.size=S+1+1:=by rw [hb,World.size_alloc,sa]
 have sc:Wc.heap.size=S+1+1+1:=by rw [hc,World.size_alloc,sb]
 have bW:Below w.heap.size w Wc:=by
  rw [hc,hb,ha]
  have e1:=(Below.refl w.heap.size w).alloc (BL _) (.cells #[u0,u1,u2] 31)
  have e2:=e1.alloc e1.size (.cells #[t0,t1,t2] 31)
  exact e2.alloc e2.size _
 have kB:Go.Proofs.YtmjnnemhoeolgaaGreat.Blk Wc (S+1) 31 #[t0,t1,t2]:=by
  rw [hc];refine Go.Proofs.YtmjnnemhoeolgaaGreat.Blk.alloc ?_ _;rw [hb, ← sa];exact Go.Proofs.YtmjnnemhoeolgaaGreat.Blk.new _ _ _
 have mp:MapAt Wc (S+1+1) []:=⟨#[],0,by rw [hc, ← sb];exact heap_alloc_new Wb _,fun e he=>by simp at he,fun z hz=>by simp at hz⟩
 have fX: ∀ b q,X b q->b<Wc.heap.size:=fun b q hq=>BP (HF.out b q hq) bW.size
 clear ha hb hc sa sb
 refine (QAf (X:=X) (σ:=σ) (i:=i) fX (QAi HB.out (Stand.below bW)) H1.out).mono ?_
 rintro en w1 ⟨A,c,v0,v1,v2,v3,v4,v5,v6,v7,v8,rfl,hc1,hc2,hcell,hep,hb1⟩
 have hsz:=hb1.size
 have kB:=kB.ext hb1
 have mp:=mp.below hb1
 have b1:Below S w w1:=hS▸WJ bW hb1 (by omega)
 have hln:(Jc b i).1.length<=64:=I1
 have hel:Q0 (Jc b i).2=true:=(Bi.1 (Bi.1 H1.out).2).2
 obtain ⟨l,hl⟩: ∃ l,l=(Jc b i).1:=⟨_,rfl⟩
 obtain ⟨s,hs⟩: ∃ s,s=(Jc b i).2:=⟨_,rfl⟩
 rw [←hl] at hc1 hcell hln ⊢
 rw [←hs] at hep hel
 have HW:=Lib.hid (show Stand w w1/\S+1+1+1<=w1.heap.size from ⟨(Stand.below bW).trans (Stand.below hb1),by omega⟩)
 obtain ⟨p0,p1,p2,p3,p4,p5,p6,p7,p8⟩:=hep.2
 have HE:=Lib.hid hep
 have HM:=Lib.hid mp
 have HC:=Lib.hid hcell
 have HL:=Lib.hid hl
 have HS:=Lib.hid hs
 have HB1:=Lib.hid b1
 have HSS:=Lib.hid hS
 have HEL:=Lib.hid hel
 have HKB:=Lib.hid kB
 clear bW kB mp fX hb1 hsz b1 hl hs hep hcell hS sc HB hel Wa Wb
 have sv0:=fun a m W=>run_store Tryz.prog W a v0 m p0
 have sv1:=fun a m W=>run_store Tryz.prog W a v1 m p1
 have sv2:=fun a m W=>run_store Tryz.prog W a v2 m p2
 have sv3:=fun a m W=>run_store Tryz.prog W a v3 m p3
 have sv4:=fun a m W=>run_store Tryz.prog W a v4 m p4
 have sv5:=fun a m W=>run_store Tryz.prog W a v5 m p5
 have sv6:=fun a m W=>run_store Tryz.prog W a v6 m p6
 have sv7:=fun a m W=>run_store Tryz.prog W a v7 m p7
 have sv8:=fun a m W=>run_store Tryz.prog W a v8 m p8
 generalize hn:l.length=n at*
 have HN:=Lib.hid hn
 clear hn
 go_wp2_with fail
 clear sv0 sv1 sv2 sv3 sv4 sv5 sv6 sv7 sv8
 obtain ⟨Q,hQ⟩: ∃ Q,Q=w1.heap.size:=⟨_,rfl⟩
 obtain ⟨W2,hW2⟩: ∃ W2,W2=w1.alloc (.cells #[v0,v1,v2,v3,v4,v5,v6,v7,v8] 61):=⟨_,rfl⟩
 rw [←hQ, ← hW2]
 have b2:Below w1.heap.size w1 W2:=hW2▸(Below.refl _ _).alloc (BL _) _
 have kQ:Go.Proofs.YtmjnnemhoeolgaaGreat.Blk W2 Q 61 #[v0,v1,v2,v3,v4,v5,v6,v7,v8]:=by rw [hW2,hQ];exact Go.Proofs.YtmjnnemhoeolgaaGreat.Blk.new _ _ _
 have bS:Below S w W2:=WJ HB1.out b2 (by have:=HW.out.2;omega)
 have mp:MapAt W2 (S+1+1) []:=HM.out.below b2
 have HE:=Lib.hid (HE.out.stand (Stand.below b2))
 have HB0:=Lib.hid bS
 have HKQ:=Lib.hid kQ
 have HKB:=Lib.hid (HKB.out.ext b2)
 have HW:=Lib.hid (show Stand w W2/\S+1+1+1<=Q/\Q<W2.heap.size from ⟨HW.out.1.trans (Stand.below b2),by have:=HW.out.2;omega,kQ.lt⟩)
 have HC2:=Lib.hid (show 0<n→ ∃ b off,A=some ⟨b,off,none⟩∧ ∀ j v,(cU l)[j]? = some v->W2.cell? ⟨b,off+j,none⟩=some v from fun h=>by
  obtain ⟨b,off,h1,h2,h3⟩:=HC.out h
  exact ⟨b,off,h1,fun j v hv=>(b2.cell (p:=⟨b,off+j,none⟩) h2).trans (h3 j v hv)⟩)
 have HM2:=Lib.hid mp
 clear hW2 b2 kQ bS mp HM HC HB1 hQ
 go_loopw [24] (fun iv wr=> ∃ k:Nat,k<=n/\iv= .int .i64 k/\Stand W2 wr/\Below S w wr/\MapAt wr (S+1+1) ((l.take k).map (JZ s))/\Go.Proofs.YtmjnnemhoeolgaaGreat.Blk wr Q 61 #[v0,v1,v2,v3,v4,v5,v6,v7,v8]) (fun iv _=>n-(intOf iv).toNat)
 case atStart=>exact ⟨0,B3 _,rfl,⟨BL _,fun _ _ _=>rfl⟩,HB0.out,by rw [List.take_zero];exact HM2.out,HKQ.out⟩
 case round=>
  obtain ⟨k,hk,rfl,hst,hbl,hmp,hkq⟩:=hrel
  have HKR:=Lib.hid hkq
  clear hkq
  have HST:=Lib.hid hst
  have HBL:=Lib.hid hbl
  have HMP:=Lib.hid hmp
  clear hst hbl hmp
  by_cases hlt:k<n
  ·have hkl:k<l.length:=by rw [HN.out];exact hlt
   obtain ⟨bb,off,rfl,hcs⟩:=HC2.out (by omega)
   obtain ⟨g0,g1⟩:=Qgd l k hkl
   obtain ⟨o,ho⟩: ∃ o,o=l[k]:=⟨_,rfl⟩
   rw [←ho] at g0 g1
   have dz: ∀ j v,W2.cell? ⟨bb,off+j,none⟩=some v->wr.cell? ⟨bb,off+j,none⟩=some v:=fun j v h=>by
    have hb:bb<W2.heap.size:=by
     rcases B8 bb W2.heap.size with h1|h1
     ·exact h1
     ·simp [World.cell?, Array.getElem?_eq_none h1] at h
    exact (HST.out.2 bb _ hb).trans h
   have d0:=dz _ _ (hcs _ _ g0)
   have d1:=dz _ _ (hcs _ _ g1)
   rw [←DB] at d1
   have yz: ∀ j,wr.cell? ⟨Q,j,none⟩=(#[v0,v1,v2,v3,v4,v5,v6,v7,v8]:Array Value)[j]? :=fun j=>(HST.out.2 Q j HW.out.2.2).trans (HKQ.out.cell j)
   have y0:=yz 0
   have y1:=yz 1
   have y2:=yz 2
   have y3:=yz 3
   have y4:=yz 4
   have y5:=yz 5
   have y6:=yz 6
   have y7:=yz 7
   have y8:=yz 8
   simp only [Ds,BY,BS] at y0 y1 y2 y3 y4 y5 y6 y7 y8
   replace y0:=fun ob=>Lib.cell?_alloc_some ob y0
   replace y1:=fun ob=>Lib.cell?_alloc_some ob y1
   replace y2:=fun ob=>Lib.cell?_alloc_some ob y2
   replace y3:=fun ob=>Lib.cell?_alloc_some ob y3
   replace y4:=fun ob=>Lib.cell?_alloc_some ob y4
   replace y5:=fun ob=>Lib.cell?_alloc_some ob y5
   replace y6:=fun ob=>Lib.cell?_alloc_some ob y6
   replace y7:=fun ob=>Lib.cell?_alloc_some ob y7
   replace y8:=fun ob=>Lib.cell?_alloc_some ob y8
   have HO:=Lib.hid (show l[k]? = some o by rw [ho];exact Bh hkl)
   clear dz yz hcs g0 g1 ho hkl
   go_wp2_with fail
   obtain ⟨W3,hW3⟩: ∃ W3,W3=wr.alloc (.cells #[.int .i64 o.1,.int .i64 o.2.1] 54):=⟨_,rfl⟩
   rw [←hW3]
   have b3:Below wr.heap.size wr W3:=hW3▸(Below.refl _ _).alloc (BL _) _
   have hep:=HE.out.stand (HST.out.trans (Stand.below b3))
   refine (QnW (o:=o) hep HEL.out).mono ?_
   rintro e w5 ⟨rfl,hb5⟩
   have mp5:=(HMP.out.below b3).below hb5
   obtain ⟨es,clk,m1,m2⟩:=mp5
   obtain ⟨w6,hrun,mp6,hg6⟩:=QFZ w5 (QnV s o) m1 m2
   have st5:Stand W2 w5:=(HST.out.trans (Stand.below b3)).trans (Stand.below hb5)
   have bl5:Below S w w5:=WJ (WJ HBL.out b3 (by have:=HW.out;have:=HST.out.1;omega)) hb5 (by have:=HW.out;have:=HST.out.1;have:=b3.size;omega)
   have st6:Stand W2 w6:=st5.trans ⟨hg6.size,fun b' o' hb'=>by
    by_cases hbm:b'=S+1+1
    ·subst hbm
     obtain ⟨es',clk',m3,_⟩:=mp6
     simp [World.cell?, m1,m3]
    ·have:=hg6.block b' hb' (fun e=>hbm (by injection e))
     simp [World.cell?, this]⟩
   have bl6:Below S w w6:=QqG bl5 hg6 (by omega) (by have:=HW.out;have:=st5.1;omega)
   have HK6:=Lib.hid (((HKR.out.ext b3).ext hb5).grown hg6 (fun e=>by have:=HW.out;injection e;omega))
   have HS6:=Lib.hid st6
   have HB6:=Lib.hid bl6
   have HM6:=Lib.hid mp6
   clear hW3 b3 hep hb5 m1 m2 mp6 hg6 st5 bl5 st6 bl6 d0 d1 y0 y1 y2 y3 y4 y5 y6 y7 y8
   obtain ⟨kv,hkv⟩: ∃ kv,kv=kV (JZ s o):=⟨_,rfl⟩
   rw [←hkv] at hrun ⊢
   have HKV:=Lib.hid hkv
   clear hkv
   go_wp2_with fail
   refine ⟨⟨k+1,hlt,by simp,HS6.out,HB6.out, ?_,HK6.out⟩,by simp [intOf];omega⟩
   have e:l.take (k+1)=l.take k++[o]:=by
    rw [List.take_add_one,HO.out]
    rfl
   rw [e,List.map_append]
   exact HM6.out
  ·obtain rfl:k=n:=by omega
   have hlk:l.take k=l:=List.take_of_length_le (by rw [HN.out];exact BL _)
   rw [hlk] at HMP
   have xz: ∀ j,wr.cell? ⟨S+1,j,none⟩=(#[t0,t1,t2]:Array Value)[j]? :=fun j=>(HST.out.2 (S+1) j (by have:=HW.out;omega)).trans (HKB.out.cell j)
   have x0:=xz 0
   have x1:=xz 1
   have x2:=xz 2
   simp only [Ds,BY,BS] at x0 x1 x2
   clear xz hlk
   go_wp2_with fail
   have hwS:w.heap.size<=S:=by rw [HSS.out];exact BL _
   have fX2: ∀ b' q,(X b' q∨b'=Q)->b'<wr.heap.size:=fun b' q hq=>by
    have g1:=HW.out
    have g2:=HST.out.1
    rcases hq with hq|rfl
    ·have:=HF.out b' q hq
     omega
    ·omega
   have eX:Ext0 X w (fun b' q=>X b' q∨b'=Q) wr:=⟨Dc HW.out.1.1 HST.out.1,fun b' o hb' hx=>⟨fun h=>by
    rcases h with h|h
    ·exact hx h
    ·have:=HW.out
     omega,(HW.out.1.trans HST.out).2 b' o hb'⟩⟩
   refine (QAg (X:=fun b' q=>X b' q∨b'=Q) (σ:=σ) (i:=i) fX2 (C.ext0 eX _ _ (fun _ _=>rfl) HA.out) H2.out).mono ?_
   rintro en w7 ⟨A2,c2,X2,σ2,z0,z1,z2,z3,z4,z5,z6,z7,z8,rfl,hd1,hd2,hfin2,hold2,hcell2,hep2,hone2,hb7⟩
   have mp7:=HMP.out.below hb7
   have kq7:=HKR.out.ext hb7
   have bl7:Below S w w7:=WJ HBL.out hb7 (by have:=HW.out;have:=HST.out.1;omega)
   have xQ: ∀ q,X2 Q q:=fun q=>hold2 Q q (by have:=HW.out;have:=HST.out.1;omega) (.inr rfl)
   have hln2:(Jc a i).1.length<=64:=I1
   have hel2:Q0 (Jc a i).2=true:=(Bi.1 (Bi.1 H2.out).2).2
   obtain ⟨l2,hl2⟩: ∃ l2,l2=(Jc a i).1:=⟨_,rfl⟩
   obtain ⟨s2,hs2⟩: ∃ s2,s2=(Jc a i).2:=⟨_,rfl⟩
   rw [←hl2] at hd1 hcell2 hln2 ⊢
   rw [←hs2] at hep2 hel2
   obtain ⟨r0,r1,r2,r3,r4,r5,r6,r7,r8⟩:=hone2
   have hQ7:S+1+1+1<=Q/\Q<w7.heap.size:=⟨HW.out.2.1,kq7.lt⟩
   have q0:=kq7.cell 0
   have q1:=kq7.cell 1
   have q2:=kq7.cell 2
   have q3:=kq7.cell 3
   have q4:=kq7.cell 4
   have q5:=kq7.cell 5
   have q6:=kq7.cell 6
   have q7:=kq7.cell 7
   have q8:=kq7.cell 8
   simp only [Ds,BY,BS] at q0 q1 q2 q3 q4 q5 q6 q7 q8
   have qf:=kq7.frozen
   have KQ7:=Lib.hid kq7
   have HX2:=Lib.hid (And.intro hfin2 xQ)
   have HC2':=Lib.hid hcell2
   have HE2:=Lib.hid hep2
   have HO2:=Lib.hid (And.intro r0<|And.intro r1<|And.intro r2<|And.intro r3<|And.intro r4<|And.intro r5<|And.intro r6<|And.intro r7 r8)
   have HM7:=Lib.hid mp7
   have HB7:=Lib.hid bl7
   have HL2:=Lib.hid hl2
   have HS2:=Lib.hid hs2
   have HEL2:=Lib.hid hel2
   have HQ7:=Lib.hid hQ7
   have sv0:=fun a m W=>run_store Tryz.prog W a z0 m r0
   have sv1:=fun a m W=>run_store Tryz.prog W a z1 m r1
   have sv2:=fun a m W=>run_store Tryz.prog W a z2 m r2
   have sv3:=fun a m W=>run_store Tryz.prog W a z3 m r3
   have sv4:=fun a m W=>run_store Tryz.prog W a z4 m r4
   have sv5:=fun a m W=>run_store Tryz.prog W a z5 m r5
   have sv6:=fun a m W=>run_store Tryz.prog W a z6 m r6
   have sv7:=fun a m W=>run_store Tryz.prog W a z7 m r7
   have sv8:=fun a m W=>run_store Tryz.prog W a z8 m r8
   clear x0 x1 x2 fX2 eX hfin2 hold2 hcell2 hep2 hb7 mp7 kq7 bl7 xQ hel2 hl2 hs2 hQ7 hwS hk hlt
   generalize hn2:l2.length=n2 at*
   have HN2:=Lib.hid hn2
   clear hn2
   go_wp2_with fail
   obtain ⟨W8,hW8⟩: ∃ W8,W8=w7.setCells Q 0 [z0,z1,z2,z3,z4,z5,z6,z7,z8]:=⟨_,rfl⟩
   have e8:(((((((((w7.setCell ⟨Q,0,none⟩ z0).setCell ⟨Q,1,none⟩ z1).setCell ⟨Q,2,none⟩ z2).setCell ⟨Q,3,none⟩ z3).setCell ⟨Q,4,none⟩ z4).setCell ⟨Q,5,none⟩ z5).setCell ⟨Q,6,none⟩ z6).setCell ⟨Q,7,none⟩ z7).setCell ⟨Q,8,none⟩ z8)=W8:=by rw [hW8];rfl
   rw [e8]
   have fr8:=WO Q [z0,z1,z2,z3,z4,z5,z6,z7,z8] 0 w7
   rw [←hW8] at fr8
   have kQ8:Go.Proofs.YtmjnnemhoeolgaaGreat.Blk W8 Q 61 #[z0,z1,z2,z3,z4,z5,z6,z7,z8]:=by rw [hW8];exact Gu Q 61 (0,0) [z0,z1,z2,z3,z4,z5,z6,z7,z8] 0 w7 _ KQ7.out
   have hp8: ∀ b',b'≠Q->W8.heap[b']? = w7.heap[b']? :=fun b' h=>by rw [hW8];exact WN Q _ 0 w7 b' h
   have mp8:MapAt W8 (S+1+1) (l.map (JZ s)):=by
    obtain ⟨es,clk,m1,m2⟩:=HM7.out
    exact ⟨es,clk,(hp8 _ (by have:=HQ7.out;omega)).trans m1,m2⟩
   have bl8:Below S w W8:=HB7.out.trans ⟨fr8.os,fr8.tape,fr8.output,fr8.size,fun b' hb'=>hp8 b' (by have:=HQ7.out;omega)⟩
   have eX8:Ext0 X2 w7 X2 W8:=⟨fr8.size,fun b' o _ hx=>⟨hx,by
    have hne:b'≠Q:=fun e=>hx (e▸HX2.out.2 o)
    simp [World.cell?, hp8 b' hne]⟩⟩
   have HE8:=Lib.hid (And.intro (fun b' q hq=>BP (HX2.out.1 b' q hq) fr8.size: ∀ b' q,X2 b' q->b'<W8.heap.size) (C.ext0 eX8 _ _ (fun _ _=>rfl) HE2.out))
   have HC8:=Lib.hid (show 0<n2→ ∃ b off,A2=some ⟨b,off,none⟩/\b<W8.heap.size∧ ∀ j v,(cU l2)[j]? = some v->W8.cell? ⟨b,off+j,none⟩=some v from fun h=>by
    obtain ⟨b',off',h1,h2,h3,h4⟩:=HC2'.out h
    have hne:b'≠Q:=fun e=>h3 (e▸HX2.out.2 off')
    exact ⟨b',off',h1,BP h2 fr8.size,fun j v hv=>by
     rw [←h4 j v hv]
     simp [World.cell?, hp8 b' hne]⟩)
   have HM8:=Lib.hid mp8
   have HB8:=Lib.hid bl8
   have HK8:=Lib.hid kQ8
   have HSZ:=Lib.hid (show S+1+1+1<=W8.heap.size by have:=HQ7.out;have:=fr8.size;omega)
   clear e8 hW8 fr8 hp8 mp8 bl8 eX8 sv0 sv1 sv2 sv3 sv4 sv5 sv6 sv7 sv8 q0 q1 q2 q3 q4 q5 q6 q7 q8 qf r0 r1 r2 r3 r4 r5 r6 r7 r8 kQ8
   obtain ⟨F,hF⟩: ∃ F:Nat->List Keep,F=fun k=>(l2.take k).filter fun o=> !decide (JZ s2 o∈l.map (JZ s)):=⟨_,rfl⟩
   have HFF:=Lib.hid hF
   clear hF
   go_loopw [12,41] (fun sv iv wr=> ∃ k:Nat,k<=n2/\iv= .int .i64 k/\Below W8.heap.size W8 wr/\wr.ownsRow W8.heap.size 54 2 sv (F k).length (cU (F k))) (fun _ iv _=>n2-(intOf iv).toNat)
   case atStart=>exact ⟨0,B3 _,rfl,Below.refl _ _,by rw [HFF.out];exact World.ownsRow_nil _ _ _ _⟩
   case round=>
    obtain ⟨j,hj,rfl,hbl2,hown⟩:=hrel
    obtain ⟨A3,c3,rfl⟩:=QCC hown
    have HBR:=Lib.hid hbl2
    have HOW:=Lib.hid hown
    clear hbl2 hown
    by_cases hlt2:j<n2
    ·have hjl:j<l2.length:=by rw [HN2.out];exact hlt2
     obtain ⟨bb,off,rfl,hbb,hcs⟩:=HC8.out (by omega)
     obtain ⟨g0,g1⟩:=Qgd l2 j hjl
     obtain ⟨o,ho⟩: ∃ o,o=l2[j]:=⟨_,rfl⟩
     rw [←ho] at g0 g1
     have dz: ∀ q v,W8.cell? ⟨bb,off+q,none⟩=some v->wr.cell? ⟨bb,off+q,none⟩=some v:=fun q v h=>(HBR.out.cell (p:=⟨bb,off+q,none⟩) hbb).trans h
     have d0:=dz _ _ (hcs _ _ g0)
     have d1:=dz _ _ (hcs _ _ g1)
     rw [←DB] at d1
     have kqr:=HK8.out.ext HBR.out
     have y0:=kqr.cell 0
     have y1:=kqr.cell 1
     have y2:=kqr.cell 2
     have y3:=kqr.cell 3
     have y4:=kqr.cell 4
     have y5:=kqr.cell 5
     have y6:=kqr.cell 6
     have y7:=kqr.cell 7
     have y8:=kqr.cell 8
     simp only [Ds,BY,BS] at y0 y1 y2 y3 y4 y5 y6 y7 y8
     replace y0:=fun ob=>Lib.cell?_alloc_some ob y0
     replace y1:=fun ob=>Lib.cell?_alloc_some ob y1
     replace y2:=fun ob=>Lib.cell?_alloc_some ob y2
     replace y3:=fun ob=>Lib.cell?_alloc_some ob y3
     replace y4:=fun ob=>Lib.cell?_alloc_some ob y4
     replace y5:=fun ob=>Lib.cell?_alloc_some ob y5
     replace y6:=fun ob=>Lib.cell?_alloc_some ob y6
     replace y7:=fun ob=>Lib.cell?_alloc_some ob y7
     replace y8:=fun ob=>Lib.cell?_alloc_some ob y8
     have HO:=Lib.hid (show l2[j]? = some o by rw [ho];exact Bh hjl)
     have hm64:(F j).length<=64:=by
      rw [HFF.out]
      have h1:=List.length_filter_le (fun o=> !decide (JZ s2 o∈l.map (JZ s))) (l2.take j)
      rw [B5] at h1
      have h2:=HN2.out
      show ((l2.take j).filter fun o=> !decide (JZ s2 o∈l.map (JZ s))).length<=64
      omega
     clear dz hcs g0 g1 ho hjl kqr
     have HM64:=Lib.hid hm64
     obtain ⟨m,hm⟩: ∃ m,m=(F j).length:=⟨_,rfl⟩
     rw [←hm] at HOW HM64 ⊢
     have HMM:=Lib.hid hm
     clear hm hm64
     go_wp2_with fail
     obtain ⟨R,hR⟩: ∃ R,R=wr.heap.size:=⟨_,rfl⟩
     obtain ⟨W3,hW3⟩: ∃ W3,W3=wr.alloc (.cells #[.int .i64 o.1,.int .i64 o.2.1] 54):=⟨_,rfl⟩
     rw [←hW3, ← hR]
     have b3:Below wr.heap.size wr W3:=hW3▸(Below.refl _ _).alloc (BL _) _
     have kR:Go.Proofs.YtmjnnemhoeolgaaGreat.Blk W3 R 54 #[.int .i64 o.1,.int .i64 o.2.1]:=by rw [hW3,hR];exact Go.Proofs.YtmjnnemhoeolgaaGreat.Blk.new _ _ _
     have b83:Below W8.heap.size W8 W3:=WJ HBR.out b3 HBR.out.size
     obtain ⟨q0,q1,q2,q3,q4,q5,q6,q7,q8⟩:=HO2.out
     have hep:EpV W3 s2 z0 z1 z2 z3 z4 z5 z6 z7 z8:=⟨⟨X2,σ2,fun b' q hq=>BP (HE8.out.1 b' q hq) b83.size,C.ext0 (QAd b83) _ _ (fun _ _=>rfl) HE8.out.2⟩,q0,q1,q2,q3,q4,q5,q6,q7,q8⟩
     refine (QnW (o:=o) hep HEL2.out).mono ?_
     rintro e w9 ⟨rfl,hb9⟩
     have b89:Below W8.heap.size W8 w9:=WJ b83 hb9 b83.size
     have kR9:=kR.ext hb9
     obtain ⟨es,clk,m1,m2⟩:=HM8.out.below b89
     have hrun:=QFY w9 (QnV s2 o) m1 m2
     have HOW9:=Lib.hid (QhG (QhG HOW.out (QnY b3) (fun _ _ e=>by cases e)) (QnY hb9) (fun _ _ e=>by cases e))
     have HR9:=Lib.hid (show R<w9.heap.size from kR9.lt)
     have HB9:=Lib.hid b89
     have c0:=kR9.cell 0
     have c1:=kR9.cell 1
     simp only [Ds,BY,BS] at c0 c1
     clear hW3 b3 kR b83 hep hb9 b89 kR9 m1 m2 d0 d1 y0 y1 y2 y3 y4 y5 y6 y7 y8 q0 q1 q2 q3 q4 q5 q6 q7 q8 hR
     obtain ⟨kv,hkv⟩: ∃ kv,kv=kV (JZ s2 o):=⟨_,rfl⟩
     rw [←hkv] at hrun ⊢
     clear hkv
     have hstep:F (j+1)=F j++(if decide (JZ s2 o∈l.map (JZ s))=true then [] else [o]):=by
      rw [HFF.out]
      show (l2.take (j+1)).filter _=_
      rw [List.take_add_one,HO.out,List.filter_append]
      congr 1
      cases h:decide (JZ s2 o∈l.map (JZ s)) with
      |true=>simp [h]
      |false=>simp [h]
     have HST2:=Lib.hid hstep
     clear hstep
     cases hq:decide (JZ s2 o∈l.map (JZ s)) with
     |true=>
      rw [hq] at hrun HST2
      go_wp2_with fail
      have hst:=HST2.out
      simp only [if_true,BO] at hst
      refine ⟨⟨j+1,hlt2,by simp,HB9.out, ?_⟩,by simp [intOf];omega⟩
      rw [hst, ← HMM.out]
      exact HOW9.out
     |false=>
      rw [hq] at hrun HST2
      have hsrc:=Sl.made w9 54 1 2 #[.int .i64 o.1,.int .i64 o.2.1] rfl (by simp [maxLen])
      go_wp2_with (at_builtin;refine QqH QAh rfl _ _ rfl W8.heap.size (.slice A3 m c3) m (cU (F j)) rfl (QhG HOW9.out (QCw (World.grownBy.refl _ none) _) (fun _ _ e=>by cases e)) _ _ _ _ rfl hsrc (by simp [Value.oneCell']) (by have:=HM64.out;omega) (by omega) (by have:=HB9.out.size;simp;omega) ?_;intro v' w4 hown4 hg4 hat4)
      have hst:=HST2.out
      simp only [BK,Do] at hst
      have bA:=HB9.out.alloc HB9.out.size (.cells #[.int .i64 o.1,.int .i64 o.2.1] 54)
      refine ⟨⟨j+1,hlt2,by simp,bA.trans ⟨hg4.os,hg4.tape,hg4.output,hg4.size,fun q hq=>hg4.block q (BP hq bA.size) (fun e=>by have:=(HOW9.out.lt _ e.symm).1;omega)⟩, ?_⟩,by simp [intOf];omega⟩
      rw [hst,Bl, ← HMM.out]
      have e2:cU (F j++[o])=cU (F j)++[.int .i64 o.1,.int .i64 o.2.1]:=by
       unfold cU
       rw [DD]
       rfl
      rw [e2]
      exact hown4
    ·obtain rfl:j=n2:=by omega
     have hFe:F j=YL b a i:=by
      rw [HFF.out]
      show (l2.take j).filter _=_
      rw [List.take_of_length_le (by rw [HN2.out];exact BL _)]
      unfold YL
      rw [←HL2.out]
      refine List.filter_congr fun o _=> ?_
      congr 1
      unfold Qbt
      rw [←HL.out, ← HS.out, ← HS2.out,DC]
      simp only [Ba,B9,List.any_eq_true,Dj]
     have HFE:=Lib.hid hFe
     clear hFe
     go_wp2_with fail
     go_ret
     have hz:=HSZ.out
     have hss:=HSS.out
     refine ⟨_,W8.heap.size,rfl,by omega, ?_, ?_⟩
     ·rw [←HFE.out]
      exact HOW.out
     ·rw [←hss]
      exact WJ HB8.out HBR.out (by omega)
end Go.Proofs.YtmjnnemhoeolgaaGreat.K
noncomputable section
namespace Go.Proofs.YtmjnnemhoeolgaaGreat.K
open Go.RowKit
noncomputable section
def QbA:Ent:=Ql (.pr Qw (.pr Qw (.pr tI .nil))) (fun x=>(Qbu x.1 x.2.1 x.2.2.1)) (fun x=>(.t (.sl Qe) (YL x.1 x.2.1 x.2.2.1)))
theorem QqD:J3 Tryz.prog 32:= .inr ⟨by decide,_,Tryz.func32,by kernel_rfl,by kernel_rfl⟩
theorem QqE {X:Nat->Nat->Prop}{w:World}{σ:Pl}: ∀ l:List Keep,Cs X w σ (l.flatMap Qe.cells) (cU l)
 | []=>rfl
 |x::l=>by
  show Cs X w σ (D.v (.int .i64 x.1)::D.v (.int .i64 x.2.1)::l.flatMap Qe.cells) (.int .i64 x.1:: .int .i64 x.2.1::cU l)
  simp only [Cs]
  exact ⟨_,_,rfl,⟨rfl,rfl⟩,_,_,rfl,⟨rfl,rfl⟩,QqE l⟩
theorem own_c {X:Nat->Nat->Prop}{w:World}{σ:Pl}{B:Nat}{l:List Keep}{sv:Value}(h:w.ownsRow B 54 2 sv l.length (cU l))(hX: ∀ b q,X b q->b<B):C X w σ (V.t (.sl Qe) l).d sv:=by
 obtain ⟨h1,A,c,rfl,h2,h3,h4⟩:=Sl.of_own h
 have hlt:=h.lt
 show C X w σ (.sl l.length (l.flatMap Qe.cells)) _
 simp only [C]
 refine ⟨A,c,rfl,h2,h3,fun h0=> ?_,fun h0=> ?_⟩
 ·have:l=[]:=By h0
  rw [this]
  rfl
 ·obtain ⟨b,off,rfl,g1,g2⟩:=h4 h0
  refine ⟨b,off,cU l,rfl,QqE l,g1,fun q _ hq=> ?_,fun j u hu=>g2 j u hu,Qyf l⟩
  have:=hX b _ hq
  have:=(hlt b rfl).1
  omega
theorem QqF:QA Tryz.prog 32 (Qx QbA):=by
 unfold QbA
 refine QpL (fun x hok X w σ vs hfin hc=> ?_)
 obtain ⟨b,a,i,u⟩:=x
 obtain ⟨h1,h2⟩:=Bi.1 hok
 have hc:Cs X w σ [(V.t Qw b).d,(V.t Qw a).d,.v (.int .i64 i)] vs:=hc
 simp only [Cs] at hc
 obtain ⟨bv,r0,rfl,c0,av,r1,rfl,c1,iv,r2,rfl,c2,rfl⟩:=hc
 simp only [C] at c2
 obtain ⟨rfl,_⟩:=c2
 obtain ⟨u0,u1,u2,rfl,ou0,ou1,ou2⟩:=QnZ c0
 obtain ⟨t0,t1,t2,rfl,ot0,ot1,ot2⟩:=QnZ c1
 refine (QAj (i:=i) hfin c0 c1 ou0 ou1 ou2 ot0 ot1 ot2 h1 h2).mono ?_
 rintro en w' ⟨sv,B,rfl,hB,hown,hb⟩
 exact ⟨sv,rfl,own_c hown (fun b q hq=>BP (hfin b q hq) hB),hb⟩
end
end Go.Proofs.YtmjnnemhoeolgaaGreat.K
noncomputable section
namespace Go.Proofs.YtmjnnemhoeolgaaGreat.K
open Go.RowKit
noncomputable section
def Ea (l:List Keep)(_:Keep):Bool:=decide (l.length<=100000)
def Od (l:List Keep)(v:Keep):Int:=match QC (fun c=>v==c) l with|some k=>(k:Int)|none=> -1
abbrev Qci:Sh:=⟨[(0,.ty (.sl Qe)),(3,.ptr 3 0),(7,.ty tI),(8,.ty tI)],[(3,.box Qe)]⟩
abbrev Qsa:Sh:=⟨[(4,.ty tI)],[]⟩
abbrev Qsb:Sh:=⟨[],[]⟩
def Qiz:Fg:=Qci.f
def Qsc:TC:=aF Tryz.f60 [(26,pL 0 Qiz),(421,.fg Qsb.f),(3378,pD [(0,[3]),(1,[]),(2,[]),(3,[]),(4,[]),(5,[])] (.of [0,1,2,3,4,5])),(13517,.fg Qsa.f)]
def Qsd:TC:=lb 0 Qsc
def Qse (x0:List Keep)(x7 x8:Int)(y3:Keep):VS:=Qci.st (x0,(),x7,x8,()) (y3,())
def QiA (x4:Int):VS:=Qsa.st (x4,()) ()
def QiB  : VS:=Qsb.st () ()
def QEw:VS->Option (Bool×List (Bool×Exit×VS)):=mkL Qci (fun x y=>(Qz x.1 x.2.2.1 x.2.2.2.1)) (fun x y=>[(((QC (fun c=>y.1==c) (x.1.drop x.2.2.2.1.toNat)).isSome),.ret,QiA (x.2.2.2.1+((QC (fun c=>y.1==c) (x.1.drop x.2.2.2.1.toNat)).getD 0:Nat))),(true,.exit 0,QiB)])
def QiC:G:=gG 19 [] (Ls [QEw])
def Qcj (x0:List Keep)(x7 x8:Int)(y3:Keep):OX:=Qv (QB QiC Qiz Qsd) (Qse x0 x7 x8 y3)
def Oe (kk:List Keep->Int->Int->Keep->OX)(x0:List Keep)(x7 x8:Int)(y3:Keep):OX:=
 let a1:=lgt Qe x0 (Int.toNat x8)
 br (ilt x8 x7) (br (cIx x0 x8) (br (and (ieq y3.1 (a1.1)) (and (ieq y3.2.1 ((a1.2).1)) true)) (some (.ret,QiA x8)) (kk x0 x7 (Qf .i64 x8 1) y3)) none) (some (.exit 0,QiB))
def Qck (x0:List Keep)(x7 x8:Int)(y3:Keep):OX:=br ((QC (fun c=>y3==c) (x0.drop x8.toNat)).isSome) (some (.ret,QiA (x8+((QC (fun c=>y3==c) (x0.drop x8.toNat)).getD 0:Nat))))<|some (.exit 0,QiB)
theorem Qsf (x0:List Keep)(x7 x8:Int)(y3:Keep):Qcj x0 x7 x8 y3=Oe Qcj x0 x7 x8 y3:=lnT (x:=Oe (fun x0 x7 x8 y3=>some (.normal,Qse x0 x7 x8 y3)) x0 x7 x8 y3) (by simp only [Oe,nxA];rfl)
def r_f60 (p0:List Keep)(p1:Keep):OV:=
 let a1:=(p0.drop (0:Int).toNat)
 br (Qz p0 (Qa p0) (0:Int)) (br ((QC (fun c=>p1==c) a1).isSome) (some (.t tI ((0:Int)+((QC (fun c=>p1==c) a1).getD 0:Nat)),[])) (some (.t tI (-1),[]))) none
theorem QEx (x0:List Keep)(x7 x8:Int)(y3:Keep)(h:(Qz x0 x7 x8)=true):Qcj x0 x7 x8 y3=Qck x0 x7 x8 y3:=by
 obtain ⟨rfl,h3,k,rfl,hk⟩:=JJ h
 clear h
 refine QU x0 (fun k=>Qcj x0 (x0.length:Int) (k:Int) y3=Qck x0 (x0.length:Int) (k:Int) y3) ?_ ?_ k hk
 ·rw [Qsf]
  simp [Oe,Qck,QD,Qh,QC]
 ·intro k hk ih
  rw [Qsf]
  have hq:(and (ieq y3.1 x0[k].1) (and (ieq y3.2.1 x0[k].2.1) true))=(y3==x0[k]):=rfl
  simp only [Oe,QD,QJ,hk,Bv,Qd,Bd,QT (show k<4611686018427387904 by omega),ih,QS (y:=Qe) hk]
  rw [hq]
  simp only [Qck,Bd,Bj hk,QC]
  cases h:(y3==x0[k]) with
  |true=>simp [Qd]
  |false=>
   simp only [Qh,BK,Do]
   cases hq:QC (fun c=>y3==c) (x0.drop (k+1)) with
   |none=>rfl
   |some j=>
    simp only [B1,B6,BI,Qd]
    congr 3
    omega
theorem QEy:LO QiC Qiz Qsd 0:=QH (s:=Qci) fun x y h _ q=>by simp only [QE,QF] at q;exact (QEx x.1 x.2.2.1 x.2.2.2.1 y.1 h).trans q
theorem s_f60 (l:List Keep)(v:Keep)(h:Ea l v=true):r_f60 l v=some (.t tI (Od l v),[]):=by
 have hl:l.length<=100000:=Bx h
 simp only [r_f60,JK hl,Qd,Bw,BD,Od]
 cases QC (fun c=>v==c) l<;>simp [Qd,Qh]
def Qsg:Ent:=Ql (.pr (.sl Qe) (.pr Qe .nil)) (fun x=>(Ea x.1 x.2.1)) (fun x=>(.t tI (Od x.1 x.2.1)))
theorem ms_f60:EM 60 Qsg:=mS (lk:=lkL (lkc QEy lkn)) QiC Qsc [((.t 4),some tI)] false (gB gN) fun m=>Qn m fun x hok=>kT (s_f60 x.1 x.2.1 hok)
def Of (l:List Keep)(v:Keep):Bool:=l.any fun c=>v==c
def tc_f34:TC:=aF Tryz.f34 []
def g_f34:G:=gG 9 [(60,Qsg)] (fun _ _=>none)
def r_f34 (p0:List Keep)(p1:Keep):OV:=br (Ea p0 p1) (some (.t .bool (ige (Od p0 p1) 0),[])) none
theorem Qsh (p:Keep->Bool)(l:List Keep):ige (match QC p l with|some k=>(k:Int)|none=> -1) 0=l.any p:=by
 rw [←Qb8]
 cases QC p l with
 |none=>rfl
 |some k=>
  simp only [ige,B6,Ba]
  omega
theorem s_f34 (l:List Keep)(v:Keep)(h:Ea l v=true):r_f34 l v=some (.t .bool (Of l v),[]):=by
 unfold r_f34
 refine brY h ?_
 rw [show ige (Od l v) 0=Of l v from Qsh _ l]
def Qsi:Ent:=Ql (.pr (.sl Qe) (.pr Qe .nil)) (fun x=>(Ea x.1 x.2.1)) (fun x=>(.t .bool (Of x.1 x.2.1)))
theorem ms_f34:EM 34 Qsi:=mS g_f34 tc_f34 [((.t 4),some .bool)] false (gB (gD ms_f60 gN)) fun m=>Qn m fun x hok=>kT (s_f34 x.1 x.2.1 hok)
def inO (o:Keep)(d:List Keep):Bool:=Of d o
def Qcl (_:Keep)(d:List Keep):Bool:=decide (d.length<=100000)
def tc_f33:TC:=aF Tryz.f33 []
def g_f33:G:=gG 7 [(34,Qsi)] (fun _ _=>none)
def r_f33 (p0:Keep)(d0:List Keep):OV:=br (Ea d0 p0) (some (.t .bool (Of d0 p0),[.box (.t (.sl Qe) d0)])) none
theorem s_f33 (o:Keep)(d:List Keep)(h:Qcl o d=true):r_f33 o d=some (.t .bool (inO o d),[.box (.t (.sl Qe) d)]):=brY h rfl
def Qsj:Ent:=Ft [.ty Qe,.ptr 50000 0] [(.sl Qe)] (fun x d=>(Qcl x.1 d.1)) (fun x d=>(.t .bool (inO x.1 d.1)))
theorem ms_f33:EM 33 Qsj:=mS g_f33 tc_f33 [((.t 3),some .bool)] false (gB (gD ms_f34 gN)) fun m=>Iq (ZG m fun x d hok=>kT (s_f33 x.1 d.1 hok))
def okS (l d:List Keep):Bool:=decide (l.length<=100000/\d.length<=100000)
def ixS (l d:List Keep):Int:=match QC (fun c=>inO c d) l with|some k=>(k:Int)|none=> -1
abbrev Qcm:Sh:=⟨[(0,.ty (.sl Qe)),(1,.fn 33 [(50000,0)]),(7,.ty tI),(8,.ty tI)],[(50000,.box (.sl Qe))]⟩
abbrev Qsk:Sh:=⟨[(4,.ty tI)],[(50000,.box (.sl Qe))]⟩
abbrev Qsl:Sh:=⟨[],[(50000,.box (.sl Qe))]⟩
def QiD:Fg:=Qcm.f
def Qsm:TC:=aF Tryz.f58 [(26,pL 0 QiD),(421,.fg Qsl.f),(13517,.fg Qsk.f)]
def Qsn:TC:=lb 0 Qsm
def Qso (x0:List Keep)(x7 x8:Int)(Qb:List Keep):VS:=Qcm.st (x0,(),x7,x8,()) (Qb,())
def QiE (x4:Int)(Qb:List Keep):VS:=Qsk.st (x4,()) (Qb,())
def QiF (Qb:List Keep):VS:=Qsl.st () (Qb,())
def QEz:VS->Option (Bool×List (Bool×Exit×VS)):=mkL Qcm (fun x y=>(Qz x.1 x.2.2.1 x.2.2.2.1&&okS x.1 y.1)) (fun x y=>[(((QC (fun c=>inO c y.1) (x.1.drop x.2.2.2.1.toNat)).isSome),.ret,QiE (x.2.2.2.1+((QC (fun c=>inO c y.1) (x.1.drop x.2.2.2.1.toNat)).getD 0:Nat)) (y.1)),(true,.exit 0,QiF (y.1))])
def QiG:G:=gG 19 [(33,Qsj)] (Ls [QEz])
def Qcn (x0:List Keep)(x7 x8:Int)(Qb:List Keep):OX:=Qv (QB QiG QiD Qsn) (Qso x0 x7 x8 Qb)
def Og (kk:List Keep->Int->Int->List Keep->OX)(x0:List Keep)(x7 x8:Int)(Qb:List Keep):OX:=
 let a1:=lgt Qe x0 (Int.toNat x8)
 br (ilt x8 x7) (br (cIx x0 x8) (br (Qcl a1 Qb) (br (inO a1 Qb) (some (.ret,QiE x8 Qb)) (kk x0 x7 (Qf .i64 x8 1) Qb)) none) none) (some (.exit 0,QiF Qb))
def Qco (x0:List Keep)(x7 x8:Int)(Qb:List Keep):OX:=br ((QC (fun c=>inO c Qb) (x0.drop x8.toNat)).isSome) (some (.ret,QiE (x8+((QC (fun c=>inO c Qb) (x0.drop x8.toNat)).getD 0:Nat)) (Qb)))<|some (.exit 0,QiF (Qb))
theorem Qsp (x0:List Keep)(x7 x8:Int)(Qb:List Keep):Qcn x0 x7 x8 Qb=Og Qcn x0 x7 x8 Qb:=lnT (x:=Og (fun x0 x7 x8 Qb=>some (.normal,Qso x0 x7 x8 Qb)) x0 x7 x8 Qb) (by simp only [Og,nxA];rfl)
def Qsq (p0 d0:List Keep):OV:=
 let a1:=(p0.drop (0:Int).toNat)
 br (Qz p0 (Qa p0) (0:Int)&&okS p0 d0) (br ((QC (fun c=>inO c d0) a1).isSome) (some (.t tI ((0:Int)+((QC (fun c=>inO c d0) a1).getD 0:Nat)),[.box (.t (.sl Qe) (d0))])) (some (.t tI (-1),[.box (.t (.sl Qe) (d0))]))) none
theorem QEA (x0:List Keep)(x7 x8:Int)(Qb:List Keep)(h:(Qz x0 x7 x8&&okS x0 Qb)=true):Qcn x0 x7 x8 Qb=Qco x0 x7 x8 Qb:=by
 simp only [Bc] at h
 obtain ⟨h0,hc⟩:=h
 have hd:Qb.length<=100000:=(Bx hc).2
 obtain ⟨rfl,h3,k,rfl,hk⟩:=JJ h0
 clear h0
 refine QU x0 (fun k=>Qcn x0 (x0.length:Int) (k:Int) Qb=Qco x0 (x0.length:Int) (k:Int) Qb) ?_ ?_ k hk
 ·rw [Qsp]
  simp [Og,Qco,QD,Qh,QC]
 ·intro k hk ih
  rw [Qsp]
  have e1: ∀ o,Qcl o Qb=true:=fun _=>Be hd
  simp only [Og,QD,QJ,hk,Bv,Qd,Bd,QT (show k<4611686018427387904 by omega),ih,QS (y:=Qe) hk,e1]
  simp only [Qco,Bd,Bj hk,QC]
  cases h:(inO x0[k] Qb) with
  |true=>simp [Qd]
  |false=>
   simp only [Qh,BK,Do]
   cases hq:QC (fun c=>inO c Qb) (x0.drop (k+1)) with
   |none=>rfl
   |some j=>
    simp only [B1,B6,BI,Qd]
    congr 3
    omega
theorem QEB:LO QiG QiD Qsn 0:=QH (s:=Qcm) fun x y h _ q=>by simp only [QE,QF] at q;exact (QEA x.1 x.2.2.1 x.2.2.2.1 y.1 h).trans q
theorem QEC (l d:List Keep)(h:okS l d=true):Qsq l d=some (.t tI (ixS l d),[.box (.t (.sl Qe) d)]):=by
 have hl:l.length<=100000:=(Bx h).1
 simp only [Qsq,JK hl,h,B2,Qd,Bw,BD,ixS]
 cases QC (fun c=>inO c d) l<;>simp [Qd,Qh]
def Qsr:Ent:=Ft [.ty (.sl Qe),.fn 33 [(50000,0)]] [(.sl Qe)] (fun x d=>(okS x.1 d.1)) (fun x d=>(.t tI (ixS x.1 d.1)))
theorem QED:EM 58 Qsr:=mS (lk:=lkL (lkc QEB lkn)) QiG Qsm [((.t 4),some tI)] false (gB (gD ms_f33 gN)) fun m=>Iq (ZG m fun x d hok=>kT (QEC x.1 d.1 hok))
def Oh (l d:List Keep):Bool:=l.any fun c=>inO c d
def QEE:TC:=aF Tryz.f31 []
def QEF:G:=gG 9 [(58,Qsr)] (fun _ _=>none)
def Qss (p0 d0:List Keep):OV:=br (okS p0 d0) (some (.t .bool (ige (ixS p0 d0) 0),[.box (.t (.sl Qe) d0)])) none
theorem QEG (l d:List Keep)(h:okS l d=true):Qss l d=some (.t .bool (Oh l d),[.box (.t (.sl Qe) d)]):=by
 unfold Qss
 refine brY h ?_
 rw [show ige (ixS l d) 0=Oh l d from Qsh _ l]
def Qst:Ent:=Ft [.ty (.sl Qe),.fn 33 [(50000,0)]] [(.sl Qe)] (fun x d=>(okS x.1 d.1)) (fun x d=>(.t .bool (Oh x.1 d.1)))
theorem QEH:EM 31 Qst:=mS QEF QEE [((.t 4),some .bool)] false (gB (gD QED gN)) fun m=>Iq (ZG m fun x d hok=>kT (QEG x.1 d.1 hok))
def WW (b a:Estate)(i:Int):List Keep×Int:=bif ine (Zd b a) 0 then ([],Zd b a) else bif ilt i 0||ige i (Qa b.2.1) then ([],4) else (YL b a i,0)
def Qcp (b a:Estate)(_i:Int):Bool:=GJ b a
def tc_f16:TC:=aF Tryz.f16 []
def g_f16:G:=gG 28 [(30,QdR),(32,QbA)] (fun _ _=>none)
def r_f16 (p0 p1:Estate)(p2:Int):OV:=br (GJ p0 p1) (br (ine (Zd p0 p1) 0) (some (.tu [(.t (.sl Qe) ([]:List Keep)),(.t tI (Zd p0 p1))],[])) (br (ilt p2 0) (some (.tu [(.t (.sl Qe) ([]:List Keep)),(.t tI 4)],[])) (br (ige p2 (Qa p0.2.1)) (some (.tu [(.t (.sl Qe) ([]:List Keep)),(.t tI 4)],[])) (br (Qbu p0 p1 p2) (some (.tu [(.t (.sl Qe) (YL p0 p1 p2)),(.t tI 0)],[])) none)))) none
theorem s_f16 (b a:Estate)(i:Int)(h:Qcp b a i=true):r_f16 b a i=some (.tu [.t (.sl Qe) (WW b a i).1,.t tI (WW b a i).2],[]):=by
 obtain ⟨l1,l2⟩:=Bi.1 h
 unfold r_f16 WW
 refine brY h ?_
 cases hb:ine (Zd b a) 0 with
 |true=>rfl
 |false=>
  obtain ⟨o1,o2,he⟩:=QkC hb
  rw [Qh]
  cases h3:ilt i 0 with
  |true=>rfl
  |false=>
   rw [Qh]
   cases h4:ige i (Qa b.2.1) with
   |true=>rfl
   |false=>
    rw [Qh]
    have h3:=DA h3
    have h4:=DA h4
    simp only [Qa] at h4
    exact brY (Bi.2 ⟨UP o1 l1 (by omega) (by omega),UP o2 l2 (by omega) (by rw [←he];omega)⟩) rfl
def Qsu:Ent:=Ql (.pr Qw (.pr Qw (.pr tI .nil))) (fun x=>(Qcp x.1 x.2.1 x.2.2.1)) (fun x=>(.tu [(.t (.sl Qe) ((WW x.1 x.2.1 x.2.2.1).1)),(.t tI ((WW x.1 x.2.1 x.2.2.1).2))]))
theorem ms_f16:EM 16 Qsu:=mS g_f16 tc_f16 [((.t 6),some (.sl Qe)),((.t 7),some tI)] false (gB (gD QkD (gC QqD QqF gN))) fun m=>Qn m fun x hok=>kT (s_f16 x.1 x.2.1 x.2.2.1 hok)
def ZT (f:Int->Bool):Nat->Int->List Int
 |0,_=>[]
 |k+1,i=>bif f i then i::ZT f k (i+1) else ZT f k (i+1)
def stB (r:Rules)(b a:Estate)(i:Int):Bool:=Oh (YL b a i) (ZX r a i)
def Eb (n i:Int)(b a:Estate)(r:Rules)(out:List Int):Bool:=
 JC b&&(Jr b&&(JC a&&(Jr a&&(ZW r&&decide (0<=i/\i<=n/\n=b.2.1.length/\n=a.2.1.length/\(out.length:Int)<=i)))))
def WX (b a:Estate)(y:Policy)(l:List Exception)(o:Dice)(d:Int):List Int×Int:=
 bif ine (Zd b a) 0 then ([],Zd b a) else bif ine (Jn (rl y l o d)) 0 then ([],Jn (rl y l o d)) else (ZT (stB (rl y l o d) b a) b.2.1.length 0,0)
def GC (b a:Estate)(y:Policy)(l:List Exception)(o:Dice)(d:Int):Bool:=GJ b a&&ZW (rl y l o d)
abbrev Qcq:Sh:=⟨[(6,.ptr 6 0),(7,.ptr 7 0),(14,.ptr 14 0),(17,.ms 17),(38,.ty tI),(39,.ty tI)],[(6,.box Qw),(7,.box Qw),(14,.box UR),(17,.arr 3 tI),(55,.no)]⟩
abbrev Qsv:Sh:=⟨[(17,.ms 17)],[(17,.arr 3 tI),(55,.no)]⟩
def QiH:Fg:=Qcq.f
def Qsw:TC:=aF Tryz.f14 [(506,.nw 17 3),(506,pL 0 QiH),(8101,.fg Qsv.f)]
def Qsx:TC:=lb 0 Qsw
def Qsy (x38 x39:Int)(y6 y7:Estate)(y14:Rules)(y17:List Int):VS:=Qcq.st ((),(),(),(),x38,x39,()) (y6,y7,y14,y17,(),())
def QiI (y17:List Int):VS:=Qsv.st ((),()) (y17,(),())
def QEI:VS->Option (Bool×List (Bool×Exit×VS)):=mkL Qcq (fun x y=>(Eb x.2.2.2.2.1 x.2.2.2.2.2.1 y.1 y.2.1 y.2.2.1 y.2.2.2.1)) (fun x y=>[(true,.exit 0,QiI (y.2.2.2.1++ZT (stB y.2.2.1 y.1 y.2.1) (x.2.2.2.2.1-x.2.2.2.2.2.1).toNat x.2.2.2.2.2.1))])
def QiJ:G:=gG 58 [(28,OS),(29,OW),(30,QdR),(31,Qst),(32,QbA)] (Ls [QEI])
def QiK (x38 x39:Int)(y6 y7:Estate)(y14:Rules)(y17:List Int):OX:=Qv (QB QiJ QiH Qsx) (Qsy x38 x39 y6 y7 y14 y17)
def Oi (kk:Int->Int->Estate->Estate->Rules->List Int->OX)(x38 x39:Int)(y6 y7:Estate)(y14:Rules)(y17:List Int):OX:=br (ilt x39 x38) (br (XB y14 y7 x39) (br (Qbu y6 y7 x39) (br (okS (YL y6 y7 x39) (ZX y14 y7 x39)) (br (Oh (YL y6 y7 x39) (ZX y14 y7 x39)) (br (QK y17 ([x39]) 8) (kk x38 (Qf .i64 x39 1) y6 y7 y14 (y17++([x39]))) none) (kk x38 (Qf .i64 x39 1) y6 y7 y14 y17)) none) none) none) (some (.exit 0,QiI y17))
def QiL (x38 x39:Int)(y6 y7:Estate)(y14:Rules)(y17:List Int):OX:=some (.exit 0,QiI (y17++ZT (stB y14 y6 y7) (x38-x39).toNat x39))
theorem Qsz (x38 x39:Int)(y6 y7:Estate)(y14:Rules)(y17:List Int):QiK x38 x39 y6 y7 y14 y17=Oi QiK x38 x39 y6 y7 y14 y17:=lnT (x:=Oi (fun x38 x39 y6 y7 y14 y17=>some (.normal,Qsy x38 x39 y6 y7 y14 y17)) x38 x39 y6 y7 y14 y17) (by simp only [Oi,nxA];rfl)
def r_f14 (p0 p1:Estate)(p2:Policy)(p3:List Exception)(p4:Dice)(p5:Int):OV:=
 let a1:=((p2.1,(p2.2.1,())),(p3,((p4.1,(p4.2.1,())),(p5,()))))
 br (GJ p0 p1) (br (ine (Zd p0 p1) 0) (some (.tu [(.t (.sl tI) ([]:List Int)),(.t tI (Zd p0 p1))],[])) (br (ZW a1) (br (ine (Jn a1) 0) (some (.tu [(.t (.sl tI) ([]:List Int)),(.t tI (Jn a1))],[])) (br (Eb (Qa p0.2.1) (0:Int) p0 p1 a1 ([]:List Int)) (some (.tu [(.t (.sl tI) (([]:List Int)++ZT (stB a1 p0 p1) ((Qa p0.2.1)-(0:Int)).toNat (0:Int))),(.t tI 0)],[])) none)) none)) none
theorem QEJ (x38 x39:Int)(y6 y7:Estate)(y14:Rules)(y17:List Int)(h:(Eb x38 x39 y6 y7 y14 y17)=true):QiK x38 x39 y6 y7 y14 y17=QiL x38 x39 y6 y7 y14 y17:=by
 simp only [Eb,Bc,Ba] at h
 obtain ⟨a1,a2,b1,b2,hr,h0,h1,h2,h3,h4⟩:=h
 have hle:y6.2.1.length<=40:=(Un a1).2.2.2.2.2
 obtain ⟨m,hm⟩: ∃ m:Nat,(x38-x39).toNat=m:=⟨_,rfl⟩
 induction m generalizing x39 y17 with
 |zero=>
  have:ilt x39 x38=false:=Bo (by omega)
  rw [Qsz]
  simp only [Oi,QiL,this,Qh,hm,ZT,BO]
 |succ m ih=>
  have e0:ilt x39 x38=true:=Be (by omega)
  have e1:Qf .i64 x39 1=x39+1:=JD (by omega)
  have p1:YT y6 x39=true:=UP a1 a2 h0 (by omega)
  have p2:YT y7 x39=true:=UP b1 b2 h0 (by omega)
  have e2:XB y14 y7 x39=true:=Bi.2 ⟨hr,p2⟩
  have e3:Qbu y6 y7 x39=true:=Bi.2 ⟨p1,p2⟩
  have l1:=QCn y6 y7 x39
  have l2:=Qkx y14 y7 x39
  have e4:okS (YL y6 y7 x39) (ZX y14 y7 x39)=true:=Be ⟨by omega,by omega⟩
  have e5:QK y17 [x39] 8=true:=Jj (by decide) (by simp only [Bp];omega)
  have e6:(x38-(x39+1)).toNat=m:=by omega
  rw [Qsz]
  simp only [Oi,e0,e1,e2,e3,e4,e5,Qd]
  rw [ih (x39+1) (y17++[x39]) (by omega) (by omega) (by simp only [Bl,Bp];omega) (by omega),ih (x39+1) y17 (by omega) (by omega) (by omega) (by omega)]
  simp only [QiL,hm,e6,ZT]
  show br (stB y14 y6 y7 x39) _ _=_
  cases stB y14 y6 y7 x39 with
  |true=>simp only [Qd,Dh,BQ,BN]
  |false=>simp only [Qh,Da]
theorem QEK:LO QiJ QiH Qsx 0:=QH (s:=Qcq) fun x y h _ q=>by simp only [QE,QF] at q;exact (QEJ x.2.2.2.2.1 x.2.2.2.2.2.1 y.1 y.2.1 y.2.2.1 y.2.2.2.1 h).trans q
theorem s_f14 (b a:Estate)(y:Policy)(l:List Exception)(o:Dice)(d:Int)(h:GC b a y l o d=true):r_f14 b a y l o d=some (.tu [.t (.sl tI) (WX b a y l o d).1,.t tI (WX b a y l o d).2],[]):=by
 obtain ⟨h1,h2⟩:=Bi.1 h
 obtain ⟨l1,l2⟩:=Bi.1 h1
 unfold r_f14 WX
 refine brY h1 ?_
 cases hb:ine (Zd b a) 0 with
 |true=>rfl
 |false=>
  obtain ⟨o1,o2,he⟩:=QkC hb
  rw [Qh]
  refine brY (show ZW (rl y l o d)=true from h2) ?_
  show br (ine (Jn (rl y l o d)) 0) (some (V.tu [V.t (.sl tI) ([]:List Int),V.t tI (Jn (rl y l o d))],[])) (br (Eb (Qa b.2.1) 0 b a (rl y l o d) []) (some (V.tu [V.t (.sl tI) ([]++ZT (stB (rl y l o d) b a) ((Qa b.2.1)-0).toNat 0),V.t tI 0],[])) none)=_
  cases ine (Jn (rl y l o d)) 0 with
  |true=>rfl
  |false=>
   rw [Qh]
   have e:((Qa b.2.1)-0).toNat=b.2.1.length:=by simp only [Qa];omega
   refine brY ?_ ?_
   ·unfold Eb
    rw [o1,o2,l1,l2,h2]
    exact Be ⟨BT 0,by simp only [Qa];omega,rfl,by rw [←he],by simp⟩
   ·rw [e,BR]
    rfl
def QiM:Ent:=Ql (.pr Qw (.pr Qw (.pr Zw (.pr (.sl J8) (.pr QI (.pr tI .nil)))))) (fun x=>(GC x.1 x.2.1 x.2.2.1 x.2.2.2.1 x.2.2.2.2.1 x.2.2.2.2.2.1)) (fun x=>(.tu [(.t (.sl tI) ((WX x.1 x.2.1 x.2.2.1 x.2.2.2.1 x.2.2.2.2.1 x.2.2.2.2.2.1).1)),(.t tI ((WX x.1 x.2.1 x.2.2.1 x.2.2.2.1 x.2.2.2.2.1 x.2.2.2.2.2.1).2))]))
theorem QsA:EM 14 QiM:=mS (lk:=lkL (lkc QEK lkn)) QiJ Qsw [((.t 12),some (.sl tI)),((.t 13),some tI)] false (gB (gD QdM (gD QdQ (gD QkD (gD QEH (gC QqD QqF gN)))))) fun m=>Qn m fun x hok=>kT (s_f14 x.1 x.2.1 x.2.2.1 x.2.2.2.1 x.2.2.2.2.1 x.2.2.2.2.2.1 hok)
def clB (r:Rules)(e:Estate)(i:Int):Bool:=ieq (Qa (ZX r e i)) 0
def Ec (n i:Int)(e:Estate)(r:Rules)(out:List Int):Bool:=JC e&&(Jr e&&(ZW r&&decide (0<=i/\i<=n/\n=e.2.1.length/\(out.length:Int)<=i)))
def Ed (e:Estate)(y:Policy)(l:List Exception)(o:Dice)(d:Int):List Int×Int:=
 bif !JC e then ([],31) else bif ine (Jn (rl y l o d)) 0 then ([],Jn (rl y l o d)) else (ZT (clB (rl y l o d) e) e.2.1.length 0,0)
def QiN (e:Estate)(y:Policy)(l:List Exception)(o:Dice)(d:Int):Bool:=Jr e&&ZW (rl y l o d)
abbrev Qcr:Sh:=⟨[(5,.ptr 5 0),(12,.ptr 12 0),(14,.ms 14),(31,.ty tI),(32,.ty tI)],[(5,.box Qw),(12,.box UR),(14,.arr 3 tI),(44,.no)]⟩
abbrev QsB:Sh:=⟨[(14,.ms 14)],[(14,.arr 3 tI),(44,.no)]⟩
def QiO:Fg:=Qcr.f
def QsC:TC:=aF Tryz.f13 [(506,.nw 14 3),(506,pL 0 QiO),(8101,.fg QsB.f)]
def QsD:TC:=lb 0 QsC
def QsE (x31 x32:Int)(y5:Estate)(y12:Rules)(y14:List Int):VS:=Qcr.st ((),(),(),x31,x32,()) (y5,y12,y14,(),())
def QiP (y14:List Int):VS:=QsB.st ((),()) (y14,(),())
def QEL:VS->Option (Bool×List (Bool×Exit×VS)):=mkL Qcr (fun x y=>(Ec x.2.2.2.1 x.2.2.2.2.1 y.1 y.2.1 y.2.2.1)) (fun x y=>[(true,.exit 0,QiP (y.2.2.1++ZT (clB y.2.1 y.1) (x.2.2.2.1-x.2.2.2.2.1).toNat x.2.2.2.2.1))])
def QiQ:G:=gG 47 [(27,Qfg),(28,OS),(29,OW)] (Ls [QEL])
def QiR (x31 x32:Int)(y5:Estate)(y12:Rules)(y14:List Int):OX:=Qv (QB QiQ QiO QsD) (QsE x31 x32 y5 y12 y14)
def Oj (kk:Int->Int->Estate->Rules->List Int->OX)(x31 x32:Int)(y5:Estate)(y12:Rules)(y14:List Int):OX:=br (ilt x32 x31) (br (XB y12 y5 x32) (br (ieq (Qa (ZX y12 y5 x32)) 0) (br (QK y14 ([x32]) 8) (kk x31 (Qf .i64 x32 1) y5 y12 (y14++([x32]))) none) (kk x31 (Qf .i64 x32 1) y5 y12 y14)) none) (some (.exit 0,QiP y14))
def QiS (x31 x32:Int)(y5:Estate)(y12:Rules)(y14:List Int):OX:=some (.exit 0,QiP (y14++ZT (clB y12 y5) (x31-x32).toNat x32))
theorem QsF (x31 x32:Int)(y5:Estate)(y12:Rules)(y14:List Int):QiR x31 x32 y5 y12 y14=Oj QiR x31 x32 y5 y12 y14:=lnT (x:=Oj (fun x31 x32 y5 y12 y14=>some (.normal,QsE x31 x32 y5 y12 y14)) x31 x32 y5 y12 y14) (by simp only [Oj,nxA];rfl)
def r_f13 (p0:Estate)(p1:Policy)(p2:List Exception)(p3:Dice)(p4:Int):OV:=
 let a1:=((p1.1,(p1.2.1,())),(p2,((p3.1,(p3.2.1,())),(p4,()))))
 br (Jr p0) (br (ine (Yt p0) 0) (some (.tu [(.t (.sl tI) ([]:List Int)),(.t tI 31)],[])) (br (ZW a1) (br (ine (Jn a1) 0) (some (.tu [(.t (.sl tI) ([]:List Int)),(.t tI (Jn a1))],[])) (br (Ec (Qa p0.2.1) (0:Int) p0 a1 ([]:List Int)) (some (.tu [(.t (.sl tI) (([]:List Int)++ZT (clB a1 p0) ((Qa p0.2.1)-(0:Int)).toNat (0:Int))),(.t tI 0)],[])) none)) none)) none
theorem QEM (x31 x32:Int)(y5:Estate)(y12:Rules)(y14:List Int)(h:(Ec x31 x32 y5 y12 y14)=true):QiR x31 x32 y5 y12 y14=QiS x31 x32 y5 y12 y14:=by
 simp only [Ec,Bc,Ba] at h
 obtain ⟨a1,a2,hr,h0,h1,h2,h4⟩:=h
 have hle:y5.2.1.length<=40:=(Un a1).2.2.2.2.2
 obtain ⟨m,hm⟩: ∃ m:Nat,(x31-x32).toNat=m:=⟨_,rfl⟩
 induction m generalizing x32 y14 with
 |zero=>
  have:ilt x32 x31=false:=Bo (by omega)
  rw [QsF]
  simp only [Oj,QiS,this,Qh,hm,ZT,BO]
 |succ m ih=>
  have e0:ilt x32 x31=true:=Be (by omega)
  have e1:Qf .i64 x32 1=x32+1:=JD (by omega)
  have e2:XB y12 y5 x32=true:=Bi.2 ⟨hr,UP a1 a2 h0 (by omega)⟩
  have e5:QK y14 [x32] 8=true:=Jj (by decide) (by simp only [Bp];omega)
  have e6:(x31-(x32+1)).toNat=m:=by omega
  rw [QsF]
  simp only [Oj,e0,e1,e2,e5,Qd]
  rw [ih (x32+1) (y14++[x32]) (by omega) (by omega) (by simp only [Bl,Bp];omega) (by omega),ih (x32+1) y14 (by omega) (by omega) (by omega) (by omega)]
  simp only [QiS,hm,e6,ZT]
  show br (clB y12 y5 x32) _ _=_
  cases clB y12 y5 x32 with
  |true=>simp only [Qd,Dh,BQ,BN]
  |false=>simp only [Qh,Da]
theorem QEN:LO QiQ QiO QsD 0:=QH (s:=Qcr) fun x y h _ q=>by simp only [QE,QF] at q;exact (QEM x.2.2.2.1 x.2.2.2.2.1 y.1 y.2.1 y.2.2.1 h).trans q
theorem s_f13 (e:Estate)(y:Policy)(l:List Exception)(o:Dice)(d:Int)(h:QiN e y l o d=true):r_f13 e y l o d=some (.tu [.t (.sl tI) (Ed e y l o d).1,.t tI (Ed e y l o d).2],[]):=by
 obtain ⟨h1,h2⟩:=Bi.1 h
 unfold r_f13 Ed
 refine brY h1 ?_
 rw [Qfb]
 cases ho:JC e with
 |false=>rfl
 |true=>
  rw [BH,Qh]
  refine brY (show ZW (rl y l o d)=true from h2) ?_
  show br (ine (Jn (rl y l o d)) 0) (some (V.tu [V.t (.sl tI) ([]:List Int),V.t tI (Jn (rl y l o d))],[])) (br (Ec (Qa e.2.1) 0 e (rl y l o d) []) (some (V.tu [V.t (.sl tI) ([]++ZT (clB (rl y l o d) e) ((Qa e.2.1)-0).toNat 0),V.t tI 0],[])) none)=_
  cases ine (Jn (rl y l o d)) 0 with
  |true=>rfl
  |false=>
   rw [Qh]
   have e:((Qa e.2.1)-0).toNat=e.2.1.length:=by simp only [Qa];omega
   refine brY ?_ ?_
   ·unfold Ec
    rw [ho,h1,h2]
    exact Be ⟨BT 0,by simp only [Qa];omega,rfl,by simp⟩
   ·rw [e,BR]
    rfl
def QsG:Ent:=Ql (.pr Qw (.pr Zw (.pr (.sl J8) (.pr QI (.pr tI .nil))))) (fun x=>(QiN x.1 x.2.1 x.2.2.1 x.2.2.2.1 x.2.2.2.2.1)) (fun x=>(.tu [(.t (.sl tI) ((Ed x.1 x.2.1 x.2.2.1 x.2.2.2.1 x.2.2.2.2.1).1)),(.t tI ((Ed x.1 x.2.1 x.2.2.1 x.2.2.2.1 x.2.2.2.2.1).2))]))
theorem ms_f13:EM 13 QsG:=mS (lk:=lkL (lkc QEN lkn)) QiQ QsC [((.t 10),some (.sl tI)),((.t 11),some tI)] false (gB (gD Qmq (gD QdM (gD QdQ gN)))) fun m=>Qn m fun x hok=>kT (s_f13 x.1 x.2.1 x.2.2.1 x.2.2.2.1 x.2.2.2.2.1 hok)
def JW (r:Rules)(e:Estate)(i:Int):Int:=Qa (ZX r e i)
def Yk (f:Int->Int):Nat->Int->Int->Int
 |0,_,s=>s
 |k+1,i,s=>Yk f k (i+1) (s+f i)
def Ee (n i:Int)(b a:Estate)(r:Rules)(s t:Int):Bool:=
 JC b&&(Jr b&&(JC a&&(Jr a&&(ZW r&&decide (0<=i/\i<=n/\n=b.2.1.length/\n=a.2.1.length/\0<=s/\s<=64*i/\0<=t/\t<=64*i)))))
def Xw (b a:Estate)(y:Policy)(l:List Exception)(o:Dice)(d:Int):Int×Int×Int:=
 bif ine (Zd b a) 0 then (0,0,Zd b a) else bif ine (Jn (rl y l o d)) 0 then (0,0,Jn (rl y l o d)) else (Yk (JW (rl y l o d) b) b.2.1.length 0 0,Yk (JW (rl y l o d) a) b.2.1.length 0 0,0)
abbrev Qcs:Sh:=⟨[(6,.ptr 6 0),(7,.ptr 7 0),(15,.ptr 15 0),(18,.ty tI),(19,.ty tI),(39,.ty tI),(40,.ty tI)],[(6,.box Qw),(7,.box Qw),(15,.box UR)]⟩
abbrev QsH:Sh:=⟨[(18,.ty tI),(19,.ty tI)],[]⟩
def QiT:Fg:=Qcs.f
def QsI:TC:=aF Tryz.f24 [(506,pL 0 QiT),(8101,.fg QsH.f),(32409,pD [(0,[]),(1,[15]),(2,[6]),(3,[]),(4,[]),(5,[]),(6,[]),(7,[]),(8,[15]),(9,[7]),(10,[]),(11,[]),(12,[]),(13,[]),(14,[]),(15,[])] (.of [0,1,2,3,4,5,6,7,8,9,10,11,12,13,14,15]))]
def QsJ:TC:=lb 0 QsI
def QsK (x18 x19 x39 x40:Int)(y6 y7:Estate)(y15:Rules):VS:=Qcs.st ((),(),(),x18,x19,x39,x40,()) (y6,y7,y15,())
def QiU (x18 x19:Int):VS:=QsH.st (x18,x19,()) ()
def QEO:VS->Option (Bool×List (Bool×Exit×VS)):=mkL Qcs (fun x y=>(Ee x.2.2.2.2.2.1 x.2.2.2.2.2.2.1 y.1 y.2.1 y.2.2.1 x.2.2.2.1 x.2.2.2.2.1)) (fun x y=>[(true,.exit 0,QiU (Yk (JW y.2.2.1 y.1) (x.2.2.2.2.2.1-x.2.2.2.2.2.2.1).toNat x.2.2.2.2.2.2.1 x.2.2.2.1) (Yk (JW y.2.2.1 y.2.1) (x.2.2.2.2.2.1-x.2.2.2.2.2.2.1).toNat x.2.2.2.2.2.2.1 x.2.2.2.2.1))])
def QiV:G:=gG 60 [(28,OS),(29,OW),(30,QdR)] (Ls [QEO])
def QiW (x18 x19 x39 x40:Int)(y6 y7:Estate)(y15:Rules):OX:=Qv (QB QiV QiT QsJ) (QsK x18 x19 x39 x40 y6 y7 y15)
def Ok (kk:Int->Int->Int->Int->Estate->Estate->Rules->OX)(x18 x19 x39 x40:Int)(y6 y7:Estate)(y15:Rules):OX:=br (ilt x40 x39) (br (XB y15 y6 x40) (br (XB y15 y7 x40) (kk (Qf .i64 x18 (Qa (ZX y15 y6 x40))) (Qf .i64 x19 (Qa (ZX y15 y7 x40))) x39 (Qf .i64 x40 1) y6 y7 y15) none) none) (some (.exit 0,QiU x18 x19))
def QiX (x18 x19 x39 x40:Int)(y6 y7:Estate)(y15:Rules):OX:=some (.exit 0,QiU (Yk (JW y15 y6) (x39-x40).toNat x40 x18) (Yk (JW y15 y7) (x39-x40).toNat x40 x19))
theorem QsL (x18 x19 x39 x40:Int)(y6 y7:Estate)(y15:Rules):QiW x18 x19 x39 x40 y6 y7 y15=Ok QiW x18 x19 x39 x40 y6 y7 y15:=lnT (x:=Ok (fun x18 x19 x39 x40 y6 y7 y15=>some (.normal,QsK x18 x19 x39 x40 y6 y7 y15)) x18 x19 x39 x40 y6 y7 y15) (by simp only [Ok,nxA];rfl)
def r_f24 (p0 p1:Estate)(p2:Policy)(p3:List Exception)(p4:Dice)(p5:Int):OV:=
 let a1:=((p2.1,(p2.2.1,())),(p3,((p4.1,(p4.2.1,())),(p5,()))))
 br (GJ p0 p1) (br (ine (Zd p0 p1) 0) (some (.tu [(.t tI 0),(.t tI 0),(.t tI (Zd p0 p1))],[])) (br (ZW a1) (br (ine (Jn a1) 0) (some (.tu [(.t tI 0),(.t tI 0),(.t tI (Jn a1))],[])) (br (Ee (Qa p0.2.1) (0:Int) p0 p1 a1 (0:Int) (0:Int)) (some (.tu [(.t tI (Yk (JW a1 p0) ((Qa p0.2.1)-(0:Int)).toNat (0:Int) (0:Int))),(.t tI (Yk (JW a1 p1) ((Qa p0.2.1)-(0:Int)).toNat (0:Int) (0:Int))),(.t tI 0)],[])) none)) none)) none
theorem QEP (x18 x19 x39 x40:Int)(y6 y7:Estate)(y15:Rules)(h:(Ee x39 x40 y6 y7 y15 x18 x19)=true):QiW x18 x19 x39 x40 y6 y7 y15=QiX x18 x19 x39 x40 y6 y7 y15:=by
 simp only [Ee,Bc,Ba] at h
 obtain ⟨a1,a2,b1,b2,hr,h0,h1,h2,h3,h4,h5,h6,h7⟩:=h
 have hle:y6.2.1.length<=40:=(Un a1).2.2.2.2.2
 obtain ⟨m,hm⟩: ∃ m:Nat,(x39-x40).toNat=m:=⟨_,rfl⟩
 induction m generalizing x40 x18 x19 with
 |zero=>
  have:ilt x40 x39=false:=Bo (by omega)
  rw [QsL]
  simp only [Ok,QiX,this,Qh,hm,Yk]
 |succ m ih=>
  have e0:ilt x40 x39=true:=Be (by omega)
  have e1:Qf .i64 x40 1=x40+1:=JD (by omega)
  have e2:XB y15 y6 x40=true:=Bi.2 ⟨hr,UP a1 a2 h0 (by omega)⟩
  have e3:XB y15 y7 x40=true:=Bi.2 ⟨hr,UP b1 b2 h0 (by omega)⟩
  have l1:0<=JW y15 y6 x40/\JW y15 y6 x40<=64:=by have:=Qkx y15 y6 x40;simp only [JW,Qa];omega
  have l2:0<=JW y15 y7 x40/\JW y15 y7 x40<=64:=by have:=Qkx y15 y7 x40;simp only [JW,Qa];omega
  have e4:Qf .i64 x18 (Qa (ZX y15 y6 x40))=x18+JW y15 y6 x40:=JD (by show _<=x18+JW y15 y6 x40/\x18+JW y15 y6 x40<=_;omega)
  have e5:Qf .i64 x19 (Qa (ZX y15 y7 x40))=x19+JW y15 y7 x40:=JD (by show _<=x19+JW y15 y7 x40/\x19+JW y15 y7 x40<=_;omega)
  have e6:(x39-(x40+1)).toNat=m:=by omega
  rw [QsL]
  simp only [Ok,e0,e1,e2,e3,e4,e5,Qd]
  rw [ih (x18+JW y15 y6 x40) (x19+JW y15 y7 x40) (x40+1) (by omega) (by omega) (by omega) (by omega) (by omega) (by omega) (by omega)]
  simp only [QiX,hm,e6,Yk]
theorem QEQ:LO QiV QiT QsJ 0:=QH (s:=Qcs) fun x y h _ q=>by simp only [QE,QF] at q;exact (QEP x.2.2.2.1 x.2.2.2.2.1 x.2.2.2.2.2.1 x.2.2.2.2.2.2.1 y.1 y.2.1 y.2.2.1 h).trans q
theorem s_f24 (b a:Estate)(y:Policy)(l:List Exception)(o:Dice)(d:Int)(h:GC b a y l o d=true):r_f24 b a y l o d=some (.tu [.t tI (Xw b a y l o d).1,.t tI (Xw b a y l o d).2.1,.t tI (Xw b a y l o d).2.2],[]):=by
 obtain ⟨h1,h2⟩:=Bi.1 h
 obtain ⟨l1,l2⟩:=Bi.1 h1
 unfold r_f24 Xw
 refine brY h1 ?_
 cases hb:ine (Zd b a) 0 with
 |true=>rfl
 |false=>
  obtain ⟨o1,o2,he⟩:=QkC hb
  rw [Qh]
  refine brY (show ZW (rl y l o d)=true from h2) ?_
  show br (ine (Jn (rl y l o d)) 0) (some (V.tu [V.t tI 0,V.t tI 0,V.t tI (Jn (rl y l o d))],[])) (br (Ee (Qa b.2.1) 0 b a (rl y l o d) 0 0) (some (V.tu [V.t tI (Yk (JW (rl y l o d) b) ((Qa b.2.1)-0).toNat 0 0),V.t tI (Yk (JW (rl y l o d) a) ((Qa b.2.1)-0).toNat 0 0),V.t tI 0],[])) none)=_
  cases ine (Jn (rl y l o d)) 0 with
  |true=>rfl
  |false=>
   rw [Qh]
   have e:((Qa b.2.1)-0).toNat=b.2.1.length:=by simp only [Qa];omega
   refine brY ?_ ?_
   ·unfold Ee
    rw [o1,o2,l1,l2,h2]
    exact Be ⟨BT 0,by simp only [Qa];omega,rfl,by rw [←he],by omega,by omega,by omega,by omega⟩
   ·rw [e]
    rfl
def QsM:Ent:=Ql (.pr Qw (.pr Qw (.pr Zw (.pr (.sl J8) (.pr QI (.pr tI .nil)))))) (fun x=>(GC x.1 x.2.1 x.2.2.1 x.2.2.2.1 x.2.2.2.2.1 x.2.2.2.2.2.1)) (fun x=>(.tu [(.t tI ((Xw x.1 x.2.1 x.2.2.1 x.2.2.2.1 x.2.2.2.2.1 x.2.2.2.2.2.1).1)),(.t tI (((Xw x.1 x.2.1 x.2.2.1 x.2.2.2.1 x.2.2.2.2.1 x.2.2.2.2.2.1).2).1)),(.t tI (((Xw x.1 x.2.1 x.2.2.1 x.2.2.2.1 x.2.2.2.2.1 x.2.2.2.2.2.1).2).2))]))
theorem ms_f24:EM 24 QsM:=mS (lk:=lkL (lkc QEQ lkn)) QiV QsI [((.t 12),some tI),((.t 13),some tI),((.t 14),some tI)] false (gB (gD QdM (gD QdQ (gD QkD gN)))) fun m=>Qn m fun x hok=>kT (s_f24 x.1 x.2.1 x.2.2.1 x.2.2.2.1 x.2.2.2.2.1 x.2.2.2.2.2.1 hok)
end
end Go.Proofs.YtmjnnemhoeolgaaGreat.K
noncomputable section
namespace Go.Proofs.YtmjnnemhoeolgaaGreat.K.PE
open Go.RowKit
noncomputable section
abbrev zO:Dice:=(([]:List Int),(0,()))
abbrev zL:List Exception:=[]
theorem rls_ok {y:Policy}{d:Int}(h:Y7 y=0)(h0:0<=d)(h1:d<=40000):Jn (rl y zL zO d)=0:=by
 unfold Jn
 show (bif ine (Y7 y) 0 then (25:Int) else bif ilt d 0||igt d 40000 then 2 else 0)=0
 rw [h,show ilt d 0=false from Bo (by omega),show igt d 40000=false from Bo (by omega)]
 rfl
def wkV (d:Dice):Policy:=([(false,(dof d [14,16,2,12],(0,(0,(dof (QM d [14,16,2,12]) [0,5,100],(40001,()))))))],([],()))
def wkN (d:Dice):Dice:=QM (QM d [14,16,2,12]) [0,5,100]
theorem QDO (d:Dice):Y7 (wkV d)=0:=by
 have h1:=Il (d:=d) (l:=[14,16,2,12]) (by decide)
 have h2:=Il (d:=QM d [14,16,2,12]) (l:=[0,5,100]) (by decide)
 unfold wkV
 generalize dof d [14,16,2,12]=a at h1
 generalize dof (QM d [14,16,2,12]) [0,5,100]=b at h2
 have g1:0<=a/\a<=22:=by
  simp only [BX,Dl,or_false] at h1
  omega
 have g2:0<=b/\b<=100:=by
  simp only [BX,Dl,or_false] at h2
  omega
 have hr:WI (false,(a,(0,(0,(b,(40001,()))))))=true:=Be ⟨g1.1,g1.2,BT 0,(by decide:(0:Int)<=16384),BT 0,(by decide:(0:Int)<=4),g2.1,(show b<40001 by omega),BT 40001⟩
 have hp:FQ ([(false,(a,(0,(0,(b,(40001,()))))))],([],()))=true:=by
  unfold FQ
  rw [BV,hr]
  rfl
 unfold Y7
 rw [if_pos hp]
def tc_f11:TC:=aF Tryz.f11 []
def g_f11:G:=gG 12 [(26,Qat)] (fun _ _=>none)
def r_f11 (d0:Dice):OV:=
 let a1:=(QM d0 ([14,16,2,12]))
 br (Yf d0 ([14,16,2,12])) (br (Yf a1 ([0,5,100])) (some (.t Zw ([(false,((dof d0 ([14,16,2,12])),(0,(0,((dof a1 ([0,5,100])),(40001,()))))))],(([]:List Keep),())),[.box (.t QI (QM a1 ([0,5,100])))])) none) none
theorem s_f11 (d:Dice)(h:dOk d=true):r_f11 d=some (.t Zw (wkV d),[.box (.t QI (wkN d))]):=
 brY (Qiv h (by decide) (by decide)) (brY (Qiv (Fl (l:=[14,16,2,12]) h) (by decide) (by decide)) rfl)
def Qri:Ent:=We QI .nil (fun d x=>(dOk d)) (fun d x=>(.t Zw (wkV d))) (fun d x=>(wkN d))
theorem ms_f11:EM 11 Qri:=mS g_f11 tc_f11 [((.c 2 true 2),some Zw)] false (gB (gD Qgc gN)) fun m=>Ux m rfl fun d x hok=>kT (s_f11 d hok)
def QbT:Bool:=true
def tc_f8:TC:=aF Tryz.f8 []
def rv_f8:List (RV×Option Ty):=[((.t 0),some .bool)]
def g_f8:G:=gG 44 [(13,QsG),(14,QiM),(15,QvK)] (fun _ _=>none)
def r_f8  : OV:=
 let a1:=(Ed (([]:List Endpoint),(([]:List Keep),(([]:List Item),()))) (([]:List Rule),(([]:List Keep),())) ([]:List Exception) (([]:List Int),(0,())) 0)
 br (QkB (([]:List Endpoint),(([]:List Keep),(([]:List Item),()))) (([]:List Rule),(([]:List Keep),())) ([]:List Exception) (([]:List Int),(0,())) 0 0) (br (QiN (([]:List Endpoint),(([]:List Keep),(([]:List Item),()))) (([]:List Rule),(([]:List Keep),())) ([]:List Exception) (([]:List Int),(0,())) 0) (br (GC (([]:List Endpoint),(([]:List Keep),(([]:List Item),()))) (([]:List Endpoint),(([]:List Keep),(([]:List Item),()))) (([]:List Rule),(([]:List Keep),())) ([]:List Exception) (([]:List Int),(0,())) (-1)) (br (ieq ((ED (([]:List Endpoint),(([]:List Keep),(([]:List Item),()))) (([]:List Rule),(([]:List Keep),())) ([]:List Exception) (([]:List Int),(0,())) 0 0).2) 4) (br (ieq (a1.2) 0) (br (ieq (Qa (a1.1)) 0) (some (.t .bool (ieq ((WX (([]:List Endpoint),(([]:List Keep),(([]:List Item),()))) (([]:List Endpoint),(([]:List Keep),(([]:List Item),()))) (([]:List Rule),(([]:List Keep),())) ([]:List Exception) (([]:List Int),(0,())) (-1)).2) 2),[])) (some (.t .bool false,[]))) (some (.t .bool false,[]))) (some (.t .bool false,[]))) none) none) none
theorem e_f8  : JS g_f8 tc_f8 rv_f8 false [] []=r_f8  :=by kernel_rfl
set_option maxRecDepth 100000 in
theorem s_f8:r_f8=some (.t .bool QbT,[]):=by kernel_rfl
def sp_f8:Ent:=Ql .nil (fun x=>true) (fun x=>(.t .bool QbT))
theorem ms_f8:EM 8 sp_f8:=mS g_f8 tc_f8 rv_f8 false (gB (gD ms_f13 (gD QsA (gD ms_f15 gN)))) fun m=>Qn m fun x _=>(e_f8 ).trans (s_f8)
theorem Qrj: ∀ (n:Nat) (d:Dice),dOk d=true->dOk (itZ n d).2=true
 |0,_,h=>h
 |n+1,d,h=>Qrj n _ (QuB (s:=YQ d sIt) (QlP h))
theorem ine_00:ine (0:Int) 0=false:=rfl
theorem QDP:Qa ([]:List Keep)=0:=rfl
-- loop 0: (x8 : Int) (x87 : Int) (x88 : Int) (y6 : Estate); out: ('ret',) (x4 : Bool); ('exit', 0)
end
end Go.Proofs.YtmjnnemhoeolgaaGreat.K.PE
namespace Go.Proofs.YtmjnnemhoeolgaaGreat.K
open Go.RowKit PE
end Go.Proofs.YtmjnnemhoeolgaaGreat.K
noncomputable section
namespace Go.Proofs.YtmjnnemhoeolgaaGreat.K
open Go.RowKit
noncomputable section
def J4 (x:Estate)(c:Change):Estate×Int:=bif ine (Yt x) 0 then (zX,31) else Xs x c
def tc_f21:TC:=aF Tryz.f21 []
def g_f21:G:=gG 15 [(42,Qy9),(43,Qrh)] (fun _ _=>none)
def r_f21 (p0:Estate)(p1:Change):OV:=br (Jr p0) (br (ine (Yt p0) 0) (some (.tu [(.t Qw (([]:List Endpoint),(([]:List Keep),(([]:List Item),())))),(.t tI 31)],[])) (br (Gx p0 p1) (some (.tu [(.t Qw ((Xs p0 p1).1)),(.t tI ((Xs p0 p1).2))],[])) none)) none
theorem s_f21 (x:Estate)(c:Change)(h:Gx x c=true):r_f21 x c=some (.tu [.t Qw (J4 x c).1,.t tI (J4 x c).2],[]):=by
 obtain ⟨hb,hi⟩:=Bi.1 h
 obtain ⟨hl,_⟩:=Qh7 hb (by decide)
 unfold r_f21 J4
 refine brY hl ?_
 cases ine (Yt x) 0 with
 |true=>rfl
 |false=>
  rw [Qh]
  exact brY h rfl
def Qpx:Ent:=Ql (.pr Qw (.pr Ze .nil)) (fun x=>(Gx x.1 x.2.1)) (fun x=>(.tu [(.t Qw ((J4 x.1 x.2.1).1)),(.t tI ((J4 x.1 x.2.1).2))]))
theorem ms_f21:EM 21 Qpx:=mS g_f21 tc_f21 [((.c 4 true 3),some Qw),((.t 5),some tI)] false (gB (gD ms_f42 (gD ms_f43 gN))) fun m=>Qn m fun x hok=>kT (s_f21 x.1 x.2.1 hok)
theorem QBB {e:Endpoint}(h:G9 e):ZH 1000 e=true:=by
 have hl:=Qzb h
 obtain ⟨d,k,s,rfl,hs,hk⟩:=h
 have hsu:(U3 d).length<=5:=Bx (Qmw (p:=fun l=>decide (l.length<=5)) (by decide) d)
 unfold Q0 at hl
 simp only [Bc,Ba] at hl
 unfold ZH
 simp only [Bc,Ba]
 exact ⟨⟨hl.1.1,Dc hsu (by decide),(show 1<=1000 by decide),(show 1<=1000 by decide),(show 2<=1000 by decide)⟩,hl.2⟩
theorem QBC (d:Dice):Yv 1000 (QG d)=true:=by
 obtain ⟨g1,g2⟩:=VQ d
 have hn:=ET d
 have hl:(Qu (QG d)).length<=3:=by rw [Qft];omega
 obtain ⟨_,he,_⟩:=Qmy d
 have hitm:(Zs (QG d)).all U8=true:=Bf.2 fun i hi=>by
  have h1:=Bf.1 (Un g1).2.1 i hi
  have:=(Zl.1 h1).2.2.2.1
  exact Be (by omega)
 unfold Jr at g2
 simp only [Bc] at g2
 unfold Yv
 simp only [Bc,Ba]
 exact ⟨Bf.2 fun e he=>QBB (Qmx d e he),⟨by omega,by omega⟩,g2.2.2,hitm⟩
abbrev k6:Keep:=(3,(6,()))
theorem Qpy {f:Int->Bool}: ∀ (k:Nat) (i:Int),(∀ j:Int,i<=j->j<i+k->f j=false)->ZT f k i=[]
 |0,_,_=>rfl
 |k+1,i,hf=>by
  unfold ZT
  rw [hf i (BT i) (by omega)]
  exact Qpy k (i+1) fun j h1 h2=>hf j (by omega) (by omega)
end
end Go.Proofs.YtmjnnemhoeolgaaGreat.K
noncomputable section
namespace Go.Proofs.YtmjnnemhoeolgaaGreat.K
open Go.RowKit
noncomputable section
abbrev ecV:Keep:=(7,(256,()))
def QpY:TC:=aF Tryz.f44 []
def QpZ:List (RV×Option Ty):=[((.c 0 true 2),some Qe)]
def g_f44:G:=gG 2 [] (fun _ _=>none)
def r_f44  : OV:=some (.t Qe (7,(256,())),[])
theorem e_f44  : JS g_f44 QpY QpZ false [] []=r_f44  :=by kernel_rfl
theorem s_f44:r_f44=some (.t Qe ecV,[]):=rfl
def Qp0:Ent:=Ql .nil (fun x=>true) (fun x=>(.t Qe ecV))
theorem ms_f44:EM 44 Qp0:=mS g_f44 QpY QpZ false (gB gN) fun m=>Qn m fun x _=>(e_f44 ).trans (s_f44)
abbrev anL (e:Estate):Int:=Qa (Qu e)
abbrev anK (d:Dice)(e:Estate):Int:=Qf .i64 1 (Qj (Qc d (anL e)) 12)
abbrev anD (d:Dice)(e:Estate):Dice:=Qc (Qc d (anL e)) 12
abbrev anX (d:Dice)(e:Estate):Endpoint:=lgt Qo (Qu e) (Int.toNat (Qj d (anL e)))
abbrev anI (d:Dice)(e:Estate)(n a:Int)(i:Identity):Change:=(Qj d (anL e),(anK d e,(n,(a,(i,())))))
abbrev anC (d:Dice)(e:Estate)(n:Int):Change:=anI d e n 0 WS
abbrev anN (d:Dice)(e:Estate)(m:Int):Change×Dice:=(anC d e (Qf .i64 1 (Qj (anD d e) m)),Qc (anD d e) m)
def any1 (d:Dice)(e:Estate):Change×Dice:=
 (anI d e (Qf .i64 1 (Qj (anD d e) 16)) (Qj (Qc (anD d e) 16) (Qf .i64 (Qa (Qy (anX d e))) 1)) WS,Qc (Qc (anD d e) 16) (Qf .i64 (Qa (Qy (anX d e))) 1))
def Qhg (d:Dice)(e:Estate):Change×Dice:=
 bif igt (Qa (Qy (anX d e))) 0 then (bif !(done (Qc (anD d e) 16) 4) then (anC d e (lgt tI (Qy (anX d e)) (Int.toNat (Qj (Qc (Qc (anD d e) 16) 4) (Qa (Qy (anX d e)))))),Qc (Qc (Qc (anD d e) 16) 4) (Qa (Qy (anX d e))))
  else (anC d e (Qf .i64 1 (Qj (anD d e) 16)),Qc (Qc (anD d e) 16) 4)) else anN d e 16
abbrev anU (e:Endpoint):Int:=Qf .i64 (Qa (Qr e)) 1
abbrev Qp1:List Keep:=[ecV,JO]
def any5 (d:Dice)(e:Estate):Change×Dice:=
 (anI d e 0 (Qj (anD d e) (anU (anX d e))) (ZU (anX d e).1 (lgt Qe Qp1 (Int.toNat (Qj (Qc (anD d e) (anU (anX d e))) 2))) (Qf .i64 200 (Qj (Qc (Qc (anD d e) (anU (anX d e))) 2) 3)) (Qf .i64 1 (Qj (Qc (Qc (Qc (anD d e) (anU (anX d e))) 2) 3) 2)) 901),
  Qc (Qc (Qc (Qc (anD d e) (anU (anX d e))) 2) 3) 2)
def Qhh (d:Dice)(e:Estate):Change×Dice:=
 bif igt (Qa (Qr (anX d e))) 0 then (bif !(done (Qc (anD d e) 4) 4) then (anC d e (lgt Q1 (Qr (anX d e)) (Int.toNat (Qj (Qc (Qc (anD d e) 4) 4) (Qa (Qr (anX d e)))))).2.1,Qc (Qc (Qc (anD d e) 4) 4) (Qa (Qr (anX d e))))
  else (anC d e (Qf .i64 100 (Qj (anD d e) 4)),Qc (Qc (anD d e) 4) 4)) else (anC d e (Qf .i64 100 (Qj (anD d e) 4)),Qc (anD d e) 4)
def Qhi (d:Dice)(e:Estate):Change×Dice:=
 bif ieq (anK d e) 11 then (anC d e (Qj (anD d e) 2),Qc (anD d e) 2) else bif ieq (anK d e) 12 then (anC d e (Qj (anD d e) 2),Qc (anD d e) 2) else (anC d e 0,anD d e)
def Qhj (d:Dice)(e:Estate):Change×Dice:=bif ieq (anK d e) 9 then anN d e 4 else bif ieq (anK d e) 10 then anN d e 4 else Qhi d e
def Qhk (d:Dice)(e:Estate):Change×Dice:=
 bif ieq (anK d e) 5 then any5 d e else bif ieq (anK d e) 6 then Qhh d e else bif ieq (anK d e) 7 then anN d e 3 else bif ieq (anK d e) 8 then anN d e 3 else Qhj d e
def IH (d:Dice)(e:Estate):Change×Dice:=
 bif ieq (anK d e) 1 then any1 d e else bif ieq (anK d e) 2 then Qhg d e else bif ieq (anK d e) 3 then anN d e 4 else bif ieq (anK d e) 4 then anN d e 4 else Qhk d e
def JA (d:Dice)(e:Estate):Change:=(IH d e).1
def Z4 (d:Dice)(e:Estate):Dice:=(IH d e).2
def anyE (e:Endpoint):Bool:=Q0 e&&nm1 e.1
def FJ (d:Dice)(e:Estate):Bool:=dOk d&&(decide (0<(Qu e).length/\(Qu e).length<=1000)&&(Qu e).all anyE)
abbrev YH (p:Change×Dice):OV:=some (.t Ze p.1,[.box (.t QI p.2)])
theorem brQ {c:Bool}{x y:Change×Dice}{A B:OV}(h1:A=YH x)(h2:B=YH y):br c A B=YH (bif c then x else y):=by
 cases c with
 |true=>exact h1
 |false=>exact h2
theorem Qbd {c b:Bool}{x y:Change×Dice}{A B:OV}(h1:A=YH x)(h2:B=YH y):br c (br c A B) (br b A B)=YH (bif c then x else bif b then x else y):=by
 cases c with
 |true=>exact h1
 |false=>
  show br b A B=YH (bif b then x else y)
  exact brQ h1 h2
def tc_f23:TC:=aF Tryz.f23 [(1002,pD [(0,[50000]),(1,[28,5028,10028,15028,50000]),(2,[]),(3,[50000]),(4,[6]),(5,[6]),(6,[]),(7,[]),(8,[35,5035,10035,15035,50000]),(9,[7]),(10,[7]),(11,[7]),(12,[7])] (.of [0,3,4,5,6,7,1,2,9,8,10,11,12])),(32118,pD [(0,[6]),(1,[6]),(2,[50000]),(3,[6]),(4,[6]),(5,[]),(6,[59,5059,10059,15059,50000]),(7,[]),(8,[]),(9,[7]),(10,[7])] (.of [0,1,2,3,4,5,6,7,8,9,10])),(64254,pD [(0,[50000]),(1,[6]),(2,[6]),(3,[]),(4,[]),(5,[77,5077,10077,15077,50000]),(6,[6]),(7,[6]),(8,[]),(9,[]),(10,[]),(11,[50000]),(12,[84,5084,10084,15084,50000]),(13,[]),(14,[]),(15,[50000]),(16,[88,5088,10088,15088,50000]),(17,[]),(18,[50000]),(19,[91,5091,10091,15091,50000]),(20,[]),(21,[]),(22,[7]),(23,[7]),(24,[7]),(25,[7])] (.of [0,1,2,3,4,6,7,11,15,18,5,8,9,10,22,12,13,14,16,17,19,20,21,23,24,25])),(2056182,pD [(0,[6]),(1,[6]),(2,[50000]),(3,[6]),(4,[6]),(5,[]),(6,[117,5117,10117,15117,50000]),(7,[]),(8,[]),(9,[]),(10,[7]),(11,[7])] (.of [0,1,2,3,4,5,6,7,8,9,10,11]))]
def g_f23:G:=gG 143 [(22,Us),(37,Qgb),(38,QjV),(39,QjU),(44,Qp0)] (fun _ _=>none)
def II (d0:Dice)(p1:Estate):OV:=
 let a1:=Qc (Qc d0 (Qa p1.1)) 12
 br (QV a1 4) (some (.t Ze ((Qj d0 (Qa p1.1)),((Qf .i64 1 (Qj (Qc d0 (Qa p1.1)) 12)),((Qf .i64 1 (Qj a1 4)),(0,(((0,(0,())),(0,(([]:List Certificate),()))),()))))),[.box (.t QI (Qc a1 4))])) none
def Qhl (d0:Dice)(p1:Estate):OV:=
 let a1:=Qc (Qc d0 (Qa p1.1)) 12
 br (QV a1 3) (some (.t Ze ((Qj d0 (Qa p1.1)),((Qf .i64 1 (Qj (Qc d0 (Qa p1.1)) 12)),((Qf .i64 1 (Qj a1 3)),(0,(((0,(0,())),(0,(([]:List Certificate),()))),()))))),[.box (.t QI (Qc a1 3))])) none
def Qhm (d0:Dice)(p1:Estate):OV:=
 let a1:=Qc (Qc d0 (Qa p1.1)) 12
 br (QV a1 2) (some (.t Ze ((Qj d0 (Qa p1.1)),((Qf .i64 1 (Qj (Qc d0 (Qa p1.1)) 12)),((Qj a1 2),(0,(((0,(0,())),(0,(([]:List Certificate),()))),()))))),[.box (.t QI (Qc a1 2))])) none
def Qbe (d0:Dice)(p1:Estate):OV:=
 let a1:=Qf .i64 1 (Qj (Qc d0 (Qa p1.1)) 12)
 let a2:=Qc (Qc d0 (Qa p1.1)) 12
 br (ieq a1 11) (br (ieq a1 11) (Qhm d0 p1) (some (.t Ze ((Qj d0 (Qa p1.1)),(a1,(0,(0,(((0,(0,())),(0,(([]:List Certificate),()))),()))))),[.box (.t QI a2)]))) (br (ieq a1 12) (Qhm d0 p1) (some (.t Ze ((Qj d0 (Qa p1.1)),(a1,(0,(0,(((0,(0,())),(0,(([]:List Certificate),()))),()))))),[.box (.t QI a2)])))
def Qbf (d0:Dice)(p1:Estate):OV:=
 let a1:=Qf .i64 1 (Qj (Qc d0 (Qa p1.1)) 12)
 br (ieq a1 9) (br (ieq a1 9) (II d0 p1) (Qbe d0 p1)) (br (ieq a1 10) (II d0 p1) (Qbe d0 p1))
def Qbg (d0:Dice)(p1:Estate):OV:=
 let a4:=Qc d0 (Qa p1.1)
 let a7:=Qj d0 (Qa p1.1)
 let a3:=(((((((lgt Qo p1.1 (Int.toNat a7)).2).2).2).2).2).1)
 let a11:=Qf .i64 (Qa a3) 1
 let a1:=Qc (Qc a4 12) a11
 let a8:=Qc (Qc a1 2) 3
 let a2:=(ZU ((lgt Qo p1.1 (Int.toNat a7)).1) (lgt Qe ([(ecV.1,(ecV.2.1,())),(JO.1,(JO.2.1,()))]) (Int.toNat (Qj a1 2))) (Qf .i64 200 (Qj (Qc a1 2) 3)) (Qf .i64 1 (Qj a8 2)) 901)
 let a5:=Qf .i64 1 (Qj a4 12)
 let a6:=Qc (Qc a4 12) 4
 let a9:=Qf .i64 100 (Qj (Qc a4 12) 4)
 let a10:=Qj (Qc a6 4) (Qa a3)
 br (ieq a5 5) (br (QV (Qc a4 12) a11) (br (QV a1 2) (br (cIx ([(ecV.1,(ecV.2.1,())),(JO.1,(JO.2.1,()))]) (Qj a1 2)) (br (QV (Qc a1 2) 3) (br (QV a8 2) (br (Ew ((lgt Qo p1.1 (Int.toNat a7)).1) (lgt Qe ([(ecV.1,(ecV.2.1,())),(JO.1,(JO.2.1,()))]) (Int.toNat (Qj a1 2))) (Qf .i64 200 (Qj (Qc a1 2) 3)) (Qf .i64 1 (Qj a8 2)) 901) (some (.t Ze (a7,(a5,(0,((Qj (Qc a4 12) a11),((((a2.1).1,(((a2.1).2).1,())),((a2.2).1,(((a2.2).2).1,()))),()))))),[.box (.t QI (Qc a8 2))])) none) none) none) none) none) none) (br (ieq a5 6) (br (QV (Qc a4 12) 4) (br (igt (Qa a3) 0) (br (YF a6 4) (br (!(done a6 4)) (br (QV (Qc a6 4) (Qa a3)) (br (cIx a3 a10) (some (.t Ze (a7,(a5,(((lgt Q1 a3 (Int.toNat a10)).2).1,(0,(((0,(0,())),(0,(([]:List Certificate),()))),()))))),[.box (.t QI (Qc (Qc a6 4) (Qa a3)))])) none) none) (some (.t Ze (a7,(a5,(a9,(0,(((0,(0,())),(0,(([]:List Certificate),()))),()))))),[.box (.t QI (Qc a6 4))]))) none) (some (.t Ze (a7,(a5,(a9,(0,(((0,(0,())),(0,(([]:List Certificate),()))),()))))),[.box (.t QI a6)]))) none) (br (ieq a5 7) (br (ieq a5 7) (Qhl d0 p1) (Qbf d0 p1)) (br (ieq a5 8) (Qhl d0 p1) (Qbf d0 p1))))
def r_f23 (d0:Dice)(p1:Estate):OV:=
 let a5:=Qj d0 (Qa p1.1)
 let a1:=(((((lgt Qo p1.1 (Int.toNat a5)).2).2).2).1)
 let a2:=Qc d0 (Qa p1.1)
 let a3:=Qc (Qc a2 12) 16
 let a4:=Qf .i64 1 (Qj a2 12)
 let a6:=Qf .i64 1 (Qj (Qc a2 12) 16)
 let a7:=Qf .i64 (Qa a1) 1
 let a8:=Qj (Qc a3 4) (Qa a1)
 let a9:=QV (Qc a2 12) 16
 br (QV d0 (Qa p1.1)) (br (cIx p1.1 a5) (br (QV a2 12) (br (ieq a4 1) (br a9 (br (QV a3 a7) (some (.t Ze (a5,(a4,(a6,((Qj a3 a7),(((0,(0,())),(0,(([]:List Certificate),()))),()))))),[.box (.t QI (Qc a3 a7))])) none) none) (br (ieq a4 2) (br a9 (br (igt (Qa a1) 0) (br (YF a3 4) (br (!(done a3 4)) (br (QV (Qc a3 4) (Qa a1)) (br (cIx a1 a8) (some (.t Ze (a5,(a4,((lgt tI a1 (Int.toNat a8)),(0,(((0,(0,())),(0,(([]:List Certificate),()))),()))))),[.box (.t QI (Qc (Qc a3 4) (Qa a1)))])) none) none) (some (.t Ze (a5,(a4,(a6,(0,(((0,(0,())),(0,(([]:List Certificate),()))),()))))),[.box (.t QI (Qc a3 4))]))) none) (some (.t Ze (a5,(a4,(a6,(0,(((0,(0,())),(0,(([]:List Certificate),()))),()))))),[.box (.t QI a3)]))) none) (br (ieq a4 3) (br (ieq a4 3) (II d0 p1) (Qbg d0 p1)) (br (ieq a4 4) (II d0 p1) (Qbg d0 p1))))) none) none) none
theorem s_f23 (d:Dice)(e:Estate)(h:FJ d e=true):r_f23 d e=YH (IH d e):=by
 simp only [FJ,Bc,Ba] at h
 obtain ⟨hd,⟨hl0,hl1⟩,hall⟩:=h
 have hL:anL e=((Qu e).length:Int):=rfl
 have hv:=JR (d:=d) (n:=anL e) (by omega)
 have hi:(Int.toNat (Qj d (anL e)))<(Qu e).length:=by omega
 have hX:anyE (anX d e)=true:=by
  rw [show anX d e=(Qu e)[Int.toNat (Qj d (anL e))] from QS (y:=Qo) hi]
  exact Bf.1 hall _ (Bu hi)
 obtain ⟨hX1,hX2⟩:=Bi.1 hX
 obtain ⟨_,b1,b2,_,_,_⟩:=Gw hX1
 have d1:dOk (Qc d (anL e))=true:=QO hd
 have d2:dOk (anD d e)=true:=QO d1
 have nx: ∀ {w:Dice} {n:Int},dOk w=true->n<=1000000->QV w n=true:=fun h hn=>GB h hn
 have s1:Qf .i64 (Qa (Qy (anX d e))) 1=((Qy (anX d e)).length:Int)+1:=JD (by simp only [Qa];omega)
 have s2:anU (anX d e)=((Qr (anX d e)).length:Int)+1:=JD (by simp only [Qa];omega)
 have q1:II d e=YH (anN d e 4):=brY (nx d2 (by decide)) rfl
 have q3:Qhl d e=YH (anN d e 3):=brY (nx d2 (by decide)) rfl
 have q6:Qhm d e=YH (anC d e (Qj (anD d e) 2),Qc (anD d e) 2):=brY (nx d2 (by decide)) rfl
 have q5:Qbe d e=YH (Qhi d e):=by
  unfold Qbe
  exact Qbd q6 rfl
 have q4:Qbf d e=YH (Qhj d e):=by
  unfold Qbf
  exact Qbd q1 q5
 have q2:Qbg d e=YH (Qhk d e):=by
  unfold Qbg
  refine brQ ?_ (brQ ?_ (Qbd q3 q4))
  ·refine brY (nx d2 (by show anU (anX d e)<=1000000;omega)) (brY (nx (QO d2) (by decide)) (brY ?_ (brY (nx (QO (QO d2)) (by decide)) (brY (nx (QO (QO (QO d2))) (by decide)) (brY hX2 rfl)))))
   have:=JR (d:=Qc (anD d e) (anU (anX d e))) (n:=2) (by decide)
   exact Be ⟨this.1,this.2⟩
  ·refine brY (nx d2 (by decide)) ?_
   unfold Qhh
   show br (igt (Qa (Qr (anX d e))) 0) _ _=_
   cases hg:igt (Qa (Qr (anX d e))) 0 with
   |false=>rfl
   |true=>
    have hg:=Bx hg
    simp only [Qa] at hg
    have:=JR (d:=Qc (Qc (anD d e) 4) 4) (n:=Qa (Qr (anX d e))) hg
    rw [Qd,Dh]
    refine brY (Qcg (QO d2) (by decide) (by decide)) (brQ ?_ rfl)
    exact brY (nx (QO (QO d2)) (by show ((Qr (anX d e)).length:Int)<=1000000;omega)) (brY (Be ⟨this.1,this.2⟩) rfl)
 unfold r_f23
 refine brY (nx hd (by show anL e<=1000000;omega)) (brY (Be ⟨hv.1,hv.2⟩) (brY (nx d1 (by decide)) (brQ ?_ (brQ ?_ (Qbd q1 q2)))))
 ·exact brY (nx d2 (by decide)) (brY (nx (QO d2) (by show Qf .i64 (Qa (Qy (anX d e))) 1<=1000000;omega)) rfl)
 ·refine brY (nx d2 (by decide)) ?_
  unfold Qhg
  show br (igt (Qa (Qy (anX d e))) 0) _ _=_
  cases hg:igt (Qa (Qy (anX d e))) 0 with
  |false=>rfl
  |true=>
   have hg:=Bx hg
   simp only [Qa] at hg
   have:=JR (d:=Qc (Qc (anD d e) 16) 4) (n:=Qa (Qy (anX d e))) hg
   rw [Qd,Dh]
   refine brY (Qcg (QO d2) (by decide) (by decide)) (brQ ?_ rfl)
   exact brY (nx (QO (QO d2)) (by show ((Qy (anX d e)).length:Int)<=1000000;omega)) (brY (Be ⟨this.1,this.2⟩) rfl)
def Qp2:Ent:=We QI (.pr Qw .nil) (fun d x=>(FJ d x.1)) (fun d x=>(.t Ze (JA d x.1))) (fun d x=>(Z4 d x.1))
theorem ms_f23:EM 23 Qp2:=mS g_f23 tc_f23 [((.c 4 true 8),some Ze)] false (gB (gD Ge (gD QnU (gD QuL (gD QuK (gD ms_f44 gN)))))) fun m=>Ux m rfl fun d x hok=>kT (s_f23 d x.1 hok)
end
end Go.Proofs.YtmjnnemhoeolgaaGreat.K
noncomputable section
namespace Go.Proofs.YtmjnnemhoeolgaaGreat.K
open Go.RowKit
noncomputable section
theorem Yl {P:Change×Dice->Prop}{b:Bool}{x y:Change×Dice}(hx:P x)(hy:P y):P (bif b then x else y):=by
 cases b with
 |true=>exact hx
 |false=>exact hy
theorem QuM {P:Change×Dice->Prop}(d:Dice)(e:Estate)(h5:P (any5 d e))(h: ∀ n a w,dOk d=true->dOk w=true->P (anI d e n a WS,w))(hd:dOk d=true):P (IH d e):=by
 have d2:dOk (anD d e)=true:=QO (QO hd)
 have d3: ∀ n,dOk (Qc (anD d e) n)=true:=fun n=>QO d2
 have d4: ∀ n m,dOk (Qc (Qc (anD d e) n) m)=true:=fun n m=>QO (d3 n)
 have d5: ∀ n m k,dOk (Qc (Qc (Qc (anD d e) n) m) k)=true:=fun n m k=>QO (d4 n m)
 unfold IH Qhk Qhj Qhi Qhg Qhh any1
 refine Yl (h _ _ _ hd (d4 _ _)) (Yl (Yl (Yl (h _ _ _ hd (d5 _ _ _)) (h _ _ _ hd (d4 _ _))) (h _ _ _ hd (d3 _))) (Yl (h _ _ _ hd (d3 _)) (Yl (h _ _ _ hd (d3 _)) (Yl h5 (Yl (Yl (Yl (h _ _ _ hd (d5 _ _ _)) (h _ _ _ hd (d4 _ _))) (h _ _ _ hd (d3 _))) (Yl (h _ _ _ hd (d3 _)) (Yl (h _ _ _ hd (d3 _)) (Yl (h _ _ _ hd (d3 _)) (Yl (h _ _ _ hd (d3 _)) (Yl (h _ _ _ hd (d3 _)) (Yl (h _ _ _ hd (d3 _)) (h _ _ _ hd d2))))))))))))
theorem QuN {d:Dice}{e:Estate}(hd:dOk d=true):dOk (Z4 d e)=true:=
 QuM (P:=fun p=>dOk p.2=true) d e (QO (n:=2) (QO (n:=3) (QO (n:=2) (QO (n:=anU (anX d e)) (QO (QO hd)))))) (fun _ _ _ _ h=>h) hd
theorem QG0:(Yr.all fun s=>[ecV,JO].all fun k=>[200,201,202].all fun i=>[1,2].all fun a=>Jg (ZU s k i a 901))=true:=by kernel_rfl
theorem any_id {d:Dice}{e:Estate}(hd:dOk d=true)(hl:0<(Qu e).length)(hs: ∀ x∈Qu e,x.1∈Yr):Jg (Zz (JA d e))=true:=by
 refine QuM (P:=fun p=>Jg (Zz p.1)=true) d e ?_ (fun _ _ _ _ _=>rfl) hd
 have hL:anL e=((Qu e).length:Int):=rfl
 have hv:=JR (d:=d) (n:=anL e) (by omega)
 have hi:(Int.toNat (Qj d (anL e)))<(Qu e).length:=by omega
 have hX:(anX d e).1∈Yr:=by
  rw [show anX d e=(Qu e)[Int.toNat (Qj d (anL e))] from QS (y:=Qo) hi]
  exact hs _ (Bu hi)
 show Jg (ZU (anX d e).1 _ _ _ 901)=true
 generalize (anX d e).1=nm at hX
 have k1:=JR (d:=Qc (anD d e) (anU (anX d e))) (n:=2) (by decide)
 have k2:=JR (d:=Qc (Qc (anD d e) (anU (anX d e))) 2) (n:=3) (by decide)
 have k3:=JR (d:=Qc (Qc (Qc (anD d e) (anU (anX d e))) 2) 3) (n:=2) (by decide)
 generalize Qj (Qc (anD d e) (anU (anX d e))) 2=v1 at k1
 generalize Qj (Qc (Qc (anD d e) (anU (anX d e))) 2) 3=v2 at k2
 generalize Qj (Qc (Qc (Qc (anD d e) (anU (anX d e))) 2) 3) 2=v3 at k3
 have h:=Bf.1 QG0 nm hX
 have g1:lgt Qe Qp1 (Int.toNat v1)∈[ecV,JO]:=by
  rcases (show v1=0∨v1=1 by omega) with rfl|rfl
  ·exact B7
  ·exact BZ _ B7
 have g2:Qf .i64 200 v2∈[(200:Int),201,202]:=by
  rcases (show v2=0∨v2=1∨v2=2 by omega) with rfl|rfl|rfl<;>decide
 have g3:Qf .i64 1 v3∈[(1:Int),2]:=by
  rcases (show v3=0∨v3=1 by omega) with rfl|rfl<;>decide
 exact Bf.1 (Bf.1 (Bf.1 h _ g1) _ g2) _ g3
def XA (e0 e:Endpoint):Prop:=QN e=true/\e.1=e0.1/\e.2.1=e0.2.1/\e.2.2.1=e0.2.2.1/\Qr e=Qr e0∧ ∀ x,Jo (Qy e) x=true->Jo (Qy e0) x=true
def UO (k:Int):Bool:=ieq k 2||(ieq k 8||ieq k 10)
theorem wo_has {l:List Int}{a x:Int}(h:Jo (woF l a) x=true):Jo l x=true:=by
 have h:=BF.1 h
 refine BF.2 ?_
 unfold woF lsl at h
 rw [BR] at h
 rcases BA.1 h with h|h
 ·exact List.mem_of_mem_drop (Dt h)
 ·exact List.mem_of_mem_drop (Dt h)
theorem QG1 {e0 e:Endpoint}{c:Change}(h:XA e0 e)(hk:UO (QP c)=true)(hv:QN (Zj e c)=true):XA e0 (Zj e c):=by
 obtain ⟨_,g1,g2,g3,g4,g5⟩:=h
 unfold UO at hk
 simp only [Dd] at hk
 rcases hk with hk|hk|hk
 ·have hk:=Yd hk
  have:Zj e c=suE e (woF (Qy e) (Zk (Qy e) (Q4 c))):=by
   unfold Zj
   rw [hk]
   rfl
  refine ⟨hv, ?_⟩
  rw [this]
  exact ⟨g1,g2,g3,g4,fun x hx=>g5 x (wo_has hx)⟩
 ·have hk:=Yd hk
  have:Zj e c=anE e (woF (Q2 e) (Zk (Q2 e) (Q4 c))):=by
   unfold Zj
   rw [hk]
   rfl
  refine ⟨hv, ?_⟩
  rw [this]
  exact ⟨g1,g2,g3,g4,g5⟩
 ·have hk:=Yd hk
  have:Zj e c=hsE e (woF (Q5 e) (Zk (Q5 e) (Q4 c))):=by
   unfold Zj
   rw [hk]
   rfl
  refine ⟨hv, ?_⟩
  rw [this]
  exact ⟨g1,g2,g3,g4,g5⟩
def Ym (d:Dice)(n:Nat)(x:Estate):Prop:=Yv n x=true/\x.2=(QG d).2/\(Qu x).length=(Qu (QG d)).length∧ ∀ j,j<(Qu (QG d)).length->XA (Jl (Qu (QG d)) j) (Jl (Qu x) j)
theorem QuO (d:Dice):Ym d 1000 (QG d):=⟨QBC d,rfl,rfl,fun j hj=>⟨Qfs (Qdd d hj),rfl,rfl,rfl,rfl,fun _ h=>h⟩⟩
theorem Qdo {d:Dice}{n m:Nat}{x:Estate}(h:Ym d n x)(hn:n<=m):Ym d m x:=⟨QtJ h.1 hn,h.2⟩
theorem apy_of {x:Estate}{c:Change}(h:(J4 x c).2=0): ∃ i:Nat,i<(Qu x).length/\c.1=(i:Int)/\J5 (Jl (Qu x) i) c=0/\QN (Zj (Jl (Qu x) i) c)=true/\J4 x c=(((Qu x).set i (Zj (Jl (Qu x) i) c),(Q7 x,(Zs x,()))),0)/\J4 x c=Xs x c:=by
 unfold J4 at h ⊢
 cases h0:ine (Yt x) 0 with
 |true=>
  rw [h0] at h
  exact absurd (show (31:Int)=0 from h) (by decide)
 |false=>
  rw [h0] at h
  simp only [Da] at h ⊢
  unfold Xs at h ⊢
  cases h1:ilt c.1 0 with
  |true=>
   rw [h1] at h
   exact absurd (show (40:Int)=0 from h) (by decide)
  |false=>
   rw [h1] at h
   cases h2:ige c.1 (Qa (Qu x)) with
   |true=>
    rw [h2] at h
    exact absurd (show (40:Int)=0 from h) (by decide)
   |false=>
    rw [h2] at h
    simp only [Da] at h ⊢
    simp only [ilt,ige,Qa,Bn] at h1 h2
    cases h3:ine (Zt (Jl (Qu x) c.1.toNat) c).2 0 with
    |true=>
     rw [h3] at h
     have h:(Zt (Jl (Qu x) c.1.toNat) c).2=0:=h
     rw [h] at h3
     cases h3
    |false=>
     have h3:=I0 h3
     refine ⟨c.1.toNat,by omega,by omega, ?_⟩
     unfold Zt at h3 ⊢
     cases h4:ine (J5 (Jl (Qu x) c.1.toNat) c) 0 with
     |true=>
      rw [h4] at h3
      have h3:J5 (Jl (Qu x) c.1.toNat) c=0:=h3
      rw [h3] at h4
      cases h4
     |false=>
      rw [h4] at h3
      cases h5:ine (Zb (Zj (Jl (Qu x) c.1.toNat) c)) 0 with
      |true=>
       rw [h5] at h3
       exact absurd (show (18:Int)=0 from h3) (by decide)
      |false=>
       rw [QcA] at h5
       exact ⟨I0 h4,by simpa using h5,rfl,trivial⟩
theorem QuP {d:Dice}{n:Nat}{x:Estate}{c:Change}(h:Ym d n x)(hn:n<=80000)(hk:UO (QP c)=true)(hi:Jg (Zz c)=true)(hz:(J4 x c).2=0):Ym d (n+1) (J4 x c).1:=by
 obtain ⟨g1,g2,g3,g4⟩:=h
 obtain ⟨i,i1,i2,_,i4,i5,i6⟩:=apy_of hz
 refine ⟨?_, ?_, ?_,fun j hj=> ?_⟩
 ·rw [i6]
  exact QFJ g1 hn hi
 ·rw [i5]
  exact g2
 ·rw [i5]
  show ((Qu x).set i _).length=_
  rw [List.length_set]
  exact g3
 ·rw [i5]
  show XA _ (((Qu x).set i _).getD j zEp)
  rw [Bk,List.getElem?_set]
  by_cases hij:i=j
  ·subst hij
   rw [if_pos rfl,if_pos i1]
   exact QG1 (g4 i hj) hk i4
  ·rw [if_neg hij]
   have:=g4 j hj
   rw [Jl,Jl,Bk,Bk] at this
   rw [Jl,Bk]
   exact this
def ZV:Nat->Estate->Dice->Estate×Dice
 |0,x,d=>(x,d)
 |n+1,x,d=>bif UO (QP (JA d x)) then (bif ieq (J4 x (JA d x)).2 0 then ZV n (J4 x (JA d x)).1 (Z4 d x) else ZV n x (Z4 d x)) else ZV n x (Z4 d x)
theorem QG2 {e:Endpoint}(h:G9 e):e.1∈Yr:=by
 obtain ⟨d,k,s,rfl,hs,_⟩:=h
 exact hs
theorem QG3 {d:Dice}{n:Nat}{x:Estate}(h:Ym d n x): ∀ e∈Qu x,e.1∈Yr:=fun e he=>by
 obtain ⟨j,hj⟩:=Dy.1 he
 obtain ⟨hj1,rfl⟩:=BB.1 hj
 have hj2:j<(Qu (QG d)).length:=by rw [←h.2.2.1];exact hj1
 have:=(h.2.2.2 j hj2).2.1
 rw [show Jl (Qu x) j=(Qu x)[j] by simp only [Jl,Bk,Bh hj1,BI]] at this
 rw [this]
 exact QG2 (Qdd d hj2)
theorem QG4:(Yr.all nm1)=true:=by kernel_rfl
theorem QuQ {d w:Dice}{n:Nat}{x:Estate}(h:Ym d n x)(hn:n<=80000)(hw:dOk w=true):FJ w x=true/\Gx x (JA w x)=true:=by
 have hl:=ET d
 have hlen:(Qu x).length=(Jq d).length:=by rw [h.2.2.1,Qft]
 have hnm:=QG3 h
 constructor
 ·unfold FJ
  rw [hw,Be (show 0<(Qu x).length/\(Qu x).length<=1000 by omega),BC,BC]
  refine Bf.2 fun e he=>Bi.2 ⟨Qbh (Bf.1 (I2 h.1).1 e he) (by omega),Bf.1 QG4 _ (hnm e he)⟩
 ·exact Bi.2 ⟨QtJ h.1 hn,any_id hw (by omega) hnm⟩
theorem QjX {d:Dice}: ∀ (m:Nat) {n:Nat} {x:Estate} {w:Dice},Ym d n x->n+m<=80000->dOk w=true->Ym d (n+m) (ZV m x w).1/\dOk (ZV m x w).2=true
 |0,_,_,_,h,_,hw=>⟨h,hw⟩
 |m+1,n,x,w,h,hn,hw=>by
  have hw2:dOk (Z4 w x)=true:=QuN hw
  have he:n+(m+1)=n+1+m:=by omega
  have hno:=QjX m (Qdo h (Nat.le_succ n)) (by omega) hw2
  rw [he]
  unfold ZV
  cases h1:UO (QP (JA w x)) with
  |false=>exact hno
  |true=>
   cases h2:ieq (J4 x (JA w x)).2 0 with
   |false=>exact hno
   |true=>
    have h2:(J4 x (JA w x)).2=0:=by simpa [YE] using h2
    exact QjX m (QuP h (by omega) h1 (Bi.1 (QuQ h (by omega) hw).2).2 h2) (by omega) hw2
theorem QuR {d:Dice}{n:Nat}{x:Estate}(h:Ym d n x)(hn:n<=80000):JC x=true/\Jr x=true:=by
 obtain ⟨g1,g2⟩:=VQ d
 obtain ⟨b1,b2,b3,b4⟩:=h
 have hp:=Un g1
 constructor
 ·have h1:Wy (Qu x) 0=true:=by
   have h0:=hp.1
   unfold Wy Ys at h0 ⊢
   rw [b3]
   rw [Bf] at h0 ⊢
   intro j hj
   have:=h0 j hj
   have hj2:j<(Qu (QG d)).length:=by
    rw [List.mem_range'] at hj
    obtain ⟨a,ha,rfl⟩:=hj
    omega
   unfold VJ at this ⊢
   simp only [Bc] at this ⊢
   rw [(b4 j hj2).2.1,(b4 (j-1) (by omega)).2.1]
   exact ⟨(b4 j hj2).1,this.2⟩
  have e1:Q7 x=Q7 (QG d):=congrArg (fun p=>p.1) b2
  have e2:Zs x=Zs (QG d):=congrArg (fun p=>p.2.1) b2
  have e3:Qa (Qu x)=Qa (Qu (QG d)):=by simp only [Qa,b3]
  unfold JC at g1 ⊢
  rw [h1,e1,e2,e3]
  simp only [Bc] at g1 ⊢
  exact ⟨trivial,g1.2⟩
 ·exact (Qh7 b1 (by omega)).1
theorem QuS {d:Dice}{n:Nat}{x:Estate}(h:Ym d n x){k:Nat}(hk:k<(Q7 (QG d)).length): ∃ c e c' e':Endpoint,QN c=true/\QN e=true/\XA c c'/\XA e e'/\Xj (QG d) (k:Int)=(c,e)/\Xj x (k:Int)=(c',e'):=by
 have he:=QmB (VQ d).1 hk
 obtain ⟨⟨a0,a1⟩,⟨b0,b1⟩,hne⟩:=he
 have ha:(ZZ (Q7 (QG d)) k).1.toNat<(Qu (QG d)).length:=by omega
 have hb:(ZZ (Q7 (QG d)) k).2.1.toNat<(Qu (QG d)).length:=by omega
 have e1:Q7 x=Q7 (QG d):=congrArg (fun p=>p.1) h.2.1
 refine ⟨_,_,_,_,Qfs (Qdd d ha),Qfs (Qdd d hb),h.2.2.2 _ ha,h.2.2.2 _ hb, ?_, ?_⟩
 ·unfold Xj
  rw [Bd]
 ·unfold Xj
  rw [Bd,e1]
theorem QjY {e0 e:Endpoint}(h:XA e0 e)(x:Int):Zc e x=Zc e0 x:=by
 unfold Zc
 rw [h.2.2.2.2.1]
theorem QuT {e0 e:Endpoint}(hv:QN e0=true)(h:XA e0 e)(o:Keep):Ji e o=Ji e0 o:=by
 have h1:IZ e o.2.1=IZ e0 o.2.1:=by
  unfold IZ
  rw [QjY h,h.2.2.2.2.1]
 unfold Ji
 rw [h.1,hv,QjY h,h1]
theorem QG5 {c e c' e':Endpoint}(hc:XA c c')(he:XA e e'){v x:Int}(h:Wm e' (Qy c') v x=true):Wm e (Qy c) v x=true:=by
 unfold Wm at h ⊢
 rw [QjY he] at h
 simp only [Bc] at h ⊢
 obtain ⟨h1,h2,h3,h4,h5,h6⟩:=h
 exact ⟨h1,h2,h3,hc.2.2.2.2.2 x h4,he.2.2.2.2.2 x h5,h6⟩
theorem QuU {α:Type}{p q:α->Bool}(h: ∀ x,p x=true->q x=true): ∀ l:List α,(l.filter p).Sublist (l.filter q)
 | []=>List.Sublist.slnil
 |x::l=>by
  have ih:=QuU h l
  rw [List.filter_cons,List.filter_cons]
  cases hp:p x with
  |true=>
   rw [h x hp]
   exact ih.cons_cons x
  |false=>
   cases q x with
   |true=>exact ih.cons x
   |false=>exact ih
theorem QuV {α β:Type}{f g:α->List β}(h: ∀ x,(f x).Sublist (g x)): ∀ l:List α,(l.flatMap f).Sublist (l.flatMap g)
 | []=>List.Sublist.slnil
 |x::l=>by
  rw [BJ,BJ]
  exact (h x).append (QuV h l)
theorem QuW {c e c' e':Endpoint}(vc:QN c=true)(ve:QN e=true)(hc:XA c c')(he:XA e e'):(XC c' e').Sublist (XC c e):=by
 have e1:loC c' e'=loC c e:=by unfold loC;rw [hc.2.2.1,he.2.2.1]
 have e2:hiC c' e'=hiC c e:=by unfold hiC;rw [hc.2.2.2.1,he.2.2.2.1]
 unfold XC
 rw [show W0 c' e'=true from Bi.2 ⟨hc.1,he.1⟩,show W0 c e=true from Bi.2 ⟨vc,ve⟩,e1,e2]
 show (Ub e' (Qy c') _ _).Sublist (Ub e (Qy c) _ _)
 unfold Ub
 refine QuV (fun j=> ?_) _
 unfold EF
 exact (QuU (fun k hk=>QG5 hc he hk) _).map _
theorem QuX {d:Dice}{n:Nat}{x:Estate}(h:Ym d n x){k:Nat}(hk:k<(Q7 (QG d)).length):YL (QG d) x (k:Int)=[]:=by
 obtain ⟨c,e,c',e',vc,ve,hc,he,q1,q2⟩:=QuS h hk
 unfold YL
 rw [List.filter_eq_nil_iff]
 intro o ho
 have:Qbt (QG d) x (k:Int) o=true:=by
  unfold Qbt
  unfold Jc at ho ⊢
  rw [q2] at ho ⊢
  rw [q1]
  refine List.any_eq_true.2 ⟨o,(QuW vc ve hc he).subset ho, ?_⟩
  show (JZ e o==JZ e' o)=true
  unfold JZ
  rw [QuT ve he]
  exact beq_self_eq_true _
 rw [this]
 exact Bool.false_ne_true
theorem QG6 {d:Dice}{n:Nat}{x:Estate}(h:Ym d n x){k:Nat}(hk:k<(Q7 (QG d)).length)(r:Rules):JW r x (k:Int)<=JW r (QG d) (k:Int):=by
 obtain ⟨c,e,c',e',vc,ve,hc,he,q1,q2⟩:=QuS h hk
 have hb:XX r e'=XX r e:=funext fun o=>by
  unfold XX UJ
  rw [QuT ve he]
 unfold JW ZX Jc
 rw [q1,q2]
 show (((XC c' e').filter (XX r e')).length:Int)<=(((XC c e).filter (XX r e)).length:Int)
 rw [hb]
 exact Int.ofNat_le.2 ((QuW vc ve hc he).filter _).length_le
theorem QuY {f g:Int->Int}: ∀ (k:Nat) (i s t:Int),(∀ j:Int,i<=j->j<i+k->f j<=g j)->s<=t->Yk f k i s<=Yk g k i t
 |0,_,_,_,_,h=>h
 |k+1,i,s,t,hf,h=>by
  unfold Yk
  have:=hf i (BT i) (by omega)
  exact QuY k (i+1) _ _ (fun j h1 h2=>hf j (by omega) (by omega)) (by omega)
end
end Go.Proofs.YtmjnnemhoeolgaaGreat.K
noncomputable section
namespace Go.Proofs.YtmjnnemhoeolgaaGreat.K.PE
open Go.RowKit
noncomputable section
open Classical in
def Qct (n:Nat)(e x:Estate):Bool:= @decide (∃ d,e=QG d/\Ym d n x) (Classical.propDecidable _)
theorem QsN {n:Nat}{d:Dice}{x:Estate}(h:Ym d n x):Qct n (QG d) x=true:= @Be _ (Classical.propDecidable _) ⟨d,rfl,h⟩
theorem QsO {n:Nat}{e x:Estate}(h:Qct n e x=true): ∃ d,e=QG d/\Ym d n x:= @Bx _ (Classical.propDecidable _) h
def Qcu (k:Int)(e x:Estate)(w:Dice):Bool:=dOk w&&(decide (0<=k/\k<=5)&&Qct (1005-k.toNat) e x)
def Qcv (n i:Int)(e x:Estate):Bool:=Qct 2000 e x&&decide (0<=i/\i<=n/\n=e.2.1.length)
theorem QsP (k:Int):UO k=(!ine k 2||(!ine k 8|| !ine k 10)):=by
 unfold UO
 simp only [QtX,Bool.not_not]
def drL (_:List Int):Bool:=true
abbrev Ol:Sh:=⟨[(3,.ptr 24 0),(4,.ptr 4 0),(5,.ptr 5 0),(6,.ty tI)],[(4,.box Qw),(5,.box Qw),(24,.box QI),(5024,.no),(10024,.no),(15024,.no)]⟩
abbrev QsQ:Sh:=⟨[(3,.ptr 24 0),(4,.ptr 4 0),(5,.ptr 5 0)],[(4,.box Qw),(5,.box Qw),(24,.box QI),(5024,.no),(10024,.no),(15024,.no)]⟩
abbrev Qcw:Sh:=⟨[(4,.ptr 4 0),(5,.ptr 5 0),(10,.ptr 10 0),(63,.ty tI),(64,.ty tI)],[(4,.box Qw),(5,.box Qw),(10,.box Zw)]⟩
abbrev QsR:Sh:=⟨[(2,.ty .bool)],[]⟩
abbrev QsS:Sh:=⟨[(4,.ptr 4 0),(5,.ptr 5 0),(10,.ptr 10 0)],[(4,.box Qw),(5,.box Qw),(10,.box Zw)]⟩
def QiY:Fg:=Ol.f
def QiZ:Fg:=Qcw.f
def Om:TC:=aF Tryz.f5 [(506,pL 0 QiY),(8099,.fg QsQ.f),(129610,.fg Ol.f),(2042,pL 1 QiZ),(32677,.fg QsS.f),(2091421,.fg QsR.f)]
def QsT:TC:=lb 0 Om
def QsU:TC:=lb 1 Om
def rv_f5:List (RV×Option Ty):=[((.t 2),some .bool)]
def QsV (x6:Int)(y4 y5:Estate)(y24:Dice):VS:=Ol.st ((),(),(),x6,()) (y4,y5,y24,(),(),(),())
def Qcx (y4 y5:Estate)(y24:Dice):VS:=QsQ.st ((),(),(),()) (y4,y5,y24,(),(),(),())
def QsW (x63 x64:Int)(y4 y5:Estate)(y10:Policy):VS:=Qcw.st ((),(),(),x63,x64,()) (y4,y5,y10,())
def Qcy (x2:Bool):VS:=QsR.st (x2,()) ()
def Qi0 (y4 y5:Estate)(y10:Policy):VS:=QsS.st ((),(),(),()) (y4,y5,y10,())
def L_f5_0:VS->Option (Bool×List (Bool×Exit×VS)):=mkL Ol (fun x y=>(Qcu x.2.2.2.1 y.1 y.2.1 y.2.2.1)) (fun x y=>[(true,.exit 0,Qcx (y.1) ((ZV x.2.2.2.1.toNat y.2.1 y.2.2.1).1) ((ZV x.2.2.2.1.toNat y.2.1 y.2.2.1).2))])
def L_f5_1:VS->Option (Bool×List (Bool×Exit×VS)):=mkL Qcw (fun x y=>(Qcv x.2.2.2.1 x.2.2.2.2.1 y.1 y.2.1)) (fun x y=>[((false),.ret,Qcy (false)),(true,.exit 2,Qi0 (y.1) (y.2.1) (y.2.2.1))])
def UH:G:=gG 118 [(7,sp_f7),(8,sp_f8),(9,sp_f9),(11,Qri),(14,QiM),(16,Qsu),(20,Qx1),(21,Qpx),(22,Us),(23,Qp2),(24,QsM)] (Ls [L_f5_0,L_f5_1])
def Qcz (x6:Int)(y4 y5:Estate)(y24:Dice):OX:=Qv (QB UH QiY QsT) (QsV x6 y4 y5 y24)
def Ef (kk:Int->Estate->Estate->Dice->OX)(x6:Int)(y4 y5:Estate)(y24:Dice):OX:=
 let a1:=J4 y5 (JA y24 y5)
 br (Gx y5 (JA y24 y5)) (br (ieq (a1.2) 0) (kk (Q6 .i64 x6 1) y4 (a1.1) (Z4 y24 y5)) (kk (Q6 .i64 x6 1) y4 y5 (Z4 y24 y5))) none
def On (kk:Int->Estate->Estate->Dice->OX)(x6:Int)(y4 y5:Estate)(y24:Dice):OX:=
 let a1:=(((JA y24 y5).2).1)
 br (igt x6 0) (br (FJ y24 y5) (br (ine a1 2) (br (ine a1 8) (br (ine a1 10) (kk (Q6 .i64 x6 1) y4 y5 (Z4 y24 y5)) (Ef kk x6 y4 y5 y24)) (Ef kk x6 y4 y5 y24)) (Ef kk x6 y4 y5 y24)) none) (some (.exit 0,Qcx y4 y5 y24))
def GD (x6:Int)(y4 y5:Estate)(y24:Dice):OX:=some (.exit 0,Qcx (y4) ((ZV x6.toNat y5 y24).1) ((ZV x6.toNat y5 y24).2))
theorem QsX (x6:Int)(y4 y5:Estate)(y24:Dice):Qcz x6 y4 y5 y24=On Qcz x6 y4 y5 y24:=lnT (x:=On (fun x6 y4 y5 y24=>some (.normal,QsV x6 y4 y5 y24)) x6 y4 y5 y24) (by simp only [On,Ef,nxA];rfl)
def Qi1 (x63 x64:Int)(y4 y5:Estate)(y10:Policy):OX:=Qv (QB UH QiZ QsU) (QsW x63 x64 y4 y5 y10)
def Oo (kk:Int->Int->Estate->Estate->Policy->OX)(x63 x64:Int)(y4 y5:Estate)(y10:Policy):OX:=br (ilt x64 x63) (br (Qcp y4 y5 x64) (br (ine ((WW y4 y5 x64).2) 0) (some (.ret,Qcy false)) (br (ine (Qa ((WW y4 y5 x64).1)) 0) (some (.ret,Qcy false)) (kk x63 (Qf .i64 x64 1) y4 y5 y10))) none) (some (.exit 2,Qi0 y4 y5 y10))
def QsY (x63 x64:Int)(y4 y5:Estate)(y10:Policy):OX:=br (false) (some (.ret,Qcy (false)))<|some (.exit 2,Qi0 (y4) (y5) (y10))
theorem QsZ (x63 x64:Int)(y4 y5:Estate)(y10:Policy):Qi1 x63 x64 y4 y5 y10=Oo Qi1 x63 x64 y4 y5 y10:=lnT (x:=Oo (fun x63 x64 y4 y5 y10=>some (.normal,QsW x63 x64 y4 y5 y10)) x63 x64 y4 y5 y10) (by simp only [Oo,nxA];rfl)
def Qi2 (p0:List Int):OV:=
 let a6:=U4 (Ur p0)
 let a5:=QG (Ur p0)
 let a1:=ZV (Qj a6 5).toNat a5 (Qc a6 5)
 let a2:=(Xw a5 (a1.1) (wkV (a1.2)) ([]:List Exception) (([]:List Int),(0,())) 10)
 let a3:=(GC a5 (a1.1) (wkV (a1.2)) ([]:List Exception) (([]:List Int),(0,())) 10)
 let a4:=(WX a5 (a1.1) (wkV (a1.2)) ([]:List Exception) (([]:List Int),(0,())) 10)
 br (!(Gc p0)) (some (.t .bool QbT,[])) (br (dOk (Ur p0)) (br (QV a6 5) (br (Qcu (Qj a6 5) a5 a5 (Qc a6 5)) (br (dOk (a1.2)) (br (Qcv (Qa ((a5.2).1)) (0:Int) a5 (a1.1)) (br (false) (some (.t .bool (false),[])) (br a3 (br a3 (br (ieq (a4.2) 0) (br (ieq ((a2.2).2) 0) (br (ieq (Qa (a4.1)) 0) (br (ile ((a2.2).1) (a2.1)) (some (.t .bool QbT,[])) (some (.t .bool false,[]))) (some (.t .bool false,[]))) (some (.t .bool false,[]))) (some (.t .bool false,[]))) none) none)) none) none) none) none) none)
theorem e_f5 (p0:List Int):JS UH Om rv_f5 false [.t (.sl tI) p0] []=Qi2 p0:=by kernel_rfl
theorem gk_f5:GOk Tryz.prog UH:=Z2 _ (gA (gD ms_f7 (gD ms_f8 (gD ms_f9 (gD ms_f11 (gD QsA (gD ms_f16 (gD ms_f20 (gD ms_f21 (gD Ge (gD ms_f23 (gD ms_f24 gN))))))))))))
theorem l_f5_0 (x6:Int)(y4 y5:Estate)(y24:Dice)(h:(Qcu x6 y4 y5 y24)=true):Qcz x6 y4 y5 y24=GD x6 y4 y5 y24:=by
 simp only [Qcu,Bc,Ba] at h
 obtain ⟨hw,⟨h0,h1⟩,hb⟩:=h
 obtain ⟨d,rfl,hd⟩:=QsO hb
 clear hb
 obtain ⟨m,hm⟩: ∃ m:Nat,x6.toNat=m:=⟨_,rfl⟩
 induction m generalizing x6 y5 y24 with
 |zero=>
  have:igt x6 0=false:=Bo (by omega)
  rw [QsX]
  simp only [On,Ef,GD,this,Qh,hm,ZV]
 |succ m ih=>
  have e0:igt x6 0=true:=Be (by omega)
  have e1:Q6 .i64 x6 1=x6-1:=Xk (by omega)
  obtain ⟨a1,a2⟩:=QuQ hd (by omega) hw
  have hw2:=QuN (e:=y5) hw
  have hn:1005-(x6-1).toNat=1005-x6.toNat+1:=by omega
  have e6:(x6-1).toNat=m:=by omega
  have i1:=ih (x6:=x6-1) (y5:=y5) (y24:=Z4 y24 y5) hw2 (by omega) (by omega) (by rw [hn];exact Qdo hd (Nat.le_succ _)) e6
  rw [QsX]
  simp only [On,Ef,e0,e1,a1,a2,Qd,i1]
  simp only [GD,hm,e6,ZV]
  cases hk:UO (QP (JA y24 y5)) with
  |false=>
   have hk2:=hk
   rw [QsP] at hk2
   simp only [Bool.or_eq_false_iff,DQ] at hk2
   obtain ⟨k1,k2,k3⟩:=hk2
   have k1:ine (JA y24 y5).2.1 2=true:=k1
   have k2:ine (JA y24 y5).2.1 8=true:=k2
   have k3:ine (JA y24 y5).2.1 10=true:=k3
   simp only [k1,k2,k3,Qd,Da]
  |true=>
   have fin:br (ieq (J4 y5 (JA y24 y5)).2 0) (Qcz (x6-1) (QG d) (J4 y5 (JA y24 y5)).1 (Z4 y24 y5)) (GD (x6-1) (QG d) y5 (Z4 y24 y5))=some (.exit 0,Qcx (QG d) (bif ieq (J4 y5 (JA y24 y5)).2 0 then ZV m (J4 y5 (JA y24 y5)).1 (Z4 y24 y5) else ZV m y5 (Z4 y24 y5)).1 (bif ieq (J4 y5 (JA y24 y5)).2 0 then ZV m (J4 y5 (JA y24 y5)).1 (Z4 y24 y5) else ZV m y5 (Z4 y24 y5)).2):=by
    cases hz:ieq (J4 y5 (JA y24 y5)).2 0 with
    |false=>
     rw [Qh,Da]
     simp only [GD,e6]
    |true=>
     have hz2:(J4 y5 (JA y24 y5)).2=0:=by simpa [YE] using hz
     rw [Qd,Dh,ih (x6:=x6-1) (y5:=(J4 y5 (JA y24 y5)).1) (y24:=Z4 y24 y5) hw2 (by omega) (by omega) (by rw [hn];exact QuP hd (by omega) hk (Bi.1 a2).2 hz2) e6]
     simp only [GD,e6]
   simp only [GD,e6] at fin
   simp only [Dh,fin]
   have hk2:(!ine (JA y24 y5).2.1 2||(!ine (JA y24 y5).2.1 8|| !ine (JA y24 y5).2.1 10))=true:=by
    rw [←QsP]
    exact hk
   cases q1:ine (JA y24 y5).2.1 2 with
   |false=>simp only [Qh]
   |true=>
    cases q2:ine (JA y24 y5).2.1 8 with
    |false=>simp only [Qh,Qd]
    |true=>
     cases q3:ine (JA y24 y5).2.1 10 with
     |false=>simp only [Qh,Qd]
     |true=>
      rw [q1,q2,q3] at hk2
      cases hk2
theorem l_f5_1 (x63 x64:Int)(y4 y5:Estate)(y10:Policy)(h:(Qcv x63 x64 y4 y5)=true):Qi1 x63 x64 y4 y5 y10=QsY x63 x64 y4 y5 y10:=by
 simp only [Qcv,Bc,Ba] at h
 obtain ⟨hb,h0,h1,h2⟩:=h
 obtain ⟨d,rfl,hd⟩:=QsO hb
 clear hb
 obtain ⟨o1,l1⟩:=VQ d
 obtain ⟨o2,l2⟩:=QuR hd (by decide)
 have hle:(Q7 (QG d)).length<=3:=(Qmy d).2.1
 have h2:x63=((Q7 (QG d)).length:Int):=h2
 have e1:(QG d).2.1=y5.2.1:=(congrArg (fun p=>p.1) hd.2.1).symm
 have hbot:Zd (QG d) y5=0:=by
  unfold Zd
  rw [o1,o2,Qkq.2 e1]
  rfl
 obtain ⟨m,hm⟩: ∃ m:Nat,(x63-x64).toNat=m:=⟨_,rfl⟩
 induction m generalizing x64 with
 |zero=>
  have:ilt x64 x63=false:=Bo (by omega)
  rw [QsZ]
  simp only [Oo,QsY,this,Qh]
 |succ m ih=>
  have e0:ilt x64 x63=true:=Be (by omega)
  have e1:Qf .i64 x64 1=x64+1:=JD (by omega)
  have e2:Qcp (QG d) y5 x64=true:=Bi.2 ⟨l1,l2⟩
  have i0:ilt x64 0=false:=Bo (by omega)
  have i1:ige x64 (Qa (QG d).2.1)=false:=Bo (by show ¬ x64≥((Q7 (QG d)).length:Int);omega)
  obtain ⟨k,hk⟩:=Bq h0
  have e4:WW (QG d) y5 x64=([],0):=by
   unfold WW
   rw [hbot,i0,i1,hk,QuX hd (by omega)]
   rfl
  rw [QsZ]
  simp only [Oo,e0,e1,e2,e4,Qd,QDP,ine_00,Qh]
  exact ih (x64:=x64+1) (by omega) (by omega) (by omega)
theorem QER:LO UH QiY QsT 0:=QH (s:=Ol) fun x y h _ q=>by simp only [QE,QF] at q;exact (l_f5_0 x.2.2.2.1 y.1 y.2.1 y.2.2.1 h).trans q
theorem QES:LO UH QiZ QsU 1:=QH (s:=Qcw) fun x y h _ q=>by simp only [QE,QF] at q;exact (l_f5_1 x.2.2.2.1 x.2.2.2.2.1 y.1 y.2.1 y.2.2.1 h).trans q
theorem lk_f5:Om.lok UH:=by
 repeat (first|exact trivial|exact QER|exact QES|refine ⟨?_, ?_⟩)
theorem s_f5 (p0:List Int):Qi2 p0=some (.t .bool (drL p0),[]):=by
 unfold Qi2
 refine QZ (fun _=>rfl) (fun k1=> ?_)
 have k1:Gc p0=true:=by simpa using k1
 have hd:=QAc k1
 generalize Ur p0=d at hd ⊢
 have hn:dOk (U4 d)=true:=Qrj _ _ (QO (QlO (Jq d).length (Jq d).length 0 [] _ (QlN (Jq d) 0 (Qc d 2) (QO (n:=2) hd)) (B3 _)).1)
 have hv:=JR (d:=U4 d) (n:=5) (by decide)
 generalize hK:Qj (U4 d) 5=kk at hv ⊢
 have hn2:dOk (Qc (U4 d) 5)=true:=QO hn
 generalize Qc (U4 d) 5=w at hn2 ⊢
 obtain ⟨z1,z2⟩:=QjX kk.toNat (QuO d) (by omega) hn2
 have z1:=Qdo z1 (show 1000+kk.toNat<=2000 by omega)
 generalize (ZV kk.toNat (QG d) w)=z at z1 z2 ⊢
 obtain ⟨x,w2⟩:=z
 obtain ⟨o1,l1⟩:=VQ d
 obtain ⟨o2,l2⟩:=QuR z1 (by decide)
 have e1:(QG d).2.1=x.2.1:=(congrArg (fun p=>p.1) z1.2.1).symm
 have hbot:Zd (QG d) x=0:=by
  unfold Zd
  rw [o1,o2,Qkq.2 e1]
  rfl
 have hr:Jn (rl (wkV w2) zL zO 10)=0:=rls_ok (QDO w2) (by decide) (by decide)
 have hS:WX (QG d) x (wkV w2) zL zO 10=([],0):=by
  unfold WX
  rw [hbot,hr,Qpy _ 0 (fun j h1 h2=> ?_)]
  ·rfl
  ·obtain ⟨k,rfl⟩:=Bq h1
   have h2:(k:Int)<0+((Q7 (QG d)).length:Int):=h2
   unfold stB
   rw [QuX z1 (by omega)]
   rfl
 have hP:(Xw (QG d) x (wkV w2) zL zO 10).2.2=0/\(Xw (QG d) x (wkV w2) zL zO 10).2.1<=(Xw (QG d) x (wkV w2) zL zO 10).1:=by
  unfold Xw
  rw [hbot,hr]
  refine ⟨rfl,QuY _ 0 0 0 (fun j h1 h2=> ?_) (BT 0)⟩
  obtain ⟨k,rfl⟩:=Bq h1
  have h2:(k:Int)<0+((Q7 (QG d)).length:Int):=h2
  exact QG6 z1 (by omega) _
 have hq:GC (QG d) x (wkV w2) zL zO 10=true:=Bi.2 ⟨Bi.2 ⟨l1,l2⟩,rfl⟩
 refine brY hd (brY (GB hn (by decide)) (brY ?_ (brY z2 (brY ?_ ?_))))
 ·exact Bi.2 ⟨hn2,Bi.2 ⟨Be (by omega),QsN (Qdo (QuO d) (by omega))⟩⟩
 ·exact Bi.2 ⟨QsN z1,Be ⟨BT 0,by simp only [Qa];omega,rfl⟩⟩
 ·rw [Qh]
  refine brY hq (brY hq (brY ?_ (brY ?_ (brY ?_ (brY ?_ rfl)))))
  ·rw [hS]
   rfl
  ·rw [hP.1]
   rfl
  ·rw [hS]
   rfl
  ·exact Be hP.2
def sp_f5:Ent:=Ql (.pr (.sl tI) .nil) (fun x=>true) (fun x=>(.t .bool (drL x.1)))
theorem ms_f5:QA Tryz.prog 5 (Qx sp_f5):=Qn (R:=JS UH Om rv_f5 false) (mG Tryz.func5 (by kernel_rfl) Tryz.ntmps5 (by kernel_rfl) gk_f5 lk_f5) fun x _=>(e_f5 x.1).trans (s_f5 x.1)
end
end Go.Proofs.YtmjnnemhoeolgaaGreat.K.PE
namespace Go.Proofs.YtmjnnemhoeolgaaGreat.K
open Go.RowKit PE
theorem walkPolicyDrops (z0:(List Int))(W:World)(v0:Value)(c0:C noX W (fun _=> .no) (V.t (.sl tI) z0).d v0)(w0:Ty.wf (.sl tI) z0):
  Calls Tryz.prog 5 #[v0] W fun r w'=>r= .returned (.bool true)/\Below W.heap.size W w':=
 QBO (by decide) ms_f5 (args:=[.t (.sl tI) z0]) (Qbb (x:=(z0,())) rfl (rfl)) (by simp only [V.ds,Cs];exact ⟨_,_,rfl,c0,rfl⟩)
end Go.Proofs.YtmjnnemhoeolgaaGreat.K
