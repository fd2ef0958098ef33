import Derived.Test.YtmjnnemhoeolgaaGreatQ8
import Derived.Test.YtmjnnemhoeolgaaGreatQ7
import Derived.Maps.OwnIn
import Derived.ChangeKeysEq
set_option linter.unusedSimpArgs false
set_option linter.unusedVariables false
noncomputable section
namespace Go.Proofs.YtmjnnemhoeolgaaGreat.K
open Go.RowKit
theorem QFi:(Tryz.prog.fieldsOf 132).toList=[⟨"outcome", 54,0,false, "", "cipherplan/policy", 0⟩,⟨"uses", 130,2,false, "", "cipherplan/policy", 16⟩]:=by kernel_rfl
theorem flat54:Y8 Tryz.prog 3 54=some [0,0]:=by kernel_rfl
theorem flat64:Y8 Tryz.prog 3 64=some [0,0]:=by kernel_rfl
theorem und130:Tryz.prog.underlying 130=some (.array 4 64):=by kernel_rfl
theorem QFj:Tryz.prog.cellsOf 64=2:=by kernel_rfl
theorem eq2 (t:TypeId)(ht:t=54∨t=64)(w:World)(d:Nat)(hd:3<=d)(a b x y:Int):(Op.equalIn d t (.agg #[.int .i64 a,.int .i64 b]) (.agg #[.int .i64 x,.int .i64 y])).run Tryz.prog w= .ok ((a==x)&&((b==y)&&true)) w:=by
 rcases ht with rfl|rfl
 ·exact Qhm (P:=Tryz.prog) (w:=w) 3 d 54 _ [0,0] [.int .i64 a,.int .i64 b] [.int .i64 x,.int .i64 y] ((a==x)&&((b==y)&&true)) flat54 hd Tryz.underlying54 (by simp [J8,eqV])
 ·exact Qhm (P:=Tryz.prog) (w:=w) 3 d 64 _ [0,0] [.int .i64 a,.int .i64 b] [.int .i64 x,.int .i64 y] ((a==x)&&((b==y)&&true)) flat64 hd Tryz.underlying64 (by simp [J8,eqV])
theorem info64: ∃ i,Tryz.prog.info? 64=some i:=by
 have:=Tryz.underlying64
 unfold Program.underlying at this
 cases h:Tryz.prog.info? 64 with
 |none=>simp [h] at this
 |some i=>exact ⟨i,rfl⟩
theorem arr4 (w:World)(a0 a1 a2 a3 a4 a5 a6 a7 b0 b1 b2 b3 b4 b5 b6 b7:Int):
  (Op.equalIn 9999 130 (.agg #[.int .i64 a0,.int .i64 a1,.int .i64 a2,.int .i64 a3,.int .i64 a4,.int .i64 a5,.int .i64 a6,.int .i64 a7]) (.agg #[.int .i64 b0,.int .i64 b1,.int .i64 b2,.int .i64 b3,.int .i64 b4,.int .i64 b5,.int .i64 b6,.int .i64 b7])).run Tryz.prog w= .ok ([a0,a1,a2,a3,a4,a5,a6,a7]==[b0,b1,b2,b3,b4,b5,b6,b7]) w:=by
 obtain ⟨i,hi⟩:=info64
 rw [run_equalIn_array w 9998 _ _ und130 hi,QFj,show List.range 4=[0,1,2,3] from rfl]
 have e2: ∀ (w:World) (a b x y:Int),(Op.equalIn 9998 64 (.agg #[.int .i64 a,.int .i64 b]) (.agg #[.int .i64 x,.int .i64 y])).run Tryz.prog w= .ok ((a==x)&&((b==y)&&true)) w:=fun w a b x y=>eq2 64 (.inr rfl) w 9998 (by decide) a b x y
 simp [Op.eqItems,part,Tryz.isAgg64,Tryz.sizeOf64,e2]
 by_cases h0:a0=b0
 ·
  by_cases h1:a1=b1
  ·
   by_cases h2:a2=b2
   ·
    by_cases h3:a3=b3
    ·
     by_cases h4:a4=b4
     ·
      by_cases h5:a5=b5
      ·
       by_cases h6:a6=b6
       ·
        by_cases h7:a7=b7
        ·
         simp [h0,h1,h2,h3,h4,h5,h6,h7]
        ·simp [h0,h1,h2,h3,h4,h5,h6,h7]
       ·simp [h0,h1,h2,h3,h4,h5,h6]
      ·simp [h0,h1,h2,h3,h4,h5]
     ·simp [h0,h1,h2,h3,h4]
    ·simp [h0,h1,h2,h3]
   ·simp [h0,h1,h2]
  ·simp [h0,h1]
 ·simp [h0]
theorem meq (w:World)(a0 a1 a2 a3 a4 a5 a6 a7 a8 a9 b0 b1 b2 b3 b4 b5 b6 b7 b8 b9:Int):
  (Op.equal 132 (.agg #[.int .i64 a0,.int .i64 a1,.int .i64 a2,.int .i64 a3,.int .i64 a4,.int .i64 a5,.int .i64 a6,.int .i64 a7,.int .i64 a8,.int .i64 a9]) (.agg #[.int .i64 b0,.int .i64 b1,.int .i64 b2,.int .i64 b3,.int .i64 b4,.int .i64 b5,.int .i64 b6,.int .i64 b7,.int .i64 b8,.int .i64 b9])).run Tryz.prog w= .ok ([a0,a1,a2,a3,a4,a5,a6,a7,a8,a9]==[b0,b1,b2,b3,b4,b5,b6,b7,b8,b9]) w:=by
 show (Op.equalIn (9999+1) 132 _ _).run Tryz.prog w=_
 rw [run_equalIn_struct w 9999 132 _ _ (by kernel_rfl) (by kernel_rfl),QFi]
 have e2: ∀ (w:World) (a b x y:Int),(Op.equalIn 9999 54 (.agg #[.int .i64 a,.int .i64 b]) (.agg #[.int .i64 x,.int .i64 y])).run Tryz.prog w= .ok ((a==x)&&((b==y)&&true)) w:=fun w a b x y=>eq2 54 (.inl rfl) w 9999 (by decide) a b x y
 have e4:=fun w=>arr4 w a2 a3 a4 a5 a6 a7 a8 a9 b2 b3 b4 b5 b6 b7 b8 b9
 simp [Op.eqFields,part,Tryz.isAgg54,Tryz.sizeOf54,Tryz.isAgg130,Tryz.sizeOf130,e2,e4]
 by_cases h0:a0=b0
 ·by_cases h1:a1=b1
  ·simp [h0,h1]
   generalize (a2==b2&&(a3==b3&&(a4==b4&&(a5==b5&&(a6==b6&&(a7==b7&&(a8==b8&&a9==b9)))))))=q
   cases q<;>rfl
  ·simp [h0,h1]
 ·simp [h0]
def kV (z:List Int):Value:= .agg (z.map (Value.int .i64)).toArray
theorem ten {z:List Int}(h:z.length=10): ∃ a0 a1 a2 a3 a4 a5 a6 a7 a8 a9,z=[a0,a1,a2,a3,a4,a5,a6,a7,a8,a9]:=by
 match z,h with
 | [a0,a1,a2,a3,a4,a5,a6,a7,a8,a9],_=>exact ⟨_,_,_,_,_,_,_,_,_,_,rfl⟩
theorem keq (w:World){x y:List Int}(hx:x.length=10)(hy:y.length=10):(Op.equal 132 (kV x) (kV y)).run Tryz.prog w= .ok (x==y) w:=by
 obtain ⟨a0,a1,a2,a3,a4,a5,a6,a7,a8,a9,rfl⟩:=ten hx
 obtain ⟨b0,b1,b2,b3,b4,b5,b6,b7,b8,b9,rfl⟩:=ten hy
 exact meq w a0 a1 a2 a3 a4 a5 a6 a7 a8 a9 b0 b1 b2 b3 b4 b5 b6 b7 b8 b9
theorem Qi2 {x y:List Int}(h:kV x=kV y):x=y:=by
 have h:(x.map (Value.int .i64)).toArray=(y.map (Value.int .i64)).toArray:=by injection h
 have h:=congrArg Array.toList h
 simp only at h
 exact (List.map_inj_right (fun a b e=>by injection e)).1 h
def QcG (es:List MapEntry)(ks:List (List Int)):Prop:=(∀ e∈es,e.val= .bool true∧ ∃ z∈ks,z.length=10/\e.key=kV z)∧ ∀ z∈ks, ∃ e∈es,e.key=kV z
theorem Qtk (w:World){z:List Int}(hz:z.length=10): ∀ (es:List MapEntry) (i:Nat),(∀ e∈es, ∃ y:List Int,y.length=10/\e.key=kV y)→
  ((Instr.findAsking 132 (kV z) es i).run Tryz.prog w= .ok none w∧ ∀ e∈es,e.key≠kV z)∨ ∃ j e,(Instr.findAsking 132 (kV z) es i).run Tryz.prog w= .ok (some (i+j,e.val)) w/\es[j]? = some e/\e.key=kV z
 | [],i,_=> .inl ⟨by simp [Instr.findAsking],by simp⟩
 |e::es,i,h=>by
  obtain ⟨y,hy,hk⟩:=h e Dh
  have he:=keq w hz hy
  by_cases hq:z=y
  ·subst hq
   refine .inr ⟨0,e, ?_,rfl,hk⟩
   simp [Instr.findAsking,hk,he]
  ·rcases Qtk w hz es (i+1) (fun e he=>h e (B1 _ he)) with ⟨h1,h2⟩|⟨j,e',h1,h2,h3⟩
   ·refine .inl ⟨by simp [Instr.findAsking,hk,he,hq,h1],fun e' he'=> ?_⟩
    rcases BY.1 he' with rfl|he'
    ·rw [hk]
     exact fun e=>hq (Qi2 e).symm
    ·exact h2 e' he'
   ·refine .inr ⟨j+1,e', ?_,by simpa using h2,h3⟩
    simp [Instr.findAsking,hk,he,hq,h1]
    omega
set_option maxRecDepth 100000 in
theorem Qtl (w:World)(em:Bool){z:List Int}(hz:z.length=10):(Instr.checkKey em 10000 132 (kV z)).run Tryz.prog w= .ok () w:=by
 obtain ⟨a0,a1,a2,a3,a4,a5,a6,a7,a8,a9,rfl⟩:=ten hz
 kernel_rfl
theorem Qtm (w:World){z:List Int}(hz:z.length=10)(es:List MapEntry)(h: ∀ e∈es, ∃ y:List Int,y.length=10/\e.key=kV y):
  ((Instr.findKey 132 (kV z) es).run Tryz.prog w= .ok none w∧ ∀ e∈es,e.key≠kV z)∨ ∃ j e,(Instr.findKey 132 (kV z) es).run Tryz.prog w= .ok (some (j,e.val)) w/\es[j]? = some e/\e.key=kV z:=by
 cases es with
 |nil=>
  refine .inl ⟨?_,by simp⟩
  simp [Instr.findKey,run_underlying Tryz.underlying132,Instr.findNow]
 |cons e es=>
  have:=Qtk w hz (e::es) 0 h
  simp only [DR] at this
  have hn: ∀ k:Value,Instr.findNow (.struct (Tryz.prog.fieldsOf 132)) k (e::es) 0=none:=fun k=>by simp [Instr.findNow,Instr.sameNow]
  have e1:(Instr.findKey 132 (kV z) (e::es)).run Tryz.prog w=(Instr.findAsking 132 (kV z) (e::es) 0).run Tryz.prog w:=by
   simp [Instr.findKey,run_underlying Tryz.underlying132,Instr.findNow,Instr.sameNow]
  rw [e1]
  exact this
theorem QFk (w:World){bm clk:Nat}{es:Array MapEntry}{ks:List (List Int)}{z:List Int}(hz:z.length=10)(hb:w.heap[bm]? = some (.map es clk))(hE:QcG es.toList ks):
  (Instr.lookup 129 (.map (some bm)) (kV z) false).run Tryz.prog w= .ok (.bool (decide (z∈ks))) w:=by
 have hc:=Qtl w es.isEmpty hz
 have hz0:(zeroValue 4).run Tryz.prog w= .ok (.bool false) w:=by kernel_rfl
 rcases Qtm w hz es.toList (fun e he=>by obtain ⟨_,y,_,h1,h2⟩:=hE.1 e he;exact ⟨y,h1,h2⟩) with ⟨h1,h2⟩|⟨j,e,h1,h2,h3⟩
 ·have hn: ¬ z∈ks:=fun hm=>by obtain ⟨e,he,hk⟩:=hE.2 z hm;exact h2 e he hk
  have hg:(getObj bm).run Tryz.prog w= .ok (.map es clk) w:=by simp [getObj,Sem.run,hb]
  simp [Instr.lookup,run_underlying Tryz.underlying129,hg,hc,h1,hz0,hn]
 ·have he:=Dm h2
  obtain ⟨hv,y,hy,hyl,hyk⟩:=hE.1 e he
  have hm:z∈ks:=by rw [Qi2 (h3.symm.trans hyk)];exact hy
  have hg:(getObj bm).run Tryz.prog w= .ok (.map es clk) w:=by simp [getObj,Sem.run,hb]
  simp [Instr.lookup,run_underlying Tryz.underlying129,hg,hc,h1,hv,hm]
theorem QFl (w:World){bm clk:Nat}{es:Array MapEntry}{ks:List (List Int)}{z:List Int}(hz:z.length=10)(hb:w.heap[bm]? = some (.map es clk))(hE:QcG es.toList ks):
  ∃ w',(Instr.mapUpdate 129 (.map (some bm)) (kV z) (.bool true)).run Tryz.prog w= .ok () w'/\(∃ es' clk',w'.heap[bm]? = some (.map es' clk')/\QcG es'.toList (ks++[z]))/\w.grownBy w' (some bm):=by
 have hc:=Qtl w false hz
 have hg:(getObj bm).run Tryz.prog w= .ok (.map es clk) w:=by simp [getObj,Sem.run,hb]
 have hs: ∀ o,(setObj bm o).run Tryz.prog w= .ok () {w with heap:=w.heap.setIfInBounds bm o}:=fun o=>by simp [setObj,Sem.run,hb]
 have hlt:bm<w.heap.size:=(BW.1 hb).1
 have hgr: ∀ o,w.grownBy {w with heap:=w.heap.setIfInBounds bm o} (some bm):=fun o=>⟨rfl,rfl,rfl,by simp,fun i _ hi=>by
  have:bm≠i:=fun e=>hi (by rw [e])
  simp [Array.getElem?_setIfInBounds_ne this]⟩
 rcases Qtm w hz es.toList (fun e he=>by obtain ⟨_,y,_,h1,h2⟩:=hE.1 e he;exact ⟨y,h1,h2⟩) with ⟨h1,h2⟩|⟨j,e,h1,h2,h3⟩
 ·refine ⟨{w with heap:=w.heap.setIfInBounds bm (.map (es.push {key:=kV z,val:= .bool true,born:=clk }) (clk+1)) }, ?_,⟨es.push {key:=kV z,val:= .bool true,born:=clk },clk+1,by simp [hlt], ?_⟩,hgr _⟩
  ·simp [Instr.mapUpdate,run_underlying Tryz.underlying129,hg,hc,h1,hs]
  ·rw [Array.toList_push]
   refine ⟨fun e he=> ?_,fun y hy=> ?_⟩
   ·rcases BC.1 he with he|he
    ·obtain ⟨a,y,b,c,d⟩:=hE.1 e he
     exact ⟨a,y,List.mem_append_left _ b,c,d⟩
    ·rw [Dq.1 he]
     exact ⟨rfl,z,Dz _ Dh,hz,rfl⟩
   ·rcases BC.1 hy with hy|hy
    ·obtain ⟨e,he,hk⟩:=hE.2 y hy
     exact ⟨e,List.mem_append_left _ he,hk⟩
    ·rw [Dq.1 hy]
     exact ⟨_,Dz _ Dh,rfl⟩
 ·have he:=Dm h2
  obtain ⟨hv,y,hy,hyl,hyk⟩:=hE.1 e he
  have hm:z∈ks:=by rw [Qi2 (h3.symm.trans hyk)];exact hy
  have hj:es[j]? = some e:=by rw [←Array.getElem?_toList];exact h2
  have hst:(Instr.keyThatStays (kV z) (kV z)).run Tryz.prog w= .ok (kV z) w:=by
   obtain ⟨a0,a1,a2,a3,a4,a5,a6,a7,a8,a9,rfl⟩:=ten hz
   simp [Instr.keyThatStays,Instr.sameBits,kV]
  have hmod:(es.modify j fun e=>{e with key:=kV z,val:= .bool true })=es:=by
   apply Array.ext
   ·simp
   ·intro i hi1 hi2
    rw [Array.getElem_modify]
    split
    ·rename_i hji
     subst hji
     have:es[j]=e:=by
      have:=BW.1 hj
      exact this.2
     rw [this]
     cases e
     simp only at h3 hv
     subst h3 hv
     rfl
    ·rfl
  refine ⟨{w with heap:=w.heap.setIfInBounds bm (.map (es.modify j fun e=>{e with key:=kV z,val:= .bool true }) clk) }, ?_,⟨es,clk,by rw [hmod];simp [hlt],fun e he=> ?_,fun y hy=> ?_⟩,hgr _⟩
  ·simp [Instr.mapUpdate,run_underlying Tryz.underlying129,hg,hc,h1,hs,hj,h3,hst]
  ·obtain ⟨a,y,b,c,d⟩:=hE.1 e he
   exact ⟨a,y,List.mem_append_left _ b,c,d⟩
  ·rcases BC.1 hy with hy|hy
   ·exact hE.2 y hy
   ·rw [Dq.1 hy]
    exact hE.2 z hm
end Go.Proofs.YtmjnnemhoeolgaaGreat.K
noncomputable section
namespace Go.Proofs.YtmjnnemhoeolgaaGreat.K
open Go.RowKit
noncomputable section
def JI (s:Endpoint)(o:Keep):List Int:=o.1::o.2.1::(GU (Jg s o).1).flatMap fun u=>[u.1,u.2.1]
def FI (b a:Estate)(i:Int)(o:Keep):Bool:=(Q4 b i).1.any fun x=>JI (Q4 b i).2 x==JI (Q4 a i).2 o
def ZN (b a:Estate)(i:Int):List Keep:=(Q4 a i).1.filter fun o=> !FI b a i o
def Qbg (b a:Estate)(i:Int):Bool:=YM b i&&YM a i
theorem Qp0 (b a:Estate)(i:Int):(ZN b a i).length<=64:=Da (List.length_filter_le _ _) IT
end
end Go.Proofs.YtmjnnemhoeolgaaGreat.K
noncomputable section
namespace Go.Proofs.YtmjnnemhoeolgaaGreat.K
open Go.RowKit
theorem Qzy {X:Nat->Nat->Prop}{w w':World}(h:Below w.heap.size w w'):Ext0 X w X w':=⟨h.size,fun b o hb hx=>⟨hx,h.cell (p:=⟨b,o,none⟩) hb⟩⟩
theorem Qzz (s:Endpoint)(o:Keep):(Jg s o).1=[]∨ ∃ a b c d,(Jg s o).1=[a,b,c,d]:=by
 unfold Jg
 cases QT s with
 |false=>exact .inl rfl
 |true=>
  cases ine (QW o.2.1).2 0 with
  |true=>exact .inl rfl
  |false=>
   cases (Zh s o.2.1).2 with
   |false=>exact .inl rfl
   |true=>exact .inr ⟨_,_,_,_,rfl⟩
theorem mV_mth (s:Endpoint)(o:Keep):Value.agg (mV o (Jg s o).1)=kV (JI s o):=by
 unfold mV kV JI cU
 rw [BF,BF,List.map_flatMap]
 rfl
theorem Qni (s:Endpoint)(o:Keep):(JI s o).length=10:=by
 have h:(GU (Jg s o).1).length=4:=by simp [GU]
 have h2:=Qez (GU (Jg s o).1)
 have h3:((GU (Jg s o).1).flatMap fun u=>[u.1,u.2.1]).length=(cU (GU (Jg s o).1)).length:=by
  unfold cU
  rw [List.length_flatMap,List.length_flatMap]
  rfl
 unfold JI
 rw [Bt,Bt,h3,h2,h]
def EpV (w:World)(s:Endpoint)(v0 v1 v2 v3 v4 v5 v6 v7 v8:Value):Prop:=
 (∃ (X:Nat->Nat->Prop) (σ:Pl),(∀ b q,X b q->b<w.heap.size)/\C X w σ (V.t Qo s).d (.agg #[v0,v1,v2,v3,v4,v5,v6,v7,v8]))∧
 (v0.oneCell'=true/\v1.oneCell'=true/\v2.oneCell'=true/\v3.oneCell'=true/\v4.oneCell'=true/\v5.oneCell'=true/\v6.oneCell'=true/\v7.oneCell'=true/\v8.oneCell'=true)
def Stand (w w':World):Prop:=w.heap.size<=w'.heap.size∧ ∀ b o,b<w.heap.size->w'.cell? ⟨b,o,none⟩=w.cell? ⟨b,o,none⟩
theorem Stand.below {w w':World}(h:Below w.heap.size w w'):Stand w w':=⟨h.size,fun b o hb=>h.cell (p:=⟨b,o,none⟩) hb⟩
theorem Stand.trans {a b c:World}(h:Stand a b)(k:Stand b c):Stand a c:=⟨Da h.1 k.1,fun x o hx=>(k.2 x o (BP hx h.1)).trans (h.2 x o hx)⟩
theorem EpV.stand {w w':World}{s:Endpoint}{v0 v1 v2 v3 v4 v5 v6 v7 v8:Value}(h:EpV w s v0 v1 v2 v3 v4 v5 v6 v7 v8)(k:Stand w w'):EpV w' s v0 v1 v2 v3 v4 v5 v6 v7 v8:=by
 obtain ⟨⟨X,σ,hf,hc⟩,h1⟩:=h
 exact ⟨⟨X,σ,fun b q hq=>BP (hf b q hq) k.1,C.ext0 ⟨k.1,fun b o hb hx=>⟨hx,k.2 b o hb⟩⟩ _ _ (fun _ _=>rfl) hc⟩,h1⟩
theorem Qnj {w:World}{s:Endpoint}{o:Keep}{v0 v1 v2 v3 v4 v5 v6 v7 v8:Value}(hs:EpV w s v0 v1 v2 v3 v4 v5 v6 v7 v8)(hl:QU s=true):
  Calls Tryz.prog 59 #[.agg #[v0,v1,v2,v3,v4,v5,v6,v7,v8],GT o] w fun e w'=>e= .returned (kV (JI s o))/\Below w.heap.size w w':=by
 obtain ⟨o0,o1,o2,o3,o4,o5,o6,o7,o8⟩:=hs.2
 rw [←mV_mth]
 exact of_any o0 o1 o2 o3 o4 o5 o6 o7 o8 (fun W hW=>by
  obtain ⟨⟨X,σ,hf,hc⟩,_⟩:=hs.stand (Stand.below hW)
  exact QJV hf hc hl) (Qzz s o)
theorem Qnk {X:Nat->Nat->Prop}{w:World}{σ:Pl}{s:Endpoint}{u:Value}(h:C X w σ (V.t Qo s).d u): ∃ v0 v1 v2 v3 v4 v5 v6 v7 v8,u= .agg #[v0,v1,v2,v3,v4,v5,v6,v7,v8]∧
  (v0.oneCell'=true/\v1.oneCell'=true/\v2.oneCell'=true/\v3.oneCell'=true/\v4.oneCell'=true/\v5.oneCell'=true/\v6.oneCell'=true/\v7.oneCell'=true/\v8.oneCell'=true):=by
 simp only [V.d] at h
 rw [Ty.d_row Qo _ rfl] at h
 simp only [C] at h
 obtain ⟨us,rfl,h⟩:=h
 have hl:us.length=9:=h.len.trans (by rw [Qo.cells_len];rfl)
 have one: ∀ v∈us,v.oneCell'=true:=Cs.cell1 h (show (Qo.cells s).all D.cell1=true from rfl)
 match us,hl with
 | [v0,v1,v2,v3,v4,v5,v6,v7,v8],_=>exact ⟨v0,v1,v2,v3,v4,v5,v6,v7,v8,rfl,one _ (by simp),one _ (by simp),one _ (by simp),one _ (by simp),one _ (by simp),one _ (by simp),one _ (by simp),one _ (by simp),one _ (by simp)⟩
theorem QzA {X:Nat->Nat->Prop}{w:World}{σ:Pl}{e:Estate}{i:Int}{bv:Value}(hfin: ∀ b q,X b q->b<w.heap.size)(hs:C X w σ (V.t QE e).d bv)(hok:YM e i=true):
  Calls Tryz.prog 55 #[bv,.int .i64 i] w fun en w'=> ∃ A c v0 v1 v2 v3 v4 v5 v6 v7 v8,en= .returned (.tuple #[.slice A (Q4 e i).1.length c,.agg #[v0,v1,v2,v3,v4,v5,v6,v7,v8]])/\(Q4 e i).1.length<=c/\c<=maxLen∧
   (0<(Q4 e i).1.length→ ∃ b off,A=some ⟨b,off,none⟩/\b<w'.heap.size∧ ∀ j v,(cU (Q4 e i).1)[j]? = some v->w'.cell? ⟨b,off+j,none⟩=some v)/\EpV w' (Q4 e i).2 v0 v1 v2 v3 v4 v5 v6 v7 v8/\Below w.heap.size w w':=by
 have hF:Qy Et [.t QE e,.t tI i] []=some (.tu [.t (.sl Qd) (Q4 e i).1,.t Qo (Q4 e i).2],[]):=by
  unfold Et
  exact Qa3 (a:= .pr QE (.pr tI .nil)) (x:=(e,(i,()))) (by simp [Ty.args,Qd8]) hok
 refine (UM (by decide) (QjR.2 _ _ _ _ hF X w σ [bv,.int .i64 i] hfin Qlr ⟨bv,_,rfl,hs,.int .i64 i,_,rfl,⟨rfl,rfl⟩,rfl⟩)).mono ?_
 rintro en w' ⟨u,X',σ',rfl,h1,h2⟩
 have h1:C X' w' σ' (.tu [.sl (Q4 e i).1.length ((Q4 e i).1.flatMap Qd.cells),(V.t Qo (Q4 e i).2).d]) u:=h1
 simp only [C,Cs] at h1
 obtain ⟨vs,rfl,u1,us,rfl,⟨A,c,rfl,g1,g2,g3,g4⟩,u2,us2,rfl,hep,rfl⟩:=h1
 obtain ⟨v0,v1,v2,v3,v4,v5,v6,v7,v8,rfl,hone⟩:=Qnk hep
 refine ⟨A,c,v0,v1,v2,v3,v4,v5,v6,v7,v8,rfl,g1,g2,fun hp=> ?_,⟨⟨X',σ',h2.fin,hep⟩,hone⟩,Qls h2⟩
 obtain ⟨b,off,vs,rfl,k1,k2⟩:=g4 hp
 rw [QeA k1] at k2
 exact ⟨b,off,rfl,k2.lt,fun j v hv=>k2.at_ j v hv⟩
theorem QzB {X:Nat->Nat->Prop}{w:World}{σ:Pl}{e:Estate}{i:Int}{bv:Value}(hfin: ∀ b q,X b q->b<w.heap.size)(hs:C X w σ (V.t QE e).d bv)(hok:YM e i=true):
  Calls Tryz.prog 55 #[bv,.int .i64 i] w fun en w'=> ∃ A c X' σ' v0 v1 v2 v3 v4 v5 v6 v7 v8,en= .returned (.tuple #[.slice A (Q4 e i).1.length c,.agg #[v0,v1,v2,v3,v4,v5,v6,v7,v8]])/\(Q4 e i).1.length<=c/\c<=maxLen∧
   (∀ b q,X' b q->b<w'.heap.size)/\(∀ b q,b<w.heap.size->X b q->X' b q)/\(0<(Q4 e i).1.length→ ∃ b off,A=some ⟨b,off,none⟩/\b<w'.heap.size∧ ¬ X' b off∧ ∀ j v,(cU (Q4 e i).1)[j]? = some v->w'.cell? ⟨b,off+j,none⟩=some v)/\C X' w' σ' (V.t Qo (Q4 e i).2).d (.agg #[v0,v1,v2,v3,v4,v5,v6,v7,v8])/\(v0.oneCell'=true/\v1.oneCell'=true/\v2.oneCell'=true/\v3.oneCell'=true/\v4.oneCell'=true/\v5.oneCell'=true/\v6.oneCell'=true/\v7.oneCell'=true/\v8.oneCell'=true)/\Below w.heap.size w w':=by
 have hF:Qy Et [.t QE e,.t tI i] []=some (.tu [.t (.sl Qd) (Q4 e i).1,.t Qo (Q4 e i).2],[]):=by
  unfold Et
  exact Qa3 (a:= .pr QE (.pr tI .nil)) (x:=(e,(i,()))) (by simp [Ty.args,Qd8]) hok
 refine (UM (by decide) (QjR.2 _ _ _ _ hF X w σ [bv,.int .i64 i] hfin Qlr ⟨bv,_,rfl,hs,.int .i64 i,_,rfl,⟨rfl,rfl⟩,rfl⟩)).mono ?_
 rintro en w' ⟨u,X',σ',rfl,h1,h2⟩
 have h1:C X' w' σ' (.tu [.sl (Q4 e i).1.length ((Q4 e i).1.flatMap Qd.cells),(V.t Qo (Q4 e i).2).d]) u:=h1
 simp only [C,Cs] at h1
 obtain ⟨vs,rfl,u1,us,rfl,⟨A,c,rfl,g1,g2,g3,g4⟩,u2,us2,rfl,hep,rfl⟩:=h1
 obtain ⟨v0,v1,v2,v3,v4,v5,v6,v7,v8,rfl,hone⟩:=Qnk hep
 refine ⟨A,c,X',σ',v0,v1,v2,v3,v4,v5,v6,v7,v8,rfl,g1,g2,h2.fin,fun b q hb hq=>h2.old b q hb (fun i hi=>absurd hi (by simp)) hq,fun hp=> ?_,hep,hone,Qls h2⟩
 obtain ⟨b,off,vs,rfl,k1,k2⟩:=g4 hp
 rw [QeA k1] at k2
 have nx:=k2.nx 0 (by rw [Qez];omega)
 exact ⟨b,off,rfl,k2.lt,nx,fun j v hv=>k2.at_ j v hv⟩
theorem QfQ: ∀ (l:List Keep) (k:Nat) (hk:k<l.length),(cU l)[k*2]? = some (.int .i64 l[k].1)/\(cU l)[k*2+1]? = some (.int .i64 l[k].2.1)
 | [],_,h=>by simp at h
 |x::l,0,_=>⟨rfl,rfl⟩
 |x::l,k+1,h=>by
  have:=QfQ l k (by simpa using h)
  have e:cU (x::l)= .int .i64 x.1:: .int .i64 x.2.1::cU l:=rfl
  rw [e,show (k+1)*2=k*2+1+1 by omega,BS,BS,BS,BS]
  exact this
theorem Qnl {w w':World}(h:Below w.heap.size w w'):w.grownBy w' none:=⟨h.os,h.tape,h.output,h.size,fun j hj _=>h.block j hj⟩
theorem Qnm {X:Nat->Nat->Prop}{w:World}{σ:Pl}{s:Estate}{u:Value}(h:C X w σ (V.t QE s).d u): ∃ v0 v1 v2,u= .agg #[v0,v1,v2]/\(v0.oneCell'=true/\v1.oneCell'=true/\v2.oneCell'=true):=by
 simp only [V.d] at h
 rw [Ty.d_row QE _ rfl] at h
 simp only [C] at h
 obtain ⟨us,rfl,h⟩:=h
 have hl:us.length=3:=h.len.trans (by rw [QE.cells_len];rfl)
 have one: ∀ v∈us,v.oneCell'=true:=fun v hv=>Cs.cell1 h (show (QE.cells s).all D.cell1=true from rfl) v hv
 match us,hl with
 | [v0,v1,v2],_=>exact ⟨v0,v1,v2,rfl,one _ (by simp),one _ (by simp),one _ (by simp)⟩
theorem QzC:ElemOk Tryz.prog 48 54 2 16:=ElemOk.of (.agg #[.int .i64 0,.int .i64 0]) (by kernel_rfl) (by kernel_rfl) (by kernel_rfl) (by decide)
theorem QzD {X:Nat->Nat->Prop}{w w':World}{σ:Pl}{d:D}{u:Value}(h:C X w σ d u)(k:Stand w w'):C X w' σ d u:=C.ext0 ⟨k.1,fun b o hb hx=>⟨hx,k.2 b o hb⟩⟩ _ _ (fun _ _=>rfl) h
def MapAt (w:World)(bm:Nat)(ks:List (List Int)):Prop:= ∃ es clk,w.heap[bm]? = some (.map es clk)/\QcG es.toList ks
theorem MapAt.below {w w':World}{bm:Nat}{ks:List (List Int)}(h:MapAt w bm ks)(hb:Below w.heap.size w w'):MapAt w' bm ks:=by
 obtain ⟨es,clk,h1,h2⟩:=h
 exact ⟨es,clk,(hb.block bm (BW.1 h1).1).trans h1,h2⟩
set_option maxRecDepth 50000 in
set_option maxHeartbeats 4000000 in
theorem QzE {X:Nat->Nat->Prop}{w:World}{σ:Pl}{b a:Estate}{i:Int}{u0 u1 u2 t0 t1 t2:Value}(hfin: ∀ b q,X b q->b<w.heap.size)
  (hb:C X w σ (V.t QE b).d (.agg #[u0,u1,u2])) (ha:C X w σ (V.t QE a).d (.agg #[t0,t1,t2])) (ou0:u0.oneCell'=true) (ou1:u1.oneCell'=true) (ou2:u2.oneCell'=true) (ot0:t0.oneCell'=true) (ot1:t1.oneCell'=true) (ot2:t2.oneCell'=true)
  (h1:YM b i=true) (h2:YM a i=true):
  Calls Tryz.prog 32 #[.agg #[u0,u1,u2],.agg #[t0,t1,t2],.int .i64 i] w fun en w'=> ∃ sv B,en= .returned sv/\w.heap.size<=B/\w'.ownsRow B 54 2 sv (ZN b a i).length (cU (ZN b a i))/\Below w.heap.size w w':=by
 have HB:=Lib.hid hb
 have HA:=Lib.hid ha
 have HF:=Lib.hid hfin
 have H1:=Lib.hid h1
 have H2:=Lib.hid h2
 clear hb ha hfin h1 h2
 have hmm:= @run_makeMap Tryz.prog
 go_enter Tryz.func32,Tryz.ntmps32
 go_wp2_with fail
 obtain ⟨Wa,ha⟩: ∃ Wa,Wa=w.alloc (.cells #[u0,u1,u2] 31):=⟨_,rfl⟩
 obtain ⟨Wb,hb⟩: ∃ Wb,Wb=Wa.alloc (.cells #[t0,t1,t2] 31):=⟨_,rfl⟩
 obtain ⟨Wc,hc⟩: ∃ Wc,Wc=Wb.alloc (.map #[] 0):=⟨_,rfl⟩
 obtain ⟨S,hS⟩: ∃ S,S=w.heap.size:=⟨_,rfl⟩
 rw [←ha, ← hb, ← hc, ← hS]
 have sa:Wa.heap.size=S+1:=by rw [ha,World.size_alloc,hS]
 have sb:Wb.heap.size=S+1+1:=by rw [hb,World.size_alloc,sa]
 have sc:Wc.heap.size=S+1+1+1:=by rw [hc,World.size_alloc,sb]
 have bW:Below w.heap.size w Wc:=by
  rw [hc,hb,ha]
  have e1:=(Below.refl w.heap.size w).alloc (BJ _) (.cells #[u0,u1,u2] 31)
  have e2:=e1.alloc e1.size (.cells #[t0,t1,t2] 31)
  exact e2.alloc e2.size _
 have kB:Go.Proofs.YtmjnnemhoeolgaaGreat.Blk Wc (S+1) 31 #[t0,t1,t2]:=by
  rw [hc];refine Go.Proofs.YtmjnnemhoeolgaaGreat.Blk.alloc ?_ _;rw [hb, ← sa];exact Go.Proofs.YtmjnnemhoeolgaaGreat.Blk.new _ _ _
 have mp:MapAt Wc (S+1+1) []:=⟨#[],0,by rw [hc, ← sb];exact heap_alloc_new Wb _,fun e he=>by simp at he,fun z hz=>by simp at hz⟩
 have fX: ∀ b q,X b q->b<Wc.heap.size:=fun b q hq=>BP (HF.out b q hq) bW.size
 clear ha hb hc sa sb
 refine (QzA (X:=X) (σ:=σ) (i:=i) fX (QzD HB.out (Stand.below bW)) H1.out).mono ?_
 rintro en w1 ⟨A,c,v0,v1,v2,v3,v4,v5,v6,v7,v8,rfl,hc1,hc2,hcell,hep,hb1⟩
 have hsz:=hb1.size
 have kB:=kB.ext hb1
 have mp:=mp.below hb1
 have b1:Below S w w1:=hS▸WJ bW hb1 (by omega)
 have hln:(Q4 b i).1.length<=64:=IT
 have hel:QU (Q4 b i).2=true:=(Bi.1 (Bi.1 H1.out).2).2
 obtain ⟨l,hl⟩: ∃ l,l=(Q4 b i).1:=⟨_,rfl⟩
 obtain ⟨s,hs⟩: ∃ s,s=(Q4 b i).2:=⟨_,rfl⟩
 rw [←hl] at hc1 hcell hln ⊢
 rw [←hs] at hep hel
 have HW:=Lib.hid (show Stand w w1/\S+1+1+1<=w1.heap.size from ⟨(Stand.below bW).trans (Stand.below hb1),by omega⟩)
 obtain ⟨p0,p1,p2,p3,p4,p5,p6,p7,p8⟩:=hep.2
 have HE:=Lib.hid hep
 have HM:=Lib.hid mp
 have HC:=Lib.hid hcell
 have HL:=Lib.hid hl
 have HS:=Lib.hid hs
 have HB1:=Lib.hid b1
 have HSS:=Lib.hid hS
 have HEL:=Lib.hid hel
 have HKB:=Lib.hid kB
 clear bW kB mp fX hb1 hsz b1 hl hs hep hcell hS sc HB hel Wa Wb
 have sv0:=fun a m W=>run_store Tryz.prog W a v0 m p0
 have sv1:=fun a m W=>run_store Tryz.prog W a v1 m p1
 have sv2:=fun a m W=>run_store Tryz.prog W a v2 m p2
 have sv3:=fun a m W=>run_store Tryz.prog W a v3 m p3
 have sv4:=fun a m W=>run_store Tryz.prog W a v4 m p4
 have sv5:=fun a m W=>run_store Tryz.prog W a v5 m p5
 have sv6:=fun a m W=>run_store Tryz.prog W a v6 m p6
 have sv7:=fun a m W=>run_store Tryz.prog W a v7 m p7
 have sv8:=fun a m W=>run_store Tryz.prog W a v8 m p8
 generalize hn:l.length=n at*
 have HN:=Lib.hid hn
 clear hn
 go_wp2_with fail
 clear sv0 sv1 sv2 sv3 sv4 sv5 sv6 sv7 sv8
 obtain ⟨Q,hQ⟩: ∃ Q,Q=w1.heap.size:=⟨_,rfl⟩
 obtain ⟨W2,hW2⟩: ∃ W2,W2=w1.alloc (.cells #[v0,v1,v2,v3,v4,v5,v6,v7,v8] 61):=⟨_,rfl⟩
 rw [←hQ, ← hW2]
 have b2:Below w1.heap.size w1 W2:=hW2▸(Below.refl _ _).alloc (BJ _) _
 have kQ:Go.Proofs.YtmjnnemhoeolgaaGreat.Blk W2 Q 61 #[v0,v1,v2,v3,v4,v5,v6,v7,v8]:=by rw [hW2,hQ];exact Go.Proofs.YtmjnnemhoeolgaaGreat.Blk.new _ _ _
 have bS:Below S w W2:=WJ HB1.out b2 (by have:=HW.out.2;omega)
 have mp:MapAt W2 (S+1+1) []:=HM.out.below b2
 have HE:=Lib.hid (HE.out.stand (Stand.below b2))
 have HB0:=Lib.hid bS
 have HKQ:=Lib.hid kQ
 have HKB:=Lib.hid (HKB.out.ext b2)
 have HW:=Lib.hid (show Stand w W2/\S+1+1+1<=Q/\Q<W2.heap.size from ⟨HW.out.1.trans (Stand.below b2),by have:=HW.out.2;omega,kQ.lt⟩)
 have HC2:=Lib.hid (show 0<n→ ∃ b off,A=some ⟨b,off,none⟩∧ ∀ j v,(cU l)[j]? = some v->W2.cell? ⟨b,off+j,none⟩=some v from fun h=>by
  obtain ⟨b,off,h1,h2,h3⟩:=HC.out h
  exact ⟨b,off,h1,fun j v hv=>(b2.cell (p:=⟨b,off+j,none⟩) h2).trans (h3 j v hv)⟩)
 have HM2:=Lib.hid mp
 clear hW2 b2 kQ bS mp HM HC HB1 hQ
 go_loopw [24] (fun iv wr=> ∃ k:Nat,k<=n/\iv= .int .i64 k/\Stand W2 wr/\Below S w wr/\MapAt wr (S+1+1) ((l.take k).map (JI s))/\Go.Proofs.YtmjnnemhoeolgaaGreat.Blk wr Q 61 #[v0,v1,v2,v3,v4,v5,v6,v7,v8]) (fun iv _=>n-(intOf iv).toNat)
 case atStart=>exact ⟨0,B4 _,rfl,⟨BJ _,fun _ _ _=>rfl⟩,HB0.out,by rw [List.take_zero];exact HM2.out,HKQ.out⟩
 case round=>
  obtain ⟨k,hk,rfl,hst,hbl,hmp,hkq⟩:=hrel
  have HKR:=Lib.hid hkq
  clear hkq
  have HST:=Lib.hid hst
  have HBL:=Lib.hid hbl
  have HMP:=Lib.hid hmp
  clear hst hbl hmp
  by_cases hlt:k<n
  ·have hkl:k<l.length:=by rw [HN.out];exact hlt
   obtain ⟨bb,off,rfl,hcs⟩:=HC2.out (by omega)
   obtain ⟨g0,g1⟩:=QfQ l k hkl
   obtain ⟨o,ho⟩: ∃ o,o=l[k]:=⟨_,rfl⟩
   rw [←ho] at g0 g1
   have dz: ∀ j v,W2.cell? ⟨bb,off+j,none⟩=some v->wr.cell? ⟨bb,off+j,none⟩=some v:=fun j v h=>by
    have hb:bb<W2.heap.size:=by
     rcases B9 bb W2.heap.size with h1|h1
     ·exact h1
     ·simp [World.cell?, Array.getElem?_eq_none h1] at h
    exact (HST.out.2 bb _ hb).trans h
   have d0:=dz _ _ (hcs _ _ g0)
   have d1:=dz _ _ (hcs _ _ g1)
   rw [←DC] at d1
   have yz: ∀ j,wr.cell? ⟨Q,j,none⟩=(#[v0,v1,v2,v3,v4,v5,v6,v7,v8]:Array Value)[j]? :=fun j=>(HST.out.2 Q j HW.out.2.2).trans (HKQ.out.cell j)
   have y0:=yz 0
   have y1:=yz 1
   have y2:=yz 2
   have y3:=yz 3
   have y4:=yz 4
   have y5:=yz 5
   have y6:=yz 6
   have y7:=yz 7
   have y8:=yz 8
   simp only [Ds,BZ,BS] at y0 y1 y2 y3 y4 y5 y6 y7 y8
   replace y0:=fun ob=>Lib.cell?_alloc_some ob y0
   replace y1:=fun ob=>Lib.cell?_alloc_some ob y1
   replace y2:=fun ob=>Lib.cell?_alloc_some ob y2
   replace y3:=fun ob=>Lib.cell?_alloc_some ob y3
   replace y4:=fun ob=>Lib.cell?_alloc_some ob y4
   replace y5:=fun ob=>Lib.cell?_alloc_some ob y5
   replace y6:=fun ob=>Lib.cell?_alloc_some ob y6
   replace y7:=fun ob=>Lib.cell?_alloc_some ob y7
   replace y8:=fun ob=>Lib.cell?_alloc_some ob y8
   have HO:=Lib.hid (show l[k]? = some o by rw [ho];exact Bf hkl)
   clear dz yz hcs g0 g1 ho hkl
   go_wp2_with fail
   obtain ⟨W3,hW3⟩: ∃ W3,W3=wr.alloc (.cells #[.int .i64 o.1,.int .i64 o.2.1] 54):=⟨_,rfl⟩
   rw [←hW3]
   have b3:Below wr.heap.size wr W3:=hW3▸(Below.refl _ _).alloc (BJ _) _
   have hep:=HE.out.stand (HST.out.trans (Stand.below b3))
   refine (Qnj (o:=o) hep HEL.out).mono ?_
   rintro e w5 ⟨rfl,hb5⟩
   have mp5:=(HMP.out.below b3).below hb5
   obtain ⟨es,clk,m1,m2⟩:=mp5
   obtain ⟨w6,hrun,mp6,hg6⟩:=QFl w5 (Qni s o) m1 m2
   have st5:Stand W2 w5:=(HST.out.trans (Stand.below b3)).trans (Stand.below hb5)
   have bl5:Below S w w5:=WJ (WJ HBL.out b3 (by have:=HW.out;have:=HST.out.1;omega)) hb5 (by have:=HW.out;have:=HST.out.1;have:=b3.size;omega)
   have st6:Stand W2 w6:=st5.trans ⟨hg6.size,fun b' o' hb'=>by
    by_cases hbm:b'=S+1+1
    ·subst hbm
     obtain ⟨es',clk',m3,_⟩:=mp6
     simp [World.cell?, m1,m3]
    ·have:=hg6.block b' hb' (fun e=>hbm (by injection e))
     simp [World.cell?, this]⟩
   have bl6:Below S w w6:=Qqg bl5 hg6 (by omega) (by have:=HW.out;have:=st5.1;omega)
   have HK6:=Lib.hid (((HKR.out.ext b3).ext hb5).grown hg6 (fun e=>by have:=HW.out;injection e;omega))
   have HS6:=Lib.hid st6
   have HB6:=Lib.hid bl6
   have HM6:=Lib.hid mp6
   clear hW3 b3 hep hb5 m1 m2 mp6 hg6 st5 bl5 st6 bl6 d0 d1 y0 y1 y2 y3 y4 y5 y6 y7 y8
   obtain ⟨kv,hkv⟩: ∃ kv,kv=kV (JI s o):=⟨_,rfl⟩
   rw [←hkv] at hrun ⊢
   have HKV:=Lib.hid hkv
   clear hkv
   go_wp2_with fail
   refine ⟨⟨k+1,hlt,by simp,HS6.out,HB6.out, ?_,HK6.out⟩,by simp [intOf];omega⟩
   have e:l.take (k+1)=l.take k++[o]:=by
    rw [List.take_add_one,HO.out]
    rfl
   rw [e,List.map_append]
   exact HM6.out
  ·obtain rfl:k=n:=by omega
   have hlk:l.take k=l:=List.take_of_length_le (by rw [HN.out];exact BJ _)
   rw [hlk] at HMP
   have xz: ∀ j,wr.cell? ⟨S+1,j,none⟩=(#[t0,t1,t2]:Array Value)[j]? :=fun j=>(HST.out.2 (S+1) j (by have:=HW.out;omega)).trans (HKB.out.cell j)
   have x0:=xz 0
   have x1:=xz 1
   have x2:=xz 2
   simp only [Ds,BZ,BS] at x0 x1 x2
   clear xz hlk
   go_wp2_with fail
   have hwS:w.heap.size<=S:=by rw [HSS.out];exact BJ _
   have fX2: ∀ b' q,(X b' q∨b'=Q)->b'<wr.heap.size:=fun b' q hq=>by
    have g1:=HW.out
    have g2:=HST.out.1
    rcases hq with hq|rfl
    ·have:=HF.out b' q hq
     omega
    ·omega
   have eX:Ext0 X w (fun b' q=>X b' q∨b'=Q) wr:=⟨Da HW.out.1.1 HST.out.1,fun b' o hb' hx=>⟨fun h=>by
    rcases h with h|h
    ·exact hx h
    ·have:=HW.out
     omega,(HW.out.1.trans HST.out).2 b' o hb'⟩⟩
   refine (QzB (X:=fun b' q=>X b' q∨b'=Q) (σ:=σ) (i:=i) fX2 (C.ext0 eX _ _ (fun _ _=>rfl) HA.out) H2.out).mono ?_
   rintro en w7 ⟨A2,c2,X2,σ2,z0,z1,z2,z3,z4,z5,z6,z7,z8,rfl,hd1,hd2,hfin2,hold2,hcell2,hep2,hone2,hb7⟩
   have mp7:=HMP.out.below hb7
   have kq7:=HKR.out.ext hb7
   have bl7:Below S w w7:=WJ HBL.out hb7 (by have:=HW.out;have:=HST.out.1;omega)
   have xQ: ∀ q,X2 Q q:=fun q=>hold2 Q q (by have:=HW.out;have:=HST.out.1;omega) (.inr rfl)
   have hln2:(Q4 a i).1.length<=64:=IT
   have hel2:QU (Q4 a i).2=true:=(Bi.1 (Bi.1 H2.out).2).2
   obtain ⟨l2,hl2⟩: ∃ l2,l2=(Q4 a i).1:=⟨_,rfl⟩
   obtain ⟨s2,hs2⟩: ∃ s2,s2=(Q4 a i).2:=⟨_,rfl⟩
   rw [←hl2] at hd1 hcell2 hln2 ⊢
   rw [←hs2] at hep2 hel2
   obtain ⟨r0,r1,r2,r3,r4,r5,r6,r7,r8⟩:=hone2
   have hQ7:S+1+1+1<=Q/\Q<w7.heap.size:=⟨HW.out.2.1,kq7.lt⟩
   have q0:=kq7.cell 0
   have q1:=kq7.cell 1
   have q2:=kq7.cell 2
   have q3:=kq7.cell 3
   have q4:=kq7.cell 4
   have q5:=kq7.cell 5
   have q6:=kq7.cell 6
   have q7:=kq7.cell 7
   have q8:=kq7.cell 8
   simp only [Ds,BZ,BS] at q0 q1 q2 q3 q4 q5 q6 q7 q8
   have qf:=kq7.frozen
   have KQ7:=Lib.hid kq7
   have HX2:=Lib.hid (And.intro hfin2 xQ)
   have HC2':=Lib.hid hcell2
   have HE2:=Lib.hid hep2
   have HO2:=Lib.hid (And.intro r0<|And.intro r1<|And.intro r2<|And.intro r3<|And.intro r4<|And.intro r5<|And.intro r6<|And.intro r7 r8)
   have HM7:=Lib.hid mp7
   have HB7:=Lib.hid bl7
   have HL2:=Lib.hid hl2
   have HS2:=Lib.hid hs2
   have HEL2:=Lib.hid hel2
   have HQ7:=Lib.hid hQ7
   have sv0:=fun a m W=>run_store Tryz.prog W a z0 m r0
   have sv1:=fun a m W=>run_store Tryz.prog W a z1 m r1
   have sv2:=fun a m W=>run_store Tryz.prog W a z2 m r2
   have sv3:=fun a m W=>run_store Tryz.prog W a z3 m r3
   have sv4:=fun a m W=>run_store Tryz.prog W a z4 m r4
   have sv5:=fun a m W=>run_store Tryz.prog W a z5 m r5
   have sv6:=fun a m W=>run_store Tryz.prog W a z6 m r6
   have sv7:=fun a m W=>run_store Tryz.prog W a z7 m r7
   have sv8:=fun a m W=>run_store Tryz.prog W a z8 m r8
   clear x0 x1 x2 fX2 eX hfin2 hold2 hcell2 hep2 hb7 mp7 kq7 bl7 xQ hel2 hl2 hs2 hQ7 hwS hk hlt
   generalize hn2:l2.length=n2 at*
   have HN2:=Lib.hid hn2
   clear hn2
   go_wp2_with fail
   obtain ⟨W8,hW8⟩: ∃ W8,W8=w7.setCells Q 0 [z0,z1,z2,z3,z4,z5,z6,z7,z8]:=⟨_,rfl⟩
   have e8:(((((((((w7.setCell ⟨Q,0,none⟩ z0).setCell ⟨Q,1,none⟩ z1).setCell ⟨Q,2,none⟩ z2).setCell ⟨Q,3,none⟩ z3).setCell ⟨Q,4,none⟩ z4).setCell ⟨Q,5,none⟩ z5).setCell ⟨Q,6,none⟩ z6).setCell ⟨Q,7,none⟩ z7).setCell ⟨Q,8,none⟩ z8)=W8:=by rw [hW8];rfl
   rw [e8]
   have fr8:=WO Q [z0,z1,z2,z3,z4,z5,z6,z7,z8] 0 w7
   rw [←hW8] at fr8
   have kQ8:Go.Proofs.YtmjnnemhoeolgaaGreat.Blk W8 Q 61 #[z0,z1,z2,z3,z4,z5,z6,z7,z8]:=by rw [hW8];exact Gk Q 61 (0,0) [z0,z1,z2,z3,z4,z5,z6,z7,z8] 0 w7 _ KQ7.out
   have hp8: ∀ b',b'≠Q->W8.heap[b']? = w7.heap[b']? :=fun b' h=>by rw [hW8];exact WN Q _ 0 w7 b' h
   have mp8:MapAt W8 (S+1+1) (l.map (JI s)):=by
    obtain ⟨es,clk,m1,m2⟩:=HM7.out
    exact ⟨es,clk,(hp8 _ (by have:=HQ7.out;omega)).trans m1,m2⟩
   have bl8:Below S w W8:=HB7.out.trans ⟨fr8.os,fr8.tape,fr8.output,fr8.size,fun b' hb'=>hp8 b' (by have:=HQ7.out;omega)⟩
   have eX8:Ext0 X2 w7 X2 W8:=⟨fr8.size,fun b' o _ hx=>⟨hx,by
    have hne:b'≠Q:=fun e=>hx (e▸HX2.out.2 o)
    simp [World.cell?, hp8 b' hne]⟩⟩
   have HE8:=Lib.hid (And.intro (fun b' q hq=>BP (HX2.out.1 b' q hq) fr8.size: ∀ b' q,X2 b' q->b'<W8.heap.size) (C.ext0 eX8 _ _ (fun _ _=>rfl) HE2.out))
   have HC8:=Lib.hid (show 0<n2→ ∃ b off,A2=some ⟨b,off,none⟩/\b<W8.heap.size∧ ∀ j v,(cU l2)[j]? = some v->W8.cell? ⟨b,off+j,none⟩=some v from fun h=>by
    obtain ⟨b',off',h1,h2,h3,h4⟩:=HC2'.out h
    have hne:b'≠Q:=fun e=>h3 (e▸HX2.out.2 off')
    exact ⟨b',off',h1,BP h2 fr8.size,fun j v hv=>by
     rw [←h4 j v hv]
     simp [World.cell?, hp8 b' hne]⟩)
   have HM8:=Lib.hid mp8
   have HB8:=Lib.hid bl8
   have HK8:=Lib.hid kQ8
   have HSZ:=Lib.hid (show S+1+1+1<=W8.heap.size by have:=HQ7.out;have:=fr8.size;omega)
   clear e8 hW8 fr8 hp8 mp8 bl8 eX8 sv0 sv1 sv2 sv3 sv4 sv5 sv6 sv7 sv8 q0 q1 q2 q3 q4 q5 q6 q7 q8 qf r0 r1 r2 r3 r4 r5 r6 r7 r8 kQ8
   obtain ⟨F,hF⟩: ∃ F:Nat->List Keep,F=fun k=>(l2.take k).filter fun o=> !decide (JI s2 o∈l.map (JI s)):=⟨_,rfl⟩
   have HFF:=Lib.hid hF
   clear hF
   go_loopw [12,41] (fun sv iv wr=> ∃ k:Nat,k<=n2/\iv= .int .i64 k/\Below W8.heap.size W8 wr/\wr.ownsRow W8.heap.size 54 2 sv (F k).length (cU (F k))) (fun _ iv _=>n2-(intOf iv).toNat)
   case atStart=>exact ⟨0,B4 _,rfl,Below.refl _ _,by rw [HFF.out];exact World.ownsRow_nil _ _ _ _⟩
   case round=>
    obtain ⟨j,hj,rfl,hbl2,hown⟩:=hrel
    obtain ⟨A3,c3,rfl⟩:=QB6 hown
    have HBR:=Lib.hid hbl2
    have HOW:=Lib.hid hown
    clear hbl2 hown
    by_cases hlt2:j<n2
    ·have hjl:j<l2.length:=by rw [HN2.out];exact hlt2
     obtain ⟨bb,off,rfl,hbb,hcs⟩:=HC8.out (by omega)
     obtain ⟨g0,g1⟩:=QfQ l2 j hjl
     obtain ⟨o,ho⟩: ∃ o,o=l2[j]:=⟨_,rfl⟩
     rw [←ho] at g0 g1
     have dz: ∀ q v,W8.cell? ⟨bb,off+q,none⟩=some v->wr.cell? ⟨bb,off+q,none⟩=some v:=fun q v h=>(HBR.out.cell (p:=⟨bb,off+q,none⟩) hbb).trans h
     have d0:=dz _ _ (hcs _ _ g0)
     have d1:=dz _ _ (hcs _ _ g1)
     rw [←DC] at d1
     have kqr:=HK8.out.ext HBR.out
     have y0:=kqr.cell 0
     have y1:=kqr.cell 1
     have y2:=kqr.cell 2
     have y3:=kqr.cell 3
     have y4:=kqr.cell 4
     have y5:=kqr.cell 5
     have y6:=kqr.cell 6
     have y7:=kqr.cell 7
     have y8:=kqr.cell 8
     simp only [Ds,BZ,BS] at y0 y1 y2 y3 y4 y5 y6 y7 y8
     replace y0:=fun ob=>Lib.cell?_alloc_some ob y0
     replace y1:=fun ob=>Lib.cell?_alloc_some ob y1
     replace y2:=fun ob=>Lib.cell?_alloc_some ob y2
     replace y3:=fun ob=>Lib.cell?_alloc_some ob y3
     replace y4:=fun ob=>Lib.cell?_alloc_some ob y4
     replace y5:=fun ob=>Lib.cell?_alloc_some ob y5
     replace y6:=fun ob=>Lib.cell?_alloc_some ob y6
     replace y7:=fun ob=>Lib.cell?_alloc_some ob y7
     replace y8:=fun ob=>Lib.cell?_alloc_some ob y8
     have HO:=Lib.hid (show l2[j]? = some o by rw [ho];exact Bf hjl)
     have hm64:(F j).length<=64:=by
      rw [HFF.out]
      have h1:=List.length_filter_le (fun o=> !decide (JI s2 o∈l.map (JI s))) (l2.take j)
      rw [B7] at h1
      have h2:=HN2.out
      show ((l2.take j).filter fun o=> !decide (JI s2 o∈l.map (JI s))).length<=64
      omega
     clear dz hcs g0 g1 ho hjl kqr
     have HM64:=Lib.hid hm64
     obtain ⟨m,hm⟩: ∃ m,m=(F j).length:=⟨_,rfl⟩
     rw [←hm] at HOW HM64 ⊢
     have HMM:=Lib.hid hm
     clear hm hm64
     go_wp2_with fail
     obtain ⟨R,hR⟩: ∃ R,R=wr.heap.size:=⟨_,rfl⟩
     obtain ⟨W3,hW3⟩: ∃ W3,W3=wr.alloc (.cells #[.int .i64 o.1,.int .i64 o.2.1] 54):=⟨_,rfl⟩
     rw [←hW3, ← hR]
     have b3:Below wr.heap.size wr W3:=hW3▸(Below.refl _ _).alloc (BJ _) _
     have kR:Go.Proofs.YtmjnnemhoeolgaaGreat.Blk W3 R 54 #[.int .i64 o.1,.int .i64 o.2.1]:=by rw [hW3,hR];exact Go.Proofs.YtmjnnemhoeolgaaGreat.Blk.new _ _ _
     have b83:Below W8.heap.size W8 W3:=WJ HBR.out b3 HBR.out.size
     obtain ⟨q0,q1,q2,q3,q4,q5,q6,q7,q8⟩:=HO2.out
     have hep:EpV W3 s2 z0 z1 z2 z3 z4 z5 z6 z7 z8:=⟨⟨X2,σ2,fun b' q hq=>BP (HE8.out.1 b' q hq) b83.size,C.ext0 (Qzy b83) _ _ (fun _ _=>rfl) HE8.out.2⟩,q0,q1,q2,q3,q4,q5,q6,q7,q8⟩
     refine (Qnj (o:=o) hep HEL2.out).mono ?_
     rintro e w9 ⟨rfl,hb9⟩
     have b89:Below W8.heap.size W8 w9:=WJ b83 hb9 b83.size
     have kR9:=kR.ext hb9
     obtain ⟨es,clk,m1,m2⟩:=HM8.out.below b89
     have hrun:=QFk w9 (Qni s2 o) m1 m2
     have HOW9:=Lib.hid (Qhj (Qhj HOW.out (Qnl b3) (fun _ _ e=>by cases e)) (Qnl hb9) (fun _ _ e=>by cases e))
     have HR9:=Lib.hid (show R<w9.heap.size from kR9.lt)
     have HB9:=Lib.hid b89
     have c0:=kR9.cell 0
     have c1:=kR9.cell 1
     simp only [Ds,BZ,BS] at c0 c1
     clear hW3 b3 kR b83 hep hb9 b89 kR9 m1 m2 d0 d1 y0 y1 y2 y3 y4 y5 y6 y7 y8 q0 q1 q2 q3 q4 q5 q6 q7 q8 hR
     obtain ⟨kv,hkv⟩: ∃ kv,kv=kV (JI s2 o):=⟨_,rfl⟩
     rw [←hkv] at hrun ⊢
     clear hkv
     have hstep:F (j+1)=F j++(if decide (JI s2 o∈l.map (JI s))=true then [] else [o]):=by
      rw [HFF.out]
      show (l2.take (j+1)).filter _=_
      rw [List.take_add_one,HO.out,List.filter_append]
      congr 1
      cases h:decide (JI s2 o∈l.map (JI s)) with
      |true=>simp [h]
      |false=>simp [h]
     have HST2:=Lib.hid hstep
     clear hstep
     cases hq:decide (JI s2 o∈l.map (JI s)) with
     |true=>
      rw [hq] at hrun HST2
      go_wp2_with fail
      have hst:=HST2.out
      simp only [if_true,BO] at hst
      refine ⟨⟨j+1,hlt2,by simp,HB9.out, ?_⟩,by simp [intOf];omega⟩
      rw [hst, ← HMM.out]
      exact HOW9.out
     |false=>
      rw [hq] at hrun HST2
      have hsrc:=Sl.made w9 54 1 2 #[.int .i64 o.1,.int .i64 o.2.1] rfl (by simp [maxLen])
      go_wp2_with (at_builtin;refine Qqh QzC rfl _ _ rfl W8.heap.size (.slice A3 m c3) m (cU (F j)) rfl (Qhj HOW9.out (QB0 (World.grownBy.refl _ none) _) (fun _ _ e=>by cases e)) _ _ _ _ rfl hsrc (by simp [Value.oneCell']) (by have:=HM64.out;omega) (by omega) (by have:=HB9.out.size;simp;omega) ?_;intro v' w4 hown4 hg4 hat4)
      have hst:=HST2.out
      simp only [BK,Do] at hst
      have bA:=HB9.out.alloc HB9.out.size (.cells #[.int .i64 o.1,.int .i64 o.2.1] 54)
      refine ⟨⟨j+1,hlt2,by simp,bA.trans ⟨hg4.os,hg4.tape,hg4.output,hg4.size,fun q hq=>hg4.block q (BP hq bA.size) (fun e=>by have:=(HOW9.out.lt _ e.symm).1;omega)⟩, ?_⟩,by simp [intOf];omega⟩
      rw [hst,Bl, ← HMM.out]
      have e2:cU (F j++[o])=cU (F j)++[.int .i64 o.1,.int .i64 o.2.1]:=by
       unfold cU
       rw [DE]
       rfl
      rw [e2]
      exact hown4
    ·obtain rfl:j=n2:=by omega
     have hFe:F j=ZN b a i:=by
      rw [HFF.out]
      show (l2.take j).filter _=_
      rw [List.take_of_length_le (by rw [HN2.out];exact BJ _)]
      unfold ZN
      rw [←HL2.out]
      refine List.filter_congr fun o _=> ?_
      congr 1
      unfold FI
      rw [←HL.out, ← HS.out, ← HS2.out,DD]
      simp only [Ba,B5,DA,Dj]
     have HFE:=Lib.hid hFe
     clear hFe
     go_wp2_with fail
     go_ret
     have hz:=HSZ.out
     have hss:=HSS.out
     refine ⟨_,W8.heap.size,rfl,by omega, ?_, ?_⟩
     ·rw [←HFE.out]
      exact HOW.out
     ·rw [←hss]
      exact WJ HB8.out HBR.out (by omega)
end Go.Proofs.YtmjnnemhoeolgaaGreat.K
noncomputable section
namespace Go.Proofs.YtmjnnemhoeolgaaGreat.K
open Go.RowKit
noncomputable section
def Qbm:Ent:=Qk (.pr QE (.pr QE (.pr tI .nil))) (fun x=>(Qbg x.1 x.2.1 x.2.2.1)) (fun x=>(.t (.sl Qd) (ZN x.1 x.2.1 x.2.2.1)))
theorem Qqd:JZ Tryz.prog 32:= .inr ⟨by decide,_,Tryz.func32,by kernel_rfl,by kernel_rfl⟩
theorem Qqe {X:Nat->Nat->Prop}{w:World}{σ:Pl}: ∀ l:List Keep,Cs X w σ (l.flatMap Qd.cells) (cU l)
 | []=>rfl
 |x::l=>by
  show Cs X w σ (D.v (.int .i64 x.1)::D.v (.int .i64 x.2.1)::l.flatMap Qd.cells) (.int .i64 x.1:: .int .i64 x.2.1::cU l)
  simp only [Cs]
  exact ⟨_,_,rfl,⟨rfl,rfl⟩,_,_,rfl,⟨rfl,rfl⟩,Qqe l⟩
theorem own_c {X:Nat->Nat->Prop}{w:World}{σ:Pl}{B:Nat}{l:List Keep}{sv:Value}(h:w.ownsRow B 54 2 sv l.length (cU l))(hX: ∀ b q,X b q->b<B):C X w σ (V.t (.sl Qd) l).d sv:=by
 obtain ⟨h1,A,c,rfl,h2,h3,h4⟩:=Sl.of_own h
 have hlt:=h.lt
 show C X w σ (.sl l.length (l.flatMap Qd.cells)) _
 simp only [C]
 refine ⟨A,c,rfl,h2,h3,fun h0=> ?_,fun h0=> ?_⟩
 ·have:l=[]:=By h0
  rw [this]
  rfl
 ·obtain ⟨b,off,rfl,g1,g2⟩:=h4 h0
  refine ⟨b,off,cU l,rfl,Qqe l,g1,fun q _ hq=> ?_,fun j u hu=>g2 j u hu,Qxy l⟩
  have:=hX b _ hq
  have:=(hlt b rfl).1
  omega
theorem Qqf:Qz Tryz.prog 32 (Qy Qbm):=by
 unfold Qbm
 refine Qpo (fun x hok X w σ vs hfin hc=> ?_)
 obtain ⟨b,a,i,u⟩:=x
 obtain ⟨h1,h2⟩:=Bi.1 hok
 have hc:Cs X w σ [(V.t QE b).d,(V.t QE a).d,.v (.int .i64 i)] vs:=hc
 simp only [Cs] at hc
 obtain ⟨bv,r0,rfl,c0,av,r1,rfl,c1,iv,r2,rfl,c2,rfl⟩:=hc
 simp only [C] at c2
 obtain ⟨rfl,_⟩:=c2
 obtain ⟨u0,u1,u2,rfl,ou0,ou1,ou2⟩:=Qnm c0
 obtain ⟨t0,t1,t2,rfl,ot0,ot1,ot2⟩:=Qnm c1
 refine (QzE (i:=i) hfin c0 c1 ou0 ou1 ou2 ot0 ot1 ot2 h1 h2).mono ?_
 rintro en w' ⟨sv,B,rfl,hB,hown,hb⟩
 exact ⟨sv,rfl,own_c hown (fun b q hq=>BP (hfin b q hq) hB),hb⟩
end
end Go.Proofs.YtmjnnemhoeolgaaGreat.K
noncomputable section
namespace Go.Proofs.YtmjnnemhoeolgaaGreat.K
open Go.RowKit
noncomputable section
def XU (l:List Keep)(_:Keep):Bool:=decide (l.length<=100000)
def I6 (l:List Keep)(v:Keep):Int:=match QD (fun c=>v==c) l with|some k=>(k:Int)|none=> -1
abbrev Qb4:Sh:=⟨[(0,.ty (.sl Qd)),(3,.ptr 3 0),(7,.ty tI),(8,.ty tI)],[(3,.box Qd)]⟩
abbrev QrM:Sh:=⟨[(4,.ty tI)],[]⟩
abbrev QrN:Sh:=⟨[],[]⟩
def Qh8:Fg:=Qb4.f
def QrO:TC:=aF Tryz.f60 [(26,pL 0 Qh8),(421,.fg QrN.f),(3378,pD [(0,[3]),(1,[]),(2,[]),(3,[]),(4,[]),(5,[])] (.of [0,1,2,3,4,5])),(13517,.fg QrM.f)]
def QrP:TC:=lb 0 QrO
def QrQ (x0:List Keep)(x7 x8:Int)(y3:Keep):VS:=Qb4.st (x0,(),x7,x8,()) (y3,())
def Qh9 (x4:Int):VS:=QrM.st (x4,()) ()
def Qia  : VS:=QrN.st () ()
def QDX:VS->Option (Bool×List (Bool×Exit×VS)):=mkL Qb4 (fun x y=>(Qt x.1 x.2.2.1 x.2.2.2.1)) (fun x y=>[(((QD (fun c=>y.1==c) (x.1.drop x.2.2.2.1.toNat)).isSome),.ret,Qh9 (x.2.2.2.1+((QD (fun c=>y.1==c) (x.1.drop x.2.2.2.1.toNat)).getD 0:Nat))),(true,.exit 0,Qia)])
def Qib:G:=gG 19 [] (Ls [QDX])
def Qb5 (x0:List Keep)(x7 x8:Int)(y3:Keep):OX:=Qv (QB Qib Qh8 QrP) (QrQ x0 x7 x8 y3)
def I7 (kk:List Keep->Int->Int->Keep->OX)(x0:List Keep)(x7 x8:Int)(y3:Keep):OX:=
 let a1:=lgt Qd x0 (Int.toNat x8)
 br (ilt x8 x7) (br (cIx x0 x8) (br (and (ieq y3.1 (a1.1)) (and (ieq y3.2.1 ((a1.2).1)) true)) (some (.ret,Qh9 x8)) (kk x0 x7 (Qg .i64 x8 1) y3)) none) (some (.exit 0,Qia))
def Qb6 (x0:List Keep)(x7 x8:Int)(y3:Keep):OX:=br ((QD (fun c=>y3==c) (x0.drop x8.toNat)).isSome) (some (.ret,Qh9 (x8+((QD (fun c=>y3==c) (x0.drop x8.toNat)).getD 0:Nat))))<|some (.exit 0,Qia)
theorem QrR (x0:List Keep)(x7 x8:Int)(y3:Keep):Qb5 x0 x7 x8 y3=I7 Qb5 x0 x7 x8 y3:=lnT (x:=I7 (fun x0 x7 x8 y3=>some (.normal,QrQ x0 x7 x8 y3)) x0 x7 x8 y3) (by simp only [I7,nxA];rfl)
def r_f60 (p0:List Keep)(p1:Keep):OV:=
 let a1:=(p0.drop (0:Int).toNat)
 br (Qt p0 (Qa p0) (0:Int)) (br ((QD (fun c=>p1==c) a1).isSome) (some (.t tI ((0:Int)+((QD (fun c=>p1==c) a1).getD 0:Nat)),[])) (some (.t tI (-1),[]))) none
theorem QDY (x0:List Keep)(x7 x8:Int)(y3:Keep)(h:(Qt x0 x7 x8)=true):Qb5 x0 x7 x8 y3=Qb6 x0 x7 x8 y3:=by
 obtain ⟨rfl,h3,k,rfl,hk⟩:=Jy h
 clear h
 refine QR x0 (fun k=>Qb5 x0 (x0.length:Int) (k:Int) y3=Qb6 x0 (x0.length:Int) (k:Int) y3) ?_ ?_ k hk
 ·rw [QrR]
  simp [I7,Qb6,QC,Qf,QD]
 ·intro k hk ih
  rw [QrR]
  have hq:(and (ieq y3.1 x0[k].1) (and (ieq y3.2.1 x0[k].2.1) true))=(y3==x0[k]):=rfl
  simp only [I7,QC,QI,hk,Bv,Qc,Bd,QQ (show k<4611686018427387904 by omega),ih,QP (y:=Qd) hk]
  rw [hq]
  simp only [Qb6,Bd,Bj hk,QD]
  cases h:(y3==x0[k]) with
  |true=>simp [Qc]
  |false=>
   simp only [Qf,BK,Do]
   cases hq:QD (fun c=>y3==c) (x0.drop (k+1)) with
   |none=>rfl
   |some j=>
    simp only [B0,B8,BI,Qc]
    congr 3
    omega
theorem QDZ:LO Qib Qh8 QrP 0:=QH (s:=Qb4) fun x y h _ q=>by simp only [QF,QG] at q;exact (QDY x.1 x.2.2.1 x.2.2.2.1 y.1 h).trans q
theorem s_f60 (l:List Keep)(v:Keep)(h:XU l v=true):r_f60 l v=some (.t tI (I6 l v),[]):=by
 have hl:l.length<=100000:=Bx h
 simp only [r_f60,Jz hl,Qc,Bu,BA,I6]
 cases QD (fun c=>v==c) l<;>simp [Qc,Qf]
def QrS:Ent:=Qk (.pr (.sl Qd) (.pr Qd .nil)) (fun x=>(XU x.1 x.2.1)) (fun x=>(.t tI (I6 x.1 x.2.1)))
theorem ms_f60:EM 60 QrS:=mS (lk:=lkL (lkc QDZ lkn)) Qib QrO [((.t 4),some tI)] false (gB gN) fun m=>Qm m fun x hok=>kT (s_f60 x.1 x.2.1 hok)
def ZR (l:List Keep)(v:Keep):Bool:=l.any fun c=>v==c
def tc_f34:TC:=aF Tryz.f34 []
def g_f34:G:=gG 9 [(60,QrS)] (fun _ _=>none)
def r_f34 (p0:List Keep)(p1:Keep):OV:=br (XU p0 p1) (some (.t .bool (ige (I6 p0 p1) 0),[])) none
theorem QrT (p:Keep->Bool)(l:List Keep):ige (match QD p l with|some k=>(k:Int)|none=> -1) 0=l.any p:=by
 rw [←QbT]
 cases QD p l with
 |none=>rfl
 |some k=>
  simp only [ige,B8,Ba]
  omega
theorem s_f34 (l:List Keep)(v:Keep)(h:XU l v=true):r_f34 l v=some (.t .bool (ZR l v),[]):=by
 unfold r_f34
 refine brY h ?_
 rw [show ige (I6 l v) 0=ZR l v from QrT _ l]
def QrU:Ent:=Qk (.pr (.sl Qd) (.pr Qd .nil)) (fun x=>(XU x.1 x.2.1)) (fun x=>(.t .bool (ZR x.1 x.2.1)))
theorem ms_f34:EM 34 QrU:=mS g_f34 tc_f34 [((.t 4),some .bool)] false (gB (gD ms_f60 gN)) fun m=>Qm m fun x hok=>kT (s_f34 x.1 x.2.1 hok)
def inO (o:Keep)(d:List Keep):Bool:=ZR d o
def Qb7 (_:Keep)(d:List Keep):Bool:=decide (d.length<=100000)
def tc_f33:TC:=aF Tryz.f33 []
def g_f33:G:=gG 7 [(34,QrU)] (fun _ _=>none)
def r_f33 (p0:Keep)(d0:List Keep):OV:=br (XU d0 p0) (some (.t .bool (ZR d0 p0),[.box (.t (.sl Qd) d0)])) none
theorem s_f33 (o:Keep)(d:List Keep)(h:Qb7 o d=true):r_f33 o d=some (.t .bool (inO o d),[.box (.t (.sl Qd) d)]):=brY h rfl
def QrV:Ent:=Fi [.ty Qd,.ptr 50000 0] [(.sl Qd)] (fun x d=>(Qb7 x.1 d.1)) (fun x d=>(.t .bool (inO x.1 d.1)))
theorem ms_f33:EM 33 QrV:=mS g_f33 tc_f33 [((.t 3),some .bool)] false (gB (gD ms_f34 gN)) fun m=>Ih (ZC m fun x d hok=>kT (s_f33 x.1 d.1 hok))
def okS (l d:List Keep):Bool:=decide (l.length<=100000/\d.length<=100000)
def ixS (l d:List Keep):Int:=match QD (fun c=>inO c d) l with|some k=>(k:Int)|none=> -1
abbrev Qb8:Sh:=⟨[(0,.ty (.sl Qd)),(1,.fn 33 [(50000,0)]),(7,.ty tI),(8,.ty tI)],[(50000,.box (.sl Qd))]⟩
abbrev QrW:Sh:=⟨[(4,.ty tI)],[(50000,.box (.sl Qd))]⟩
abbrev QrX:Sh:=⟨[],[(50000,.box (.sl Qd))]⟩
def Qic:Fg:=Qb8.f
def QrY:TC:=aF Tryz.f58 [(26,pL 0 Qic),(421,.fg QrX.f),(13517,.fg QrW.f)]
def QrZ:TC:=lb 0 QrY
def Qr0 (x0:List Keep)(x7 x8:Int)(Qb:List Keep):VS:=Qb8.st (x0,(),x7,x8,()) (Qb,())
def Qid (x4:Int)(Qb:List Keep):VS:=QrW.st (x4,()) (Qb,())
def Qie (Qb:List Keep):VS:=QrX.st () (Qb,())
def QD0:VS->Option (Bool×List (Bool×Exit×VS)):=mkL Qb8 (fun x y=>(Qt x.1 x.2.2.1 x.2.2.2.1&&okS x.1 y.1)) (fun x y=>[(((QD (fun c=>inO c y.1) (x.1.drop x.2.2.2.1.toNat)).isSome),.ret,Qid (x.2.2.2.1+((QD (fun c=>inO c y.1) (x.1.drop x.2.2.2.1.toNat)).getD 0:Nat)) (y.1)),(true,.exit 0,Qie (y.1))])
def Qif:G:=gG 19 [(33,QrV)] (Ls [QD0])
def Qb9 (x0:List Keep)(x7 x8:Int)(Qb:List Keep):OX:=Qv (QB Qif Qic QrZ) (Qr0 x0 x7 x8 Qb)
def I8 (kk:List Keep->Int->Int->List Keep->OX)(x0:List Keep)(x7 x8:Int)(Qb:List Keep):OX:=
 let a1:=lgt Qd x0 (Int.toNat x8)
 br (ilt x8 x7) (br (cIx x0 x8) (br (Qb7 a1 Qb) (br (inO a1 Qb) (some (.ret,Qid x8 Qb)) (kk x0 x7 (Qg .i64 x8 1) Qb)) none) none) (some (.exit 0,Qie Qb))
def Qca (x0:List Keep)(x7 x8:Int)(Qb:List Keep):OX:=br ((QD (fun c=>inO c Qb) (x0.drop x8.toNat)).isSome) (some (.ret,Qid (x8+((QD (fun c=>inO c Qb) (x0.drop x8.toNat)).getD 0:Nat)) (Qb)))<|some (.exit 0,Qie (Qb))
theorem Qr1 (x0:List Keep)(x7 x8:Int)(Qb:List Keep):Qb9 x0 x7 x8 Qb=I8 Qb9 x0 x7 x8 Qb:=lnT (x:=I8 (fun x0 x7 x8 Qb=>some (.normal,Qr0 x0 x7 x8 Qb)) x0 x7 x8 Qb) (by simp only [I8,nxA];rfl)
def Qr2 (p0 d0:List Keep):OV:=
 let a1:=(p0.drop (0:Int).toNat)
 br (Qt p0 (Qa p0) (0:Int)&&okS p0 d0) (br ((QD (fun c=>inO c d0) a1).isSome) (some (.t tI ((0:Int)+((QD (fun c=>inO c d0) a1).getD 0:Nat)),[.box (.t (.sl Qd) (d0))])) (some (.t tI (-1),[.box (.t (.sl Qd) (d0))]))) none
theorem QD1 (x0:List Keep)(x7 x8:Int)(Qb:List Keep)(h:(Qt x0 x7 x8&&okS x0 Qb)=true):Qb9 x0 x7 x8 Qb=Qca x0 x7 x8 Qb:=by
 simp only [Bc] at h
 obtain ⟨h0,hc⟩:=h
 have hd:Qb.length<=100000:=(Bx hc).2
 obtain ⟨rfl,h3,k,rfl,hk⟩:=Jy h0
 clear h0
 refine QR x0 (fun k=>Qb9 x0 (x0.length:Int) (k:Int) Qb=Qca x0 (x0.length:Int) (k:Int) Qb) ?_ ?_ k hk
 ·rw [Qr1]
  simp [I8,Qca,QC,Qf,QD]
 ·intro k hk ih
  rw [Qr1]
  have e1: ∀ o,Qb7 o Qb=true:=fun _=>Be hd
  simp only [I8,QC,QI,hk,Bv,Qc,Bd,QQ (show k<4611686018427387904 by omega),ih,QP (y:=Qd) hk,e1]
  simp only [Qca,Bd,Bj hk,QD]
  cases h:(inO x0[k] Qb) with
  |true=>simp [Qc]
  |false=>
   simp only [Qf,BK,Do]
   cases hq:QD (fun c=>inO c Qb) (x0.drop (k+1)) with
   |none=>rfl
   |some j=>
    simp only [B0,B8,BI,Qc]
    congr 3
    omega
theorem QD2:LO Qif Qic QrZ 0:=QH (s:=Qb8) fun x y h _ q=>by simp only [QF,QG] at q;exact (QD1 x.1 x.2.2.1 x.2.2.2.1 y.1 h).trans q
theorem QD3 (l d:List Keep)(h:okS l d=true):Qr2 l d=some (.t tI (ixS l d),[.box (.t (.sl Qd) d)]):=by
 have hl:l.length<=100000:=(Bx h).1
 simp only [Qr2,Jz hl,h,B3,Qc,Bu,BA,ixS]
 cases QD (fun c=>inO c d) l<;>simp [Qc,Qf]
def Qr3:Ent:=Fi [.ty (.sl Qd),.fn 33 [(50000,0)]] [(.sl Qd)] (fun x d=>(okS x.1 d.1)) (fun x d=>(.t tI (ixS x.1 d.1)))
theorem QD4:EM 58 Qr3:=mS (lk:=lkL (lkc QD2 lkn)) Qif QrY [((.t 4),some tI)] false (gB (gD ms_f33 gN)) fun m=>Ih (ZC m fun x d hok=>kT (QD3 x.1 d.1 hok))
def F3 (l d:List Keep):Bool:=l.any fun c=>inO c d
def QD5:TC:=aF Tryz.f31 []
def QD6:G:=gG 9 [(58,Qr3)] (fun _ _=>none)
def Qr4 (p0 d0:List Keep):OV:=br (okS p0 d0) (some (.t .bool (ige (ixS p0 d0) 0),[.box (.t (.sl Qd) d0)])) none
theorem QD7 (l d:List Keep)(h:okS l d=true):Qr4 l d=some (.t .bool (F3 l d),[.box (.t (.sl Qd) d)]):=by
 unfold Qr4
 refine brY h ?_
 rw [show ige (ixS l d) 0=F3 l d from QrT _ l]
def Qr5:Ent:=Fi [.ty (.sl Qd),.fn 33 [(50000,0)]] [(.sl Qd)] (fun x d=>(okS x.1 d.1)) (fun x d=>(.t .bool (F3 x.1 d.1)))
theorem QD8:EM 31 Qr5:=mS QD6 QD5 [((.t 4),some .bool)] false (gB (gD QD4 gN)) fun m=>Ih (ZC m fun x d hok=>kT (QD7 x.1 d.1 hok))
def Yo (b a:Estate)(i:Int):List Keep×Int:=bif ine (Z4 b a) 0 then ([],Z4 b a) else bif ilt i 0||ige i (Qa b.2.1) then ([],4) else (ZN b a i,0)
def Qcb (b a:Estate)(_i:Int):Bool:=Gy b a
def tc_f16:TC:=aF Tryz.f16 []
def g_f16:G:=gG 28 [(30,Qj3),(32,Qbm)] (fun _ _=>none)
def r_f16 (p0 p1:Estate)(p2:Int):OV:=br (Gy p0 p1) (br (ine (Z4 p0 p1) 0) (some (.tu [(.t (.sl Qd) ([]:List Keep)),(.t tI (Z4 p0 p1))],[])) (br (ilt p2 0) (some (.tu [(.t (.sl Qd) ([]:List Keep)),(.t tI 4)],[])) (br (ige p2 (Qa p0.2.1)) (some (.tu [(.t (.sl Qd) ([]:List Keep)),(.t tI 4)],[])) (br (Qbg p0 p1 p2) (some (.tu [(.t (.sl Qd) (ZN p0 p1 p2)),(.t tI 0)],[])) none)))) none
theorem s_f16 (b a:Estate)(i:Int)(h:Qcb b a i=true):r_f16 b a i=some (.tu [.t (.sl Qd) (Yo b a i).1,.t tI (Yo b a i).2],[]):=by
 obtain ⟨l1,l2⟩:=Bi.1 h
 unfold r_f16 Yo
 refine brY h ?_
 cases hb:ine (Z4 b a) 0 with
 |true=>rfl
 |false=>
  obtain ⟨o1,o2,he⟩:=QuZ hb
  rw [Qf]
  cases h3:ilt i 0 with
  |true=>rfl
  |false=>
   rw [Qf]
   cases h4:ige i (Qa b.2.1) with
   |true=>rfl
   |false=>
    rw [Qf]
    have h3:=DB h3
    have h4:=DB h4
    simp only [Qa] at h4
    exact brY (Bi.2 ⟨Es o1 l1 (by omega) (by omega),Es o2 l2 (by omega) (by rw [←he];omega)⟩) rfl
def Qr6:Ent:=Qk (.pr QE (.pr QE (.pr tI .nil))) (fun x=>(Qcb x.1 x.2.1 x.2.2.1)) (fun x=>(.tu [(.t (.sl Qd) ((Yo x.1 x.2.1 x.2.2.1).1)),(.t tI ((Yo x.1 x.2.1 x.2.2.1).2))]))
theorem ms_f16:EM 16 Qr6:=mS g_f16 tc_f16 [((.t 6),some (.sl Qd)),((.t 7),some tI)] false (gB (gD Qu0 (gC Qqd Qqf gN))) fun m=>Qm m fun x hok=>kT (s_f16 x.1 x.2.1 x.2.2.1 hok)
def J9 (f:Int->Bool):Nat->Int->List Int
 |0,_=>[]
 |k+1,i=>bif f i then i::J9 f k (i+1) else J9 f k (i+1)
def stB (r:Rules)(b a:Estate)(i:Int):Bool:=F3 (ZN b a i) (YN r a i)
def F4 (n i:Int)(b a:Estate)(r:Rules)(out:List Int):Bool:=
 JO b&&(Jv b&&(JO a&&(Jv a&&(Yt r&&decide (0<=i/\i<=n/\n=b.2.1.length/\n=a.2.1.length/\(out.length:Int)<=i)))))
def Zq (b a:Estate)(y:Policy)(l:List Exception)(o:Dice)(d:Int):List Int×Int:=
 bif ine (Z4 b a) 0 then ([],Z4 b a) else bif ine (J3 (rl y l o d)) 0 then ([],J3 (rl y l o d)) else (J9 (stB (rl y l o d) b a) b.2.1.length 0,0)
def Gr (b a:Estate)(y:Policy)(l:List Exception)(o:Dice)(d:Int):Bool:=Gy b a&&Yt (rl y l o d)
abbrev Qcc:Sh:=⟨[(6,.ptr 6 0),(7,.ptr 7 0),(14,.ptr 14 0),(17,.ms 17),(38,.ty tI),(39,.ty tI)],[(6,.box QE),(7,.box QE),(14,.box GB),(17,.arr 3 tI),(55,.no)]⟩
abbrev Qr7:Sh:=⟨[(17,.ms 17)],[(17,.arr 3 tI),(55,.no)]⟩
def Qig:Fg:=Qcc.f
def Qr8:TC:=aF Tryz.f14 [(506,.nw 17 3),(506,pL 0 Qig),(8101,.fg Qr7.f)]
def Qr9:TC:=lb 0 Qr8
def Qsa (x38 x39:Int)(y6 y7:Estate)(y14:Rules)(y17:List Int):VS:=Qcc.st ((),(),(),(),x38,x39,()) (y6,y7,y14,y17,(),())
def Qih (y17:List Int):VS:=Qr7.st ((),()) (y17,(),())
def QD9:VS->Option (Bool×List (Bool×Exit×VS)):=mkL Qcc (fun x y=>(F4 x.2.2.2.2.1 x.2.2.2.2.2.1 y.1 y.2.1 y.2.2.1 y.2.2.2.1)) (fun x y=>[(true,.exit 0,Qih (y.2.2.2.1++J9 (stB y.2.2.1 y.1 y.2.1) (x.2.2.2.2.1-x.2.2.2.2.2.1).toNat x.2.2.2.2.2.1))])
def Qii:G:=gG 58 [(28,Qdr),(29,Qdv),(30,Qj3),(31,Qr5),(32,Qbm)] (Ls [QD9])
def Qij (x38 x39:Int)(y6 y7:Estate)(y14:Rules)(y17:List Int):OX:=Qv (QB Qii Qig Qr9) (Qsa x38 x39 y6 y7 y14 y17)
def I9 (kk:Int->Int->Estate->Estate->Rules->List Int->OX)(x38 x39:Int)(y6 y7:Estate)(y14:Rules)(y17:List Int):OX:=br (ilt x39 x38) (br (UG y14 y7 x39) (br (Qbg y6 y7 x39) (br (okS (ZN y6 y7 x39) (YN y14 y7 x39)) (br (F3 (ZN y6 y7 x39) (YN y14 y7 x39)) (br (QJ y17 ([x39]) 8) (kk x38 (Qg .i64 x39 1) y6 y7 y14 (y17++([x39]))) none) (kk x38 (Qg .i64 x39 1) y6 y7 y14 y17)) none) none) none) (some (.exit 0,Qih y17))
def Qik (x38 x39:Int)(y6 y7:Estate)(y14:Rules)(y17:List Int):OX:=some (.exit 0,Qih (y17++J9 (stB y14 y6 y7) (x38-x39).toNat x39))
theorem Qsb (x38 x39:Int)(y6 y7:Estate)(y14:Rules)(y17:List Int):Qij x38 x39 y6 y7 y14 y17=I9 Qij x38 x39 y6 y7 y14 y17:=lnT (x:=I9 (fun x38 x39 y6 y7 y14 y17=>some (.normal,Qsa x38 x39 y6 y7 y14 y17)) x38 x39 y6 y7 y14 y17) (by simp only [I9,nxA];rfl)
def r_f14 (p0 p1:Estate)(p2:Policy)(p3:List Exception)(p4:Dice)(p5:Int):OV:=
 let a1:=((p2.1,(p2.2.1,())),(p3,((p4.1,(p4.2.1,())),(p5,()))))
 br (Gy p0 p1) (br (ine (Z4 p0 p1) 0) (some (.tu [(.t (.sl tI) ([]:List Int)),(.t tI (Z4 p0 p1))],[])) (br (Yt a1) (br (ine (J3 a1) 0) (some (.tu [(.t (.sl tI) ([]:List Int)),(.t tI (J3 a1))],[])) (br (F4 (Qa p0.2.1) (0:Int) p0 p1 a1 ([]:List Int)) (some (.tu [(.t (.sl tI) (([]:List Int)++J9 (stB a1 p0 p1) ((Qa p0.2.1)-(0:Int)).toNat (0:Int))),(.t tI 0)],[])) none)) none)) none
theorem QEa (x38 x39:Int)(y6 y7:Estate)(y14:Rules)(y17:List Int)(h:(F4 x38 x39 y6 y7 y14 y17)=true):Qij x38 x39 y6 y7 y14 y17=Qik x38 x39 y6 y7 y14 y17:=by
 simp only [F4,Bc,Ba] at h
 obtain ⟨a1,a2,b1,b2,hr,h0,h1,h2,h3,h4⟩:=h
 have hle:y6.2.1.length<=40:=(UW a1).2.2.2.2.2
 obtain ⟨m,hm⟩: ∃ m:Nat,(x38-x39).toNat=m:=⟨_,rfl⟩
 induction m generalizing x39 y17 with
 |zero=>
  have:ilt x39 x38=false:=Bn (by omega)
  rw [Qsb]
  simp only [I9,Qik,this,Qf,hm,J9,BO]
 |succ m ih=>
  have e0:ilt x39 x38=true:=Be (by omega)
  have e1:Qg .i64 x39 1=x39+1:=J5 (by omega)
  have p1:YM y6 x39=true:=Es a1 a2 h0 (by omega)
  have p2:YM y7 x39=true:=Es b1 b2 h0 (by omega)
  have e2:UG y14 y7 x39=true:=Bi.2 ⟨hr,p2⟩
  have e3:Qbg y6 y7 x39=true:=Bi.2 ⟨p1,p2⟩
  have l1:=Qp0 y6 y7 x39
  have l2:=QHn y14 y7 x39
  have e4:okS (ZN y6 y7 x39) (YN y14 y7 x39)=true:=Be ⟨by omega,by omega⟩
  have e5:QJ y17 [x39] 8=true:=Ji (by decide) (by simp only [Bp];omega)
  have e6:(x38-(x39+1)).toNat=m:=by omega
  rw [Qsb]
  simp only [I9,e0,e1,e2,e3,e4,e5,Qc]
  rw [ih (x39+1) (y17++[x39]) (by omega) (by omega) (by simp only [Bl,Bp];omega) (by omega),ih (x39+1) y17 (by omega) (by omega) (by omega) (by omega)]
  simp only [Qik,hm,e6,J9]
  show br (stB y14 y6 y7 x39) _ _=_
  cases stB y14 y6 y7 x39 with
  |true=>simp only [Qc,Dl,BR,BN]
  |false=>simp only [Qf,Di]
theorem QEb:LO Qii Qig Qr9 0:=QH (s:=Qcc) fun x y h _ q=>by simp only [QF,QG] at q;exact (QEa x.2.2.2.2.1 x.2.2.2.2.2.1 y.1 y.2.1 y.2.2.1 y.2.2.2.1 h).trans q
theorem s_f14 (b a:Estate)(y:Policy)(l:List Exception)(o:Dice)(d:Int)(h:Gr b a y l o d=true):r_f14 b a y l o d=some (.tu [.t (.sl tI) (Zq b a y l o d).1,.t tI (Zq b a y l o d).2],[]):=by
 obtain ⟨h1,h2⟩:=Bi.1 h
 obtain ⟨l1,l2⟩:=Bi.1 h1
 unfold r_f14 Zq
 refine brY h1 ?_
 cases hb:ine (Z4 b a) 0 with
 |true=>rfl
 |false=>
  obtain ⟨o1,o2,he⟩:=QuZ hb
  rw [Qf]
  refine brY (show Yt (rl y l o d)=true from h2) ?_
  show br (ine (J3 (rl y l o d)) 0) (some (V.tu [V.t (.sl tI) ([]:List Int),V.t tI (J3 (rl y l o d))],[])) (br (F4 (Qa b.2.1) 0 b a (rl y l o d) []) (some (V.tu [V.t (.sl tI) ([]++J9 (stB (rl y l o d) b a) ((Qa b.2.1)-0).toNat 0),V.t tI 0],[])) none)=_
  cases ine (J3 (rl y l o d)) 0 with
  |true=>rfl
  |false=>
   rw [Qf]
   have e:((Qa b.2.1)-0).toNat=b.2.1.length:=by simp only [Qa];omega
   refine brY ?_ ?_
   ·unfold F4
    rw [o1,o2,l1,l2,h2]
    exact Be ⟨BX 0,by simp only [Qa];omega,rfl,by rw [←he],by simp⟩
   ·rw [e,BT]
    rfl
def Qil:Ent:=Qk (.pr QE (.pr QE (.pr YO (.pr (.sl Za) (.pr Q1 (.pr tI .nil)))))) (fun x=>(Gr x.1 x.2.1 x.2.2.1 x.2.2.2.1 x.2.2.2.2.1 x.2.2.2.2.2.1)) (fun x=>(.tu [(.t (.sl tI) ((Zq x.1 x.2.1 x.2.2.1 x.2.2.2.1 x.2.2.2.2.1 x.2.2.2.2.2.1).1)),(.t tI ((Zq x.1 x.2.1 x.2.2.1 x.2.2.2.1 x.2.2.2.2.1 x.2.2.2.2.2.1).2))]))
theorem Qsc:EM 14 Qil:=mS (lk:=lkL (lkc QEb lkn)) Qii Qr8 [((.t 12),some (.sl tI)),((.t 13),some tI)] false (gB (gD QjX (gD Qj1 (gD Qu0 (gD QD8 (gC Qqd Qqf gN)))))) fun m=>Qm m fun x hok=>kT (s_f14 x.1 x.2.1 x.2.2.1 x.2.2.2.1 x.2.2.2.2.1 x.2.2.2.2.2.1 hok)
def clB (r:Rules)(e:Estate)(i:Int):Bool:=ieq (Qa (YN r e i)) 0
def F5 (n i:Int)(e:Estate)(r:Rules)(out:List Int):Bool:=JO e&&(Jv e&&(Yt r&&decide (0<=i/\i<=n/\n=e.2.1.length/\(out.length:Int)<=i)))
def F6 (e:Estate)(y:Policy)(l:List Exception)(o:Dice)(d:Int):List Int×Int:=
 bif !JO e then ([],31) else bif ine (J3 (rl y l o d)) 0 then ([],J3 (rl y l o d)) else (J9 (clB (rl y l o d) e) e.2.1.length 0,0)
def Qim (e:Estate)(y:Policy)(l:List Exception)(o:Dice)(d:Int):Bool:=Jv e&&Yt (rl y l o d)
abbrev Qcd:Sh:=⟨[(5,.ptr 5 0),(12,.ptr 12 0),(14,.ms 14),(31,.ty tI),(32,.ty tI)],[(5,.box QE),(12,.box GB),(14,.arr 3 tI),(44,.no)]⟩
abbrev Qsd:Sh:=⟨[(14,.ms 14)],[(14,.arr 3 tI),(44,.no)]⟩
def Qin:Fg:=Qcd.f
def Qse:TC:=aF Tryz.f13 [(506,.nw 14 3),(506,pL 0 Qin),(8101,.fg Qsd.f)]
def Qsf:TC:=lb 0 Qse
def Qsg (x31 x32:Int)(y5:Estate)(y12:Rules)(y14:List Int):VS:=Qcd.st ((),(),(),x31,x32,()) (y5,y12,y14,(),())
def Qio (y14:List Int):VS:=Qsd.st ((),()) (y14,(),())
def QEc:VS->Option (Bool×List (Bool×Exit×VS)):=mkL Qcd (fun x y=>(F5 x.2.2.2.1 x.2.2.2.2.1 y.1 y.2.1 y.2.2.1)) (fun x y=>[(true,.exit 0,Qio (y.2.2.1++J9 (clB y.2.1 y.1) (x.2.2.2.1-x.2.2.2.2.1).toNat x.2.2.2.2.1))])
def Qip:G:=gG 47 [(27,QeT),(28,Qdr),(29,Qdv)] (Ls [QEc])
def Qiq (x31 x32:Int)(y5:Estate)(y12:Rules)(y14:List Int):OX:=Qv (QB Qip Qin Qsf) (Qsg x31 x32 y5 y12 y14)
def Oa (kk:Int->Int->Estate->Rules->List Int->OX)(x31 x32:Int)(y5:Estate)(y12:Rules)(y14:List Int):OX:=br (ilt x32 x31) (br (UG y12 y5 x32) (br (ieq (Qa (YN y12 y5 x32)) 0) (br (QJ y14 ([x32]) 8) (kk x31 (Qg .i64 x32 1) y5 y12 (y14++([x32]))) none) (kk x31 (Qg .i64 x32 1) y5 y12 y14)) none) (some (.exit 0,Qio y14))
def Qir (x31 x32:Int)(y5:Estate)(y12:Rules)(y14:List Int):OX:=some (.exit 0,Qio (y14++J9 (clB y12 y5) (x31-x32).toNat x32))
theorem Qsh (x31 x32:Int)(y5:Estate)(y12:Rules)(y14:List Int):Qiq x31 x32 y5 y12 y14=Oa Qiq x31 x32 y5 y12 y14:=lnT (x:=Oa (fun x31 x32 y5 y12 y14=>some (.normal,Qsg x31 x32 y5 y12 y14)) x31 x32 y5 y12 y14) (by simp only [Oa,nxA];rfl)
def r_f13 (p0:Estate)(p1:Policy)(p2:List Exception)(p3:Dice)(p4:Int):OV:=
 let a1:=((p1.1,(p1.2.1,())),(p2,((p3.1,(p3.2.1,())),(p4,()))))
 br (Jv p0) (br (ine (Z9 p0) 0) (some (.tu [(.t (.sl tI) ([]:List Int)),(.t tI 31)],[])) (br (Yt a1) (br (ine (J3 a1) 0) (some (.tu [(.t (.sl tI) ([]:List Int)),(.t tI (J3 a1))],[])) (br (F5 (Qa p0.2.1) (0:Int) p0 a1 ([]:List Int)) (some (.tu [(.t (.sl tI) (([]:List Int)++J9 (clB a1 p0) ((Qa p0.2.1)-(0:Int)).toNat (0:Int))),(.t tI 0)],[])) none)) none)) none
theorem QEd (x31 x32:Int)(y5:Estate)(y12:Rules)(y14:List Int)(h:(F5 x31 x32 y5 y12 y14)=true):Qiq x31 x32 y5 y12 y14=Qir x31 x32 y5 y12 y14:=by
 simp only [F5,Bc,Ba] at h
 obtain ⟨a1,a2,hr,h0,h1,h2,h4⟩:=h
 have hle:y5.2.1.length<=40:=(UW a1).2.2.2.2.2
 obtain ⟨m,hm⟩: ∃ m:Nat,(x31-x32).toNat=m:=⟨_,rfl⟩
 induction m generalizing x32 y14 with
 |zero=>
  have:ilt x32 x31=false:=Bn (by omega)
  rw [Qsh]
  simp only [Oa,Qir,this,Qf,hm,J9,BO]
 |succ m ih=>
  have e0:ilt x32 x31=true:=Be (by omega)
  have e1:Qg .i64 x32 1=x32+1:=J5 (by omega)
  have e2:UG y12 y5 x32=true:=Bi.2 ⟨hr,Es a1 a2 h0 (by omega)⟩
  have e5:QJ y14 [x32] 8=true:=Ji (by decide) (by simp only [Bp];omega)
  have e6:(x31-(x32+1)).toNat=m:=by omega
  rw [Qsh]
  simp only [Oa,e0,e1,e2,e5,Qc]
  rw [ih (x32+1) (y14++[x32]) (by omega) (by omega) (by simp only [Bl,Bp];omega) (by omega),ih (x32+1) y14 (by omega) (by omega) (by omega) (by omega)]
  simp only [Qir,hm,e6,J9]
  show br (clB y12 y5 x32) _ _=_
  cases clB y12 y5 x32 with
  |true=>simp only [Qc,Dl,BR,BN]
  |false=>simp only [Qf,Di]
theorem QEe:LO Qip Qin Qsf 0:=QH (s:=Qcd) fun x y h _ q=>by simp only [QF,QG] at q;exact (QEd x.2.2.2.1 x.2.2.2.2.1 y.1 y.2.1 y.2.2.1 h).trans q
theorem s_f13 (e:Estate)(y:Policy)(l:List Exception)(o:Dice)(d:Int)(h:Qim e y l o d=true):r_f13 e y l o d=some (.tu [.t (.sl tI) (F6 e y l o d).1,.t tI (F6 e y l o d).2],[]):=by
 obtain ⟨h1,h2⟩:=Bi.1 h
 unfold r_f13 F6
 refine brY h1 ?_
 rw [ER]
 cases ho:JO e with
 |false=>rfl
 |true=>
  rw [BG,Qf]
  refine brY (show Yt (rl y l o d)=true from h2) ?_
  show br (ine (J3 (rl y l o d)) 0) (some (V.tu [V.t (.sl tI) ([]:List Int),V.t tI (J3 (rl y l o d))],[])) (br (F5 (Qa e.2.1) 0 e (rl y l o d) []) (some (V.tu [V.t (.sl tI) ([]++J9 (clB (rl y l o d) e) ((Qa e.2.1)-0).toNat 0),V.t tI 0],[])) none)=_
  cases ine (J3 (rl y l o d)) 0 with
  |true=>rfl
  |false=>
   rw [Qf]
   have e:((Qa e.2.1)-0).toNat=e.2.1.length:=by simp only [Qa];omega
   refine brY ?_ ?_
   ·unfold F5
    rw [ho,h1,h2]
    exact Be ⟨BX 0,by simp only [Qa];omega,rfl,by simp⟩
   ·rw [e,BT]
    rfl
def Qsi:Ent:=Qk (.pr QE (.pr YO (.pr (.sl Za) (.pr Q1 (.pr tI .nil))))) (fun x=>(Qim x.1 x.2.1 x.2.2.1 x.2.2.2.1 x.2.2.2.2.1)) (fun x=>(.tu [(.t (.sl tI) ((F6 x.1 x.2.1 x.2.2.1 x.2.2.2.1 x.2.2.2.2.1).1)),(.t tI ((F6 x.1 x.2.1 x.2.2.1 x.2.2.2.1 x.2.2.2.2.1).2))]))
theorem ms_f13:EM 13 Qsi:=mS (lk:=lkL (lkc QEe lkn)) Qip Qse [((.t 10),some (.sl tI)),((.t 11),some tI)] false (gB (gD QlN (gD QjX (gD Qj1 gN)))) fun m=>Qm m fun x hok=>kT (s_f13 x.1 x.2.1 x.2.2.1 x.2.2.2.1 x.2.2.2.2.1 hok)
end
end Go.Proofs.YtmjnnemhoeolgaaGreat.K
noncomputable section
namespace Go.Proofs.YtmjnnemhoeolgaaGreat.K.PE
open Go.RowKit
noncomputable section
def wkV (d:Dice):Policy:=([(false,(dof d [14,16,2,12],(0,(0,(dof (QM d [14,16,2,12]) [0,5,100],(40001,()))))))],([],()))
theorem wk_check (d:Dice):XL (wkV d)=0:=by
 have h1:=Id (d:=d) (l:=[14,16,2,12]) (by decide)
 have h2:=Id (d:=QM d [14,16,2,12]) (l:=[0,5,100]) (by decide)
 unfold wkV
 generalize dof d [14,16,2,12]=a at h1
 generalize dof (QM d [14,16,2,12]) [0,5,100]=b at h2
 have g1:0<=a/\a<=22:=by
  simp only [BY,Dk,or_false] at h1
  omega
 have g2:0<=b/\b<=100:=by
  simp only [BY,Dk,or_false] at h2
  omega
 have hr:WI (false,(a,(0,(0,(b,(40001,()))))))=true:=Be ⟨g1.1,g1.2,BX 0,(by decide:(0:Int)<=16384),BX 0,(by decide:(0:Int)<=4),g2.1,(show b<40001 by omega),BX 40001⟩
 have hp:FH ([(false,(a,(0,(0,(b,(40001,()))))))],([],()))=true:=by
  unfold FH
  rw [BU,hr]
  rfl
 unfold XL
 rw [if_pos hp]
def IU:Bool:=true
def tc_f8:TC:=aF Tryz.f8 []
def rv_f8:List (RV×Option Ty):=[((.t 0),some .bool)]
def g_f8:G:=gG 44 [(13,Qsi),(14,Qil),(15,QuY)] (fun _ _=>none)
def r_f8  : OV:=
 let a1:=(F6 (([]:List Endpoint),(([]:List Keep),(([]:List Item),()))) (([]:List Rule),(([]:List Keep),())) ([]:List Exception) (([]:List Int),(0,())) 0)
 br (Qj2 (([]:List Endpoint),(([]:List Keep),(([]:List Item),()))) (([]:List Rule),(([]:List Keep),())) ([]:List Exception) (([]:List Int),(0,())) 0 0) (br (Qim (([]:List Endpoint),(([]:List Keep),(([]:List Item),()))) (([]:List Rule),(([]:List Keep),())) ([]:List Exception) (([]:List Int),(0,())) 0) (br (Gr (([]:List Endpoint),(([]:List Keep),(([]:List Item),()))) (([]:List Endpoint),(([]:List Keep),(([]:List Item),()))) (([]:List Rule),(([]:List Keep),())) ([]:List Exception) (([]:List Int),(0,())) (-1)) (br (ieq ((Eu (([]:List Endpoint),(([]:List Keep),(([]:List Item),()))) (([]:List Rule),(([]:List Keep),())) ([]:List Exception) (([]:List Int),(0,())) 0 0).2) 4) (br (ieq (a1.2) 0) (br (ieq (Qa (a1.1)) 0) (some (.t .bool (ieq ((Zq (([]:List Endpoint),(([]:List Keep),(([]:List Item),()))) (([]:List Endpoint),(([]:List Keep),(([]:List Item),()))) (([]:List Rule),(([]:List Keep),())) ([]:List Exception) (([]:List Int),(0,())) (-1)).2) 2),[])) (some (.t .bool false,[]))) (some (.t .bool false,[]))) (some (.t .bool false,[]))) none) none) none
theorem e_f8  : JS g_f8 tc_f8 rv_f8 false [] []=r_f8  :=by kernel_rfl
set_option maxRecDepth 100000 in
theorem s_f8:r_f8=some (.t .bool IU,[]):=by kernel_rfl
def sp_f8:Ent:=Qk .nil (fun x=>true) (fun x=>(.t .bool IU))
theorem ms_f8:EM 8 sp_f8:=mS g_f8 tc_f8 rv_f8 false (gB (gD ms_f13 (gD Qsc (gD ms_f15 gN)))) fun m=>Qm m fun x _=>(e_f8 ).trans (s_f8)
end
end Go.Proofs.YtmjnnemhoeolgaaGreat.K.PE
namespace Go.Proofs.YtmjnnemhoeolgaaGreat.K
open Go.RowKit PE
end Go.Proofs.YtmjnnemhoeolgaaGreat.K
noncomputable section
namespace Go.Proofs.YtmjnnemhoeolgaaGreat.K
open Go.RowKit
noncomputable section
def Yn (x:Estate)(c:Change):Estate×Int:=bif ine (Z9 x) 0 then (zX,31) else Xb x c
def tc_f21:TC:=aF Tryz.f21 []
def g_f21:G:=gG 15 [(42,Qys),(43,QqS)] (fun _ _=>none)
def r_f21 (p0:Estate)(p1:Change):OV:=br (Jv p0) (br (ine (Z9 p0) 0) (some (.tu [(.t QE (([]:List Endpoint),(([]:List Keep),(([]:List Item),())))),(.t tI 31)],[])) (br (XR p0 p1) (some (.tu [(.t QE ((Xb p0 p1).1)),(.t tI ((Xb p0 p1).2))],[])) none)) none
theorem s_f21 (x:Estate)(c:Change)(h:XR x c=true):r_f21 x c=some (.tu [.t QE (Yn x c).1,.t tI (Yn x c).2],[]):=by
 obtain ⟨hb,hi⟩:=Bi.1 h
 obtain ⟨hl,_⟩:=QqQ hb (by decide)
 unfold r_f21 Yn
 refine brY hl ?_
 cases ine (Z9 x) 0 with
 |true=>rfl
 |false=>
  rw [Qf]
  exact brY h rfl
def QoU:Ent:=Qk (.pr QE (.pr UJ .nil)) (fun x=>(XR x.1 x.2.1)) (fun x=>(.tu [(.t QE ((Yn x.1 x.2.1).1)),(.t tI ((Yn x.1 x.2.1).2))]))
theorem ms_f21:EM 21 QoU:=mS g_f21 tc_f21 [((.c 4 true 3),some QE),((.t 5),some tI)] false (gB (gD ms_f42 (gD ms_f43 gN))) fun m=>Qm m fun x hok=>kT (s_f21 x.1 x.2.1 hok)
abbrev QaS:Sh:=⟨[(3,.ptr 3 0),(7,.ty (.sl Qd)),(8,.ty tI),(9,.ty tI)],[(3,.box Qd)]⟩
abbrev QoV:Sh:=⟨[(4,.ty .bool)],[]⟩
abbrev QoW:Sh:=⟨[],[]⟩
def QgD:Fg:=QaS.f
def QoX:TC:=aF Tryz.f18 [(26,pL 0 QgD),(421,.fg QoW.f),(13517,.fg QoV.f)]
def QoY:TC:=lb 0 QoX
def QoZ (x7:List Keep)(x8 x9:Int)(y3:Keep):VS:=QaS.st ((),x7,x8,x9,()) (y3,())
def QgE (x4:Bool):VS:=QoV.st (x4,()) ()
def QgF  : VS:=QoW.st () ()
def QAW:VS->Option (Bool×List (Bool×Exit×VS)):=mkL QaS (fun x y=>(Qt x.2.1 x.2.2.1 x.2.2.2.1)) (fun x y=>[((ZR (x.2.1.drop x.2.2.2.1.toNat) y.1),.ret,QgE (true)),(true,.exit 0,QgF)])
def QgG:G:=gG 17 [] (Ls [QAW])
def QaT (x7:List Keep)(x8 x9:Int)(y3:Keep):OX:=Qv (QB QgG QgD QoY) (QoZ x7 x8 x9 y3)
def Iq (kk:List Keep->Int->Int->Keep->OX)(x7:List Keep)(x8 x9:Int)(y3:Keep):OX:=
 let a1:=lgt Qd x7 (Int.toNat x9)
 br (ilt x9 x8) (br (cIx x7 x9) (br (and (ieq (a1.1) y3.1) (and (ieq ((a1.2).1) y3.2.1) true)) (some (.ret,QgE true)) (kk x7 x8 (Qg .i64 x9 1) y3)) none) (some (.exit 0,QgF))
def QaU (x7:List Keep)(x8 x9:Int)(y3:Keep):OX:=br (ZR (x7.drop x9.toNat) y3) (some (.ret,QgE (true)))<|some (.exit 0,QgF)
theorem Qo0 (x7:List Keep)(x8 x9:Int)(y3:Keep):QaT x7 x8 x9 y3=Iq QaT x7 x8 x9 y3:=lnT (x:=Iq (fun x7 x8 x9 y3=>some (.normal,QoZ x7 x8 x9 y3)) x7 x8 x9 y3) (by simp only [Iq,nxA];rfl)
def r_f18 (p0:List Keep)(p1:Keep):OV:=br (Qt p0 (Qa p0) (0:Int)) (br (ZR (p0.drop (0:Int).toNat) p1) (some (.t .bool (true),[])) (some (.t .bool false,[]))) none
theorem QAX (x7:List Keep)(x8 x9:Int)(y3:Keep)(h:(Qt x7 x8 x9)=true):QaT x7 x8 x9 y3=QaU x7 x8 x9 y3:=by
 obtain ⟨rfl,h3,k,rfl,hk⟩:=Jy h
 clear h
 refine QR x7 (fun k=>QaT x7 (x7.length:Int) (k:Int) y3=QaU x7 (x7.length:Int) (k:Int) y3) ?_ ?_ k hk
 ·rw [Qo0]
  simp only [Iq,QaU,QC,BV,B2,Qf,Bd,BQ,ZR,List.any_nil]
 ·intro k hk ih
  rw [Qo0]
  have hq:(and (ieq x7[k].1 y3.1) (and (ieq x7[k].2.1 y3.2.1) true))=(y3==x7[k]):=by
   show (x7[k]==y3)=(y3==x7[k])
   exact Bool.beq_comm
  simp only [Iq,QC,QI,hk,Bv,Qc,Bd,QQ (show k<4611686018427387904 by omega),QP (y:=Qd) hk,ih]
  rw [hq]
  simp only [QaU,Bd,Bj hk,ZR,List.any_cons]
  cases y3==x7[k]<;>rfl
theorem QAY:LO QgG QgD QoY 0:=QH (s:=QaS) fun x y h _ q=>by simp only [QF,QG] at q;exact (QAX x.2.1 x.2.2.1 x.2.2.2.1 y.1 h).trans q
theorem s_f18 (l:List Keep)(o:Keep)(h:XU l o=true):r_f18 l o=some (.t .bool (ZR l o),[]):=by
 have hl:l.length<=100000:=Bx h
 simp only [r_f18,Jz hl,Qc,Bu,BA]
 cases ZR l o<;>rfl
def Qo1:Ent:=Qk (.pr (.sl Qd) (.pr Qd .nil)) (fun x=>(XU x.1 x.2.1)) (fun x=>(.t .bool (ZR x.1 x.2.1)))
theorem ms_f18:EM 18 Qo1:=mS (lk:=lkL (lkc QAY lkn)) QgG QoX [((.t 4),some .bool)] false (gB gN) fun m=>Qm m fun x hok=>kT (s_f18 x.1 x.2.1 hok)
theorem QAZ {e:Endpoint}(h:JC e):ZD 1000 e=true:=by
 have hl:=QlT h
 obtain ⟨d,k,s,rfl,hs,hk⟩:=h
 have hsu:(YS d).length<=5:=Bx (Uh (p:=fun l=>decide (l.length<=5)) (by decide) d)
 unfold QU at hl
 simp only [Bc,Ba] at hl
 unfold ZD
 simp only [Bc,Ba]
 exact ⟨⟨hl.1.1,Da hsu (by decide),(show 1<=1000 by decide),(show 1<=1000 by decide),(show 2<=1000 by decide)⟩,hl.2⟩
theorem QA0 (d:Dice):Yg 1000 (Qx d)=true:=by
 obtain ⟨g1,g2⟩:=VF d
 have hn:=Vg d
 have hl:(Qw (Qx d)).length<=3:=by rw [QlV];omega
 obtain ⟨_,he,_⟩:=Qe9 d
 have hitm:(Zn (Qx d)).all UZ=true:=Bg.2 fun i hi=>by
  have h1:=Bg.1 (UW g1).2.1 i hi
  have:=(Zf.1 h1).2.2.2.1
  exact Be (by omega)
 unfold Jv at g2
 simp only [Bc] at g2
 unfold Yg
 simp only [Bc,Ba]
 exact ⟨Bg.2 fun e he=>QAZ (QlU d e he),⟨by omega,by omega⟩,g2.2.2,hitm⟩
def su6 (b:Bool)(e:Endpoint):Endpoint:=bif b then suE e (6::Qu e) else e
theorem Qo2 (b:Bool)(e:Endpoint):(su6 b e).1=e.1:=by cases b<;>rfl
theorem QgH (b:Bool)(e:Endpoint)(x:Int):Zh (su6 b e) x=Zh e x:=by cases b<;>rfl
theorem Qo3 (b q:Bool)(c e:Endpoint):hiC (su6 b c) (su6 q e)=hiC c e:=by cases b<;>cases q<;>rfl
theorem Qo4 (b q:Bool)(c e:Endpoint):loC (su6 b c) (su6 q e)=loC c e:=by cases b<;>cases q<;>rfl
theorem Ir {b:Bool}{e:Endpoint}(h:JC e):QT (su6 b e)=true:=by
 cases b with
 |false=>exact GZ h
 |true=>
  obtain ⟨d,k,s,rfl,hs,hk⟩:=h
  have hg:=QlS hs hk
  simp only [VE,Bc] at hg
  have hm:=Qe4 d
  refine QrI (e:=su6 true (ZI d k s)) hg.2.2.2.2.2.2.2.2.2.2.2.2.1 (BX _) ?_ ?_ (Qyu (Uh (p:=fun l=>Qe5 (6::l)) (by decide) d)) (show 1<=4 by decide) ?_ (show Qb1 [1]=true by decide) (show Qb2 [2,3]=true by kernel_rfl)
  ·show (1:Int)<=dof d [3,3,4]
   omega
  ·show dof d [3,3,4]<=4
   omega
  ·show (Xv (Ys s Zr (Qg .i64 100 (k:Int)) 1 901)&&true)=true
   rw [B6]
   refine QrH Qyt hg.2.2.2.1 (show 1<=8 by decide) ?_ hg.2.2.1
   show (QN (YU s k)&&true)=true
   rw [hg.2.1]
   rfl
theorem QA1 {b:Bool}{e:Endpoint}(h:JC e):QU (su6 b e)=true:=by
 have hl:=QlT h
 cases b with
 |false=>exact hl
 |true=>
  have hsu:(Qu e).length<=5:=by
   obtain ⟨d,k,s,rfl,hs,hk⟩:=h
   exact Bx (Uh (p:=fun l=>decide (l.length<=5)) (by decide) d)
  obtain ⟨g1,g2,g3,g4,g5,g6⟩:=Gm hl
  unfold QU
  simp only [Bc,Ba]
  exact ⟨⟨g1,(show (6::Qu e).length<=100000 by simp only [Bt];omega),g3,g4,g5⟩,g6⟩
theorem no6 {e:Endpoint}(h:JC e):QO (Qu e) 6=false:=by
 obtain ⟨d,k,s,rfl,hs,hk⟩:=h
 have:=Uh (p:=fun l=> !QO l 6) (by decide) d
 show QO (YS d) 6=false
 simpa using this
theorem has6 (l:List Int)(x:Int):QO (6::l) x=(ieq x 6||QO l x):=by
 unfold QO
 rw [List.contains_cons]
theorem QaV {b:Bool}{e:Endpoint}(h:JC e)(x:Int):QO (Qu (su6 b e)) x=(QO (Qu e) x||(b&&ieq x 6)):=by
 cases b with
 |false=>simp [su6]
 |true=>
  show QO (6::Qu e) x=_
  rw [has6,BE,Bool.or_comm]
theorem QA2 {a b:Bool}{c e:Endpoint}(hc:JC c)(he:JC e)(hab:(a&&b)=false)(v x:Int):Z2 (su6 b e) (Qu (su6 a c)) v x=Z2 e (Qu c) v x:=by
 unfold Z2
 rw [QgH,QaV hc,QaV he]
 cases h6:ieq x 6 with
 |false=>simp only [DL,Bool.or_false]
 |true=>
  have:x=6:=by simpa [YA] using h6
  subst this
  rw [no6 hc,no6 he]
  cases a with
  |false=>simp only [DM,Bool.or_false,DL]
  |true=>
   have hb:b=false:=hab
   subst hb
   simp only [DL,B6,Bool.or_false,DM,Df,Bool.or_true]
theorem Qo5 {a b:Bool}{c e:Endpoint}(hc:JC c)(he:JC e):XV (su6 a c) (su6 b e)=true:=Bi.2 ⟨Ir hc,Ir he⟩
theorem QA3 {c e:Endpoint}(hc:JC c)(he:JC e):XV c e=true:=Bi.2 ⟨GZ hc,GZ he⟩
theorem Qo6 {a b:Bool}{c e:Endpoint}(hc:JC c)(he:JC e)(hab:(a&&b)=false):ZS (su6 a c) (su6 b e)=ZS c e:=by
 unfold ZS
 rw [Qo5 hc he,QA3 hc he,Qo4,Qo3]
 show Xg (su6 b e) (Qu (su6 a c)) _ _=Xg e (Qu c) _ _
 unfold Xg UH
 simp only [QA2 hc he hab]
theorem Qo7 {b:Bool}{e:Endpoint}(he:JC e)(o:Keep):Jg (su6 b e) o=Jg e o:=by
 have h1:Uw (su6 b e) o.2.1=Uw e o.2.1:=by cases b<;>rfl
 unfold Jg
 rw [Ir he,GZ he,QgH,h1]
theorem Qo8 {b:Bool}{e:Endpoint}(he:JC e)(o:Keep):JI (su6 b e) o=JI e o:=by
 unfold JI
 rw [Qo7 he]
abbrev k6:Keep:=(3,(6,()))
theorem both6 {c e:Endpoint}(hc:JC c)(he:JC e):k6∈ZS (su6 true c) (su6 true e):=by
 obtain ⟨_,q1,q2⟩:=QKH hc he (x:=8) (.inr rfl)
 refine Qy0 (Qo5 hc he) (by rw [Qo4];exact q1) (by rw [Qo3];exact q2) ?_
 unfold Z2
 rw [QgH,QaV hc,QaV he,no6 hc,no6 he]
 obtain ⟨d,k,s,rfl,hs,hk⟩:=he
 rfl
theorem one6 {a b:Bool}{c e:Endpoint}(hc:JC c)(he:JC e)(hab:(a&&b)=false):k6 ∉ ZS (su6 a c) (su6 b e):=by
 rw [Qo6 hc he hab]
 intro h
 have:=(QyZ h).1
 unfold Z2 at this
 rw [no6 hc] at this
 simp at this
abbrev Yd:Policy:=([(false,(10,(0,(0,(0,(40001,()))))))],(([]:List Keep),()))
abbrev zL6:List Exception:=[]
abbrev zO6:Dice:=(([]:List Int),(0,()))
theorem for6 {b:Bool}{e:Endpoint}(he:JC e):(WV Yd zL6 zO6 (su6 b e) k6 5).1=true:=by
 unfold WV
 rw [Qo7 he]
 have hv:=GZ he
 obtain ⟨d,k,s,rfl,hs,hk⟩:=he
 have hu:Jg (ZI d k s) k6=(Uw (ZI d k s) 6,0):=by
  unfold Jg
  rw [hv]
  rfl
 rw [hu]
 have hl:Uw (ZI d k s) 6=Uw (ZI d 0 ByteArray.empty) 6:=rfl
 rw [hl]
 show (Yp Yd 5 (Uw (ZI d 0 ByteArray.empty) 6) false).1=true
 kernel_rfl
def sxV (d:Dice)(f:Nat->Bool):Estate:=((Qw (Qx d)).mapIdx (fun j e=>su6 (f j) e),(QL (Qx d),(Zn (Qx d),())))
theorem Qo9 (d:Dice)(f:Nat->Bool):(Qw (sxV d f)).length=(Qw (Qx d)).length:=List.length_mapIdx
theorem Fn (d:Dice)(f:Nat->Bool){j:Nat}(hj:j<(Qw (Qx d)).length):Jo (Qw (sxV d f)) j=su6 (f j) (Jo (Qw (Qx d)) j):=by
 show ((Qw (Qx d)).mapIdx (fun j e=>su6 (f j) e)).getD j zEp=su6 (f j) ((Qw (Qx d)).getD j zEp)
 rw [Bk,Bk,List.getElem?_mapIdx,Bf hj]
 rfl
theorem QA4 (d:Dice):sxV d (fun _=>false)=Qx d:=by
 have:(Qw (Qx d)).mapIdx (fun j e=>su6 ((fun _=>false) j) e)=Qw (Qx d):=by
  apply List.ext_getElem
  ·exact List.length_mapIdx
  ·intro i h1 h2
   rw [List.getElem_mapIdx]
   rfl
 show ((Qw (Qx d)).mapIdx (fun j e=>su6 ((fun _=>false) j) e),_)=_
 rw [this]
theorem Uo (d:Dice)(f:Nat->Bool):JO (sxV d f)=true/\Jv (sxV d f)=true:=by
 obtain ⟨g1,g2⟩:=VF d
 have hp:=UW g1
 have hl:=Qo9 d f
 constructor
 ·have h1:Wx (Qw (sxV d f)) 0=true:=by
   have h0:=hp.1
   unfold Wx Yl at h0 ⊢
   rw [hl]
   rw [Bg] at h0 ⊢
   intro j hj
   have:=h0 j hj
   have hj2:j<(Qw (Qx d)).length:=by
    rw [List.mem_range'] at hj
    obtain ⟨a,ha,rfl⟩:=hj
    omega
   unfold Vy at this ⊢
   simp only [Bc] at this ⊢
   rw [Fn d f hj2,Fn d f (show j-1<(Qw (Qx d)).length by omega),Qo2,Qo2]
   exact ⟨Ir (Ot d hj2),this.2⟩
  unfold JO at g1 ⊢
  rw [h1]
  have e1:Qa (Qw (sxV d f))=Qa (Qw (Qx d)):=by simp only [Qa,hl]
  rw [e1]
  simp only [Bc] at g1 ⊢
  exact ⟨trivial,g1.2⟩
 ·unfold Jv at g2 ⊢
  simp only [Bc,Ba] at g2 ⊢
  refine ⟨⟨by rw [hl];exact g2.1.1,g2.1.2⟩,Bg.2 fun e he=> ?_,g2.2.2⟩
  obtain ⟨j,hj⟩:=Dy.1 he
  obtain ⟨hj1,rfl⟩:=BB.1 hj
  have hj2:j<(Qw (Qx d)).length:=by rw [←hl];exact hj1
  have:=Fn d f hj2
  rw [show Jo (Qw (sxV d f)) j=(Qw (sxV d f))[j] by simp only [Jo,Bk,Bf hj1,BI]] at this
  rw [this]
  exact QA1 (Ot d hj2)
theorem Qpa (d:Dice){k:Nat}(hk:k<(QL (Qx d)).length): ∃ a b:Nat,a<(Qw (Qx d)).length/\b<(Qw (Qx d)).length/\a≠b/\(Jn (QL (Qx d)) k).1=(a:Int)/\(Jn (QL (Qx d)) k).2.1=(b:Int)∧ ∃ c e:Endpoint,JC c/\JC e∧ ∀ f,X7 (sxV d f) (k:Int)=(su6 (f a) c,su6 (f b) e):=by
 have he:=Qfa (VF d).1 hk
 obtain ⟨⟨a0,a1⟩,⟨b0,b1⟩,hne⟩:=he
 refine ⟨(Jn (QL (Qx d)) k).1.toNat,(Jn (QL (Qx d)) k).2.1.toNat,by omega,by omega,by omega,by omega,by omega,_,_,Ot d (j:=(Jn (QL (Qx d)) k).1.toNat) (by omega),Ot d (j:=(Jn (QL (Qx d)) k).2.1.toNat) (by omega),fun f=> ?_⟩
 unfold X7
 show (Jo (Qw (sxV d f)) (Jn (QL (Qx d)) (Int.toNat (k:Int))).1.toNat,Jo (Qw (sxV d f)) (Jn (QL (Qx d)) (Int.toNat (k:Int))).2.1.toNat)=_
 rw [Bd,Fn d f (by omega),Fn d f (by omega)]
abbrev YC (p:Int):Change:=(p,(1,(6,(0,(((0,(0,())),(0,(([]:List Certificate),()))),())))))
theorem plc6 {e:Endpoint}(h:JC e):J6 (Qu e) 6= -1:=by
 obtain ⟨d,k,s,rfl,hs,hk⟩:=h
 have:=Uh (p:=fun l=>ieq (J6 l 6) (-1)) (by decide) d
 show J6 (YS d) 6= -1
 simpa [YA] using this
theorem apc6 {e:Endpoint}(h:JC e)(p:Int):Zs e (YC p)=(su6 true e,0):=by
 have hv:J2 e=0:=IS (by rw [Ob,GZ h];rfl)
 have hw:J2 (su6 true e)=0:=IS (by rw [Ob,Ir h];rfl)
 have hm:YW e (YC p)=su6 true e:=by
  show suE e (Xq (Qu e) 0 6)=suE e (6::Qu e)
  have:Xq (Qu e) 0 6=6::Qu e:=by
   unfold Xq lsl
   simp
  rw [this]
 have ha:J7 e (YC p)=0:=by
  unfold J7
  rw [hv]
  have hl:igt 0 (Qa (Qu e))=false:=Bn (by simp only [Qa];omega)
  show (bif igt 0 (Qa (Qu e)) then (2:Int) else Y6 e (YC p))=0
  rw [hl,Di]
  show (bif Iy (ige (J6 (Qu e) 6) 0) true then (41:Int) else 0)=0
  rw [plc6 h]
  rfl
 unfold Zs
 rw [ha,hm,hw]
 rfl
theorem stp6 (d:Dice)(f:Nat->Bool){p:Nat}(hp:p<(Qw (Qx d)).length)(hf:f p=false):Yn (sxV d f) (YC (p:Int))=(sxV d (fun j=>f j||decide (j=p)),0):=by
 obtain ⟨o1,_⟩:=Uo d f
 unfold Yn
 rw [show ine (Z9 (sxV d f)) 0=false by rw [ER,o1];rfl]
 show Xb (sxV d f) (YC (p:Int))=_
 have e0:Jo (Qw (sxV d f)) p=Jo (Qw (Qx d)) p:=by rw [Fn d f hp,hf];rfl
 have hl:(Qw (sxV d f)).length=(Qw (Qx d)).length:=Qo9 d f
 unfold Xb
 rw [show (YC (p:Int)).1=(p:Int) from rfl,show ilt (p:Int) 0=false from Bn (by omega),show ige (p:Int) (Qa (Qw (sxV d f)))=false from Bn (by simp only [Qa];omega),Bd,e0,apc6 (Ot d hp)]
 show (((Qw (sxV d f)).set p (su6 true (Jo (Qw (Qx d)) p)),(QL (Qx d),(Zn (Qx d),()))),(0:Int))=(((Qw (Qx d)).mapIdx (fun j e=>su6 (f j||decide (j=p)) e),(QL (Qx d),(Zn (Qx d),()))),0)
 have hs:(Qw (sxV d f)).set p (su6 true (Jo (Qw (Qx d)) p))=(Qw (Qx d)).mapIdx (fun j e=>su6 (f j||decide (j=p)) e):=by
  apply List.ext_getElem
  ·rw [List.length_set,List.length_mapIdx,hl]
  ·intro i h1 h2
   rw [List.getElem_set,List.getElem_mapIdx]
   have hi:i<(Qw (Qx d)).length:=by rw [List.length_mapIdx] at h2;exact h2
   by_cases h:p=i
   ·subst h
    rw [if_pos rfl,Be rfl,Bool.or_true]
    have:Jo (Qw (Qx d)) p=(Qw (Qx d))[p]:=by simp only [Jo,Bk,Bf hi,BI]
    rw [this]
   ·rw [if_neg h,Bn (fun e=>h e.symm),Bool.or_false]
    show ((Qw (Qx d)).mapIdx (fun j e=>su6 (f j) e))[i]'(by rw [List.length_mapIdx];exact hi)=_
    rw [List.getElem_mapIdx]
 rw [hs]
theorem QA5 (d:Dice){k:Nat}(hk:k<(QL (Qx d)).length){f:Nat->Bool}(hf: ∀ a b:Nat,a≠b->(f a&&f b)=false):ZN (sxV d (fun _=>false)) (sxV d f) (k:Int)=[]:=by
 obtain ⟨a,b,_,_,hab,_,_,c,e,hc,he,hE⟩:=Qpa d hk
 unfold ZN
 rw [List.filter_eq_nil_iff]
 intro o ho
 have:FI (sxV d (fun _=>false)) (sxV d f) (k:Int) o=true:=by
  unfold FI
  unfold Q4 at ho ⊢
  rw [hE] at ho ⊢
  rw [hE]
  refine DA.2 ⟨o, ?_, ?_⟩
  ·show o∈ZS (su6 false c) (su6 false e)
   have ho:o∈ZS (su6 (f a) c) (su6 (f b) e):=ho
   rw [Qo6 hc he (hf a b hab)] at ho
   exact ho
  ·show (JI (su6 false e) o==JI (su6 (f b) e) o)=true
   rw [Qo8 he,Qo8 he]
   exact beq_self_eq_true _
 rw [this]
 exact Bool.false_ne_true
theorem QA6 (d:Dice){k:Nat}(hk:k<(QL (Qx d)).length){f g:Nat->Bool}(hf: ∀ a b:Nat,a≠b->(f a&&f b)=false)(hg: ∀ a b:Nat,(Jn (QL (Qx d)) k).1=(a:Int)->(Jn (QL (Qx d)) k).2.1=(b:Int)->g a=true/\g b=true):k6∈ZN (sxV d f) (sxV d g) (k:Int)/\k6∈YN (rl Yd zL6 zO6 5) (sxV d g) (k:Int):=by
 obtain ⟨a,b,_,_,hab,h1,h2,c,e,hc,he,hE⟩:=Qpa d hk
 obtain ⟨ga,gb⟩:=hg a b h1 h2
 have hm:k6∈(Q4 (sxV d g) (k:Int)).1:=by
  unfold Q4
  rw [hE,ga,gb]
  exact both6 hc he
 constructor
 ·unfold ZN
  refine List.mem_filter.2 ⟨hm, ?_⟩
  have:FI (sxV d f) (sxV d g) (k:Int) k6=false:=by
   unfold FI
   refine List.any_eq_false.2 fun x hx hq=> ?_
   have hq:=eq_of_beq hq
   unfold JI at hq
   injection hq with q1 q2
   injection q2 with q2 q3
   have hx6:x=k6:=by
    obtain ⟨x1,x2,u⟩:=x
    have q1:x1=3:=q1
    have q2:x2=6:=q2
    subst q1 q2
    rfl
   subst hx6
   unfold Q4 at hx
   rw [hE] at hx
   exact one6 hc he (hf a b hab) hx
  rw [this]
  rfl
 ·unfold YN
  refine List.mem_filter.2 ⟨hm, ?_⟩
  unfold Q4 Gx
  rw [hE]
  exact for6 he
theorem Qpb {f:Int->Bool}: ∀ (k:Nat) (i:Int),(∀ j:Int,i<=j->j<i+k->f j=false)->J9 f k i=[]
 |0,_,_=>rfl
 |k+1,i,hf=>by
  unfold J9
  rw [hf i (BX i) (by omega)]
  exact Qpb k (i+1) fun j h1 h2=>hf j (by omega) (by omega)
theorem rls6:J3 (rl Yd zL6 zO6 5)=0:=by kernel_rfl
theorem QgI (d:Dice)(f g:Nat->Bool):Z4 (sxV d f) (sxV d g)=0:=by
 unfold Z4
 rw [(Uo d f).1,(Uo d g).1,show Wm (sxV d f).2.1 (sxV d g).2.1=true from QuL.2 rfl]
 rfl
theorem QA7 (d:Dice){f:Nat->Bool}(hf: ∀ a b:Nat,a≠b->(f a&&f b)=false):Zq (sxV d (fun _=>false)) (sxV d f) Yd zL6 zO6 5=([],0):=by
 unfold Zq
 rw [QgI,rls6,Qpb _ 0 (fun j h1 h2=> ?_)]
 ·rfl
 ·obtain ⟨k,rfl⟩:=Bq h1
  have h2:(k:Int)<0+((QL (Qx d)).length:Int):=h2
  unfold stB
  rw [QA5 d (by omega) hf]
  rfl
theorem QA8 (d:Dice){f g:Nat->Bool}(hf: ∀ a b:Nat,a≠b->(f a&&f b)=false)(hg: ∀ a b:Nat,(Jn (QL (Qx d)) 0).1=(a:Int)->(Jn (QL (Qx d)) 0).2.1=(b:Int)->g a=true/\g b=true):
  (Zq (sxV d f) (sxV d g) Yd zL6 zO6 5).2=0/\QO (Zq (sxV d f) (sxV d g) Yd zL6 zO6 5).1 0=true/\(Zq (sxV d f) (sxV d g) Yd zL6 zO6 5).1.length<=100000∧
  (Yo (sxV d f) (sxV d g) 0).2=0/\ZR (Yo (sxV d f) (sxV d g) 0).1 k6=true/\(Yo (sxV d f) (sxV d g) 0).1.length<=100000:=by
 obtain ⟨_,hn3,hn⟩:=Qe9 d
 obtain ⟨m1,m2⟩:=QA6 d hn hf hg
 have hst:Zq (sxV d f) (sxV d g) Yd zL6 zO6 5=(J9 (stB (rl Yd zL6 zO6 5) (sxV d f) (sxV d g)) (QL (Qx d)).length 0,0):=by
  unfold Zq
  rw [QgI,rls6]
  rfl
 have hen:Yo (sxV d f) (sxV d g) 0=(ZN (sxV d f) (sxV d g) 0,0):=by
  unfold Yo
  rw [QgI,show ilt 0 0=false from rfl,show ige 0 (Qa (sxV d f).2.1)=false from Bn (by show ¬ (0:Int)≥((QL (Qx d)).length:Int);omega)]
  rfl
 have hb:stB (rl Yd zL6 zO6 5) (sxV d f) (sxV d g) 0=true:=by
  unfold stB F3
  refine DA.2 ⟨k6,m1, ?_⟩
  unfold inO ZR
  exact DA.2 ⟨k6,m2,beq_self_eq_true _⟩
 have hle: ∀ (q:Int->Bool) (m:Nat) (i:Int),(J9 q m i).length<=m:=by
  intro q m
  induction m with
  |zero=>exact fun _=>BJ 0
  |succ m ih=>
   intro i
   unfold J9
   have:=ih (i+1)
   cases q i with
   |true=>simp only [Dl,Bt];omega
   |false=>simp only [Di];omega
 have hlen:=hle (stB (rl Yd zL6 zO6 5) (sxV d f) (sxV d g)) (QL (Qx d)).length 0
 have hel:=Qp0 (sxV d f) (sxV d g) 0
 rw [hst,hen]
 refine ⟨rfl, ?_,by show (J9 _ _ _).length<=100000;omega,rfl,DA.2 ⟨k6,m1,beq_self_eq_true _⟩,by show (ZN _ _ _).length<=100000;omega⟩
 obtain ⟨m,hm⟩: ∃ m,(QL (Qx d)).length=m+1:=⟨(QL (Qx d)).length-1,by omega⟩
 show QO (J9 _ (QL (Qx d)).length 0) 0=true
 rw [hm]
 unfold J9
 rw [hb]
 show QO (0::_) 0=true
 unfold QO
 rw [List.contains_cons]
 rfl
end
end Go.Proofs.YtmjnnemhoeolgaaGreat.K
noncomputable section
namespace Go.Proofs.YtmjnnemhoeolgaaGreat.K.PE
open Go.RowKit
noncomputable section
def bothL (_:List Int)(_:Bool):Bool:=true
theorem Qub (d:Dice){p q:Nat}(hpq:p≠q)(hp:p<(Qw (Qx d)).length)(hq:q<(Qw (Qx d)).length)
  (hg: ∀ a b:Nat,(Jn (QL (Qx d)) 0).1=(a:Int)->(Jn (QL (Qx d)) 0).2.1=(b:Int)->(a=p∨a=q)/\(b=p∨b=q)):
  XR (Qx d) (YC (p:Int))=true/\Yn (Qx d) (YC (p:Int))=(sxV d (fun j=>decide (j=p)),0)∧
  XR (sxV d (fun j=>decide (j=p))) (YC (q:Int))=true/\Yn (sxV d (fun j=>decide (j=p))) (YC (q:Int))=(sxV d (fun j=>decide (j=p)||decide (j=q)),0)∧
  Zq (Qx d) (sxV d (fun j=>decide (j=p))) Yd zL6 zO6 5=([],0)∧
  (Zq (sxV d (fun j=>decide (j=p))) (sxV d (fun j=>decide (j=p)||decide (j=q))) Yd zL6 zO6 5).2=0∧
  QO (Zq (sxV d (fun j=>decide (j=p))) (sxV d (fun j=>decide (j=p)||decide (j=q))) Yd zL6 zO6 5).1 0=true∧
  Jk (Zq (sxV d (fun j=>decide (j=p))) (sxV d (fun j=>decide (j=p)||decide (j=q))) Yd zL6 zO6 5).1 0=true∧
  (Yo (sxV d (fun j=>decide (j=p))) (sxV d (fun j=>decide (j=p)||decide (j=q))) 0).2=0∧
  ZR (Yo (sxV d (fun j=>decide (j=p))) (sxV d (fun j=>decide (j=p)||decide (j=q))) 0).1 k6=true∧
  XU (Yo (sxV d (fun j=>decide (j=p))) (sxV d (fun j=>decide (j=p)||decide (j=q))) 0).1 k6=true:=by
 have hz:=QA4 d
 have s0:Yg 1000 (sxV d (fun _=>false))=true:=by rw [hz];exact QA0 d
 have a1:=stp6 d (fun _=>false) hp rfl
 have ef:(fun j:Nat=>(fun _:Nat=>false) j||decide (j=p))=fun j=>decide (j=p):=funext fun j=>Df _
 rw [ef] at a1
 have a2:=stp6 d (fun j=>decide (j=p)) hq (Bn fun e=>hpq e.symm)
 have hn:ine (Z9 (sxV d (fun _=>false))) 0=false:=by rw [ER,(Uo d _).1];rfl
 have s1:Yg 1001 (sxV d (fun j=>decide (j=p)))=true:=by
  have:=QE4 (n:=1000) (c:=YC (p:Int)) s0 (by decide) rfl
  have e1:Yn (sxV d (fun _=>false)) (YC (p:Int))=Xb (sxV d (fun _=>false)) (YC (p:Int)):=by
   unfold Yn
   rw [hn]
   rfl
  rw [←e1,a1] at this
  exact this
 have hf: ∀ a b:Nat,a≠b->((fun j:Nat=>decide (j=p)) a&&(fun j:Nat=>decide (j=p)) b)=false:=fun a b hab=>by
  show (decide (a=p)&&decide (b=p))=false
  by_cases h:a=p
  ·rw [Bn (show ¬ b=p by omega),DL]
  ·rw [Bn h,DM]
 obtain ⟨t1,t2,t3,t4,t5,t6⟩:=QA8 d (f:=fun j=>decide (j=p)) (g:=fun j=>decide (j=p)||decide (j=q)) hf (fun a b h1 h2=>by
  obtain ⟨g1,g2⟩:=hg a b h1 h2
  simp only [Db,Ba]
  exact ⟨g1,g2⟩)
 have t0:=QA7 d hf
 rw [hz] at s0 a1 t0
 exact ⟨Bi.2 ⟨Qs3 s0 (by decide),rfl⟩,a1,Bi.2 ⟨Qs3 s1 (by decide),rfl⟩,a2,t0,t1,t2,Be t3,t4,t5,Be t6⟩
def Qjo:TC:=aF Tryz.f4 [(126,pD [(0,[7]),(1,[7]),(2,[7]),(3,[7]),(4,[]),(5,[])] (.of [0,1,2,3,4,5]))]
def rv_f4:List (RV×Option Ty):=[((.t 4),some .bool)]
def Qc3:G:=gG 110 [(7,sp_f7),(8,sp_f8),(9,sp_f9),(14,Qil),(16,Qr6),(17,Qt6),(18,Qo1),(20,Qxk),(21,QoU)] (fun _ _=>none)
def Qjp (p0:List Int)(p1:Bool):OV:=
 let a7:=Qx (U5 p0)
 let a10:=lgt Qd ((a7.2).1) (Int.toNat 0)
 let a1:=(Yn a7 ((a10.2).1,(1,(6,(0,(((0,(0,())),(0,(([]:List Certificate),()))),()))))))
 let a2:=(Yn a7 (a10.1,(1,(6,(0,(((0,(0,())),(0,(([]:List Certificate),()))),()))))))
 let a3:=(Yn (a2.1) ((a10.2).1,(1,(6,(0,(((0,(0,())),(0,(([]:List Certificate),()))),()))))))
 let a4:=(Yn (a1.1) (a10.1,(1,(6,(0,(((0,(0,())),(0,(([]:List Certificate),()))),()))))))
 let a5:=(Zq (a1.1) (a4.1) ([(false,(10,(0,(0,(0,(40001,()))))))],(([]:List Keep),())) ([]:List Exception) (([]:List Int),(0,())) 5)
 let a6:=(Zq (a2.1) (a3.1) ([(false,(10,(0,(0,(0,(40001,()))))))],(([]:List Keep),())) ([]:List Exception) (([]:List Int),(0,())) 5)
 let a8:=(Zq a7 (a1.1) ([(false,(10,(0,(0,(0,(40001,()))))))],(([]:List Keep),())) ([]:List Exception) (([]:List Int),(0,())) 5)
 let a9:=(Zq a7 (a2.1) ([(false,(10,(0,(0,(0,(40001,()))))))],(([]:List Keep),())) ([]:List Exception) (([]:List Int),(0,())) 5)
 let a11:=Yo (a1.1) (a4.1) 0
 let a12:=Yo (a2.1) (a3.1) 0
 br (!(U3 p0)) (some (.t .bool IU,[])) (br (dOk (U5 p0)) (br (cIx ((a7.2).1) 0) (br (p1) (br (XR a7 ((a10.2).1,(1,(6,(0,(((0,(0,())),(0,(([]:List Certificate),()))),())))))) (br (XR (a1.1) (a10.1,(1,(6,(0,(((0,(0,())),(0,(([]:List Certificate),()))),())))))) (br (Gr a7 (a1.1) ([(false,(10,(0,(0,(0,(40001,()))))))],(([]:List Keep),())) ([]:List Exception) (([]:List Int),(0,())) 5) (br (Gr (a1.1) (a4.1) ([(false,(10,(0,(0,(0,(40001,()))))))],(([]:List Keep),())) ([]:List Exception) (([]:List Int),(0,())) 5) (br (Qcb (a1.1) (a4.1) 0) (br (ieq (Qg .i64 (Qg .i64 (Qg .i64 (Qg .i64 (a1.2) (a4.2)) (a8.2)) (a5.2)) (a11.2)) 0) (br (ieq (Qa (a8.1)) 0) (br (Jk (a5.1) 0) (br (QO (a5.1) 0) (br (XU (a11.1) (3,(6,()))) (br (ZR (a11.1) (3,(6,()))) (some (.t .bool IU,[])) (some (.t .bool false,[]))) none) (some (.t .bool false,[]))) none) (some (.t .bool false,[]))) (some (.t .bool false,[]))) none) none) none) none) none) (br (XR a7 (a10.1,(1,(6,(0,(((0,(0,())),(0,(([]:List Certificate),()))),())))))) (br (XR (a2.1) ((a10.2).1,(1,(6,(0,(((0,(0,())),(0,(([]:List Certificate),()))),())))))) (br (Gr a7 (a2.1) ([(false,(10,(0,(0,(0,(40001,()))))))],(([]:List Keep),())) ([]:List Exception) (([]:List Int),(0,())) 5) (br (Gr (a2.1) (a3.1) ([(false,(10,(0,(0,(0,(40001,()))))))],(([]:List Keep),())) ([]:List Exception) (([]:List Int),(0,())) 5) (br (Qcb (a2.1) (a3.1) 0) (br (ieq (Qg .i64 (Qg .i64 (Qg .i64 (Qg .i64 (a2.2) (a3.2)) (a9.2)) (a6.2)) (a12.2)) 0) (br (ieq (Qa (a9.1)) 0) (br (Jk (a6.1) 0) (br (QO (a6.1) 0) (br (XU (a12.1) (3,(6,()))) (br (ZR (a12.1) (3,(6,()))) (some (.t .bool IU,[])) (some (.t .bool false,[]))) none) (some (.t .bool false,[]))) none) (some (.t .bool false,[]))) (some (.t .bool false,[]))) none) none) none) none) none)) none) none)
theorem e_f4 (p0:List Int)(p1:Bool):JS Qc3 Qjo rv_f4 false [.t (.sl tI) p0,.t .bool p1] []=Qjp p0 p1:=by kernel_rfl
theorem gk_f4:GOk Tryz.prog Qc3:=ZW _ (gA (gD ms_f7 (gD ms_f8 (gD ms_f9 (gD Qsc (gD ms_f16 (gD ms_f17 (gD ms_f18 (gD ms_f20 (gD ms_f21 gN))))))))))
theorem lk_f4:Qjo.lok Qc3:=by repeat (first|exact trivial|refine ⟨?_, ?_⟩)
theorem s_f4 (p0:List Int)(a:Bool):Qjp p0 a=some (.t .bool (bothL p0 a),[]):=by
 unfold Qjp
 refine QY (fun _=>rfl) (fun k1=> ?_)
 have k1:U3 p0=true:=by simpa using k1
 have hd:=Qzx k1
 generalize U5 p0=d at hd ⊢
 obtain ⟨_,hn3,hn⟩:=Qe9 d
 have he:=Qfa (VF d).1 (k:=0) hn
 have hE:lgt Qd (QL (Qx d)) (Int.toNat 0)=Jn (QL (Qx d)) 0:=by
  rw [Bu,QP (y:=Qd) hn]
  simp only [Jn,Bk,Bf hn,BI]
 obtain ⟨⟨a0,a1⟩,⟨b0,b1⟩,hne⟩:=he
 obtain ⟨p,hp⟩:=Bq a0
 obtain ⟨q,hq⟩:=Bq b0
 have hx: ∀ f g,Gy (sxV d f) (sxV d g)=true:=fun f g=>Bi.2 ⟨(Uo d f).2,(Uo d g).2⟩
 have hl:=(VF d).2
 rw [hE,hp,hq]
 rw [hp] at a1 hne
 rw [hq] at b1 hne
 have hg: ∀ a b:Nat,(Jn (QL (Qx d)) 0).1=(a:Int)->(Jn (QL (Qx d)) 0).2.1=(b:Int)->a=p/\b=q:=fun a b h1 h2=>by omega
 clear hE hp hq a0 b0
 refine brY hd (brY (show cIx (QL (Qx d)) 0=true from Be ⟨by omega,by omega⟩) ?_)
 cases a with
 |true=>
  rw [Qc]
  obtain ⟨f1,f2,f3,f4,f5,f6,f7,f8,f9,fa,fb⟩:=Qub d (p:=q) (q:=p) (by omega) (by omega) (by omega) (fun a b h1 h2=>by obtain ⟨rfl,rfl⟩:=hg a b h1 h2;exact ⟨.inr rfl,.inl rfl⟩)
  rw [f2]
  dsimp only
  rw [f4]
  dsimp only
  rw [f5,f6,f9]
  refine brY f1 (brY f3 (brY (Bi.2 ⟨Bi.2 ⟨hl,(Uo d _).2⟩,rfl⟩) (brY (Bi.2 ⟨hx _ _,rfl⟩) (brY (hx _ _) (brY rfl (brY rfl (brY f8 (brY f7 (brY fb (brY fa rfl))))))))))
 |false=>
  rw [Qf]
  obtain ⟨f1,f2,f3,f4,f5,f6,f7,f8,f9,fa,fb⟩:=Qub d (p:=p) (q:=q) (by omega) (by omega) (by omega) (fun a b h1 h2=>by obtain ⟨rfl,rfl⟩:=hg a b h1 h2;exact ⟨.inl rfl,.inr rfl⟩)
  rw [f2]
  dsimp only
  rw [f4]
  dsimp only
  rw [f5,f6,f9]
  refine brY f1 (brY f3 (brY (Bi.2 ⟨Bi.2 ⟨hl,(Uo d _).2⟩,rfl⟩) (brY (Bi.2 ⟨hx _ _,rfl⟩) (brY (hx _ _) (brY rfl (brY rfl (brY f8 (brY f7 (brY fb (brY fa rfl))))))))))
def sp_f4:Ent:=Qk (.pr (.sl tI) (.pr .bool .nil)) (fun x=>true) (fun x=>(.t .bool (bothL x.1 x.2.1)))
theorem ms_f4:Qz Tryz.prog 4 (Qy sp_f4):=Qm (R:=JS Qc3 Qjo rv_f4 false) (mG Tryz.func4 (by kernel_rfl) Tryz.ntmps4 (by kernel_rfl) gk_f4 lk_f4) fun x _=>(e_f4 x.1 x.2.1).trans (s_f4 x.1 x.2.1)
end
end Go.Proofs.YtmjnnemhoeolgaaGreat.K.PE
namespace Go.Proofs.YtmjnnemhoeolgaaGreat.K
open Go.RowKit PE
theorem walkPolicyBoth (z0:(List Int))(z1:Bool)(W:World)(v0:Value)(v1:Value)(c0:C noX W (fun _=> .no) (V.t (.sl tI) z0).d v0)(c1:C noX W (fun _=> .no) (V.t .bool z1).d v1)(w0:Ty.wf (.sl tI) z0)(w1:Ty.wf .bool z1):
  Calls Tryz.prog 4 #[v0,v1] W fun r w'=>r= .returned (.bool true)/\Below W.heap.size W w':=
 QBk (by decide) ms_f4 (args:=[.t (.sl tI) z0,.t .bool z1]) (Qa3 (x:=(z0,z1,())) rfl (rfl)) (by simp only [V.ds,Cs];exact ⟨_,_,rfl,c0,_,_,rfl,c1,rfl⟩)
end Go.Proofs.YtmjnnemhoeolgaaGreat.K
