import Derived.Test.YticnbacafmeiiaaGreatDoorQ5
import Derived.Test.YticnbacafmeiiaaGreatDoorQ4
set_option linter.unusedSimpArgs false
set_option linter.unusedVariables false
namespace Go.Proofs.YticnbacafmeiiaaGreatDoor.K
open Go.RowKit Go.Region
attribute [local go_sem ↓] Go.wp_at_zero Go.wp_at_succ
noncomputable section
abbrev webB:ByteArray:=ByteArray.mk #[119,101,98]
theorem elemStg:ElemOk Tryz.prog 59 133 4 56:=ElemOk.of (.agg #[.string eB,.string eB,.string eB,.int .i64 0]) (by kernel_rfl) (by kernel_rfl) (by kernel_rfl) (by decide)
def RowS (w:World)(base:Nat)(v:Value):Prop:= ∃ ob oc,v= .slice (some ⟨ob,0,none⟩) 1 oc/\base<=ob/\ob<w.heap.size/\1<=oc/\oc<=maxLen/\w.cell? ⟨ob,0,none⟩=some (.string webB)/\w.cell? ⟨ob,1,none⟩=some (.string suitesB)/\w.cell? ⟨ob,2,none⟩=some (.string rc4B)/\w.cell? ⟨ob,3,none⟩=some (.int .i64 2)
theorem rowS_of {w:World}{base:Nat}{v:Value}(h:w.ownsRow base 133 4 v 1 [.string webB,.string suitesB,.string rc4B,.int .i64 2]):RowS w base v:=by
 have hc:= @World.ownsRow.cells
 rcases h.2 with ⟨_,h0⟩|⟨g,cap,cur,rfl,hb,hg,h1,h2,_,_⟩
 ·cases h0
 ·have hcell:=fun j u=>h.cells (g:=g) rfl j u
  simp only [addr_add,Nat.zero_add] at hcell
  exact ⟨g,cap,rfl,hb,(Array.getElem?_eq_some_iff.1 hg).1,h1,h2,hcell 0 _ rfl,hcell 1 _ rfl,hcell 2 _ rfl,hcell 3 _ rfl⟩
theorem RowS.below {w w':World}{base:Nat}{v:Value}(h:RowS w base v)(hb:Below w.heap.size w w'):RowS w' base v:=by
 obtain ⟨ob,oc,rfl,h1,h2,h3,h4,c0,c1,c2,c3⟩:=h
 have f:=fun j=>World.cell?_of_block (w:=w) (a:=⟨ob,j,none⟩) (hb.block ob h2)
 exact ⟨ob,oc,rfl,h1,Nat.lt_of_lt_of_le h2 hb.size,h3,h4,(f 0).trans c0,(f 1).trans c1,(f 2).trans c2,(f 3).trans c3⟩
theorem fin2_res {X:Nat->Nat->Prop}{w w':World}(h:Fin2 X w)(hs:w.heap.size<w'.heap.size)(hb:Below w.heap.size w w'):Fin2 (fun b q=>X b q∨b=w.heap.size) w':=by
 refine ⟨fun b q hx=> ?_,fun g hg=> ?_⟩
 ·rcases hx with hx|rfl
  ·exact Nat.lt_of_lt_of_le (h.fin b q hx) hb.size
  ·exact hs
 ·obtain ⟨h1,h2,h3⟩:=h.tab g hg
  refine ⟨Nat.lt_of_lt_of_le h1 hb.size,fun o ho=> ?_,fun i=>by rw [World.cell?_of_block (w:=w) (a:=⟨g,i,none⟩) (hb.block g h1)];exact h3 i⟩
  rcases ho with ho|ho
  ·exact h2 o ho
  ·omega
theorem fr_set {d i:Nat}{w w':World}{u:Value}(h:Fr [d] w w'):Fr [d] w (w'.setCell ⟨d,i,none⟩ u):=
 ⟨h.os,h.tape,h.output,by simpa [World.setCell] using h.size,fun b hb hn=>(Below.heap_setCell _ _ _ _ (by simpa using hn)).trans (h.keep b hb hn)⟩
theorem oat_below {X:Nat->Nat->Prop}{w w':World}{σ:Pl}{v:V}{d:Nat}(h:OAt X w σ 50000 (.box v))(hσ:σ 50000= .box d)(hd:d<w.heap.size)(hv:v.refs=[])(hb:Below w.heap.size w w'):OAt X w' σ 50000 (.box v):=
 h.ext0 ⟨hb.size,fun b o hlt hx=>⟨hx,World.cell?_of_block (hb.block b hlt)⟩⟩ rfl (by rw [show (VO.box v).refs=v.refs from rfl,hv];simp) fun b hb'=>⟨hb.block b (by
  rw [hσ] at hb'
  injection hb' with hb'
  subst hb'
  exact hd),fun _ h=>h⟩
theorem oat_all {X:Nat->Nat->Prop}{w:World}{σ:Pl}{v:V}{d:Nat}(h:OAt X w σ 50000 (.box v))(hσ:σ 50000= .box d): ∀ o,X d o:=by
 obtain ⟨b,ty,vs,e1,e2,e3,e4⟩:=h
 rw [hσ] at e1
 injection e1 with e1
 subst e1
 exact e4
theorem blk_fr {w w':World}{b d:Nat}{T:TypeId}{cs:Array Value}(h:Go.Proofs.YticnbacafmeiiaaGreatDoor.Blk w b T cs)(hf:Fr [d] w w')(hne:b≠d):Go.Proofs.YticnbacafmeiiaaGreatDoor.Blk w' b T cs:=(hf.keep b h.lt (by simpa using hne)).trans h
theorem below_fr {n:Nat}{w w1 w':World}{d:Nat}(h:Below n w w1)(hf:Fr [d] w1 w')(hd:n<=d)(hn:n<=w1.heap.size):Below n w w':=
 h.trans ⟨hf.os,hf.tape,hf.output,hf.size,fun k hk=>hf.keep k (Nat.lt_of_lt_of_le hk hn) (by simp;omega)⟩
theorem fin2_fr {X:Nat->Nat->Prop}{w w':World}{d:Nat}(h:Fin2 X w)(hf:Fr [d] w w')(hX: ∀ o,X d o):Fin2 X w':=
 ⟨fun b q hx=>Nat.lt_of_lt_of_le (h.fin b q hx) hf.size,h.tab.ext ⟨hf.size,fun b o hb hx=>⟨hx,World.cell?_of_block (hf.keep b hb (by simp;intro e;subst e;exact hx (hX o)))⟩⟩⟩
theorem slc_tail {ob oc:Nat}(h1:1<=oc)(h2:oc<=maxLen): ∃ A c,c<=maxLen∧ ∀ w:World,(Instr.slice 59 (.slice (some ⟨ob,0,none⟩) 1 oc) (some (.int .i64 1)) none none).run Tryz.prog w= .ok (.slice A 0 c) w:=by
 refine ⟨some ⟨ob,if oc=1 then 0 else 4,none⟩,oc-1,by omega,fun w=> ?_⟩
 have hsz: ∀ w:World,(sizeOf 133).run Tryz.prog w= .ok 4 w:=fun w=>by kernel_rfl
 by_cases h:oc=1
 ·subst h
  simp [Instr.slice,Instr.sliceAt,run_underlying Tryz.underlying59,Instr.sliceBounds,hsz,run_bound]
 ·simp [Instr.slice,Instr.sliceAt,run_underlying Tryz.underlying59,Instr.sliceBounds,hsz,run_bound,h,addr_add]
theorem fn_nil (w:World)(d:Nat):(binOp .eql 138 (.func (.func 110) #[.pointer (some ⟨d,0,none⟩)] #[]) .nilFunc).run Tryz.prog w= .ok (.bool false) w:=by
 kernel_rfl
set_option maxRecDepth 100000 in
set_option maxHeartbeats 4000000 in
theorem from_any {X:Nat->Nat->Prop}{w:World}(hfin:Fin2 X w)(A:Option Addr)(c:Nat)(hC:C X w nowhere (.sl 1 ([paS].flatMap tySetting.cells)) (.slice A 1 c)):
  Calls Tryz.prog 17 #[.slice A 1 c,.string webB,.slice none 0 0] w fun en w'=> ∃ u,en= .returned (.tuple #[u,.int .i64 0,.int .i64 0])/\C X w' nowhere (tyEndpoint.d feEp) u/\Below w.heap.size w w':=by
 obtain ⟨g,off,c',vs,e1,hg,hvs,hcell⟩:=row_gen (y:=tySetting) (l:=[paS]) (k:=0) (x:=paS) hC rfl
 injection e1 with e1 e0 e2
 clear e0
 subst e1 e2
 have hvs:Cs X w nowhere [.v (.string webB),.v (.string suitesB),.v (.string rc4B),.v (.int .i64 2)] vs:=hvs
 obtain ⟨v0,r0,rfl,⟨rfl,p0⟩,v1,r1,rfl,⟨rfl,p1⟩,v2,r2,rfl,⟨rfl,p2⟩,v3,r3,rfl,⟨rfl,p3⟩,rfl⟩:=hvs
 have c0:w.cell? ⟨g,off,none⟩=some (.string webB):=by have:=hcell 0 _ rfl;simpa using this
 have c1:w.cell? ⟨g,off+1,none⟩=some (.string suitesB):=by have:=hcell 1 _ rfl;simpa using this
 have c2:w.cell? ⟨g,off+2,none⟩=some (.string rc4B):=by have:=hcell 2 _ rfl;simpa using this
 have c3:w.cell? ⟨g,off+3,none⟩=some (.int .i64 2):=by have:=hcell 3 _ rfl;simpa using this
 have HF:=Lib.hid hfin
 have C0:=Lib.hid c0
 have C1:=Lib.hid c1
 have C2:=Lib.hid c2
 have C3:=Lib.hid c3
 have HG:=Lib.hid hg
 clear hfin hC hcell c0 c1 c2 c3 hg p0 p1 p2 p3 hvs
 go_enter Tryz.func17,Tryz.ntmps17
 go_wp2_with (go_at_call 55;refine (early_calls (X:=X) (fin2_below HF.out ((Below.refl _ _).alloc (Nat.le_refl _) _))).mono ?_;rintro e w1 ⟨rfl,hb1⟩;have HRB:=Lib.hid ((Go.Proofs.YticnbacafmeiiaaGreatDoor.Blk.new w 64 #[.string eB,.int .i64 0,.int .i64 0,.slice none 0 0,.bool false,.slice none 0 0,.slice none 0 0,.slice none 0 0,.bool false]).below hb1 (by simp));have HB1:=Lib.hid (((Below.refl w.heap.size w).alloc (Nat.le_refl _) (.cells #[.string eB,.int .i64 0,.int .i64 0,.slice none 0 0,.bool false,.slice none 0 0,.slice none 0 0,.slice none 0 0,.bool false] 64)).trans (hb1.mono (by simp)));clear hb1)
 go_loopw [10,12,29] (fun ov _ iv wr=>((iv= .int .i64 0/\ov= .slice none 0 0)∨(iv= .int .i64 1/\RowS wr w.heap.size ov))/\Below w1.heap.size w1 wr) (fun _ _ iv _=>1-(intOf iv).toNat)
 case atStart=>exact ⟨.inl ⟨rfl,rfl⟩,Below.refl _ _⟩
 case round=>
  obtain ⟨hcase,hbw⟩:=hrel
  have HBW:=Lib.hid hbw
  have HW:=Lib.hid (HB1.out.trans (hbw.mono HB1.out.size))
  clear hbw
  have hwb:(webB.toList==webB.toList)=true:=beq_self_eq_true _
  rcases hcase with ⟨rfl,rfl⟩|⟨rfl,hrow⟩
  ·have d0:=(HW.out.cell (p:=⟨g,off,none⟩) HG.out).trans C0.out
   have d1:=(HW.out.cell (p:=⟨g,off+1,none⟩) HG.out).trans C1.out
   have d2:=(HW.out.cell (p:=⟨g,off+2,none⟩) HG.out).trans C2.out
   have d3:=(HW.out.cell (p:=⟨g,off+3,none⟩) HG.out).trans C3.out
   have hsl:=Sl.made (wr.alloc (.cells #[.string webB,.string suitesB,.string rc4B,.int .i64 2] 133)) 133 1 4 #[.string webB,.string suitesB,.string rc4B,.int .i64 2] rfl (by decide)
   rw [show (wr.alloc (.cells #[.string webB,.string suitesB,.string rc4B,.int .i64 2] 133)).heap.size=wr.heap.size+1 from by simp] at hsl
   have HSL:=Lib.hid hsl
   clear hsl
   go_wp2_with (at_builtin;go_loud (refine wpList_app elemStg rfl _ _ rfl w.heap.size (.slice none 0 0) 0 [] rfl (World.ownsRow_nil _ _ _ _) _ 1 1 [.string webB,.string suitesB,.string rc4B,.int .i64 2] rfl HSL.out (by simp [Value.oneCell']) (by omega) (by omega) (by have:=HW.out.size;simp;omega) ?_;intro v' w4 hown4 hg4 hat4;have HOWN:=Lib.hid hown4;have HG4:=Lib.hid hg4;clear hown4 hg4 hat4))
   exact ⟨⟨.inr ⟨rfl,rowS_of HOWN.out⟩,((HBW.out.alloc HBW.out.size _).alloc (by have:=HBW.out.size;simp;omega) _).grown HG4.out (by have:=HBW.out.size;simp;omega) (fun _ h=>by cases h)⟩,by simp [intOf]⟩
  ·have HROW:=Lib.hid hrow
   obtain ⟨ob,oc,rfl,o1,o2,o3,o4,q0,q1,q2,q3⟩:=hrow
   have HFR:Hid (Fin2 (fun b q=>X b q∨b=w.heap.size) wr):=Lib.hid (fin2_res HF.out (Nat.lt_of_lt_of_le HRB.out.lt HBW.out.size) HW.out)
   have HR2:=Lib.hid (HRB.out.below HBW.out HRB.out.lt)
   clear o1 o2 o3 o4 q0 q1 q2 q3 hwb
   have hn: ¬ (1:Int)<1:=by omega
   go_wp2_with (first
    |(go_at_call 56;refine (begin_calls HFR.out).mono ?_;rintro e w3 ⟨d,X1,σ1,rfl,hd,hO,hF1,hd1,hd2,hX,hb3⟩;have HD:=Lib.hid hd;have HO:=Lib.hid hO;have HF1:=Lib.hid hF1;have HD1:=Lib.hid hd1;have HD2:=Lib.hid hd2;have HX:=Lib.hid hX;have HB3:=Lib.hid hb3;clear hd hO hF1 hd1 hd2 hX hb3)
    |(go_at_call 57;refine (words_any d _).mono ?_;rintro e w5 ⟨bm,es,clk,rfl,hm1,hm2,hm3,hb5⟩;have HM1:=Lib.hid hm1;have HM2:=Lib.hid hm2;have HM3:=Lib.hid hm3;have HB5:=Lib.hid hb5;clear hm1 hm2 hm3 hb5))
   have HROW3:=Lib.hid (HROW.out.below HB3.out)
   have HROW5:=Lib.hid (HROW3.out.below HB5.out)
   have HMB:=Lib.hid ((Array.getElem?_eq_some_iff.1 HM2.out).1)
   go_loopw [16,53] (fun _ iv wz=>(iv= .int .i64 0∨iv= .int .i64 1)/\Hid (Below w5.heap.size w5 wz)) (fun _ iv _=>1-(intOf iv).toNat)
   case atStart=>exact ⟨.inl rfl,Lib.hid (Below.refl _ _)⟩
   case round=>
    obtain ⟨hcase,HZ⟩:=hrel
    have HROWZ:=Lib.hid (HROW5.out.below HZ.out)
    rcases hcase with rfl|rfl
    ·obtain ⟨ob',oc',e1,o1,o2,o3,o4,q0,q1,q2,q3⟩:=HROWZ.out
     injection e1 with e1 e0 e2
     injection e1 with e1
     injection e1 with e1
     subst e1
     have hm:=(Below.heap_alloc wr (.cells #[.string webB,.string suitesB,.string rc4B,.int .i64 2] 133) bm (Nat.lt_of_lt_of_le HMB.out HZ.out.size)).trans ((HZ.out.block bm HMB.out).trans HM2.out)
     have HL:=Lib.hid (look_run hm HM3.out)
     clear e0 e2 hm o1 o2 o3 o4
     go_wp2_with fail
     rw [HL.out]
     go_wp2_with fail
     rw [fn_nil]
     go_wp2_with fail
     exact ⟨⟨.inr rfl,Lib.hid (HZ.out.alloc HZ.out.size _)⟩,by simp [intOf]⟩
    ·have hn2: ¬ (1:Int)<1:=by omega
     go_wp2_with fail
     go_loopw [17,18,19,68] (fun _ _ _ iv wz=>((iv= .int .i64 0/\Hid (Below w5.heap.size w5 wz))∨(iv= .int .i64 1/\Hid (OAt X1 wz σ1 50000 (duD [1,2])/\Below w.heap.size w wz/\Go.Proofs.YticnbacafmeiiaaGreatDoor.Blk wz w.heap.size 64 #[.string eB,.int .i64 0,.int .i64 0,.slice none 0 0,.bool false,.slice none 0 0,.slice none 0 0,.slice none 0 0,.bool false]/\Fin2 X1 wz)))) (fun _ _ _ iv _=>1-(intOf iv).toNat)
     case atStart=>exact .inl ⟨rfl,HZ⟩
     case round=>
      rcases hrel with ⟨rfl,HQ⟩|⟨rfl,HQ⟩
      ·have HROWQ:=Lib.hid (HROW5.out.below HQ.out)
       obtain ⟨ob',oc',e1,o1,o2,o3,o4,q0,q1,q2,q3⟩:=HROWQ.out
       injection e1 with e1 e0 e2
       injection e1 with e1
       injection e1 with e1
       subst e1 e2
       have O4:=Lib.hid o4
       clear e0 o1 o2 o4
       go_wp2_with fail
       have hka:=Go.Proofs.YticnbacafmeiiaaGreatDoor.Blk.new wr 133 #[.string webB,.string suitesB,.string rc4B,.int .i64 2]
       have HKA:=Lib.hid hka
       have k0:=hka.cell 0
       have k1:=hka.cell 1
       have k2:=hka.cell 2
       have k3:=hka.cell 3
       simp only [List.getElem?_toArray,List.getElem?_cons_zero,List.getElem?_cons_succ] at k0 k1 k2 k3
       have hm:=(Below.heap_alloc wr (.cells #[.string webB,.string suitesB,.string rc4B,.int .i64 2] 133) bm (Nat.lt_of_lt_of_le HMB.out HQ.out.size)).trans ((HQ.out.block bm HMB.out).trans HM2.out)
       have HWA:=Lib.hid (HQ.out.alloc HQ.out.size (.cells #[.string webB,.string suitesB,.string rc4B,.int .i64 2] 133))
       obtain ⟨kb,hkb⟩: ∃ kb,kb=wr.heap.size:=⟨_,rfl⟩
       obtain ⟨wa,hwa⟩: ∃ wa,wa=wr.alloc (.cells #[.string webB,.string suitesB,.string rc4B,.int .i64 2] 133):=⟨_,rfl⟩
       have HKB:=Lib.hid (show w5.heap.size<=kb by rw [hkb];exact HQ.out.size)
       rw [←hwa, ← hkb] at k0 k1 k2 k3 HKA ⊢
       rw [←hwa] at HWA hm
       clear hka hkb hwa q0 q1 q2 q3
       refine wp_region_held_drew (S:=fun w'=>(w'.cell? ⟨kb,0,none⟩=some (.string webB)/\w'.cell? ⟨kb,1,none⟩=some (.string suitesB)/\w'.cell? ⟨kb,2,none⟩=some (.string rc4B)/\w'.cell? ⟨kb,3,none⟩=some (.int .i64 2))/\w'.heap[bm]? = some (.map es clk)) (by kernel_rfl) ⟨⟨k0,k1,k2,k3⟩,hm⟩ (fun hS=> ?_)
       obtain ⟨A',c',hc',hsl⟩:=slc_tail (ob:=ob) o3 O4.out
       have HSL:=Lib.hid hsl
       have HC':=Lib.hid hc'
       clear hsl hc' k0 k1 k2 k3 hm
       refine anyH_val 0 74 (.slice (some ⟨ob,0,none⟩) 1 oc) (by assumption) rfl (by kernel_rfl) (by kernel_rfl) (by kernel_rfl) (fun o ho=>by cases ho;exact ⟨rfl,fun w hw=>by obtain ⟨⟨hw0,hw1,hw2,hw3⟩,hw4⟩:=hw;go_simp⟩) (fun _ _ _ _ _ h=>h) ?_
       simp only [List.setIfInBounds_toArray,List.set_cons_zero,List.set_cons_succ]
       refine anyH_val 1 75 (.int .i64 0) (by assumption) rfl (by kernel_rfl) (by kernel_rfl) (by kernel_rfl) (fun o ho=>by cases ho;exact ⟨rfl,fun w hw=>by obtain ⟨⟨hw0,hw1,hw2,hw3⟩,hw4⟩:=hw;go_simp⟩) (fun _ _ _ _ _ h=>h) ?_
       simp only [List.setIfInBounds_toArray,List.set_cons_zero,List.set_cons_succ]
       refine anyH_val 2 76 (.int .i64 1) (by assumption) rfl (by kernel_rfl) (by kernel_rfl) (by kernel_rfl) (fun o ho=>by cases ho;exact ⟨rfl,fun w hw=>by go_simp;rfl⟩) (fun _ _ _ _ _ h=>h) ?_
       simp only [List.setIfInBounds_toArray,List.set_cons_zero,List.set_cons_succ]
       refine anyH_val 3 77 (.slice A' 0 c') (by assumption) rfl (by kernel_rfl) (by kernel_rfl) (by kernel_rfl) (fun o ho=>by cases ho;exact ⟨rfl,fun w hw=>by show ((Instr.slice 59 (.slice (some ⟨ob,0,none⟩) 1 oc) (some (.int .i64 1)) none none).run Tryz.prog w).andThen (fun v w=> .ok (Next.value v) w)=_;rw [HSL.out w];rfl⟩) (fun _ _ _ _ _ h=>h) ?_
       simp only [List.setIfInBounds_toArray,List.set_cons_zero,List.set_cons_succ]
       refine anyH_val 4 78 (.func (.func 58) #[] #[.pointer (some ⟨kb,0,none⟩)]) (by assumption) rfl (by kernel_rfl) (by kernel_rfl) (by kernel_rfl) (fun o ho=>by cases ho;exact ⟨rfl,fun w hw=>by obtain ⟨⟨hw0,hw1,hw2,hw3⟩,hw4⟩:=hw;go_simp⟩) (fun _ _ _ _ _ h=>h) ?_
       simp only [List.setIfInBounds_toArray,List.set_cons_zero,List.set_cons_succ]
       refine wpAnyH_ready (rs:=[5]) (by kernel_rfl) (by simp) ?_
       refine AllReadyH.cons rfl (fun K hK=> ?_) AllReadyH.nil
       go_simp
       have hFA:=fin2_below (fin2_below HF1.out HB5.out) HWA.out.drew
       (go_at_call 59;refine (again_calls hFA A' c' HC'.out _ rfl).mono ?_;rintro e w6 ⟨rfl,hb6⟩)
       have HB6:=Lib.hid (((Below.refl wa.heap.size wa).drew).trans hb6)
       have hk6:=HKA.out.below HB6.out HKA.out.lt
       have HK6:=Lib.hid hk6
       have m0:=hk6.cell 0
       have m1:=hk6.cell 1
       have m2:=hk6.cell 2
       have m3:=hk6.cell 3
       simp only [List.getElem?_toArray,List.getElem?_cons_zero,List.getElem?_cons_succ] at m0 m1 m2 m3
       have hm6:w6.heap[bm]? = some (.map es clk):=(HB6.out.block bm (Nat.lt_of_lt_of_le HMB.out HWA.out.size)).trans ((HWA.out.block bm HMB.out).trans HM2.out)
       have HM6:=Lib.hid hm6
       clear hb6 hk6 hFA
       go_wp2_with fail
       refine hK.out _ _ ⟨⟨m0,m1,m2,m3⟩,hm6⟩ (fun hS=> ?_)
       clear hK K
       (try simp only [Act.put,List.setIfInBounds_toArray,List.set_cons_zero,List.set_cons_succ])
       refine anyH_val 6 80 (.bool true) (by assumption) rfl (by kernel_rfl) (by kernel_rfl) (by kernel_rfl) (fun o ho=>by cases ho;exact ⟨rfl,fun w hw=>by obtain ⟨⟨hw0,hw1,hw2,hw3⟩,hw4⟩:=hw;go_simp⟩) (fun _ _ _ _ _ h=>h) ?_
       simp only [List.setIfInBounds_toArray,List.set_cons_zero,List.set_cons_succ]
       refine anyH_val 7 81 (.bool true) (by assumption) rfl (by kernel_rfl) (by kernel_rfl) (by kernel_rfl) (fun o ho=>by cases ho;exact ⟨rfl,fun w hw=>by obtain ⟨⟨hw0,hw1,hw2,hw3⟩,hw4⟩:=hw;go_simp⟩) (fun _ _ _ _ _ h=>h) ?_
       simp only [List.setIfInBounds_toArray,List.set_cons_zero,List.set_cons_succ]
       refine anyH_val 8 82 (.map (some bm)) (by assumption) rfl (by kernel_rfl) (by kernel_rfl) (by kernel_rfl) (fun o ho=>by cases ho;exact ⟨rfl,fun w hw=>by obtain ⟨⟨hw0,hw1,hw2,hw3⟩,hw4⟩:=hw;go_simp⟩) (fun _ _ _ _ _ h=>h) ?_
       simp only [List.setIfInBounds_toArray,List.set_cons_zero,List.set_cons_succ]
       refine anyH_val 9 83 (.pointer (some ⟨kb,1,none⟩)) (by assumption) rfl (by kernel_rfl) (by kernel_rfl) (by kernel_rfl) (fun o ho=>by cases ho;exact ⟨rfl,fun w hw=>by obtain ⟨⟨hw0,hw1,hw2,hw3⟩,hw4⟩:=hw;go_simp⟩) (fun _ _ _ _ _ h=>h) ?_
       simp only [List.setIfInBounds_toArray,List.set_cons_zero,List.set_cons_succ]
       refine anyH_val 10 84 (.string suitesB) (by assumption) rfl (by kernel_rfl) (by kernel_rfl) (by kernel_rfl) (fun o ho=>by cases ho;exact ⟨rfl,fun w hw=>by obtain ⟨⟨hw0,hw1,hw2,hw3⟩,hw4⟩:=hw;go_simp⟩) (fun _ _ _ _ _ h=>h) ?_
       simp only [List.setIfInBounds_toArray,List.set_cons_zero,List.set_cons_succ]
       refine anyH_val 11 85 (.func (.func 110) #[.pointer (some ⟨d,0,none⟩)] #[]) (by assumption) rfl (by kernel_rfl) (by kernel_rfl) (by kernel_rfl) (fun o ho=>by cases ho;exact ⟨rfl,fun w hw=>by obtain ⟨hw0,hw4⟩:=hw;have q:=look_run hw4 HM3.out;clear hw0 hw4;go_simp⟩) (fun _ _ _ _ _ h=>h) ?_
       simp only [List.setIfInBounds_toArray,List.set_cons_zero,List.set_cons_succ]
       refine anyH_val 12 86 paV (by assumption) rfl (by kernel_rfl) (by kernel_rfl) (by kernel_rfl) (fun o ho=>by cases ho;exact ⟨rfl,fun w hw=>by obtain ⟨⟨hw0,hw1,hw2,hw3⟩,hw4⟩:=hw;go_simp⟩) (fun _ _ _ _ _ h=>h) ?_
       simp only [List.setIfInBounds_toArray,List.set_cons_zero,List.set_cons_succ]
       refine wpAnyH_ready (rs:=[13]) (by kernel_rfl) (by simp) ?_
       refine AllReadyH.cons rfl (fun K hK=> ?_) AllReadyH.nil
       go_simp
       have hF6:=fin2_below (fin2_below (fin2_below HF1.out HB5.out) HWA.out) HB6.out
       (go_at_call 60;refine (values_calls hF6).mono ?_;rintro e w7 ⟨sv,rfl,hsv,hb7⟩)
       have HB7:=Lib.hid hb7
       have HSV:=Lib.hid hsv
       have HF7:=Lib.hid (fin2_below hF6 hb7)
       have hk7:=HK6.out.below hb7 HK6.out.lt
       have HK7:=Lib.hid hk7
       have m0:=hk7.cell 0
       have m1:=hk7.cell 1
       have m2:=hk7.cell 2
       have m3:=hk7.cell 3
       simp only [List.getElem?_toArray,List.getElem?_cons_zero,List.getElem?_cons_succ] at m0 m1 m2 m3
       have hm7:w7.heap[bm]? = some (.map es clk):=(hb7.block bm (Array.getElem?_eq_some_iff.1 HM6.out).1).trans HM6.out
       have HM7:=Lib.hid hm7
       clear hsv hb7 hk7 hF6
       go_wp2_with fail
       refine hK.out _ _ ⟨⟨m0,m1,m2,m3⟩,hm7⟩ (fun hS=> ?_)
       clear hK K
       (try simp only [Act.put,List.setIfInBounds_toArray,List.set_cons_zero,List.set_cons_succ])
       refine wpAnyH_ready (rs:=[14]) (by kernel_rfl) (by simp) ?_
       refine AllReadyH.cons rfl (fun K hK=> ?_) AllReadyH.nil
       go_simp
       have hb37:Below w3.heap.size w3 w7:=((HB5.out.trans (HWA.out.mono HB5.out.size)).trans (HB6.out.mono (Nat.le_trans HB5.out.size HWA.out.size))).trans (HB7.out.mono (Nat.le_trans (Nat.le_trans HB5.out.size HWA.out.size) HB6.out.size))
       have hO7:=oat_below HO.out HD.out HD2.out rfl hb37
       refine (list_calls HF7.out HD.out hO7 HSV.out).mono ?_
       rintro e w8 ⟨rfl,hO8,hfr8⟩
       have hdk:kb≠d:=by have:=HKB.out;have:=HB5.out.size;have:=HD2.out;omega
       have hk8:=blk_fr HK7.out hfr8 hdk
       have m0:=hk8.cell 0
       have m1:=hk8.cell 1
       have m2:=hk8.cell 2
       have m3:=hk8.cell 3
       simp only [List.getElem?_toArray,List.getElem?_cons_zero,List.getElem?_cons_succ] at m0 m1 m2 m3
       have hm8:w8.heap[bm]? = some (.map es clk):=(hfr8.keep bm (Array.getElem?_eq_some_iff.1 HM7.out).1 (by have:=HM1.out;have:=HD2.out;simp;omega)).trans HM7.out
       have HO8:=Lib.hid hO8
       have HFR8:=Lib.hid hfr8
       have HB07:Hid (Below w.heap.size w w7):=Lib.hid ((HW.out.trans (HB3.out.mono HW.out.size)).trans (hb37.mono (Nat.le_trans HW.out.size HB3.out.size)))
       have hrd:w.heap.size≠d:=by have:=HR2.out.lt;have:=HD1.out;omega
       have HR8:=Lib.hid (blk_fr ((HR2.out.below HB3.out HR2.out.lt).below hb37 (Nat.lt_of_lt_of_le HR2.out.lt HB3.out.size)) hfr8 hrd)
       have HB8:Hid (Below w.heap.size w w8):=Lib.hid (below_fr HB07.out hfr8 (by have:=HW.out.size;have:=HD1.out;omega) HB07.out.size)
       have HF8:=Lib.hid (fin2_fr HF7.out hfr8 (oat_all hO7 HD.out))
       clear hb37 hO7 hO8 hfr8 hdk hk8 hrd
       go_wp2_with fail
       refine hK.out _ _ ⟨⟨m0,m1,m2,m3⟩,hm8⟩ (fun hS=> ?_)
       clear hK K
       (try simp only [Act.put,List.setIfInBounds_toArray,List.set_cons_zero,List.set_cons_succ])
       refine anyH_val 15 89 (.bool false) (by assumption) rfl (by kernel_rfl) (by kernel_rfl) (by kernel_rfl) (fun o ho=>by cases ho;exact ⟨rfl,fun w hw=>by obtain ⟨⟨hw0,hw1,hw2,hw3⟩,hw4⟩:=hw;go_simp⟩) (fun _ _ _ _ _ h=>h) ?_
       simp only [List.setIfInBounds_toArray,List.set_cons_zero,List.set_cons_succ]
       refine anyH_val 16 90 (.bool false) (by assumption) rfl (by kernel_rfl) (by kernel_rfl) (by kernel_rfl) (fun o ho=>by cases ho;exact ⟨rfl,fun w hw=>by obtain ⟨⟨hw0,hw1,hw2,hw3⟩,hw4⟩:=hw;go_simp⟩) (fun _ _ _ _ _ h=>h) ?_
       simp only [List.setIfInBounds_toArray,List.set_cons_zero,List.set_cons_succ]
       refine wpAnyH_done (by kernel_rfl) ?_ _
       go_wp2_with fail
       exact ⟨.inr ⟨rfl,Lib.hid ⟨HO8.out,HB8.out,HR8.out,HF8.out⟩⟩,by simp [intOf]⟩
      ·obtain ⟨hO,hB,hR,hF⟩:=HQ.out
       have HO2:=Lib.hid hO
       have HB2:=Lib.hid hB
       have HR3:=Lib.hid hR
       have HF2:=Lib.hid hF
       have hrd:w.heap.size≠d:=by have:=HR2.out.lt;have:=HD1.out;omega
       have HRD:=Lib.hid hrd
       clear hO hB hR hF hrd
       have hn3: ¬ (1:Int)<1:=by omega
       go_wp2_with (go_at_call 61;refine (finish_calls HF2.out HD.out HO2.out).mono ?_;rintro e w9 ⟨u,rfl,hu,hfr9⟩;have HU:=Lib.hid hu;have HFR9:=Lib.hid hfr9;obtain ⟨A1,e1,A2,e2,A3,e3,A4,e4,rfl⟩:=ep_val hu;have hb9:=blk_fr HR3.out hfr9 HRD.out;have HB9:=Lib.hid hb9;have z0:=hb9.cell 0;have z1:=hb9.cell 1;have z2:=hb9.cell 2;have z3:=hb9.cell 3;have z4:=hb9.cell 4;have z5:=hb9.cell 5;have z6:=hb9.cell 6;have z7:=hb9.cell 7;have z8:=hb9.cell 8;simp only [List.getElem?_toArray,List.getElem?_cons_zero,List.getElem?_cons_succ] at z0 z1 z2 z3 z4 z5 z6 z7 z8;have f0:=hb9.frozen 0;have f1:=hb9.frozen 1;have f2:=hb9.frozen 2;have f3:=hb9.frozen 3;have f4:=hb9.frozen 4;have f5:=hb9.frozen 5;have f6:=hb9.frozen 6;have f7:=hb9.frozen 7;have f8:=hb9.frozen 8;clear hb9 hu hfr9)
       obtain ⟨wz,hwz⟩: ∃ wz,wz=(((((((((w9.setCell ⟨w.heap.size,0,none⟩ (.string webB)).setCell ⟨w.heap.size,1,none⟩ (.int .i64 1)).setCell ⟨w.heap.size,2,none⟩ (.int .i64 4)).setCell ⟨w.heap.size,3,none⟩ (.slice A1 2 e1)).setCell ⟨w.heap.size,4,none⟩ (.bool false)).setCell ⟨w.heap.size,5,none⟩ (.slice A2 0 e2)).setCell ⟨w.heap.size,6,none⟩ (.slice A3 0 e3)).setCell ⟨w.heap.size,7,none⟩ (.slice A4 0 e4)).setCell ⟨w.heap.size,8,none⟩ (.bool false)):=⟨_,rfl⟩
       have hbz:Go.Proofs.YticnbacafmeiiaaGreatDoor.Blk wz w.heap.size 64 #[.string webB,.int .i64 1,.int .i64 4,.slice A1 2 e1,.bool false,.slice A2 0 e2,.slice A3 0 e3,.slice A4 0 e4,.bool false]:=by
        rw [hwz]
        exact (((((((((HB9.out.set_ 0 (.string webB)).set_ 1 (.int .i64 1)).set_ 2 (.int .i64 4)).set_ 3 (.slice A1 2 e1)).set_ 4 (.bool false)).set_ 5 (.slice A2 0 e2)).set_ 6 (.slice A3 0 e3)).set_ 7 (.slice A4 0 e4)).set_ 8 (.bool false))
       have hfz:Fr [w.heap.size] w9 wz:=by
        rw [hwz]
        exact (fr_set (fr_set (fr_set (fr_set (fr_set (fr_set (fr_set (fr_set (fr_set (Fr.refl [w.heap.size] w9))))))))))
       rw [←hwz]
       clear hwz z0 z1 z2 z3 z4 z5 z6 z7 z8 f0 f1 f2 f3 f4 f5 f6 f7 f8
       have y0:=hbz.cell 0
       have y1:=hbz.cell 1
       have y2:=hbz.cell 2
       have y3:=hbz.cell 3
       have y4:=hbz.cell 4
       have y5:=hbz.cell 5
       have y6:=hbz.cell 6
       have y7:=hbz.cell 7
       have y8:=hbz.cell 8
       simp only [List.getElem?_toArray,List.getElem?_cons_zero,List.getElem?_cons_succ] at y0 y1 y2 y3 y4 y5 y6 y7 y8
       have HFZ:=Lib.hid hfz
       refine bodyPost_ret (by simp [results,Tryz.results17,go_sem,y0,y1,y2,y3,y4,y5,y6,y7,y8];rfl) rfl ?_
       refine ⟨_,rfl, ?_,below_fr (below_fr HB2.out HFR9.out (by have:=HW.out.size;have:=HD1.out;omega) HB2.out.size) HFZ.out (Nat.le_refl _) (Nat.le_trans HB2.out.size HFR9.out.size)⟩
       exact C.ext0 ⟨HFZ.out.size,fun b o hb hx=>⟨fun h=>hx (HX.out b o (Nat.lt_of_lt_of_le (HF.out.fin b o h) HW.out.size) (.inl h)),World.cell?_of_block (HFZ.out.keep b hb (by
        simp only [List.mem_singleton]
        intro e
        subst e
        exact hx (HX.out _ o HR2.out.lt (.inr rfl))))⟩⟩ _ _ (by intro k hk;cases hk) HU.out
end
end Go.Proofs.YticnbacafmeiiaaGreatDoor.K
namespace Go.Proofs.YticnbacafmeiiaaGreatDoor.K
open Go.RowKit
noncomputable section
theorem el_meets {l:List (Nat×Ent)}(h: ∀ p∈l,Entered Tryz.prog p.1/\Meets Tryz.prog p.1 (strip p.2))(f:Nat):Meets Tryz.prog f (strip (EL l f)):=by
 intro args objs r os hF X w σ vs hfin hl hc
 unfold strip at hF
 split at hF
 ·rename_i r' os' hq
  obtain ⟨F,hm,hF'⟩:=EL_mem hq
  exact (h _ hm).2 args objs r os (by unfold strip;simp only [hF'];exact hF) X w σ vs hfin hl hc
 ·cases hF
def fsOk (x:(Ty.pr (.sl tySetting) (.pr .str .nil)).T):Bool:=match x.1 with
 | [s]=>seq s.1 webB&&(seq s.2.1 suitesB&&(seq s.2.2.1 rc4B&&(ieq s.2.2.2.1 2&&seq x.2.1 webB)))
 |_=>false
def fsR:V:= .tu [.t tyEndpoint feEp,.t tI 0,.t tI 0]
def fsE:Ent:=fun args objs=>match args,objs with
 | [a,b,.c (.slice none 0 0)],[]=>match (Ty.pr (.sl tySetting) (.pr .str .nil)).args [a,b] with
  |some x=>some (fsOk x,fsR,[])
  |none=>none
 |_,_=>none
theorem ms_fs:Meets Tryz.prog 17 (strip fsE):=by
 intro args objs r os hF X w σ vs hfin hl hc
 unfold strip fsE at hF
 split at hF
 ·rename_i r' os' hq
  simp only [Option.some.injEq,Prod.mk.injEq] at hF
  obtain ⟨rfl,rfl⟩:=hF
  split at hq
  ·rename_i a b
   split at hq
   ·rename_i x hx
    simp only [Option.some.injEq,Prod.mk.injEq] at hq
    obtain ⟨hok,rfl,rfl⟩:=hq
    simp only [V.ds,Cs] at hc
    obtain ⟨v1,q1,rfl,hc1,v2,q2,rfl,hc2,v3,q3,rfl,hc3,rfl⟩:=hc
    have hc3:v3= .slice none 0 0/\_:=hc3
    obtain ⟨rfl,_⟩:=hc3
    have hcc:=canon_cs (vs:=[v1,v2]) hx ⟨_,_,rfl,hc1,_,_,rfl,hc2,rfl⟩
    obtain ⟨ls,s2,ux⟩:=x
    unfold fsOk at hok
    split at hok
    ·rename_i s hs
     simp only at hs
     subst hs
     simp only [Bool.and_eq_true] at hok
     obtain ⟨h1,h2,h3,h4,h5⟩:=hok
     obtain ⟨s1,s2',s3,s4,su⟩:=s
     have e1:=seq_iff'.1 h1
     have e2:=seq_iff'.1 h2
     have e3:=seq_iff'.1 h3
     have e4:s4=2:=of_decide_eq_true h4
     have e5:=seq_iff'.1 h5
     simp only at e1 e2 e3 e5
     subst e1 e2 e3 e4 e5
     obtain ⟨v1',q1',h8,hv1,v2',q2',h9,hv2,h10⟩:=hcc
     injection h8 with h8 h8'
     subst h8
     rw [←h8'] at h9
     injection h9 with h9 h9'
     subst h9
     have hv2:v2= .string webB/\_:=hv2
     obtain ⟨rfl,_⟩:=hv2
     have hv1:C X w σ (.sl 1 ([paS].flatMap tySetting.cells)) v1:=hv1
     have hv:C X w nowhere (.sl 1 ([paS].flatMap tySetting.cells)) v1:=C.ext0 ⟨Nat.le_refl _,fun _ _ _ h=>⟨h,rfl⟩⟩ _ _ (by intro k hk;cases hk) hv1
     obtain ⟨A,c,rfl⟩:=sl_val hv
     refine (does_of (by decide) (from_any hfin A c hv)).mono ?_
     rintro e w' ⟨u,rfl,hu,hb⟩
     refine ⟨_,X,σ,rfl,⟨_,rfl,_,_,rfl,C.ext0 ⟨Nat.le_refl _,fun _ _ _ h=>⟨h,rfl⟩⟩ _ _ (by intro k hk;cases hk) hu,_,_,rfl,⟨rfl,rfl⟩,_,_,rfl,⟨rfl,rfl⟩,rfl⟩,ends_none rfl hfin hb⟩
    ·cases hok
   ·cases hq
  ·cases hq
 ·cases hF
theorem en_fs:Entered Tryz.prog 17:= .inr ⟨by decide,_,Tryz.func17,by kernel_rfl,by kernel_rfl⟩
theorem en_paP:Entered Tryz.prog 16:= .inr ⟨by decide,_,Tryz.func16,by kernel_rfl,by kernel_rfl⟩
theorem en_feR:Entered Tryz.prog 9:= .inr ⟨by decide,_,Tryz.func9,by kernel_rfl,by kernel_rfl⟩
theorem en_feF:Entered Tryz.prog 18:= .inr ⟨by decide,_,Tryz.func18,by kernel_rfl,by kernel_rfl⟩
def faR:List AR:=[{f:=5 }]
def faB:List (Nat×Ent):=[(16,EL paE 16),(17,fsE),(9,EL feE 9),(13,sp_f13),(18,EL feE 18)]
theorem faB_ok:AllE faB:=gC en_paP (el_meets paE_ok _)<|gC en_fs ms_fs<|gC en_feR (el_meets feE_ok _)<|gC en_f13 ms_f13<|gC en_feF (el_meets feE_ok _) gN
theorem faR_ok:faR.all (auChk Tryz.prog)=true:=by kernel_rfl
def faE:List (Nat×Ent):=auL Tryz.prog TYs faR faB
theorem faE_ok: ∀ p∈faE,Entered Tryz.prog p.1/\Meets Tryz.prog p.1 (strip p.2):=auA mixed faR_ok (gA faB_ok)
theorem fa_run:EL faE 5 [] []=some (true,.t .bool true,[]):=by kernel_rfl
def fawB:Bool:=true
def sp_f5:Ent:=spec .nil (fun x=>true) (fun x=>(.t .bool fawB))
theorem en_f5:Entered Tryz.prog 5:= .inr ⟨by decide,_,Tryz.func5,by kernel_rfl,by kernel_rfl⟩
theorem ms_f5:Meets Tryz.prog 5 (strip sp_f5):=meets_spec (el_meets faE_ok _) fun x _=>by
 unfold strip
 rw [show Ty.nil.canon x=[] from rfl,fa_run]
 rfl
end
end Go.Proofs.YticnbacafmeiiaaGreatDoor.K
namespace Go.Proofs.YticnbacafmeiiaaGreatDoor.K
open Go.RowKit
noncomputable def dr_f7_0:List DO:=dT Tryz.f7 12
noncomputable def dr_f7_1:List DO:=dT Tryz.f7 17
def fg_f7_0:Fg:=⟨[(0,none),(2,none),(3,none),(4,some tI)],[(2,some tyPolicy),(3,none),(50,none),(68,none),(20300,none),(20301,none),(50000,some tyDice)]⟩
noncomputable def tb_f7_0:TC:=(.sq (.sq (.reg (rT Tryz.f7 3)) (.cd (.t 10) .sk (.fg ⟨[(0,none),(2,none),(3,none)],[(2,some tyPolicy),(3,some tyPolicy),(50,none),(68,none),(20300,none),(20301,none),(50000,some tyDice)]⟩ (.ex 0)))) (.sq (.bk 1 (.sq (.reg (rT Tryz.f7 4)) (.sq (.sq (.reg (rT Tryz.f7 5)) (.cd (.t 20) (.reg (rT Tryz.f7 6)) .sk)) (.sq (.sq (.reg (rT Tryz.f7 7)) (.cd (.t 26) (.reg (rT Tryz.f7 8)) .sk)) (.sq (.sq (.reg (rT Tryz.f7 9)) (.cd (.t 32) (.reg (rT Tryz.f7 10)) .sk)) (.sq (.sq (.reg (rT Tryz.f7 11)) (.cd (.t 38) (.dr dr_f7_0 [(0,[5]),(1,[5]),(2,[50000]),(3,[]),(4,[43,5043,10043,15043,50000]),(5,[]),(6,[5]),(7,[5])] (.of [0,1,2,3,4,5,6,7])) .sk)) (.reg (rT Tryz.f7 13)))))))) (.reg (rT Tryz.f7 14))))
def fg_f7_1:Fg:=⟨[(0,none),(2,none),(3,none),(6,some tI)],[(2,some tyPolicy),(3,none),(50,none),(68,none),(20300,none),(20301,none),(50000,some tyDice)]⟩
noncomputable def tb_f7_1:TC:=(.sq (.sq (.reg (rT Tryz.f7 16)) (.cd (.t 55) .sk (.fg ⟨[(2,none),(3,none)],[(2,some tyPolicy),(3,some tyPolicy),(50,none),(68,none),(20300,none),(20301,none),(50000,some tyDice)]⟩ (.ex 2)))) (.sq (.bk 3 (.dr dr_f7_1 [(0,[3,50,68,20300,20301]),(1,[3,50,68,20300,20301]),(2,[50000]),(3,[61,5061,10061,15061,50000]),(4,[]),(5,[50000]),(6,[]),(7,[65,5065,10065,15065,50000]),(8,[]),(9,[]),(10,[2,3,50,68,5068,10068,15068,20300,20301]),(11,[3,50,68,20300,20301]),(12,[2,3,50,68,20300,20301])] (.of [0,1,2,5,6,3,4,7,8,9,10,11,12]))) (.reg (rT Tryz.f7 18))))
noncomputable def tc_f7:TC:=(.sq (.reg (rT Tryz.f7 0)) (.sq (.reg (rT Tryz.f7 1)) (.sq (.sq (.reg (rT Tryz.f7 2)) (.bk 0 (.nf 3 1 79 20301 (.nf 3 0 77 20300 (.lp 0 fg_f7_0 tb_f7_0))))) (.sq (.sq (.reg (rT Tryz.f7 15)) (.bk 2 (.nf 3 0 77 20300 (.nf 3 1 79 20301 (.lp 1 fg_f7_1 tb_f7_1))))) (.sq (.reg (rT Tryz.f7 19)) .rt)))))
def rv_f7:List (RV×Option Ty):=[((.c 2 true 2),none)]
abbrev sh_f7_0:Sh:=⟨[(0,.ptr 50000 0),(2,.ptr 2 0),(3,.ptr 3 0),(4,.ty tI)],[(2,.box tyPolicy),(3,.bag [.ms 20300,.ms 20301]),(50,.no),(68,.no),(20300,.arr 77 tyRule),(20301,.arr 79 tyKeep),(50000,.box tyDice)]⟩
def st_f7_0 (x4:Int)(y2:Policy)(y20300:List Rule)(y20301:List Keep)(y50000:Dice):VS:=sh_f7_0.st ((),(),(),x4,()) (y2,((),(),()),(),(),y20300,y20301,y50000,())
abbrev sh_f7_0_e0:Sh:=⟨[(0,.ptr 50000 0),(2,.ptr 2 0),(3,.ptr 3 0)],[(2,.box tyPolicy),(3,.bag [.ms 20300,.ms 20301]),(50,.no),(68,.no),(20300,.arr 77 tyRule),(20301,.arr 79 tyKeep),(50000,.box tyDice)]⟩
def st_f7_0_e0 (y2:Policy)(y20300:List Rule)(y20301:List Keep)(y50000:Dice):VS:=sh_f7_0_e0.st ((),(),(),()) (y2,((),(),()),(),(),y20300,y20301,y50000,())
abbrev sh_f7_1:Sh:=⟨[(0,.ptr 50000 0),(2,.ptr 2 0),(3,.ptr 3 0),(6,.ty tI)],[(2,.box tyPolicy),(3,.bag [.ms 20300,.ms 20301]),(50,.no),(68,.no),(20300,.arr 77 tyRule),(20301,.arr 79 tyKeep),(50000,.box tyDice)]⟩
def st_f7_1 (x6:Int)(y2:Policy)(y20300:List Rule)(y20301:List Keep)(y50000:Dice):VS:=sh_f7_1.st ((),(),(),x6,()) (y2,((),(),()),(),(),y20300,y20301,y50000,())
abbrev sh_f7_1_e2:Sh:=⟨[(2,.ptr 2 0),(3,.ptr 3 0)],[(2,.box tyPolicy),(3,.bag [.ms 20300,.ms 20301]),(50,.no),(68,.no),(20300,.arr 77 tyRule),(20301,.arr 79 tyKeep),(50000,.box tyDice)]⟩
def st_f7_1_e2 (y2:Policy)(y20300:List Rule)(y20301:List Keep)(y50000:Dice):VS:=sh_f7_1_e2.st ((),(),()) (y2,((),(),()),(),(),y20300,y20301,y50000,())
def L_f7_0:VS->Option (Bool×List (Bool×Exit×VS)):=mkL sh_f7_0 (fun x y=>(dOk y.2.2.2.2.2.2.1&&decide (0<=x.2.2.2.1/\x.2.2.2.1<=100/\y.2.2.2.2.1.length+x.2.2.2.1.toNat<=1000))) (fun x y=>[(true,.exit 0,st_f7_0_e0 (y.1) (y.2.2.2.2.1++(rulesZ x.2.2.2.1.toNat y.2.2.2.2.2.2.1).1) (y.2.2.2.2.2.1) ((rulesZ x.2.2.2.1.toNat y.2.2.2.2.2.2.1).2))])
def L_f7_1:VS->Option (Bool×List (Bool×Exit×VS)):=mkL sh_f7_1 (fun x y=>(dOk y.2.2.2.2.2.2.1&&decide (0<=x.2.2.2.1/\x.2.2.2.1<=100/\y.2.2.2.2.2.1.length+x.2.2.2.1.toNat<=1000))) (fun x y=>[(true,.exit 2,st_f7_1_e2 (y.1) (y.2.2.2.2.1) (y.2.2.2.2.2.1++(keepsZ x.2.2.2.1.toNat y.2.2.2.2.2.2.1).1) ((keepsZ x.2.2.2.1.toNat y.2.2.2.2.2.2.1).2))])
def g_f7:G:=⟨TYs,[],71,EL [(11,sp_f11),(19,sp_f19),(20,sp_f20)],keeps,(Ls [L_f7_0,L_f7_1]),IL [],RL []⟩
def b_f7_0 (x4:Int)(y2:Policy)(y20300:List Rule)(y20301:List Keep)(y50000:Dice):Option (Exit×VS):=
 let a21:=(dofN (dnext y50000 3) ([14,1,2,5,15,0,16,10,20,7]))
 let a1:=dnext a21 2
 let a29:=(dofN a1 ([2048,256,1024,3072,129]))
 let a2:=dnext a29 3
 let a3:=(dof (dnext y50000 3) ([14,1,2,5,15,0,16,10,20,7]))
 let a4:=dnext (dnext (dnext a1 3) 4) 2
 let a5:=(dof a1 ([2048,256,1024,3072,129]))
 let a6:=dnext (dnext a2 4) 2
 let a7:=dnext (dnext a1 3) 2
 let a8:=done y50000 3
 let a9:=iadd .i64 1 (dval (dnext a1 3) 4)
 let a10:=(dofN (dnext a2 2) ([10,30,100,7]))
 let a11:=isub .i64 x4 1
 let a12:=(dof (dnext a2 2) ([10,30,100,7]))
 let a13:=iadd .i64 1 (dval a2 4)
 let a14:=(dofN a6 ([10,30,100,7]))
 let a15:=(dofN a4 ([10,30,100,7]))
 let a16:=(dofN a7 ([10,30,100,7]))
 let a17:=(dof a6 ([10,30,100,7]))
 let a18:=(dof a4 ([10,30,100,7]))
 let a19:=(dof a7 ([10,30,100,7]))
 let a20:=dnext (dnext a2 2) 3
 let a22:=(iadd .i64 a17 (dof (dnext a14 3) ([20,1,200])))
 let a23:=(iadd .i64 a12 (dof (dnext a10 3) ([20,1,200])))
 let a24:=(iadd .i64 a18 (dof (dnext a15 3) ([20,1,200])))
 let a25:=(iadd .i64 a19 (dof (dnext a16 3) ([20,1,200])))
 let a26:=(iadd .i64 0 (dof (dnext a6 3) ([20,1,200])))
 let a27:=(iadd .i64 0 (dof (dnext a4 3) ([20,1,200])))
 let a28:=(iadd .i64 0 (dof (dnext a7 3) ([20,1,200])))
 let a30:=(iadd .i64 0 (dof a20 ([20,1,200])))
 br (igt x4 0) (br (oneOk y50000 3) (br (ofOk (dnext y50000 3) ([14,1,2,5,15,0,16,10,20,7])) (br (oneOk a21 2) (br (done a21 2) (br (ofOk a1 ([2048,256,1024,3072,129])) (br (oneOk a29 3) (br (done a29 3) (br (nextOk a2 4) (br (oneOk (dnext a2 4) 2) (br (done (dnext a2 4) 2) (br (ofOk a6 ([10,30,100,7])) (br (oneOk a14 3) (br (done a14 3) (br (ofOk (dnext a14 3) ([20,1,200])) (br (cApp y20300 ([(a8,(a3,(a5,(a13,(a17,(a22,()))))))]) 48) (some (.normal,st_f7_0 a11 y2 (y20300++([(a8,(a3,(a5,(a13,(a17,(a22,()))))))])) y20301 (dofN (dnext a14 3) ([20,1,200])))) none) none) (br (cApp y20300 ([(a8,(a3,(a5,(a13,(a17,(40001,()))))))]) 48) (some (.normal,st_f7_0 a11 y2 (y20300++([(a8,(a3,(a5,(a13,(a17,(40001,()))))))])) y20301 (dnext a14 3))) none)) none) none) (br (oneOk a6 3) (br (done a6 3) (br (ofOk (dnext a6 3) ([20,1,200])) (br (cApp y20300 ([(a8,(a3,(a5,(a13,(0,(a26,()))))))]) 48) (some (.normal,st_f7_0 a11 y2 (y20300++([(a8,(a3,(a5,(a13,(0,(a26,()))))))])) y20301 (dofN (dnext a6 3) ([20,1,200])))) none) none) (br (cApp y20300 ([(a8,(a3,(a5,(a13,(0,(40001,()))))))]) 48) (some (.normal,st_f7_0 a11 y2 (y20300++([(a8,(a3,(a5,(a13,(0,(40001,()))))))])) y20301 (dnext a6 3))) none)) none)) none) none) (br (oneOk a2 2) (br (done a2 2) (br (ofOk (dnext a2 2) ([10,30,100,7])) (br (oneOk a10 3) (br (done a10 3) (br (ofOk (dnext a10 3) ([20,1,200])) (br (cApp y20300 ([(a8,(a3,(a5,(0,(a12,(a23,()))))))]) 48) (some (.normal,st_f7_0 a11 y2 (y20300++([(a8,(a3,(a5,(0,(a12,(a23,()))))))])) y20301 (dofN (dnext a10 3) ([20,1,200])))) none) none) (br (cApp y20300 ([(a8,(a3,(a5,(0,(a12,(40001,()))))))]) 48) (some (.normal,st_f7_0 a11 y2 (y20300++([(a8,(a3,(a5,(0,(a12,(40001,()))))))])) y20301 (dnext a10 3))) none)) none) none) (br (oneOk (dnext a2 2) 3) (br (done (dnext a2 2) 3) (br (ofOk a20 ([20,1,200])) (br (cApp y20300 ([(a8,(a3,(a5,(0,(0,(a30,()))))))]) 48) (some (.normal,st_f7_0 a11 y2 (y20300++([(a8,(a3,(a5,(0,(0,(a30,()))))))])) y20301 (dofN a20 ([20,1,200])))) none) none) (br (cApp y20300 ([(a8,(a3,(a5,(0,(0,(40001,()))))))]) 48) (some (.normal,st_f7_0 a11 y2 (y20300++([(a8,(a3,(a5,(0,(0,(40001,()))))))])) y20301 a20)) none)) none)) none)) none) none) (br (oneOk a1 3) (br (done a1 3) (br (nextOk (dnext a1 3) 4) (br (oneOk (dnext (dnext a1 3) 4) 2) (br (done (dnext (dnext a1 3) 4) 2) (br (ofOk a4 ([10,30,100,7])) (br (oneOk a15 3) (br (done a15 3) (br (ofOk (dnext a15 3) ([20,1,200])) (br (cApp y20300 ([(a8,(a3,(0,(a9,(a18,(a24,()))))))]) 48) (some (.normal,st_f7_0 a11 y2 (y20300++([(a8,(a3,(0,(a9,(a18,(a24,()))))))])) y20301 (dofN (dnext a15 3) ([20,1,200])))) none) none) (br (cApp y20300 ([(a8,(a3,(0,(a9,(a18,(40001,()))))))]) 48) (some (.normal,st_f7_0 a11 y2 (y20300++([(a8,(a3,(0,(a9,(a18,(40001,()))))))])) y20301 (dnext a15 3))) none)) none) none) (br (oneOk a4 3) (br (done a4 3) (br (ofOk (dnext a4 3) ([20,1,200])) (br (cApp y20300 ([(a8,(a3,(0,(a9,(0,(a27,()))))))]) 48) (some (.normal,st_f7_0 a11 y2 (y20300++([(a8,(a3,(0,(a9,(0,(a27,()))))))])) y20301 (dofN (dnext a4 3) ([20,1,200])))) none) none) (br (cApp y20300 ([(a8,(a3,(0,(a9,(0,(40001,()))))))]) 48) (some (.normal,st_f7_0 a11 y2 (y20300++([(a8,(a3,(0,(a9,(0,(40001,()))))))])) y20301 (dnext a4 3))) none)) none)) none) none) (br (oneOk (dnext a1 3) 2) (br (done (dnext a1 3) 2) (br (ofOk a7 ([10,30,100,7])) (br (oneOk a16 3) (br (done a16 3) (br (ofOk (dnext a16 3) ([20,1,200])) (br (cApp y20300 ([(a8,(a3,(0,(0,(a19,(a25,()))))))]) 48) (some (.normal,st_f7_0 a11 y2 (y20300++([(a8,(a3,(0,(0,(a19,(a25,()))))))])) y20301 (dofN (dnext a16 3) ([20,1,200])))) none) none) (br (cApp y20300 ([(a8,(a3,(0,(0,(a19,(40001,()))))))]) 48) (some (.normal,st_f7_0 a11 y2 (y20300++([(a8,(a3,(0,(0,(a19,(40001,()))))))])) y20301 (dnext a16 3))) none)) none) none) (br (oneOk a7 3) (br (done a7 3) (br (ofOk (dnext a7 3) ([20,1,200])) (br (cApp y20300 ([(a8,(a3,(0,(0,(0,(a28,()))))))]) 48) (some (.normal,st_f7_0 a11 y2 (y20300++([(a8,(a3,(0,(0,(0,(a28,()))))))])) y20301 (dofN (dnext a7 3) ([20,1,200])))) none) none) (br (cApp y20300 ([(a8,(a3,(0,(0,(0,(40001,()))))))]) 48) (some (.normal,st_f7_0 a11 y2 (y20300++([(a8,(a3,(0,(0,(0,(40001,()))))))])) y20301 (dnext a7 3))) none)) none)) none)) none)) none) none) none) (some (.exit 0,st_f7_0_e0 y2 y20300 y20301 y50000))
noncomputable def lp_f7_0 (x4:Int)(y2:Policy)(y20300:List Rule)(y20301:List Keep)(y50000:Dice):Option (Exit×VS):=loopF (roundF g_f7 fg_f7_0 tb_f7_0) (st_f7_0 x4 y2 y20300 y20301 y50000)
noncomputable def n_f7_0 (x4:Int)(y2:Policy)(y20300:List Rule)(y20301:List Keep)(y50000:Dice):Option (Exit×VS):=
 let a21:=(dofN (dnext y50000 3) ([14,1,2,5,15,0,16,10,20,7]))
 let a1:=dnext a21 2
 let a29:=(dofN a1 ([2048,256,1024,3072,129]))
 let a2:=dnext a29 3
 let a3:=(dof (dnext y50000 3) ([14,1,2,5,15,0,16,10,20,7]))
 let a4:=dnext (dnext (dnext a1 3) 4) 2
 let a5:=(dof a1 ([2048,256,1024,3072,129]))
 let a6:=dnext (dnext a2 4) 2
 let a7:=dnext (dnext a1 3) 2
 let a8:=done y50000 3
 let a9:=iadd .i64 1 (dval (dnext a1 3) 4)
 let a10:=(dofN (dnext a2 2) ([10,30,100,7]))
 let a11:=isub .i64 x4 1
 let a12:=(dof (dnext a2 2) ([10,30,100,7]))
 let a13:=iadd .i64 1 (dval a2 4)
 let a14:=(dofN a6 ([10,30,100,7]))
 let a15:=(dofN a4 ([10,30,100,7]))
 let a16:=(dofN a7 ([10,30,100,7]))
 let a17:=(dof a6 ([10,30,100,7]))
 let a18:=(dof a4 ([10,30,100,7]))
 let a19:=(dof a7 ([10,30,100,7]))
 let a20:=dnext (dnext a2 2) 3
 let a22:=(iadd .i64 a17 (dof (dnext a14 3) ([20,1,200])))
 let a23:=(iadd .i64 a12 (dof (dnext a10 3) ([20,1,200])))
 let a24:=(iadd .i64 a18 (dof (dnext a15 3) ([20,1,200])))
 let a25:=(iadd .i64 a19 (dof (dnext a16 3) ([20,1,200])))
 let a26:=(iadd .i64 0 (dof (dnext a6 3) ([20,1,200])))
 let a27:=(iadd .i64 0 (dof (dnext a4 3) ([20,1,200])))
 let a28:=(iadd .i64 0 (dof (dnext a7 3) ([20,1,200])))
 let a30:=(iadd .i64 0 (dof a20 ([20,1,200])))
 br (igt x4 0) (br (oneOk y50000 3) (br (ofOk (dnext y50000 3) ([14,1,2,5,15,0,16,10,20,7])) (br (oneOk a21 2) (br (done a21 2) (br (ofOk a1 ([2048,256,1024,3072,129])) (br (oneOk a29 3) (br (done a29 3) (br (nextOk a2 4) (br (oneOk (dnext a2 4) 2) (br (done (dnext a2 4) 2) (br (ofOk a6 ([10,30,100,7])) (br (oneOk a14 3) (br (done a14 3) (br (ofOk (dnext a14 3) ([20,1,200])) (br (cApp y20300 ([(a8,(a3,(a5,(a13,(a17,(a22,()))))))]) 48) (lp_f7_0 a11 y2 (y20300++([(a8,(a3,(a5,(a13,(a17,(a22,()))))))])) y20301 (dofN (dnext a14 3) ([20,1,200]))) none) none) (br (cApp y20300 ([(a8,(a3,(a5,(a13,(a17,(40001,()))))))]) 48) (lp_f7_0 a11 y2 (y20300++([(a8,(a3,(a5,(a13,(a17,(40001,()))))))])) y20301 (dnext a14 3)) none)) none) none) (br (oneOk a6 3) (br (done a6 3) (br (ofOk (dnext a6 3) ([20,1,200])) (br (cApp y20300 ([(a8,(a3,(a5,(a13,(0,(a26,()))))))]) 48) (lp_f7_0 a11 y2 (y20300++([(a8,(a3,(a5,(a13,(0,(a26,()))))))])) y20301 (dofN (dnext a6 3) ([20,1,200]))) none) none) (br (cApp y20300 ([(a8,(a3,(a5,(a13,(0,(40001,()))))))]) 48) (lp_f7_0 a11 y2 (y20300++([(a8,(a3,(a5,(a13,(0,(40001,()))))))])) y20301 (dnext a6 3)) none)) none)) none) none) (br (oneOk a2 2) (br (done a2 2) (br (ofOk (dnext a2 2) ([10,30,100,7])) (br (oneOk a10 3) (br (done a10 3) (br (ofOk (dnext a10 3) ([20,1,200])) (br (cApp y20300 ([(a8,(a3,(a5,(0,(a12,(a23,()))))))]) 48) (lp_f7_0 a11 y2 (y20300++([(a8,(a3,(a5,(0,(a12,(a23,()))))))])) y20301 (dofN (dnext a10 3) ([20,1,200]))) none) none) (br (cApp y20300 ([(a8,(a3,(a5,(0,(a12,(40001,()))))))]) 48) (lp_f7_0 a11 y2 (y20300++([(a8,(a3,(a5,(0,(a12,(40001,()))))))])) y20301 (dnext a10 3)) none)) none) none) (br (oneOk (dnext a2 2) 3) (br (done (dnext a2 2) 3) (br (ofOk a20 ([20,1,200])) (br (cApp y20300 ([(a8,(a3,(a5,(0,(0,(a30,()))))))]) 48) (lp_f7_0 a11 y2 (y20300++([(a8,(a3,(a5,(0,(0,(a30,()))))))])) y20301 (dofN a20 ([20,1,200]))) none) none) (br (cApp y20300 ([(a8,(a3,(a5,(0,(0,(40001,()))))))]) 48) (lp_f7_0 a11 y2 (y20300++([(a8,(a3,(a5,(0,(0,(40001,()))))))])) y20301 a20) none)) none)) none)) none) none) (br (oneOk a1 3) (br (done a1 3) (br (nextOk (dnext a1 3) 4) (br (oneOk (dnext (dnext a1 3) 4) 2) (br (done (dnext (dnext a1 3) 4) 2) (br (ofOk a4 ([10,30,100,7])) (br (oneOk a15 3) (br (done a15 3) (br (ofOk (dnext a15 3) ([20,1,200])) (br (cApp y20300 ([(a8,(a3,(0,(a9,(a18,(a24,()))))))]) 48) (lp_f7_0 a11 y2 (y20300++([(a8,(a3,(0,(a9,(a18,(a24,()))))))])) y20301 (dofN (dnext a15 3) ([20,1,200]))) none) none) (br (cApp y20300 ([(a8,(a3,(0,(a9,(a18,(40001,()))))))]) 48) (lp_f7_0 a11 y2 (y20300++([(a8,(a3,(0,(a9,(a18,(40001,()))))))])) y20301 (dnext a15 3)) none)) none) none) (br (oneOk a4 3) (br (done a4 3) (br (ofOk (dnext a4 3) ([20,1,200])) (br (cApp y20300 ([(a8,(a3,(0,(a9,(0,(a27,()))))))]) 48) (lp_f7_0 a11 y2 (y20300++([(a8,(a3,(0,(a9,(0,(a27,()))))))])) y20301 (dofN (dnext a4 3) ([20,1,200]))) none) none) (br (cApp y20300 ([(a8,(a3,(0,(a9,(0,(40001,()))))))]) 48) (lp_f7_0 a11 y2 (y20300++([(a8,(a3,(0,(a9,(0,(40001,()))))))])) y20301 (dnext a4 3)) none)) none)) none) none) (br (oneOk (dnext a1 3) 2) (br (done (dnext a1 3) 2) (br (ofOk a7 ([10,30,100,7])) (br (oneOk a16 3) (br (done a16 3) (br (ofOk (dnext a16 3) ([20,1,200])) (br (cApp y20300 ([(a8,(a3,(0,(0,(a19,(a25,()))))))]) 48) (lp_f7_0 a11 y2 (y20300++([(a8,(a3,(0,(0,(a19,(a25,()))))))])) y20301 (dofN (dnext a16 3) ([20,1,200]))) none) none) (br (cApp y20300 ([(a8,(a3,(0,(0,(a19,(40001,()))))))]) 48) (lp_f7_0 a11 y2 (y20300++([(a8,(a3,(0,(0,(a19,(40001,()))))))])) y20301 (dnext a16 3)) none)) none) none) (br (oneOk a7 3) (br (done a7 3) (br (ofOk (dnext a7 3) ([20,1,200])) (br (cApp y20300 ([(a8,(a3,(0,(0,(0,(a28,()))))))]) 48) (lp_f7_0 a11 y2 (y20300++([(a8,(a3,(0,(0,(0,(a28,()))))))])) y20301 (dofN (dnext a7 3) ([20,1,200]))) none) none) (br (cApp y20300 ([(a8,(a3,(0,(0,(0,(40001,()))))))]) 48) (lp_f7_0 a11 y2 (y20300++([(a8,(a3,(0,(0,(0,(40001,()))))))])) y20301 (dnext a7 3)) none)) none)) none)) none)) none) none) none) (some (.exit 0,st_f7_0_e0 y2 y20300 y20301 y50000))
def la_f7_0 (x4:Int)(y2:Policy)(y20300:List Rule)(y20301:List Keep)(y50000:Dice):Option (Exit×VS):=
 let a1:=rulesZ x4.toNat y50000
 some (.exit 0,st_f7_0_e0 (y2) (y20300++a1.1) (y20301) (a1.2))
theorem be_f7_0 (x4:Int)(y2:Policy)(y20300:List Rule)(y20301:List Keep)(y50000:Dice):roundF g_f7 fg_f7_0 tb_f7_0 (st_f7_0 x4 y2 y20300 y20301 y50000)=b_f7_0 x4 y2 y20300 y20301 y50000:=by kernel_rfl
theorem ln_f7_0 (x4:Int)(y2:Policy)(y20300:List Rule)(y20301:List Keep)(y50000:Dice):lp_f7_0 x4 y2 y20300 y20301 y50000=n_f7_0 x4 y2 y20300 y20301 y50000:=(loopF_nxt _ _).trans (by
 rw [be_f7_0]
 simp only [b_f7_0,n_f7_0,nxt_br,nxt_n,nxt_r,nxt_e,nxt_0]
 rfl)
def b_f7_1 (x6:Int)(y2:Policy)(y20300:List Rule)(y20301:List Keep)(y50000:Dice):Option (Exit×VS):=
 let a1:=dnext y50000 4
 let a2:=iadd .i64 1 (dval y50000 4)
 let a3:=(dof a1 ([10,100,3000]))
 br (igt x6 0) (br (nextOk y50000 4) (br (ofOk a1 ([10,100,3000])) (br (cApp y20301 ([(a2,(a3,()))]) 16) (some (.normal,st_f7_1 (isub .i64 x6 1) y2 y20300 (y20301++([(a2,(a3,()))])) (dofN a1 ([10,100,3000])))) none) none) none) (some (.exit 2,st_f7_1_e2 y2 y20300 y20301 y50000))
noncomputable def lp_f7_1 (x6:Int)(y2:Policy)(y20300:List Rule)(y20301:List Keep)(y50000:Dice):Option (Exit×VS):=loopF (roundF g_f7 fg_f7_1 tb_f7_1) (st_f7_1 x6 y2 y20300 y20301 y50000)
noncomputable def n_f7_1 (x6:Int)(y2:Policy)(y20300:List Rule)(y20301:List Keep)(y50000:Dice):Option (Exit×VS):=
 let a1:=dnext y50000 4
 let a2:=iadd .i64 1 (dval y50000 4)
 let a3:=(dof a1 ([10,100,3000]))
 br (igt x6 0) (br (nextOk y50000 4) (br (ofOk a1 ([10,100,3000])) (br (cApp y20301 ([(a2,(a3,()))]) 16) (lp_f7_1 (isub .i64 x6 1) y2 y20300 (y20301++([(a2,(a3,()))])) (dofN a1 ([10,100,3000]))) none) none) none) (some (.exit 2,st_f7_1_e2 y2 y20300 y20301 y50000))
def la_f7_1 (x6:Int)(y2:Policy)(y20300:List Rule)(y20301:List Keep)(y50000:Dice):Option (Exit×VS):=
 let a1:=keepsZ x6.toNat y50000
 some (.exit 2,st_f7_1_e2 (y2) (y20300) (y20301++a1.1) (a1.2))
theorem be_f7_1 (x6:Int)(y2:Policy)(y20300:List Rule)(y20301:List Keep)(y50000:Dice):roundF g_f7 fg_f7_1 tb_f7_1 (st_f7_1 x6 y2 y20300 y20301 y50000)=b_f7_1 x6 y2 y20300 y20301 y50000:=by kernel_rfl
theorem ln_f7_1 (x6:Int)(y2:Policy)(y20300:List Rule)(y20301:List Keep)(y50000:Dice):lp_f7_1 x6 y2 y20300 y20301 y50000=n_f7_1 x6 y2 y20300 y20301 y50000:=(loopF_nxt _ _).trans (by
 rw [be_f7_1]
 simp only [b_f7_1,n_f7_1,nxt_br,nxt_n,nxt_r,nxt_e,nxt_0]
 rfl)
def r_f7 (d0:Dice):Option (V×List VO):=
 let a1:=rulesZ (dval d0 7).toNat (dnext d0 7)
 let a2:=dval (a1.2) 3
 let a3:=keepsZ a2.toNat (dnext (a1.2) 3)
 br (nextOk d0 7) (br (dOk (dnext d0 7)&&decide (0<=(dval d0 7)/\(dval d0 7)<=100/\([]:List Rule).length+(dval d0 7).toNat<=1000)) (br (nextOk (a1.2) 3) (br (dOk (dnext (a1.2) 3)&&decide (0<=a2/\a2<=100/\([]:List Keep).length+a2.toNat<=1000)) (some (.ag [(.ms 50001),(.ms 50002)],[.box (.t tyDice (a3.2)),.arr 77 tyRule (([]:List Rule)++a1.1),.arr 79 tyKeep (([]:List Keep)++a3.1)])) none) none) none) none
theorem e_f7 (d0:Dice):runF g_f7 tc_f7 rv_f7 true [.ptr 50000 0] [.box (.t tyDice d0)]=r_f7 d0:=by kernel_rfl
theorem en_f7:Entered Tryz.prog 7:= .inr ⟨by decide,_,Tryz.func7,by kernel_rfl,by kernel_rfl⟩
theorem gk_f7:GOk Tryz.prog g_f7:=gok_of _ (gA (gC en_f11 ms_f11 (gC en_f19 ms_f19 (gC en_f20 ms_f20 gN))))
theorem l_f7_0 (x4:Int)(y2:Policy)(y20300:List Rule)(y20301:List Keep)(y50000:Dice)(h:(dOk y50000&&decide (0<=x4/\x4<=100/\y20300.length+x4.toNat<=1000))=true):lp_f7_0 x4 y2 y20300 y20301 y50000=la_f7_0 x4 y2 y20300 y20301 y50000:=by
 simp only [Bool.and_eq_true,decide_eq_true_eq] at h
 obtain ⟨hd,h1,h2q,h3⟩:=h
 obtain ⟨k,rfl⟩:=Int.eq_ofNat_of_zero_le h1
 rw [Int.toNat_natCast] at h3
 have h2:k<=100:=by omega
 clear h1 h2q
 induction k generalizing y20300 y50000 with
 |zero=>
  rw [ln_f7_0]
  have e1:igt ((0:Nat):Int) 0=false:=rfl
  simp only [n_f7_0,e1,br_false,la_f7_0,Int.toNat_natCast,rulesZ,List.append_nil]
 |succ k ih=>
  rw [ln_f7_0]
  have e1:igt ((k+1:Nat):Int) 0=true:=by simp only [igt,decide_eq_true_eq];omega
  have e2:isub .i64 ((k+1:Nat):Int) 1=(k:Int):=by rw [isub_in (by omega)];omega
  simp only [n_f7_0,e1,e2,br_true]
  have hla:la_f7_0 ((k+1:Nat):Int) y2 y20300 y20301 y50000=la_f7_0 (k:Int) y2 (y20300++[(rDraw y50000).1]) y20301 (rDraw y50000).2:=by
   simp only [la_f7_0,Int.toNat_natCast,rulesZ,List.append_assoc]
   rfl
  rw [hla, ← ih _ _ (dOk_rDraw hd) (by simp;omega) (by omega)]
  clear ih hla
  have hi: ∀ x:Rule,cApp y20300 [x] 48=true:=fun x=>cApp_ok (by simp;omega) (by omega)
  have o2: ∀ d,dOk d=true->oneOk d 2=true:=fun d h=>by simp [oneOk,nextOk,h]
  have o3: ∀ d,dOk d=true->oneOk d 3=true:=fun d h=>by simp [oneOk,nextOk,h]
  have n4: ∀ d,dOk d=true->nextOk d 4=true:=fun d h=>by simp [nextOk,h]
  have f1: ∀ d,dOk d=true->ofOk d [14,1,2,5,15,0,16,10,20,7]=true:=fun d h=>by simp [ofOk,h]
  have f2: ∀ d,dOk d=true->ofOk d [2048,256,1024,3072,129]=true:=fun d h=>by simp [ofOk,h]
  have f3: ∀ d,dOk d=true->ofOk d [10,30,100,7]=true:=fun d h=>by simp [ofOk,h]
  have f4: ∀ d,dOk d=true->ofOk d [20,1,200]=true:=fun d h=>by simp [ofOk,h]
  simp (maxDischargeDepth:=30) only [o2,o3,n4,f1,f2,f3,f4,dOk_nextI,dOk_of,hd,hi,br_true]
  repeat' (refine br_intro ?_ ?_<;>intro _)
  all_goals simp only [rDraw, *, if_true,if_false,Bool.false_eq_true]
theorem l_f7_1 (x6:Int)(y2:Policy)(y20300:List Rule)(y20301:List Keep)(y50000:Dice)(h:(dOk y50000&&decide (0<=x6/\x6<=100/\y20301.length+x6.toNat<=1000))=true):lp_f7_1 x6 y2 y20300 y20301 y50000=la_f7_1 x6 y2 y20300 y20301 y50000:=by
 simp only [Bool.and_eq_true,decide_eq_true_eq] at h
 obtain ⟨hd,h1,h2q,h3⟩:=h
 obtain ⟨k,rfl⟩:=Int.eq_ofNat_of_zero_le h1
 rw [Int.toNat_natCast] at h3
 have h2:k<=100:=by omega
 clear h1 h2q
 induction k generalizing y20301 y50000 with
 |zero=>
  rw [ln_f7_1]
  have e1:igt ((0:Nat):Int) 0=false:=rfl
  simp only [n_f7_1,e1,br_false,la_f7_1,Int.toNat_natCast,keepsZ,List.append_nil]
 |succ k ih=>
  rw [ln_f7_1]
  have e1:igt ((k+1:Nat):Int) 0=true:=by simp only [igt,decide_eq_true_eq];omega
  have e2:isub .i64 ((k+1:Nat):Int) 1=(k:Int):=by rw [isub_in (by omega)];omega
  simp only [n_f7_1,e1,e2,br_true]
  have hla:la_f7_1 ((k+1:Nat):Int) y2 y20300 y20301 y50000=la_f7_1 (k:Int) y2 y20300 (y20301++[(kDraw y50000).1]) (kDraw y50000).2:=by
   simp only [la_f7_1,Int.toNat_natCast,keepsZ,List.append_assoc]
   rfl
  rw [hla, ← ih _ _ (dOk_kDraw hd) (by simp;omega) (by omega)]
  clear ih hla
  have hi: ∀ x:Keep,cApp y20301 [x] 16=true:=fun x=>cApp_ok (by simp;omega) (by omega)
  have n4: ∀ d,dOk d=true->nextOk d 4=true:=fun d h=>by simp [nextOk,h]
  have f1: ∀ d,dOk d=true->ofOk d [10,100,3000]=true:=fun d h=>by simp [ofOk,h]
  simp (maxDischargeDepth:=30) only [n4,f1,dOk_nextI,dOk_of,hd,hi,br_true]
  rfl
theorem lo_f7_0: ∀ S l p,g_f7.L 0 (fgt fg_f7_0 S)=some (true,l)->pickA l=some p->loopF (roundF g_f7 fg_f7_0 tb_f7_0) S=some p:=
 lok_of (s:=sh_f7_0) ⟨by decide,by decide⟩ (by kernel_rfl) fun x y hok p hp=>by
 simp only [pickA_br,pickA_one] at hp
 exact (l_f7_0 x.2.2.2.1 y.1 y.2.2.2.2.1 y.2.2.2.2.2.1 y.2.2.2.2.2.2.1 (by simpa using hok)).trans hp
theorem lo_f7_1: ∀ S l p,g_f7.L 1 (fgt fg_f7_1 S)=some (true,l)->pickA l=some p->loopF (roundF g_f7 fg_f7_1 tb_f7_1) S=some p:=
 lok_of (s:=sh_f7_1) ⟨by decide,by decide⟩ (by kernel_rfl) fun x y hok p hp=>by
 simp only [pickA_br,pickA_one] at hp
 exact (l_f7_1 x.2.2.2.1 y.1 y.2.2.2.2.1 y.2.2.2.2.2.1 y.2.2.2.2.2.2.1 (by simpa using hok)).trans hp
theorem lk_f7:tc_f7.lok g_f7:=by
 repeat (first|exact trivial|exact lo_f7_0|exact lo_f7_1|refine ⟨?_, ?_⟩)
theorem s_f7 (d:Dice)(h:dOk d=true):r_f7 d=some (.ag [.ms 50001,.ms 50002],[.box (.t tyDice (polN d)),.arr 77 tyRule (polV d).1,.arr 79 tyKeep (polV d).2.1]):=by
 have n7: ∀ d,dOk d=true->nextOk d 7=true:=fun d h=>by simp [nextOk,h]
 have n3: ∀ d,dOk d=true->nextOk d 3=true:=fun d h=>by simp [nextOk,h]
 have b7:=dval_lt (d:=d) (n:=7) (by omega)
 have h2:dOk (rulesZ (dval d 7).toNat (dnext d 7)).2=true:=dOk_rules (dOk_next h)
 have b3:=dval_lt (d:=(rulesZ (dval d 7).toNat (dnext d 7)).2) (n:=3) (by omega)
 simp only [r_f7,n7 d h,br_true,List.nil_append]
 rw [dOk_next h,Bool.true_and,dec_true ⟨b7.1,by omega,by rw [List.length_nil];omega⟩,br_true,n3 _ h2,br_true,dOk_next h2,Bool.true_and,dec_true ⟨b3.1,by omega,by rw [List.length_nil];omega⟩,br_true]
 rfl
def sp_f7:Ent:=specS [.ptr 50000 0] [.box tyDice] (fun x y=>(dOk y.1)) (fun x y=>(.ag [(.ms 50001),(.ms 50002)])) (fun x y=>[.box (.t tyDice (polN y.1)),.arr 77 tyRule ((polV y.1).1),.arr 79 tyKeep (((polV y.1).2).1)])
theorem ms_f7:Meets Tryz.prog 7 (strip sp_f7):=meets_specS (R:=runF g_f7 tc_f7 rv_f7 true) (mG Tryz.func7 (by kernel_rfl) Tryz.ntmps7 (by kernel_rfl) gk_f7 lk_f7) fun x y hok=>(e_f7 y.1).trans (s_f7 y.1 hok)
end Go.Proofs.YticnbacafmeiiaaGreatDoor.K
namespace Go.Proofs.YticnbacafmeiiaaGreatDoor.K
open Go.RowKit
noncomputable section
def trT (_:List Int)(_:Int):Bool:=true
def trOk (_:List Int)(t:Int):Bool:=decide (0<=t/\t<=255)
def rngS (l:List Keep)(i:Int):Bool:=decide (0<=i/\i<=l.length/\l.length<=100000)
def inSp (t:Int)(l:List Keep):Bool:=l.any fun s=>ige t s.1&&ilt t s.2.1
def fg_f3_0:Fg:=⟨[(6,none),(7,none),(9,some tI),(12,some tI),(13,none),(14,some tI),(15,some tI),(16,some (.sl tyKeep)),(17,some tI),(18,some .bool),(19,some tI)],[(6,some tyPolicy),(7,some tyDice),(13,some tyKeep),(41,none),(5041,none),(10041,none),(15041,none)]⟩
noncomputable def tb_f3_0:TC:=(.sq (.sq (.reg (rT Tryz.f3 11)) (.cd (.t 72) .sk (.fg ⟨[(6,none),(7,none),(9,some tI),(12,some tI),(13,none),(14,some tI),(15,some tI),(17,some tI),(18,some .bool)],[(6,some tyPolicy),(7,some tyDice),(13,some tyKeep),(41,none),(5041,none),(10041,none),(15041,none)]⟩ (.ex 0)))) (.sq (.bk 1 (.reg (rT Tryz.f3 12))) (.reg (rT Tryz.f3 13))))
noncomputable def tc_f3:TC:=(.sq (.reg (rT Tryz.f3 0)) (.sq (.sq (.reg (rT Tryz.f3 1)) (.cd (.t 36) (.sq (.reg (rT Tryz.f3 2)) .rt) .sk)) (.sq (.reg (rT Tryz.f3 3)) (.sq (.reg (rT Tryz.f3 4)) (.sq (.reg (rT Tryz.f3 5)) (.sq (.reg (rT Tryz.f3 6)) (.sq (.reg (rT Tryz.f3 7)) (.sq (.reg (rT Tryz.f3 8)) (.sq (.reg (rT Tryz.f3 9)) (.sq (.sq (.reg (rT Tryz.f3 10)) (.bk 0 (.lp 0 fg_f3_0 tb_f3_0))) (.sq (.reg (rT Tryz.f3 14)) (.sq (.reg (rT Tryz.f3 15)) (.sq (.reg (rT Tryz.f3 16)) (.sq (.reg (rT Tryz.f3 17)) (.sq (.reg (rT Tryz.f3 18)) (.sq (.reg (rT Tryz.f3 19)) (.sq (.reg (rT Tryz.f3 20)) (.sq (.sq (.reg (rT Tryz.f3 21)) (.cd (.t 183) (.sq (.reg (rT Tryz.f3 22)) .rt) .sk)) (.sq (.reg (rT Tryz.f3 23)) .rt)))))))))))))))))))
def rv_f3:List (RV×Option Ty):=[((.t 4),some .bool)]
abbrev sh_f3_0:Sh:=⟨[(6,.ptr 6 0),(7,.ptr 7 0),(9,.ty tI),(12,.ty tI),(13,.ptr 13 0),(14,.ty tI),(15,.ty tI),(16,.ty (.sl tyKeep)),(17,.ty tI),(18,.ty .bool),(19,.ty tI)],[(6,.box tyPolicy),(7,.box tyDice),(13,.box tyKeep),(41,.no),(5041,.no),(10041,.no),(15041,.no)]⟩
def st_f3_0 (x9 x12 x14 x15:Int)(x16:List Keep)(x17:Int)(x18:Bool)(x19:Int)(y6:Policy)(y7:Dice)(y13:Keep):VS:=sh_f3_0.st ((),(),x9,x12,(),x14,x15,x16,x17,x18,x19,()) (y6,y7,y13,(),(),(),(),())
abbrev sh_f3_0_e0:Sh:=⟨[(6,.ptr 6 0),(7,.ptr 7 0),(9,.ty tI),(12,.ty tI),(13,.ptr 13 0),(14,.ty tI),(15,.ty tI),(17,.ty tI),(18,.ty .bool)],[(6,.box tyPolicy),(7,.box tyDice),(13,.box tyKeep),(41,.no),(5041,.no),(10041,.no),(15041,.no)]⟩
def st_f3_0_e0 (x9 x12 x14 x15 x17:Int)(x18:Bool)(y6:Policy)(y7:Dice)(y13:Keep):VS:=sh_f3_0_e0.st ((),(),x9,x12,(),x14,x15,x17,x18,()) (y6,y7,y13,(),(),(),(),())
def L_f3_0:VS->Option (Bool×List (Bool×Exit×VS)):=mkL sh_f3_0 (fun x y=>(rngS x.2.2.2.2.2.2.2.1 x.2.2.2.2.2.2.2.2.2.2.1)) (fun x y=>[(true,.exit 0,st_f3_0_e0 (x.2.2.1) (x.2.2.2.1) (x.2.2.2.2.2.1) (x.2.2.2.2.2.2.1) (x.2.2.2.2.2.2.2.2.1) (x.2.2.2.2.2.2.2.2.2.1||inSp x.2.2.2.2.2.2.1 (x.2.2.2.2.2.2.2.1.drop x.2.2.2.2.2.2.2.2.2.2.1.toNat)) (y.1) (y.2.1) (y.2.2.1))])
def g_f3:G:=⟨TYs,[],213,EL [(4,sp_f4),(5,sp_f5),(6,sp_f6),(7,sp_f7),(8,sp_f8),(9,sp_f9),(10,sp_f10),(11,sp_f11),(12,sp_f12),(13,sp_f13),(14,sp_f14),(15,sp_f15)],keeps,(Ls [L_f3_0]),IL [],RL []⟩
def b_f3_0 (x9 x12 x14 x15:Int)(x16:List Keep)(x17:Int)(x18:Bool)(x19:Int)(y6:Policy)(y7:Dice)(y13:Keep):Option (Exit×VS):=
 let a1:=lgt tyKeep x16 (Int.toNat x19)
 let a2:=iadd .i64 x19 1
 br (ilt x19 (llen x16)) (br (x18) (some (.normal,st_f3_0 x9 x12 x14 x15 x16 x17 true a2 y6 y7 y13)) (br (cIx x16 x19) (br (ige x15 (a1.1)) (br (cIx x16 x19) (some (.normal,st_f3_0 x9 x12 x14 x15 x16 x17 (ilt x15 ((a1.2).1)) a2 y6 y7 y13)) none) (some (.normal,st_f3_0 x9 x12 x14 x15 x16 x17 false a2 y6 y7 y13))) none)) (some (.exit 0,st_f3_0_e0 x9 x12 x14 x15 x17 x18 y6 y7 y13))
noncomputable def lp_f3_0 (x9 x12 x14 x15:Int)(x16:List Keep)(x17:Int)(x18:Bool)(x19:Int)(y6:Policy)(y7:Dice)(y13:Keep):Option (Exit×VS):=loopF (roundF g_f3 fg_f3_0 tb_f3_0) (st_f3_0 x9 x12 x14 x15 x16 x17 x18 x19 y6 y7 y13)
noncomputable def n_f3_0 (x9 x12 x14 x15:Int)(x16:List Keep)(x17:Int)(x18:Bool)(x19:Int)(y6:Policy)(y7:Dice)(y13:Keep):Option (Exit×VS):=
 let a1:=lgt tyKeep x16 (Int.toNat x19)
 let a2:=iadd .i64 x19 1
 br (ilt x19 (llen x16)) (br (x18) (lp_f3_0 x9 x12 x14 x15 x16 x17 true a2 y6 y7 y13) (br (cIx x16 x19) (br (ige x15 (a1.1)) (br (cIx x16 x19) (lp_f3_0 x9 x12 x14 x15 x16 x17 (ilt x15 ((a1.2).1)) a2 y6 y7 y13) none) (lp_f3_0 x9 x12 x14 x15 x16 x17 false a2 y6 y7 y13)) none)) (some (.exit 0,st_f3_0_e0 x9 x12 x14 x15 x17 x18 y6 y7 y13))
def la_f3_0 (x9 x12 x14 x15:Int)(x16:List Keep)(x17:Int)(x18:Bool)(x19:Int)(y6:Policy)(y7:Dice)(y13:Keep):Option (Exit×VS):=some (.exit 0,st_f3_0_e0 (x9) (x12) (x14) (x15) (x17) (x18||inSp x15 (x16.drop x19.toNat)) (y6) (y7) (y13))
theorem be_f3_0 (x9 x12 x14 x15:Int)(x16:List Keep)(x17:Int)(x18:Bool)(x19:Int)(y6:Policy)(y7:Dice)(y13:Keep):roundF g_f3 fg_f3_0 tb_f3_0 (st_f3_0 x9 x12 x14 x15 x16 x17 x18 x19 y6 y7 y13)=b_f3_0 x9 x12 x14 x15 x16 x17 x18 x19 y6 y7 y13:=by kernel_rfl
theorem ln_f3_0 (x9 x12 x14 x15:Int)(x16:List Keep)(x17:Int)(x18:Bool)(x19:Int)(y6:Policy)(y7:Dice)(y13:Keep):lp_f3_0 x9 x12 x14 x15 x16 x17 x18 x19 y6 y7 y13=n_f3_0 x9 x12 x14 x15 x16 x17 x18 x19 y6 y7 y13:=(loopF_nxt _ _).trans (by
 rw [be_f3_0]
 simp only [b_f3_0,n_f3_0,nxt_br,nxt_n,nxt_r,nxt_e,nxt_0]
 rfl)
def r_f3 (p0:List Int)(p1:Int):Option (V×List VO):=
 let a5:=useV (polN (roll p0))
 let a4:=iadd .i64 1 (dval (useN (polN (roll p0))) 4)
 let a8:=(ByteArray.mk #[119,101,98])
 let a1:=((sgnF ((a5.1,((a5.2).1,())),(a4,(a8,((20,(60,())),(([]:List Keep),()))))) 51).1)
 let a2:=(((((sgnF a1 52).1).1).1,(((((sgnF a1 52).1).1).2).1,())),((((sgnF a1 52).1).2).1,(((((sgnF a1 52).1).2).2).1,((((((((sgnF a1 52).1).2).2).2).1).1,((((((((sgnF a1 52).1).2).2).2).1).2).1,())),(((((((sgnF a1 52).1).2).2).2).2).1,())))))
 let a3:=((polV (roll p0)).1,(((polV (roll p0)).2).1,()))
 let a6:=(((a1.1).1,(((a1.1).2).1,())),((a1.2).1,(((a1.2).2).1,((((((a1.2).2).2).1).1,((((((a1.2).2).2).1).2).1,())),(((((a1.2).2).2).2).1,())))))
 let a7:=(exAl a3 ([a2]) ([51,52],(2,())) a5 a4 a8 (icv .i64 p1))
 let a9:=AllowedF a3 a5 a4 (icv .i64 p1)
 let a10:=(exAl a3 ([a2]) ([51,52],(2,())) a5 a4 (ByteArray.mk #[100,98]) (icv .i64 p1))
 let a11:=SpansF ((paF ((ppF a3).1)).1) a5 a4
 let a12:=(exAl a3 ([a6]) ([51,52],(2,())) a5 a4 a8 (icv .i64 p1))
 br (!(light p0)) (some (.t .bool fawB,[])) (br (dOk (roll p0)) (br (ppOk a3) (br (paOk ((ppF a3).1)) (br (dOk (polN (roll p0))) (br (nextOk (useN (polN (roll p0))) 4) (br (polLen3 ((paF ((ppF a3).1)).1) a5 a4) (br (rngS (a11.1) (0:Int)) (br (polLen4 a3 a5 a4 (icv .i64 p1)) (br (sgnOk ((a5.1,((a5.2).1,())),(a4,(a8,((20,(60,())),(([]:List Keep),()))))) 51) (br (sgnOk a1 52) (br (exAlOk a3 ([a6]) ([51,52],(2,())) a5 a4 a8 (icv .i64 p1)) (br (exAlOk a3 ([a2]) ([51,52],(2,())) a5 a4 a8 (icv .i64 p1)) (br (exAlOk a3 ([a2]) ([51,52],(2,())) a5 a4 (ByteArray.mk #[100,98]) (icv .i64 p1)) (br (ine ((ppF a3).2) 0) (some (.t .bool false,[])) (br (ine (((paF ((ppF a3).1)).2).2) 0) (some (.t .bool false,[])) (br (ine (a11.2) 0) (some (.t .bool false,[])) (br (ine ((a9.2).2) 0) (some (.t .bool false,[])) (br (ine ((sgnF ((a5.1,((a5.2).1,())),(a4,(a8,((20,(60,())),(([]:List Keep),()))))) 51).2) 0) (some (.t .bool false,[])) (br (ine ((sgnF a1 52).2) 0) (some (.t .bool false,[])) (br (ine (a12.2) 0) (some (.t .bool false,[])) (br (ine (a7.2) 0) (some (.t .bool false,[])) (br (ine (a10.2) 0) (some (.t .bool false,[])) (br (beqq (a9.1) (false||inSp (icv .i64 p1) ((a11.1).drop (0:Int).toNat))) (br (beqq (a12.1) (a9.1)) (br (beqq (a10.1) (a9.1)) (br (a9.1) (br (beqq (a7.1) true) (some (.t .bool fawB,[])) (some (.t .bool false,[]))) (br (ige (icv .i64 p1) 20) (br (beqq (a7.1) (ilt (icv .i64 p1) 60)) (some (.t .bool fawB,[])) (some (.t .bool false,[]))) (br (beqq (a7.1) false) (some (.t .bool fawB,[])) (some (.t .bool false,[]))))) (some (.t .bool false,[]))) (some (.t .bool false,[]))) (some (.t .bool false,[])))))))))))) none) none) none) none) none) none) none) none) none) none) none) none) none)
theorem e_f3 (p0:List Int)(p1:Int):runF g_f3 tc_f3 rv_f3 false [.t (.sl tI) p0,.t (.int .u8) p1] []=r_f3 p0 p1:=by kernel_rfl
theorem gk_f3:GOk Tryz.prog g_f3:=gok_of _ (gA (gC en_f4 ms_f4 (gC en_f5 ms_f5 (gC en_f6 ms_f6 (gC en_f7 ms_f7 (gC en_f8 ms_f8 (gC en_f9 ms_f9 (gC en_f10 ms_f10 (gC en_f11 ms_f11 (gC en_f12 ms_f12 (gC en_f13 ms_f13 (gC en_f14 ms_f14 (gC en_f15 ms_f15 gN)))))))))))))
theorem l_f3_0 (x9 x12 x14 x15:Int)(x16:List Keep)(x17:Int)(x18:Bool)(x19:Int)(y6:Policy)(y7:Dice)(y13:Keep)(h:(rngS x16 x19)=true):lp_f3_0 x9 x12 x14 x15 x16 x17 x18 x19 y6 y7 y13=la_f3_0 x9 x12 x14 x15 x16 x17 x18 x19 y6 y7 y13:=by
 obtain ⟨h0,h1,h2⟩:=of_decide_eq_true h
 obtain ⟨k,rfl⟩:=Int.eq_ofNat_of_zero_le h0
 revert x18
 refine range_ind x16 (fun k=> ∀ x18:Bool,lp_f3_0 x9 x12 x14 x15 x16 x17 x18 (k:Int) y6 y7 y13=la_f3_0 x9 x12 x14 x15 x16 x17 x18 (k:Int) y6 y7 y13) ?_ ?_ k (by omega)
 ·intro x18
  rw [ln_f3_0]
  simp only [n_f3_0,llen,ilt_nat,Nat.lt_irrefl,decide_false,br_false,la_f3_0,Int.toNat_natCast,List.drop_length,inSp,List.any_nil,Bool.or_false]
 ·intro k hk ih x18
  rw [ln_f3_0]
  simp only [n_f3_0,llen,ilt_nat,cIx_nat,hk,decide_true,br_true,Int.toNat_natCast,add1 (k:=k),lgt_get (y:=tyKeep) hk,ih]
  simp only [la_f3_0,Int.toNat_natCast,List.drop_eq_getElem_cons hk,inSp,List.any_cons]
  cases x18 with
  |true=>simp only [br_true,Bool.true_or]
  |false=>
   cases ige x15 x16[k].1 with
   |true=>simp only [br_false,br_true,Bool.false_or,Bool.true_and]
   |false=>simp only [br_false,Bool.false_or,Bool.false_and]
theorem lo_f3_0: ∀ S l p,g_f3.L 0 (fgt fg_f3_0 S)=some (true,l)->pickA l=some p->loopF (roundF g_f3 fg_f3_0 tb_f3_0) S=some p:=
 lok_of (s:=sh_f3_0) ⟨by decide,by decide⟩ (by kernel_rfl) fun x y hok p hp=>by
 simp only [pickA_br,pickA_one] at hp
 exact (l_f3_0 x.2.2.1 x.2.2.2.1 x.2.2.2.2.2.1 x.2.2.2.2.2.2.1 x.2.2.2.2.2.2.2.1 x.2.2.2.2.2.2.2.2.1 x.2.2.2.2.2.2.2.2.2.1 x.2.2.2.2.2.2.2.2.2.2.1 y.1 y.2.1 y.2.2.1 (by simpa using hok)).trans hp
theorem lk_f3:tc_f3.lok g_f3:=by
 repeat (first|exact trivial|exact lo_f3_0|refine ⟨?_, ?_⟩)
theorem inSp_all {y:Policy}{u:Keep}{p t:Int}(h:Okd y u p t):inSp t (spansF y u p)=allF y u p t:=by
 have hd:=h.day
 rw [Bool.eq_iff_iff, ← spans_in h.pol hd.1 (by omega)]
 unfold inSp inL inK
 rw [List.any_eq_true]
 constructor
 ·rintro ⟨s,hs,g⟩
  obtain ⟨g1,g2⟩:=Bool.and_eq_true_iff.1 g
  exact ⟨s,hs,of_decide_eq_true g1,of_decide_eq_true g2⟩
 ·rintro ⟨s,hs,g1,g2⟩
  exact ⟨s,hs,Bool.and_eq_true_iff.2 ⟨decide_eq_true g1,decide_eq_true g2⟩⟩
theorem keepE (u:Keep):((u.1,(u.2.1,())):Keep)=u:=rfl
theorem polE (y:Policy):((y.1,(y.2.1,())):Policy)=y:=rfl
theorem excE (x:Exception):((x.1,(x.2.1,(x.2.2.1,((x.2.2.2.1.1,(x.2.2.2.1.2.1,())),(x.2.2.2.2.1,()))))):Exception)=x:=rfl
set_option maxRecDepth 100000 in
theorem s_f3 (l:List Int)(t:Int)(h:trOk l t=true):r_f3 l t=some (.t .bool (trT l t),[]):=by
 have ht:0<=t/\t<=255:=of_decide_eq_true h
 simp only [r_f3]
 simp only [keepE,polE]
 cases hl:light l with
 |false=>rfl
 |true=>
  have e1:icv .i64 t=t:=Go.IntWalk.i64_in _ (by omega)
  rw [e1]
  have hd:=dOk_roll hl
  have hn:=dOk_pol hd
  have hu:=use_valid (polN (roll l))
  have hv:=dOk_use hn
  have hP:=pol_in (roll l)
  have hO:=pol_ok (roll l)
  have hw:=dval_lt (d:=useN (polN (roll l))) (n:=4) (by omega)
  have hp:1<=iadd .i64 1 (dval (useN (polN (roll l))) 4)/\iadd .i64 1 (dval (useN (polN (roll l))) 4)<=4:=by
   rw [iadd_in (by omega)]
   omega
  have hx:nextOk (useN (polN (roll l))) 4=true:=by simp [nextOk,hv]
  rw [hd,hn,hx]
  generalize polV (roll l)=y at hP hO ⊢
  generalize useV (polN (roll l))=u at hu ⊢
  generalize iadd .i64 1 (dval (useN (polN (roll l))) 4)=p at hp ⊢
  have hq:paF (ppF y).1=(y,(0,0)):=(pa_pp hP).1
  have hq2:=(pa_pp hP).2
  have hr:(ppF y).2=0:=by rw [ppF_eq hP]
  have hk:Okd y u p t:=⟨hO,hu,hp,ht⟩
  have hL:polLen y=true:=by
   unfold polLen lenOk5
   rw [decide_eq_true (by have:=hP.nR;omega),decide_eq_true (by have:=hP.nK;omega)]
   rfl
  have s1:sgnF (u,(p,((ByteArray.mk #[119,101,98]),((20,(60,())),(([]:List Keep),()))))) 51=(sg1 u p,0):=sgn1 hu hp
  have o1:sgnOk (u,(p,((ByteArray.mk #[119,101,98]),((20,(60,())),(([]:List Keep),()))))) 51=true:=sgnOk1 u p
  have s2:=sgn2 hu hp
  have o2:=sgnOk2 u p
  have a1:exAl y [sg1 u p] ([51,52],(2,())) u p (ByteArray.mk #[119,101,98]) t=(allF y u p t,0):=ex_a hk
  have a2:exAl y [sg2 u p] ([51,52],(2,())) u p (ByteArray.mk #[119,101,98]) t=(allF y u p t||dayB t,0):=ex_b hk
  have a3:exAl y [sg2 u p] ([51,52],(2,())) u p (ByteArray.mk #[100,98]) t=(allF y u p t,0):=ex_c hk
  have x1: ∀ e,exAlOk y [sg1 u p] ([51,52],(2,())) u p e t=true:=fun e=>exOk_of hL (exLn_sg u p _)
  have x2: ∀ e,exAlOk y [sg2 u p] ([51,52],(2,())) u p e t=true:=fun e=>exOk_of hL (exLn_sg u p _)
  have l3:polLen3 y u p=true:=hL
  have l4:polLen4 y u p t=true:=hL
  have r1:rngS (spansF y u p) 0=true:=by
   have:=spans_len y u p
   have:=hP.nR
   exact decide_eq_true (by omega)
  have i0:ine (0:Int) 0=false:=rfl
  simp only [hq,hr,s1,o1]
  simp only [s2,o2,excE]
  simp only [hq2,ppOk_in hP,hk.al,hk.sp,a1,a2,a3,x1,x2,l3,l4,r1,i0,br_true,br_false,Int.toNat_zero,List.drop_zero,Bool.false_or,inSp_all hk,Bool.not_true]
  have bb: ∀ b:Bool,beqq b b=true:=fun b=>by cases b<;>rfl
  simp only [bb,br_true]
  unfold dayB
  cases allF y u p t with
  |true=>simp only [br_true,Bool.true_or,bb];rfl
  |false=>
   rw [show ile 20 t=ige t 20 from rfl]
   cases ige t 20 with
   |true=>simp only [br_true,br_false,Bool.false_or,Bool.true_and,bb];rfl
   |false=>simp only [br_true,br_false,Bool.false_or,Bool.false_and,bb];rfl
def sp_f3:Ent:=spec (.pr (.sl tI) (.pr (.int .u8) .nil)) (fun x=>(trOk x.1 x.2.1)) (fun x=>(.t .bool (trT x.1 x.2.1)))
theorem ms_f3:Meets Tryz.prog 3 (strip sp_f3):=meets_spec (R:=runF g_f3 tc_f3 rv_f3 false) (mG Tryz.func3 (by kernel_rfl) Tryz.ntmps3 (by kernel_rfl) gk_f3 lk_f3) fun x hok=>(e_f3 x.1 x.2.1).trans (s_f3 x.1 x.2.1 hok)
theorem okw_TopRules (z0:List Int)(z1:Int)(w0:Ty.wf (.sl (.int .i64)) z0)(w1:Ty.wf (.int .u8) z1):trOk z0 z1=true:=decide_eq_true (wf_u8 w1)
theorem walkTopRules (z0:(List Int))(z1:Int)(W:World)(v0:Value)(v1:Value)(c0:C noX W (fun _=> .no) (V.t (.sl tI) z0).d v0)(c1:C noX W (fun _=> .no) (V.t (.int .u8) z1).d v1)(w0:Ty.wf (.sl tI) z0)(w1:Ty.wf (.int .u8) z1)(T:TabI noX W):
  Calls Tryz.prog 3 #[v0,v1] W fun r w'=>r= .returned (.bool true)/\Below W.heap.size W w':=
 calls_true (by decide) ms_f3 (args:=[.t (.sl tI) z0,.t (.int .u8) z1]) (strip_spec (x:=(z0,z1,())) rfl (okw_TopRules z0 z1 w0 w1)) (by simp only [V.ds,Cs];exact ⟨_,_,rfl,c0,_,_,rfl,c1,rfl⟩) (ht:=T)
end
end Go.Proofs.YticnbacafmeiiaaGreatDoor.K
