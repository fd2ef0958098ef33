import Derived.Test.YtkkoedniahnneaaDoorQ4
import Derived.Test.YtkkoedniahnneaaDoorQ3
import Derived.Shelf.Strings.Replace
import Derived.Deep.LoopGhost
set_option linter.unusedSimpArgs false
set_option linter.unusedVariables false
namespace Go.Proofs.YtkkoedniahnneaaDoor.K
open Go.RowKit
attribute [local go_sem ↓] Go.wp_at_zero Go.wp_at_succ
noncomputable section
set_option linter.unusedSectionVars false
theorem stmts_all (m:Nat):StmtsOK m:=by
 induction m using Nat.strongRecOn with
 |ind m ih=>exact stmts_any m (stmt_any m ih)
theorem count_calls (s:ByteArray)(w:World):Calls Tryd.prog 56 #[.string s,.string ⟨#[10]⟩] w fun e w'=>e= .returned (.int .i64 (endN s))/\w'=w:=by
 refine (Any.strings_Count_one Tryd.lays138 s 10 w).mono ?_
 rintro e w' ⟨rfl,rfl⟩
 exact ⟨rfl,rfl⟩
def py0 (s:ByteArray):ParserX:=((s,(0,(1,(false,())))),((0,(0,(ByteArray.mk #[],()))),(0,(0,(nilS,())))))
theorem px_init {s:ByteArray}(h:s.size<=8192):PTok (tkD (psX s)) (psD (py0 s))/\((tkD (psX s)).2.1.1≠63->LN (tkD (psX s)))/\px1 (py0 s)=true:=by
 obtain ⟨_,_,h2⟩:=okR_ps h
 obtain ⟨t1,t2,_⟩:=tok_step (x:=psX s) (y:=py0 s) rfl h2 (by
  show (1:Int)=1+(nlC ((bytesL s).take (0:Int).toNat):Int)
  rfl)
 exact ⟨t1,t2,px_of rfl h2⟩
theorem sa_init {s:ByteArray}(h:s.size<=8192){w:World}{b:Nat}(hQ:QB w b (psD (py0 s))):SA w b (psD (py0 s)) (tkD (psX s)) [] []/\DP False (tkD (psX s)) (psD (py0 s)):=by
 obtain ⟨o1,o2,h2⟩:=okR_ps h
 obtain ⟨t1,t2,_⟩:=px_init h
 have ht:=tk_ok h2
 have hp:pall (psD (py0 s))=nilS:=by rw [show pall (psD (py0 s))=(psD (py0 s)).2.2.2.2.1 from rfl,psD_all];rfl
 refine ⟨⟨hQ,t1,o1,t2, ?_, ?_, ?_, ?_⟩, ?_⟩
 ·rw [ht.rest]
  rfl
 ·rw [hp]
  exact RowAt.nil_ w b
 ·rw [ht.text]
  exact h
 ·show 0+rmX _<=20000
  omega
 ·unfold DP
  rw [ht.rest,psD_all]
  show (false=true)↔((16:Int)<0∨(64:Int)<0∨False)
  simp
theorem paB_in {s:ByteArray}(h:s.size<=8192)(h2:endN s<=200):paB s=bif ine (psZ s).2.2.1 0 then ([],((psZ s).2.2.1,1)) else bif (psZ s).2.2.2.1 then ([],(0,3)) else (stF (tkD (psX s)) 1,(0,0)):=by
 unfold paB
 rw [show igt (slen s) 8192=false from decide_eq_false (by simp only [slen];omega),show igt (endN s) 200=false from decide_eq_false (by omega)]
 rfl
theorem paB_bad {s:ByteArray}(h:s.size<=8192)(h2:endN s<=200)(he:(psY s).2.2.1≠0):paB s=([],((psY s).2.2.1,1)):=by
 have hz:psZ s=psY s:=by
  unfold psZ
  rw [ne_ieq he]
  rfl
 rw [paB_in h h2,hz,show ine (psY s).2.2.1 0=true from bne_iff_ne.2 he]
 rfl
theorem paB_end {s:ByteArray}(h:s.size<=8192)(h2:endN s<=200)(he:(psY s).2.2.1=0)(ht:(psY s).2.1.1≠0)(hk:okR (psY s)=true):paB s=([],((flD (psY s)).2.2.1,1)):=by
 have hz:psZ s=flD (psY s):=by
  unfold psZ
  rw [he,show ine (psY s).2.1.1 0=true from bne_iff_ne.2 ht]
  rfl
 rw [paB_in h h2,hz,fl_err hk]
 rfl
theorem paB_ok {s:ByteArray}(h:s.size<=8192)(h2:endN s<=200)(he:(psY s).2.2.1=0)(ht:(psY s).2.1.1=0):paB s=bif (psY s).2.2.2.1 then ([],(0,3)) else ((stX 1 [] (tkD (psX s))).1,(0,0)):=by
 have hz:psZ s=psY s:=by
  unfold psZ
  rw [ht]
  cases ieq (psY s).2.2.1 0<;>rfl
 have hf:stF (tkD (psX s)) 1=(stX 1 [] (tkD (psX s))).1:=by
  unfold stF stBad
  rw [show (stX 1 [] (tkD (psX s))).2=psY s from rfl,he]
  simp
 rw [paB_in h h2,hz,he,hf]
 rfl
def ParsePost (s:ByteArray)(w:World)(e:Ending)(w':World):Prop:=
 ∃ v,e= .returned (.tuple #[v,.int .i64 (paB s).2.1,.int .i64 (paB s).2.2])/\C (fun g _=>g<w.heap.size) w' nowhere (V.t (.sl tyBlkT) (paB s).1).d v/\Below w.heap.size w w'
theorem post_nil {s:ByteArray}{w w':World}{n e:Int}(h:paB s=([],(n,e)))(hb:Below w.heap.size w w'):ParsePost s w (.returned (.tuple #[nilS,.int .i64 n,.int .i64 e])) w':=by
 refine ⟨nilS, ?_, ?_,hb⟩
 ·rw [h]
 ·rw [h]
  exact nil_c
theorem post_ok {s:ByteArray}{w w1 w':World}{y':ParserX}{v0 v:Value}(h:paB s=((stX 1 [] (tkD (psX s))).1,(0,0)))(hn:v0.ownBlock=none)(hv:pall y'=v)(ho: ∀ g,v.ownBlock=some g->w.heap.size<=g)(hw:w.heap.size<=w1.heap.size)
  {sv:Value} (hC:C (XN v v0 w1.heap.size) w' nowhere (.sl (stX 1 [] (tkD (psX s))).1.length ((stX 1 [] (tkD (psX s))).1.flatMap tyBlkT.cells)) sv) (hb:Below w.heap.size w w'):ParsePost s w (.returned (.tuple #[sv,.int .i64 0,.int .i64 0])) w':=by
 refine ⟨sv, ?_, ?_,hb⟩
 ·rw [h]
 ·rw [h]
  exact C.less hC (fun g q hg=> .inl ⟨Nat.lt_of_lt_of_le hg hw,by rw [hn];simp⟩) rfl
set_option maxHeartbeats 4000000 in
theorem parseB_any (s:ByteArray)(w:World):Calls Tryd.prog 42 #[.string s] w (ParsePost s w):=by
 by_cases h1:s.size<=8192
 ·by_cases h2:endN s<=200
  ·have i1: ¬ ((s.size:Nat):Int) > 8192:=by omega
   have i2: ¬ endN s > 200:=by omega
   have H1:=Lib.hid h1
   have H2:=Lib.hid h2
   clear h1 h2
   go_enter Tryd.func42,Tryd.ntmps42
   go_wp2_with (go_at_call 56;refine (count_calls s _).mono ?_;rintro e w1 ⟨rfl,hw⟩;obtain rfl:=hw.symm)
   obtain ⟨b,hb⟩: ∃ b,b=w.heap.size:=⟨_,rfl⟩
   obtain ⟨wx,hwx⟩: ∃ wx,wx=w.alloc (Obj.cells #[.string s,.int .i64 0,.int .i64 1,.bool false,.int .i64 0,.int .i64 0,.string ⟨#[]⟩,.int .i64 0,.int .i64 0,nilS] 108):=⟨_,rfl⟩
   have hQ0:QB wx b (py0 s):=⟨_,by rw [hwx,hb];exact Go.Proofs.YtkkoedniahnneaaDoor.Blk.new w _ _⟩
   have hB0:Below w.heap.size w wx:=by rw [hwx];exact (Below.refl _ _).alloc (Nat.le_refl _) _
   rw [←hwx, ← hb]
   have HB:=Lib.hid hb
   have HB0:=Lib.hid hB0
   clear hwx hb hB0
   refine (step_calls hQ0 (px_init H1.out).2.2 rfl).mono ?_
   rintro e w1 ⟨rfl,hb1,hg1⟩
   obtain ⟨hsa,hdp⟩:=sa_init H1.out hb1
   have HB1:Hid (Below w.heap.size w w1):=Lib.hid (HB0.out.trans (below_of_only' hg1 (by rw [HB.out];exact Nat.le_refl _) HB0.out.size))
   have HSA:=Lib.hid hsa
   have hih:=stmts_all (rmX (tkD (psX s))) b _ _ 1 [] [] w1 False hsa hdp (by decide) (by have:=(okR_ps H1.out).2.1;omega) (Nat.le_refl _)
   have HIH:=Lib.hid hih
   clear hQ0 hb1 hg1 hsa hdp hih
   go_wp2_with fail
   refine HIH.out.mono ?_
   rintro e w2 hpost
   have hpn:pall (psD (py0 s))=nilS:=by rw [show pall (psD (py0 s))=(psD (py0 s)).2.2.2.2.1 from rfl,psD_all];rfl
   have bel:FrP b (pall (psD (py0 s))) w1 w2->Below w.heap.size w w2:=fun hF=>HB1.out.trans (by
    have:=hF.below (e:=38) (size:=4) (n:=0) (xs:=[]) (by rw [hpn];exact World.ownsRow_nil _ _ _ _) (by have:=HSA.out.blk.lt;omega)
    rw [HB.out] at this
    exact this)
   rcases hpost with ⟨sv,y',rfl,herr,hsa2,hdp2,hrm2,hk3,hC,hF⟩|⟨sv,y',ok2,rfl,herr,hQ2,hline,hkk,hF⟩
   ·have z4:=hsa2.blk.cell 4
    have z5:=hsa2.blk.cell 5
    have z7:=hsa2.blk.cell 7
    have z8:=hsa2.blk.cell 8
    simp only [pcs,List.getElem?_toArray,List.getElem?_cons_zero,List.getElem?_cons_succ] at z4 z5 z7 z8
    have hBel:=bel hF.fr
    have hown:=hF.own
    have HSA2:=Lib.hid hsa2
    have HC:=Lib.hid hC
    have HBEL:=Lib.hid hBel
    have HERR:=Lib.hid herr
    have HOWN:=Lib.hid hown
    have HPN:=Lib.hid hpn
    have HDP2:=Lib.hid hdp2
    clear bel hsa2 hdp2 hC hF hBel herr hrm2 hk3 hown hpn
    by_cases ht:(psY s).2.1.1=0
    ·have hk6:y'.2.1.1=6:=by
      have h7:=HSA2.out.tok.kind
      rw [h7]
      unfold kindT
      rw [show (stX 1 [] (tkD (psX s))).2.2.1.1=0 from ht]
      rfl
     rw [hk6] at z4
     have HT:=Lib.hid ht
     clear ht hk6
     cases hdeep:(psY s).2.2.2.1 with
     |true=>
      have h7:=HDP2.out.1 hdeep
      have HR:Hid (paB s=([],(0,3))):=Lib.hid (by rw [paB_ok H1.out H2.out HERR.out HT.out,hdeep];rfl)
      clear hdeep
      by_cases hd:16<y'.2.2.2.1
      ·clear h7
       go_wp2_with fail
       go_ret3
       exact post_nil HR.out HBEL.out
      ·have hw:64<y'.2.2.1:=by rcases h7 with h|h|h;exact absurd h hd;exact h;exact h.elim
       clear h7
       go_wp2_with fail
       go_ret3
       exact post_nil HR.out HBEL.out
     |false=>
      have h7: ¬ (16<y'.2.2.2.1∨64<y'.2.2.1∨False):=fun h=>by
       have:=HDP2.out.2 h
       rw [show (stX 1 [] (tkD (psX s))).2.2.2.2.1=false from hdeep] at this
       cases this
      have hd1: ¬ 16<y'.2.2.2.1:=fun h=>h7 (.inl h)
      have hd2: ¬ 64<y'.2.2.1:=fun h=>h7 (.inr (.inl h))
      have HR:Hid (paB s=((stX 1 [] (tkD (psX s))).1,(0,0))):=Lib.hid (by rw [paB_ok H1.out H2.out HERR.out HT.out,hdeep];rfl)
      clear hdeep h7
      go_wp2_with fail
      go_ret3
      exact post_ok HR.out (by rw [HPN.out];rfl) rfl (fun g hg=>by have:=(HSA2.out.row.own.lt g hg).1;have:=HB.out;omega) HB1.out.size HC.out HBEL.out
    ·have hk6:=beq_eq_false_iff_ne.2 (kindT_6 HSA2.out.tok ht)
     have HR:Hid (paB s=([],(y'.2.1.2.1,1))):=Lib.hid (by rw [fl_line HSA2.out.tok HERR.out];exact paB_end H1.out H2.out HERR.out ht HSA2.out.ok)
     clear ht
     go_wp2_with fail
     go_region_held3 (fun w'=>w'.cell? ⟨b,5,none⟩=some (.int .i64 y'.2.1.2.1)/\w'=w2.drew) (first|exact ⟨by assumption,rfl⟩|exact ⟨z5,rfl⟩|go_keep) (fail)
     go_wp2_with fail
     go_ret3
     exact post_nil HR.out HBEL.out.drew
   ·have z4:=hQ2.cell 4
    have z5:=hQ2.cell 5
    simp only [pcs,List.getElem?_toArray,List.getElem?_cons_zero,List.getElem?_cons_succ] at z4 z5
    have HR:Hid (paB s=([],(y'.2.1.2.1,1))):=Lib.hid (by rw [hline];exact paB_bad H1.out H2.out herr)
    have HBEL:=Lib.hid (bel hF)
    clear bel herr hQ2 hline hF
    cases ok2 with
    |true=>
     have hk6:=beq_eq_false_iff_ne.2 (hkk rfl).2
     clear hkk
     go_wp2_with fail
     go_region_held3 (fun w'=>w'.cell? ⟨b,5,none⟩=some (.int .i64 y'.2.1.2.1)/\w'=w2.drew) (first|exact ⟨by assumption,rfl⟩|exact ⟨z5,rfl⟩|go_keep) (fail)
     go_wp2_with fail
     go_ret3
     exact post_nil HR.out HBEL.out.drew
    |false=>
     clear hkk
     go_wp2_with fail
     go_region_held3 (fun w'=>w'.cell? ⟨b,5,none⟩=some (.int .i64 y'.2.1.2.1)/\w'=w2.drew) (first|exact ⟨by assumption,rfl⟩|exact ⟨z5,rfl⟩|go_keep) (fail)
     go_wp2_with fail
     go_ret3
     exact post_nil HR.out HBEL.out.drew
  ·have i1: ¬ ((s.size:Nat):Int) > 8192:=by omega
   have i2:endN s > 200:=by omega
   have HR:Hid (paB s=([],(0,3))):=Lib.hid (by
    unfold paB
    rw [show igt (slen s) 8192=false from decide_eq_false (by simp only [slen];omega),show igt (endN s) 200=true from decide_eq_true i2]
    rfl)
   clear h1 h2
   go_enter Tryd.func42,Tryd.ntmps42
   go_wp2_with (go_at_call 56;refine (count_calls s _).mono ?_;rintro e w1 ⟨rfl,hw⟩;obtain rfl:=hw.symm)
   go_ret3
   exact post_nil HR.out (Below.refl _ _)
 ·have i1:((s.size:Nat):Int) > 8192:=by omega
  have HR:Hid (paB s=([],(0,3))):=Lib.hid (by
   unfold paB
   rw [show igt (slen s) 8192=true from decide_eq_true (by simp only [slen];omega)]
   rfl)
  clear h1
  go_enter Tryd.func42,Tryd.ntmps42
  go_wp2_with fail
  go_ret3
  exact post_nil HR.out (Below.refl _ _)
end
end Go.Proofs.YtkkoedniahnneaaDoor.K
namespace Go.Proofs.YtkkoedniahnneaaDoor.K
open Go.RowKit
noncomputable section
set_option linter.unusedSectionVars false
def sp_f42:Ent:=spec (.pr .str .nil) (fun x=>(paOk x.1)) (fun x=>(.tu [(.t (.sl tyBlkT) ((paB x.1).1)),(.t tI (((paB x.1).2).1)),(.t tI (((paB x.1).2).2))]))
theorem en_f42:Entered Tryd.prog 42:= .inr ⟨by decide,_,Tryd.func42,by kernel_rfl,by kernel_rfl⟩
theorem ms_f42:Meets Tryd.prog 42 (strip sp_f42):=by
 unfold sp_f42
 refine meets_calls (fun x hok X w σ vs hfin hc=> ?_)
 obtain ⟨s,u⟩:=x
 simp only [Ty.canon,V.ds,V.d,Ty.d,Cs,C] at hc
 obtain ⟨v1,r1,rfl,⟨rfl,_⟩,rfl⟩:=hc
 refine (parseB_any s w).mono ?_
 rintro e w' ⟨v,rfl,hC,hb⟩
 refine ⟨_,rfl, ?_,hb⟩
 have hv:C X w' σ (V.t (.sl tyBlkT) (paB s).1).d v:=C.up _ _ (C.less hC (fun b q hq=>hfin b q hq) rfl)
 show C X w' σ (.tu [(V.t (.sl tyBlkT) (paB s).1).d,.v (.int .i64 (paB s).2.1),.v (.int .i64 (paB s).2.2)]) _
 simp only [C,Cs]
 exact ⟨_,rfl,_,_,rfl,hv,_,_,rfl,⟨rfl,rfl⟩,_,_,rfl,⟨rfl,rfl⟩,rfl⟩
end
end Go.Proofs.YtkkoedniahnneaaDoor.K
namespace Go.Proofs
open Go.Shelf
def Tryd.lays154_ren:Go.Shelf.Ren:=⟨fun|154=>153|138=>56|165=>126|143=>100|166=>60|197=>167|169=>55|195=>98|218=>99|240=>108|241=>152|219=>128|260=>172|276=>132|277=>166|217=>154|225=>155|224=>156|267=>157|266=>168|314=>169|n=>n,fun|9=>9|3=>3|4=>4|72=>75|0=>0|76=>84|105=>176|21=>21|5=>5|70=>73|20=>20|37=>28|75=>83|127=>127|164=>154|46=>148|119=>184|139=>187|138=>186|146=>169|51=>168|80=>77|n=>n,fun|1=>0|3=>1|4=>2|n=>n⟩
theorem Tryd.lays154:Go.Proofs.Lays.n154 Tryd.prog Tryd.lays154_ren:={
 mixed:=by kernel_rfl
 f138:=Tryd.func56.trans (congrArg some (by kernel_rfl))
 f143:=Tryd.func100.trans (congrArg some (by kernel_rfl))
 f154:=Tryd.func153.trans (congrArg some (by kernel_rfl))
 f165:=Tryd.func126.trans (congrArg some (by kernel_rfl))
 f166:=Tryd.func60.trans (congrArg some (by kernel_rfl))
 f169:=Tryd.func55.trans (congrArg some (by kernel_rfl))
 f195:=Tryd.func98.trans (congrArg some (by kernel_rfl))
 f197:=Tryd.func167.trans (congrArg some (by kernel_rfl))
 f217:=Tryd.func154.trans (congrArg some (by kernel_rfl))
 f218:=Tryd.func99.trans (congrArg some (by kernel_rfl))
 f219:=Tryd.func128.trans (congrArg some (by kernel_rfl))
 f224:=Tryd.func156.trans (congrArg some (by kernel_rfl))
 f225:=Tryd.func155.trans (congrArg some (by kernel_rfl))
 f240:=Tryd.func108.trans (congrArg some (by kernel_rfl))
 f241:=Tryd.func152.trans (congrArg some (by kernel_rfl))
 f260:=Tryd.func172.trans (congrArg some (by kernel_rfl))
 f266:=Tryd.func168.trans (congrArg some (by kernel_rfl))
 f267:=Tryd.func157.trans (congrArg some (by kernel_rfl))
 f276:=Tryd.func132.trans (congrArg some (by kernel_rfl))
 f277:=Tryd.func166.trans (congrArg some (by kernel_rfl))
 f314:=Tryd.func169.trans (congrArg some (by kernel_rfl))
 t0:=Tryd.underlying0
 a0:=Tryd.isAgg0
 z0:=Tryd.sizeOf0
 v0:=Tryd.zeroValue0
 t3:=Tryd.underlying3
 a3:=Tryd.isAgg3
 z3:=Tryd.sizeOf3
 v3:=Tryd.zeroValue3
 t4:=Tryd.underlying4
 a4:=Tryd.isAgg4
 z4:=Tryd.sizeOf4
 v4:=Tryd.zeroValue4
 t5:=Tryd.underlying5
 a5:=Tryd.isAgg5
 z5:=Tryd.sizeOf5
 v5:=Tryd.zeroValue5
 t9:=Tryd.underlying9
 a9:=Tryd.isAgg9
 z9:=Tryd.sizeOf9
 v9:=Tryd.zeroValue9
 t20:=Tryd.underlying20
 a20:=Tryd.isAgg20
 z20:=Tryd.sizeOf20
 v20:=Tryd.zeroValue20
 t21:=Tryd.underlying21
 a21:=Tryd.isAgg21
 z21:=Tryd.sizeOf21
 v21:=Tryd.zeroValue21
 t37:=Tryd.underlying28
 a37:=Tryd.isAgg28
 z37:=Tryd.sizeOf28
 v37:=Tryd.zeroValue28
 t46:=Tryd.underlying148
 a46:=Tryd.isAgg148
 z46:=Tryd.sizeOf148
 v46:=Tryd.zeroValue148
 t51:=Tryd.underlying168
 a51:=Tryd.isAgg168
 z51:=Tryd.sizeOf168
 v51:=Tryd.zeroValue168
 t70:=Tryd.underlying73
 a70:=Tryd.isAgg73
 z70:=Tryd.sizeOf73
 v70:=Tryd.zeroValue73
 t72:=Tryd.underlying75
 a72:=Tryd.isAgg75
 z72:=Tryd.sizeOf75
 v72:=Tryd.zeroValue75
 t75:=Tryd.underlying83
 a75:=Tryd.isAgg83
 z75:=Tryd.sizeOf83
 v75:=Tryd.zeroValue83
 t76:=Tryd.underlying84
 a76:=Tryd.isAgg84
 z76:=Tryd.sizeOf84
 v76:=Tryd.zeroValue84
 t105:=Tryd.underlying176
 a105:=Tryd.isAgg176
 z105:=Tryd.sizeOf176
 v105:=Tryd.zeroValue176
 t119:=Tryd.underlying184
 a119:=Tryd.isAgg184
 z119:=Tryd.sizeOf184
 t127:=Tryd.underlying127
 a127:=Tryd.isAgg127
 z127:=Tryd.sizeOf127
 v127:=Tryd.zeroValue127
 t138:=Tryd.underlying186
 a138:=Tryd.isAgg186
 z138:=Tryd.sizeOf186
 v138:=Tryd.zeroValue186
 t139:=Tryd.underlying187
 a139:=Tryd.isAgg187
 z139:=Tryd.sizeOf187
 v139:=Tryd.zeroValue187
 t146:=Tryd.underlying169
 a146:=Tryd.isAgg169
 z146:=Tryd.sizeOf169
 v146:=Tryd.zeroValue169
 t164:=Tryd.underlying154
 a164:=Tryd.isAgg154
 z164:=Tryd.sizeOf154
 v164:=Tryd.zeroValue154
 g1:=by kernel_rfl
 g3:=by kernel_rfl
 g4:=by kernel_rfl}
end Go.Proofs
namespace Go.Proofs.YtkkoedniahnneaaDoor.K
open Go.RowKit Go.Shelf
attribute [local go_sem ↓] Go.wp_at_zero Go.wp_at_succ
def repB (c:UInt8)(n:List UInt8)(l:List UInt8):List UInt8:=l.flatMap fun b=>if b=c then n else [b]
theorem repB_cons (c:UInt8)(n:List UInt8)(b:UInt8)(l:List UInt8):repB c n (b::l)=(if b=c then n else [b])++repB c n l:=rfl
theorem repB_none {c:UInt8}{n:List UInt8}: ∀ {l:List UInt8},l.count c=0->repB c n l=l
 | [],_=>rfl
 |b::l,h=>by
  rw [List.count_cons] at h
  have hb:b≠c:=fun e=>by rw [e] at h;simp at h
  rw [repB_cons,if_neg hb,repB_none (l:=l) (by omega)]
  rfl
theorem index_at: ∀ {l:List UInt8} {c:UInt8},0<l.count c→ ∃ j:Nat,Lib.indexByte l c=j/\j<l.length/\(∀ n,repB c n l=l.take j++(n++repB c n (l.drop (j+1))))/\(l.drop (j+1)).count c+1=l.count c
 | [],_,h=>by simp at h
 |b::l,c,h=>by
  by_cases hb:b=c
  ·subst hb
   refine ⟨0, ?_,by simp,fun n=> ?_, ?_⟩
   ·unfold Lib.indexByte
    simp
   ·rw [repB_cons,if_pos rfl]
    rfl
   ·rw [List.count_cons]
    simp
  ·rw [List.count_cons] at h
   have hbq:(b==c)=false:=beq_eq_false_iff_ne.2 hb
   rw [hbq] at h
   obtain ⟨j,h1,h2,h3,h4⟩:=index_at (l:=l) (c:=c) (by simpa using h)
   refine ⟨j+1, ?_,by rw [List.length_cons];omega,fun n=> ?_, ?_⟩
   ·unfold Lib.indexByte
    rw [h1,hbq,if_neg Bool.false_ne_true,show ((j:Int)== -1)=false from beq_eq_false_iff_ne.2 (by omega),if_neg Bool.false_ne_true]
    rfl
   ·rw [repB_cons,if_neg hb,h3 n]
    rfl
   ·rw [List.count_cons,hbq]
    simpa using h4
theorem repB_len (c:UInt8)(n:List UInt8)(hn:n.length=2): ∀ l:List UInt8,(repB c n l).length=l.length+l.count c
 | []=>rfl
 |b::l=>by
  rw [repB_cons,List.length_append,repB_len c n hn l,List.count_cons,List.length_cons]
  by_cases hb:b=c
  ·rw [if_pos hb,hn]
   simp [hb]
   omega
  ·rw [if_neg hb]
   simp [hb]
   omega
section
variable {P:Program}{ρ:Ren}
set_option maxHeartbeats 16000000 in
set_option maxRecDepth 1000000 in
/-- strings.Replace of one letter by two -/
theorem rep_some (L:Lays.n154 P ρ)(X:Builder.Extra P ρ)(s:ByteArray)(c:UInt8)(new:ByteArray)(w:World)(hs:s.size<=4000000000)(hn2:new.size=2)(hc0:0<(bl s).count c):
  Calls P (ρ.f 154) #[.string s,.string ⟨#[c]⟩,.string new,.int .i64 (-1)] w fun e w'=>e= .returned (.string (mkB (repB c (bl new) (bl s))))/\Below w.heap.size w w':=by
 have hC:=Any.strings_Count_one {L with} s c w
 obtain ⟨old,hold⟩: ∃ old:ByteArray,old=⟨#[c]⟩:=⟨_,rfl⟩
 obtain ⟨K,hK⟩: ∃ K:Nat,K=(bl s).count c:=⟨_,rfl⟩
 have hcc:Lib.countByte s.data.toList c=K:=hK.symm
 rw [hcc] at hC
 have hKs:K<=s.size:=by rw [hK, ← bl_len];exact List.count_le_length
 rw [←hK] at hc0
 have hne:old≠new:=fun e=>by rw [←e,hold] at hn2;have:(⟨#[c]⟩:ByteArray).size=1:=rfl;omega
 have ho1:old.size=1:=by rw [hold];rfl
 have hbeq:(old.toList==new.toList)=false:=(Lib.bytes_beq_false_iff old new).2 hne
 have hnz:((-1:Int)==0)=false:=rfl
 have hcz:((K:Int)==0)=false:=beq_eq_false_iff_ne.2 (by omega)
 have HKC:=Lib.hid hK
 have hod:decide (0<old.size)=true:=decide_eq_true (by omega)
 have hI: ∀ (t:ByteArray) (w:World),Calls P (ρ.f 143) #[.string t,.string old] w fun e w'=>e= .returned (.int .i64 (Lib.indexByte t.data.toList c))/\w'=w:=fun t w=>by rw [hold];exact Any.strings_Index_one {L with} t c w
 have HI:=Lib.hid hI
 rw [←hold] at hC ⊢
 clear hI hold hK hcc hne
 have mixed:=L.mixed
 have t72:=L.t72;have a72:=L.a72;have z72:=L.z72;have v72:=L.v72;have u72:=run_underlying L.t72
 have t70:=L.t70;have a70:=L.a70;have z70:=L.z70;have v70:=L.v70;have u70:=run_underlying L.t70
 have t37:=L.t37;have a37:=L.a37;have z37:=L.z37;have v37:=L.v37;have u37:=run_underlying L.t37
 have t3:=L.t3;have a3:=L.a3;have z3:=L.z3;have v3:=L.v3;have u3:=run_underlying L.t3
 have t9:=L.t9;have a9:=L.a9;have z9:=L.z9;have v9:=L.v9;have u9:=run_underlying L.t9
 have t4:=L.t4;have a4:=L.a4;have z4:=L.z4;have v4:=L.v4;have u4:=run_underlying L.t4
 have e138: ∀ args w,(callFunc (ρ.f 138) args).run P w= .ok (.enter (ρ.f 138) args) w:=enters_of L.f138 (by kernel_rfl) rfl
 have e143: ∀ args w,(callFunc (ρ.f 143) args).run P w= .ok (.enter (ρ.f 143) args) w:=enters_of L.f143 (by kernel_rfl) rfl
 have e165: ∀ args w,(callFunc (ρ.f 165) args).run P w= .ok (.enter (ρ.f 165) args) w:=enters_of L.f165 (by kernel_rfl) rfl
 have e166: ∀ args w,(callFunc (ρ.f 166) args).run P w= .ok (.enter (ρ.f 166) args) w:=enters_of L.f166 (by kernel_rfl) rfl
 have e169: ∀ args w,(callFunc (ρ.f 169) args).run P w= .ok (.enter (ρ.f 169) args) w:=enters_of L.f169 (by kernel_rfl) rfl
 go_enter L.f154,Body.n154_ntmps ρ
 go_wp2_with (first|(go_at_fn (ρ.f 138);refine hC.mono ?_;rintro e w' ⟨rfl,hw⟩;rw [hw]))
 clear hC
 rw [show ((s.size:Int)+(K:Int))=((s.size+K:Nat):Int) from (Int.natCast_add _ _).symm]
 refine (Any.Builder_Grow_fresh {L with} X w.heap.size w.heap.size _ _ (Nat.le_refl _) (heap_alloc_new w _) (by simp) (by omega)).mono ?_
 rintro e w1 ⟨rfl,hb0,hb1⟩
 have H1:=Lib.hid (Or.inr hb0:Lib.IsBuilder (ρ.t 72) (ρ.t 5) w.heap.size w.heap.size (Lib.byteCells []) w1)
 have Hb1:=Lib.hid (((Below.refl w.heap.size w).alloc (Nat.le_refl _) _).trans hb1)
 clear hb0 hb1
 go_wp2_with fail
 go_loopg [11,53] K (fun g s11 s53 wx=> ∃ (i start:Nat) (acc:List UInt8),s53= .int .i64 i/\s11= .int .i64 start/\i+g=K/\start<=s.size∧
  Hid (Lib.IsBuilder (ρ.t 72) (ρ.t 5) w.heap.size w.heap.size (Lib.byteCells acc) wx)/\Hid (Below w.heap.size w wx)/\Hid (acc++repB c (bl new) ((bl s).drop start)=repB c (bl new) (bl s)/\((bl s).drop start).count c=g)/\acc.length<=start+i)
 case atStart=>exact ⟨0,0,[],rfl,rfl,by omega,Nat.zero_le _,H1,Hb1,Lib.hid ⟨rfl,HKC.out.symm⟩,by simp⟩
 case round=>
  obtain ⟨i,start,acc,rfl,rfl,hig,hst,HB,HW,HR,hbd⟩:=hrel
  have hBw:w.heap.size<=wr.heap.size:=HW.out.size
  have c1:(0:Int)<=(start:Int):=by omega
  have c2:(start:Int)<=(s.size:Int):=by omega
  cases gk with
  |zero=>
   have hiK: ¬ ((i:Int)<(K:Int)):=by omega
   go_wp2_with fail
   refine (Any.Builder_WriteString {L with} X w.heap.size w.heap.size _ _ wr HB.out (by rw [Lib.byteCells_length,ByteArray.size_extract];omega) hBw).mono ?_
   rintro e w3 ⟨rfl,h3,hb3⟩
   rw [Lib.strCells_eq,Lib.extract_to_end, ← Lib.byteCells_append] at h3
   have hfin:acc++(bl s).drop start=repB c (bl new) (bl s):=by
    have:=HR.out
    rw [repB_none this.2] at this
    exact this.1
   rw [show s.data.toList=bl s from rfl,hfin] at h3
   have H3:=Lib.hid (Or.inr h3:Lib.IsBuilder (ρ.t 72) (ρ.t 5) w.heap.size w.heap.size _ w3)
   have Hb3:=Lib.hid (HW.out.trans hb3)
   have hBw3:w.heap.size<=w3.heap.size:=Hb3.out.size
   clear h3 hb3 hfin
   go_wp2_with fail
   refine (Any.Builder_String_any {L with} X w.heap.size w.heap.size _ w3 H3.out hBw3).mono ?_
   rintro e w5 ⟨rfl,hb5⟩
   have Hb5:=Lib.hid (Hb3.out.trans hb5)
   clear hb5
   go_wp2
   go_ret
   exact ⟨rfl,Hb5.out⟩
  |succ g=>
   have hiK:(i:Int)<(K:Int):=by omega
   obtain ⟨j,j1,j2,j3,j4⟩:=index_at (l:=(bl s).drop start) (c:=c) (by rw [HR.out.2];omega)
   have j2:j<s.size-start:=by rw [List.length_drop,bl_len] at j2;exact j2
   have c3:(start:Int)<=(start:Int)+(j:Int):=by omega
   have c4:(start:Int)+(j:Int)<=(s.size:Int):=by omega
   have hnext:Lib.byteCells acc++Lib.strCells (s.extract start (start+j))++Lib.strCells new=Lib.byteCells (acc++((bl s).drop start).take j++bl new):=by
    rw [Lib.strCells_eq,Lib.strCells_eq,Lib.extract_data,Nat.add_sub_cancel_left, ← Lib.byteCells_append, ← Lib.byteCells_append]
   have hrep:(acc++((bl s).drop start).take j++bl new)++repB c (bl new) ((bl s).drop (start+j+1))=repB c (bl new) (bl s)/\((bl s).drop (start+j+1)).count c=g:=by
    have h1:=HR.out.1
    have h2:=HR.out.2
    rw [j3,List.drop_drop] at h1
    rw [List.drop_drop] at j4
    rw [show start+j+1=start+(j+1) by omega]
    refine ⟨?_,by omega⟩
    rw [←h1]
    simp only [List.append_assoc]
   have hal:(acc++((bl s).drop start).take j++bl new).length<=(start+j+1)+(i+1):=by
    simp only [List.length_append,List.length_take,List.length_drop,bl_len]
    omega
   have HJ:=Lib.hid j1
   have HAL:=Lib.hid hal
   have Hn:=Lib.hid hnext
   have Hrep:=Lib.hid hrep
   clear hnext hrep HR j1 j3 j4 hal
   go_wp2_with (first|(go_at_fn (ρ.f 143);refine (HI.out _ _).mono ?_;rintro e w' ⟨rfl,hw⟩;rw [hw,Lib.extract_to_end,show s.data.toList=bl s from rfl,HJ.out]))
   refine (Any.Builder_WriteString {L with} X w.heap.size w.heap.size _ (s.extract start (start+j)) wr HB.out (by rw [Lib.byteCells_length,ByteArray.size_extract];omega) hBw).mono ?_
   rintro e w3 ⟨rfl,h3,hb3⟩
   have hBw3:w.heap.size<=w3.heap.size:=Nat.le_trans hBw hb3.size
   have H3:=Lib.hid h3
   have Hb3:=Lib.hid hb3
   clear h3 hb3
   go_wp2_with fail
   refine (Any.Builder_WriteString {L with} X w.heap.size w.heap.size _ new w3 (Or.inr H3.out) (by rw [List.length_append,Lib.byteCells_length,Lib.strCells_length,ByteArray.size_extract];omega) hBw3).mono ?_
   rintro e w4 ⟨rfl,h4,hb4⟩
   rw [Hn.out] at h4
   have H4:=Lib.hid (Or.inr h4:Lib.IsBuilder (ρ.t 72) (ρ.t 5) w.heap.size w.heap.size _ w4)
   have Hb4:=Lib.hid ((HW.out.trans Hb3.out).trans hb4)
   clear h4 hb4
   go_wp2
   go_roundg g
   case measure=>omega
   case rel=>exact ⟨i+1,start+j+1,_,by first|rfl|(simp;unfold wrap64;omega),by first|rfl|simp|(simp;unfold wrap64;omega),by omega,by omega,H4,Hb4,Hrep,HAL.out⟩
set_option maxHeartbeats 4000000 in
set_option maxRecDepth 1000000 in
theorem rep_absent (L:Lays.n154 P ρ)(s:ByteArray)(c:UInt8)(new:ByteArray)(w:World)(hn2:new.size=2)(hc0:(bl s).count c=0):
  Calls P (ρ.f 154) #[.string s,.string ⟨#[c]⟩,.string new,.int .i64 (-1)] w fun e w'=>e= .returned (.string s)/\w'=w:=by
 have hC:=Any.strings_Count_one {L with} s c w
 have hcc:Lib.countByte s.data.toList c=0:=hc0
 rw [hcc] at hC
 obtain ⟨old,hold⟩: ∃ old:ByteArray,old=⟨#[c]⟩:=⟨_,rfl⟩
 have hne:old≠new:=fun e=>by rw [←e,hold] at hn2;have:(⟨#[c]⟩:ByteArray).size=1:=rfl;omega
 have hbeq:(old.toList==new.toList)=false:=(Lib.bytes_beq_false_iff old new).2 hne
 have hnz:((-1:Int)==0)=false:=rfl
 rw [←hold] at hC ⊢
 clear hold hcc hne
 have t3:=L.t3;have a3:=L.a3;have z3:=L.z3;have v3:=L.v3
 have t9:=L.t9;have a9:=L.a9;have z9:=L.z9;have v9:=L.v9
 have t4:=L.t4;have a4:=L.a4;have z4:=L.z4;have v4:=L.v4
 have e138: ∀ args w,(callFunc (ρ.f 138) args).run P w= .ok (.enter (ρ.f 138) args) w:=enters_of L.f138 (by kernel_rfl) rfl
 go_enter L.f154,Body.n154_ntmps ρ
 go_wp2_with (first|(go_at_fn (ρ.f 138);refine hC.mono ?_;rintro e w' ⟨rfl,hw⟩;rw [hw]))
 go_ret
 exact ⟨rfl,rfl⟩
end
theorem bX2:Builder.Extra Tryd.prog Tryd.lays154_ren where
 sizeBuilder:=by kernel_rfl
 liesBuilder:=by kernel_rfl
 t5:=Tryd.lays105.t5
 a5:=Tryd.lays105.a5
 z5:=Tryd.lays105.z5
 v5:=Tryd.lays105.v5
 infoByte:=by kernel_rfl
 cellsByte:=by kernel_rfl
 sizeByte:=by kernel_rfl
 neB5:=by decide
noncomputable section
def esB (l:List UInt8):List UInt8:=l.flatMap fun b=>if b=34 then [92,34] else if b=92 then [92,92] else [b]
theorem esB_cons (b:UInt8)(l:List UInt8):esB (b::l)=(if b=34 then [92,34] else if b=92 then [92,92] else [b])++esB l:=rfl
theorem repB_app (c:UInt8)(n a b:List UInt8):repB c n (a++b)=repB c n a++repB c n b:=List.flatMap_append
theorem rp2: ∀ l:List UInt8,repB 34 [92,34] (repB 92 [92,92] l)=esB l
 | []=>rfl
 |b::l=>by
  rw [repB_cons,repB_app,rp2 l,esB_cons]
  congr 1
  by_cases h1:b=92
  ·subst h1
   rfl
  ·rw [if_neg h1,repB_cons]
   exact List.append_nil _
theorem byI_34 (b:UInt8):ieq ((b.toNat:Nat):Int) 34=decide (b=34):=by
 simp only [ieq]
 rw [Bool.eq_iff_iff,beq_iff_eq,decide_eq_true_eq, ← UInt8.toNat_inj]
 show _↔b.toNat=34
 omega
theorem byI_92 (b:UInt8):ieq ((b.toNat:Nat):Int) 92=decide (b=92):=by
 simp only [ieq]
 rw [Bool.eq_iff_iff,beq_iff_eq,decide_eq_true_eq, ← UInt8.toNat_inj]
 show _↔b.toNat=92
 omega
abbrev byI (b:UInt8):Int:=((b.toNat:Nat):Int)
theorem escL_bl: ∀ l:List UInt8,escL (l.map byI)=(esB l).map byI
 | []=>rfl
 |b::l=>by
  rw [List.map_cons,escL_cons,escL_bl l,esB_cons,List.map_append]
  congr 1
  unfold escI
  rw [show byI b=((b.toNat:Nat):Int) from rfl,byI_34,byI_92]
  by_cases h1:b=34
  ·subst h1
   rfl
  ·by_cases h2:b=92
   ·subst h2
    rfl
   ·rw [decide_eq_false h1,decide_eq_false h2,if_neg h1,if_neg h2]
    rfl
theorem qtI_bl (s:ByteArray):qtI s=([34]++esB (bl s)++[34]).map byI:=by
 unfold qtI
 rw [bytesL_bl,escL_bl,List.map_append,List.map_append]
 rfl
theorem strOf_map (l:List UInt8):bl (strOf (l.map byI))=l:=by
 show ((l.map byI).map fun n=>UInt8.ofNat n.toNat).toArray.toList=l
 rw [List.map_map]
 have:((fun n:Int=>UInt8.ofNat n.toNat) ∘ byI)=id:=by
  funext b
  show UInt8.ofNat (((b.toNat:Nat):Int)).toNat=b
  rw [Int.toNat_natCast,UInt8.ofNat_toNat]
 rw [this,List.map_id]
def rpF (s old new:ByteArray):ByteArray:=mkB (repB (old.data.toList.headD 0) (bl new) (bl s))
def rplF (s old new:ByteArray)(_n:Int):ByteArray:=rpF s old new
def rpOk (s old new:ByteArray):Bool:=decide (s.size<=4000000000/\old.size=1/\new.size=2)
def rplOk (s old new:ByteArray)(n:Int):Bool:=rpOk s old new&&decide (n= -1)
def sp_f153:Ent:=spec (.pr .str (.pr .str (.pr .str (.pr tI .nil)))) (fun x=>(rplOk x.1 x.2.1 x.2.2.1 x.2.2.2.1)) (fun x=>(.t .str (rplF x.1 x.2.1 x.2.2.1 x.2.2.2.1)))
theorem en_f153:Entered Tryd.prog 153:= .inr ⟨by decide,_,Tryd.func153,by kernel_rfl,by kernel_rfl⟩
theorem ms_f153:Meets Tryd.prog 153 (strip sp_f153):=meets_calls fun x hok X w σ vs hfin hc=>by
 obtain ⟨s,⟨d⟩,new,n,u⟩:=x
 obtain ⟨h1,h2⟩:=Bool.and_eq_true_iff.1 hok
 obtain ⟨h1,h3,h4⟩:=of_decide_eq_true h1
 obtain rfl:n= -1:=of_decide_eq_true h2
 obtain ⟨c,rfl⟩:=one_byte (show d.size=1 from h3)
 simp only [Ty.canon,V.ds,V.d,Ty.d,Cs,C] at hc
 obtain ⟨v1,r1,rfl,⟨rfl,_⟩,v2,r2,rfl,⟨rfl,_⟩,v3,r3,rfl,⟨rfl,_⟩,v4,r4,rfl,⟨rfl,_⟩,rfl⟩:=hc
 rcases Nat.eq_zero_or_pos ((bl s).count c) with h0|h0
 ·refine (rep_absent Tryd.lays154 s c new w h4 h0).mono ?_
  rintro e w' ⟨rfl,rfl⟩
  refine ⟨_,rfl, ?_,Below.refl _ _⟩
  simp only [V.d,Ty.d,C]
  have:rplF s ⟨#[c]⟩ new (-1)=s:=by
   show mkB (repB c (bl new) (bl s))=s
   rw [repB_none h0]
  rw [this]
  exact ⟨rfl,rfl⟩
 ·refine (rep_some Tryd.lays154 bX2 s c new w h1 h4 h0).mono ?_
  rintro e w' ⟨rfl,hb⟩
  refine ⟨_,rfl, ?_,hb⟩
  simp only [V.d,Ty.d,C]
  exact ⟨rfl,rfl⟩
def tc_f127:TC:=(.sq (.reg [(oP 6 (.mv (.c (.v (.string (ByteArray.mk #[]))))))]) (.sq (.reg [(oV 7 0),(oV 8 1),(oV 9 2),(oC 10 153 [(.t 7),(.t 8),(.t 9),(cI (-1))]),(oV 6 10)]) .rt))
def rv_f127:List (RV×Option Ty):=[((.t 6),some .str)]
def g_f127:G:=⟨TYs,[],11,EL [(153,sp_f153)],keeps,(fun _ _=>none),IL [],RL []⟩
def r_f127 (p0:ByteArray)(p1:ByteArray)(p2:ByteArray):Option (V×List VO):=
 br ((rplOk p0 p1 p2 (-1)))
  (some (.t .str (rplF p0 p1 p2 (-1)),[]))
  (none)
theorem e_f127 (p0:ByteArray)(p1:ByteArray)(p2:ByteArray):runF g_f127 tc_f127 rv_f127 false [.t .str p0,.t .str p1,.t .str p2] []=r_f127 p0 p1 p2:=by kernel_rfl
theorem ok_f127:Option.map (trC Tryd.prog) Tryd.f127.body=some tc_f127.er:=by kernel_rfl
theorem rok_f127:trVs Tryd.prog Tryd.f127.results.toList=some (rv_f127.map Prod.fst):=by kernel_rfl
theorem en_f127:Entered Tryd.prog 127:= .inr ⟨by decide,_,Tryd.func127,by kernel_rfl,by kernel_rfl⟩
theorem gk_f127:GOk Tryd.prog g_f127:=gok_of _ (by
 intro p hp
 simp only [List.mem_cons,List.not_mem_nil,or_false] at hp
 rcases hp with rfl
 ·exact ⟨en_f153,ms_f153⟩)
theorem lk_f127:tc_f127.lok g_f127:=by repeat (first|exact trivial|refine ⟨?_, ?_⟩)
theorem s_f127 (s old new:ByteArray)(h:rpOk s old new=true):r_f127 s old new=some (.t .str (rpF s old new),[]):=by
 unfold r_f127
 exact brY (Bool.and_eq_true_iff.2 ⟨h,rfl⟩) rfl
def sp_f127:Ent:=spec (.pr .str (.pr .str (.pr .str .nil))) (fun x=>(rpOk x.1 x.2.1 x.2.2.1)) (fun x=>(.t .str (rpF x.1 x.2.1 x.2.2.1)))
theorem ms_f127:Meets Tryd.prog 127 (strip sp_f127):=by
 obtain ⟨c,hc,hi⟩:=Option.map_eq_some_iff.1 ok_f127
 exact meets_spec (R:=runF g_f127 tc_f127 rv_f127 false) (meets_of (by decide) Tryd.func127 hc hi Tryd.ntmps127 rok_f127 gk_f127 lk_f127 mixed) fun x hok=>(e_f127 x.1 x.2.1 x.2.2.1).trans (s_f127 x.1 x.2.1 x.2.2.1 hok)
def tc_f97:TC:=(.sq (.reg [(oP 2 (.mv (.c (.v (.string (ByteArray.mk #[]))))))]) (.sq (.sq (.reg [(oV 6 0),(oC 7 114 [(.t 6)]),(oV 5 7),(oP 8 (.ext 0 (.t 5))),(oP 9 (.ext 1 (.t 5))),(oV 3 8),(oV 4 9)]) (.sq (.reg [(oV 10 4)]) (.cd (.t 10) (.sq (.reg [(oV 11 0),(oV 2 11)]) .rt) .sk))) (.sq (.reg [(oV 12 0),(oC 13 127 [(.t 12),(.c (.v (.string (ByteArray.mk #[92])))),(.c (.v (.string (ByteArray.mk #[92,92]))))]),(oC 14 127 [(.t 13),(.c (.v (.string (ByteArray.mk #[34])))),(.c (.v (.string (ByteArray.mk #[92,34]))))]),(oP 15 (.bin false .add (.c (.v (.string (ByteArray.mk #[34])))) (.t 14))),(oP 16 (.bin false .add (.t 15) (.c (.v (.string (ByteArray.mk #[34])))))),(oV 2 16)]) .rt)))
def rv_f97:List (RV×Option Ty):=[((.t 2),some .str)]
def g_f97:G:=⟨TYs,[],17,EL [(114,sp_f114),(127,sp_f127)],keeps,(fun _ _=>none),IL [],RL []⟩
def r_f97 (p0:ByteArray):Option (V×List VO):=
 br ((wdOk p0))
  (br ((wdF p0).2)
   (some (.t .str p0,[]))
   (br ((rpOk p0 (ByteArray.mk #[92]) (ByteArray.mk #[92,92])))
    (br ((rpOk (rpF p0 (ByteArray.mk #[92]) (ByteArray.mk #[92,92])) (ByteArray.mk #[34]) (ByteArray.mk #[92,34])))
     (br (cCat (ByteArray.mk #[34]) (rpF (rpF p0 (ByteArray.mk #[92]) (ByteArray.mk #[92,92])) (ByteArray.mk #[34]) (ByteArray.mk #[92,34])))
      (br (cCat (scat (ByteArray.mk #[34]) (rpF (rpF p0 (ByteArray.mk #[92]) (ByteArray.mk #[92,92])) (ByteArray.mk #[34]) (ByteArray.mk #[92,34]))) (ByteArray.mk #[34]))
       (some (.t .str (scat (scat (ByteArray.mk #[34]) (rpF (rpF p0 (ByteArray.mk #[92]) (ByteArray.mk #[92,92])) (ByteArray.mk #[34]) (ByteArray.mk #[92,34]))) (ByteArray.mk #[34])),[]))
       (none))
      (none))
     (none))
    (none)))
  (none)
theorem e_f97 (p0:ByteArray):runF g_f97 tc_f97 rv_f97 false [.t .str p0] []=r_f97 p0:=by kernel_rfl
theorem ok_f97:Option.map (trC Tryd.prog) Tryd.f97.body=some tc_f97.er:=by kernel_rfl
theorem rok_f97:trVs Tryd.prog Tryd.f97.results.toList=some (rv_f97.map Prod.fst):=by kernel_rfl
theorem gk_f97:GOk Tryd.prog g_f97:=gok_of _ (by
 intro p hp
 simp only [List.mem_cons,List.not_mem_nil,or_false] at hp
 rcases hp with rfl|rfl
 ·exact ⟨en_f114,ms_f114⟩
 ·exact ⟨en_f127,ms_f127⟩)
theorem lk_f97:tc_f97.lok g_f97:=by repeat (first|exact trivial|refine ⟨?_, ?_⟩)
theorem s_f97 (s:ByteArray)(h:wsz s=true):r_f97 s=some (.t .str (qtF s),[]):=by
 have h0:s.size<=2000000000:=of_decide_eq_true h
 unfold r_f97 qtF
 have hd:rpOk s (ByteArray.mk #[92]) (ByteArray.mk #[92,92])=true:=decide_eq_true ⟨by omega,rfl,rfl⟩
 have l1:(repB 92 [92,92] (bl s)).length<=2*s.size:=by
  rw [repB_len 92 [92,92] rfl, ← bl_len]
  have:(bl s).count 92<=(bl s).length:=List.count_le_length
  omega
 have l2:(repB 34 [92,34] (repB 92 [92,92] (bl s))).length<=4*s.size:=by
  rw [repB_len 34 [92,34] rfl]
  have:(repB 92 [92,92] (bl s)).count 34<=(repB 92 [92,92] (bl s)).length:=List.count_le_length
  omega
 have e1:rpF s (ByteArray.mk #[92]) (ByteArray.mk #[92,92])=mkB (repB 92 [92,92] (bl s)):=rfl
 have e2:rpF (mkB (repB 92 [92,92] (bl s))) (ByteArray.mk #[34]) (ByteArray.mk #[92,34])=mkB (repB 34 [92,34] (repB 92 [92,92] (bl s))):=rfl
 have z1:(mkB (repB 92 [92,92] (bl s))).size=(repB 92 [92,92] (bl s)).length:=rfl
 have z2:(mkB (repB 34 [92,34] (repB 92 [92,92] (bl s)))).size=(repB 34 [92,34] (repB 92 [92,92] (bl s))).length:=rfl
 have hd2:rpOk (mkB (repB 92 [92,92] (bl s))) (ByteArray.mk #[34]) (ByteArray.mk #[92,34])=true:=decide_eq_true ⟨by omega,rfl,rfl⟩
 rw [e1,e2]
 refine brY (decide_eq_true (by omega)) ?_
 show br (plnB s) _ _=_
 cases plnB s with
 |true=>rfl
 |false=>
  rw [br_false,cond_false]
  refine brY hd (brY hd2 (brY (decide_eq_true ?_) (brY (decide_eq_true ?_) ?_)))
  ·rw [z2]
   show 1+_<=_
   omega
  ·rw [show (scat (ByteArray.mk #[34]) (mkB (repB 34 [92,34] (repB 92 [92,92] (bl s))))).size=1+(mkB (repB 34 [92,34] (repB 92 [92,92] (bl s)))).size from ByteArray.size_append,z2]
   show 1+_+1<=_
   omega
  ·have:scat (scat (ByteArray.mk #[34]) (mkB (repB 34 [92,34] (repB 92 [92,92] (bl s))))) (ByteArray.mk #[34])=strOf (qtI s):=by
    refine bl_ext ?_
    rw [qtI_bl,strOf_map,bl_app,bl_app,rp2]
   rw [this]
def sp_f97:Ent:=spec (.pr .str .nil) (fun x=>(wsz x.1)) (fun x=>(.t .str (qtF x.1)))
theorem ms_f97:Meets Tryd.prog 97 (strip sp_f97):=by
 obtain ⟨c,hc,hi⟩:=Option.map_eq_some_iff.1 ok_f97
 exact meets_spec (R:=runF g_f97 tc_f97 rv_f97 false) (meets_of (by decide) Tryd.func97 hc hi Tryd.ntmps97 rok_f97 gk_f97 lk_f97 mixed) fun x hok=>(e_f97 x.1).trans (s_f97 x.1 hok)
end
end Go.Proofs.YtkkoedniahnneaaDoor.K
namespace Go.Proofs.YtkkoedniahnneaaDoor.K
open Go.RowKit Go.Shelf
noncomputable section
set_option linter.unusedSectionVars false
theorem Bld.below {w w':World}{b:Nat}{l:List UInt8}(h:Bld w b l)(hb:Below w.heap.size w w'):Bld w' b l:=by
 have hlt:=h.lt
 unfold Bld Lib.IsBuilderF Lib.BuilderAtF at h ⊢
 rcases h with ⟨hB,v,hv,hown,hne⟩|⟨hB,v,hv,hown,hne⟩
 ·exact .inl ⟨hB,v,(hb.block b hlt).trans hv,hown.kept (row:=none) ⟨hb.os,hb.tape,hb.output,hb.size,fun k hk _=>hb.block k hk⟩ (Classical.em _),hne⟩
 ·exact .inr ⟨hB,v,(hb.block b hlt).trans hv,hown.kept (row:=none) ⟨hb.os,hb.tape,hb.output,hb.size,fun k hk _=>hb.block k hk⟩ (Classical.em _),hne⟩
def BI (w:World)(b:Nat)(L:List Int):Prop:= ∃ U:List UInt8,Bld w b U/\U.map byI=L
theorem BI.alloc {w:World}{b:Nat}{L:List Int}(h:BI w b L)(o:Obj):BI (w.alloc o) b L:=by obtain ⟨U,h,e⟩:=h;exact ⟨U,h.alloc o,e⟩
theorem BI.below {w w':World}{b:Nat}{L:List Int}(h:BI w b L)(hb:Below w.heap.size w w'):BI w' b L:=by obtain ⟨U,h,e⟩:=h;exact ⟨U,h.below hb,e⟩
theorem BI.lt {w:World}{b:Nat}{L:List Int}(h:BI w b L):b<w.heap.size:=by obtain ⟨U,h,e⟩:=h;exact h.lt
theorem BI.new_ (w:World):BI (w.alloc (.cells #[.pointer none,.slice none 0 0] 75)) w.heap.size []:=⟨[],Bld.new w,rfl⟩
theorem wr_calls {b:Nat}{L:List Int}{s:ByteArray}{w:World}(h:BI w b L)(hlen:L.length+s.size<=140737488355328):
  Calls Tryd.prog 60 #[.pointer (some ⟨b,0,none⟩),.string s] w fun e w'=>e= .returned (.tuple #[.int .i64 s.size,.nilIface])/\BI w' b (L++bytesL s)/\Below b w w'/\Lib.OthersKept 5 (some b) w w':=by
 obtain ⟨U,h,rfl⟩:=h
 rw [List.length_map] at hlen
 refine (write_calls b U s w h hlen).mono ?_
 rintro e w' ⟨rfl,h1,h2,h3⟩
 exact ⟨rfl,⟨_,h1,by rw [List.map_append];rfl⟩,h2,h3⟩
theorem strI_calls {b:Nat}{L:List Int}{w:World}(h:BI w b L):Calls Tryd.prog 55 #[.pointer (some ⟨b,0,none⟩)] w fun e w'=>e= .returned (.string (strOf L))/\Below b w w':=by
 obtain ⟨U,h,rfl⟩:=h
 refine (str_calls b U w h).mono ?_
 rintro e w' ⟨rfl,h1⟩
 refine ⟨?_,h1⟩
 rw [show strOf (U.map byI)=mkB U from bl_ext (strOf_map U)]
theorem rep_ind: ∀ n:Nat,(Lib.repeatL (ByteArray.mk #[32,32]).data.toList n).map byI=indL n
 |0=>rfl
 |n+1=>by
  have ih:=rep_ind n
  unfold Lib.repeatL
  rw [List.map_append,ih]
  unfold indL
  rw [show 2*(n+1)=2*n+1+1 by omega,List.replicate_succ,List.replicate_succ]
  rfl
theorem rep_calls (n:Nat)(w:World)(h:n<=10000000):Calls Tryd.prog 96 #[.string ⟨#[32,32]⟩,.int .i64 n] w fun e w'=> ∃ t:ByteArray,e= .returned (.string t)/\bytesL t=indL n/\t.size=2*n/\Below w.heap.size w w':=by
 refine (Any.strings_Repeat Tryd.lays105 bX (ByteArray.mk #[32,32]) n w (by omega) (by show 2*n<=_;omega)).mono ?_
 rintro e w' ⟨rfl,hb⟩
 have e1:bytesL ⟨(Lib.repeatL (ByteArray.mk #[32,32]).data.toList n).toArray⟩=indL n:=rep_ind n
 refine ⟨_,rfl,e1, ?_,hb⟩
 have:=congrArg List.length e1
 rw [show (bytesL (⟨(Lib.repeatL (ByteArray.mk #[32,32]).data.toList n).toArray⟩:ByteArray)).length=_ from bytesG_len _] at this
 rw [this]
 unfold indL
 rw [List.length_replicate]
theorem written_calls (s:ByteArray)(w:World)(h:wsz s=true):Calls Tryd.prog 97 #[.string s] w fun e w'=>e= .returned (.string (qtF s))/\Below w.heap.size w w':=by
 have hF:strip sp_f97 [.t .str s] []=some (.t .str (qtF s),[]):=by
  unfold sp_f97
  exact strip_spec (a:= .pr .str .nil) (x:=(s,())) (by simp [Ty.args,as_t]) h
 refine (sc_calls ms_f97 hF w fun X=>⟨_,_,rfl,⟨rfl,rfl⟩,rfl⟩).mono ?_
 rintro en w' ⟨u,X',σ',rfl,h1,h2⟩
 have h1:C X' w' σ' (.v (.string (qtF s))) u:=h1
 simp only [C] at h1
 obtain ⟨rfl,_⟩:=h1
 exact ⟨rfl,h2⟩
theorem flat_at {α:Type}(f:α->List D)(m:Nat)(hf: ∀ x,(f x).length=m): ∀ (l:List α) (k:Nat) (x:α),l[k]? = some x->((l.flatMap f).drop (k*m)).take m=f x
 | [],k,x,h=>by simp at h
 |y::l,0,x,h=>by
  simp only [List.getElem?_cons_zero,Option.some.injEq] at h
  subst h
  rw [Nat.zero_mul,List.drop_zero,List.flatMap_cons, ← hf y,List.take_left]
 |y::l,k+1,x,h=>by
  simp only [List.getElem?_cons_succ] at h
  rw [List.flatMap_cons,Nat.succ_mul,Nat.add_comm,List.drop_append,List.drop_eq_nil_of_le (by rw [hf];omega),hf y,Nat.add_sub_cancel_left,List.nil_append]
  exact flat_at f m hf l k x h
theorem row_at {X:Nat->Nat->Prop}{w:World}{l:List BlkT}{sv:Value}(h:C X w nowhere (.sl l.length (l.flatMap tyBlkT.cells)) sv){k:Nat}{x:BlkT}(hx:l[k]? = some x):
  ∃ g off c Aw nw cw Ai ni ci,sv= .slice (some ⟨g,off,none⟩) l.length c/\g<w.heap.size/\w.cell? ⟨g,off+k*4,none⟩=some (.slice Aw nw cw)/\w.cell? ⟨g,off+k*4+1,none⟩=some (.bool x.2.1)/\w.cell? ⟨g,off+k*4+2,none⟩=some (.slice Ai ni ci)/\w.cell? ⟨g,off+k*4+3,none⟩=some (.int .i64 x.2.2.2.1)∧
   C X w nowhere (.sl x.1.length (x.1.flatMap (Ty.cells .str))) (.slice Aw nw cw)/\C X w nowhere (.sl (x.2.2.1.map Blk.un).length ((x.2.2.1.map Blk.un).flatMap tyBlkT.cells)) (.slice Ai ni ci):=by
 have hk:k<l.length:=(List.getElem?_eq_some_iff.1 hx).1
 simp only [C] at h
 obtain ⟨A,c,rfl,_,_,_,h6⟩:=h
 obtain ⟨g,off,vs,rfl,hcs,hfx⟩:=h6 (by omega)
 have h1:=(hcs.drop_ (k*4)).take_ 4
 rw [flat_at tyBlkT.cells 4 (fun x=>Ty.cells_len tyBlkT x) l k x hx] at h1
 have h1:Cs X w nowhere [.sl x.1.length (x.1.flatMap (Ty.cells .str)),.v (.bool x.2.1),.sl x.2.2.1.length (Blk.dss x.2.2.1),.v (.int .i64 x.2.2.2.1)] ((vs.drop (k*4)).take 4):=h1
 simp only [Cs] at h1
 obtain ⟨u1,r1,e1,q1,u2,r2,rfl,q2,u3,r3,rfl,q3,u4,r4,rfl,q4,rfl⟩:=h1
 have q2:=(C.v q2).1
 have q4:=(C.v q4).1
 subst q2 q4
 have hw: ∃ A n c,u1= .slice A n c:=by simp only [C] at q1;obtain ⟨A,c,rfl,_⟩:=q1;exact ⟨_,_,_,rfl⟩
 have hi: ∃ A n c,u3= .slice A n c:=by simp only [C] at q3;obtain ⟨A,c,rfl,_⟩:=q3;exact ⟨_,_,_,rfl⟩
 obtain ⟨Aw,nw,cw,rfl⟩:=hw
 obtain ⟨Ai,ni,ci,rfl⟩:=hi
 have at_: ∀ (i:Nat) u,i<4->([Value.slice Aw nw cw,.bool x.2.1,.slice Ai ni ci,.int .i64 x.2.2.2.1]:List Value)[i]? = some u->w.cell? ⟨g,off+k*4+i,none⟩=some u:=fun i u hi hu=>by
  rw [←e1,List.getElem?_take_of_lt hi,List.getElem?_drop] at hu
  have:=hfx.at_ (k*4+i) u hu
  rwa [←Nat.add_assoc] at this
 refine ⟨g,off,c,Aw,nw,cw,Ai,ni,ci,rfl,hfx.lt,at_ 0 _ (by omega) rfl,at_ 1 _ (by omega) rfl,at_ 2 _ (by omega) rfl,at_ 3 _ (by omega) rfl,q1, ?_⟩
 have:=blks_sl x.2.2.1
 have h3:C X w nowhere (V.t (.sl tyBlkT) (x.2.2.1.map Blk.un)).d (.slice Ai ni ci):=by rw [this];exact q3
 exact h3
theorem wd_at {X:Nat->Nat->Prop}{w:World}{l:List ByteArray}{A:Option Addr}{n c:Nat}(h:C X w nowhere (.sl l.length (l.flatMap (Ty.cells .str))) (.slice A n c)):
  n=l.length∧ ∀ (k:Nat) (s:ByteArray),l[k]? = some s→ ∃ g off,A=some ⟨g,off,none⟩/\w.cell? ⟨g,off+k,none⟩=some (.string s):=by
 simp only [C] at h
 obtain ⟨A',c',e,_,_,_,h6⟩:=h
 injection e with e1 e2 e3
 subst e1 e2
 refine ⟨rfl,fun k s hs=> ?_⟩
 have hk:k<l.length:=(List.getElem?_eq_some_iff.1 hs).1
 obtain ⟨g,off,vs,rfl,hcs,hfx⟩:=h6 (by omega)
 have hv:=cs_strs' _ _ hcs
 subst hv
 exact ⟨g,off,rfl,hfx.at_ k (.string s) (by rw [List.getElem?_map,hs];rfl)⟩
end
end Go.Proofs.YtkkoedniahnneaaDoor.K
namespace Go.Proofs.YtkkoedniahnneaaDoor.K
open Go.RowKit Go.Shelf
attribute [local go_sem ↓] Go.wp_at_zero Go.wp_at_succ
noncomputable section
set_option linter.unusedSectionVars false
def pnO (x:BlkT)(n:Nat):List Int:=(indL n++wdsL x.1)++(bif !x.2.1 then [59,10] else ([32,123,10]++(pnT (x.2.2.1.map Blk.un) (n+1)++(indL n++[125,10]))))
theorem pnT_app: ∀ (a b:List BlkT) (n:Nat),pnT (a++b) n=pnT a n++pnT b n
 | [],_,_=>rfl
 |x::a,b,n=>by
  rw [List.cons_append,prT_cons,prT_cons,pnT_app a b n]
  simp only [List.append_assoc]
theorem pnT_one (x:BlkT)(n:Nat):pnT [x] n=pnO x n:=by
 rw [prT_cons]
 show pnO x n++[]=_
 rw [List.append_nil]
theorem pnT_snoc {l:List BlkT}{k:Nat}{x:BlkT}(h:l[k]? = some x)(n:Nat):pnT (l.take (k+1)) n=pnT (l.take k) n++pnO x n:=by
 rw [take_snoc h,pnT_app,pnT_one]
theorem pnT_le (l:List BlkT)(k n:Nat):(pnT (l.take k) n).length<=(pnT l n).length:=by
 conv=>rhs;rw [←List.take_append_drop k l,pnT_app,List.length_append]
 omega
theorem wds_snoc {ws:List ByteArray}{j:Nat}{s:ByteArray}(h:ws[j]? = some s):wdsL (ws.take (j+1))=wdsL (ws.take j)++((if j=0 then [] else [32])++bytesL (qtF s)):=by
 rw [take_snoc h]
 cases ws with
 |nil=>simp at h
 |cons w r=>
  cases j with
  |zero=>
   simp only [List.take_zero,List.nil_append]
   show bytesL (qtF s)++[]=[]++([]++bytesL (qtF s))
   rw [List.append_nil,List.nil_append,List.nil_append]
  |succ j=>
   rw [List.take_succ_cons,List.cons_append]
   show bytesL (qtF w)++wdsT (r.take j++[s])=(bytesL (qtF w)++wdsT (r.take j))++_
   unfold wdsT
   rw [List.flatMap_append,if_neg (Nat.succ_ne_zero j),List.append_assoc]
   simp
theorem wds_le (ws:List ByteArray)(j:Nat):(wdsL (ws.take j)).length<=(wdsL ws).length:=by
 cases ws with
 |nil=>simp
 |cons w r=>
  cases j with
  |zero=>exact Nat.zero_le _
  |succ j=>
   rw [List.take_succ_cons]
   show (bytesL (qtF w)++wdsT (r.take j)).length<=(bytesL (qtF w)++wdsT r).length
   conv=>rhs;rw [←List.take_append_drop j r]
   unfold wdsT
   rw [List.flatMap_append,List.length_append,List.length_append,List.length_append]
   omega
theorem wd_len {ws:List ByteArray}{j:Nat}{s:ByteArray}(h:ws[j]? = some s):(wdsL (ws.take j)).length+(qtF s).size+1<=(wdsL ws).length+1/\(qtF s).size<=(wdsL ws).length:=by
 have h1:=wds_le ws (j+1)
 rw [wds_snoc h,List.length_append,List.length_append,bytesG_len] at h1
 omega
theorem pnO_len {l:List BlkT}{k:Nat}{x:BlkT}(h:l[k]? = some x)(n:Nat):(pnT (l.take k) n).length+(pnO x n).length<=(pnT l n).length:=by
 have h1:=pnT_le l (k+1) n
 rw [pnT_snoc h,List.length_append] at h1
 exact h1
theorem b32:bytesL (ByteArray.mk #[32])=[32]:=by kernel_rfl
theorem b59:bytesL (ByteArray.mk #[59,10])=[59,10]:=by kernel_rfl
theorem b123:bytesL (ByteArray.mk #[32,123,10])=[32,123,10]:=by kernel_rfl
theorem b125:bytesL (ByteArray.mk #[125,10])=[125,10]:=by kernel_rfl
theorem wds_0 {ws:List ByteArray}{s:ByteArray}(h:wdsL (ws.take (0+1))=wdsL (ws.take 0)++((if 0=0 then [] else [32])++bytesL (qtF s)))(M:List Int):M++wdsL (ws.take 1)=(M++wdsL (ws.take 0))++bytesL (qtF s):=by
 rw [show (1:Nat)=0+1 from rfl,h,if_pos rfl,List.nil_append,List.append_assoc]
theorem wds_1 {ws:List ByteArray}{s:ByteArray}{j:Nat}(h:wdsL (ws.take (j+1))=wdsL (ws.take j)++((if j=0 then [] else [32])++bytesL (qtF s)))(hj: ¬ j=0)(M:List Int):M++wdsL (ws.take (j+1))=((M++wdsL (ws.take j))++bytesL (ByteArray.mk #[32]))++bytesL (qtF s):=by
 rw [h,if_neg hj,b32]
 simp only [List.append_assoc]
theorem fin_59 {T L1:List Int}{x:BlkT}{n:Nat}(h:T=L1++pnO x n)(h2:pnO x n=(indL n++wdsL x.1)++(bif !false then [59,10] else ([32,123,10]++(pnT (x.2.2.1.map Blk.un) (n+1)++(indL n++[125,10]))))):T=((L1++indL n)++wdsL x.1)++bytesL (ByteArray.mk #[59,10]):=by
 rw [h,h2,b59]
 simp only [Bool.not_false,cond_true,List.append_assoc]
theorem fin_125 {T L1:List Int}{x:BlkT}{n:Nat}{t:ByteArray}(h:T=L1++pnO x n)(h2:pnO x n=(indL n++wdsL x.1)++(bif !true then [59,10] else ([32,123,10]++(pnT (x.2.2.1.map Blk.un) (n+1)++(indL n++[125,10])))))(ht:bytesL t=indL n):
  T=((((L1++indL n)++wdsL x.1)++bytesL (ByteArray.mk #[32,123,10]))++pnT (x.2.2.1.map Blk.un) (n+1))++bytesL (t++ByteArray.mk #[125,10]):=by
 have e:bytesL (t++ByteArray.mk #[125,10])=bytesL t++bytesL (ByteArray.mk #[125,10]):=by
  rw [bytesL_bl,bytesL_bl,bytesL_bl,bl_app,List.map_append]
 rw [h,h2,b123,e,ht,b125]
 simp only [Bool.not_true,cond_false,List.append_assoc]
def PrOK (N:Nat):Prop:= ∀ (l:List BlkT) (n:Nat) (L:List Int) (bb:Nat) (w0 w:World) (X0:Nat->Nat->Prop) (sv:Value),okN N l=true->n+N<=1000001->C X0 w0 nowhere (.sl l.length (l.flatMap tyBlkT.cells)) sv->w0.heap.size<=bb->Below w0.heap.size w0 w->BI w bb L→
 L.length+(pnT l n).length<=50000000000->Calls Tryd.prog 54 #[.pointer (some ⟨bb,0,none⟩),sv,.int .i64 n] w fun e w'=>e= .returned (.tuple #[])/\BI w' bb (L++pnT l n)/\Below bb w w'
theorem c_below {X0:Nat->Nat->Prop}{w0 w:World}{d:D}{u:Value}(h:C X0 w0 nowhere d u)(hb:Below w0.heap.size w0 w)(hr:d.refs=[]):C X0 w nowhere d u:=
 C.ext0 ⟨hb.size,fun g o hg hx=>⟨hx,World.cell?_of_block (hb.block g hg)⟩⟩ d u (by rw [hr];simp) h
set_option maxHeartbeats 4000000 in
theorem print_any' (N:Nat)(IH:PrOK N):PrOK (N+1):=by
 intro l n L bb w0 w X0 sv hok hn hC hbb hbel hBI hlen
 obtain ⟨g1,g2,g3⟩:=okN_p hok
 have hsv: ∃ A c,sv= .slice A l.length c:=by simp only [C] at hC;obtain ⟨A,c,rfl,_⟩:=hC;exact ⟨_,_,rfl⟩
 obtain ⟨A,c,rfl⟩:=hsv
 have HC:=Lib.hid hC
 have HBB:=Lib.hid hbb
 have HBEL:=Lib.hid hbel
 have HBI:=Lib.hid hBI
 have HLEN:=Lib.hid hlen
 have HG3:=Lib.hid g3
 have HIH:=Lib.hid IH
 have HNN:=Lib.hid hn
 clear hC hbb hbel hBI hlen g3 IH hok g2 hn
 go_enter Tryd.func54,Tryd.ntmps54
 go_wp2_with (go_at_call 96;refine (rep_calls n _ (by have:=HNN.out;omega)).mono ?_;rintro e w1 ⟨t,rfl,ht,hts,hb1⟩;have HT:=Lib.hid ht;have HTS:=Lib.hid hts;have HB1:=Lib.hid hb1;clear ht hts hb1)
 go_loopw [15] (fun iv wr=> ∃ k:Nat,k<=l.length/\iv= .int .i64 k/\Hid (BI wr bb (L++pnT (l.take k) n))/\Hid (Below bb w wr)) (fun iv _=>l.length-(intOf iv).toNat)
 case atStart=>exact ⟨0,Nat.zero_le _,rfl,Lib.hid (by rw [List.take_zero];show BI w1 bb (L++[]);rw [List.append_nil];exact HBI.out.below HB1.out),Lib.hid (HB1.out.mono (Nat.le_of_lt HBI.out.lt))⟩
 case round=>
  obtain ⟨k,hk,rfl,HR,HW⟩:=hrel
  by_cases hlt:k<l.length
  ·obtain ⟨x,hx⟩: ∃ x,l[k]? = some x:=⟨_,List.getElem?_eq_getElem hlt⟩
   have HWW:Hid (Below w0.heap.size w0 wr):=Lib.hid (HBEL.out.trans (HW.out.mono HBB.out))
   obtain ⟨g,off,c',Aw,nw,cw,Ai,ni,ci,e1,hg,c0,c1,c2,c3,hCw,hCi⟩:=row_at HC.out hx
   injection e1 with e2 _ e3
   subst e2 e3
   have hww:=HWW.out
   replace c0:=(hww.cell (p:=⟨g,off+k*4,none⟩) hg).trans c0
   replace c1:=(hww.cell (p:=⟨g,off+k*4+1,none⟩) hg).trans c1
   replace c2:=(hww.cell (p:=⟨g,off+k*4+2,none⟩) hg).trans c2
   replace c3:=(hww.cell (p:=⟨g,off+k*4+3,none⟩) hg).trans c3
   obtain ⟨hnw,hwd⟩:=wd_at hCw
   subst hnw
   have HX:=Lib.hid hx
   have HWD:=Lib.hid hwd
   have HCI:=Lib.hid hCi
   have hti:((k:Nat):Int)<((l.length:Nat):Int):=by omega
   have HPL:=Lib.hid (pnO_len hx n)
   have HGX:=Lib.hid (HG3.out x (List.mem_of_getElem? hx))
   have hm1:x.1.length<=100000:=HGX.out.1
   obtain ⟨xo,hxo⟩: ∃ o,o=x.2.1:=⟨_,rfl⟩
   obtain ⟨xl,hxl⟩: ∃ o,o=x.2.2.2.1:=⟨_,rfl⟩
   obtain ⟨m,hm⟩: ∃ m,m=x.1.length:=⟨_,rfl⟩
   obtain ⟨L1,hL1⟩: ∃ L1,L1=L++pnT (l.take k) n:=⟨_,rfl⟩
   have hN:L++pnT (l.take (k+1)) n=L1++pnO x n:=by rw [hL1,pnT_snoc hx,List.append_assoc]
   have hO:pnO x n=(indL n++wdsL x.1)++(bif !xo then [59,10] else ([32,123,10]++(pnT (x.2.2.1.map Blk.un) (n+1)++(indL n++[125,10])))):=by rw [hxo];rfl
   have hK:L1.length+(pnO x n).length<=50000000000:=by
    have:=HPL.out
    have:=HLEN.out
    rw [hL1,List.length_append]
    omega
   have hKw:L1.length+(indL n).length+(wdsL x.1).length<=50000000000:=by
    rw [hO,List.length_append,List.length_append] at hK
    omega
   rw [←hL1] at HR
   rw [←hm] at c0 hm1
   rw [←hxo] at c1
   rw [←hxl] at c3
   have HNX:=Lib.hid hN
   have HO:=Lib.hid hO
   have HK:=Lib.hid hK
   have HKW:=Lib.hid hKw
   have HM:=Lib.hid hm
   clear hx hCw hCi hwd hxo hxl hL1 hN hO hK hKw hww hm
   go_wp2_with fail
   obtain ⟨xb,hxb⟩: ∃ xb,xb=wr.heap.size:=⟨_,rfl⟩
   have hbx:bb<xb:=by rw [hxb];exact HR.out.lt
   have hX0:Go.Proofs.YtkkoedniahnneaaDoor.Blk (wr.alloc (Obj.cells #[.slice Aw m cw,.bool xo,.slice Ai ni ci,.int .i64 xl] 38)) xb 38 #[.slice Aw m cw,.bool xo,.slice Ai ni ci,.int .i64 xl]:=by rw [hxb];exact Go.Proofs.YtkkoedniahnneaaDoor.Blk.new wr _ _
   have hBx:Below bb wr (wr.alloc (Obj.cells #[.slice Aw m cw,.bool xo,.slice Ai ni ci,.int .i64 xl] 38)):=(Below.refl _ _).alloc (Nat.le_of_lt HR.out.lt) _
   have hRx:=HR.out.alloc (Obj.cells #[.slice Aw m cw,.bool xo,.slice Ai ni ci,.int .i64 xl] 38)
   rw [←hxb]
   generalize wr.alloc (Obj.cells #[.slice Aw m cw,.bool xo,.slice Ai ni ci,.int .i64 xl] 38)=wq at*
   clear c0 c1 c2 c3 hxb
   refine (wr_calls hRx (by rw [HTS.out];have:=HKW.out;have:=HNN.out;omega)).mono ?_
   rintro e w2 ⟨rfl,hb2,hl2,hk2⟩
   have hX2:=kept_blk hk2 hX0 (by omega) (by decide)
   have HX2:=Lib.hid hX2
   have HB2:Hid (BI w2 bb (L1++indL n)):=Lib.hid (by rw [←HT.out];exact hb2)
   have HL2:Hid (Below bb w w2):=Lib.hid ((HW.out.trans hBx).trans hl2)
   have x0:=hX2.cell 0
   simp only [List.getElem?_toArray,List.getElem?_cons_zero] at x0
   have HBX:=Lib.hid hbx
   clear hX0 hBx hRx hb2 hl2 hk2 hX2 hbx
   go_wp2_with fail
   go_loopw [25] (fun iv wy=> ∃ j:Nat,j<=m/\iv= .int .i64 j/\Hid (BI wy bb ((L1++indL n)++wdsL (x.1.take j)))/\Hid (Go.Proofs.YtkkoedniahnneaaDoor.Blk wy xb 38 #[.slice Aw m cw,.bool xo,.slice Ai ni ci,.int .i64 xl])/\Hid (Below bb w wy)) (fun iv _=>m-(intOf iv).toNat)
   case atStart=>exact ⟨0,Nat.zero_le _,rfl,Lib.hid (by rw [List.take_zero];show BI w2 bb ((L1++indL n)++[]);rw [List.append_nil];exact HB2.out),HX2,HL2⟩
   case round=>
    obtain ⟨j,hj,rfl,HY,HXY,HLY⟩:=hrel
    have HWY:Hid (Below w0.heap.size w0 wr):=Lib.hid (HBEL.out.trans (HLY.out.mono HBB.out))
    by_cases hjm:j<m
    ·obtain ⟨s,hs⟩: ∃ s,x.1[j]? = some s:=⟨_,List.getElem?_eq_getElem (by rw [←HM.out];exact hjm)⟩
     obtain ⟨gw,ow,rfl,hcs⟩:=HWD.out j s hs
     have hgw:gw<w0.heap.size:=World.block_lt_of_cell? w0 _ hcs
     replace hcs:=(HWY.out.cell (p:=⟨gw,ow+j,none⟩) hgw).trans hcs
     have hwz:wsz s=true:=List.all_eq_true.1 HGX.out.2.1 s (List.mem_of_getElem? hs)
     have hsz:s.size<=2000000000:=of_decide_eq_true hwz
     have hwl:=wd_len hs
     have HSN:=Lib.hid (wds_snoc hs)
     have HWZ:=Lib.hid hwz
     have HWL:=Lib.hid hwl
     have hji:((j:Nat):Int)<((m:Nat):Int):=by omega
     have hq:(qtF s).size<=50000000000:=by have:=HKW.out;omega
     have hLen:((L1++indL n)++wdsL (x.1.take j)).length<=50000000000:=by
      have:=HKW.out
      rw [List.length_append,List.length_append]
      omega
     have HLen:=Lib.hid hLen
     have HQ:=Lib.hid hq
     clear hs hwz hsz hwl hgw hq hLen
     by_cases hj0:j=0
     ·subst hj0
      rw [Nat.add_zero] at hcs
      go_wp2_with (go_at_call 97;refine (written_calls s _ HWZ.out).mono ?_;rintro e w3 ⟨rfl,hb3⟩;have HB3:=Lib.hid hb3;clear hb3)
      refine (wr_calls (HY.out.below HB3.out) (by have:=HLen.out;have:=HQ.out;omega)).mono ?_
      rintro e w4 ⟨rfl,hb4,hl4,hk4⟩
      have HB4:=Lib.hid hb4
      have HX4:=Lib.hid (kept_blk hk4 (HXY.out.ext HB3.out) (by have:=HBX.out;omega) (by decide))
      have HL4:=Lib.hid ((HLY.out.trans (HB3.out.mono (Nat.le_of_lt HY.out.lt))).trans hl4)
      clear hb4 hl4 hk4 hcs
      go_wp2_with fail
      refine ⟨⟨1,by omega,by simp,Lib.hid ?_,HX4,HL4⟩,by simp [intOf];omega⟩
      rw [wds_0 HSN.out]
      exact HB4.out
     ·have hj1:(0:Int)<((j:Nat):Int):=by omega
      have HJ0:=Lib.hid hj0
      clear hj0
      go_wp2_with fail
      refine (wr_calls HY.out (by have:=HLen.out;have h7:(ByteArray.mk #[32]).size=1:=rfl;omega)).mono ?_
      rintro e w3 ⟨rfl,hb3,hl3,hk3⟩
      have HB3:=Lib.hid hb3
      have HX3:=Lib.hid (kept_blk hk3 HXY.out (by have:=HBX.out;omega) (by decide))
      have HL3:=Lib.hid (HLY.out.trans hl3)
      clear hb3 hl3 hk3 hcs
      go_wp2_with (go_at_call 97;refine (written_calls s _ HWZ.out).mono ?_;rintro e w4 ⟨rfl,hb4⟩;have HW4:=Lib.hid hb4;clear hb4)
      refine (wr_calls (HB3.out.below HW4.out) (by have:=HLen.out;have:=HQ.out;have h7:(bytesL (ByteArray.mk #[32])).length=1:=rfl;rw [List.length_append];omega)).mono ?_
      rintro e w5 ⟨rfl,hb5,hl5,hk5⟩
      have HB5:=Lib.hid hb5
      have HX5:=Lib.hid (kept_blk hk5 (HX3.out.ext HW4.out) (by have:=HBX.out;omega) (by decide))
      have HL5:=Lib.hid ((HL3.out.trans (HW4.out.mono (Nat.le_of_lt HB3.out.lt))).trans hl5)
      clear hb5 hl5 hk5
      go_wp2_with fail
      refine ⟨⟨j+1,by omega,by simp,Lib.hid ?_,HX5,HL5⟩,by simp [intOf];omega⟩
      rw [wds_1 HSN.out HJ0.out]
      exact HB5.out
    ·obtain rfl:j=m:=by omega
     have hnl: ¬ ((j:Nat):Int)<((j:Nat):Int):=by omega
     have y1:=HXY.out.cell 1
     have y2:=HXY.out.cell 2
     simp only [List.getElem?_toArray,List.getElem?_cons_zero,List.getElem?_cons_succ] at y1 y2
     have HYW:Hid (BI wr bb ((L1++indL n)++wdsL x.1)):=Lib.hid (by have:=HY.out;rw [HM.out,List.take_length] at this;exact this)
     have hw1:((L1++indL n)++wdsL x.1).length<=50000000000:=by
      have:=HKW.out
      rw [List.length_append,List.length_append]
      omega
     have HW1:=Lib.hid hw1
     clear hw1
     cases xo with
     |false=>
      go_wp2_with fail
      refine (wr_calls HYW.out (by have:=HW1.out;have h7:(ByteArray.mk #[59,10]).size=2:=rfl;omega)).mono ?_
      rintro e w3 ⟨rfl,hb3,hl3,hk3⟩
      have HB3:=Lib.hid hb3
      have HL3:=Lib.hid (HLY.out.trans hl3)
      clear hb3 hl3 hk3
      go_wp2_with fail
      go_roundw
      case rel=>
       refine ⟨k+1,by omega,by simp,Lib.hid ?_,HL3⟩
       rw [fin_59 HNX.out HO.out]
       exact HB3.out
      case measure=>simp [intOf];omega
     |true=>
      have hlast:L1.length+((indL n).length+(wdsL x.1).length)+(3+((pnT (x.2.2.1.map Blk.un) (n+1)).length+((indL n).length+2)))<=50000000000:=by
       have h7:=HK.out
       rw [HO.out] at h7
       simp only [Bool.not_true,cond_false,List.length_append,List.length_cons,List.length_nil] at h7
       omega
      have HLA:=Lib.hid hlast
      clear hlast
      go_wp2_with fail
      refine (wr_calls HYW.out (by have:=HW1.out;have h7:(ByteArray.mk #[32,123,10]).size=3:=rfl;omega)).mono ?_
      rintro e w3 ⟨rfl,hb3,hl3,hk3⟩
      have hX3:=kept_blk hk3 HXY.out (by have:=HBX.out;omega) (by decide)
      have y2':=hX3.cell 2
      simp only [List.getElem?_toArray,List.getElem?_cons_zero,List.getElem?_cons_succ] at y2'
      have HB3:=Lib.hid hb3
      have HL3:=Lib.hid (HLY.out.trans hl3)
      have hn1:(n:Int)+1<=9223372036854775807:=by have:=HNN.out;omega
      have hn2: -9223372036854775808<=(n:Int)+1:=by omega
      clear hb3 hl3 hk3 hX3 y1 y2
      go_wp2_with fail
      have hcall:=HIH.out (x.2.2.1.map Blk.un) (n+1) _ bb w0 w3 X0 (.slice Ai ni ci) HGX.out.2.2 (by have:=HNN.out;omega) HCI.out HBB.out (HBEL.out.trans (HL3.out.mono HBB.out)) HB3.out (by
       have:=HLA.out
       rw [b123]
       simp only [List.length_append,List.length_cons,List.length_nil]
       omega)
      rw [show ((n+1:Nat):Int)=(n:Int)+1 by omega] at hcall
      refine hcall.mono ?_
      rintro e w4 ⟨rfl,hb4,hl4⟩
      have HB4:=Lib.hid hb4
      have HL4:=Lib.hid (HL3.out.trans hl4)
      obtain ⟨y5,e5⟩: ∃ y,y=t++ByteArray.mk #[125,10]:=⟨_,rfl⟩
      have s5:y5.size=2*n+2:=by rw [e5,ByteArray.size_append,HTS.out];have:(ByteArray.mk #[125,10]).size=2:=rfl;omega
      have q5: ∀ wz:World,(Op.stringOp .add t (ByteArray.mk #[125,10])).run Tryd.prog wz= .ok (.string y5) wz:=fun wz=>by rw [e5];exact run_string_add_sum (P:=Tryd.prog) wz _ _ (by rw [←ByteArray.size_append, ← e5,s5];have:=HNN.out;omega)
      have E5:=Lib.hid e5
      have S5:=Lib.hid s5
      clear hcall hb4 hl4 e5 s5 y2'
      go_wp2_with fail
      refine (wr_calls HB4.out (by
       have:=HLA.out
       rw [b123,S5.out]
       have h8:=HNN.out
       simp only [List.length_append,List.length_cons,List.length_nil]
       omega)).mono ?_
      rintro e w5 ⟨rfl,hb5,hl5,hk5⟩
      have HB5:=Lib.hid hb5
      have HL5:=Lib.hid (HL4.out.trans hl5)
      clear hb5 hl5 hk5 q5
      go_wp2_with fail
      go_roundw
      case rel=>
       refine ⟨k+1,by omega,by simp,Lib.hid ?_,HL5⟩
       rw [fin_125 HNX.out HO.out HT.out, ← E5.out]
       exact HB5.out
      case measure=>simp [intOf];omega
  ·obtain rfl:k=l.length:=by omega
   have hnl: ¬ ((l.length:Nat):Int)<((l.length:Nat):Int):=by omega
   go_wp2_with fail
   go_end0
   refine ⟨rfl, ?_,HW.out⟩
   have:=HR.out
   rw [List.take_length] at this
   exact this
end
end Go.Proofs.YtkkoedniahnneaaDoor.K
namespace Go.Proofs.YtkkoedniahnneaaDoor.K
open Go.RowKit Go.Shelf
attribute [local go_sem ↓] Go.wp_at_zero Go.wp_at_succ
noncomputable section
set_option linter.unusedSectionVars false
theorem print_all: ∀ N:Nat,PrOK N
 |0=>fun l n L bb w0 w X0 sv hok=>by
  obtain ⟨h,_⟩:=okN_b hok
  cases h
 |N+1=>print_any' N (print_all N)
theorem scx_calls {f:FuncId}{E:Ent}{vs:List V}{r:V}{us:List Value}(hm:Meets Tryd.prog f (strip E))(hF:strip E vs []=some (r,[]))(X:Nat->Nat->Prop)(w:World)(hfin: ∀ b q,X b q->b<w.heap.size)(hc:Cs X w nowhere (V.ds vs) us)(hlt:f<1000000:=by decide):
  Calls Tryd.prog f us.toArray w fun en w'=> ∃ u X' σ',en= .returned u/\C X' w' σ' r.d u/\Below w.heap.size w w':=by
 refine (of_does hlt (hm _ _ _ _ hF X w nowhere us hfin lent_nil hc)).mono ?_
 rintro en w' ⟨u,X',σ',rfl,h1,h2⟩
 exact ⟨u,X',σ',rfl,h1,ends_below h2⟩
theorem check_calls {l:List BlkT}{X:Nat->Nat->Prop}{w:World}{sv:Value}(hfin: ∀ b q,X b q->b<w.heap.size)(hC:C X w nowhere (.sl l.length (l.flatMap tyBlkT.cells)) sv)(h:okT l=true):
  Calls Tryd.prog 33 #[sv] w fun e w'=>e= .returned (.int .i64 (chF l))/\Below w.heap.size w w':=by
 have hF:strip sp_f33 [.t (.sl tyBlkT) l] []=some (.t tI (chF l),[]):=by
  unfold sp_f33
  exact strip_spec (a:= .pr (.sl tyBlkT) .nil) (x:=(l,())) (by simp [Ty.args,as_t]) h
 refine (scx_calls ms_f33 hF X w hfin (us:=[sv]) ?_).mono ?_
 ·exact Cs.cons hC (by simp [Cs,V.ds])
 rintro en w' ⟨u,X',σ',rfl,h1,h2⟩
 have h1:C X' w' σ' (.v (.int .i64 (chF l))) u:=h1
 simp only [C] at h1
 obtain ⟨rfl,_⟩:=h1
 exact ⟨rfl,h2⟩
theorem strOf_size (L:List Int):(strOf L).size=L.length:=by
 show (L.map fun n=>UInt8.ofNat n.toNat).toArray.size=L.length
 simp
theorem pnt_bad {l:List BlkT}(h:chF l≠0):pntF l=(ByteArray.mk #[],chF l):=by
 unfold pntF
 rw [show ine (chF l) 0=true from bne_iff_ne.2 h]
 rfl
theorem pnt_ok {l:List BlkT}(h:chF l=0):pntF l=bif decide (8192<(pnT l 0).length) then (ByteArray.mk #[],3) else bif igt (endN (strOf (pnT l 0))) 200 then (ByteArray.mk #[],3) else (strOf (pnT l 0),0):=by
 unfold pntF
 rw [h]
 rfl
def PrintPost (l:List BlkT)(w:World)(e:Ending)(w':World):Prop:=e= .returned (.tuple #[.string (pntF l).1,.int .i64 (pntF l).2])/\Below w.heap.size w w'
theorem prp {l:List BlkT}{w w':World}{s:ByteArray}{n:Int}(h:pntF l=(s,n))(hb:Below w.heap.size w w'):PrintPost l w (.returned (.tuple #[.string s,.int .i64 n])) w':=⟨by rw [h],hb⟩
set_option maxHeartbeats 4000000 in
theorem printB_any {l:List BlkT}{X:Nat->Nat->Prop}{w:World}{sv:Value}(hfin: ∀ b q,X b q->b<w.heap.size)(hC:C X w nowhere (.sl l.length (l.flatMap tyBlkT.cells)) sv)(h:pntOk l=true):
  Calls Tryd.prog 24 #[sv] w (PrintPost l w):=by
 obtain ⟨hok,h2⟩:=Bool.and_eq_true_iff.1 h
 have h2:=cP_of h2
 obtain ⟨N,hN⟩:=okT_fuel hok
 have HN:=Lib.hid hN
 have HC:=Lib.hid hC
 have HFN:=Lib.hid hfin
 have HOK:=Lib.hid hok
 have HLEN:=Lib.hid h2
 clear hN hC hfin hok h2 h
 by_cases h0:chF l=0
 ·have HP:=Lib.hid (pnt_ok h0)
  have h0b:(chF l==0)=true:=beq_iff_eq.2 h0
  have H0:=Lib.hid h0
  go_enter Tryd.func24,Tryd.ntmps24
  go_wp2_with (go_at_call 33;refine (check_calls HFN.out HC.out HOK.out).mono ?_;rw [H0.out];rintro e w1 ⟨rfl,hb1⟩;have HB1:=Lib.hid hb1;clear hb1)
  obtain ⟨bb,hbb⟩: ∃ bb,bb=w1.heap.size:=⟨_,rfl⟩
  obtain ⟨wx,hwx⟩: ∃ wx,wx=w1.alloc (.cells #[.pointer none,.slice none 0 0] 75):=⟨_,rfl⟩
  have hBI:BI wx bb []:=by rw [hwx,hbb];exact BI.new_ w1
  have hbx:Below w1.heap.size w1 wx:=by rw [hwx];exact (Below.refl _ _).alloc (Nat.le_refl _) _
  have hC1:=c_below HC.out HB1.out rfl
  have hcall:=print_all N l 0 [] bb w1 wx X sv HN.out (by have:=(okN_b HN.out).2;omega) hC1 (by rw [hbb];exact Nat.le_refl _) hbx hBI (by have:=HLEN.out;show 0+(pnT l 0).length<=_;omega)
  rw [←hwx, ← hbb]
  have HBX:=Lib.hid (HB1.out.trans (hbx.mono HB1.out.size))
  have HBW:Hid (w.heap.size<=bb):=Lib.hid (by rw [hbb];exact HB1.out.size)
  clear hwx hbb hBI hbx hC1
  refine hcall.mono ?_
  rintro e w2 ⟨rfl,hb2,hl2⟩
  have HB2:Hid (BI w2 bb (pnT l 0)):=Lib.hid hb2
  have HL2:=Lib.hid (HBX.out.trans (hl2.mono HBW.out))
  clear hb2 hl2 hcall
  obtain ⟨s,hs⟩: ∃ s,s=strOf (pnT l 0):=⟨_,rfl⟩
  have hsz:s.size=(pnT l 0).length:=by rw [hs];exact strOf_size _
  have hstr:=strI_calls HB2.out
  rw [←hs] at hstr
  have HSTR:=Lib.hid hstr
  have HSZ:=Lib.hid hsz
  have HPS:Hid (pntF l=bif decide (8192<s.size) then (ByteArray.mk #[],3) else bif igt (endN s) 200 then (ByteArray.mk #[],3) else (s,0)):=Lib.hid (by rw [HP.out,hsz,hs])
  clear hs hstr hsz
  by_cases h8:s.size<=8192
  ·have i1: ¬ ((s.size:Nat):Int) > 8192:=by omega
   by_cases h200:endN s<=200
   ·have i2: ¬ endN s > 200:=by omega
    have HR:Hid (pntF l=(s,0)):=Lib.hid (by rw [HPS.out,decide_eq_false (show ¬ 8192<s.size by omega),show igt (endN s) 200=false from decide_eq_false i2];rfl)
    clear h8 h200 h0 h0b
    go_wp2_with (first|(go_at_call 55;refine HSTR.out.mono ?_;rintro e w3 ⟨rfl,hb3⟩;have HB3:=Lib.hid hb3;clear hb3)|(go_at_call 56;refine (count_calls s _).mono ?_;rintro e w4 ⟨rfl,hw4⟩;obtain rfl:=hw4.symm))
    go_ret2
    exact prp HR.out (HL2.out.trans (HB3.out.mono HBW.out))
   ·have i2:endN s > 200:=by omega
    have HR:Hid (pntF l=(ByteArray.mk #[],3)):=Lib.hid (by rw [HPS.out,decide_eq_false (show ¬ 8192<s.size by omega),show igt (endN s) 200=true from decide_eq_true i2];rfl)
    clear h8 h200 h0 h0b
    go_wp2_with (first|(go_at_call 55;refine HSTR.out.mono ?_;rintro e w3 ⟨rfl,hb3⟩;have HB3:=Lib.hid hb3;clear hb3)|(go_at_call 56;refine (count_calls s _).mono ?_;rintro e w4 ⟨rfl,hw4⟩;obtain rfl:=hw4.symm))
    go_ret2
    exact prp HR.out (HL2.out.trans (HB3.out.mono HBW.out))
  ·have i1:((s.size:Nat):Int) > 8192:=by omega
   have HR:Hid (pntF l=(ByteArray.mk #[],3)):=Lib.hid (by rw [HPS.out,decide_eq_true (show 8192<s.size by omega)];rfl)
   clear h8 h0 h0b
   go_wp2_with (go_at_call 55;refine HSTR.out.mono ?_;rintro e w3 ⟨rfl,hb3⟩;have HB3:=Lib.hid hb3;clear hb3)
   go_ret2
   exact prp HR.out (HL2.out.trans (HB3.out.mono HBW.out))
 ·have h0b:=beq_eq_false_iff_ne.2 h0
  have HP:=Lib.hid (pnt_bad h0)
  clear h0
  go_enter Tryd.func24,Tryd.ntmps24
  go_wp2_with (go_at_call 33;refine (check_calls HFN.out HC.out HOK.out).mono ?_;rintro e w1 ⟨rfl,hb1⟩;have HB1:=Lib.hid hb1;clear hb1)
  go_ret2
  exact prp HP.out HB1.out
def sp_f24:Ent:=spec (.pr (.sl tyBlkT) .nil) (fun x=>(pntOk x.1)) (fun x=>(.tu [(.t .str ((pntF x.1).1)),(.t tI ((pntF x.1).2))]))
theorem en_f24:Entered Tryd.prog 24:= .inr ⟨by decide,_,Tryd.func24,by kernel_rfl,by kernel_rfl⟩
theorem ms_f24:Meets Tryd.prog 24 (strip sp_f24):=by
 unfold sp_f24
 refine meets_calls (fun x hok X w σ vs hfin hc=> ?_)
 obtain ⟨l,u⟩:=x
 have hc:Cs X w σ [.sl l.length (l.flatMap tyBlkT.cells)] vs:=hc
 obtain ⟨sv,rfl,hC⟩:=hc.one
 have hC:C X w nowhere (.sl l.length (l.flatMap tyBlkT.cells)) sv:=by simp only [C] at hC ⊢; exact hC
 refine (printB_any hfin hC hok).mono ?_
 rintro e w' ⟨rfl,hb⟩
 refine ⟨_,rfl, ?_,hb⟩
 show C X w' σ (.tu [.v (.string (pntF l).1),.v (.int .i64 (pntF l).2)]) _
 simp only [C,Cs]
 exact ⟨_,rfl,_,_,rfl,⟨rfl,rfl⟩,_,_,rfl,⟨rfl,rfl⟩,rfl⟩
end
end Go.Proofs.YtkkoedniahnneaaDoor.K
namespace Go.Proofs.YtkkoedniahnneaaDoor.K
open Go.RowKit
noncomputable section
set_option linter.unusedSectionVars false
theorem qd_len: ∀ l:List Int,(qd l).2.1.length<=l.length∧ ∀ e r,l=e::r->(qd r).2.1.length<=r.length
 | []=>⟨Nat.le_refl _,fun _ _ h=>by cases h⟩
 |c::l=>by
  obtain ⟨h1,h2⟩:=qd_len l
  refine ⟨?_,fun e r h=>by cases h;exact h1⟩
  rw [qd.eq_def]
  simp only [List.length_cons]
  cases ieq c 34 with
  |true=>exact Nat.zero_le _
  |false=>
   rw [cond_false]
   cases ieq c 92 with
   |false=>
    rw [cond_false]
    cases isClI c with
    |true=>
     show (qd l).2.1.length+1<=_
     omega
    |false=>exact Nat.zero_le _
   |true=>
    rw [cond_true]
    cases l with
    |nil=>exact Nat.zero_le _
    |cons e r=>
     have h3:=h2 e r rfl
     simp only [List.length_cons]
     cases ieq e 34||ieq e 92 with
     |true=>
      show (qd r).2.1.length+1<=_
      omega
     |false=>exact Nat.zero_le _
def TS (x:ParserXX):Prop:=x.2.1.2.1.size<=1000000
theorem tok_sz {x:ParserXX}(h:lxOk2 x=true):TS (tkD x):=by
 obtain ⟨_,_,h3,_,_⟩:=cP_of h
 show (nxF x).2.1.size<=1000000
 unfold nxF nxP
 cases (skL (lxR x) false (lxW x)).1 with
 |true=>exact Nat.zero_le _
 |false=>
  rw [cond_false]
  have ht:(lxSk x (skL (lxR x) false (lxW x))).1.1=x.1.1:=rfl
  generalize lxSk x (skL (lxR x) false (lxW x))=y at ht ⊢
  unfold nxP.nxQ
  cases ige y.1.2.1 (slen y.1.1) with
  |true=>exact Nat.zero_le _
  |false=>
   rw [cond_false]
   cases ieq (sgt y.1.1 y.1.2.1) 59||(ieq (sgt y.1.1 y.1.2.1) 123||ieq (sgt y.1.1 y.1.2.1) 125) with
   |true=>exact Nat.zero_le _
   |false=>
    rw [cond_false]
    cases lxW y||(ine (sgt y.1.1 y.1.2.1) 34&& !ltrB (sgt y.1.1 y.1.2.1)) with
    |true=>exact Nat.zero_le _
    |false=>
     rw [cond_false]
     cases ieq (sgt y.1.1 y.1.2.1) 34 with
     |false=>
      rw [cond_false]
      show (ssl y.1.1 y.1.2.1 (y.1.2.1+ltL (lxR y))).size<=1000000
      unfold ssl
      have:=ext_size y.1.1 y.1.2.1.toNat (y.1.2.1+ltL (lxR y)).toNat
      rw [ht] at this ⊢
      omega
     |true=>
      rw [cond_true]
      unfold qdF
      simp only
      cases (qd ((bytesL y.1.1).drop (y.1.2.1+1).toNat)).1 with
      |false=>exact Nat.zero_le _
      |true=>
       show (strOf (qd ((bytesL y.1.1).drop (y.1.2.1+1).toNat)).2.1).size<=1000000
       rw [strOf_size]
       have h1:=(qd_len ((bytesL y.1.1).drop (y.1.2.1+1).toNat)).1
       rw [List.length_drop,bytesG_len,ht] at h1
       rw [ht]
       omega
theorem ws_sz: ∀ (m:Nat) (ws:List ByteArray) (x:ParserXX),lxOk2 x=true->rmX x<=m->ws.all wsz=true->TS x->(wsX ws x).1.all wsz=true
 |m,ws,x,hx,hm,hw,ht=>by
  cases hq:ieq x.2.1.1 119 with
  |false=>
   rw [wsX_not hq]
   exact hw
  |true=>
   have hk:=tk_ok hx
   rw [wsX_word hx hq]
   have hw2:(ws++[x.2.1.2.1]).all wsz=true:=by
    rw [List.all_append,hw,List.all_cons,List.all_nil,Bool.true_and,Bool.and_true]
    exact decide_eq_true (Nat.le_trans ht (by decide))
   cases hn:ieq (tkD x).2.1.1 119 with
   |false=>
    rw [wsX_not hn]
    exact hw2
   |true=>
    have h1:=hk.adv (.inl (eq_of_beq hn))
    cases m with
    |zero=>omega
    |succ m=>exact ws_sz m _ (tkD x) hk.ok (by omega) hw2 (tok_sz hx)
theorem okB_snoc {M:Nat}{acc:List BlkT}{k:BlkT}(h:okB (M+1) acc=true)(hl:acc.length+1<=100000)(h1:k.1.length<=100000)(h2:k.1.all wsz=true)(h3:okB M (k.2.2.1.map Blk.un)=true):okB (M+1) (acc++[k])=true:=by
 unfold okB at h ⊢
 obtain ⟨_,h5⟩:=Bool.and_eq_true_iff.1 h
 refine Bool.and_eq_true_iff.2 ⟨decide_eq_true (by rw [List.length_append,List.length_singleton];omega), ?_⟩
 rw [List.all_append,h5,List.all_cons,List.all_nil,Bool.and_true,Bool.true_and]
 exact Bool.and_eq_true_iff.2 ⟨decide_eq_true h1,Bool.and_eq_true_iff.2 ⟨h2,h3⟩⟩
theorem okB_nil (M:Nat):okB (M+1) []=true:=rfl
theorem st_okB: ∀ (N M:Nat) (lv:Int) (acc:List BlkT) (x:ParserXX),okR x=true->TS x->N+1<=M->okB M acc=true->acc.length+rmX x<=20000->okB M (stG N lv acc x).1=true
 |0,_,_,_,_,_,_,_,h,_=>h
 |N+1,M,lv,acc,x,hx,ht,hM,h,hl=>by
  rw [stG_eq]
  cases !(ieq x.2.2.1 0&&(ine x.2.1.1 0&&ine x.2.1.1 125)) with
  |true=>exact h
  |false=>
   rw [cond_false]
   cases hc:ine x.2.1.1 119|| !x.2.1.2.2.1 with
   |true=>exact h
   |false=>
    rw [cond_false]
    have hq:ieq x.2.1.1 119=true:=by
     cases hz:ieq x.2.1.1 119 with
     |true=>rfl
     |false=>
      rw [show ine x.2.1.1 119= !ieq x.2.1.1 119 from rfl,hz] at hc
      cases hc
    obtain ⟨h1,h2⟩:=hd_ok (lv:=lv) hx
    have ha:=hd_adv (lv:=lv) hx hq
    have hz:=ws_sz _ [] (dS (igt lv 16) x) (okR_lx (okR_dS hx)) (Nat.le_refl _) rfl ht
    have hn:=(wsX_ok _ [] (dS (igt lv 16) x) (okR_lx (okR_dS hx)) (Nat.le_refl _)).2.2.2.2.2
    have hn:(wsX [] (dS (igt lv 16) x)).1.length<=100000:=by
     have:rmX (dS (igt lv 16) x)=rmX x:=rfl
     simp only [List.length_nil] at hn
     omega
    generalize (wsX [] (dS (igt lv 16) x)).1=ws at hz hn ⊢
    generalize hdX lv x=y at h1 h2 ha ⊢
    have k1:=rm_tk h1
    have ts:=tok_sz (okR_lx h1)
    obtain ⟨M,rfl⟩: ∃ M',M=M'+1:=⟨M-1,by omega⟩
    obtain ⟨M,rfl⟩: ∃ M',M=M'+1:=⟨M-1,by omega⟩
    unfold stB
    cases h59:ieq y.2.1.1 59 with
    |true=>
     rw [cond_true]
     have hr:=ha (.inl (eq_of_beq h59))
     refine st_okB N (M+2) lv _ (tkD y) (okR_tk h1) ts (by omega) (okB_snoc h (by omega) hn hz (okB_nil M)) ?_
     rw [List.length_append,List.length_singleton]
     omega
    |false=>
     rw [cond_false]
     cases h123:ieq y.2.1.1 123 with
     |false=>exact h
     |true=>
      rw [cond_true]
      have hr:=ha (.inr (eq_of_beq h123))
      have hi:=st_okB N (M+1) (lv+1) [] (tkD y) (okR_tk h1) ts (by omega) (okB_nil M) (by show 0+rmX (tkD y)<=20000;omega)
      obtain ⟨g1,g2⟩:=stG_ok N (lv+1) [] (tkD y) (okR_tk h1)
      generalize stG N (lv+1) [] (tkD y)=i at g1 g2 hi ⊢
      unfold stC
      cases ine i.2.2.2.1 0 with
      |true=>exact h
      |false=>
       rw [cond_false]
       cases ine i.2.2.1.1 125 with
       |true=>exact h
       |false=>
        rw [cond_false]
        have:=rm_tk g1
        refine st_okB N (M+2) lv _ (tkD i.2) (okR_tk g1) (tok_sz (okR_lx g1)) (by omega) (okB_snoc h (by omega) hn hz ?_) ?_
        ·have e:(i.1.map Blk.of).map Blk.un=i.1:=by rw [List.map_map,show (Blk.un ∘ Blk.of)=id from funext Blk.un_of,List.map_id]
         show okB (M+1) ((i.1.map Blk.of).map Blk.un)=true
         rw [e]
         exact hi
        ·rw [List.length_append,List.length_singleton]
         omega
theorem okT_nil:okT []=true:=cP_in ⟨1,okN_i (okB_nil 0) (by decide)⟩
theorem okT_pa {s:ByteArray}:okT (paB s).1=true:=by
 by_cases h1:s.size<=8192
 ·by_cases h2:endN s<=200
  ·rw [show (paB s).1=(bif ine (psZ s).2.2.1 0 then (([],((psZ s).2.2.1,1)):List BlkT×Int×Int) else bif (psZ s).2.2.2.1 then ([],(0,3)) else (stF (tkD (psX s)) 1,(0,0))).1 by rw [paB_in h1 h2]]
   cases ine (psZ s).2.2.1 0 with
   |true=>exact okT_nil
   |false=>
    cases (psZ s).2.2.2.1 with
    |true=>exact okT_nil
    |false=>
     show okT (stF (tkD (psX s)) 1)=true
     unfold stF
     cases stBad 1 [] (tkD (psX s)) with
     |true=>exact okT_nil
     |false=>
      obtain ⟨o1,o2,o3⟩:=okR_ps h1
      have:=st_okB (rmX (tkD (psX s))+1) (rmX (tkD (psX s))+2) 1 [] (tkD (psX s)) o1 (tok_sz o3) (Nat.le_refl _) (okB_nil _) (by show 0+_<=_;omega)
      exact cP_in ⟨rmX (tkD (psX s))+2,okN_i this (by omega)⟩
  ·have:paB s=([],(0,3)):=by
    unfold paB
    rw [show igt (slen s) 8192=false from decide_eq_false (by simp only [slen];omega),show igt (endN s) 200=true from decide_eq_true (by omega)]
    rfl
   rw [this]
   exact okT_nil
 ·have:paB s=([],(0,3)):=by
   unfold paB
   rw [show igt (slen s) 8192=true from decide_eq_true (by simp only [slen];omega)]
   rfl
  rw [this]
  exact okT_nil
end
end Go.Proofs.YtkkoedniahnneaaDoor.K
namespace Go.Proofs.YtkkoedniahnneaaDoor.K
open Go.RowKit
noncomputable section
set_option linter.unusedSectionVars false
abbrev awS:ByteArray:=ByteArray.mk #[97,32,98,123,99,32,34,100,32,101,34,59,125]
def awL:List BlkT:=[([ByteArray.mk #[97],ByteArray.mk #[98]],(true,([Blk.mk [ByteArray.mk #[99],ByteArray.mk #[100,32,101]] false [] 1],(1,()))))]
theorem aw_pa:paB awS=(awL,(0,0)):=by kernel_rfl
theorem aw_pn:pntF awL=(ByteArray.mk #[97,32,98,32,123,10,32,32,99,32,34,100,32,101,34,59,10,125,10],0):=by kernel_rfl
theorem aw_ok:okT awL=true:=cP_in ⟨3,okN_i (by kernel_rfl) (by decide)⟩
theorem aw_pk:pntOk awL=true:=Bool.and_eq_true_iff.2 ⟨aw_ok,cP_in (by
 have:(pnT awL 0).length=19:=by kernel_rfl
 omega)⟩
def awk7:Bool:=true
def tc_f21:TC:=(.sq (.reg [(oP 0 (.mv (cB false)))]) (.sq (.reg [(oC 7 42 [(.c (.v (.string (ByteArray.mk #[97,32,98,123,99,32,34,100,32,101,34,59,125]))))]),(oV 6 7),(oP 8 (.ext 0 (.t 6))),(oP 9 (.ext 1 (.t 6))),(oP 10 (.ext 2 (.t 6))),(oV 1 8),(oV 2 9),(oV 3 10)]) (.sq (.reg [(oV 12 1),(oC 13 24 [(.t 12)]),(oV 11 13),(oP 14 (.ext 0 (.t 11))),(oP 15 (.ext 1 (.t 11))),(oV 4 14),(oV 5 15)]) (.sq (.reg [(oV 16 3),(oP 17 (.bin false .eql (.t 16) (cI 0))),(oV 18 17),(oQ 19 18 true (.mv (.t 5))),(oQ 20 18 true (.bin false .eql (.t 19) (cI 0))),(oP 21 (.pick (.t 18) (.t 20) (cB false))),(oV 22 21),(oQ 23 22 true (.mv (.t 2))),(oQ 24 22 true (.bin false .eql (.t 23) (cI 0))),(oP 25 (.pick (.t 22) (.t 24) (cB false))),(oV 26 25),(oQ 27 26 true (.mv (.t 1))),(oQ 28 26 true (.len false (.t 27))),(oQ 29 26 true (.bin false .eql (.t 28) (cI 1))),(oP 30 (.pick (.t 26) (.t 29) (cB false))),(oV 31 30),(oQ 32 31 true (.mv (.t 4))),(oQ 33 31 true (.bin false .eql (.t 32) (.c (.v (.string (ByteArray.mk #[97,32,98,32,123,10,32,32,99,32,34,100,32,101,34,59,10,125,10])))))),(oP 34 (.pick (.t 31) (.t 33) (cB false))),(oV 35 34),(oQ 36 35 true (.mv (.t 1))),(oG 37 35 true (.call 35 [(.t 36)])),(oQ 38 35 true (.bin false .eql (.t 37) (cI 2))),(oP 39 (.pick (.t 35) (.t 38) (cB false))),(oV 40 39),(oQ 41 40 true (.mv (.t 1))),(oG 42 40 true (.call 38 [(.t 41),(.c (.v (.string (ByteArray.mk #[97]))))])),(oQ 43 40 true (.len false (.t 42))),(oQ 44 40 true (.bin false .eql (.t 43) (cI 1))),(oP 45 (.pick (.t 40) (.t 44) (cB false))),(oV 0 45)]) .rt))))
def rv_f21:List (RV×Option Ty):=[((.t 0),some .bool)]
def g_f21:G:=⟨TYs,[],46,EL [(24,sp_f24),(35,sp_f35),(38,sp_f38),(42,sp_f42)],keeps,(fun _ _=>none),IL [],RL []⟩
def r_f21  : Option (V×List VO):=
 br ((paOk (ByteArray.mk #[97,32,98,123,99,32,34,100,32,101,34,59,125])))
  (br ((pntOk ((paB (ByteArray.mk #[97,32,98,123,99,32,34,100,32,101,34,59,125])).1)))
   (br ((ieq (((paB (ByteArray.mk #[97,32,98,123,99,32,34,100,32,101,34,59,125])).2).2) 0))
    (br ((ieq ((pntF ((paB (ByteArray.mk #[97,32,98,123,99,32,34,100,32,101,34,59,125])).1)).2) 0))
     (br ((ieq (((paB (ByteArray.mk #[97,32,98,123,99,32,34,100,32,101,34,59,125])).2).1) 0))
      (br ((ieq (llen ((paB (ByteArray.mk #[97,32,98,123,99,32,34,100,32,101,34,59,125])).1)) 1))
       (br ((seq ((pntF ((paB (ByteArray.mk #[97,32,98,123,99,32,34,100,32,101,34,59,125])).1)).1) (ByteArray.mk #[97,32,98,32,123,10,32,32,99,32,34,100,32,101,34,59,10,125,10])))
        (br ((okT ((paB (ByteArray.mk #[97,32,98,123,99,32,34,100,32,101,34,59,125])).1)))
         (br ((ieq (dpF ((paB (ByteArray.mk #[97,32,98,123,99,32,34,100,32,101,34,59,125])).1)) 2))
          (br ((fdOk ((paB (ByteArray.mk #[97,32,98,123,99,32,34,100,32,101,34,59,125])).1) (ByteArray.mk #[97])))
           (some (.t .bool (ieq (llen (fdT ((paB (ByteArray.mk #[97,32,98,123,99,32,34,100,32,101,34,59,125])).1) (ByteArray.mk #[97]))) 1),[]))
           (none))
          (some (.t .bool false,[])))
         (none))
        (some (.t .bool false,[])))
       (some (.t .bool false,[])))
      (some (.t .bool false,[])))
     (some (.t .bool false,[])))
    (some (.t .bool false,[])))
   (none))
  (none)
theorem e_f21  : runF g_f21 tc_f21 rv_f21 false [] []=r_f21  :=by kernel_rfl
theorem ok_f21:Option.map (trC Tryd.prog) Tryd.f21.body=some tc_f21.er:=by kernel_rfl
theorem rok_f21:trVs Tryd.prog Tryd.f21.results.toList=some (rv_f21.map Prod.fst):=by kernel_rfl
theorem en_f21:Entered Tryd.prog 21:= .inr ⟨by decide,_,Tryd.func21,by kernel_rfl,by kernel_rfl⟩
theorem gk_f21:GOk Tryd.prog g_f21:=gok_of _ (by
 intro p hp
 simp only [List.mem_cons,List.not_mem_nil,or_false] at hp
 rcases hp with rfl|rfl|rfl|rfl
 ·exact ⟨en_f24,ms_f24⟩
 ·exact ⟨en_f35,ms_f35⟩
 ·exact ⟨en_f38,ms_f38⟩
 ·exact ⟨en_f42,ms_f42⟩)
theorem lk_f21:tc_f21.lok g_f21:=by repeat (first|exact trivial|refine ⟨?_, ?_⟩)
theorem s_f21:r_f21=some (.t .bool awk7,[]):=by
 unfold r_f21
 rw [show paB (ByteArray.mk #[97,32,98,123,99,32,34,100,32,101,34,59,125])=(awL,(0,0)) from aw_pa]
 simp only
 rw [aw_pk,aw_pn,aw_ok,show fdOk awL (ByteArray.mk #[97])=true from aw_ok]
 kernel_rfl
def sp_f21:Ent:=spec .nil (fun x=>true) (fun x=>(.t .bool awk7))
theorem ms_f21:Meets Tryd.prog 21 (strip sp_f21):=by
 obtain ⟨c,hc,hi⟩:=Option.map_eq_some_iff.1 ok_f21
 exact meets_spec (R:=runF g_f21 tc_f21 rv_f21 false) (meets_of (by decide) Tryd.func21 hc hi Tryd.ntmps21 rok_f21 gk_f21 lk_f21 mixed) fun x _=>(e_f21 ).trans (s_f21)
end
end Go.Proofs.YtkkoedniahnneaaDoor.K
set_option linter.unusedSectionVars false
namespace Go.Proofs.YtkkoedniahnneaaDoor.K
open Go.RowKit
noncomputable section
set_option linter.unusedSectionVars false
abbrev bw1:List ByteArray:=[(ByteArray.mk #[]),(ByteArray.mk #[32]),(ByteArray.mk #[10]),(ByteArray.mk #[35,32,110,111,116,101,10]),(ByteArray.mk #[9])]
abbrev bw2:List ByteArray:=[(ByteArray.mk #[97]),(ByteArray.mk #[115,101,114,118,101,114]),(ByteArray.mk #[98,45,49]),(ByteArray.mk #[120,58,121]),(ByteArray.mk #[34,113,32,114,34]),(ByteArray.mk #[34,34]),(ByteArray.mk #[34,97,92,34,98,34]),(ByteArray.mk #[43,118,52,33])]
abbrev bw3:List ByteArray:=[(ByteArray.mk #[32]),(ByteArray.mk #[32,32]),(ByteArray.mk #[10]),(ByteArray.mk #[32]),(ByteArray.mk #[])]
abbrev bw4:List ByteArray:=[(ByteArray.mk #[125]),(ByteArray.mk #[125]),(ByteArray.mk #[125,10]),(ByteArray.mk #[])]
abbrev bw5:List ByteArray:=[(ByteArray.mk #[59]),(ByteArray.mk #[59,10]),(ByteArray.mk #[59,32]),(ByteArray.mk #[])]
abbrev SD:Type:=ByteArray×Dice
def tx0G:Nat->ByteArray->Dice->SD
 |0,s,d=>(s,d)
 |k+1,s,d=>tx0G k (scat (scat s (dwdG d bw2)) (dwdG (dwdGN d bw2) bw3)) (dwdGN (dwdGN d bw2) bw3)
def txB (rec:Dice->SD)(dep:Bool)(r:SD):SD:=
 bif dep then (bif done r.2 3 then (scat (scat (scat r.1 (ByteArray.mk #[123])) (rec (dnext r.2 3)).1) (dwdG (rec (dnext r.2 3)).2 bw4),dwdGN (rec (dnext r.2 3)).2 bw4)
  else (scat r.1 (dwdG (dnext r.2 3) bw5),dwdGN (dnext r.2 3) bw5)) else (scat r.1 (dwdG r.2 bw5),dwdGN r.2 bw5)
def txA (s:ByteArray)(d:Dice):SD:=tx0G (1+dval (dwdGN d bw1) 3).toNat (scat s (dwdG d bw1)) (dnext (dwdGN d bw1) 3)
def tx1G (rec:Dice->SD)(dep:Bool):Nat->ByteArray->Dice->SD
 |0,s,d=>(s,d)
 |i+1,s,d=>tx1G rec dep i (txB rec dep (txA s d)).1 (txB rec dep (txA s d)).2
def txG:Nat->Dice->SD
 |0,d=>tx1G (fun d=>(ByteArray.mk #[],d)) false (dval d 5).toNat (ByteArray.mk #[]) (dnext d 5)
 |n+1,d=>tx1G (txG n) true (dval d 5).toNat (ByteArray.mk #[]) (dnext d 5)
def tx7F (d:Dice)(n:Int):ByteArray:=(txG n.toNat d).1
def tx7N (d:Dice)(n:Int):Dice:=(txG n.toNat d).2
def tx7S:Nat->Dice->Int->Bool
 |0,_,_=>false
 |k+1,d,n=>dOk d&&cP (0<=n/\n<=k/\n<=3)
def tx7Ok (d:Dice)(n:Int):Bool:=dOk d&&cP (0<=n/\n<=3)
theorem fuel_law07_text (d:Dice)(n:Int)(h:tx7Ok d n=true): ∃ N,tx7S N d n=true:=by
 obtain ⟨h1,h2⟩:=Bool.and_eq_true_iff.1 h
 obtain ⟨h2,h3⟩:=cP_of h2
 exact ⟨4,Bool.and_eq_true_iff.2 ⟨h1,cP_in ⟨h2,h3,h3⟩⟩⟩
def Bn:Nat->Nat
 |0=>150
 |n+1=>5*Bn n
theorem Bn_le: ∀ n,n<=3->Bn n<=20000
 |0,_=>by decide
 |1,_=>by decide
 |2,_=>by decide
 |3,_=>by decide
 |n+4,h=>by omega
theorem Bn_ge (n:Nat):150<=Bn n:=by
 induction n with
 |zero=>exact Nat.le_refl _
 |succ n ih=>unfold Bn;omega
theorem sct (a b:ByteArray):(scat a b).size=a.size+b.size:=ByteArray.size_append
theorem bz1 (d:Dice):(dwdG d bw1).size<=7:=dwd_size (by kernel_rfl)
theorem bz2 (d:Dice):(dwdG d bw2).size<=6:=dwd_size (by kernel_rfl)
theorem bz3 (d:Dice):(dwdG d bw3).size<=2:=dwd_size (by kernel_rfl)
theorem bz4 (d:Dice):(dwdG d bw4).size<=2:=dwd_size (by kernel_rfl)
theorem bz5 (d:Dice):(dwdG d bw5).size<=2:=dwd_size (by kernel_rfl)
theorem tx0_ok: ∀ (k:Nat) (s:ByteArray) (d:Dice),dOk d=true->(tx0G k s d).1.size<=s.size+8*k/\dOk (tx0G k s d).2=true
 |0,s,d,h=>⟨by show s.size<=_;omega,h⟩
 |k+1,s,d,h=>by
  obtain ⟨h1,h2⟩:=tx0_ok k (scat (scat s (dwdG d bw2)) (dwdG (dwdGN d bw2) bw3)) (dwdGN (dwdGN d bw2) bw3) (dOk_next (dOk_next h))
  have:=bz2 d
  have:=bz3 (dwdGN d bw2)
  rw [sct,sct] at h1
  exact ⟨by show (tx0G k _ _).1.size<=_;omega,h2⟩
theorem txA_ok (s:ByteArray)(d:Dice)(h:dOk d=true):(txA s d).1.size<=s.size+31/\dOk (txA s d).2=true:=by
 have hv:=dval_lt (d:=dwdGN d bw1) (n:=3) (by omega)
 have hv0:0<=dval (dwdGN d bw1) 3:=by omega
 obtain ⟨h1,h2⟩:=tx0_ok (1+dval (dwdGN d bw1) 3).toNat (scat s (dwdG d bw1)) (dnext (dwdGN d bw1) 3) (dOk_next (dOk_next h))
 have:=bz1 d
 rw [sct] at h1
 exact ⟨by show (tx0G _ _ _).1.size<=_;omega,h2⟩
theorem txB_ok {rec:Dice->SD}{dep:Bool}{B:Nat}(hr:dep=true→ ∀ d,dOk d=true->(rec d).1.size<=B/\dOk (rec d).2=true)(r:SD)(h:dOk r.2=true):(txB rec dep r).1.size<=r.1.size+B+3/\dOk (txB rec dep r).2=true:=by
 unfold txB
 cases dep with
 |false=>
  have:=bz5 r.2
  exact ⟨by show (scat _ _).size<=_;rw [sct];omega,show dOk (dwdGN r.2 bw5)=true from dOk_next h⟩
 |true=>
  rw [cond_true]
  obtain ⟨h1,h2⟩:=hr rfl (dnext r.2 3) (dOk_next h)
  cases done r.2 3 with
  |true=>
   have:=bz4 (rec (dnext r.2 3)).2
   have e:(ByteArray.mk #[123]).size=1:=rfl
   exact ⟨by show (scat (scat (scat _ _) _) _).size<=_;rw [sct,sct,sct];omega,show dOk (dwdGN (rec (dnext r.2 3)).2 bw4)=true from dOk_next h2⟩
  |false=>
   have:=bz5 (dnext r.2 3)
   exact ⟨by show (scat _ _).size<=_;rw [sct];omega,show dOk (dwdGN (dnext r.2 3) bw5)=true from dOk_next (dOk_next h)⟩
theorem tx1_ok {rec:Dice->SD}{dep:Bool}{B:Nat}(hr:dep=true→ ∀ d,dOk d=true->(rec d).1.size<=B/\dOk (rec d).2=true): ∀ (i:Nat) (s:ByteArray) (d:Dice),dOk d=true->(tx1G rec dep i s d).1.size<=s.size+i*(34+B)/\dOk (tx1G rec dep i s d).2=true
 |0,s,d,h=>⟨by show s.size<=_;omega,h⟩
 |i+1,s,d,h=>by
  obtain ⟨h1,h2⟩:=txA_ok s d h
  obtain ⟨h3,h4⟩:=txB_ok hr (txA s d) h2
  obtain ⟨h5,h6⟩:=tx1_ok hr i (txB rec dep (txA s d)).1 (txB rec dep (txA s d)).2 h4
  rw [Nat.succ_mul]
  exact ⟨by show (tx1G rec dep i _ _).1.size<=_;omega,h6⟩
theorem txG_ok: ∀ (n:Nat) (d:Dice),dOk d=true->(txG n d).1.size<=Bn n/\dOk (txG n d).2=true
 |0,d,h=>by
  have hv:=dval_lt (d:=d) (n:=5) (by omega)
  obtain ⟨h1,h2⟩:=tx1_ok (rec:=fun d=>(ByteArray.mk #[],d)) (dep:=false) (B:=0) (fun h=>by cases h) (dval d 5).toNat (ByteArray.mk #[]) (dnext d 5) (dOk_next h)
  have e:(ByteArray.mk #[]).size=0:=rfl
  refine ⟨?_,h2⟩
  show (tx1G _ _ _ _ _).1.size<=150
  have:(dval d 5).toNat<=4:=by omega
  have:=Nat.mul_le_mul_right (34+0) this
  omega
 |n+1,d,h=>by
  have hv:=dval_lt (d:=d) (n:=5) (by omega)
  obtain ⟨h1,h2⟩:=tx1_ok (rec:=txG n) (dep:=true) (B:=Bn n) (fun _ d hd=>txG_ok n d hd) (dval d 5).toNat (ByteArray.mk #[]) (dnext d 5) (dOk_next h)
  have e:(ByteArray.mk #[]).size=0:=rfl
  refine ⟨?_,h2⟩
  show (tx1G _ _ _ _ _).1.size<=5*Bn n
  have:(dval d 5).toNat<=4:=by omega
  have:=Nat.mul_le_mul_right (34+Bn n) this
  have:=Bn_ge n
  omega
def tb0 (s:ByteArray)(k:Int)(d:Dice):Bool:=dOk d&&cP (0<=k/\k<=3/\s.size+8*k.toNat<=2000000)
def txRec (n:Int):Dice->SD:=if n.toNat=0 then fun d=>(ByteArray.mk #[],d) else txG (n.toNat-1)
def txDep (n:Int):Bool:=igt n 0
theorem en_f22:Entered Tryd.prog 22:= .inr ⟨by decide,_,Tryd.func22,by kernel_rfl,by kernel_rfl⟩
def sp_f22R [Fuel]:Ent:=specP tyDice (.pr tI .nil) (fun d x=>(tx7S fuel d x.1)) (fun d x=>(.t .str (tx7F d x.1))) (fun d x=>(tx7N d x.1))
theorem en_f22R:Entered Tryd.prog 22:=en_f22
section
variable [Fuel][Nonempty (PLift (Meets Tryd.prog 22 (strip sp_f22R)))]
theorem ms_f22R:Meets Tryd.prog 22 (strip sp_f22R):=(Classical.choice (inferInstance:Nonempty (PLift (Meets Tryd.prog 22 (strip sp_f22R))))).down
def tb1 [Fuel](n:Int)(s:ByteArray)(i:Int)(d:Dice):Bool:=dOk d&&cP (0<=n/\n<=fuel/\n<=3/\0<=i/\i<=4/\s.size+i.toNat*20034<=1000000)
def fg_f22_0:Fg:=⟨[(0,none),(1,some tI),(5,some .str),(6,some tI),(7,some tI)],[(50000,some tyDice)]⟩
def tb_f22_0:TC:=(.sq (.sq (.reg [(oV 22 7),(oP 23 (.bin false .gtr (.t 22) (cI 0)))]) (.cd (.t 23) .sk (.fg ⟨[(0,none),(1,some tI),(5,some .str),(6,some tI)],[(50000,some tyDice)]⟩ (.ex 2)))) (.sq (.bk 3 (.reg [(oV 26 5),(oV 27 0),(oM 28 (.bs 9 1 8 [(.v (.string (ByteArray.mk #[]))),(.v (.string (ByteArray.mk #[]))),(.v (.string (ByteArray.mk #[]))),(.v (.string (ByteArray.mk #[]))),(.v (.string (ByteArray.mk #[]))),(.v (.string (ByteArray.mk #[]))),(.v (.string (ByteArray.mk #[]))),(.v (.string (ByteArray.mk #[])))] [(0,1,(.c (.v (.string (ByteArray.mk #[97]))))),(1,1,(.c (.v (.string (ByteArray.mk #[115,101,114,118,101,114]))))),(2,1,(.c (.v (.string (ByteArray.mk #[98,45,49]))))),(3,1,(.c (.v (.string (ByteArray.mk #[120,58,121]))))),(4,1,(.c (.v (.string (ByteArray.mk #[34,113,32,114,34]))))),(5,1,(.c (.v (.string (ByteArray.mk #[34,34]))))),(6,1,(.c (.v (.string (ByteArray.mk #[34,97,92,34,98,34]))))),(7,1,(.c (.v (.string (ByteArray.mk #[43,118,52,33])))))])),(oC 29 32 [(.t 27),(.t 28)]),(oP 30 (.bin false .add (.t 26) (.t 29))),(oV 31 0),(oM 32 (.bs 9 1 5 [(.v (.string (ByteArray.mk #[]))),(.v (.string (ByteArray.mk #[]))),(.v (.string (ByteArray.mk #[]))),(.v (.string (ByteArray.mk #[]))),(.v (.string (ByteArray.mk #[])))] [(0,1,(.c (.v (.string (ByteArray.mk #[32]))))),(1,1,(.c (.v (.string (ByteArray.mk #[32,32]))))),(2,1,(.c (.v (.string (ByteArray.mk #[10]))))),(3,1,(.c (.v (.string (ByteArray.mk #[32]))))),(4,1,(.c (.v (.string (ByteArray.mk #[])))))])),(oC 33 32 [(.t 31),(.t 32)]),(oP 34 (.bin false .add (.t 30) (.t 33))),(oV 5 34)])) (.reg [(oV 24 7),(oP 25 (.bin false .sub (.t 24) (cI 1))),(oV 7 25)])))
def fg_f22_1:Fg:=⟨[(0,none),(1,some tI),(5,some .str),(6,some tI)],[(50000,some tyDice)]⟩
def tb_f22_1:TC:=(.sq (.sq (.reg [(oV 10 6),(oP 11 (.bin false .gtr (.t 10) (cI 0)))]) (.cd (.t 11) .sk (.fg ⟨[(5,some .str)],[(50000,some tyDice)]⟩ (.ex 0)))) (.sq (.bk 1 (.sq (.reg [(oV 14 5),(oV 15 0),(oM 16 (.bs 9 1 5 [(.v (.string (ByteArray.mk #[]))),(.v (.string (ByteArray.mk #[]))),(.v (.string (ByteArray.mk #[]))),(.v (.string (ByteArray.mk #[]))),(.v (.string (ByteArray.mk #[])))] [(0,1,(.c (.v (.string (ByteArray.mk #[]))))),(1,1,(.c (.v (.string (ByteArray.mk #[32]))))),(2,1,(.c (.v (.string (ByteArray.mk #[10]))))),(3,1,(.c (.v (.string (ByteArray.mk #[35,32,110,111,116,101,10]))))),(4,1,(.c (.v (.string (ByteArray.mk #[9])))))])),(oC 17 32 [(.t 15),(.t 16)]),(oP 18 (.bin false .add (.t 14) (.t 17))),(oV 5 18)]) (.sq (.sq (.reg [(oV 19 0),(oC 20 18 [(.t 19),(cI 3)]),(oP 21 (.bin false .add (cI 1) (.t 20))),(oV 7 21)]) (.bk 2 (.lp 0 fg_f22_0 tb_f22_0))) (.sq (.reg [(oV 35 1),(oP 36 (.bin false .gtr (.t 35) (cI 0))),(oV 37 36),(oQ 38 37 true (.mv (.t 0))),(oG 39 37 true (.call 52 [(.t 38),(cI 3)])),(oP 40 (.pick (.t 37) (.t 39) (cB false)))]) (.cd (.t 40) (.reg [(oV 41 5),(oP 42 (.bin false .add (.t 41) (.c (.v (.string (ByteArray.mk #[123])))))),(oV 43 0),(oV 44 1),(oP 45 (.bin false .sub (.t 44) (cI 1))),(oC 46 22 [(.t 43),(.t 45)]),(oP 47 (.bin false .add (.t 42) (.t 46))),(oV 48 0),(oM 49 (.bs 9 1 4 [(.v (.string (ByteArray.mk #[]))),(.v (.string (ByteArray.mk #[]))),(.v (.string (ByteArray.mk #[]))),(.v (.string (ByteArray.mk #[])))] [(0,1,(.c (.v (.string (ByteArray.mk #[125]))))),(1,1,(.c (.v (.string (ByteArray.mk #[125]))))),(2,1,(.c (.v (.string (ByteArray.mk #[125,10]))))),(3,1,(.c (.v (.string (ByteArray.mk #[])))))])),(oC 50 32 [(.t 48),(.t 49)]),(oP 51 (.bin false .add (.t 47) (.t 50))),(oV 5 51)]) (.reg [(oV 52 5),(oV 53 0),(oM 54 (.bs 9 1 4 [(.v (.string (ByteArray.mk #[]))),(.v (.string (ByteArray.mk #[]))),(.v (.string (ByteArray.mk #[]))),(.v (.string (ByteArray.mk #[])))] [(0,1,(.c (.v (.string (ByteArray.mk #[59]))))),(1,1,(.c (.v (.string (ByteArray.mk #[59,10]))))),(2,1,(.c (.v (.string (ByteArray.mk #[59,32]))))),(3,1,(.c (.v (.string (ByteArray.mk #[])))))])),(oC 55 32 [(.t 53),(.t 54)]),(oP 56 (.bin false .add (.t 52) (.t 55))),(oV 5 56)])))))) (.reg [(oV 12 6),(oP 13 (.bin false .sub (.t 12) (cI 1))),(oV 6 13)])))
def tc_f22:TC:=(.sq (.reg [(oP 4 (.mv (.c (.v (.string (ByteArray.mk #[]))))))]) (.sq (.reg [(oP 5 (.mv (.c (.v (.string (ByteArray.mk #[]))))))]) (.sq (.sq (.reg [(oV 8 0),(oC 9 18 [(.t 8),(cI 5)]),(oV 6 9)]) (.bk 0 (.lp 1 fg_f22_1 tb_f22_1))) (.sq (.reg [(oV 57 5),(oV 4 57)]) .rt))))
def rv_f22:List (RV×Option Ty):=[((.t 4),some .str)]
abbrev sh_f22_0:Sh:=⟨[(0,.ptr 50000 0),(1,.ty tI),(5,.ty .str),(6,.ty tI),(7,.ty tI)],[(50000,.box tyDice)]⟩
def st_f22_0 (x1:Int)(x5:ByteArray)(x6:Int)(x7:Int)(y50000:Dice):VS:=sh_f22_0.st ((),x1,x5,x6,x7,()) (y50000,())
abbrev sh_f22_0_e2:Sh:=⟨[(0,.ptr 50000 0),(1,.ty tI),(5,.ty .str),(6,.ty tI)],[(50000,.box tyDice)]⟩
def st_f22_0_e2 (x1:Int)(x5:ByteArray)(x6:Int)(y50000:Dice):VS:=sh_f22_0_e2.st ((),x1,x5,x6,()) (y50000,())
-- loop 0: (x1 : Int) (x5 : ByteArray) (x6 : Int) (x7 : Int) (y50000 : Dice); out: ('exit', 2) (x1 : Int) (x5 : ByteArray) (x6 : Int) (y50000 : Dice)
abbrev sh_f22_1:Sh:=⟨[(0,.ptr 50000 0),(1,.ty tI),(5,.ty .str),(6,.ty tI)],[(50000,.box tyDice)]⟩
def st_f22_1 (x1:Int)(x5:ByteArray)(x6:Int)(y50000:Dice):VS:=sh_f22_1.st ((),x1,x5,x6,()) (y50000,())
abbrev sh_f22_1_e0:Sh:=⟨[(5,.ty .str)],[(50000,.box tyDice)]⟩
def st_f22_1_e0 (x5:ByteArray)(y50000:Dice):VS:=sh_f22_1_e0.st (x5,()) (y50000,())
-- loop 1: (x1 : Int) (x5 : ByteArray) (x6 : Int) (y50000 : Dice); out: ('exit', 0) (x5 : ByteArray) (y50000 : Dice)
def L_f22_0:VS->Option (Bool×List (Bool×Exit×VS)):=mkL sh_f22_0 (fun x y=>(tb0 x.2.2.1 x.2.2.2.2.1 y.1)) (fun x y=>[(true,.exit 2,st_f22_0_e2 (x.2.1) ((tx0G x.2.2.2.2.1.toNat x.2.2.1 y.1).1) (x.2.2.2.1) ((tx0G x.2.2.2.2.1.toNat x.2.2.1 y.1).2))])
def L_f22_1:VS->Option (Bool×List (Bool×Exit×VS)):=mkL sh_f22_1 (fun x y=>(tb1 x.2.1 x.2.2.1 x.2.2.2.1 y.1)) (fun x y=>[(true,.exit 0,st_f22_1_e0 ((tx1G (txRec x.2.1) (txDep x.2.1) x.2.2.2.1.toNat x.2.2.1 y.1).1) ((tx1G (txRec x.2.1) (txDep x.2.1) x.2.2.2.1.toNat x.2.2.1 y.1).2))])
def g_f22:G:=⟨TYs,[],58,EL [(18,sp_f18),(22,sp_f22R),(32,sp_f32),(52,sp_f52)],keeps,(Ls [L_f22_0,L_f22_1]),IL [],RL []⟩
def b_f22_0 (x1:Int)(x5:ByteArray)(x6:Int)(x7:Int)(y50000:Dice):Option (Exit×VS):=
 br ((igt x7 0))
  (br ((wdGOk y50000 ([(ByteArray.mk #[97]),(ByteArray.mk #[115,101,114,118,101,114]),(ByteArray.mk #[98,45,49]),(ByteArray.mk #[120,58,121]),(ByteArray.mk #[34,113,32,114,34]),(ByteArray.mk #[34,34]),(ByteArray.mk #[34,97,92,34,98,34]),(ByteArray.mk #[43,118,52,33])])))
   (br (cCat x5 (dwdG y50000 ([(ByteArray.mk #[97]),(ByteArray.mk #[115,101,114,118,101,114]),(ByteArray.mk #[98,45,49]),(ByteArray.mk #[120,58,121]),(ByteArray.mk #[34,113,32,114,34]),(ByteArray.mk #[34,34]),(ByteArray.mk #[34,97,92,34,98,34]),(ByteArray.mk #[43,118,52,33])])))
    (br ((wdGOk (dwdGN y50000 ([(ByteArray.mk #[97]),(ByteArray.mk #[115,101,114,118,101,114]),(ByteArray.mk #[98,45,49]),(ByteArray.mk #[120,58,121]),(ByteArray.mk #[34,113,32,114,34]),(ByteArray.mk #[34,34]),(ByteArray.mk #[34,97,92,34,98,34]),(ByteArray.mk #[43,118,52,33])])) ([(ByteArray.mk #[32]),(ByteArray.mk #[32,32]),(ByteArray.mk #[10]),(ByteArray.mk #[32]),(ByteArray.mk #[])])))
     (br (cCat (scat x5 (dwdG y50000 ([(ByteArray.mk #[97]),(ByteArray.mk #[115,101,114,118,101,114]),(ByteArray.mk #[98,45,49]),(ByteArray.mk #[120,58,121]),(ByteArray.mk #[34,113,32,114,34]),(ByteArray.mk #[34,34]),(ByteArray.mk #[34,97,92,34,98,34]),(ByteArray.mk #[43,118,52,33])]))) (dwdG (dwdGN y50000 ([(ByteArray.mk #[97]),(ByteArray.mk #[115,101,114,118,101,114]),(ByteArray.mk #[98,45,49]),(ByteArray.mk #[120,58,121]),(ByteArray.mk #[34,113,32,114,34]),(ByteArray.mk #[34,34]),(ByteArray.mk #[34,97,92,34,98,34]),(ByteArray.mk #[43,118,52,33])])) ([(ByteArray.mk #[32]),(ByteArray.mk #[32,32]),(ByteArray.mk #[10]),(ByteArray.mk #[32]),(ByteArray.mk #[])])))
      (some (.normal,st_f22_0 x1 (scat (scat x5 (dwdG y50000 ([(ByteArray.mk #[97]),(ByteArray.mk #[115,101,114,118,101,114]),(ByteArray.mk #[98,45,49]),(ByteArray.mk #[120,58,121]),(ByteArray.mk #[34,113,32,114,34]),(ByteArray.mk #[34,34]),(ByteArray.mk #[34,97,92,34,98,34]),(ByteArray.mk #[43,118,52,33])]))) (dwdG (dwdGN y50000 ([(ByteArray.mk #[97]),(ByteArray.mk #[115,101,114,118,101,114]),(ByteArray.mk #[98,45,49]),(ByteArray.mk #[120,58,121]),(ByteArray.mk #[34,113,32,114,34]),(ByteArray.mk #[34,34]),(ByteArray.mk #[34,97,92,34,98,34]),(ByteArray.mk #[43,118,52,33])])) ([(ByteArray.mk #[32]),(ByteArray.mk #[32,32]),(ByteArray.mk #[10]),(ByteArray.mk #[32]),(ByteArray.mk #[])]))) x6 (isub .i64 x7 1) (dwdGN (dwdGN y50000 ([(ByteArray.mk #[97]),(ByteArray.mk #[115,101,114,118,101,114]),(ByteArray.mk #[98,45,49]),(ByteArray.mk #[120,58,121]),(ByteArray.mk #[34,113,32,114,34]),(ByteArray.mk #[34,34]),(ByteArray.mk #[34,97,92,34,98,34]),(ByteArray.mk #[43,118,52,33])])) ([(ByteArray.mk #[32]),(ByteArray.mk #[32,32]),(ByteArray.mk #[10]),(ByteArray.mk #[32]),(ByteArray.mk #[])]))))
      (none))
     (none))
    (none))
   (none))
  (some (.exit 2,st_f22_0_e2 x1 x5 x6 y50000))
noncomputable def lp_f22_0 (x1:Int)(x5:ByteArray)(x6:Int)(x7:Int)(y50000:Dice):Option (Exit×VS):=loopF (roundF g_f22 fg_f22_0 tb_f22_0) (st_f22_0 x1 x5 x6 x7 y50000)
noncomputable def n_f22_0 (x1:Int)(x5:ByteArray)(x6:Int)(x7:Int)(y50000:Dice):Option (Exit×VS):=
 br ((igt x7 0))
  (br ((wdGOk y50000 ([(ByteArray.mk #[97]),(ByteArray.mk #[115,101,114,118,101,114]),(ByteArray.mk #[98,45,49]),(ByteArray.mk #[120,58,121]),(ByteArray.mk #[34,113,32,114,34]),(ByteArray.mk #[34,34]),(ByteArray.mk #[34,97,92,34,98,34]),(ByteArray.mk #[43,118,52,33])])))
   (br (cCat x5 (dwdG y50000 ([(ByteArray.mk #[97]),(ByteArray.mk #[115,101,114,118,101,114]),(ByteArray.mk #[98,45,49]),(ByteArray.mk #[120,58,121]),(ByteArray.mk #[34,113,32,114,34]),(ByteArray.mk #[34,34]),(ByteArray.mk #[34,97,92,34,98,34]),(ByteArray.mk #[43,118,52,33])])))
    (br ((wdGOk (dwdGN y50000 ([(ByteArray.mk #[97]),(ByteArray.mk #[115,101,114,118,101,114]),(ByteArray.mk #[98,45,49]),(ByteArray.mk #[120,58,121]),(ByteArray.mk #[34,113,32,114,34]),(ByteArray.mk #[34,34]),(ByteArray.mk #[34,97,92,34,98,34]),(ByteArray.mk #[43,118,52,33])])) ([(ByteArray.mk #[32]),(ByteArray.mk #[32,32]),(ByteArray.mk #[10]),(ByteArray.mk #[32]),(ByteArray.mk #[])])))
     (br (cCat (scat x5 (dwdG y50000 ([(ByteArray.mk #[97]),(ByteArray.mk #[115,101,114,118,101,114]),(ByteArray.mk #[98,45,49]),(ByteArray.mk #[120,58,121]),(ByteArray.mk #[34,113,32,114,34]),(ByteArray.mk #[34,34]),(ByteArray.mk #[34,97,92,34,98,34]),(ByteArray.mk #[43,118,52,33])]))) (dwdG (dwdGN y50000 ([(ByteArray.mk #[97]),(ByteArray.mk #[115,101,114,118,101,114]),(ByteArray.mk #[98,45,49]),(ByteArray.mk #[120,58,121]),(ByteArray.mk #[34,113,32,114,34]),(ByteArray.mk #[34,34]),(ByteArray.mk #[34,97,92,34,98,34]),(ByteArray.mk #[43,118,52,33])])) ([(ByteArray.mk #[32]),(ByteArray.mk #[32,32]),(ByteArray.mk #[10]),(ByteArray.mk #[32]),(ByteArray.mk #[])])))
      (lp_f22_0 x1 (scat (scat x5 (dwdG y50000 ([(ByteArray.mk #[97]),(ByteArray.mk #[115,101,114,118,101,114]),(ByteArray.mk #[98,45,49]),(ByteArray.mk #[120,58,121]),(ByteArray.mk #[34,113,32,114,34]),(ByteArray.mk #[34,34]),(ByteArray.mk #[34,97,92,34,98,34]),(ByteArray.mk #[43,118,52,33])]))) (dwdG (dwdGN y50000 ([(ByteArray.mk #[97]),(ByteArray.mk #[115,101,114,118,101,114]),(ByteArray.mk #[98,45,49]),(ByteArray.mk #[120,58,121]),(ByteArray.mk #[34,113,32,114,34]),(ByteArray.mk #[34,34]),(ByteArray.mk #[34,97,92,34,98,34]),(ByteArray.mk #[43,118,52,33])])) ([(ByteArray.mk #[32]),(ByteArray.mk #[32,32]),(ByteArray.mk #[10]),(ByteArray.mk #[32]),(ByteArray.mk #[])]))) x6 (isub .i64 x7 1) (dwdGN (dwdGN y50000 ([(ByteArray.mk #[97]),(ByteArray.mk #[115,101,114,118,101,114]),(ByteArray.mk #[98,45,49]),(ByteArray.mk #[120,58,121]),(ByteArray.mk #[34,113,32,114,34]),(ByteArray.mk #[34,34]),(ByteArray.mk #[34,97,92,34,98,34]),(ByteArray.mk #[43,118,52,33])])) ([(ByteArray.mk #[32]),(ByteArray.mk #[32,32]),(ByteArray.mk #[10]),(ByteArray.mk #[32]),(ByteArray.mk #[])])))
      (none))
     (none))
    (none))
   (none))
  (some (.exit 2,st_f22_0_e2 x1 x5 x6 y50000))
def la_f22_0 (x1:Int)(x5:ByteArray)(x6:Int)(x7:Int)(y50000:Dice):Option (Exit×VS):=some (.exit 2,st_f22_0_e2 (x1) ((tx0G x7.toNat x5 y50000).1) (x6) ((tx0G x7.toNat x5 y50000).2))
theorem be_f22_0 (x1:Int)(x5:ByteArray)(x6:Int)(x7:Int)(y50000:Dice):roundF g_f22 fg_f22_0 tb_f22_0 (st_f22_0 x1 x5 x6 x7 y50000)=b_f22_0 x1 x5 x6 x7 y50000:=by kernel_rfl
theorem ln_f22_0 (x1:Int)(x5:ByteArray)(x6:Int)(x7:Int)(y50000:Dice):lp_f22_0 x1 x5 x6 x7 y50000=n_f22_0 x1 x5 x6 x7 y50000:=(loopF_nxt _ _).trans (by
 rw [be_f22_0]
 simp only [b_f22_0,n_f22_0,nxt_br,nxt_n,nxt_r,nxt_e,nxt_0]
 rfl)
def b_f22_1 (x1:Int)(x5:ByteArray)(x6:Int)(y50000:Dice):Option (Exit×VS):=
 br ((igt x6 0))
  (br ((wdGOk y50000 ([(ByteArray.mk #[]),(ByteArray.mk #[32]),(ByteArray.mk #[10]),(ByteArray.mk #[35,32,110,111,116,101,10]),(ByteArray.mk #[9])])))
   (br (cCat x5 (dwdG y50000 ([(ByteArray.mk #[]),(ByteArray.mk #[32]),(ByteArray.mk #[10]),(ByteArray.mk #[35,32,110,111,116,101,10]),(ByteArray.mk #[9])])))
    (br ((nextOk (dwdGN y50000 ([(ByteArray.mk #[]),(ByteArray.mk #[32]),(ByteArray.mk #[10]),(ByteArray.mk #[35,32,110,111,116,101,10]),(ByteArray.mk #[9])])) 3))
     (br ((tb0 (scat x5 (dwdG y50000 ([(ByteArray.mk #[]),(ByteArray.mk #[32]),(ByteArray.mk #[10]),(ByteArray.mk #[35,32,110,111,116,101,10]),(ByteArray.mk #[9])]))) (iadd .i64 1 (dval (dwdGN y50000 ([(ByteArray.mk #[]),(ByteArray.mk #[32]),(ByteArray.mk #[10]),(ByteArray.mk #[35,32,110,111,116,101,10]),(ByteArray.mk #[9])])) 3)) (dnext (dwdGN y50000 ([(ByteArray.mk #[]),(ByteArray.mk #[32]),(ByteArray.mk #[10]),(ByteArray.mk #[35,32,110,111,116,101,10]),(ByteArray.mk #[9])])) 3)))
      (br ((igt (x1) 0))
       (br ((oneOk ((tx0G (iadd .i64 1 (dval (dwdGN y50000 ([(ByteArray.mk #[]),(ByteArray.mk #[32]),(ByteArray.mk #[10]),(ByteArray.mk #[35,32,110,111,116,101,10]),(ByteArray.mk #[9])])) 3)).toNat (scat x5 (dwdG y50000 ([(ByteArray.mk #[]),(ByteArray.mk #[32]),(ByteArray.mk #[10]),(ByteArray.mk #[35,32,110,111,116,101,10]),(ByteArray.mk #[9])]))) (dnext (dwdGN y50000 ([(ByteArray.mk #[]),(ByteArray.mk #[32]),(ByteArray.mk #[10]),(ByteArray.mk #[35,32,110,111,116,101,10]),(ByteArray.mk #[9])])) 3)).2) 3))
        (br ((done ((tx0G (iadd .i64 1 (dval (dwdGN y50000 ([(ByteArray.mk #[]),(ByteArray.mk #[32]),(ByteArray.mk #[10]),(ByteArray.mk #[35,32,110,111,116,101,10]),(ByteArray.mk #[9])])) 3)).toNat (scat x5 (dwdG y50000 ([(ByteArray.mk #[]),(ByteArray.mk #[32]),(ByteArray.mk #[10]),(ByteArray.mk #[35,32,110,111,116,101,10]),(ByteArray.mk #[9])]))) (dnext (dwdGN y50000 ([(ByteArray.mk #[]),(ByteArray.mk #[32]),(ByteArray.mk #[10]),(ByteArray.mk #[35,32,110,111,116,101,10]),(ByteArray.mk #[9])])) 3)).2) 3))
         (br (cCat ((tx0G (iadd .i64 1 (dval (dwdGN y50000 ([(ByteArray.mk #[]),(ByteArray.mk #[32]),(ByteArray.mk #[10]),(ByteArray.mk #[35,32,110,111,116,101,10]),(ByteArray.mk #[9])])) 3)).toNat (scat x5 (dwdG y50000 ([(ByteArray.mk #[]),(ByteArray.mk #[32]),(ByteArray.mk #[10]),(ByteArray.mk #[35,32,110,111,116,101,10]),(ByteArray.mk #[9])]))) (dnext (dwdGN y50000 ([(ByteArray.mk #[]),(ByteArray.mk #[32]),(ByteArray.mk #[10]),(ByteArray.mk #[35,32,110,111,116,101,10]),(ByteArray.mk #[9])])) 3)).1) (ByteArray.mk #[123]))
          (br ((tx7S fuel (dnext ((tx0G (iadd .i64 1 (dval (dwdGN y50000 ([(ByteArray.mk #[]),(ByteArray.mk #[32]),(ByteArray.mk #[10]),(ByteArray.mk #[35,32,110,111,116,101,10]),(ByteArray.mk #[9])])) 3)).toNat (scat x5 (dwdG y50000 ([(ByteArray.mk #[]),(ByteArray.mk #[32]),(ByteArray.mk #[10]),(ByteArray.mk #[35,32,110,111,116,101,10]),(ByteArray.mk #[9])]))) (dnext (dwdGN y50000 ([(ByteArray.mk #[]),(ByteArray.mk #[32]),(ByteArray.mk #[10]),(ByteArray.mk #[35,32,110,111,116,101,10]),(ByteArray.mk #[9])])) 3)).2) 3) (isub .i64 (x1) 1)))
           (br (cCat (scat ((tx0G (iadd .i64 1 (dval (dwdGN y50000 ([(ByteArray.mk #[]),(ByteArray.mk #[32]),(ByteArray.mk #[10]),(ByteArray.mk #[35,32,110,111,116,101,10]),(ByteArray.mk #[9])])) 3)).toNat (scat x5 (dwdG y50000 ([(ByteArray.mk #[]),(ByteArray.mk #[32]),(ByteArray.mk #[10]),(ByteArray.mk #[35,32,110,111,116,101,10]),(ByteArray.mk #[9])]))) (dnext (dwdGN y50000 ([(ByteArray.mk #[]),(ByteArray.mk #[32]),(ByteArray.mk #[10]),(ByteArray.mk #[35,32,110,111,116,101,10]),(ByteArray.mk #[9])])) 3)).1) (ByteArray.mk #[123])) (tx7F (dnext ((tx0G (iadd .i64 1 (dval (dwdGN y50000 ([(ByteArray.mk #[]),(ByteArray.mk #[32]),(ByteArray.mk #[10]),(ByteArray.mk #[35,32,110,111,116,101,10]),(ByteArray.mk #[9])])) 3)).toNat (scat x5 (dwdG y50000 ([(ByteArray.mk #[]),(ByteArray.mk #[32]),(ByteArray.mk #[10]),(ByteArray.mk #[35,32,110,111,116,101,10]),(ByteArray.mk #[9])]))) (dnext (dwdGN y50000 ([(ByteArray.mk #[]),(ByteArray.mk #[32]),(ByteArray.mk #[10]),(ByteArray.mk #[35,32,110,111,116,101,10]),(ByteArray.mk #[9])])) 3)).2) 3) (isub .i64 (x1) 1)))
            (br ((wdGOk (tx7N (dnext ((tx0G (iadd .i64 1 (dval (dwdGN y50000 ([(ByteArray.mk #[]),(ByteArray.mk #[32]),(ByteArray.mk #[10]),(ByteArray.mk #[35,32,110,111,116,101,10]),(ByteArray.mk #[9])])) 3)).toNat (scat x5 (dwdG y50000 ([(ByteArray.mk #[]),(ByteArray.mk #[32]),(ByteArray.mk #[10]),(ByteArray.mk #[35,32,110,111,116,101,10]),(ByteArray.mk #[9])]))) (dnext (dwdGN y50000 ([(ByteArray.mk #[]),(ByteArray.mk #[32]),(ByteArray.mk #[10]),(ByteArray.mk #[35,32,110,111,116,101,10]),(ByteArray.mk #[9])])) 3)).2) 3) (isub .i64 (x1) 1)) ([(ByteArray.mk #[125]),(ByteArray.mk #[125]),(ByteArray.mk #[125,10]),(ByteArray.mk #[])])))
             (br (cCat (scat (scat ((tx0G (iadd .i64 1 (dval (dwdGN y50000 ([(ByteArray.mk #[]),(ByteArray.mk #[32]),(ByteArray.mk #[10]),(ByteArray.mk #[35,32,110,111,116,101,10]),(ByteArray.mk #[9])])) 3)).toNat (scat x5 (dwdG y50000 ([(ByteArray.mk #[]),(ByteArray.mk #[32]),(ByteArray.mk #[10]),(ByteArray.mk #[35,32,110,111,116,101,10]),(ByteArray.mk #[9])]))) (dnext (dwdGN y50000 ([(ByteArray.mk #[]),(ByteArray.mk #[32]),(ByteArray.mk #[10]),(ByteArray.mk #[35,32,110,111,116,101,10]),(ByteArray.mk #[9])])) 3)).1) (ByteArray.mk #[123])) (tx7F (dnext ((tx0G (iadd .i64 1 (dval (dwdGN y50000 ([(ByteArray.mk #[]),(ByteArray.mk #[32]),(ByteArray.mk #[10]),(ByteArray.mk #[35,32,110,111,116,101,10]),(ByteArray.mk #[9])])) 3)).toNat (scat x5 (dwdG y50000 ([(ByteArray.mk #[]),(ByteArray.mk #[32]),(ByteArray.mk #[10]),(ByteArray.mk #[35,32,110,111,116,101,10]),(ByteArray.mk #[9])]))) (dnext (dwdGN y50000 ([(ByteArray.mk #[]),(ByteArray.mk #[32]),(ByteArray.mk #[10]),(ByteArray.mk #[35,32,110,111,116,101,10]),(ByteArray.mk #[9])])) 3)).2) 3) (isub .i64 (x1) 1))) (dwdG (tx7N (dnext ((tx0G (iadd .i64 1 (dval (dwdGN y50000 ([(ByteArray.mk #[]),(ByteArray.mk #[32]),(ByteArray.mk #[10]),(ByteArray.mk #[35,32,110,111,116,101,10]),(ByteArray.mk #[9])])) 3)).toNat (scat x5 (dwdG y50000 ([(ByteArray.mk #[]),(ByteArray.mk #[32]),(ByteArray.mk #[10]),(ByteArray.mk #[35,32,110,111,116,101,10]),(ByteArray.mk #[9])]))) (dnext (dwdGN y50000 ([(ByteArray.mk #[]),(ByteArray.mk #[32]),(ByteArray.mk #[10]),(ByteArray.mk #[35,32,110,111,116,101,10]),(ByteArray.mk #[9])])) 3)).2) 3) (isub .i64 (x1) 1)) ([(ByteArray.mk #[125]),(ByteArray.mk #[125]),(ByteArray.mk #[125,10]),(ByteArray.mk #[])])))
              (some (.normal,st_f22_1 (x1) (scat (scat (scat ((tx0G (iadd .i64 1 (dval (dwdGN y50000 ([(ByteArray.mk #[]),(ByteArray.mk #[32]),(ByteArray.mk #[10]),(ByteArray.mk #[35,32,110,111,116,101,10]),(ByteArray.mk #[9])])) 3)).toNat (scat x5 (dwdG y50000 ([(ByteArray.mk #[]),(ByteArray.mk #[32]),(ByteArray.mk #[10]),(ByteArray.mk #[35,32,110,111,116,101,10]),(ByteArray.mk #[9])]))) (dnext (dwdGN y50000 ([(ByteArray.mk #[]),(ByteArray.mk #[32]),(ByteArray.mk #[10]),(ByteArray.mk #[35,32,110,111,116,101,10]),(ByteArray.mk #[9])])) 3)).1) (ByteArray.mk #[123])) (tx7F (dnext ((tx0G (iadd .i64 1 (dval (dwdGN y50000 ([(ByteArray.mk #[]),(ByteArray.mk #[32]),(ByteArray.mk #[10]),(ByteArray.mk #[35,32,110,111,116,101,10]),(ByteArray.mk #[9])])) 3)).toNat (scat x5 (dwdG y50000 ([(ByteArray.mk #[]),(ByteArray.mk #[32]),(ByteArray.mk #[10]),(ByteArray.mk #[35,32,110,111,116,101,10]),(ByteArray.mk #[9])]))) (dnext (dwdGN y50000 ([(ByteArray.mk #[]),(ByteArray.mk #[32]),(ByteArray.mk #[10]),(ByteArray.mk #[35,32,110,111,116,101,10]),(ByteArray.mk #[9])])) 3)).2) 3) (isub .i64 (x1) 1))) (dwdG (tx7N (dnext ((tx0G (iadd .i64 1 (dval (dwdGN y50000 ([(ByteArray.mk #[]),(ByteArray.mk #[32]),(ByteArray.mk #[10]),(ByteArray.mk #[35,32,110,111,116,101,10]),(ByteArray.mk #[9])])) 3)).toNat (scat x5 (dwdG y50000 ([(ByteArray.mk #[]),(ByteArray.mk #[32]),(ByteArray.mk #[10]),(ByteArray.mk #[35,32,110,111,116,101,10]),(ByteArray.mk #[9])]))) (dnext (dwdGN y50000 ([(ByteArray.mk #[]),(ByteArray.mk #[32]),(ByteArray.mk #[10]),(ByteArray.mk #[35,32,110,111,116,101,10]),(ByteArray.mk #[9])])) 3)).2) 3) (isub .i64 (x1) 1)) ([(ByteArray.mk #[125]),(ByteArray.mk #[125]),(ByteArray.mk #[125,10]),(ByteArray.mk #[])]))) (isub .i64 (x6) 1) (dwdGN (tx7N (dnext ((tx0G (iadd .i64 1 (dval (dwdGN y50000 ([(ByteArray.mk #[]),(ByteArray.mk #[32]),(ByteArray.mk #[10]),(ByteArray.mk #[35,32,110,111,116,101,10]),(ByteArray.mk #[9])])) 3)).toNat (scat x5 (dwdG y50000 ([(ByteArray.mk #[]),(ByteArray.mk #[32]),(ByteArray.mk #[10]),(ByteArray.mk #[35,32,110,111,116,101,10]),(ByteArray.mk #[9])]))) (dnext (dwdGN y50000 ([(ByteArray.mk #[]),(ByteArray.mk #[32]),(ByteArray.mk #[10]),(ByteArray.mk #[35,32,110,111,116,101,10]),(ByteArray.mk #[9])])) 3)).2) 3) (isub .i64 (x1) 1)) ([(ByteArray.mk #[125]),(ByteArray.mk #[125]),(ByteArray.mk #[125,10]),(ByteArray.mk #[])]))))
              (none))
             (none))
            (none))
           (none))
          (none))
         (br ((wdGOk (dnext ((tx0G (iadd .i64 1 (dval (dwdGN y50000 ([(ByteArray.mk #[]),(ByteArray.mk #[32]),(ByteArray.mk #[10]),(ByteArray.mk #[35,32,110,111,116,101,10]),(ByteArray.mk #[9])])) 3)).toNat (scat x5 (dwdG y50000 ([(ByteArray.mk #[]),(ByteArray.mk #[32]),(ByteArray.mk #[10]),(ByteArray.mk #[35,32,110,111,116,101,10]),(ByteArray.mk #[9])]))) (dnext (dwdGN y50000 ([(ByteArray.mk #[]),(ByteArray.mk #[32]),(ByteArray.mk #[10]),(ByteArray.mk #[35,32,110,111,116,101,10]),(ByteArray.mk #[9])])) 3)).2) 3) ([(ByteArray.mk #[59]),(ByteArray.mk #[59,10]),(ByteArray.mk #[59,32]),(ByteArray.mk #[])])))
          (br (cCat ((tx0G (iadd .i64 1 (dval (dwdGN y50000 ([(ByteArray.mk #[]),(ByteArray.mk #[32]),(ByteArray.mk #[10]),(ByteArray.mk #[35,32,110,111,116,101,10]),(ByteArray.mk #[9])])) 3)).toNat (scat x5 (dwdG y50000 ([(ByteArray.mk #[]),(ByteArray.mk #[32]),(ByteArray.mk #[10]),(ByteArray.mk #[35,32,110,111,116,101,10]),(ByteArray.mk #[9])]))) (dnext (dwdGN y50000 ([(ByteArray.mk #[]),(ByteArray.mk #[32]),(ByteArray.mk #[10]),(ByteArray.mk #[35,32,110,111,116,101,10]),(ByteArray.mk #[9])])) 3)).1) (dwdG (dnext ((tx0G (iadd .i64 1 (dval (dwdGN y50000 ([(ByteArray.mk #[]),(ByteArray.mk #[32]),(ByteArray.mk #[10]),(ByteArray.mk #[35,32,110,111,116,101,10]),(ByteArray.mk #[9])])) 3)).toNat (scat x5 (dwdG y50000 ([(ByteArray.mk #[]),(ByteArray.mk #[32]),(ByteArray.mk #[10]),(ByteArray.mk #[35,32,110,111,116,101,10]),(ByteArray.mk #[9])]))) (dnext (dwdGN y50000 ([(ByteArray.mk #[]),(ByteArray.mk #[32]),(ByteArray.mk #[10]),(ByteArray.mk #[35,32,110,111,116,101,10]),(ByteArray.mk #[9])])) 3)).2) 3) ([(ByteArray.mk #[59]),(ByteArray.mk #[59,10]),(ByteArray.mk #[59,32]),(ByteArray.mk #[])])))
           (some (.normal,st_f22_1 (x1) (scat ((tx0G (iadd .i64 1 (dval (dwdGN y50000 ([(ByteArray.mk #[]),(ByteArray.mk #[32]),(ByteArray.mk #[10]),(ByteArray.mk #[35,32,110,111,116,101,10]),(ByteArray.mk #[9])])) 3)).toNat (scat x5 (dwdG y50000 ([(ByteArray.mk #[]),(ByteArray.mk #[32]),(ByteArray.mk #[10]),(ByteArray.mk #[35,32,110,111,116,101,10]),(ByteArray.mk #[9])]))) (dnext (dwdGN y50000 ([(ByteArray.mk #[]),(ByteArray.mk #[32]),(ByteArray.mk #[10]),(ByteArray.mk #[35,32,110,111,116,101,10]),(ByteArray.mk #[9])])) 3)).1) (dwdG (dnext ((tx0G (iadd .i64 1 (dval (dwdGN y50000 ([(ByteArray.mk #[]),(ByteArray.mk #[32]),(ByteArray.mk #[10]),(ByteArray.mk #[35,32,110,111,116,101,10]),(ByteArray.mk #[9])])) 3)).toNat (scat x5 (dwdG y50000 ([(ByteArray.mk #[]),(ByteArray.mk #[32]),(ByteArray.mk #[10]),(ByteArray.mk #[35,32,110,111,116,101,10]),(ByteArray.mk #[9])]))) (dnext (dwdGN y50000 ([(ByteArray.mk #[]),(ByteArray.mk #[32]),(ByteArray.mk #[10]),(ByteArray.mk #[35,32,110,111,116,101,10]),(ByteArray.mk #[9])])) 3)).2) 3) ([(ByteArray.mk #[59]),(ByteArray.mk #[59,10]),(ByteArray.mk #[59,32]),(ByteArray.mk #[])]))) (isub .i64 (x6) 1) (dwdGN (dnext ((tx0G (iadd .i64 1 (dval (dwdGN y50000 ([(ByteArray.mk #[]),(ByteArray.mk #[32]),(ByteArray.mk #[10]),(ByteArray.mk #[35,32,110,111,116,101,10]),(ByteArray.mk #[9])])) 3)).toNat (scat x5 (dwdG y50000 ([(ByteArray.mk #[]),(ByteArray.mk #[32]),(ByteArray.mk #[10]),(ByteArray.mk #[35,32,110,111,116,101,10]),(ByteArray.mk #[9])]))) (dnext (dwdGN y50000 ([(ByteArray.mk #[]),(ByteArray.mk #[32]),(ByteArray.mk #[10]),(ByteArray.mk #[35,32,110,111,116,101,10]),(ByteArray.mk #[9])])) 3)).2) 3) ([(ByteArray.mk #[59]),(ByteArray.mk #[59,10]),(ByteArray.mk #[59,32]),(ByteArray.mk #[])]))))
           (none))
          (none)))
        (none))
       (br ((wdGOk ((tx0G (iadd .i64 1 (dval (dwdGN y50000 ([(ByteArray.mk #[]),(ByteArray.mk #[32]),(ByteArray.mk #[10]),(ByteArray.mk #[35,32,110,111,116,101,10]),(ByteArray.mk #[9])])) 3)).toNat (scat x5 (dwdG y50000 ([(ByteArray.mk #[]),(ByteArray.mk #[32]),(ByteArray.mk #[10]),(ByteArray.mk #[35,32,110,111,116,101,10]),(ByteArray.mk #[9])]))) (dnext (dwdGN y50000 ([(ByteArray.mk #[]),(ByteArray.mk #[32]),(ByteArray.mk #[10]),(ByteArray.mk #[35,32,110,111,116,101,10]),(ByteArray.mk #[9])])) 3)).2) ([(ByteArray.mk #[59]),(ByteArray.mk #[59,10]),(ByteArray.mk #[59,32]),(ByteArray.mk #[])])))
        (br (cCat ((tx0G (iadd .i64 1 (dval (dwdGN y50000 ([(ByteArray.mk #[]),(ByteArray.mk #[32]),(ByteArray.mk #[10]),(ByteArray.mk #[35,32,110,111,116,101,10]),(ByteArray.mk #[9])])) 3)).toNat (scat x5 (dwdG y50000 ([(ByteArray.mk #[]),(ByteArray.mk #[32]),(ByteArray.mk #[10]),(ByteArray.mk #[35,32,110,111,116,101,10]),(ByteArray.mk #[9])]))) (dnext (dwdGN y50000 ([(ByteArray.mk #[]),(ByteArray.mk #[32]),(ByteArray.mk #[10]),(ByteArray.mk #[35,32,110,111,116,101,10]),(ByteArray.mk #[9])])) 3)).1) (dwdG ((tx0G (iadd .i64 1 (dval (dwdGN y50000 ([(ByteArray.mk #[]),(ByteArray.mk #[32]),(ByteArray.mk #[10]),(ByteArray.mk #[35,32,110,111,116,101,10]),(ByteArray.mk #[9])])) 3)).toNat (scat x5 (dwdG y50000 ([(ByteArray.mk #[]),(ByteArray.mk #[32]),(ByteArray.mk #[10]),(ByteArray.mk #[35,32,110,111,116,101,10]),(ByteArray.mk #[9])]))) (dnext (dwdGN y50000 ([(ByteArray.mk #[]),(ByteArray.mk #[32]),(ByteArray.mk #[10]),(ByteArray.mk #[35,32,110,111,116,101,10]),(ByteArray.mk #[9])])) 3)).2) ([(ByteArray.mk #[59]),(ByteArray.mk #[59,10]),(ByteArray.mk #[59,32]),(ByteArray.mk #[])])))
         (some (.normal,st_f22_1 (x1) (scat ((tx0G (iadd .i64 1 (dval (dwdGN y50000 ([(ByteArray.mk #[]),(ByteArray.mk #[32]),(ByteArray.mk #[10]),(ByteArray.mk #[35,32,110,111,116,101,10]),(ByteArray.mk #[9])])) 3)).toNat (scat x5 (dwdG y50000 ([(ByteArray.mk #[]),(ByteArray.mk #[32]),(ByteArray.mk #[10]),(ByteArray.mk #[35,32,110,111,116,101,10]),(ByteArray.mk #[9])]))) (dnext (dwdGN y50000 ([(ByteArray.mk #[]),(ByteArray.mk #[32]),(ByteArray.mk #[10]),(ByteArray.mk #[35,32,110,111,116,101,10]),(ByteArray.mk #[9])])) 3)).1) (dwdG ((tx0G (iadd .i64 1 (dval (dwdGN y50000 ([(ByteArray.mk #[]),(ByteArray.mk #[32]),(ByteArray.mk #[10]),(ByteArray.mk #[35,32,110,111,116,101,10]),(ByteArray.mk #[9])])) 3)).toNat (scat x5 (dwdG y50000 ([(ByteArray.mk #[]),(ByteArray.mk #[32]),(ByteArray.mk #[10]),(ByteArray.mk #[35,32,110,111,116,101,10]),(ByteArray.mk #[9])]))) (dnext (dwdGN y50000 ([(ByteArray.mk #[]),(ByteArray.mk #[32]),(ByteArray.mk #[10]),(ByteArray.mk #[35,32,110,111,116,101,10]),(ByteArray.mk #[9])])) 3)).2) ([(ByteArray.mk #[59]),(ByteArray.mk #[59,10]),(ByteArray.mk #[59,32]),(ByteArray.mk #[])]))) (isub .i64 (x6) 1) (dwdGN ((tx0G (iadd .i64 1 (dval (dwdGN y50000 ([(ByteArray.mk #[]),(ByteArray.mk #[32]),(ByteArray.mk #[10]),(ByteArray.mk #[35,32,110,111,116,101,10]),(ByteArray.mk #[9])])) 3)).toNat (scat x5 (dwdG y50000 ([(ByteArray.mk #[]),(ByteArray.mk #[32]),(ByteArray.mk #[10]),(ByteArray.mk #[35,32,110,111,116,101,10]),(ByteArray.mk #[9])]))) (dnext (dwdGN y50000 ([(ByteArray.mk #[]),(ByteArray.mk #[32]),(ByteArray.mk #[10]),(ByteArray.mk #[35,32,110,111,116,101,10]),(ByteArray.mk #[9])])) 3)).2) ([(ByteArray.mk #[59]),(ByteArray.mk #[59,10]),(ByteArray.mk #[59,32]),(ByteArray.mk #[])]))))
         (none))
        (none)))
      (none))
     (none))
    (none))
   (none))
  (some (.exit 0,st_f22_1_e0 x5 y50000))
noncomputable def lp_f22_1 (x1:Int)(x5:ByteArray)(x6:Int)(y50000:Dice):Option (Exit×VS):=loopF (roundF g_f22 fg_f22_1 tb_f22_1) (st_f22_1 x1 x5 x6 y50000)
noncomputable def n_f22_1 (x1:Int)(x5:ByteArray)(x6:Int)(y50000:Dice):Option (Exit×VS):=
 br ((igt x6 0))
  (br ((wdGOk y50000 ([(ByteArray.mk #[]),(ByteArray.mk #[32]),(ByteArray.mk #[10]),(ByteArray.mk #[35,32,110,111,116,101,10]),(ByteArray.mk #[9])])))
   (br (cCat x5 (dwdG y50000 ([(ByteArray.mk #[]),(ByteArray.mk #[32]),(ByteArray.mk #[10]),(ByteArray.mk #[35,32,110,111,116,101,10]),(ByteArray.mk #[9])])))
    (br ((nextOk (dwdGN y50000 ([(ByteArray.mk #[]),(ByteArray.mk #[32]),(ByteArray.mk #[10]),(ByteArray.mk #[35,32,110,111,116,101,10]),(ByteArray.mk #[9])])) 3))
     (br ((tb0 (scat x5 (dwdG y50000 ([(ByteArray.mk #[]),(ByteArray.mk #[32]),(ByteArray.mk #[10]),(ByteArray.mk #[35,32,110,111,116,101,10]),(ByteArray.mk #[9])]))) (iadd .i64 1 (dval (dwdGN y50000 ([(ByteArray.mk #[]),(ByteArray.mk #[32]),(ByteArray.mk #[10]),(ByteArray.mk #[35,32,110,111,116,101,10]),(ByteArray.mk #[9])])) 3)) (dnext (dwdGN y50000 ([(ByteArray.mk #[]),(ByteArray.mk #[32]),(ByteArray.mk #[10]),(ByteArray.mk #[35,32,110,111,116,101,10]),(ByteArray.mk #[9])])) 3)))
      (br ((igt (x1) 0))
       (br ((oneOk ((tx0G (iadd .i64 1 (dval (dwdGN y50000 ([(ByteArray.mk #[]),(ByteArray.mk #[32]),(ByteArray.mk #[10]),(ByteArray.mk #[35,32,110,111,116,101,10]),(ByteArray.mk #[9])])) 3)).toNat (scat x5 (dwdG y50000 ([(ByteArray.mk #[]),(ByteArray.mk #[32]),(ByteArray.mk #[10]),(ByteArray.mk #[35,32,110,111,116,101,10]),(ByteArray.mk #[9])]))) (dnext (dwdGN y50000 ([(ByteArray.mk #[]),(ByteArray.mk #[32]),(ByteArray.mk #[10]),(ByteArray.mk #[35,32,110,111,116,101,10]),(ByteArray.mk #[9])])) 3)).2) 3))
        (br ((done ((tx0G (iadd .i64 1 (dval (dwdGN y50000 ([(ByteArray.mk #[]),(ByteArray.mk #[32]),(ByteArray.mk #[10]),(ByteArray.mk #[35,32,110,111,116,101,10]),(ByteArray.mk #[9])])) 3)).toNat (scat x5 (dwdG y50000 ([(ByteArray.mk #[]),(ByteArray.mk #[32]),(ByteArray.mk #[10]),(ByteArray.mk #[35,32,110,111,116,101,10]),(ByteArray.mk #[9])]))) (dnext (dwdGN y50000 ([(ByteArray.mk #[]),(ByteArray.mk #[32]),(ByteArray.mk #[10]),(ByteArray.mk #[35,32,110,111,116,101,10]),(ByteArray.mk #[9])])) 3)).2) 3))
         (br (cCat ((tx0G (iadd .i64 1 (dval (dwdGN y50000 ([(ByteArray.mk #[]),(ByteArray.mk #[32]),(ByteArray.mk #[10]),(ByteArray.mk #[35,32,110,111,116,101,10]),(ByteArray.mk #[9])])) 3)).toNat (scat x5 (dwdG y50000 ([(ByteArray.mk #[]),(ByteArray.mk #[32]),(ByteArray.mk #[10]),(ByteArray.mk #[35,32,110,111,116,101,10]),(ByteArray.mk #[9])]))) (dnext (dwdGN y50000 ([(ByteArray.mk #[]),(ByteArray.mk #[32]),(ByteArray.mk #[10]),(ByteArray.mk #[35,32,110,111,116,101,10]),(ByteArray.mk #[9])])) 3)).1) (ByteArray.mk #[123]))
          (br ((tx7S fuel (dnext ((tx0G (iadd .i64 1 (dval (dwdGN y50000 ([(ByteArray.mk #[]),(ByteArray.mk #[32]),(ByteArray.mk #[10]),(ByteArray.mk #[35,32,110,111,116,101,10]),(ByteArray.mk #[9])])) 3)).toNat (scat x5 (dwdG y50000 ([(ByteArray.mk #[]),(ByteArray.mk #[32]),(ByteArray.mk #[10]),(ByteArray.mk #[35,32,110,111,116,101,10]),(ByteArray.mk #[9])]))) (dnext (dwdGN y50000 ([(ByteArray.mk #[]),(ByteArray.mk #[32]),(ByteArray.mk #[10]),(ByteArray.mk #[35,32,110,111,116,101,10]),(ByteArray.mk #[9])])) 3)).2) 3) (isub .i64 (x1) 1)))
           (br (cCat (scat ((tx0G (iadd .i64 1 (dval (dwdGN y50000 ([(ByteArray.mk #[]),(ByteArray.mk #[32]),(ByteArray.mk #[10]),(ByteArray.mk #[35,32,110,111,116,101,10]),(ByteArray.mk #[9])])) 3)).toNat (scat x5 (dwdG y50000 ([(ByteArray.mk #[]),(ByteArray.mk #[32]),(ByteArray.mk #[10]),(ByteArray.mk #[35,32,110,111,116,101,10]),(ByteArray.mk #[9])]))) (dnext (dwdGN y50000 ([(ByteArray.mk #[]),(ByteArray.mk #[32]),(ByteArray.mk #[10]),(ByteArray.mk #[35,32,110,111,116,101,10]),(ByteArray.mk #[9])])) 3)).1) (ByteArray.mk #[123])) (tx7F (dnext ((tx0G (iadd .i64 1 (dval (dwdGN y50000 ([(ByteArray.mk #[]),(ByteArray.mk #[32]),(ByteArray.mk #[10]),(ByteArray.mk #[35,32,110,111,116,101,10]),(ByteArray.mk #[9])])) 3)).toNat (scat x5 (dwdG y50000 ([(ByteArray.mk #[]),(ByteArray.mk #[32]),(ByteArray.mk #[10]),(ByteArray.mk #[35,32,110,111,116,101,10]),(ByteArray.mk #[9])]))) (dnext (dwdGN y50000 ([(ByteArray.mk #[]),(ByteArray.mk #[32]),(ByteArray.mk #[10]),(ByteArray.mk #[35,32,110,111,116,101,10]),(ByteArray.mk #[9])])) 3)).2) 3) (isub .i64 (x1) 1)))
            (br ((wdGOk (tx7N (dnext ((tx0G (iadd .i64 1 (dval (dwdGN y50000 ([(ByteArray.mk #[]),(ByteArray.mk #[32]),(ByteArray.mk #[10]),(ByteArray.mk #[35,32,110,111,116,101,10]),(ByteArray.mk #[9])])) 3)).toNat (scat x5 (dwdG y50000 ([(ByteArray.mk #[]),(ByteArray.mk #[32]),(ByteArray.mk #[10]),(ByteArray.mk #[35,32,110,111,116,101,10]),(ByteArray.mk #[9])]))) (dnext (dwdGN y50000 ([(ByteArray.mk #[]),(ByteArray.mk #[32]),(ByteArray.mk #[10]),(ByteArray.mk #[35,32,110,111,116,101,10]),(ByteArray.mk #[9])])) 3)).2) 3) (isub .i64 (x1) 1)) ([(ByteArray.mk #[125]),(ByteArray.mk #[125]),(ByteArray.mk #[125,10]),(ByteArray.mk #[])])))
             (br (cCat (scat (scat ((tx0G (iadd .i64 1 (dval (dwdGN y50000 ([(ByteArray.mk #[]),(ByteArray.mk #[32]),(ByteArray.mk #[10]),(ByteArray.mk #[35,32,110,111,116,101,10]),(ByteArray.mk #[9])])) 3)).toNat (scat x5 (dwdG y50000 ([(ByteArray.mk #[]),(ByteArray.mk #[32]),(ByteArray.mk #[10]),(ByteArray.mk #[35,32,110,111,116,101,10]),(ByteArray.mk #[9])]))) (dnext (dwdGN y50000 ([(ByteArray.mk #[]),(ByteArray.mk #[32]),(ByteArray.mk #[10]),(ByteArray.mk #[35,32,110,111,116,101,10]),(ByteArray.mk #[9])])) 3)).1) (ByteArray.mk #[123])) (tx7F (dnext ((tx0G (iadd .i64 1 (dval (dwdGN y50000 ([(ByteArray.mk #[]),(ByteArray.mk #[32]),(ByteArray.mk #[10]),(ByteArray.mk #[35,32,110,111,116,101,10]),(ByteArray.mk #[9])])) 3)).toNat (scat x5 (dwdG y50000 ([(ByteArray.mk #[]),(ByteArray.mk #[32]),(ByteArray.mk #[10]),(ByteArray.mk #[35,32,110,111,116,101,10]),(ByteArray.mk #[9])]))) (dnext (dwdGN y50000 ([(ByteArray.mk #[]),(ByteArray.mk #[32]),(ByteArray.mk #[10]),(ByteArray.mk #[35,32,110,111,116,101,10]),(ByteArray.mk #[9])])) 3)).2) 3) (isub .i64 (x1) 1))) (dwdG (tx7N (dnext ((tx0G (iadd .i64 1 (dval (dwdGN y50000 ([(ByteArray.mk #[]),(ByteArray.mk #[32]),(ByteArray.mk #[10]),(ByteArray.mk #[35,32,110,111,116,101,10]),(ByteArray.mk #[9])])) 3)).toNat (scat x5 (dwdG y50000 ([(ByteArray.mk #[]),(ByteArray.mk #[32]),(ByteArray.mk #[10]),(ByteArray.mk #[35,32,110,111,116,101,10]),(ByteArray.mk #[9])]))) (dnext (dwdGN y50000 ([(ByteArray.mk #[]),(ByteArray.mk #[32]),(ByteArray.mk #[10]),(ByteArray.mk #[35,32,110,111,116,101,10]),(ByteArray.mk #[9])])) 3)).2) 3) (isub .i64 (x1) 1)) ([(ByteArray.mk #[125]),(ByteArray.mk #[125]),(ByteArray.mk #[125,10]),(ByteArray.mk #[])])))
              (lp_f22_1 (x1) (scat (scat (scat ((tx0G (iadd .i64 1 (dval (dwdGN y50000 ([(ByteArray.mk #[]),(ByteArray.mk #[32]),(ByteArray.mk #[10]),(ByteArray.mk #[35,32,110,111,116,101,10]),(ByteArray.mk #[9])])) 3)).toNat (scat x5 (dwdG y50000 ([(ByteArray.mk #[]),(ByteArray.mk #[32]),(ByteArray.mk #[10]),(ByteArray.mk #[35,32,110,111,116,101,10]),(ByteArray.mk #[9])]))) (dnext (dwdGN y50000 ([(ByteArray.mk #[]),(ByteArray.mk #[32]),(ByteArray.mk #[10]),(ByteArray.mk #[35,32,110,111,116,101,10]),(ByteArray.mk #[9])])) 3)).1) (ByteArray.mk #[123])) (tx7F (dnext ((tx0G (iadd .i64 1 (dval (dwdGN y50000 ([(ByteArray.mk #[]),(ByteArray.mk #[32]),(ByteArray.mk #[10]),(ByteArray.mk #[35,32,110,111,116,101,10]),(ByteArray.mk #[9])])) 3)).toNat (scat x5 (dwdG y50000 ([(ByteArray.mk #[]),(ByteArray.mk #[32]),(ByteArray.mk #[10]),(ByteArray.mk #[35,32,110,111,116,101,10]),(ByteArray.mk #[9])]))) (dnext (dwdGN y50000 ([(ByteArray.mk #[]),(ByteArray.mk #[32]),(ByteArray.mk #[10]),(ByteArray.mk #[35,32,110,111,116,101,10]),(ByteArray.mk #[9])])) 3)).2) 3) (isub .i64 (x1) 1))) (dwdG (tx7N (dnext ((tx0G (iadd .i64 1 (dval (dwdGN y50000 ([(ByteArray.mk #[]),(ByteArray.mk #[32]),(ByteArray.mk #[10]),(ByteArray.mk #[35,32,110,111,116,101,10]),(ByteArray.mk #[9])])) 3)).toNat (scat x5 (dwdG y50000 ([(ByteArray.mk #[]),(ByteArray.mk #[32]),(ByteArray.mk #[10]),(ByteArray.mk #[35,32,110,111,116,101,10]),(ByteArray.mk #[9])]))) (dnext (dwdGN y50000 ([(ByteArray.mk #[]),(ByteArray.mk #[32]),(ByteArray.mk #[10]),(ByteArray.mk #[35,32,110,111,116,101,10]),(ByteArray.mk #[9])])) 3)).2) 3) (isub .i64 (x1) 1)) ([(ByteArray.mk #[125]),(ByteArray.mk #[125]),(ByteArray.mk #[125,10]),(ByteArray.mk #[])]))) (isub .i64 (x6) 1) (dwdGN (tx7N (dnext ((tx0G (iadd .i64 1 (dval (dwdGN y50000 ([(ByteArray.mk #[]),(ByteArray.mk #[32]),(ByteArray.mk #[10]),(ByteArray.mk #[35,32,110,111,116,101,10]),(ByteArray.mk #[9])])) 3)).toNat (scat x5 (dwdG y50000 ([(ByteArray.mk #[]),(ByteArray.mk #[32]),(ByteArray.mk #[10]),(ByteArray.mk #[35,32,110,111,116,101,10]),(ByteArray.mk #[9])]))) (dnext (dwdGN y50000 ([(ByteArray.mk #[]),(ByteArray.mk #[32]),(ByteArray.mk #[10]),(ByteArray.mk #[35,32,110,111,116,101,10]),(ByteArray.mk #[9])])) 3)).2) 3) (isub .i64 (x1) 1)) ([(ByteArray.mk #[125]),(ByteArray.mk #[125]),(ByteArray.mk #[125,10]),(ByteArray.mk #[])])))
              (none))
             (none))
            (none))
           (none))
          (none))
         (br ((wdGOk (dnext ((tx0G (iadd .i64 1 (dval (dwdGN y50000 ([(ByteArray.mk #[]),(ByteArray.mk #[32]),(ByteArray.mk #[10]),(ByteArray.mk #[35,32,110,111,116,101,10]),(ByteArray.mk #[9])])) 3)).toNat (scat x5 (dwdG y50000 ([(ByteArray.mk #[]),(ByteArray.mk #[32]),(ByteArray.mk #[10]),(ByteArray.mk #[35,32,110,111,116,101,10]),(ByteArray.mk #[9])]))) (dnext (dwdGN y50000 ([(ByteArray.mk #[]),(ByteArray.mk #[32]),(ByteArray.mk #[10]),(ByteArray.mk #[35,32,110,111,116,101,10]),(ByteArray.mk #[9])])) 3)).2) 3) ([(ByteArray.mk #[59]),(ByteArray.mk #[59,10]),(ByteArray.mk #[59,32]),(ByteArray.mk #[])])))
          (br (cCat ((tx0G (iadd .i64 1 (dval (dwdGN y50000 ([(ByteArray.mk #[]),(ByteArray.mk #[32]),(ByteArray.mk #[10]),(ByteArray.mk #[35,32,110,111,116,101,10]),(ByteArray.mk #[9])])) 3)).toNat (scat x5 (dwdG y50000 ([(ByteArray.mk #[]),(ByteArray.mk #[32]),(ByteArray.mk #[10]),(ByteArray.mk #[35,32,110,111,116,101,10]),(ByteArray.mk #[9])]))) (dnext (dwdGN y50000 ([(ByteArray.mk #[]),(ByteArray.mk #[32]),(ByteArray.mk #[10]),(ByteArray.mk #[35,32,110,111,116,101,10]),(ByteArray.mk #[9])])) 3)).1) (dwdG (dnext ((tx0G (iadd .i64 1 (dval (dwdGN y50000 ([(ByteArray.mk #[]),(ByteArray.mk #[32]),(ByteArray.mk #[10]),(ByteArray.mk #[35,32,110,111,116,101,10]),(ByteArray.mk #[9])])) 3)).toNat (scat x5 (dwdG y50000 ([(ByteArray.mk #[]),(ByteArray.mk #[32]),(ByteArray.mk #[10]),(ByteArray.mk #[35,32,110,111,116,101,10]),(ByteArray.mk #[9])]))) (dnext (dwdGN y50000 ([(ByteArray.mk #[]),(ByteArray.mk #[32]),(ByteArray.mk #[10]),(ByteArray.mk #[35,32,110,111,116,101,10]),(ByteArray.mk #[9])])) 3)).2) 3) ([(ByteArray.mk #[59]),(ByteArray.mk #[59,10]),(ByteArray.mk #[59,32]),(ByteArray.mk #[])])))
           (lp_f22_1 (x1) (scat ((tx0G (iadd .i64 1 (dval (dwdGN y50000 ([(ByteArray.mk #[]),(ByteArray.mk #[32]),(ByteArray.mk #[10]),(ByteArray.mk #[35,32,110,111,116,101,10]),(ByteArray.mk #[9])])) 3)).toNat (scat x5 (dwdG y50000 ([(ByteArray.mk #[]),(ByteArray.mk #[32]),(ByteArray.mk #[10]),(ByteArray.mk #[35,32,110,111,116,101,10]),(ByteArray.mk #[9])]))) (dnext (dwdGN y50000 ([(ByteArray.mk #[]),(ByteArray.mk #[32]),(ByteArray.mk #[10]),(ByteArray.mk #[35,32,110,111,116,101,10]),(ByteArray.mk #[9])])) 3)).1) (dwdG (dnext ((tx0G (iadd .i64 1 (dval (dwdGN y50000 ([(ByteArray.mk #[]),(ByteArray.mk #[32]),(ByteArray.mk #[10]),(ByteArray.mk #[35,32,110,111,116,101,10]),(ByteArray.mk #[9])])) 3)).toNat (scat x5 (dwdG y50000 ([(ByteArray.mk #[]),(ByteArray.mk #[32]),(ByteArray.mk #[10]),(ByteArray.mk #[35,32,110,111,116,101,10]),(ByteArray.mk #[9])]))) (dnext (dwdGN y50000 ([(ByteArray.mk #[]),(ByteArray.mk #[32]),(ByteArray.mk #[10]),(ByteArray.mk #[35,32,110,111,116,101,10]),(ByteArray.mk #[9])])) 3)).2) 3) ([(ByteArray.mk #[59]),(ByteArray.mk #[59,10]),(ByteArray.mk #[59,32]),(ByteArray.mk #[])]))) (isub .i64 (x6) 1) (dwdGN (dnext ((tx0G (iadd .i64 1 (dval (dwdGN y50000 ([(ByteArray.mk #[]),(ByteArray.mk #[32]),(ByteArray.mk #[10]),(ByteArray.mk #[35,32,110,111,116,101,10]),(ByteArray.mk #[9])])) 3)).toNat (scat x5 (dwdG y50000 ([(ByteArray.mk #[]),(ByteArray.mk #[32]),(ByteArray.mk #[10]),(ByteArray.mk #[35,32,110,111,116,101,10]),(ByteArray.mk #[9])]))) (dnext (dwdGN y50000 ([(ByteArray.mk #[]),(ByteArray.mk #[32]),(ByteArray.mk #[10]),(ByteArray.mk #[35,32,110,111,116,101,10]),(ByteArray.mk #[9])])) 3)).2) 3) ([(ByteArray.mk #[59]),(ByteArray.mk #[59,10]),(ByteArray.mk #[59,32]),(ByteArray.mk #[])])))
           (none))
          (none)))
        (none))
       (br ((wdGOk ((tx0G (iadd .i64 1 (dval (dwdGN y50000 ([(ByteArray.mk #[]),(ByteArray.mk #[32]),(ByteArray.mk #[10]),(ByteArray.mk #[35,32,110,111,116,101,10]),(ByteArray.mk #[9])])) 3)).toNat (scat x5 (dwdG y50000 ([(ByteArray.mk #[]),(ByteArray.mk #[32]),(ByteArray.mk #[10]),(ByteArray.mk #[35,32,110,111,116,101,10]),(ByteArray.mk #[9])]))) (dnext (dwdGN y50000 ([(ByteArray.mk #[]),(ByteArray.mk #[32]),(ByteArray.mk #[10]),(ByteArray.mk #[35,32,110,111,116,101,10]),(ByteArray.mk #[9])])) 3)).2) ([(ByteArray.mk #[59]),(ByteArray.mk #[59,10]),(ByteArray.mk #[59,32]),(ByteArray.mk #[])])))
        (br (cCat ((tx0G (iadd .i64 1 (dval (dwdGN y50000 ([(ByteArray.mk #[]),(ByteArray.mk #[32]),(ByteArray.mk #[10]),(ByteArray.mk #[35,32,110,111,116,101,10]),(ByteArray.mk #[9])])) 3)).toNat (scat x5 (dwdG y50000 ([(ByteArray.mk #[]),(ByteArray.mk #[32]),(ByteArray.mk #[10]),(ByteArray.mk #[35,32,110,111,116,101,10]),(ByteArray.mk #[9])]))) (dnext (dwdGN y50000 ([(ByteArray.mk #[]),(ByteArray.mk #[32]),(ByteArray.mk #[10]),(ByteArray.mk #[35,32,110,111,116,101,10]),(ByteArray.mk #[9])])) 3)).1) (dwdG ((tx0G (iadd .i64 1 (dval (dwdGN y50000 ([(ByteArray.mk #[]),(ByteArray.mk #[32]),(ByteArray.mk #[10]),(ByteArray.mk #[35,32,110,111,116,101,10]),(ByteArray.mk #[9])])) 3)).toNat (scat x5 (dwdG y50000 ([(ByteArray.mk #[]),(ByteArray.mk #[32]),(ByteArray.mk #[10]),(ByteArray.mk #[35,32,110,111,116,101,10]),(ByteArray.mk #[9])]))) (dnext (dwdGN y50000 ([(ByteArray.mk #[]),(ByteArray.mk #[32]),(ByteArray.mk #[10]),(ByteArray.mk #[35,32,110,111,116,101,10]),(ByteArray.mk #[9])])) 3)).2) ([(ByteArray.mk #[59]),(ByteArray.mk #[59,10]),(ByteArray.mk #[59,32]),(ByteArray.mk #[])])))
         (lp_f22_1 (x1) (scat ((tx0G (iadd .i64 1 (dval (dwdGN y50000 ([(ByteArray.mk #[]),(ByteArray.mk #[32]),(ByteArray.mk #[10]),(ByteArray.mk #[35,32,110,111,116,101,10]),(ByteArray.mk #[9])])) 3)).toNat (scat x5 (dwdG y50000 ([(ByteArray.mk #[]),(ByteArray.mk #[32]),(ByteArray.mk #[10]),(ByteArray.mk #[35,32,110,111,116,101,10]),(ByteArray.mk #[9])]))) (dnext (dwdGN y50000 ([(ByteArray.mk #[]),(ByteArray.mk #[32]),(ByteArray.mk #[10]),(ByteArray.mk #[35,32,110,111,116,101,10]),(ByteArray.mk #[9])])) 3)).1) (dwdG ((tx0G (iadd .i64 1 (dval (dwdGN y50000 ([(ByteArray.mk #[]),(ByteArray.mk #[32]),(ByteArray.mk #[10]),(ByteArray.mk #[35,32,110,111,116,101,10]),(ByteArray.mk #[9])])) 3)).toNat (scat x5 (dwdG y50000 ([(ByteArray.mk #[]),(ByteArray.mk #[32]),(ByteArray.mk #[10]),(ByteArray.mk #[35,32,110,111,116,101,10]),(ByteArray.mk #[9])]))) (dnext (dwdGN y50000 ([(ByteArray.mk #[]),(ByteArray.mk #[32]),(ByteArray.mk #[10]),(ByteArray.mk #[35,32,110,111,116,101,10]),(ByteArray.mk #[9])])) 3)).2) ([(ByteArray.mk #[59]),(ByteArray.mk #[59,10]),(ByteArray.mk #[59,32]),(ByteArray.mk #[])]))) (isub .i64 (x6) 1) (dwdGN ((tx0G (iadd .i64 1 (dval (dwdGN y50000 ([(ByteArray.mk #[]),(ByteArray.mk #[32]),(ByteArray.mk #[10]),(ByteArray.mk #[35,32,110,111,116,101,10]),(ByteArray.mk #[9])])) 3)).toNat (scat x5 (dwdG y50000 ([(ByteArray.mk #[]),(ByteArray.mk #[32]),(ByteArray.mk #[10]),(ByteArray.mk #[35,32,110,111,116,101,10]),(ByteArray.mk #[9])]))) (dnext (dwdGN y50000 ([(ByteArray.mk #[]),(ByteArray.mk #[32]),(ByteArray.mk #[10]),(ByteArray.mk #[35,32,110,111,116,101,10]),(ByteArray.mk #[9])])) 3)).2) ([(ByteArray.mk #[59]),(ByteArray.mk #[59,10]),(ByteArray.mk #[59,32]),(ByteArray.mk #[])])))
         (none))
        (none)))
      (none))
     (none))
    (none))
   (none))
  (some (.exit 0,st_f22_1_e0 x5 y50000))
def la_f22_1 (x1:Int)(x5:ByteArray)(x6:Int)(y50000:Dice):Option (Exit×VS):=some (.exit 0,st_f22_1_e0 ((tx1G (txRec x1) (txDep x1) x6.toNat x5 y50000).1) ((tx1G (txRec x1) (txDep x1) x6.toNat x5 y50000).2))
theorem be_f22_1 (x1:Int)(x5:ByteArray)(x6:Int)(y50000:Dice):roundF g_f22 fg_f22_1 tb_f22_1 (st_f22_1 x1 x5 x6 y50000)=b_f22_1 x1 x5 x6 y50000:=by kernel_rfl
theorem ln_f22_1 (x1:Int)(x5:ByteArray)(x6:Int)(y50000:Dice):lp_f22_1 x1 x5 x6 y50000=n_f22_1 x1 x5 x6 y50000:=(loopF_nxt _ _).trans (by
 rw [be_f22_1]
 simp only [b_f22_1,n_f22_1,nxt_br,nxt_n,nxt_r,nxt_e,nxt_0]
 rfl)
def r_f22 (d0:Dice)(p1:Int):Option (V×List VO):=
 br ((nextOk d0 5))
  (br ((tb1 p1 (ByteArray.mk #[]) (dval d0 5) (dnext d0 5)))
   (some (.t .str ((tx1G (txRec p1) (txDep p1) (dval d0 5).toNat (ByteArray.mk #[]) (dnext d0 5)).1),[.box (.t tyDice ((tx1G (txRec p1) (txDep p1) (dval d0 5).toNat (ByteArray.mk #[]) (dnext d0 5)).2))]))
   (none))
  (none)
theorem e_f22 (d0:Dice)(p1:Int):runF g_f22 tc_f22 rv_f22 false [.ptr 50000 0,.t tI p1] [.box (.t tyDice d0)]=r_f22 d0 p1:=by kernel_rfl
theorem ok_f22:Option.map (trC Tryd.prog) Tryd.f22.body=some tc_f22.er:=by kernel_rfl
theorem rok_f22:trVs Tryd.prog Tryd.f22.results.toList=some (rv_f22.map Prod.fst):=by kernel_rfl
theorem gk_f22:GOk Tryd.prog g_f22:=gok_of _ (by
 intro p hp
 simp only [List.mem_cons,List.not_mem_nil,or_false] at hp
 rcases hp with rfl|rfl|rfl|rfl
 ·exact ⟨en_f18,ms_f18⟩
 ·exact ⟨en_f22R,ms_f22R⟩
 ·exact ⟨en_f32,ms_f32⟩
 ·exact ⟨en_f52,ms_f52⟩)
theorem l_f22_0 (x1:Int)(x5:ByteArray)(x6:Int)(x7:Int)(y50000:Dice)(h:(tb0 x5 x7 y50000)=true):lp_f22_0 x1 x5 x6 x7 y50000=la_f22_0 x1 x5 x6 x7 y50000:=by
 obtain ⟨h0,hh⟩:=Bool.and_eq_true_iff.1 h
 obtain ⟨h1,h2,h3⟩:=cP_of hh
 clear h hh
 obtain ⟨k,rfl⟩:=Int.eq_ofNat_of_zero_le h1
 rw [Int.toNat_natCast] at h3
 clear h1
 induction k generalizing x5 y50000 with
 |zero=>
  rw [ln_f22_0]
  rfl
 |succ k ih=>
  rw [ln_f22_0]
  have g1:=bz2 y50000
  have g2:=bz3 (dwdGN y50000 bw2)
  have k1:dOk (dwdGN y50000 bw2)=true:=dOk_next h0
  have k2:dOk (dwdGN (dwdGN y50000 bw2) bw3)=true:=dOk_next k1
  have i1:isub .i64 ((k+1:Nat):Int) 1=(k:Int):=by rw [isub_in (by omega)];omega
  unfold n_f22_0
  rw [show igt ((k+1:Nat):Int) 0=true from decide_eq_true (by omega),br_true]
  have z1:wdGOk y50000 bw2=true:=Bool.and_eq_true_iff.2 ⟨h0,by decide⟩
  have z2:wdGOk (dwdGN y50000 bw2) bw3=true:=Bool.and_eq_true_iff.2 ⟨k1,by decide⟩
  have e1:=sct x5 (dwdG y50000 bw2)
  have e2:=sct (scat x5 (dwdG y50000 bw2)) (dwdG (dwdGN y50000 bw2) bw3)
  have c1:cCat x5 (dwdG y50000 bw2)=true:=decide_eq_true (by omega)
  have c2:cCat (scat x5 (dwdG y50000 bw2)) (dwdG (dwdGN y50000 bw2) bw3)=true:=decide_eq_true (by omega)
  have ih:=ih (scat (scat x5 (dwdG y50000 bw2)) (dwdG (dwdGN y50000 bw2) bw3)) (dwdGN (dwdGN y50000 bw2) bw3) k2 (by omega) (by omega)
  refine brY z1 (brY c1 (brY z2 (brY c2 ?_)))
  rw [i1]
  exact ih
theorem l_f22_1 (x1:Int)(x5:ByteArray)(x6:Int)(y50000:Dice)(h:(tb1 x1 x5 x6 y50000)=true):lp_f22_1 x1 x5 x6 y50000=la_f22_1 x1 x5 x6 y50000:=by
 obtain ⟨h0,hh⟩:=Bool.and_eq_true_iff.1 h
 obtain ⟨h1,h2,h3,h4,h5,h6⟩:=cP_of hh
 clear h hh
 obtain ⟨i,rfl⟩:=Int.eq_ofNat_of_zero_le h4
 rw [Int.toNat_natCast] at h6
 clear h4
 induction i generalizing x5 y50000 with
 |zero=>
  rw [ln_f22_1]
  rfl
 |succ i ih=>
  have hv:=dval_lt (d:=dwdGN y50000 bw1) (n:=3) (by omega)
  have b1:=bz1 y50000
  have k1:dOk (dwdGN y50000 bw1)=true:=dOk_next h0
  have k2:dOk (dnext (dwdGN y50000 bw1) 3)=true:=dOk_next k1
  have i1:isub .i64 ((i+1:Nat):Int) 1=(i:Int):=by rw [isub_in (by omega)];omega
  have i2:iadd .i64 1 (dval (dwdGN y50000 bw1) 3)=1+dval (dwdGN y50000 bw1) 3:=iadd_in (by omega)
  have z1:wdGOk y50000 bw1=true:=Bool.and_eq_true_iff.2 ⟨h0,by decide⟩
  have e1:=sct x5 (dwdG y50000 bw1)
  have c1:cCat x5 (dwdG y50000 bw1)=true:=decide_eq_true (by omega)
  have z2:nextOk (dwdGN y50000 bw1) 3=true:=Bool.and_eq_true_iff.2 ⟨k1,by decide⟩
  have z3:tb0 (scat x5 (dwdG y50000 bw1)) (1+dval (dwdGN y50000 bw1) 3) (dnext (dwdGN y50000 bw1) 3)=true:=Bool.and_eq_true_iff.2 ⟨k2,cP_in ⟨by omega,by omega,by rw [e1];omega⟩⟩
  have hA:=txA_ok x5 y50000 h0
  have er:tx0G (1+dval (dwdGN y50000 bw1) 3).toNat (scat x5 (dwdG y50000 bw1)) (dnext (dwdGN y50000 bw1) 3)=txA x5 y50000:=rfl
  have la:la_f22_1 x1 x5 ((i+1:Nat):Int) y50000=la_f22_1 x1 (txB (txRec x1) (txDep x1) (txA x5 y50000)).1 (i:Int) (txB (txRec x1) (txDep x1) (txA x5 y50000)).2:=by
   unfold la_f22_1
   rw [Int.toNat_natCast,Int.toNat_natCast]
   rfl
  rw [la,ln_f22_1]
  unfold n_f22_1
  rw [show igt ((i+1:Nat):Int) 0=true from decide_eq_true (by omega),br_true]
  refine brY z1 (brY c1 (brY z2 ?_))
  simp only [i2,er,i1]
  refine brY z3 ?_
  obtain ⟨a1,a2⟩:=hA
  generalize txA x5 y50000=r at a1 a2
  have fin: ∀ (s:ByteArray) (d:Dice),dOk d=true->s.size<=r.1.size+20003->lp_f22_1 x1 s (i:Int) d=la_f22_1 x1 s (i:Int) d:=fun s d g1 g2=>ih s d g1 (by omega) (by rw [Nat.succ_mul] at h6;omega)
  cases hdp:igt x1 0 with
  |false=>
   rw [br_false]
   have b5:=bz5 r.2
   have hc:cCat r.1 (dwdG r.2 bw5)=true:=decide_eq_true (by omega)
   refine brY (Bool.and_eq_true_iff.2 ⟨a2,by decide⟩) (brY hc ?_)
   have e:txB (txRec x1) (txDep x1) r=(scat r.1 (dwdG r.2 bw5),dwdGN r.2 bw5):=by
    unfold txB txDep
    rw [hdp]
    rfl
   rw [e]
   exact fin _ _ (show dOk (dwdGN r.2 bw5)=true from dOk_next a2) (by show (scat r.1 (dwdG r.2 bw5)).size<=_;rw [sct];omega)
  |true=>
   rw [br_true]
   have hx1:0<x1:=of_decide_eq_true hdp
   have i3:isub .i64 x1 1=x1-1:=isub_in (by omega)
   have k3:dOk (dnext r.2 3)=true:=dOk_next a2
   refine brY (Bool.and_eq_true_iff.2 ⟨Bool.and_eq_true_iff.2 ⟨a2,by decide⟩,by decide⟩) ?_
   cases hdn:done r.2 3 with
   |false=>
    rw [br_false]
    have b5:=bz5 (dnext r.2 3)
    have hc:cCat r.1 (dwdG (dnext r.2 3) bw5)=true:=decide_eq_true (by omega)
    refine brY (Bool.and_eq_true_iff.2 ⟨k3,by decide⟩) (brY hc ?_)
    have e:txB (txRec x1) (txDep x1) r=(scat r.1 (dwdG (dnext r.2 3) bw5),dwdGN (dnext r.2 3) bw5):=by
     unfold txB txDep
     rw [hdp,hdn]
     rfl
    rw [e]
    exact fin _ _ (show dOk (dwdGN (dnext r.2 3) bw5)=true from dOk_next k3) (by show (scat r.1 (dwdG (dnext r.2 3) bw5)).size<=_;rw [sct];omega)
   |true=>
    rw [br_true,i3]
    have hrec: ∀ d,txRec x1 d=txG (x1-1).toNat d:=fun d=>by
     unfold txRec
     rw [if_neg (by omega),show x1.toNat-1=(x1-1).toNat by omega]
    obtain ⟨q1,q2⟩:=txG_ok (x1-1).toNat (dnext r.2 3) k3
    have q3:=Bn_le (x1-1).toNat (by omega)
    have e7:(ByteArray.mk #[123]).size=1:=rfl
    have s1:=sct r.1 (ByteArray.mk #[123])
    have hc1:cCat r.1 (ByteArray.mk #[123])=true:=decide_eq_true (by omega)
    have hts:tx7S fuel (dnext r.2 3) (x1-1)=true:=by
     cases hfu:fuel with
     |zero=>omega
     |succ k=>exact Bool.and_eq_true_iff.2 ⟨k3,cP_in ⟨by omega,by omega,by omega⟩⟩
    have b4:=bz4 (txG (x1-1).toNat (dnext r.2 3)).2
    have e:txB (txRec x1) (txDep x1) r=(scat (scat (scat r.1 (ByteArray.mk #[123])) (txG (x1-1).toNat (dnext r.2 3)).1) (dwdG (txG (x1-1).toNat (dnext r.2 3)).2 bw4),dwdGN (txG (x1-1).toNat (dnext r.2 3)).2 bw4):=by
     unfold txB txDep
     rw [hdp,hdn,hrec]
     rfl
    have s2:=sct (scat r.1 (ByteArray.mk #[123])) (txG (x1-1).toNat (dnext r.2 3)).1
    have hc2:cCat (scat r.1 (ByteArray.mk #[123])) (tx7F (dnext r.2 3) (x1-1))=true:=decide_eq_true (by
     show (scat r.1 (ByteArray.mk #[123])).size+(txG (x1-1).toNat (dnext r.2 3)).1.size<=_
     omega)
    have hc3:cCat (scat (scat r.1 (ByteArray.mk #[123])) (tx7F (dnext r.2 3) (x1-1))) (dwdG (tx7N (dnext r.2 3) (x1-1)) bw4)=true:=decide_eq_true (by
     show (scat (scat r.1 (ByteArray.mk #[123])) (txG (x1-1).toNat (dnext r.2 3)).1).size+(dwdG (txG (x1-1).toNat (dnext r.2 3)).2 bw4).size<=_
     omega)
    refine brY hc1 (brY hts (brY hc2 (brY (Bool.and_eq_true_iff.2 ⟨q2,by decide⟩) (brY hc3 ?_))))
    rw [e]
    exact fin _ _ (show dOk (dwdGN (txG (x1-1).toNat (dnext r.2 3)).2 bw4)=true from dOk_next q2) (by show (scat (scat (scat r.1 (ByteArray.mk #[123])) (txG (x1-1).toNat (dnext r.2 3)).1) (dwdG (txG (x1-1).toNat (dnext r.2 3)).2 bw4)).size<=_;rw [sct];omega)
theorem lo_f22_0: ∀ S l p,g_f22.L 0 (fgt fg_f22_0 S)=some (true,l)->pickA l=some p->loopF (roundF g_f22 fg_f22_0 tb_f22_0) S=some p:=
 lok_of (s:=sh_f22_0) ⟨by decide,by decide⟩ (by kernel_rfl) fun x y hok p hp=>by
 simp only [pickA_br,pickA_one] at hp
 exact (l_f22_0 x.2.1 x.2.2.1 x.2.2.2.1 x.2.2.2.2.1 y.1 (by simpa using hok)).trans hp
theorem lo_f22_1: ∀ S l p,g_f22.L 1 (fgt fg_f22_1 S)=some (true,l)->pickA l=some p->loopF (roundF g_f22 fg_f22_1 tb_f22_1) S=some p:=
 lok_of (s:=sh_f22_1) ⟨by decide,by decide⟩ (by kernel_rfl) fun x y hok p hp=>by
 simp only [pickA_br,pickA_one] at hp
 exact (l_f22_1 x.2.1 x.2.2.1 x.2.2.2.1 y.1 (by simpa using hok)).trans hp
theorem lk_f22:tc_f22.lok g_f22:=by
 repeat (first|exact trivial|exact lo_f22_0|exact lo_f22_1|refine ⟨?_, ?_⟩)
theorem s_f22 (d:Dice)(n:Int)(h:tx7S (fuel+1) d n=true):r_f22 d n=some (.t .str (tx7F d n),[.box (.t tyDice (tx7N d n))]):=by
 obtain ⟨h1,h2⟩:=Bool.and_eq_true_iff.1 h
 obtain ⟨h2,h3,h4⟩:=cP_of h2
 have hv:=dval_lt (d:=d) (n:=5) (by omega)
 unfold r_f22
 refine brY (Bool.and_eq_true_iff.2 ⟨h1,by decide⟩) (brY (Bool.and_eq_true_iff.2 ⟨dOk_next h1,cP_in ⟨h2,h3,h4,by omega,by omega, ?_⟩⟩) ?_)
 ·show 0+(dval d 5).toNat*20034<=1000000
  have:(dval d 5).toNat<=4:=by omega
  have:=Nat.mul_le_mul_right 20034 this
  omega
 ·have e:tx1G (txRec n) (txDep n) (dval d 5).toNat (ByteArray.mk #[]) (dnext d 5)=txG n.toNat d:=by
   obtain ⟨k,rfl⟩:=Int.eq_ofNat_of_zero_le h2
   rw [Int.toNat_natCast]
   cases k with
   |zero=>rfl
   |succ k=>
    have e1:txRec ((k+1:Nat):Int)=txG k:=by
     unfold txRec
     rw [Int.toNat_natCast,if_neg (Nat.succ_ne_zero k),Nat.add_sub_cancel]
    have e2:txDep ((k+1:Nat):Int)=true:=decide_eq_true (by omega)
    rw [e1,e2]
    rfl
  rw [e]
  rfl
theorem mr_f22:Meets Tryd.prog 22 (runF g_f22 tc_f22 rv_f22 false):=by
 obtain ⟨c,hc,hi⟩:=Option.map_eq_some_iff.1 ok_f22
 exact meets_of (by decide) Tryd.func22 hc hi Tryd.ntmps22 rok_f22 gk_f22 lk_f22 mixed
end
theorem ma_law07_text: ∀ N:Nat,Meets Tryd.prog 22 (strip (@sp_f22R ⟨N⟩))
 |0=>meets_zeroP fun d x=>by first|rfl|simp [tx7S]
 |N+1=>by
  letI:Fuel:=⟨N⟩
  haveI:Nonempty (PLift (Meets Tryd.prog 22 (strip sp_f22R))):=⟨⟨ma_law07_text N⟩⟩
  exact meets_specP mr_f22 rfl fun d x hok=>(e_f22 d x.1).trans (s_f22 d x.1 hok)
def sp_f22:Ent:=specP tyDice (.pr tI .nil) (fun d x=>(tx7Ok d x.1)) (fun d x=>(.t .str (tx7F d x.1))) (fun d x=>(tx7N d x.1))
theorem ms_f22:Meets Tryd.prog 22 (strip sp_f22):=meets_fuelP ma_law07_text fun d x hok=>fuel_law07_text d x.1 hok
end
end Go.Proofs.YtkkoedniahnneaaDoor.K
