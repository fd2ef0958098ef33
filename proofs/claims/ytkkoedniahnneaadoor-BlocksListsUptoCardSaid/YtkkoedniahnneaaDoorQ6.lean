import Derived.Test.YtkkoedniahnneaaDoorQ5
import Derived.Test.YtkkoedniahnneaaDoorQ3
import Derived.Test.YtkkoedniahnneaaDoorRows
set_option linter.unusedSimpArgs false
set_option linter.unusedVariables false
namespace Go.Proofs.YtkkoedniahnneaaDoor.K
open Go.RowKit Go.Shelf
attribute [local go_sem ↓] Go.wp_at_zero Go.wp_at_succ
noncomputable section
set_option linter.unusedSectionVars false
def pnO (x:BlkT)(n:Nat):List Int:=(indL n++wdsL x.1)++(bif !x.2.1 then [59,10] else ([32,123,10]++(pnT (x.2.2.1.map Blk.un) (n+1)++(indL n++[125,10]))))
theorem pnT_app: ∀ (a b:List BlkT) (n:Nat),pnT (a++b) n=pnT a n++pnT b n
 | [],_,_=>rfl
 |x::a,b,n=>by
  rw [List.cons_append,prT_cons,prT_cons,pnT_app a b n]
  simp only [List.append_assoc]
theorem pnT_one (x:BlkT)(n:Nat):pnT [x] n=pnO x n:=by
 rw [prT_cons]
 show pnO x n++[]=_
 rw [List.append_nil]
theorem pnT_snoc {l:List BlkT}{k:Nat}{x:BlkT}(h:l[k]? = some x)(n:Nat):pnT (l.take (k+1)) n=pnT (l.take k) n++pnO x n:=by
 rw [take_snoc h,pnT_app,pnT_one]
theorem pnT_le (l:List BlkT)(k n:Nat):(pnT (l.take k) n).length<=(pnT l n).length:=by
 conv=>rhs;rw [←List.take_append_drop k l,pnT_app,List.length_append]
 omega
theorem wds_snoc {ws:List ByteArray}{j:Nat}{s:ByteArray}(h:ws[j]? = some s):wdsL (ws.take (j+1))=wdsL (ws.take j)++((if j=0 then [] else [32])++bytesL (qtF s)):=by
 rw [take_snoc h]
 cases ws with
 |nil=>simp at h
 |cons w r=>
  cases j with
  |zero=>
   simp only [List.take_zero,List.nil_append]
   show bytesL (qtF s)++[]=[]++([]++bytesL (qtF s))
   rw [List.append_nil,List.nil_append,List.nil_append]
  |succ j=>
   rw [List.take_succ_cons,List.cons_append]
   show bytesL (qtF w)++wdsT (r.take j++[s])=(bytesL (qtF w)++wdsT (r.take j))++_
   unfold wdsT
   rw [List.flatMap_append,if_neg (Nat.succ_ne_zero j),List.append_assoc]
   simp
theorem wds_le (ws:List ByteArray)(j:Nat):(wdsL (ws.take j)).length<=(wdsL ws).length:=by
 cases ws with
 |nil=>simp
 |cons w r=>
  cases j with
  |zero=>exact Nat.zero_le _
  |succ j=>
   rw [List.take_succ_cons]
   show (bytesL (qtF w)++wdsT (r.take j)).length<=(bytesL (qtF w)++wdsT r).length
   conv=>rhs;rw [←List.take_append_drop j r]
   unfold wdsT
   rw [List.flatMap_append,List.length_append,List.length_append,List.length_append]
   omega
theorem wd_len {ws:List ByteArray}{j:Nat}{s:ByteArray}(h:ws[j]? = some s):(wdsL (ws.take j)).length+(qtF s).size+1<=(wdsL ws).length+1/\(qtF s).size<=(wdsL ws).length:=by
 have h1:=wds_le ws (j+1)
 rw [wds_snoc h,List.length_append,List.length_append,bytesG_len] at h1
 omega
theorem pnO_len {l:List BlkT}{k:Nat}{x:BlkT}(h:l[k]? = some x)(n:Nat):(pnT (l.take k) n).length+(pnO x n).length<=(pnT l n).length:=by
 have h1:=pnT_le l (k+1) n
 rw [pnT_snoc h,List.length_append] at h1
 exact h1
theorem b32:bytesL (ByteArray.mk #[32])=[32]:=by kernel_rfl
theorem b59:bytesL (ByteArray.mk #[59,10])=[59,10]:=by kernel_rfl
theorem b123:bytesL (ByteArray.mk #[32,123,10])=[32,123,10]:=by kernel_rfl
theorem b125:bytesL (ByteArray.mk #[125,10])=[125,10]:=by kernel_rfl
theorem wds_0 {ws:List ByteArray}{s:ByteArray}(h:wdsL (ws.take (0+1))=wdsL (ws.take 0)++((if 0=0 then [] else [32])++bytesL (qtF s)))(M:List Int):M++wdsL (ws.take 1)=(M++wdsL (ws.take 0))++bytesL (qtF s):=by
 rw [show (1:Nat)=0+1 from rfl,h,if_pos rfl,List.nil_append,List.append_assoc]
theorem wds_1 {ws:List ByteArray}{s:ByteArray}{j:Nat}(h:wdsL (ws.take (j+1))=wdsL (ws.take j)++((if j=0 then [] else [32])++bytesL (qtF s)))(hj: ¬ j=0)(M:List Int):M++wdsL (ws.take (j+1))=((M++wdsL (ws.take j))++bytesL (ByteArray.mk #[32]))++bytesL (qtF s):=by
 rw [h,if_neg hj,b32]
 simp only [List.append_assoc]
theorem fin_59 {T L1:List Int}{x:BlkT}{n:Nat}(h:T=L1++pnO x n)(h2:pnO x n=(indL n++wdsL x.1)++(bif !false then [59,10] else ([32,123,10]++(pnT (x.2.2.1.map Blk.un) (n+1)++(indL n++[125,10]))))):T=((L1++indL n)++wdsL x.1)++bytesL (ByteArray.mk #[59,10]):=by
 rw [h,h2,b59]
 simp only [Bool.not_false,cond_true,List.append_assoc]
theorem fin_125 {T L1:List Int}{x:BlkT}{n:Nat}{t:ByteArray}(h:T=L1++pnO x n)(h2:pnO x n=(indL n++wdsL x.1)++(bif !true then [59,10] else ([32,123,10]++(pnT (x.2.2.1.map Blk.un) (n+1)++(indL n++[125,10])))))(ht:bytesL t=indL n):
  T=((((L1++indL n)++wdsL x.1)++bytesL (ByteArray.mk #[32,123,10]))++pnT (x.2.2.1.map Blk.un) (n+1))++bytesL (t++ByteArray.mk #[125,10]):=by
 have e:bytesL (t++ByteArray.mk #[125,10])=bytesL t++bytesL (ByteArray.mk #[125,10]):=by
  rw [bytesL_bl,bytesL_bl,bytesL_bl,bl_app,List.map_append]
 rw [h,h2,b123,e,ht,b125]
 simp only [Bool.not_true,cond_false,List.append_assoc]
def PrOK (N:Nat):Prop:= ∀ (l:List BlkT) (n:Nat) (L:List Int) (bb:Nat) (w0 w:World) (X0:Nat->Nat->Prop) (sv:Value),okN N l=true->n+N<=1000001->C X0 w0 nowhere (.sl l.length (l.flatMap tyBlkT.cells)) sv->w0.heap.size<=bb->Below w0.heap.size w0 w->BI w bb L→
 L.length+(pnT l n).length<=50000000000->Calls Tryd.prog 54 #[.pointer (some ⟨bb,0,none⟩),sv,.int .i64 n] w fun e w'=>e= .returned (.tuple #[])/\BI w' bb (L++pnT l n)/\Below bb w w'
theorem c_below {X0:Nat->Nat->Prop}{w0 w:World}{d:D}{u:Value}(h:C X0 w0 nowhere d u)(hb:Below w0.heap.size w0 w)(hr:d.refs=[]):C X0 w nowhere d u:=
 C.ext0 ⟨hb.size,fun g o hg hx=>⟨hx,World.cell?_of_block (hb.block g hg)⟩⟩ d u (by rw [hr];simp) h
set_option maxHeartbeats 4000000 in
theorem print_any' (N:Nat)(IH:PrOK N):PrOK (N+1):=by
 intro l n L bb w0 w X0 sv hok hn hC hbb hbel hBI hlen
 obtain ⟨g1,g2,g3⟩:=okN_p hok
 have hsv: ∃ A c,sv= .slice A l.length c:=by simp only [C] at hC;obtain ⟨A,c,rfl,_⟩:=hC;exact ⟨_,_,rfl⟩
 obtain ⟨A,c,rfl⟩:=hsv
 have HC:=Lib.hid hC
 have HBB:=Lib.hid hbb
 have HBEL:=Lib.hid hbel
 have HBI:=Lib.hid hBI
 have HLEN:=Lib.hid hlen
 have HG3:=Lib.hid g3
 have HIH:=Lib.hid IH
 have HNN:=Lib.hid hn
 clear hC hbb hbel hBI hlen g3 IH hok g2 hn
 go_enter Tryd.func54,Tryd.ntmps54
 go_wp2_with (go_at_call 96;refine (rep_calls n _ (by have:=HNN.out;omega)).mono ?_;rintro e w1 ⟨t,rfl,ht,hts,hb1⟩;have HT:=Lib.hid ht;have HTS:=Lib.hid hts;have HB1:=Lib.hid hb1;clear ht hts hb1)
 go_loopw [15] (fun iv wr=> ∃ k:Nat,k<=l.length/\iv= .int .i64 k/\Hid (BI wr bb (L++pnT (l.take k) n))/\Hid (Below bb w wr)) (fun iv _=>l.length-(intOf iv).toNat)
 case atStart=>exact ⟨0,Nat.zero_le _,rfl,Lib.hid (by rw [List.take_zero];show BI w1 bb (L++[]);rw [List.append_nil];exact HBI.out.below HB1.out),Lib.hid (HB1.out.mono (Nat.le_of_lt HBI.out.lt))⟩
 case round=>
  obtain ⟨k,hk,rfl,HR,HW⟩:=hrel
  by_cases hlt:k<l.length
  ·obtain ⟨x,hx⟩: ∃ x,l[k]? = some x:=⟨_,List.getElem?_eq_getElem hlt⟩
   have HWW:Hid (Below w0.heap.size w0 wr):=Lib.hid (HBEL.out.trans (HW.out.mono HBB.out))
   obtain ⟨g,off,c',Aw,nw,cw,Ai,ni,ci,e1,hg,c0,c1,c2,c3,hCw,hCi⟩:=row_at HC.out hx
   injection e1 with e2 _ e3
   subst e2 e3
   have hww:=HWW.out
   replace c0:=(hww.cell (p:=⟨g,off+k*4,none⟩) hg).trans c0
   replace c1:=(hww.cell (p:=⟨g,off+k*4+1,none⟩) hg).trans c1
   replace c2:=(hww.cell (p:=⟨g,off+k*4+2,none⟩) hg).trans c2
   replace c3:=(hww.cell (p:=⟨g,off+k*4+3,none⟩) hg).trans c3
   obtain ⟨hnw,hwd⟩:=wd_at hCw
   subst hnw
   have HX:=Lib.hid hx
   have HWD:=Lib.hid hwd
   have HCI:=Lib.hid hCi
   have hti:((k:Nat):Int)<((l.length:Nat):Int):=by omega
   have HPL:=Lib.hid (pnO_len hx n)
   have HGX:=Lib.hid (HG3.out x (List.mem_of_getElem? hx))
   have hm1:x.1.length<=100000:=HGX.out.1
   obtain ⟨xo,hxo⟩: ∃ o,o=x.2.1:=⟨_,rfl⟩
   obtain ⟨xl,hxl⟩: ∃ o,o=x.2.2.2.1:=⟨_,rfl⟩
   obtain ⟨m,hm⟩: ∃ m,m=x.1.length:=⟨_,rfl⟩
   obtain ⟨L1,hL1⟩: ∃ L1,L1=L++pnT (l.take k) n:=⟨_,rfl⟩
   have hN:L++pnT (l.take (k+1)) n=L1++pnO x n:=by rw [hL1,pnT_snoc hx,List.append_assoc]
   have hO:pnO x n=(indL n++wdsL x.1)++(bif !xo then [59,10] else ([32,123,10]++(pnT (x.2.2.1.map Blk.un) (n+1)++(indL n++[125,10])))):=by rw [hxo];rfl
   have hK:L1.length+(pnO x n).length<=50000000000:=by
    have:=HPL.out
    have:=HLEN.out
    rw [hL1,List.length_append]
    omega
   have hKw:L1.length+(indL n).length+(wdsL x.1).length<=50000000000:=by
    rw [hO,List.length_append,List.length_append] at hK
    omega
   rw [←hL1] at HR
   rw [←hm] at c0 hm1
   rw [←hxo] at c1
   rw [←hxl] at c3
   have HNX:=Lib.hid hN
   have HO:=Lib.hid hO
   have HK:=Lib.hid hK
   have HKW:=Lib.hid hKw
   have HM:=Lib.hid hm
   clear hx hCw hCi hwd hxo hxl hL1 hN hO hK hKw hww hm
   go_wp2_with fail
   obtain ⟨xb,hxb⟩: ∃ xb,xb=wr.heap.size:=⟨_,rfl⟩
   have hbx:bb<xb:=by rw [hxb];exact HR.out.lt
   have hX0:Go.Proofs.YtkkoedniahnneaaDoor.Blk (wr.alloc (Obj.cells #[.slice Aw m cw,.bool xo,.slice Ai ni ci,.int .i64 xl] 38)) xb 38 #[.slice Aw m cw,.bool xo,.slice Ai ni ci,.int .i64 xl]:=by rw [hxb];exact Go.Proofs.YtkkoedniahnneaaDoor.Blk.new wr _ _
   have hBx:Below bb wr (wr.alloc (Obj.cells #[.slice Aw m cw,.bool xo,.slice Ai ni ci,.int .i64 xl] 38)):=(Below.refl _ _).alloc (Nat.le_of_lt HR.out.lt) _
   have hRx:=HR.out.alloc (Obj.cells #[.slice Aw m cw,.bool xo,.slice Ai ni ci,.int .i64 xl] 38)
   rw [←hxb]
   generalize wr.alloc (Obj.cells #[.slice Aw m cw,.bool xo,.slice Ai ni ci,.int .i64 xl] 38)=wq at*
   clear c0 c1 c2 c3 hxb
   refine (wr_calls hRx (by rw [HTS.out];have:=HKW.out;have:=HNN.out;omega)).mono ?_
   rintro e w2 ⟨rfl,hb2,hl2,hk2⟩
   have hX2:=kept_blk hk2 hX0 (by omega) (by decide)
   have HX2:=Lib.hid hX2
   have HB2:Hid (BI w2 bb (L1++indL n)):=Lib.hid (by rw [←HT.out];exact hb2)
   have HL2:Hid (Below bb w w2):=Lib.hid ((HW.out.trans hBx).trans hl2)
   have x0:=hX2.cell 0
   simp only [List.getElem?_toArray,List.getElem?_cons_zero] at x0
   have HBX:=Lib.hid hbx
   clear hX0 hBx hRx hb2 hl2 hk2 hX2 hbx
   go_wp2_with fail
   go_loopw [25] (fun iv wy=> ∃ j:Nat,j<=m/\iv= .int .i64 j/\Hid (BI wy bb ((L1++indL n)++wdsL (x.1.take j)))/\Hid (Go.Proofs.YtkkoedniahnneaaDoor.Blk wy xb 38 #[.slice Aw m cw,.bool xo,.slice Ai ni ci,.int .i64 xl])/\Hid (Below bb w wy)) (fun iv _=>m-(intOf iv).toNat)
   case atStart=>exact ⟨0,Nat.zero_le _,rfl,Lib.hid (by rw [List.take_zero];show BI w2 bb ((L1++indL n)++[]);rw [List.append_nil];exact HB2.out),HX2,HL2⟩
   case round=>
    obtain ⟨j,hj,rfl,HY,HXY,HLY⟩:=hrel
    have HWY:Hid (Below w0.heap.size w0 wr):=Lib.hid (HBEL.out.trans (HLY.out.mono HBB.out))
    by_cases hjm:j<m
    ·obtain ⟨s,hs⟩: ∃ s,x.1[j]? = some s:=⟨_,List.getElem?_eq_getElem (by rw [←HM.out];exact hjm)⟩
     obtain ⟨gw,ow,rfl,hcs⟩:=HWD.out j s hs
     have hgw:gw<w0.heap.size:=World.block_lt_of_cell? w0 _ hcs
     replace hcs:=(HWY.out.cell (p:=⟨gw,ow+j,none⟩) hgw).trans hcs
     have hwz:wsz s=true:=List.all_eq_true.1 HGX.out.2.1 s (List.mem_of_getElem? hs)
     have hsz:s.size<=2000000000:=of_decide_eq_true hwz
     have hwl:=wd_len hs
     have HSN:=Lib.hid (wds_snoc hs)
     have HWZ:=Lib.hid hwz
     have HWL:=Lib.hid hwl
     have hji:((j:Nat):Int)<((m:Nat):Int):=by omega
     have hq:(qtF s).size<=50000000000:=by have:=HKW.out;omega
     have hLen:((L1++indL n)++wdsL (x.1.take j)).length<=50000000000:=by
      have:=HKW.out
      rw [List.length_append,List.length_append]
      omega
     have HLen:=Lib.hid hLen
     have HQ:=Lib.hid hq
     clear hs hwz hsz hwl hgw hq hLen
     by_cases hj0:j=0
     ·subst hj0
      rw [Nat.add_zero] at hcs
      go_wp2_with (go_at_call 97;refine (written_calls s _ HWZ.out).mono ?_;rintro e w3 ⟨rfl,hb3⟩;have HB3:=Lib.hid hb3;clear hb3)
      refine (wr_calls (HY.out.below HB3.out) (by have:=HLen.out;have:=HQ.out;omega)).mono ?_
      rintro e w4 ⟨rfl,hb4,hl4,hk4⟩
      have HB4:=Lib.hid hb4
      have HX4:=Lib.hid (kept_blk hk4 (HXY.out.ext HB3.out) (by have:=HBX.out;omega) (by decide))
      have HL4:=Lib.hid ((HLY.out.trans (HB3.out.mono (Nat.le_of_lt HY.out.lt))).trans hl4)
      clear hb4 hl4 hk4 hcs
      go_wp2_with fail
      refine ⟨⟨1,by omega,by simp,Lib.hid ?_,HX4,HL4⟩,by simp [intOf];omega⟩
      rw [wds_0 HSN.out]
      exact HB4.out
     ·have hj1:(0:Int)<((j:Nat):Int):=by omega
      have HJ0:=Lib.hid hj0
      clear hj0
      go_wp2_with fail
      refine (wr_calls HY.out (by have:=HLen.out;have h7:(ByteArray.mk #[32]).size=1:=rfl;omega)).mono ?_
      rintro e w3 ⟨rfl,hb3,hl3,hk3⟩
      have HB3:=Lib.hid hb3
      have HX3:=Lib.hid (kept_blk hk3 HXY.out (by have:=HBX.out;omega) (by decide))
      have HL3:=Lib.hid (HLY.out.trans hl3)
      clear hb3 hl3 hk3 hcs
      go_wp2_with (go_at_call 97;refine (written_calls s _ HWZ.out).mono ?_;rintro e w4 ⟨rfl,hb4⟩;have HW4:=Lib.hid hb4;clear hb4)
      refine (wr_calls (HB3.out.below HW4.out) (by have:=HLen.out;have:=HQ.out;have h7:(bytesL (ByteArray.mk #[32])).length=1:=rfl;rw [List.length_append];omega)).mono ?_
      rintro e w5 ⟨rfl,hb5,hl5,hk5⟩
      have HB5:=Lib.hid hb5
      have HX5:=Lib.hid (kept_blk hk5 (HX3.out.ext HW4.out) (by have:=HBX.out;omega) (by decide))
      have HL5:=Lib.hid ((HL3.out.trans (HW4.out.mono (Nat.le_of_lt HB3.out.lt))).trans hl5)
      clear hb5 hl5 hk5
      go_wp2_with fail
      refine ⟨⟨j+1,by omega,by simp,Lib.hid ?_,HX5,HL5⟩,by simp [intOf];omega⟩
      rw [wds_1 HSN.out HJ0.out]
      exact HB5.out
    ·obtain rfl:j=m:=by omega
     have hnl: ¬ ((j:Nat):Int)<((j:Nat):Int):=by omega
     have y1:=HXY.out.cell 1
     have y2:=HXY.out.cell 2
     simp only [List.getElem?_toArray,List.getElem?_cons_zero,List.getElem?_cons_succ] at y1 y2
     have HYW:Hid (BI wr bb ((L1++indL n)++wdsL x.1)):=Lib.hid (by have:=HY.out;rw [HM.out,List.take_length] at this;exact this)
     have hw1:((L1++indL n)++wdsL x.1).length<=50000000000:=by
      have:=HKW.out
      rw [List.length_append,List.length_append]
      omega
     have HW1:=Lib.hid hw1
     clear hw1
     cases xo with
     |false=>
      go_wp2_with fail
      refine (wr_calls HYW.out (by have:=HW1.out;have h7:(ByteArray.mk #[59,10]).size=2:=rfl;omega)).mono ?_
      rintro e w3 ⟨rfl,hb3,hl3,hk3⟩
      have HB3:=Lib.hid hb3
      have HL3:=Lib.hid (HLY.out.trans hl3)
      clear hb3 hl3 hk3
      go_wp2_with fail
      go_roundw
      case rel=>
       refine ⟨k+1,by omega,by simp,Lib.hid ?_,HL3⟩
       rw [fin_59 HNX.out HO.out]
       exact HB3.out
      case measure=>simp [intOf];omega
     |true=>
      have hlast:L1.length+((indL n).length+(wdsL x.1).length)+(3+((pnT (x.2.2.1.map Blk.un) (n+1)).length+((indL n).length+2)))<=50000000000:=by
       have h7:=HK.out
       rw [HO.out] at h7
       simp only [Bool.not_true,cond_false,List.length_append,List.length_cons,List.length_nil] at h7
       omega
      have HLA:=Lib.hid hlast
      clear hlast
      go_wp2_with fail
      refine (wr_calls HYW.out (by have:=HW1.out;have h7:(ByteArray.mk #[32,123,10]).size=3:=rfl;omega)).mono ?_
      rintro e w3 ⟨rfl,hb3,hl3,hk3⟩
      have hX3:=kept_blk hk3 HXY.out (by have:=HBX.out;omega) (by decide)
      have y2':=hX3.cell 2
      simp only [List.getElem?_toArray,List.getElem?_cons_zero,List.getElem?_cons_succ] at y2'
      have HB3:=Lib.hid hb3
      have HL3:=Lib.hid (HLY.out.trans hl3)
      have hn1:(n:Int)+1<=9223372036854775807:=by have:=HNN.out;omega
      have hn2: -9223372036854775808<=(n:Int)+1:=by omega
      clear hb3 hl3 hk3 hX3 y1 y2
      go_wp2_with fail
      have hcall:=HIH.out (x.2.2.1.map Blk.un) (n+1) _ bb w0 w3 X0 (.slice Ai ni ci) HGX.out.2.2 (by have:=HNN.out;omega) HCI.out HBB.out (HBEL.out.trans (HL3.out.mono HBB.out)) HB3.out (by
       have:=HLA.out
       rw [b123]
       simp only [List.length_append,List.length_cons,List.length_nil]
       omega)
      rw [show ((n+1:Nat):Int)=(n:Int)+1 by omega] at hcall
      refine hcall.mono ?_
      rintro e w4 ⟨rfl,hb4,hl4⟩
      have HB4:=Lib.hid hb4
      have HL4:=Lib.hid (HL3.out.trans hl4)
      obtain ⟨y5,e5⟩: ∃ y,y=t++ByteArray.mk #[125,10]:=⟨_,rfl⟩
      have s5:y5.size=2*n+2:=by rw [e5,ByteArray.size_append,HTS.out];have:(ByteArray.mk #[125,10]).size=2:=rfl;omega
      have q5: ∀ wz:World,(Op.stringOp .add t (ByteArray.mk #[125,10])).run Tryd.prog wz= .ok (.string y5) wz:=fun wz=>by rw [e5];exact run_string_add_sum (P:=Tryd.prog) wz _ _ (by rw [←ByteArray.size_append, ← e5,s5];have:=HNN.out;omega)
      have E5:=Lib.hid e5
      have S5:=Lib.hid s5
      clear hcall hb4 hl4 e5 s5 y2'
      go_wp2_with fail
      refine (wr_calls HB4.out (by
       have:=HLA.out
       rw [b123,S5.out]
       have h8:=HNN.out
       simp only [List.length_append,List.length_cons,List.length_nil]
       omega)).mono ?_
      rintro e w5 ⟨rfl,hb5,hl5,hk5⟩
      have HB5:=Lib.hid hb5
      have HL5:=Lib.hid (HL4.out.trans hl5)
      clear hb5 hl5 hk5 q5
      go_wp2_with fail
      go_roundw
      case rel=>
       refine ⟨k+1,by omega,by simp,Lib.hid ?_,HL5⟩
       rw [fin_125 HNX.out HO.out HT.out, ← E5.out]
       exact HB5.out
      case measure=>simp [intOf];omega
  ·obtain rfl:k=l.length:=by omega
   have hnl: ¬ ((l.length:Nat):Int)<((l.length:Nat):Int):=by omega
   go_wp2_with fail
   go_end0
   refine ⟨rfl, ?_,HW.out⟩
   have:=HR.out
   rw [List.take_length] at this
   exact this
end
end Go.Proofs.YtkkoedniahnneaaDoor.K
namespace Go.Proofs.YtkkoedniahnneaaDoor.K
open Go.RowKit Go.Shelf
attribute [local go_sem ↓] Go.wp_at_zero Go.wp_at_succ
noncomputable section
set_option linter.unusedSectionVars false
theorem print_all: ∀ N:Nat,PrOK N
 |0=>fun l n L bb w0 w X0 sv hok=>by
  obtain ⟨h,_⟩:=okN_b hok
  cases h
 |N+1=>print_any' N (print_all N)
theorem scx_calls {f:FuncId}{E:Ent}{vs:List V}{r:V}{us:List Value}(hm:Meets Tryd.prog f (strip E))(hF:strip E vs []=some (r,[]))(X:Nat->Nat->Prop)(w:World)(hfin: ∀ b q,X b q->b<w.heap.size)(hc:Cs X w nowhere (V.ds vs) us)(hlt:f<1000000:=by decide):
  Calls Tryd.prog f us.toArray w fun en w'=> ∃ u X' σ',en= .returned u/\C X' w' σ' r.d u/\Below w.heap.size w w':=by
 refine (of_does hlt (hm _ _ _ _ hF X w nowhere us hfin lent_nil hc)).mono ?_
 rintro en w' ⟨u,X',σ',rfl,h1,h2⟩
 exact ⟨u,X',σ',rfl,h1,ends_below h2⟩
theorem check_calls {l:List BlkT}{X:Nat->Nat->Prop}{w:World}{sv:Value}(hfin: ∀ b q,X b q->b<w.heap.size)(hC:C X w nowhere (.sl l.length (l.flatMap tyBlkT.cells)) sv)(h:okT l=true):
  Calls Tryd.prog 33 #[sv] w fun e w'=>e= .returned (.int .i64 (chF l))/\Below w.heap.size w w':=by
 have hF:strip sp_f33 [.t (.sl tyBlkT) l] []=some (.t tI (chF l),[]):=by
  unfold sp_f33
  exact strip_spec (a:= .pr (.sl tyBlkT) .nil) (x:=(l,())) (by simp [Ty.args,as_t]) h
 refine (scx_calls ms_f33 hF X w hfin (us:=[sv]) ?_).mono ?_
 ·exact Cs.cons hC (by simp [Cs,V.ds])
 rintro en w' ⟨u,X',σ',rfl,h1,h2⟩
 have h1:C X' w' σ' (.v (.int .i64 (chF l))) u:=h1
 simp only [C] at h1
 obtain ⟨rfl,_⟩:=h1
 exact ⟨rfl,h2⟩
theorem strOf_size (L:List Int):(strOf L).size=L.length:=by
 show (L.map fun n=>UInt8.ofNat n.toNat).toArray.size=L.length
 simp
theorem pnt_bad {l:List BlkT}(h:chF l≠0):pntF l=(ByteArray.mk #[],chF l):=by
 unfold pntF
 rw [show ine (chF l) 0=true from bne_iff_ne.2 h]
 rfl
theorem pnt_ok {l:List BlkT}(h:chF l=0):pntF l=bif decide (8192<(pnT l 0).length) then (ByteArray.mk #[],3) else bif igt (endN (strOf (pnT l 0))) 200 then (ByteArray.mk #[],3) else (strOf (pnT l 0),0):=by
 unfold pntF
 rw [h]
 rfl
def PrintPost (l:List BlkT)(w:World)(e:Ending)(w':World):Prop:=e= .returned (.tuple #[.string (pntF l).1,.int .i64 (pntF l).2])/\Below w.heap.size w w'
theorem prp {l:List BlkT}{w w':World}{s:ByteArray}{n:Int}(h:pntF l=(s,n))(hb:Below w.heap.size w w'):PrintPost l w (.returned (.tuple #[.string s,.int .i64 n])) w':=⟨by rw [h],hb⟩
set_option maxHeartbeats 4000000 in
theorem printB_any {l:List BlkT}{X:Nat->Nat->Prop}{w:World}{sv:Value}(hfin: ∀ b q,X b q->b<w.heap.size)(hC:C X w nowhere (.sl l.length (l.flatMap tyBlkT.cells)) sv)(h:pntOk l=true):
  Calls Tryd.prog 24 #[sv] w (PrintPost l w):=by
 obtain ⟨hok,h2⟩:=Bool.and_eq_true_iff.1 h
 have h2:=cP_of h2
 obtain ⟨N,hN⟩:=okT_fuel hok
 have HN:=Lib.hid hN
 have HC:=Lib.hid hC
 have HFN:=Lib.hid hfin
 have HOK:=Lib.hid hok
 have HLEN:=Lib.hid h2
 clear hN hC hfin hok h2 h
 by_cases h0:chF l=0
 ·have HP:=Lib.hid (pnt_ok h0)
  have h0b:(chF l==0)=true:=beq_iff_eq.2 h0
  have H0:=Lib.hid h0
  go_enter Tryd.func24,Tryd.ntmps24
  go_wp2_with (go_at_call 33;refine (check_calls HFN.out HC.out HOK.out).mono ?_;rw [H0.out];rintro e w1 ⟨rfl,hb1⟩;have HB1:=Lib.hid hb1;clear hb1)
  obtain ⟨bb,hbb⟩: ∃ bb,bb=w1.heap.size:=⟨_,rfl⟩
  obtain ⟨wx,hwx⟩: ∃ wx,wx=w1.alloc (.cells #[.pointer none,.slice none 0 0] 75):=⟨_,rfl⟩
  have hBI:BI wx bb []:=by rw [hwx,hbb];exact BI.new_ w1
  have hbx:Below w1.heap.size w1 wx:=by rw [hwx];exact (Below.refl _ _).alloc (Nat.le_refl _) _
  have hC1:=c_below HC.out HB1.out rfl
  have hcall:=print_all N l 0 [] bb w1 wx X sv HN.out (by have:=(okN_b HN.out).2;omega) hC1 (by rw [hbb];exact Nat.le_refl _) hbx hBI (by have:=HLEN.out;show 0+(pnT l 0).length<=_;omega)
  rw [←hwx, ← hbb]
  have HBX:=Lib.hid (HB1.out.trans (hbx.mono HB1.out.size))
  have HBW:Hid (w.heap.size<=bb):=Lib.hid (by rw [hbb];exact HB1.out.size)
  clear hwx hbb hBI hbx hC1
  refine hcall.mono ?_
  rintro e w2 ⟨rfl,hb2,hl2⟩
  have HB2:Hid (BI w2 bb (pnT l 0)):=Lib.hid hb2
  have HL2:=Lib.hid (HBX.out.trans (hl2.mono HBW.out))
  clear hb2 hl2 hcall
  obtain ⟨s,hs⟩: ∃ s,s=strOf (pnT l 0):=⟨_,rfl⟩
  have hsz:s.size=(pnT l 0).length:=by rw [hs];exact strOf_size _
  have hstr:=strI_calls HB2.out
  rw [←hs] at hstr
  have HSTR:=Lib.hid hstr
  have HSZ:=Lib.hid hsz
  have HPS:Hid (pntF l=bif decide (8192<s.size) then (ByteArray.mk #[],3) else bif igt (endN s) 200 then (ByteArray.mk #[],3) else (s,0)):=Lib.hid (by rw [HP.out,hsz,hs])
  clear hs hstr hsz
  by_cases h8:s.size<=8192
  ·have i1: ¬ ((s.size:Nat):Int) > 8192:=by omega
   by_cases h200:endN s<=200
   ·have i2: ¬ endN s > 200:=by omega
    have HR:Hid (pntF l=(s,0)):=Lib.hid (by rw [HPS.out,decide_eq_false (show ¬ 8192<s.size by omega),show igt (endN s) 200=false from decide_eq_false i2];rfl)
    clear h8 h200 h0 h0b
    go_wp2_with (first|(go_at_call 55;refine HSTR.out.mono ?_;rintro e w3 ⟨rfl,hb3⟩;have HB3:=Lib.hid hb3;clear hb3)|(go_at_call 56;refine (count_calls s _).mono ?_;rintro e w4 ⟨rfl,hw4⟩;obtain rfl:=hw4.symm))
    go_ret2
    exact prp HR.out (HL2.out.trans (HB3.out.mono HBW.out))
   ·have i2:endN s > 200:=by omega
    have HR:Hid (pntF l=(ByteArray.mk #[],3)):=Lib.hid (by rw [HPS.out,decide_eq_false (show ¬ 8192<s.size by omega),show igt (endN s) 200=true from decide_eq_true i2];rfl)
    clear h8 h200 h0 h0b
    go_wp2_with (first|(go_at_call 55;refine HSTR.out.mono ?_;rintro e w3 ⟨rfl,hb3⟩;have HB3:=Lib.hid hb3;clear hb3)|(go_at_call 56;refine (count_calls s _).mono ?_;rintro e w4 ⟨rfl,hw4⟩;obtain rfl:=hw4.symm))
    go_ret2
    exact prp HR.out (HL2.out.trans (HB3.out.mono HBW.out))
  ·have i1:((s.size:Nat):Int) > 8192:=by omega
   have HR:Hid (pntF l=(ByteArray.mk #[],3)):=Lib.hid (by rw [HPS.out,decide_eq_true (show 8192<s.size by omega)];rfl)
   clear h8 h0 h0b
   go_wp2_with (go_at_call 55;refine HSTR.out.mono ?_;rintro e w3 ⟨rfl,hb3⟩;have HB3:=Lib.hid hb3;clear hb3)
   go_ret2
   exact prp HR.out (HL2.out.trans (HB3.out.mono HBW.out))
 ·have h0b:=beq_eq_false_iff_ne.2 h0
  have HP:=Lib.hid (pnt_bad h0)
  clear h0
  go_enter Tryd.func24,Tryd.ntmps24
  go_wp2_with (go_at_call 33;refine (check_calls HFN.out HC.out HOK.out).mono ?_;rintro e w1 ⟨rfl,hb1⟩;have HB1:=Lib.hid hb1;clear hb1)
  go_ret2
  exact prp HP.out HB1.out
def sp_f24:Ent:=spec (.pr (.sl tyBlkT) .nil) (fun x=>(pntOk x.1)) (fun x=>(.tu [(.t .str ((pntF x.1).1)),(.t tI ((pntF x.1).2))]))
theorem en_f24:Entered Tryd.prog 24:= .inr ⟨by decide,_,Tryd.func24,by kernel_rfl,by kernel_rfl⟩
theorem ms_f24:Meets Tryd.prog 24 (strip sp_f24):=by
 unfold sp_f24
 refine meets_calls (fun x hok X w σ vs hfin hc=> ?_)
 obtain ⟨l,u⟩:=x
 have hc:Cs X w σ [.sl l.length (l.flatMap tyBlkT.cells)] vs:=hc
 obtain ⟨sv,rfl,hC⟩:=hc.one
 have hC:C X w nowhere (.sl l.length (l.flatMap tyBlkT.cells)) sv:=by simp only [C] at hC ⊢; exact hC
 refine (printB_any hfin hC hok).mono ?_
 rintro e w' ⟨rfl,hb⟩
 refine ⟨_,rfl, ?_,hb⟩
 show C X w' σ (.tu [.v (.string (pntF l).1),.v (.int .i64 (pntF l).2)]) _
 simp only [C,Cs]
 exact ⟨_,rfl,_,_,rfl,⟨rfl,rfl⟩,_,_,rfl,⟨rfl,rfl⟩,rfl⟩
end
end Go.Proofs.YtkkoedniahnneaaDoor.K
namespace Go.Proofs.YtkkoedniahnneaaDoor.K
open Go.RowKit
noncomputable section
set_option linter.unusedSectionVars false
end
end Go.Proofs.YtkkoedniahnneaaDoor.K
namespace Go.Proofs.YtkkoedniahnneaaDoor.K
open Go.RowKit
noncomputable section
set_option linter.unusedSectionVars false
theorem slOk_s {l:List BlkT}(h:okT l=true):slOk l l=true:=Bool.and_eq_true_iff.2 ⟨h,cP_in rfl⟩
abbrev awS:ByteArray:=ByteArray.mk #[97,32,98,123,99,32,34,100,32,101,34,59,125]
def awL:List BlkT:=[([ByteArray.mk #[97],ByteArray.mk #[98]],(true,([Blk.mk [ByteArray.mk #[99],ByteArray.mk #[100,32,101]] false [] 1],(1,()))))]
theorem aw_pa:paB awS=(awL,(0,0)):=by kernel_rfl
theorem aw_pn:pntF awL=(ByteArray.mk #[97,32,98,32,123,10,32,32,99,32,34,100,32,101,34,59,10,125,10],0):=by kernel_rfl
theorem aw_ok:okT awL=true:=cP_in ⟨3,okN_i (by kernel_rfl) (by decide)⟩
theorem aw_pk:pntOk awL=true:=Bool.and_eq_true_iff.2 ⟨aw_ok,cP_in (by
 have:(pnT awL 0).length=19:=by kernel_rfl
 omega)⟩
def awk7:Bool:=true
def tc_f21:TC:=(.sq (.reg [(oP 0 (.mv (cB false)))]) (.sq (.reg [(oC 7 42 [(.c (.v (.string (ByteArray.mk #[97,32,98,123,99,32,34,100,32,101,34,59,125]))))]),(oV 6 7),(oP 8 (.ext 0 (.t 6))),(oP 9 (.ext 1 (.t 6))),(oP 10 (.ext 2 (.t 6))),(oV 1 8),(oV 2 9),(oV 3 10)]) (.sq (.reg [(oV 12 1),(oC 13 24 [(.t 12)]),(oV 11 13),(oP 14 (.ext 0 (.t 11))),(oP 15 (.ext 1 (.t 11))),(oV 4 14),(oV 5 15)]) (.sq (.reg [(oV 16 3),(oP 17 (.bin false .eql (.t 16) (cI 0))),(oV 18 17),(oQ 19 18 true (.mv (.t 5))),(oQ 20 18 true (.bin false .eql (.t 19) (cI 0))),(oP 21 (.pick (.t 18) (.t 20) (cB false))),(oV 22 21),(oQ 23 22 true (.mv (.t 2))),(oQ 24 22 true (.bin false .eql (.t 23) (cI 0))),(oP 25 (.pick (.t 22) (.t 24) (cB false))),(oV 26 25),(oQ 27 26 true (.mv (.t 1))),(oQ 28 26 true (.len false (.t 27))),(oQ 29 26 true (.bin false .eql (.t 28) (cI 1))),(oP 30 (.pick (.t 26) (.t 29) (cB false))),(oV 31 30),(oQ 32 31 true (.mv (.t 4))),(oQ 33 31 true (.bin false .eql (.t 32) (.c (.v (.string (ByteArray.mk #[97,32,98,32,123,10,32,32,99,32,34,100,32,101,34,59,10,125,10])))))),(oP 34 (.pick (.t 31) (.t 33) (cB false))),(oV 35 34),(oQ 36 35 true (.mv (.t 1))),(oG 37 35 true (.call 35 [(.t 36)])),(oQ 38 35 true (.bin false .eql (.t 37) (cI 2))),(oP 39 (.pick (.t 35) (.t 38) (cB false))),(oV 40 39),(oQ 41 40 true (.mv (.t 1))),(oG 42 40 true (.call 38 [(.t 41),(.c (.v (.string (ByteArray.mk #[97]))))])),(oQ 43 40 true (.len false (.t 42))),(oQ 44 40 true (.bin false .eql (.t 43) (cI 1))),(oP 45 (.pick (.t 40) (.t 44) (cB false))),(oV 0 45)]) .rt))))
def rv_f21:List (RV×Option Ty):=[((.t 0),some .bool)]
def g_f21:G:=⟨TYs,[],46,EL [(24,sp_f24),(35,sp_f35),(38,sp_f38),(42,sp_f42)],keeps,(fun _ _=>none),IL [],RL []⟩
def r_f21  : Option (V×List VO):=
 br ((paOk (ByteArray.mk #[97,32,98,123,99,32,34,100,32,101,34,59,125])))
  (br ((pntOk ((paB (ByteArray.mk #[97,32,98,123,99,32,34,100,32,101,34,59,125])).1)))
   (br ((ieq (((paB (ByteArray.mk #[97,32,98,123,99,32,34,100,32,101,34,59,125])).2).2) 0))
    (br ((ieq ((pntF ((paB (ByteArray.mk #[97,32,98,123,99,32,34,100,32,101,34,59,125])).1)).2) 0))
     (br ((ieq (((paB (ByteArray.mk #[97,32,98,123,99,32,34,100,32,101,34,59,125])).2).1) 0))
      (br ((ieq (llen ((paB (ByteArray.mk #[97,32,98,123,99,32,34,100,32,101,34,59,125])).1)) 1))
       (br ((seq ((pntF ((paB (ByteArray.mk #[97,32,98,123,99,32,34,100,32,101,34,59,125])).1)).1) (ByteArray.mk #[97,32,98,32,123,10,32,32,99,32,34,100,32,101,34,59,10,125,10])))
        (br ((okT ((paB (ByteArray.mk #[97,32,98,123,99,32,34,100,32,101,34,59,125])).1)))
         (br ((ieq (dpF ((paB (ByteArray.mk #[97,32,98,123,99,32,34,100,32,101,34,59,125])).1)) 2))
          (br ((fdOk ((paB (ByteArray.mk #[97,32,98,123,99,32,34,100,32,101,34,59,125])).1) (ByteArray.mk #[97])))
           (some (.t .bool (ieq (llen (fdT ((paB (ByteArray.mk #[97,32,98,123,99,32,34,100,32,101,34,59,125])).1) (ByteArray.mk #[97]))) 1),[]))
           (none))
          (some (.t .bool false,[])))
         (none))
        (some (.t .bool false,[])))
       (some (.t .bool false,[])))
      (some (.t .bool false,[])))
     (some (.t .bool false,[])))
    (some (.t .bool false,[])))
   (none))
  (none)
theorem e_f21  : runF g_f21 tc_f21 rv_f21 false [] []=r_f21  :=by kernel_rfl
theorem ok_f21:Option.map (trC Tryd.prog) Tryd.f21.body=some tc_f21.er:=by kernel_rfl
theorem rok_f21:trVs Tryd.prog Tryd.f21.results.toList=some (rv_f21.map Prod.fst):=by kernel_rfl
theorem en_f21:Entered Tryd.prog 21:= .inr ⟨by decide,_,Tryd.func21,by kernel_rfl,by kernel_rfl⟩
theorem gk_f21:GOk Tryd.prog g_f21:=gok_of _ (by
 intro p hp
 simp only [List.mem_cons,List.not_mem_nil,or_false] at hp
 rcases hp with rfl|rfl|rfl|rfl
 ·exact ⟨en_f24,ms_f24⟩
 ·exact ⟨en_f35,ms_f35⟩
 ·exact ⟨en_f38,ms_f38⟩
 ·exact ⟨en_f42,ms_f42⟩)
theorem lk_f21:tc_f21.lok g_f21:=by repeat (first|exact trivial|refine ⟨?_, ?_⟩)
theorem s_f21:r_f21=some (.t .bool awk7,[]):=by
 unfold r_f21
 rw [show paB (ByteArray.mk #[97,32,98,123,99,32,34,100,32,101,34,59,125])=(awL,(0,0)) from aw_pa]
 simp only
 rw [aw_pk,aw_pn,aw_ok,show fdOk awL (ByteArray.mk #[97])=true from aw_ok]
 kernel_rfl
def sp_f21:Ent:=spec .nil (fun x=>true) (fun x=>(.t .bool awk7))
theorem ms_f21:Meets Tryd.prog 21 (strip sp_f21):=by
 obtain ⟨c,hc,hi⟩:=Option.map_eq_some_iff.1 ok_f21
 exact meets_spec (R:=runF g_f21 tc_f21 rv_f21 false) (meets_of (by decide) Tryd.func21 hc hi Tryd.ntmps21 rok_f21 gk_f21 lk_f21 mixed) fun x _=>(e_f21 ).trans (s_f21)
end
end Go.Proofs.YtkkoedniahnneaaDoor.K
set_option linter.unusedSectionVars false
namespace Go.Proofs.YtkkoedniahnneaaDoor.K
open Go.RowKit
noncomputable section
set_option linter.unusedSectionVars false
abbrev bw1:List ByteArray:=[(ByteArray.mk #[]),(ByteArray.mk #[32]),(ByteArray.mk #[10]),(ByteArray.mk #[35,32,110,111,116,101,10]),(ByteArray.mk #[9])]
abbrev bw2:List ByteArray:=[(ByteArray.mk #[97]),(ByteArray.mk #[115,101,114,118,101,114]),(ByteArray.mk #[98,45,49]),(ByteArray.mk #[120,58,121]),(ByteArray.mk #[34,113,32,114,34]),(ByteArray.mk #[34,34]),(ByteArray.mk #[34,97,92,34,98,34]),(ByteArray.mk #[43,118,52,33])]
abbrev bw3:List ByteArray:=[(ByteArray.mk #[32]),(ByteArray.mk #[32,32]),(ByteArray.mk #[10]),(ByteArray.mk #[32]),(ByteArray.mk #[])]
abbrev bw4:List ByteArray:=[(ByteArray.mk #[125]),(ByteArray.mk #[125]),(ByteArray.mk #[125,10]),(ByteArray.mk #[])]
abbrev bw5:List ByteArray:=[(ByteArray.mk #[59]),(ByteArray.mk #[59,10]),(ByteArray.mk #[59,32]),(ByteArray.mk #[])]
abbrev SD:Type:=ByteArray×Dice
def tx0G:Nat->ByteArray->Dice->SD
 |0,s,d=>(s,d)
 |k+1,s,d=>tx0G k (scat (scat s (dwdG d bw2)) (dwdG (dwdGN d bw2) bw3)) (dwdGN (dwdGN d bw2) bw3)
def txB (rec:Dice->SD)(dep:Bool)(r:SD):SD:=
 bif dep then (bif done r.2 3 then (scat (scat (scat r.1 (ByteArray.mk #[123])) (rec (dnext r.2 3)).1) (dwdG (rec (dnext r.2 3)).2 bw4),dwdGN (rec (dnext r.2 3)).2 bw4)
  else (scat r.1 (dwdG (dnext r.2 3) bw5),dwdGN (dnext r.2 3) bw5)) else (scat r.1 (dwdG r.2 bw5),dwdGN r.2 bw5)
def txA (s:ByteArray)(d:Dice):SD:=tx0G (1+dval (dwdGN d bw1) 3).toNat (scat s (dwdG d bw1)) (dnext (dwdGN d bw1) 3)
def tx1G (rec:Dice->SD)(dep:Bool):Nat->ByteArray->Dice->SD
 |0,s,d=>(s,d)
 |i+1,s,d=>tx1G rec dep i (txB rec dep (txA s d)).1 (txB rec dep (txA s d)).2
def txG:Nat->Dice->SD
 |0,d=>tx1G (fun d=>(ByteArray.mk #[],d)) false (dval d 5).toNat (ByteArray.mk #[]) (dnext d 5)
 |n+1,d=>tx1G (txG n) true (dval d 5).toNat (ByteArray.mk #[]) (dnext d 5)
def tx7F (d:Dice)(n:Int):ByteArray:=(txG n.toNat d).1
def tx7N (d:Dice)(n:Int):Dice:=(txG n.toNat d).2
def tx7S:Nat->Dice->Int->Bool
 |0,_,_=>false
 |k+1,d,n=>dOk d&&cP (0<=n/\n<=k/\n<=3)
def sp_f22R [Fuel]:Ent:=specP tyDice (.pr tI .nil) (fun d x=>(tx7S fuel d x.1)) (fun d x=>(.t .str (tx7F d x.1))) (fun d x=>(tx7N d x.1))
section
variable [Fuel][Nonempty (PLift (Meets Tryd.prog 22 (strip sp_f22R)))]
-- loop 0: (x1 : Int) (x5 : ByteArray) (x6 : Int) (x7 : Int) (y50000 : Dice); out: ('exit', 2) (x1 : Int) (x5 : ByteArray) (x6 : Int) (y50000 : Dice)
-- loop 1: (x1 : Int) (x5 : ByteArray) (x6 : Int) (y50000 : Dice); out: ('exit', 0) (x5 : ByteArray) (y50000 : Dice)
end
end
end Go.Proofs.YtkkoedniahnneaaDoor.K
set_option linter.unusedSectionVars false
namespace Go.Proofs.YtkkoedniahnneaaDoor.K
open Go.RowKit
noncomputable section
set_option linter.unusedSectionVars false
abbrev bl1:List ByteArray:=[(ByteArray.mk #[115,101,114,118,101,114]),(ByteArray.mk #[97]),(ByteArray.mk #[120,46,49])]
abbrev bl2:List ByteArray:=[(ByteArray.mk #[118]),(ByteArray.mk #[]),(ByteArray.mk #[97,32,98]),(ByteArray.mk #[113,34,114]),(ByteArray.mk #[98,92,99]),(ByteArray.mk #[35,32,120]),(ByteArray.mk #[59]),(ByteArray.mk #[116,9,117])]
abbrev bl3:List ByteArray:=[(ByteArray.mk #[]),(ByteArray.mk #[97,32,98]),(ByteArray.mk #[34])]
abbrev bl4:List ByteArray:=[(ByteArray.mk #[97,10,98]),(ByteArray.mk #[127])]
abbrev WD:Type:=List ByteArray×Dice
abbrev LD:Type:=List BlkT×Dice
def lk0:Nat->List ByteArray->Dice->WD
 |0,y,d=>(y,d)
 |k+1,y,d=>lk0 k (y++[dwdG d bl2]) (dwdGN d bl2)
def lT (ws:List ByteArray)(o:Bool)(wi:List Blk)(ln:Int)(d:Dice):BlkT×Dice:=
 bif ieq (dval d 24) 0 then (([],(o,(wi,(ln,())))),dnext d 24) else
 bif ieq (dval d 24) 1 then ((ws.set (Int.toNat 0) (dwdG (dnext d 24) bl3),(o,(wi,(ln,())))),dwdGN (dnext d 24) bl3) else
 bif ieq (dval d 24) 2 then ((ws++[dwdG (dnext d 24) bl4],(o,(wi,(ln,())))),dwdGN (dnext d 24) bl4) else
 bif ieq (dval d 24) 3 then ((ws,(false,(wi,(ln,())))),dnext d 24) else ((ws,(o,(wi,(ln,())))),dnext d 24)
def lA (d:Dice):WD:=lk0 (dval (dnext (dwdGN d bl1) 9) 3).toNat [dwdG d bl1] (dnext (dnext (dwdGN d bl1) 9) 3)
def lB (rec:Dice->LD)(dep:Bool)(r:WD)(ln:Int):BlkT×Dice:=
 bif dep then (bif done r.2 3 then lT r.1 true ((rec (dnext r.2 3)).1.map Blk.of) ln (rec (dnext r.2 3)).2 else lT r.1 false [] ln (dnext r.2 3)) else lT r.1 false [] ln r.2
def lk1 (rec:Dice->LD)(dep:Bool):Nat->List BlkT->Dice->LD
 |0,y,d=>(y,d)
 |i+1,y,d=>lk1 rec dep i (y++[(lB rec dep (lA d) (dval (dwdGN d bl1) 9)).1]) (lB rec dep (lA d) (dval (dwdGN d bl1) 9)).2
def lsG:Nat->Dice->LD
 |0,d=>lk1 (fun d=>([],d)) false (dval d 4).toNat [] (dnext d 4)
 |n+1,d=>lk1 (lsG n) true (dval d 4).toNat [] (dnext d 4)
def ls7F (d:Dice)(n:Int):List BlkT:=(lsG n.toNat d).1
def ls7N (d:Dice)(n:Int):Dice:=(lsG n.toNat d).2
def ls7S:Nat->Dice->Int->Bool
 |0,_,_=>false
 |k+1,d,n=>dOk d&&cP (0<=n/\n<=k/\n<=3)
def ls7Ok (d:Dice)(n:Int):Bool:=dOk d&&cP (0<=n/\n<=3)
theorem fuel_law07_list (d:Dice)(n:Int)(h:ls7Ok d n=true): ∃ N,ls7S N d n=true:=by
 obtain ⟨h1,h2⟩:=Bool.and_eq_true_iff.1 h
 obtain ⟨h2,h3⟩:=cP_of h2
 exact ⟨4,Bool.and_eq_true_iff.2 ⟨h1,cP_in ⟨h2,h3,h3⟩⟩⟩
def smW (ws:List ByteArray):Prop:=ws.length<=4∧ ∀ s∈ws,s.size<=6
def SM:Nat->List BlkT->Prop
 |0,l=>l.length<=3∧ ∀ x∈l,smW x.1/\x.2.2.1=[]
 |n+1,l=>l.length<=3∧ ∀ x∈l,smW x.1/\(x.2.2.1=[]∨SM n (x.2.2.1.map Blk.un))
theorem lk0_ok: ∀ (k:Nat) (y:List ByteArray) (d:Dice),dOk d=true->(∀ s∈y,s.size<=6)->(lk0 k y d).1.length=y.length+k/\(∀ s∈(lk0 k y d).1,s.size<=6)/\dOk (lk0 k y d).2=true
 |0,y,d,h,hy=>⟨rfl,hy,h⟩
 |k+1,y,d,h,hy=>by
  obtain ⟨h1,h2,h3⟩:=lk0_ok k (y++[dwdG d bl2]) (dwdGN d bl2) (dOk_next h) (fun s hs=>by
   rcases List.mem_append.1 hs with hs|hs
   ·exact hy s hs
   ·rw [List.mem_singleton.1 hs]
    exact dwd_size (by kernel_rfl))
  rw [List.length_append,List.length_singleton] at h1
  exact ⟨by show (lk0 k _ _).1.length=_;omega,h2,h3⟩
theorem lA_ok (d:Dice)(h:dOk d=true):0<(lA d).1.length/\(lA d).1.length<=3/\(∀ s∈(lA d).1,s.size<=6)/\dOk (lA d).2=true:=by
 have hv:=dval_lt (d:=dnext (dwdGN d bl1) 9) (n:=3) (by omega)
 obtain ⟨h1,h2,h3⟩:=lk0_ok (dval (dnext (dwdGN d bl1) 9) 3).toNat [dwdG d bl1] (dnext (dnext (dwdGN d bl1) 9) 3) (dOk_next (dOk_next (dOk_next h))) (fun s hs=>by
  rw [List.mem_singleton.1 hs]
  exact dwd_size (by kernel_rfl))
 rw [List.length_singleton] at h1
 exact ⟨by show 0<(lk0 _ _ _).1.length;omega,by show (lk0 _ _ _).1.length<=3;omega,h2,h3⟩
theorem lT_ok {ws:List ByteArray}{o:Bool}{wi:List Blk}{ln:Int}{d:Dice}(h1:ws.length<=3)(h2: ∀ s∈ws,s.size<=6)(h:dOk d=true):smW (lT ws o wi ln d).1.1/\(lT ws o wi ln d).1.2.2.1=wi/\dOk (lT ws o wi ln d).2=true:=by
 unfold lT
 cases ieq (dval d 24) 0 with
 |true=>exact ⟨⟨Nat.zero_le _,fun s hs=>by cases hs⟩,rfl,show dOk (dnext d 24)=true from dOk_next h⟩
 |false=>
  rw [cond_false]
  cases ieq (dval d 24) 1 with
  |true=>
   refine ⟨⟨by show (ws.set _ _).length<=4;rw [List.length_set];omega,fun s hs=> ?_⟩,rfl,show dOk (dwdGN (dnext d 24) bl3)=true from dOk_next (dOk_next h)⟩
   rcases List.mem_or_eq_of_mem_set hs with hs|hs
   ·exact h2 s hs
   ·rw [hs]
    exact dwd_size (by kernel_rfl)
  |false=>
   rw [cond_false]
   cases ieq (dval d 24) 2 with
   |true=>
    refine ⟨⟨by show (ws++[_]).length<=4;rw [List.length_append,List.length_singleton];omega,fun s hs=> ?_⟩,rfl,show dOk (dwdGN (dnext d 24) bl4)=true from dOk_next (dOk_next h)⟩
    rcases List.mem_append.1 hs with hs|hs
    ·exact h2 s hs
    ·rw [List.mem_singleton.1 hs]
     exact dwd_size (by kernel_rfl)
   |false=>
    rw [cond_false]
    cases ieq (dval d 24) 3 with
    |true=>exact ⟨⟨by show ws.length<=4;omega,h2⟩,rfl,show dOk (dnext d 24)=true from dOk_next h⟩
    |false=>exact ⟨⟨by show ws.length<=4;omega,h2⟩,rfl,show dOk (dnext d 24)=true from dOk_next h⟩
theorem of_un_map (l:List BlkT):(l.map Blk.of).map Blk.un=l:=by rw [List.map_map,show (Blk.un ∘ Blk.of)=id from funext Blk.un_of,List.map_id]
theorem lB_ok {rec:Dice->LD}{dep:Bool}{Q:List BlkT->Prop}(hr:dep=true→ ∀ d,dOk d=true->Q (rec d).1/\dOk (rec d).2=true){r:WD}{ln:Int}(h1:r.1.length<=3)(h2: ∀ s∈r.1,s.size<=6)(h:dOk r.2=true):
  smW (lB rec dep r ln).1.1/\((lB rec dep r ln).1.2.2.1=[]∨(dep=true/\Q ((lB rec dep r ln).1.2.2.1.map Blk.un)))/\dOk (lB rec dep r ln).2=true:=by
 unfold lB
 cases dep with
 |false=>
  obtain ⟨a,b,c⟩:=lT_ok (o:=false) (wi:=[]) (ln:=ln) h1 h2 h
  exact ⟨a,.inl b,c⟩
 |true=>
  rw [cond_true]
  cases done r.2 3 with
  |false=>
   obtain ⟨a,b,c⟩:=lT_ok (o:=false) (wi:=[]) (ln:=ln) h1 h2 (dOk_next (n:=3) h)
   exact ⟨a,.inl b,c⟩
  |true=>
   obtain ⟨q1,q2⟩:=hr rfl (dnext r.2 3) (dOk_next h)
   obtain ⟨a,b,c⟩:=lT_ok (o:=true) (wi:=(rec (dnext r.2 3)).1.map Blk.of) (ln:=ln) h1 h2 q2
   refine ⟨a,.inr ⟨rfl, ?_⟩,c⟩
   rw [cond_true,b,of_un_map]
   exact q1
theorem lk1_ok {rec:Dice->LD}{dep:Bool}{Q:List BlkT->Prop}(hr:dep=true→ ∀ d,dOk d=true->Q (rec d).1/\dOk (rec d).2=true): ∀ (i:Nat) (y:List BlkT) (d:Dice),dOk d=true->(∀ x∈y,smW x.1/\(x.2.2.1=[]∨(dep=true/\Q (x.2.2.1.map Blk.un))))→
  (lk1 rec dep i y d).1.length=y.length+i/\(∀ x∈(lk1 rec dep i y d).1,smW x.1/\(x.2.2.1=[]∨(dep=true/\Q (x.2.2.1.map Blk.un))))/\dOk (lk1 rec dep i y d).2=true
 |0,y,d,h,hy=>⟨rfl,hy,h⟩
 |i+1,y,d,h,hy=>by
  obtain ⟨a1,a2,a3,a4⟩:=lA_ok d h
  obtain ⟨b1,b2,b3⟩:=lB_ok (ln:=dval (dwdGN d bl1) 9) hr a2 a3 a4
  obtain ⟨c1,c2,c3⟩:=lk1_ok hr i (y++[(lB rec dep (lA d) (dval (dwdGN d bl1) 9)).1]) (lB rec dep (lA d) (dval (dwdGN d bl1) 9)).2 b3 (fun x hx=>by
   rcases List.mem_append.1 hx with hx|hx
   ·exact hy x hx
   ·rw [List.mem_singleton.1 hx]
    exact ⟨b1,b2⟩)
  rw [List.length_append,List.length_singleton] at c1
  exact ⟨by show (lk1 rec dep i _ _).1.length=_;omega,c2,c3⟩
theorem lsG_ok: ∀ (n:Nat) (d:Dice),dOk d=true->SM n (lsG n d).1/\dOk (lsG n d).2=true
 |0,d,h=>by
  have hv:=dval_lt (d:=d) (n:=4) (by omega)
  obtain ⟨h1,h2,h3⟩:=lk1_ok (rec:=fun d=>([],d)) (dep:=false) (Q:=fun _=>True) (fun h=>by cases h) (dval d 4).toNat [] (dnext d 4) (dOk_next h) (fun x hx=>by cases hx)
  rw [List.length_nil] at h1
  refine ⟨⟨by show (lk1 _ _ _ _ _).1.length<=3;omega,fun x hx=> ?_⟩,h3⟩
  obtain ⟨a,b⟩:=h2 x hx
  exact ⟨a,b.elim id (fun q=>by cases q.1)⟩
 |n+1,d,h=>by
  have hv:=dval_lt (d:=d) (n:=4) (by omega)
  obtain ⟨h1,h2,h3⟩:=lk1_ok (rec:=lsG n) (dep:=true) (Q:=SM n) (fun _ d hd=>lsG_ok n d hd) (dval d 4).toNat [] (dnext d 4) (dOk_next h) (fun x hx=>by cases hx)
  rw [List.length_nil] at h1
  refine ⟨⟨by show (lk1 _ _ _ _ _).1.length<=3;omega,fun x hx=> ?_⟩,h3⟩
  obtain ⟨a,b⟩:=h2 x hx
  exact ⟨a,b.imp id (fun q=>q.2)⟩
theorem sm_wsz {ws:List ByteArray}(h:smW ws):ws.length<=100000/\ws.all wsz=true:=⟨by have:=h.1;omega,List.all_eq_true.2 fun s hs=>decide_eq_true (by have:=h.2 s hs;omega)⟩
theorem SM_ok: ∀ (n:Nat) (l:List BlkT),SM n l->okB (n+2) l=true
 |0,l,h=>by
  obtain ⟨h1,h2⟩:=h
  refine Bool.and_eq_true_iff.2 ⟨decide_eq_true (by omega),List.all_eq_true.2 fun x hx=> ?_⟩
  obtain ⟨a,b⟩:=h2 x hx
  obtain ⟨c1,c2⟩:=sm_wsz a
  exact Bool.and_eq_true_iff.2 ⟨decide_eq_true c1,Bool.and_eq_true_iff.2 ⟨c2,by rw [b];rfl⟩⟩
 |n+1,l,h=>by
  obtain ⟨h1,h2⟩:=h
  refine Bool.and_eq_true_iff.2 ⟨decide_eq_true (by omega),List.all_eq_true.2 fun x hx=> ?_⟩
  obtain ⟨a,b⟩:=h2 x hx
  obtain ⟨c1,c2⟩:=sm_wsz a
  refine Bool.and_eq_true_iff.2 ⟨decide_eq_true c1,Bool.and_eq_true_iff.2 ⟨c2, ?_⟩⟩
  rcases b with b|b
  ·rw [b]
   rfl
  ·exact SM_ok n _ b
theorem ls_okT {n:Nat}{d:Dice}(h:dOk d=true)(hn:n<=3):okT (lsG n d).1=true:=cP_in ⟨n+2,okN_i (SM_ok n _ (lsG_ok n d h).1) (by omega)⟩
theorem l_tail {F:List BlkT->Dice->Option (Exit×VS)}{y:List BlkT}{ws:List ByteArray}{o:Bool}{wi:List Blk}{ln:Int}{d:Dice}(hd:dOk d=true)(h0:0<ws.length)(h1:ws.length<=3)(hy:y.length<=3):
  br (nextOk d 24) (br (ieq (dval d 24) 0) (br (cApp y [(([]:List ByteArray),(o,(wi,(ln,()))))] 64) (F (y++[(([]:List ByteArray),(o,(wi,(ln,()))))]) (dnext d 24)) none)
   (br (ieq (dval d 24) 1) (br (wdGOk (dnext d 24) bl3) (br (cIx ws 0) (br (cLd ws (Int.toNat 0)) (br (cApp y [((List.set ws (Int.toNat 0) (dwdG (dnext d 24) bl3)),(o,(wi,(ln,()))))] 64) (F (y++[((List.set ws (Int.toNat 0) (dwdG (dnext d 24) bl3)),(o,(wi,(ln,()))))]) (dwdGN (dnext d 24) bl3)) none) none) none) none)
    (br (ieq (dval d 24) 2) (br (wdGOk (dnext d 24) bl4) (br (cApp ws [dwdG (dnext d 24) bl4] 16) (br (cApp y [((ws++[dwdG (dnext d 24) bl4]),(o,(wi,(ln,()))))] 64) (F (y++[((ws++[dwdG (dnext d 24) bl4]),(o,(wi,(ln,()))))]) (dwdGN (dnext d 24) bl4)) none) none) none)
     (br (ieq (dval d 24) 3) (br (cApp y [(ws,(false,(wi,(ln,()))))] 64) (F (y++[(ws,(false,(wi,(ln,()))))]) (dnext d 24)) none)
      (br (cApp y [(ws,(o,(wi,(ln,()))))] 64) (F (y++[(ws,(o,(wi,(ln,()))))]) (dnext d 24)) none))))) none
   = F (y++[(lT ws o wi ln d).1]) (lT ws o wi ln d).2:=by
 have cA: ∀ x:BlkT,cApp y [x] 64=true:=fun x=>cAppN (by decide) (by rw [List.length_singleton];omega)
 have hn:dOk (dnext d 24)=true:=dOk_next hd
 refine brY (Bool.and_eq_true_iff.2 ⟨hd,by decide⟩) ?_
 unfold lT
 cases ieq (dval d 24) 0 with
 |true=>
  rw [br_true,cond_true]
  exact brY (cA _) rfl
 |false=>
  rw [br_false,cond_false]
  cases ieq (dval d 24) 1 with
  |true=>
   rw [br_true,cond_true]
   exact brY (Bool.and_eq_true_iff.2 ⟨hn,by decide⟩) (brY (decide_eq_true (by omega)) (brY (decide_eq_true h0) (brY (cA _) rfl)))
  |false=>
   rw [br_false,cond_false]
   cases ieq (dval d 24) 2 with
   |true=>
    rw [br_true,cond_true]
    exact brY (Bool.and_eq_true_iff.2 ⟨hn,by decide⟩) (brY (cAppN (by decide) (by rw [List.length_singleton];omega)) (brY (cA _) rfl))
   |false=>
    rw [br_false,cond_false]
    cases ieq (dval d 24) 3 with
    |true=>
     rw [br_true,cond_true]
     exact brY (cA _) rfl
    |false=>
     rw [br_false,cond_false]
     exact brY (cA _) rfl
def lb0 (k:Int)(y:List ByteArray)(d:Dice):Bool:=dOk d&&cP (0<=k/\k<=2/\(y.length:Int)+k<=3)
def lsRec (n:Int):Dice->LD:=if n.toNat=0 then fun d=>([],d) else lsG (n.toNat-1)
theorem en_f31:Entered Tryd.prog 31:= .inr ⟨by decide,_,Tryd.func31,by kernel_rfl,by kernel_rfl⟩
def sp_f31R [Fuel]:Ent:=specP tyDice (.pr tI .nil) (fun d x=>(ls7S fuel d x.1)) (fun d x=>(.t (.sl tyBlkT) (ls7F d x.1))) (fun d x=>(ls7N d x.1))
theorem en_f31R:Entered Tryd.prog 31:=en_f31
section
variable [Fuel][Nonempty (PLift (Meets Tryd.prog 31 (strip sp_f31R)))]
theorem ms_f31R:Meets Tryd.prog 31 (strip sp_f31R):=(Classical.choice (inferInstance:Nonempty (PLift (Meets Tryd.prog 31 (strip sp_f31R))))).down
def lb1 [Fuel](n i:Int)(y:List BlkT)(d:Dice):Bool:=dOk d&&cP (0<=n/\n<=fuel/\n<=3/\0<=i/\(y.length:Int)+i<=3)
def dr_f31_0:List DO:=[(.mk (oP 28 (.fa 0 (.t 7))) []),(.mk (oL 29 28) [0]),(.mk (oV 30 0) []),(.mk (oM 31 (.bs 9 1 8 [(.v (.string (ByteArray.mk #[]))),(.v (.string (ByteArray.mk #[]))),(.v (.string (ByteArray.mk #[]))),(.v (.string (ByteArray.mk #[]))),(.v (.string (ByteArray.mk #[]))),(.v (.string (ByteArray.mk #[]))),(.v (.string (ByteArray.mk #[]))),(.v (.string (ByteArray.mk #[])))] [(0,1,(.c (.v (.string (ByteArray.mk #[118]))))),(1,1,(.c (.v (.string (ByteArray.mk #[]))))),(2,1,(.c (.v (.string (ByteArray.mk #[97,32,98]))))),(3,1,(.c (.v (.string (ByteArray.mk #[113,34,114]))))),(4,1,(.c (.v (.string (ByteArray.mk #[98,92,99]))))),(5,1,(.c (.v (.string (ByteArray.mk #[35,32,120]))))),(6,1,(.c (.v (.string (ByteArray.mk #[59]))))),(7,1,(.c (.v (.string (ByteArray.mk #[116,9,117])))))])) []),(.mk (oC 32 32 [(.t 30),(.t 31)]) [2,3]),(.mk (oM 33 (.bs 9 1 1 [(.v (.string (ByteArray.mk #[])))] [(0,1,(.t 32))])) [4]),(.mk (oM 34 (.app 9 1 16 (.t 29) (.t 33))) [1,5,4]),(.mk (oP 35 (.fa 0 (.t 7))) [0,1,2,3,4,5,6]),(.mk (.mk none none (.m (.st 1 (.t 35) (.t 34)))) [7,6,6,0,1,2,3,4,5,6])]
def dr_f31_1:List DO:=[(.mk (oP 55 (.fa 0 (.t 7))) []),(.mk (oL 56 55) [0]),(.mk (oV 57 0) []),(.mk (oM 58 (.bs 9 1 3 [(.v (.string (ByteArray.mk #[]))),(.v (.string (ByteArray.mk #[]))),(.v (.string (ByteArray.mk #[])))] [(0,1,(.c (.v (.string (ByteArray.mk #[]))))),(1,1,(.c (.v (.string (ByteArray.mk #[97,32,98]))))),(2,1,(.c (.v (.string (ByteArray.mk #[34])))))])) []),(.mk (oC 59 32 [(.t 57),(.t 58)]) [2,3]),(.mk (oP 60 (.ix 1 (.t 56) (cI 0))) [1,0,1,2,3,4]),(.mk (.mk none none (.m (.st 1 (.t 60) (.t 59)))) [5,4,4,0,1,2,3,4])]
def dr_f31_2:List DO:=[(.mk (oP 63 (.fa 0 (.t 7))) []),(.mk (oL 64 63) [0]),(.mk (oV 65 0) []),(.mk (oM 66 (.bs 9 1 2 [(.v (.string (ByteArray.mk #[]))),(.v (.string (ByteArray.mk #[])))] [(0,1,(.c (.v (.string (ByteArray.mk #[97,10,98]))))),(1,1,(.c (.v (.string (ByteArray.mk #[127])))))])) []),(.mk (oC 67 32 [(.t 65),(.t 66)]) [2,3]),(.mk (oM 68 (.bs 9 1 1 [(.v (.string (ByteArray.mk #[])))] [(0,1,(.t 67))])) [4]),(.mk (oM 69 (.app 9 1 16 (.t 64) (.t 68))) [1,5,4]),(.mk (oP 70 (.fa 0 (.t 7))) [0,1,2,3,4,5,6]),(.mk (.mk none none (.m (.st 1 (.t 70) (.t 69)))) [7,6,6,0,1,2,3,4,5,6])]
def fg_f31_0:Fg:=⟨[(0,none),(1,some tI),(5,none),(6,some tI),(7,none),(8,some tI)],[(5,none),(7,none),(18,none),(34,none),(69,none),(77,none),(20700,none),(50000,some tyDice)]⟩
def tb_f31_0:TC:=(.sq (.sq (.reg [(oV 24 8),(oP 25 (.bin false .gtr (.t 24) (cI 0)))]) (.cd (.t 25) .sk (.fg ⟨[(0,none),(1,some tI),(5,none),(6,some tI),(7,none)],[(5,none),(7,some tyBlkT),(18,none),(34,none),(69,none),(77,none),(20700,none),(50000,some tyDice)]⟩ (.ex 2)))) (.sq (.bk 3 (.dr dr_f31_0 [(0,[7,18,34,69,20700]),(1,[7,18,34,69,20700]),(2,[50000]),(3,[]),(4,[32,5032,10032,15032,50000]),(5,[]),(6,[7,18,34,69,5034,10034,15034,20700]),(7,[7,18,34,69,20700]),(8,[7,18,34,69,20700])] (.of [0,1,2,3,4,5,6,7,8]))) (.reg [(oV 26 8),(oP 27 (.bin false .sub (.t 26) (cI 1))),(oV 8 27)])))
def fg_f31_1:Fg:=⟨[(0,none),(1,some tI),(5,none),(6,some tI)],[(5,none),(77,none),(50000,some tyDice)]⟩
def tb_f31_1:TC:=(.sq (.sq (.reg [(oV 11 6),(oP 12 (.bin false .gtr (.t 11) (cI 0)))]) (.cd (.t 12) .sk (.fg ⟨[(5,none)],[(5,none),(77,none),(50000,some tyDice)]⟩ (.ex 0)))) (.sq (.bk 1 (.sq (.reg [(oV 15 0),(oM 16 (.bs 9 1 3 [(.v (.string (ByteArray.mk #[]))),(.v (.string (ByteArray.mk #[]))),(.v (.string (ByteArray.mk #[])))] [(0,1,(.c (.v (.string (ByteArray.mk #[115,101,114,118,101,114]))))),(1,1,(.c (.v (.string (ByteArray.mk #[97]))))),(2,1,(.c (.v (.string (ByteArray.mk #[120,46,49])))))])),(oC 17 32 [(.t 15),(.t 16)]),(oM 18 (.bs 9 1 1 [(.v (.string (ByteArray.mk #[])))] [(0,1,(.t 17))])),(oV 19 0),(oC 20 18 [(.t 19),(cI 9)]),(oP 21 (.bd [(.v (.slice none 0 0)),(.v (.bool false)),(.v (.slice none 0 0)),(.v (.int .i64 0))] [(0,1,(.t 18)),(3,1,(.t 20))])),(oM 7 (.new [(.v (.slice none 0 0)),(.v (.bool false)),(.v (.slice none 0 0)),(.v (.int .i64 0))])),(.mk none none (.m (.st 4 (.t 7) (.t 21))))]) (.sq (.sq (.reg [(oV 22 0),(oC 23 18 [(.t 22),(cI 3)]),(oV 8 23)]) (.bk 2 (.nf 7 0 9 20700 (.lp 0 fg_f31_0 tb_f31_0)))) (.sq (.sq (.reg [(oV 36 1),(oP 37 (.bin false .gtr (.t 36) (cI 0))),(oV 38 37),(oQ 39 38 true (.mv (.t 0))),(oG 40 38 true (.call 52 [(.t 39),(cI 3)])),(oP 41 (.pick (.t 38) (.t 40) (cB false)))]) (.cd (.t 41) (.sq (.reg [(oP 42 (.fa 1 (.t 7))),(.mk none none (.m (.st 1 (.t 42) (cB true))))]) (.reg [(oV 43 0),(oV 44 1),(oP 45 (.bin false .sub (.t 44) (cI 1))),(oC 46 31 [(.t 43),(.t 45)]),(oP 47 (.fa 2 (.t 7))),(.mk none none (.m (.st 1 (.t 47) (.t 46))))])) .sk)) (.sq (.sq (.reg [(oV 48 0),(oC 49 18 [(.t 48),(cI 24)])]) (.bk 4 (.sq (.reg [(oP 51 (.bin false .eql (.t 49) (cI 0))),(oV 50 51)]) (.cd (.t 50) (.reg [(oP 52 (.fa 0 (.t 7))),(.mk none none (.m (.st 1 (.t 52) (.c (.v (.slice none 0 0))))))]) (.sq (.reg [(oP 54 (.bin false .eql (.t 49) (cI 1))),(oV 53 54)]) (.cd (.t 53) (.dr dr_f31_1 [(0,[7,18,34,69,20700]),(1,[7,18,34,69,20700]),(2,[50000]),(3,[]),(4,[59,5059,10059,15059,50000]),(5,[18,34,69,20700]),(6,[7,18,34,69,20700])] (.of [0,1,2,3,4,5,6])) (.sq (.reg [(oP 62 (.bin false .eql (.t 49) (cI 2))),(oV 61 62)]) (.cd (.t 61) (.dr dr_f31_2 [(0,[7,18,34,69,20700]),(1,[7,18,34,69,20700]),(2,[50000]),(3,[]),(4,[67,5067,10067,15067,50000]),(5,[]),(6,[7,18,34,69,5069,10069,15069,20700]),(7,[7,18,34,69,20700]),(8,[7,18,34,69,20700])] (.of [0,1,2,3,4,5,6,7,8])) (.sq (.reg [(oP 72 (.bin false .eql (.t 49) (cI 3))),(oV 71 72)]) (.cd (.t 71) (.reg [(oP 73 (.fa 1 (.t 7))),(.mk none none (.m (.st 1 (.t 73) (cB false))))]) .sk)))))))))) (.reg [(oV 74 5),(oM 75 (.ld true 4 (.t 7))),(oM 76 (.bs 38 4 1 [(.v (.slice none 0 0)),(.v (.bool false)),(.v (.slice none 0 0)),(.v (.int .i64 0))] [(0,4,(.t 75))])),(oM 77 (.app 38 4 64 (.t 74) (.t 76))),(oV 5 77)])))))) (.reg [(oV 13 6),(oP 14 (.bin false .sub (.t 13) (cI 1))),(oV 6 14)])))
def tc_f31:TC:=(.sq (.reg [(oP 4 (.mv (.c (.v (.slice none 0 0)))))]) (.sq (.reg [(oP 5 (.mv (.c (.v (.slice none 0 0)))))]) (.sq (.sq (.reg [(oV 9 0),(oC 10 18 [(.t 9),(cI 4)]),(oV 6 10)]) (.bk 0 (.nf 7 0 9 20700 (.nw 5 38 (.lp 1 fg_f31_1 tb_f31_1))))) (.sq (.reg [(oV 78 5),(oV 4 78)]) .rt))))
def rv_f31:List (RV×Option Ty):=[((.t 4),some (.sl tyBlkT))]
abbrev sh_f31_0:Sh:=⟨[(0,.ptr 50000 0),(1,.ty tI),(5,.ms 5),(6,.ty tI),(7,.ptr 7 0),(8,.ty tI)],[(5,.arr 38 tyBlkT),(7,.bag [.ms 18,.ty .bool,.nl,.ty tI]),(18,.arr 9 .str),(34,.no),(69,.no),(77,.no),(20700,.no),(50000,.box tyDice)]⟩
def st_f31_0 (x1:Int)(x6:Int)(x8:Int)(y5:(List BlkT))(y7_1:Bool)(y7_3:Int)(y18:(List ByteArray))(y50000:Dice):VS:=sh_f31_0.st ((),x1,(),x6,(),x8,()) (y5,((),y7_1,(),y7_3,()),y18,(),(),(),(),y50000,())
abbrev sh_f31_0_e2:Sh:=⟨[(0,.ptr 50000 0),(1,.ty tI),(5,.ms 5),(6,.ty tI),(7,.ptr 7 0)],[(5,.arr 38 tyBlkT),(7,.bag [.ms 18,.ty .bool,.nl,.ty tI]),(18,.arr 9 .str),(34,.no),(69,.no),(77,.no),(20700,.no),(50000,.box tyDice)]⟩
def st_f31_0_e2 (x1:Int)(x6:Int)(y5:(List BlkT))(y7_1:Bool)(y7_3:Int)(y18:(List ByteArray))(y50000:Dice):VS:=sh_f31_0_e2.st ((),x1,(),x6,(),()) (y5,((),y7_1,(),y7_3,()),y18,(),(),(),(),y50000,())
-- loop 0: (x1 : Int) (x6 : Int) (x8 : Int) (y5 : (List BlkT)) (y7_1 : Bool) (y7_3 : Int) (y18 : (List ByteArray)) (y50000 : Dice); out: ('exit', 2) (x1 : Int) (x6 : Int) (y5 : (List BlkT)) (y7_1 : Bool) (y7_3 : Int) (y18 : (List ByteArray)) (y50000 : Dice)
abbrev sh_f31_1:Sh:=⟨[(0,.ptr 50000 0),(1,.ty tI),(5,.ms 5),(6,.ty tI)],[(5,.arr 38 tyBlkT),(77,.no),(50000,.box tyDice)]⟩
def st_f31_1 (x1:Int)(x6:Int)(y5:(List BlkT))(y50000:Dice):VS:=sh_f31_1.st ((),x1,(),x6,()) (y5,(),y50000,())
abbrev sh_f31_1_e0:Sh:=⟨[(5,.ms 5)],[(5,.arr 38 tyBlkT),(77,.no),(50000,.box tyDice)]⟩
def st_f31_1_e0 (y5:(List BlkT))(y50000:Dice):VS:=sh_f31_1_e0.st ((),()) (y5,(),y50000,())
-- loop 1: (x1 : Int) (x6 : Int) (y5 : (List BlkT)) (y50000 : Dice); out: ('exit', 0) (y5 : (List BlkT)) (y50000 : Dice)
def L_f31_0:VS->Option (Bool×List (Bool×Exit×VS)):=mkL sh_f31_0 (fun x y=>(lb0 x.2.2.2.2.2.1 y.2.2.1 y.2.2.2.2.2.2.2.1)) (fun x y=>[(true,.exit 2,st_f31_0_e2 (x.2.1) (x.2.2.2.1) (y.1) (y.2.1.2.1) (y.2.1.2.2.2.1) ((lk0 x.2.2.2.2.2.1.toNat y.2.2.1 y.2.2.2.2.2.2.2.1).1) ((lk0 x.2.2.2.2.2.1.toNat y.2.2.1 y.2.2.2.2.2.2.2.1).2))])
def L_f31_1:VS->Option (Bool×List (Bool×Exit×VS)):=mkL sh_f31_1 (fun x y=>(lb1 x.2.1 x.2.2.2.1 y.1 y.2.2.1)) (fun x y=>[(true,.exit 0,st_f31_1_e0 ((lk1 (lsRec x.2.1) (igt x.2.1 0) x.2.2.2.1.toNat y.1 y.2.2.1).1) ((lk1 (lsRec x.2.1) (igt x.2.1 0) x.2.2.2.1.toNat y.1 y.2.2.1).2))])
def g_f31:G:=⟨TYs,[18],79,EL [(18,sp_f18),(31,sp_f31R),(32,sp_f32),(52,sp_f52)],keeps,(Ls [L_f31_0,L_f31_1]),IL [],RL []⟩
def b_f31_0 (x1:Int)(x6:Int)(x8:Int)(y5:(List BlkT))(y7_1:Bool)(y7_3:Int)(y18:(List ByteArray))(y50000:Dice):Option (Exit×VS):=
 br ((igt x8 0))
  (br ((wdGOk y50000 ([(ByteArray.mk #[118]),(ByteArray.mk #[]),(ByteArray.mk #[97,32,98]),(ByteArray.mk #[113,34,114]),(ByteArray.mk #[98,92,99]),(ByteArray.mk #[35,32,120]),(ByteArray.mk #[59]),(ByteArray.mk #[116,9,117])])))
   (br (cApp y18 ([(dwdG y50000 ([(ByteArray.mk #[118]),(ByteArray.mk #[]),(ByteArray.mk #[97,32,98]),(ByteArray.mk #[113,34,114]),(ByteArray.mk #[98,92,99]),(ByteArray.mk #[35,32,120]),(ByteArray.mk #[59]),(ByteArray.mk #[116,9,117])]))]) 16)
    (some (.normal,st_f31_0 x1 x6 (isub .i64 x8 1) y5 y7_1 y7_3 (y18++([(dwdG y50000 ([(ByteArray.mk #[118]),(ByteArray.mk #[]),(ByteArray.mk #[97,32,98]),(ByteArray.mk #[113,34,114]),(ByteArray.mk #[98,92,99]),(ByteArray.mk #[35,32,120]),(ByteArray.mk #[59]),(ByteArray.mk #[116,9,117])]))])) (dwdGN y50000 ([(ByteArray.mk #[118]),(ByteArray.mk #[]),(ByteArray.mk #[97,32,98]),(ByteArray.mk #[113,34,114]),(ByteArray.mk #[98,92,99]),(ByteArray.mk #[35,32,120]),(ByteArray.mk #[59]),(ByteArray.mk #[116,9,117])]))))
    (none))
   (none))
  (some (.exit 2,st_f31_0_e2 x1 x6 y5 y7_1 y7_3 y18 y50000))
noncomputable def lp_f31_0 (x1:Int)(x6:Int)(x8:Int)(y5:(List BlkT))(y7_1:Bool)(y7_3:Int)(y18:(List ByteArray))(y50000:Dice):Option (Exit×VS):=loopF (roundF g_f31 fg_f31_0 tb_f31_0) (st_f31_0 x1 x6 x8 y5 y7_1 y7_3 y18 y50000)
noncomputable def n_f31_0 (x1:Int)(x6:Int)(x8:Int)(y5:(List BlkT))(y7_1:Bool)(y7_3:Int)(y18:(List ByteArray))(y50000:Dice):Option (Exit×VS):=
 br ((igt x8 0))
  (br ((wdGOk y50000 ([(ByteArray.mk #[118]),(ByteArray.mk #[]),(ByteArray.mk #[97,32,98]),(ByteArray.mk #[113,34,114]),(ByteArray.mk #[98,92,99]),(ByteArray.mk #[35,32,120]),(ByteArray.mk #[59]),(ByteArray.mk #[116,9,117])])))
   (br (cApp y18 ([(dwdG y50000 ([(ByteArray.mk #[118]),(ByteArray.mk #[]),(ByteArray.mk #[97,32,98]),(ByteArray.mk #[113,34,114]),(ByteArray.mk #[98,92,99]),(ByteArray.mk #[35,32,120]),(ByteArray.mk #[59]),(ByteArray.mk #[116,9,117])]))]) 16)
    (lp_f31_0 x1 x6 (isub .i64 x8 1) y5 y7_1 y7_3 (y18++([(dwdG y50000 ([(ByteArray.mk #[118]),(ByteArray.mk #[]),(ByteArray.mk #[97,32,98]),(ByteArray.mk #[113,34,114]),(ByteArray.mk #[98,92,99]),(ByteArray.mk #[35,32,120]),(ByteArray.mk #[59]),(ByteArray.mk #[116,9,117])]))])) (dwdGN y50000 ([(ByteArray.mk #[118]),(ByteArray.mk #[]),(ByteArray.mk #[97,32,98]),(ByteArray.mk #[113,34,114]),(ByteArray.mk #[98,92,99]),(ByteArray.mk #[35,32,120]),(ByteArray.mk #[59]),(ByteArray.mk #[116,9,117])])))
    (none))
   (none))
  (some (.exit 2,st_f31_0_e2 x1 x6 y5 y7_1 y7_3 y18 y50000))
def la_f31_0 (x1:Int)(x6:Int)(x8:Int)(y5:(List BlkT))(y7_1:Bool)(y7_3:Int)(y18:(List ByteArray))(y50000:Dice):Option (Exit×VS):=some (.exit 2,st_f31_0_e2 (x1) (x6) (y5) (y7_1) (y7_3) ((lk0 x8.toNat y18 y50000).1) ((lk0 x8.toNat y18 y50000).2))
theorem be_f31_0 (x1:Int)(x6:Int)(x8:Int)(y5:(List BlkT))(y7_1:Bool)(y7_3:Int)(y18:(List ByteArray))(y50000:Dice):roundF g_f31 fg_f31_0 tb_f31_0 (st_f31_0 x1 x6 x8 y5 y7_1 y7_3 y18 y50000)=b_f31_0 x1 x6 x8 y5 y7_1 y7_3 y18 y50000:=by kernel_rfl
theorem ln_f31_0 (x1:Int)(x6:Int)(x8:Int)(y5:(List BlkT))(y7_1:Bool)(y7_3:Int)(y18:(List ByteArray))(y50000:Dice):lp_f31_0 x1 x6 x8 y5 y7_1 y7_3 y18 y50000=n_f31_0 x1 x6 x8 y5 y7_1 y7_3 y18 y50000:=(loopF_nxt _ _).trans (by
 rw [be_f31_0]
 simp only [b_f31_0,n_f31_0,nxt_br,nxt_n,nxt_r,nxt_e,nxt_0]
 rfl)
def b_f31_1 (x1:Int)(x6:Int)(y5:(List BlkT))(y50000:Dice):Option (Exit×VS):=
 br ((igt x6 0))
  (br ((wdGOk y50000 ([(ByteArray.mk #[115,101,114,118,101,114]),(ByteArray.mk #[97]),(ByteArray.mk #[120,46,49])])))
   (br ((nextOk (dwdGN y50000 ([(ByteArray.mk #[115,101,114,118,101,114]),(ByteArray.mk #[97]),(ByteArray.mk #[120,46,49])])) 9))
    (br ((nextOk (dnext (dwdGN y50000 ([(ByteArray.mk #[115,101,114,118,101,114]),(ByteArray.mk #[97]),(ByteArray.mk #[120,46,49])])) 9) 3))
     (br ((lb0 (dval (dnext (dwdGN y50000 ([(ByteArray.mk #[115,101,114,118,101,114]),(ByteArray.mk #[97]),(ByteArray.mk #[120,46,49])])) 9) 3) ([(dwdG y50000 ([(ByteArray.mk #[115,101,114,118,101,114]),(ByteArray.mk #[97]),(ByteArray.mk #[120,46,49])]))]) (dnext (dnext (dwdGN y50000 ([(ByteArray.mk #[115,101,114,118,101,114]),(ByteArray.mk #[97]),(ByteArray.mk #[120,46,49])])) 9) 3)))
      (br ((igt (x1) 0))
       (br ((oneOk ((lk0 (dval (dnext (dwdGN y50000 ([(ByteArray.mk #[115,101,114,118,101,114]),(ByteArray.mk #[97]),(ByteArray.mk #[120,46,49])])) 9) 3).toNat ([(dwdG y50000 ([(ByteArray.mk #[115,101,114,118,101,114]),(ByteArray.mk #[97]),(ByteArray.mk #[120,46,49])]))]) (dnext (dnext (dwdGN y50000 ([(ByteArray.mk #[115,101,114,118,101,114]),(ByteArray.mk #[97]),(ByteArray.mk #[120,46,49])])) 9) 3)).2) 3))
        (br ((done ((lk0 (dval (dnext (dwdGN y50000 ([(ByteArray.mk #[115,101,114,118,101,114]),(ByteArray.mk #[97]),(ByteArray.mk #[120,46,49])])) 9) 3).toNat ([(dwdG y50000 ([(ByteArray.mk #[115,101,114,118,101,114]),(ByteArray.mk #[97]),(ByteArray.mk #[120,46,49])]))]) (dnext (dnext (dwdGN y50000 ([(ByteArray.mk #[115,101,114,118,101,114]),(ByteArray.mk #[97]),(ByteArray.mk #[120,46,49])])) 9) 3)).2) 3))
         (br ((ls7S fuel (dnext ((lk0 (dval (dnext (dwdGN y50000 ([(ByteArray.mk #[115,101,114,118,101,114]),(ByteArray.mk #[97]),(ByteArray.mk #[120,46,49])])) 9) 3).toNat ([(dwdG y50000 ([(ByteArray.mk #[115,101,114,118,101,114]),(ByteArray.mk #[97]),(ByteArray.mk #[120,46,49])]))]) (dnext (dnext (dwdGN y50000 ([(ByteArray.mk #[115,101,114,118,101,114]),(ByteArray.mk #[97]),(ByteArray.mk #[120,46,49])])) 9) 3)).2) 3) (isub .i64 (x1) 1)))
          (br ((nextOk (ls7N (dnext ((lk0 (dval (dnext (dwdGN y50000 ([(ByteArray.mk #[115,101,114,118,101,114]),(ByteArray.mk #[97]),(ByteArray.mk #[120,46,49])])) 9) 3).toNat ([(dwdG y50000 ([(ByteArray.mk #[115,101,114,118,101,114]),(ByteArray.mk #[97]),(ByteArray.mk #[120,46,49])]))]) (dnext (dnext (dwdGN y50000 ([(ByteArray.mk #[115,101,114,118,101,114]),(ByteArray.mk #[97]),(ByteArray.mk #[120,46,49])])) 9) 3)).2) 3) (isub .i64 (x1) 1)) 24))
           (br ((ieq (dval (ls7N (dnext ((lk0 (dval (dnext (dwdGN y50000 ([(ByteArray.mk #[115,101,114,118,101,114]),(ByteArray.mk #[97]),(ByteArray.mk #[120,46,49])])) 9) 3).toNat ([(dwdG y50000 ([(ByteArray.mk #[115,101,114,118,101,114]),(ByteArray.mk #[97]),(ByteArray.mk #[120,46,49])]))]) (dnext (dnext (dwdGN y50000 ([(ByteArray.mk #[115,101,114,118,101,114]),(ByteArray.mk #[97]),(ByteArray.mk #[120,46,49])])) 9) 3)).2) 3) (isub .i64 (x1) 1)) 24) 0))
            (br (cApp (y5) ([(([]:List ByteArray),(true,((List.map Blk.of (ls7F (dnext ((lk0 (dval (dnext (dwdGN y50000 ([(ByteArray.mk #[115,101,114,118,101,114]),(ByteArray.mk #[97]),(ByteArray.mk #[120,46,49])])) 9) 3).toNat ([(dwdG y50000 ([(ByteArray.mk #[115,101,114,118,101,114]),(ByteArray.mk #[97]),(ByteArray.mk #[120,46,49])]))]) (dnext (dnext (dwdGN y50000 ([(ByteArray.mk #[115,101,114,118,101,114]),(ByteArray.mk #[97]),(ByteArray.mk #[120,46,49])])) 9) 3)).2) 3) (isub .i64 (x1) 1))),(((dval (dwdGN y50000 ([(ByteArray.mk #[115,101,114,118,101,114]),(ByteArray.mk #[97]),(ByteArray.mk #[120,46,49])])) 9)),()))))]) 64)
             (some (.normal,st_f31_1 (x1) (isub .i64 (x6) 1) ((y5)++([(([]:List ByteArray),(true,((List.map Blk.of (ls7F (dnext ((lk0 (dval (dnext (dwdGN y50000 ([(ByteArray.mk #[115,101,114,118,101,114]),(ByteArray.mk #[97]),(ByteArray.mk #[120,46,49])])) 9) 3).toNat ([(dwdG y50000 ([(ByteArray.mk #[115,101,114,118,101,114]),(ByteArray.mk #[97]),(ByteArray.mk #[120,46,49])]))]) (dnext (dnext (dwdGN y50000 ([(ByteArray.mk #[115,101,114,118,101,114]),(ByteArray.mk #[97]),(ByteArray.mk #[120,46,49])])) 9) 3)).2) 3) (isub .i64 (x1) 1))),(((dval (dwdGN y50000 ([(ByteArray.mk #[115,101,114,118,101,114]),(ByteArray.mk #[97]),(ByteArray.mk #[120,46,49])])) 9)),()))))])) (dnext (ls7N (dnext ((lk0 (dval (dnext (dwdGN y50000 ([(ByteArray.mk #[115,101,114,118,101,114]),(ByteArray.mk #[97]),(ByteArray.mk #[120,46,49])])) 9) 3).toNat ([(dwdG y50000 ([(ByteArray.mk #[115,101,114,118,101,114]),(ByteArray.mk #[97]),(ByteArray.mk #[120,46,49])]))]) (dnext (dnext (dwdGN y50000 ([(ByteArray.mk #[115,101,114,118,101,114]),(ByteArray.mk #[97]),(ByteArray.mk #[120,46,49])])) 9) 3)).2) 3) (isub .i64 (x1) 1)) 24)))
             (none))
            (br ((ieq (dval (ls7N (dnext ((lk0 (dval (dnext (dwdGN y50000 ([(ByteArray.mk #[115,101,114,118,101,114]),(ByteArray.mk #[97]),(ByteArray.mk #[120,46,49])])) 9) 3).toNat ([(dwdG y50000 ([(ByteArray.mk #[115,101,114,118,101,114]),(ByteArray.mk #[97]),(ByteArray.mk #[120,46,49])]))]) (dnext (dnext (dwdGN y50000 ([(ByteArray.mk #[115,101,114,118,101,114]),(ByteArray.mk #[97]),(ByteArray.mk #[120,46,49])])) 9) 3)).2) 3) (isub .i64 (x1) 1)) 24) 1))
             (br ((wdGOk (dnext (ls7N (dnext ((lk0 (dval (dnext (dwdGN y50000 ([(ByteArray.mk #[115,101,114,118,101,114]),(ByteArray.mk #[97]),(ByteArray.mk #[120,46,49])])) 9) 3).toNat ([(dwdG y50000 ([(ByteArray.mk #[115,101,114,118,101,114]),(ByteArray.mk #[97]),(ByteArray.mk #[120,46,49])]))]) (dnext (dnext (dwdGN y50000 ([(ByteArray.mk #[115,101,114,118,101,114]),(ByteArray.mk #[97]),(ByteArray.mk #[120,46,49])])) 9) 3)).2) 3) (isub .i64 (x1) 1)) 24) ([(ByteArray.mk #[]),(ByteArray.mk #[97,32,98]),(ByteArray.mk #[34])])))
              (br (cIx ((lk0 (dval (dnext (dwdGN y50000 ([(ByteArray.mk #[115,101,114,118,101,114]),(ByteArray.mk #[97]),(ByteArray.mk #[120,46,49])])) 9) 3).toNat ([(dwdG y50000 ([(ByteArray.mk #[115,101,114,118,101,114]),(ByteArray.mk #[97]),(ByteArray.mk #[120,46,49])]))]) (dnext (dnext (dwdGN y50000 ([(ByteArray.mk #[115,101,114,118,101,114]),(ByteArray.mk #[97]),(ByteArray.mk #[120,46,49])])) 9) 3)).1) 0)
               (br (cLd ((lk0 (dval (dnext (dwdGN y50000 ([(ByteArray.mk #[115,101,114,118,101,114]),(ByteArray.mk #[97]),(ByteArray.mk #[120,46,49])])) 9) 3).toNat ([(dwdG y50000 ([(ByteArray.mk #[115,101,114,118,101,114]),(ByteArray.mk #[97]),(ByteArray.mk #[120,46,49])]))]) (dnext (dnext (dwdGN y50000 ([(ByteArray.mk #[115,101,114,118,101,114]),(ByteArray.mk #[97]),(ByteArray.mk #[120,46,49])])) 9) 3)).1) (Int.toNat 0))
                (br (cApp (y5) ([((List.set ((lk0 (dval (dnext (dwdGN y50000 ([(ByteArray.mk #[115,101,114,118,101,114]),(ByteArray.mk #[97]),(ByteArray.mk #[120,46,49])])) 9) 3).toNat ([(dwdG y50000 ([(ByteArray.mk #[115,101,114,118,101,114]),(ByteArray.mk #[97]),(ByteArray.mk #[120,46,49])]))]) (dnext (dnext (dwdGN y50000 ([(ByteArray.mk #[115,101,114,118,101,114]),(ByteArray.mk #[97]),(ByteArray.mk #[120,46,49])])) 9) 3)).1) (Int.toNat 0) (dwdG (dnext (ls7N (dnext ((lk0 (dval (dnext (dwdGN y50000 ([(ByteArray.mk #[115,101,114,118,101,114]),(ByteArray.mk #[97]),(ByteArray.mk #[120,46,49])])) 9) 3).toNat ([(dwdG y50000 ([(ByteArray.mk #[115,101,114,118,101,114]),(ByteArray.mk #[97]),(ByteArray.mk #[120,46,49])]))]) (dnext (dnext (dwdGN y50000 ([(ByteArray.mk #[115,101,114,118,101,114]),(ByteArray.mk #[97]),(ByteArray.mk #[120,46,49])])) 9) 3)).2) 3) (isub .i64 (x1) 1)) 24) ([(ByteArray.mk #[]),(ByteArray.mk #[97,32,98]),(ByteArray.mk #[34])]))),(true,((List.map Blk.of (ls7F (dnext ((lk0 (dval (dnext (dwdGN y50000 ([(ByteArray.mk #[115,101,114,118,101,114]),(ByteArray.mk #[97]),(ByteArray.mk #[120,46,49])])) 9) 3).toNat ([(dwdG y50000 ([(ByteArray.mk #[115,101,114,118,101,114]),(ByteArray.mk #[97]),(ByteArray.mk #[120,46,49])]))]) (dnext (dnext (dwdGN y50000 ([(ByteArray.mk #[115,101,114,118,101,114]),(ByteArray.mk #[97]),(ByteArray.mk #[120,46,49])])) 9) 3)).2) 3) (isub .i64 (x1) 1))),(((dval (dwdGN y50000 ([(ByteArray.mk #[115,101,114,118,101,114]),(ByteArray.mk #[97]),(ByteArray.mk #[120,46,49])])) 9)),()))))]) 64)
                 (some (.normal,st_f31_1 (x1) (isub .i64 (x6) 1) ((y5)++([((List.set ((lk0 (dval (dnext (dwdGN y50000 ([(ByteArray.mk #[115,101,114,118,101,114]),(ByteArray.mk #[97]),(ByteArray.mk #[120,46,49])])) 9) 3).toNat ([(dwdG y50000 ([(ByteArray.mk #[115,101,114,118,101,114]),(ByteArray.mk #[97]),(ByteArray.mk #[120,46,49])]))]) (dnext (dnext (dwdGN y50000 ([(ByteArray.mk #[115,101,114,118,101,114]),(ByteArray.mk #[97]),(ByteArray.mk #[120,46,49])])) 9) 3)).1) (Int.toNat 0) (dwdG (dnext (ls7N (dnext ((lk0 (dval (dnext (dwdGN y50000 ([(ByteArray.mk #[115,101,114,118,101,114]),(ByteArray.mk #[97]),(ByteArray.mk #[120,46,49])])) 9) 3).toNat ([(dwdG y50000 ([(ByteArray.mk #[115,101,114,118,101,114]),(ByteArray.mk #[97]),(ByteArray.mk #[120,46,49])]))]) (dnext (dnext (dwdGN y50000 ([(ByteArray.mk #[115,101,114,118,101,114]),(ByteArray.mk #[97]),(ByteArray.mk #[120,46,49])])) 9) 3)).2) 3) (isub .i64 (x1) 1)) 24) ([(ByteArray.mk #[]),(ByteArray.mk #[97,32,98]),(ByteArray.mk #[34])]))),(true,((List.map Blk.of (ls7F (dnext ((lk0 (dval (dnext (dwdGN y50000 ([(ByteArray.mk #[115,101,114,118,101,114]),(ByteArray.mk #[97]),(ByteArray.mk #[120,46,49])])) 9) 3).toNat ([(dwdG y50000 ([(ByteArray.mk #[115,101,114,118,101,114]),(ByteArray.mk #[97]),(ByteArray.mk #[120,46,49])]))]) (dnext (dnext (dwdGN y50000 ([(ByteArray.mk #[115,101,114,118,101,114]),(ByteArray.mk #[97]),(ByteArray.mk #[120,46,49])])) 9) 3)).2) 3) (isub .i64 (x1) 1))),(((dval (dwdGN y50000 ([(ByteArray.mk #[115,101,114,118,101,114]),(ByteArray.mk #[97]),(ByteArray.mk #[120,46,49])])) 9)),()))))])) (dwdGN (dnext (ls7N (dnext ((lk0 (dval (dnext (dwdGN y50000 ([(ByteArray.mk #[115,101,114,118,101,114]),(ByteArray.mk #[97]),(ByteArray.mk #[120,46,49])])) 9) 3).toNat ([(dwdG y50000 ([(ByteArray.mk #[115,101,114,118,101,114]),(ByteArray.mk #[97]),(ByteArray.mk #[120,46,49])]))]) (dnext (dnext (dwdGN y50000 ([(ByteArray.mk #[115,101,114,118,101,114]),(ByteArray.mk #[97]),(ByteArray.mk #[120,46,49])])) 9) 3)).2) 3) (isub .i64 (x1) 1)) 24) ([(ByteArray.mk #[]),(ByteArray.mk #[97,32,98]),(ByteArray.mk #[34])]))))
                 (none))
                (none))
               (none))
              (none))
             (br ((ieq (dval (ls7N (dnext ((lk0 (dval (dnext (dwdGN y50000 ([(ByteArray.mk #[115,101,114,118,101,114]),(ByteArray.mk #[97]),(ByteArray.mk #[120,46,49])])) 9) 3).toNat ([(dwdG y50000 ([(ByteArray.mk #[115,101,114,118,101,114]),(ByteArray.mk #[97]),(ByteArray.mk #[120,46,49])]))]) (dnext (dnext (dwdGN y50000 ([(ByteArray.mk #[115,101,114,118,101,114]),(ByteArray.mk #[97]),(ByteArray.mk #[120,46,49])])) 9) 3)).2) 3) (isub .i64 (x1) 1)) 24) 2))
              (br ((wdGOk (dnext (ls7N (dnext ((lk0 (dval (dnext (dwdGN y50000 ([(ByteArray.mk #[115,101,114,118,101,114]),(ByteArray.mk #[97]),(ByteArray.mk #[120,46,49])])) 9) 3).toNat ([(dwdG y50000 ([(ByteArray.mk #[115,101,114,118,101,114]),(ByteArray.mk #[97]),(ByteArray.mk #[120,46,49])]))]) (dnext (dnext (dwdGN y50000 ([(ByteArray.mk #[115,101,114,118,101,114]),(ByteArray.mk #[97]),(ByteArray.mk #[120,46,49])])) 9) 3)).2) 3) (isub .i64 (x1) 1)) 24) ([(ByteArray.mk #[97,10,98]),(ByteArray.mk #[127])])))
               (br (cApp ((lk0 (dval (dnext (dwdGN y50000 ([(ByteArray.mk #[115,101,114,118,101,114]),(ByteArray.mk #[97]),(ByteArray.mk #[120,46,49])])) 9) 3).toNat ([(dwdG y50000 ([(ByteArray.mk #[115,101,114,118,101,114]),(ByteArray.mk #[97]),(ByteArray.mk #[120,46,49])]))]) (dnext (dnext (dwdGN y50000 ([(ByteArray.mk #[115,101,114,118,101,114]),(ByteArray.mk #[97]),(ByteArray.mk #[120,46,49])])) 9) 3)).1) ([(dwdG (dnext (ls7N (dnext ((lk0 (dval (dnext (dwdGN y50000 ([(ByteArray.mk #[115,101,114,118,101,114]),(ByteArray.mk #[97]),(ByteArray.mk #[120,46,49])])) 9) 3).toNat ([(dwdG y50000 ([(ByteArray.mk #[115,101,114,118,101,114]),(ByteArray.mk #[97]),(ByteArray.mk #[120,46,49])]))]) (dnext (dnext (dwdGN y50000 ([(ByteArray.mk #[115,101,114,118,101,114]),(ByteArray.mk #[97]),(ByteArray.mk #[120,46,49])])) 9) 3)).2) 3) (isub .i64 (x1) 1)) 24) ([(ByteArray.mk #[97,10,98]),(ByteArray.mk #[127])]))]) 16)
                (br (cApp (y5) ([((((lk0 (dval (dnext (dwdGN y50000 ([(ByteArray.mk #[115,101,114,118,101,114]),(ByteArray.mk #[97]),(ByteArray.mk #[120,46,49])])) 9) 3).toNat ([(dwdG y50000 ([(ByteArray.mk #[115,101,114,118,101,114]),(ByteArray.mk #[97]),(ByteArray.mk #[120,46,49])]))]) (dnext (dnext (dwdGN y50000 ([(ByteArray.mk #[115,101,114,118,101,114]),(ByteArray.mk #[97]),(ByteArray.mk #[120,46,49])])) 9) 3)).1)++([(dwdG (dnext (ls7N (dnext ((lk0 (dval (dnext (dwdGN y50000 ([(ByteArray.mk #[115,101,114,118,101,114]),(ByteArray.mk #[97]),(ByteArray.mk #[120,46,49])])) 9) 3).toNat ([(dwdG y50000 ([(ByteArray.mk #[115,101,114,118,101,114]),(ByteArray.mk #[97]),(ByteArray.mk #[120,46,49])]))]) (dnext (dnext (dwdGN y50000 ([(ByteArray.mk #[115,101,114,118,101,114]),(ByteArray.mk #[97]),(ByteArray.mk #[120,46,49])])) 9) 3)).2) 3) (isub .i64 (x1) 1)) 24) ([(ByteArray.mk #[97,10,98]),(ByteArray.mk #[127])]))])),(true,((List.map Blk.of (ls7F (dnext ((lk0 (dval (dnext (dwdGN y50000 ([(ByteArray.mk #[115,101,114,118,101,114]),(ByteArray.mk #[97]),(ByteArray.mk #[120,46,49])])) 9) 3).toNat ([(dwdG y50000 ([(ByteArray.mk #[115,101,114,118,101,114]),(ByteArray.mk #[97]),(ByteArray.mk #[120,46,49])]))]) (dnext (dnext (dwdGN y50000 ([(ByteArray.mk #[115,101,114,118,101,114]),(ByteArray.mk #[97]),(ByteArray.mk #[120,46,49])])) 9) 3)).2) 3) (isub .i64 (x1) 1))),(((dval (dwdGN y50000 ([(ByteArray.mk #[115,101,114,118,101,114]),(ByteArray.mk #[97]),(ByteArray.mk #[120,46,49])])) 9)),()))))]) 64)
                 (some (.normal,st_f31_1 (x1) (isub .i64 (x6) 1) ((y5)++([((((lk0 (dval (dnext (dwdGN y50000 ([(ByteArray.mk #[115,101,114,118,101,114]),(ByteArray.mk #[97]),(ByteArray.mk #[120,46,49])])) 9) 3).toNat ([(dwdG y50000 ([(ByteArray.mk #[115,101,114,118,101,114]),(ByteArray.mk #[97]),(ByteArray.mk #[120,46,49])]))]) (dnext (dnext (dwdGN y50000 ([(ByteArray.mk #[115,101,114,118,101,114]),(ByteArray.mk #[97]),(ByteArray.mk #[120,46,49])])) 9) 3)).1)++([(dwdG (dnext (ls7N (dnext ((lk0 (dval (dnext (dwdGN y50000 ([(ByteArray.mk #[115,101,114,118,101,114]),(ByteArray.mk #[97]),(ByteArray.mk #[120,46,49])])) 9) 3).toNat ([(dwdG y50000 ([(ByteArray.mk #[115,101,114,118,101,114]),(ByteArray.mk #[97]),(ByteArray.mk #[120,46,49])]))]) (dnext (dnext (dwdGN y50000 ([(ByteArray.mk #[115,101,114,118,101,114]),(ByteArray.mk #[97]),(ByteArray.mk #[120,46,49])])) 9) 3)).2) 3) (isub .i64 (x1) 1)) 24) ([(ByteArray.mk #[97,10,98]),(ByteArray.mk #[127])]))])),(true,((List.map Blk.of (ls7F (dnext ((lk0 (dval (dnext (dwdGN y50000 ([(ByteArray.mk #[115,101,114,118,101,114]),(ByteArray.mk #[97]),(ByteArray.mk #[120,46,49])])) 9) 3).toNat ([(dwdG y50000 ([(ByteArray.mk #[115,101,114,118,101,114]),(ByteArray.mk #[97]),(ByteArray.mk #[120,46,49])]))]) (dnext (dnext (dwdGN y50000 ([(ByteArray.mk #[115,101,114,118,101,114]),(ByteArray.mk #[97]),(ByteArray.mk #[120,46,49])])) 9) 3)).2) 3) (isub .i64 (x1) 1))),(((dval (dwdGN y50000 ([(ByteArray.mk #[115,101,114,118,101,114]),(ByteArray.mk #[97]),(ByteArray.mk #[120,46,49])])) 9)),()))))])) (dwdGN (dnext (ls7N (dnext ((lk0 (dval (dnext (dwdGN y50000 ([(ByteArray.mk #[115,101,114,118,101,114]),(ByteArray.mk #[97]),(ByteArray.mk #[120,46,49])])) 9) 3).toNat ([(dwdG y50000 ([(ByteArray.mk #[115,101,114,118,101,114]),(ByteArray.mk #[97]),(ByteArray.mk #[120,46,49])]))]) (dnext (dnext (dwdGN y50000 ([(ByteArray.mk #[115,101,114,118,101,114]),(ByteArray.mk #[97]),(ByteArray.mk #[120,46,49])])) 9) 3)).2) 3) (isub .i64 (x1) 1)) 24) ([(ByteArray.mk #[97,10,98]),(ByteArray.mk #[127])]))))
                 (none))
                (none))
               (none))
              (br ((ieq (dval (ls7N (dnext ((lk0 (dval (dnext (dwdGN y50000 ([(ByteArray.mk #[115,101,114,118,101,114]),(ByteArray.mk #[97]),(ByteArray.mk #[120,46,49])])) 9) 3).toNat ([(dwdG y50000 ([(ByteArray.mk #[115,101,114,118,101,114]),(ByteArray.mk #[97]),(ByteArray.mk #[120,46,49])]))]) (dnext (dnext (dwdGN y50000 ([(ByteArray.mk #[115,101,114,118,101,114]),(ByteArray.mk #[97]),(ByteArray.mk #[120,46,49])])) 9) 3)).2) 3) (isub .i64 (x1) 1)) 24) 3))
               (br (cApp (y5) ([(((lk0 (dval (dnext (dwdGN y50000 ([(ByteArray.mk #[115,101,114,118,101,114]),(ByteArray.mk #[97]),(ByteArray.mk #[120,46,49])])) 9) 3).toNat ([(dwdG y50000 ([(ByteArray.mk #[115,101,114,118,101,114]),(ByteArray.mk #[97]),(ByteArray.mk #[120,46,49])]))]) (dnext (dnext (dwdGN y50000 ([(ByteArray.mk #[115,101,114,118,101,114]),(ByteArray.mk #[97]),(ByteArray.mk #[120,46,49])])) 9) 3)).1),(false,((List.map Blk.of (ls7F (dnext ((lk0 (dval (dnext (dwdGN y50000 ([(ByteArray.mk #[115,101,114,118,101,114]),(ByteArray.mk #[97]),(ByteArray.mk #[120,46,49])])) 9) 3).toNat ([(dwdG y50000 ([(ByteArray.mk #[115,101,114,118,101,114]),(ByteArray.mk #[97]),(ByteArray.mk #[120,46,49])]))]) (dnext (dnext (dwdGN y50000 ([(ByteArray.mk #[115,101,114,118,101,114]),(ByteArray.mk #[97]),(ByteArray.mk #[120,46,49])])) 9) 3)).2) 3) (isub .i64 (x1) 1))),(((dval (dwdGN y50000 ([(ByteArray.mk #[115,101,114,118,101,114]),(ByteArray.mk #[97]),(ByteArray.mk #[120,46,49])])) 9)),()))))]) 64)
                (some (.normal,st_f31_1 (x1) (isub .i64 (x6) 1) ((y5)++([(((lk0 (dval (dnext (dwdGN y50000 ([(ByteArray.mk #[115,101,114,118,101,114]),(ByteArray.mk #[97]),(ByteArray.mk #[120,46,49])])) 9) 3).toNat ([(dwdG y50000 ([(ByteArray.mk #[115,101,114,118,101,114]),(ByteArray.mk #[97]),(ByteArray.mk #[120,46,49])]))]) (dnext (dnext (dwdGN y50000 ([(ByteArray.mk #[115,101,114,118,101,114]),(ByteArray.mk #[97]),(ByteArray.mk #[120,46,49])])) 9) 3)).1),(false,((List.map Blk.of (ls7F (dnext ((lk0 (dval (dnext (dwdGN y50000 ([(ByteArray.mk #[115,101,114,118,101,114]),(ByteArray.mk #[97]),(ByteArray.mk #[120,46,49])])) 9) 3).toNat ([(dwdG y50000 ([(ByteArray.mk #[115,101,114,118,101,114]),(ByteArray.mk #[97]),(ByteArray.mk #[120,46,49])]))]) (dnext (dnext (dwdGN y50000 ([(ByteArray.mk #[115,101,114,118,101,114]),(ByteArray.mk #[97]),(ByteArray.mk #[120,46,49])])) 9) 3)).2) 3) (isub .i64 (x1) 1))),(((dval (dwdGN y50000 ([(ByteArray.mk #[115,101,114,118,101,114]),(ByteArray.mk #[97]),(ByteArray.mk #[120,46,49])])) 9)),()))))])) (dnext (ls7N (dnext ((lk0 (dval (dnext (dwdGN y50000 ([(ByteArray.mk #[115,101,114,118,101,114]),(ByteArray.mk #[97]),(ByteArray.mk #[120,46,49])])) 9) 3).toNat ([(dwdG y50000 ([(ByteArray.mk #[115,101,114,118,101,114]),(ByteArray.mk #[97]),(ByteArray.mk #[120,46,49])]))]) (dnext (dnext (dwdGN y50000 ([(ByteArray.mk #[115,101,114,118,101,114]),(ByteArray.mk #[97]),(ByteArray.mk #[120,46,49])])) 9) 3)).2) 3) (isub .i64 (x1) 1)) 24)))
                (none))
               (br (cApp (y5) ([(((lk0 (dval (dnext (dwdGN y50000 ([(ByteArray.mk #[115,101,114,118,101,114]),(ByteArray.mk #[97]),(ByteArray.mk #[120,46,49])])) 9) 3).toNat ([(dwdG y50000 ([(ByteArray.mk #[115,101,114,118,101,114]),(ByteArray.mk #[97]),(ByteArray.mk #[120,46,49])]))]) (dnext (dnext (dwdGN y50000 ([(ByteArray.mk #[115,101,114,118,101,114]),(ByteArray.mk #[97]),(ByteArray.mk #[120,46,49])])) 9) 3)).1),(true,((List.map Blk.of (ls7F (dnext ((lk0 (dval (dnext (dwdGN y50000 ([(ByteArray.mk #[115,101,114,118,101,114]),(ByteArray.mk #[97]),(ByteArray.mk #[120,46,49])])) 9) 3).toNat ([(dwdG y50000 ([(ByteArray.mk #[115,101,114,118,101,114]),(ByteArray.mk #[97]),(ByteArray.mk #[120,46,49])]))]) (dnext (dnext (dwdGN y50000 ([(ByteArray.mk #[115,101,114,118,101,114]),(ByteArray.mk #[97]),(ByteArray.mk #[120,46,49])])) 9) 3)).2) 3) (isub .i64 (x1) 1))),(((dval (dwdGN y50000 ([(ByteArray.mk #[115,101,114,118,101,114]),(ByteArray.mk #[97]),(ByteArray.mk #[120,46,49])])) 9)),()))))]) 64)
                (some (.normal,st_f31_1 (x1) (isub .i64 (x6) 1) ((y5)++([(((lk0 (dval (dnext (dwdGN y50000 ([(ByteArray.mk #[115,101,114,118,101,114]),(ByteArray.mk #[97]),(ByteArray.mk #[120,46,49])])) 9) 3).toNat ([(dwdG y50000 ([(ByteArray.mk #[115,101,114,118,101,114]),(ByteArray.mk #[97]),(ByteArray.mk #[120,46,49])]))]) (dnext (dnext (dwdGN y50000 ([(ByteArray.mk #[115,101,114,118,101,114]),(ByteArray.mk #[97]),(ByteArray.mk #[120,46,49])])) 9) 3)).1),(true,((List.map Blk.of (ls7F (dnext ((lk0 (dval (dnext (dwdGN y50000 ([(ByteArray.mk #[115,101,114,118,101,114]),(ByteArray.mk #[97]),(ByteArray.mk #[120,46,49])])) 9) 3).toNat ([(dwdG y50000 ([(ByteArray.mk #[115,101,114,118,101,114]),(ByteArray.mk #[97]),(ByteArray.mk #[120,46,49])]))]) (dnext (dnext (dwdGN y50000 ([(ByteArray.mk #[115,101,114,118,101,114]),(ByteArray.mk #[97]),(ByteArray.mk #[120,46,49])])) 9) 3)).2) 3) (isub .i64 (x1) 1))),(((dval (dwdGN y50000 ([(ByteArray.mk #[115,101,114,118,101,114]),(ByteArray.mk #[97]),(ByteArray.mk #[120,46,49])])) 9)),()))))])) (dnext (ls7N (dnext ((lk0 (dval (dnext (dwdGN y50000 ([(ByteArray.mk #[115,101,114,118,101,114]),(ByteArray.mk #[97]),(ByteArray.mk #[120,46,49])])) 9) 3).toNat ([(dwdG y50000 ([(ByteArray.mk #[115,101,114,118,101,114]),(ByteArray.mk #[97]),(ByteArray.mk #[120,46,49])]))]) (dnext (dnext (dwdGN y50000 ([(ByteArray.mk #[115,101,114,118,101,114]),(ByteArray.mk #[97]),(ByteArray.mk #[120,46,49])])) 9) 3)).2) 3) (isub .i64 (x1) 1)) 24)))
                (none))))))
           (none))
          (none))
         (br ((nextOk (dnext ((lk0 (dval (dnext (dwdGN y50000 ([(ByteArray.mk #[115,101,114,118,101,114]),(ByteArray.mk #[97]),(ByteArray.mk #[120,46,49])])) 9) 3).toNat ([(dwdG y50000 ([(ByteArray.mk #[115,101,114,118,101,114]),(ByteArray.mk #[97]),(ByteArray.mk #[120,46,49])]))]) (dnext (dnext (dwdGN y50000 ([(ByteArray.mk #[115,101,114,118,101,114]),(ByteArray.mk #[97]),(ByteArray.mk #[120,46,49])])) 9) 3)).2) 3) 24))
          (br ((ieq (dval (dnext ((lk0 (dval (dnext (dwdGN y50000 ([(ByteArray.mk #[115,101,114,118,101,114]),(ByteArray.mk #[97]),(ByteArray.mk #[120,46,49])])) 9) 3).toNat ([(dwdG y50000 ([(ByteArray.mk #[115,101,114,118,101,114]),(ByteArray.mk #[97]),(ByteArray.mk #[120,46,49])]))]) (dnext (dnext (dwdGN y50000 ([(ByteArray.mk #[115,101,114,118,101,114]),(ByteArray.mk #[97]),(ByteArray.mk #[120,46,49])])) 9) 3)).2) 3) 24) 0))
           (br (cApp (y5) ([(([]:List ByteArray),((false),(([]:List Blk),(((dval (dwdGN y50000 ([(ByteArray.mk #[115,101,114,118,101,114]),(ByteArray.mk #[97]),(ByteArray.mk #[120,46,49])])) 9)),()))))]) 64)
            (some (.normal,st_f31_1 (x1) (isub .i64 (x6) 1) ((y5)++([(([]:List ByteArray),((false),(([]:List Blk),(((dval (dwdGN y50000 ([(ByteArray.mk #[115,101,114,118,101,114]),(ByteArray.mk #[97]),(ByteArray.mk #[120,46,49])])) 9)),()))))])) (dnext (dnext ((lk0 (dval (dnext (dwdGN y50000 ([(ByteArray.mk #[115,101,114,118,101,114]),(ByteArray.mk #[97]),(ByteArray.mk #[120,46,49])])) 9) 3).toNat ([(dwdG y50000 ([(ByteArray.mk #[115,101,114,118,101,114]),(ByteArray.mk #[97]),(ByteArray.mk #[120,46,49])]))]) (dnext (dnext (dwdGN y50000 ([(ByteArray.mk #[115,101,114,118,101,114]),(ByteArray.mk #[97]),(ByteArray.mk #[120,46,49])])) 9) 3)).2) 3) 24)))
            (none))
           (br ((ieq (dval (dnext ((lk0 (dval (dnext (dwdGN y50000 ([(ByteArray.mk #[115,101,114,118,101,114]),(ByteArray.mk #[97]),(ByteArray.mk #[120,46,49])])) 9) 3).toNat ([(dwdG y50000 ([(ByteArray.mk #[115,101,114,118,101,114]),(ByteArray.mk #[97]),(ByteArray.mk #[120,46,49])]))]) (dnext (dnext (dwdGN y50000 ([(ByteArray.mk #[115,101,114,118,101,114]),(ByteArray.mk #[97]),(ByteArray.mk #[120,46,49])])) 9) 3)).2) 3) 24) 1))
            (br ((wdGOk (dnext (dnext ((lk0 (dval (dnext (dwdGN y50000 ([(ByteArray.mk #[115,101,114,118,101,114]),(ByteArray.mk #[97]),(ByteArray.mk #[120,46,49])])) 9) 3).toNat ([(dwdG y50000 ([(ByteArray.mk #[115,101,114,118,101,114]),(ByteArray.mk #[97]),(ByteArray.mk #[120,46,49])]))]) (dnext (dnext (dwdGN y50000 ([(ByteArray.mk #[115,101,114,118,101,114]),(ByteArray.mk #[97]),(ByteArray.mk #[120,46,49])])) 9) 3)).2) 3) 24) ([(ByteArray.mk #[]),(ByteArray.mk #[97,32,98]),(ByteArray.mk #[34])])))
             (br (cIx ((lk0 (dval (dnext (dwdGN y50000 ([(ByteArray.mk #[115,101,114,118,101,114]),(ByteArray.mk #[97]),(ByteArray.mk #[120,46,49])])) 9) 3).toNat ([(dwdG y50000 ([(ByteArray.mk #[115,101,114,118,101,114]),(ByteArray.mk #[97]),(ByteArray.mk #[120,46,49])]))]) (dnext (dnext (dwdGN y50000 ([(ByteArray.mk #[115,101,114,118,101,114]),(ByteArray.mk #[97]),(ByteArray.mk #[120,46,49])])) 9) 3)).1) 0)
              (br (cLd ((lk0 (dval (dnext (dwdGN y50000 ([(ByteArray.mk #[115,101,114,118,101,114]),(ByteArray.mk #[97]),(ByteArray.mk #[120,46,49])])) 9) 3).toNat ([(dwdG y50000 ([(ByteArray.mk #[115,101,114,118,101,114]),(ByteArray.mk #[97]),(ByteArray.mk #[120,46,49])]))]) (dnext (dnext (dwdGN y50000 ([(ByteArray.mk #[115,101,114,118,101,114]),(ByteArray.mk #[97]),(ByteArray.mk #[120,46,49])])) 9) 3)).1) (Int.toNat 0))
               (br (cApp (y5) ([((List.set ((lk0 (dval (dnext (dwdGN y50000 ([(ByteArray.mk #[115,101,114,118,101,114]),(ByteArray.mk #[97]),(ByteArray.mk #[120,46,49])])) 9) 3).toNat ([(dwdG y50000 ([(ByteArray.mk #[115,101,114,118,101,114]),(ByteArray.mk #[97]),(ByteArray.mk #[120,46,49])]))]) (dnext (dnext (dwdGN y50000 ([(ByteArray.mk #[115,101,114,118,101,114]),(ByteArray.mk #[97]),(ByteArray.mk #[120,46,49])])) 9) 3)).1) (Int.toNat 0) (dwdG (dnext (dnext ((lk0 (dval (dnext (dwdGN y50000 ([(ByteArray.mk #[115,101,114,118,101,114]),(ByteArray.mk #[97]),(ByteArray.mk #[120,46,49])])) 9) 3).toNat ([(dwdG y50000 ([(ByteArray.mk #[115,101,114,118,101,114]),(ByteArray.mk #[97]),(ByteArray.mk #[120,46,49])]))]) (dnext (dnext (dwdGN y50000 ([(ByteArray.mk #[115,101,114,118,101,114]),(ByteArray.mk #[97]),(ByteArray.mk #[120,46,49])])) 9) 3)).2) 3) 24) ([(ByteArray.mk #[]),(ByteArray.mk #[97,32,98]),(ByteArray.mk #[34])]))),((false),(([]:List Blk),(((dval (dwdGN y50000 ([(ByteArray.mk #[115,101,114,118,101,114]),(ByteArray.mk #[97]),(ByteArray.mk #[120,46,49])])) 9)),()))))]) 64)
                (some (.normal,st_f31_1 (x1) (isub .i64 (x6) 1) ((y5)++([((List.set ((lk0 (dval (dnext (dwdGN y50000 ([(ByteArray.mk #[115,101,114,118,101,114]),(ByteArray.mk #[97]),(ByteArray.mk #[120,46,49])])) 9) 3).toNat ([(dwdG y50000 ([(ByteArray.mk #[115,101,114,118,101,114]),(ByteArray.mk #[97]),(ByteArray.mk #[120,46,49])]))]) (dnext (dnext (dwdGN y50000 ([(ByteArray.mk #[115,101,114,118,101,114]),(ByteArray.mk #[97]),(ByteArray.mk #[120,46,49])])) 9) 3)).1) (Int.toNat 0) (dwdG (dnext (dnext ((lk0 (dval (dnext (dwdGN y50000 ([(ByteArray.mk #[115,101,114,118,101,114]),(ByteArray.mk #[97]),(ByteArray.mk #[120,46,49])])) 9) 3).toNat ([(dwdG y50000 ([(ByteArray.mk #[115,101,114,118,101,114]),(ByteArray.mk #[97]),(ByteArray.mk #[120,46,49])]))]) (dnext (dnext (dwdGN y50000 ([(ByteArray.mk #[115,101,114,118,101,114]),(ByteArray.mk #[97]),(ByteArray.mk #[120,46,49])])) 9) 3)).2) 3) 24) ([(ByteArray.mk #[]),(ByteArray.mk #[97,32,98]),(ByteArray.mk #[34])]))),((false),(([]:List Blk),(((dval (dwdGN y50000 ([(ByteArray.mk #[115,101,114,118,101,114]),(ByteArray.mk #[97]),(ByteArray.mk #[120,46,49])])) 9)),()))))])) (dwdGN (dnext (dnext ((lk0 (dval (dnext (dwdGN y50000 ([(ByteArray.mk #[115,101,114,118,101,114]),(ByteArray.mk #[97]),(ByteArray.mk #[120,46,49])])) 9) 3).toNat ([(dwdG y50000 ([(ByteArray.mk #[115,101,114,118,101,114]),(ByteArray.mk #[97]),(ByteArray.mk #[120,46,49])]))]) (dnext (dnext (dwdGN y50000 ([(ByteArray.mk #[115,101,114,118,101,114]),(ByteArray.mk #[97]),(ByteArray.mk #[120,46,49])])) 9) 3)).2) 3) 24) ([(ByteArray.mk #[]),(ByteArray.mk #[97,32,98]),(ByteArray.mk #[34])]))))
                (none))
               (none))
              (none))
             (none))
            (br ((ieq (dval (dnext ((lk0 (dval (dnext (dwdGN y50000 ([(ByteArray.mk #[115,101,114,118,101,114]),(ByteArray.mk #[97]),(ByteArray.mk #[120,46,49])])) 9) 3).toNat ([(dwdG y50000 ([(ByteArray.mk #[115,101,114,118,101,114]),(ByteArray.mk #[97]),(ByteArray.mk #[120,46,49])]))]) (dnext (dnext (dwdGN y50000 ([(ByteArray.mk #[115,101,114,118,101,114]),(ByteArray.mk #[97]),(ByteArray.mk #[120,46,49])])) 9) 3)).2) 3) 24) 2))
             (br ((wdGOk (dnext (dnext ((lk0 (dval (dnext (dwdGN y50000 ([(ByteArray.mk #[115,101,114,118,101,114]),(ByteArray.mk #[97]),(ByteArray.mk #[120,46,49])])) 9) 3).toNat ([(dwdG y50000 ([(ByteArray.mk #[115,101,114,118,101,114]),(ByteArray.mk #[97]),(ByteArray.mk #[120,46,49])]))]) (dnext (dnext (dwdGN y50000 ([(ByteArray.mk #[115,101,114,118,101,114]),(ByteArray.mk #[97]),(ByteArray.mk #[120,46,49])])) 9) 3)).2) 3) 24) ([(ByteArray.mk #[97,10,98]),(ByteArray.mk #[127])])))
              (br (cApp ((lk0 (dval (dnext (dwdGN y50000 ([(ByteArray.mk #[115,101,114,118,101,114]),(ByteArray.mk #[97]),(ByteArray.mk #[120,46,49])])) 9) 3).toNat ([(dwdG y50000 ([(ByteArray.mk #[115,101,114,118,101,114]),(ByteArray.mk #[97]),(ByteArray.mk #[120,46,49])]))]) (dnext (dnext (dwdGN y50000 ([(ByteArray.mk #[115,101,114,118,101,114]),(ByteArray.mk #[97]),(ByteArray.mk #[120,46,49])])) 9) 3)).1) ([(dwdG (dnext (dnext ((lk0 (dval (dnext (dwdGN y50000 ([(ByteArray.mk #[115,101,114,118,101,114]),(ByteArray.mk #[97]),(ByteArray.mk #[120,46,49])])) 9) 3).toNat ([(dwdG y50000 ([(ByteArray.mk #[115,101,114,118,101,114]),(ByteArray.mk #[97]),(ByteArray.mk #[120,46,49])]))]) (dnext (dnext (dwdGN y50000 ([(ByteArray.mk #[115,101,114,118,101,114]),(ByteArray.mk #[97]),(ByteArray.mk #[120,46,49])])) 9) 3)).2) 3) 24) ([(ByteArray.mk #[97,10,98]),(ByteArray.mk #[127])]))]) 16)
               (br (cApp (y5) ([((((lk0 (dval (dnext (dwdGN y50000 ([(ByteArray.mk #[115,101,114,118,101,114]),(ByteArray.mk #[97]),(ByteArray.mk #[120,46,49])])) 9) 3).toNat ([(dwdG y50000 ([(ByteArray.mk #[115,101,114,118,101,114]),(ByteArray.mk #[97]),(ByteArray.mk #[120,46,49])]))]) (dnext (dnext (dwdGN y50000 ([(ByteArray.mk #[115,101,114,118,101,114]),(ByteArray.mk #[97]),(ByteArray.mk #[120,46,49])])) 9) 3)).1)++([(dwdG (dnext (dnext ((lk0 (dval (dnext (dwdGN y50000 ([(ByteArray.mk #[115,101,114,118,101,114]),(ByteArray.mk #[97]),(ByteArray.mk #[120,46,49])])) 9) 3).toNat ([(dwdG y50000 ([(ByteArray.mk #[115,101,114,118,101,114]),(ByteArray.mk #[97]),(ByteArray.mk #[120,46,49])]))]) (dnext (dnext (dwdGN y50000 ([(ByteArray.mk #[115,101,114,118,101,114]),(ByteArray.mk #[97]),(ByteArray.mk #[120,46,49])])) 9) 3)).2) 3) 24) ([(ByteArray.mk #[97,10,98]),(ByteArray.mk #[127])]))])),((false),(([]:List Blk),(((dval (dwdGN y50000 ([(ByteArray.mk #[115,101,114,118,101,114]),(ByteArray.mk #[97]),(ByteArray.mk #[120,46,49])])) 9)),()))))]) 64)
                (some (.normal,st_f31_1 (x1) (isub .i64 (x6) 1) ((y5)++([((((lk0 (dval (dnext (dwdGN y50000 ([(ByteArray.mk #[115,101,114,118,101,114]),(ByteArray.mk #[97]),(ByteArray.mk #[120,46,49])])) 9) 3).toNat ([(dwdG y50000 ([(ByteArray.mk #[115,101,114,118,101,114]),(ByteArray.mk #[97]),(ByteArray.mk #[120,46,49])]))]) (dnext (dnext (dwdGN y50000 ([(ByteArray.mk #[115,101,114,118,101,114]),(ByteArray.mk #[97]),(ByteArray.mk #[120,46,49])])) 9) 3)).1)++([(dwdG (dnext (dnext ((lk0 (dval (dnext (dwdGN y50000 ([(ByteArray.mk #[115,101,114,118,101,114]),(ByteArray.mk #[97]),(ByteArray.mk #[120,46,49])])) 9) 3).toNat ([(dwdG y50000 ([(ByteArray.mk #[115,101,114,118,101,114]),(ByteArray.mk #[97]),(ByteArray.mk #[120,46,49])]))]) (dnext (dnext (dwdGN y50000 ([(ByteArray.mk #[115,101,114,118,101,114]),(ByteArray.mk #[97]),(ByteArray.mk #[120,46,49])])) 9) 3)).2) 3) 24) ([(ByteArray.mk #[97,10,98]),(ByteArray.mk #[127])]))])),((false),(([]:List Blk),(((dval (dwdGN y50000 ([(ByteArray.mk #[115,101,114,118,101,114]),(ByteArray.mk #[97]),(ByteArray.mk #[120,46,49])])) 9)),()))))])) (dwdGN (dnext (dnext ((lk0 (dval (dnext (dwdGN y50000 ([(ByteArray.mk #[115,101,114,118,101,114]),(ByteArray.mk #[97]),(ByteArray.mk #[120,46,49])])) 9) 3).toNat ([(dwdG y50000 ([(ByteArray.mk #[115,101,114,118,101,114]),(ByteArray.mk #[97]),(ByteArray.mk #[120,46,49])]))]) (dnext (dnext (dwdGN y50000 ([(ByteArray.mk #[115,101,114,118,101,114]),(ByteArray.mk #[97]),(ByteArray.mk #[120,46,49])])) 9) 3)).2) 3) 24) ([(ByteArray.mk #[97,10,98]),(ByteArray.mk #[127])]))))
                (none))
               (none))
              (none))
             (br ((ieq (dval (dnext ((lk0 (dval (dnext (dwdGN y50000 ([(ByteArray.mk #[115,101,114,118,101,114]),(ByteArray.mk #[97]),(ByteArray.mk #[120,46,49])])) 9) 3).toNat ([(dwdG y50000 ([(ByteArray.mk #[115,101,114,118,101,114]),(ByteArray.mk #[97]),(ByteArray.mk #[120,46,49])]))]) (dnext (dnext (dwdGN y50000 ([(ByteArray.mk #[115,101,114,118,101,114]),(ByteArray.mk #[97]),(ByteArray.mk #[120,46,49])])) 9) 3)).2) 3) 24) 3))
              (br (cApp (y5) ([(((lk0 (dval (dnext (dwdGN y50000 ([(ByteArray.mk #[115,101,114,118,101,114]),(ByteArray.mk #[97]),(ByteArray.mk #[120,46,49])])) 9) 3).toNat ([(dwdG y50000 ([(ByteArray.mk #[115,101,114,118,101,114]),(ByteArray.mk #[97]),(ByteArray.mk #[120,46,49])]))]) (dnext (dnext (dwdGN y50000 ([(ByteArray.mk #[115,101,114,118,101,114]),(ByteArray.mk #[97]),(ByteArray.mk #[120,46,49])])) 9) 3)).1),(false,(([]:List Blk),(((dval (dwdGN y50000 ([(ByteArray.mk #[115,101,114,118,101,114]),(ByteArray.mk #[97]),(ByteArray.mk #[120,46,49])])) 9)),()))))]) 64)
               (some (.normal,st_f31_1 (x1) (isub .i64 (x6) 1) ((y5)++([(((lk0 (dval (dnext (dwdGN y50000 ([(ByteArray.mk #[115,101,114,118,101,114]),(ByteArray.mk #[97]),(ByteArray.mk #[120,46,49])])) 9) 3).toNat ([(dwdG y50000 ([(ByteArray.mk #[115,101,114,118,101,114]),(ByteArray.mk #[97]),(ByteArray.mk #[120,46,49])]))]) (dnext (dnext (dwdGN y50000 ([(ByteArray.mk #[115,101,114,118,101,114]),(ByteArray.mk #[97]),(ByteArray.mk #[120,46,49])])) 9) 3)).1),(false,(([]:List Blk),(((dval (dwdGN y50000 ([(ByteArray.mk #[115,101,114,118,101,114]),(ByteArray.mk #[97]),(ByteArray.mk #[120,46,49])])) 9)),()))))])) (dnext (dnext ((lk0 (dval (dnext (dwdGN y50000 ([(ByteArray.mk #[115,101,114,118,101,114]),(ByteArray.mk #[97]),(ByteArray.mk #[120,46,49])])) 9) 3).toNat ([(dwdG y50000 ([(ByteArray.mk #[115,101,114,118,101,114]),(ByteArray.mk #[97]),(ByteArray.mk #[120,46,49])]))]) (dnext (dnext (dwdGN y50000 ([(ByteArray.mk #[115,101,114,118,101,114]),(ByteArray.mk #[97]),(ByteArray.mk #[120,46,49])])) 9) 3)).2) 3) 24)))
               (none))
              (br (cApp (y5) ([(((lk0 (dval (dnext (dwdGN y50000 ([(ByteArray.mk #[115,101,114,118,101,114]),(ByteArray.mk #[97]),(ByteArray.mk #[120,46,49])])) 9) 3).toNat ([(dwdG y50000 ([(ByteArray.mk #[115,101,114,118,101,114]),(ByteArray.mk #[97]),(ByteArray.mk #[120,46,49])]))]) (dnext (dnext (dwdGN y50000 ([(ByteArray.mk #[115,101,114,118,101,114]),(ByteArray.mk #[97]),(ByteArray.mk #[120,46,49])])) 9) 3)).1),((false),(([]:List Blk),(((dval (dwdGN y50000 ([(ByteArray.mk #[115,101,114,118,101,114]),(ByteArray.mk #[97]),(ByteArray.mk #[120,46,49])])) 9)),()))))]) 64)
               (some (.normal,st_f31_1 (x1) (isub .i64 (x6) 1) ((y5)++([(((lk0 (dval (dnext (dwdGN y50000 ([(ByteArray.mk #[115,101,114,118,101,114]),(ByteArray.mk #[97]),(ByteArray.mk #[120,46,49])])) 9) 3).toNat ([(dwdG y50000 ([(ByteArray.mk #[115,101,114,118,101,114]),(ByteArray.mk #[97]),(ByteArray.mk #[120,46,49])]))]) (dnext (dnext (dwdGN y50000 ([(ByteArray.mk #[115,101,114,118,101,114]),(ByteArray.mk #[97]),(ByteArray.mk #[120,46,49])])) 9) 3)).1),((false),(([]:List Blk),(((dval (dwdGN y50000 ([(ByteArray.mk #[115,101,114,118,101,114]),(ByteArray.mk #[97]),(ByteArray.mk #[120,46,49])])) 9)),()))))])) (dnext (dnext ((lk0 (dval (dnext (dwdGN y50000 ([(ByteArray.mk #[115,101,114,118,101,114]),(ByteArray.mk #[97]),(ByteArray.mk #[120,46,49])])) 9) 3).toNat ([(dwdG y50000 ([(ByteArray.mk #[115,101,114,118,101,114]),(ByteArray.mk #[97]),(ByteArray.mk #[120,46,49])]))]) (dnext (dnext (dwdGN y50000 ([(ByteArray.mk #[115,101,114,118,101,114]),(ByteArray.mk #[97]),(ByteArray.mk #[120,46,49])])) 9) 3)).2) 3) 24)))
               (none))))))
          (none)))
        (none))
       (br ((nextOk ((lk0 (dval (dnext (dwdGN y50000 ([(ByteArray.mk #[115,101,114,118,101,114]),(ByteArray.mk #[97]),(ByteArray.mk #[120,46,49])])) 9) 3).toNat ([(dwdG y50000 ([(ByteArray.mk #[115,101,114,118,101,114]),(ByteArray.mk #[97]),(ByteArray.mk #[120,46,49])]))]) (dnext (dnext (dwdGN y50000 ([(ByteArray.mk #[115,101,114,118,101,114]),(ByteArray.mk #[97]),(ByteArray.mk #[120,46,49])])) 9) 3)).2) 24))
        (br ((ieq (dval ((lk0 (dval (dnext (dwdGN y50000 ([(ByteArray.mk #[115,101,114,118,101,114]),(ByteArray.mk #[97]),(ByteArray.mk #[120,46,49])])) 9) 3).toNat ([(dwdG y50000 ([(ByteArray.mk #[115,101,114,118,101,114]),(ByteArray.mk #[97]),(ByteArray.mk #[120,46,49])]))]) (dnext (dnext (dwdGN y50000 ([(ByteArray.mk #[115,101,114,118,101,114]),(ByteArray.mk #[97]),(ByteArray.mk #[120,46,49])])) 9) 3)).2) 24) 0))
         (br (cApp (y5) ([(([]:List ByteArray),((false),(([]:List Blk),(((dval (dwdGN y50000 ([(ByteArray.mk #[115,101,114,118,101,114]),(ByteArray.mk #[97]),(ByteArray.mk #[120,46,49])])) 9)),()))))]) 64)
          (some (.normal,st_f31_1 (x1) (isub .i64 (x6) 1) ((y5)++([(([]:List ByteArray),((false),(([]:List Blk),(((dval (dwdGN y50000 ([(ByteArray.mk #[115,101,114,118,101,114]),(ByteArray.mk #[97]),(ByteArray.mk #[120,46,49])])) 9)),()))))])) (dnext ((lk0 (dval (dnext (dwdGN y50000 ([(ByteArray.mk #[115,101,114,118,101,114]),(ByteArray.mk #[97]),(ByteArray.mk #[120,46,49])])) 9) 3).toNat ([(dwdG y50000 ([(ByteArray.mk #[115,101,114,118,101,114]),(ByteArray.mk #[97]),(ByteArray.mk #[120,46,49])]))]) (dnext (dnext (dwdGN y50000 ([(ByteArray.mk #[115,101,114,118,101,114]),(ByteArray.mk #[97]),(ByteArray.mk #[120,46,49])])) 9) 3)).2) 24)))
          (none))
         (br ((ieq (dval ((lk0 (dval (dnext (dwdGN y50000 ([(ByteArray.mk #[115,101,114,118,101,114]),(ByteArray.mk #[97]),(ByteArray.mk #[120,46,49])])) 9) 3).toNat ([(dwdG y50000 ([(ByteArray.mk #[115,101,114,118,101,114]),(ByteArray.mk #[97]),(ByteArray.mk #[120,46,49])]))]) (dnext (dnext (dwdGN y50000 ([(ByteArray.mk #[115,101,114,118,101,114]),(ByteArray.mk #[97]),(ByteArray.mk #[120,46,49])])) 9) 3)).2) 24) 1))
          (br ((wdGOk (dnext ((lk0 (dval (dnext (dwdGN y50000 ([(ByteArray.mk #[115,101,114,118,101,114]),(ByteArray.mk #[97]),(ByteArray.mk #[120,46,49])])) 9) 3).toNat ([(dwdG y50000 ([(ByteArray.mk #[115,101,114,118,101,114]),(ByteArray.mk #[97]),(ByteArray.mk #[120,46,49])]))]) (dnext (dnext (dwdGN y50000 ([(ByteArray.mk #[115,101,114,118,101,114]),(ByteArray.mk #[97]),(ByteArray.mk #[120,46,49])])) 9) 3)).2) 24) ([(ByteArray.mk #[]),(ByteArray.mk #[97,32,98]),(ByteArray.mk #[34])])))
           (br (cIx ((lk0 (dval (dnext (dwdGN y50000 ([(ByteArray.mk #[115,101,114,118,101,114]),(ByteArray.mk #[97]),(ByteArray.mk #[120,46,49])])) 9) 3).toNat ([(dwdG y50000 ([(ByteArray.mk #[115,101,114,118,101,114]),(ByteArray.mk #[97]),(ByteArray.mk #[120,46,49])]))]) (dnext (dnext (dwdGN y50000 ([(ByteArray.mk #[115,101,114,118,101,114]),(ByteArray.mk #[97]),(ByteArray.mk #[120,46,49])])) 9) 3)).1) 0)
            (br (cLd ((lk0 (dval (dnext (dwdGN y50000 ([(ByteArray.mk #[115,101,114,118,101,114]),(ByteArray.mk #[97]),(ByteArray.mk #[120,46,49])])) 9) 3).toNat ([(dwdG y50000 ([(ByteArray.mk #[115,101,114,118,101,114]),(ByteArray.mk #[97]),(ByteArray.mk #[120,46,49])]))]) (dnext (dnext (dwdGN y50000 ([(ByteArray.mk #[115,101,114,118,101,114]),(ByteArray.mk #[97]),(ByteArray.mk #[120,46,49])])) 9) 3)).1) (Int.toNat 0))
             (br (cApp (y5) ([((List.set ((lk0 (dval (dnext (dwdGN y50000 ([(ByteArray.mk #[115,101,114,118,101,114]),(ByteArray.mk #[97]),(ByteArray.mk #[120,46,49])])) 9) 3).toNat ([(dwdG y50000 ([(ByteArray.mk #[115,101,114,118,101,114]),(ByteArray.mk #[97]),(ByteArray.mk #[120,46,49])]))]) (dnext (dnext (dwdGN y50000 ([(ByteArray.mk #[115,101,114,118,101,114]),(ByteArray.mk #[97]),(ByteArray.mk #[120,46,49])])) 9) 3)).1) (Int.toNat 0) (dwdG (dnext ((lk0 (dval (dnext (dwdGN y50000 ([(ByteArray.mk #[115,101,114,118,101,114]),(ByteArray.mk #[97]),(ByteArray.mk #[120,46,49])])) 9) 3).toNat ([(dwdG y50000 ([(ByteArray.mk #[115,101,114,118,101,114]),(ByteArray.mk #[97]),(ByteArray.mk #[120,46,49])]))]) (dnext (dnext (dwdGN y50000 ([(ByteArray.mk #[115,101,114,118,101,114]),(ByteArray.mk #[97]),(ByteArray.mk #[120,46,49])])) 9) 3)).2) 24) ([(ByteArray.mk #[]),(ByteArray.mk #[97,32,98]),(ByteArray.mk #[34])]))),((false),(([]:List Blk),(((dval (dwdGN y50000 ([(ByteArray.mk #[115,101,114,118,101,114]),(ByteArray.mk #[97]),(ByteArray.mk #[120,46,49])])) 9)),()))))]) 64)
              (some (.normal,st_f31_1 (x1) (isub .i64 (x6) 1) ((y5)++([((List.set ((lk0 (dval (dnext (dwdGN y50000 ([(ByteArray.mk #[115,101,114,118,101,114]),(ByteArray.mk #[97]),(ByteArray.mk #[120,46,49])])) 9) 3).toNat ([(dwdG y50000 ([(ByteArray.mk #[115,101,114,118,101,114]),(ByteArray.mk #[97]),(ByteArray.mk #[120,46,49])]))]) (dnext (dnext (dwdGN y50000 ([(ByteArray.mk #[115,101,114,118,101,114]),(ByteArray.mk #[97]),(ByteArray.mk #[120,46,49])])) 9) 3)).1) (Int.toNat 0) (dwdG (dnext ((lk0 (dval (dnext (dwdGN y50000 ([(ByteArray.mk #[115,101,114,118,101,114]),(ByteArray.mk #[97]),(ByteArray.mk #[120,46,49])])) 9) 3).toNat ([(dwdG y50000 ([(ByteArray.mk #[115,101,114,118,101,114]),(ByteArray.mk #[97]),(ByteArray.mk #[120,46,49])]))]) (dnext (dnext (dwdGN y50000 ([(ByteArray.mk #[115,101,114,118,101,114]),(ByteArray.mk #[97]),(ByteArray.mk #[120,46,49])])) 9) 3)).2) 24) ([(ByteArray.mk #[]),(ByteArray.mk #[97,32,98]),(ByteArray.mk #[34])]))),((false),(([]:List Blk),(((dval (dwdGN y50000 ([(ByteArray.mk #[115,101,114,118,101,114]),(ByteArray.mk #[97]),(ByteArray.mk #[120,46,49])])) 9)),()))))])) (dwdGN (dnext ((lk0 (dval (dnext (dwdGN y50000 ([(ByteArray.mk #[115,101,114,118,101,114]),(ByteArray.mk #[97]),(ByteArray.mk #[120,46,49])])) 9) 3).toNat ([(dwdG y50000 ([(ByteArray.mk #[115,101,114,118,101,114]),(ByteArray.mk #[97]),(ByteArray.mk #[120,46,49])]))]) (dnext (dnext (dwdGN y50000 ([(ByteArray.mk #[115,101,114,118,101,114]),(ByteArray.mk #[97]),(ByteArray.mk #[120,46,49])])) 9) 3)).2) 24) ([(ByteArray.mk #[]),(ByteArray.mk #[97,32,98]),(ByteArray.mk #[34])]))))
              (none))
             (none))
            (none))
           (none))
          (br ((ieq (dval ((lk0 (dval (dnext (dwdGN y50000 ([(ByteArray.mk #[115,101,114,118,101,114]),(ByteArray.mk #[97]),(ByteArray.mk #[120,46,49])])) 9) 3).toNat ([(dwdG y50000 ([(ByteArray.mk #[115,101,114,118,101,114]),(ByteArray.mk #[97]),(ByteArray.mk #[120,46,49])]))]) (dnext (dnext (dwdGN y50000 ([(ByteArray.mk #[115,101,114,118,101,114]),(ByteArray.mk #[97]),(ByteArray.mk #[120,46,49])])) 9) 3)).2) 24) 2))
           (br ((wdGOk (dnext ((lk0 (dval (dnext (dwdGN y50000 ([(ByteArray.mk #[115,101,114,118,101,114]),(ByteArray.mk #[97]),(ByteArray.mk #[120,46,49])])) 9) 3).toNat ([(dwdG y50000 ([(ByteArray.mk #[115,101,114,118,101,114]),(ByteArray.mk #[97]),(ByteArray.mk #[120,46,49])]))]) (dnext (dnext (dwdGN y50000 ([(ByteArray.mk #[115,101,114,118,101,114]),(ByteArray.mk #[97]),(ByteArray.mk #[120,46,49])])) 9) 3)).2) 24) ([(ByteArray.mk #[97,10,98]),(ByteArray.mk #[127])])))
            (br (cApp ((lk0 (dval (dnext (dwdGN y50000 ([(ByteArray.mk #[115,101,114,118,101,114]),(ByteArray.mk #[97]),(ByteArray.mk #[120,46,49])])) 9) 3).toNat ([(dwdG y50000 ([(ByteArray.mk #[115,101,114,118,101,114]),(ByteArray.mk #[97]),(ByteArray.mk #[120,46,49])]))]) (dnext (dnext (dwdGN y50000 ([(ByteArray.mk #[115,101,114,118,101,114]),(ByteArray.mk #[97]),(ByteArray.mk #[120,46,49])])) 9) 3)).1) ([(dwdG (dnext ((lk0 (dval (dnext (dwdGN y50000 ([(ByteArray.mk #[115,101,114,118,101,114]),(ByteArray.mk #[97]),(ByteArray.mk #[120,46,49])])) 9) 3).toNat ([(dwdG y50000 ([(ByteArray.mk #[115,101,114,118,101,114]),(ByteArray.mk #[97]),(ByteArray.mk #[120,46,49])]))]) (dnext (dnext (dwdGN y50000 ([(ByteArray.mk #[115,101,114,118,101,114]),(ByteArray.mk #[97]),(ByteArray.mk #[120,46,49])])) 9) 3)).2) 24) ([(ByteArray.mk #[97,10,98]),(ByteArray.mk #[127])]))]) 16)
             (br (cApp (y5) ([((((lk0 (dval (dnext (dwdGN y50000 ([(ByteArray.mk #[115,101,114,118,101,114]),(ByteArray.mk #[97]),(ByteArray.mk #[120,46,49])])) 9) 3).toNat ([(dwdG y50000 ([(ByteArray.mk #[115,101,114,118,101,114]),(ByteArray.mk #[97]),(ByteArray.mk #[120,46,49])]))]) (dnext (dnext (dwdGN y50000 ([(ByteArray.mk #[115,101,114,118,101,114]),(ByteArray.mk #[97]),(ByteArray.mk #[120,46,49])])) 9) 3)).1)++([(dwdG (dnext ((lk0 (dval (dnext (dwdGN y50000 ([(ByteArray.mk #[115,101,114,118,101,114]),(ByteArray.mk #[97]),(ByteArray.mk #[120,46,49])])) 9) 3).toNat ([(dwdG y50000 ([(ByteArray.mk #[115,101,114,118,101,114]),(ByteArray.mk #[97]),(ByteArray.mk #[120,46,49])]))]) (dnext (dnext (dwdGN y50000 ([(ByteArray.mk #[115,101,114,118,101,114]),(ByteArray.mk #[97]),(ByteArray.mk #[120,46,49])])) 9) 3)).2) 24) ([(ByteArray.mk #[97,10,98]),(ByteArray.mk #[127])]))])),((false),(([]:List Blk),(((dval (dwdGN y50000 ([(ByteArray.mk #[115,101,114,118,101,114]),(ByteArray.mk #[97]),(ByteArray.mk #[120,46,49])])) 9)),()))))]) 64)
              (some (.normal,st_f31_1 (x1) (isub .i64 (x6) 1) ((y5)++([((((lk0 (dval (dnext (dwdGN y50000 ([(ByteArray.mk #[115,101,114,118,101,114]),(ByteArray.mk #[97]),(ByteArray.mk #[120,46,49])])) 9) 3).toNat ([(dwdG y50000 ([(ByteArray.mk #[115,101,114,118,101,114]),(ByteArray.mk #[97]),(ByteArray.mk #[120,46,49])]))]) (dnext (dnext (dwdGN y50000 ([(ByteArray.mk #[115,101,114,118,101,114]),(ByteArray.mk #[97]),(ByteArray.mk #[120,46,49])])) 9) 3)).1)++([(dwdG (dnext ((lk0 (dval (dnext (dwdGN y50000 ([(ByteArray.mk #[115,101,114,118,101,114]),(ByteArray.mk #[97]),(ByteArray.mk #[120,46,49])])) 9) 3).toNat ([(dwdG y50000 ([(ByteArray.mk #[115,101,114,118,101,114]),(ByteArray.mk #[97]),(ByteArray.mk #[120,46,49])]))]) (dnext (dnext (dwdGN y50000 ([(ByteArray.mk #[115,101,114,118,101,114]),(ByteArray.mk #[97]),(ByteArray.mk #[120,46,49])])) 9) 3)).2) 24) ([(ByteArray.mk #[97,10,98]),(ByteArray.mk #[127])]))])),((false),(([]:List Blk),(((dval (dwdGN y50000 ([(ByteArray.mk #[115,101,114,118,101,114]),(ByteArray.mk #[97]),(ByteArray.mk #[120,46,49])])) 9)),()))))])) (dwdGN (dnext ((lk0 (dval (dnext (dwdGN y50000 ([(ByteArray.mk #[115,101,114,118,101,114]),(ByteArray.mk #[97]),(ByteArray.mk #[120,46,49])])) 9) 3).toNat ([(dwdG y50000 ([(ByteArray.mk #[115,101,114,118,101,114]),(ByteArray.mk #[97]),(ByteArray.mk #[120,46,49])]))]) (dnext (dnext (dwdGN y50000 ([(ByteArray.mk #[115,101,114,118,101,114]),(ByteArray.mk #[97]),(ByteArray.mk #[120,46,49])])) 9) 3)).2) 24) ([(ByteArray.mk #[97,10,98]),(ByteArray.mk #[127])]))))
              (none))
             (none))
            (none))
           (br ((ieq (dval ((lk0 (dval (dnext (dwdGN y50000 ([(ByteArray.mk #[115,101,114,118,101,114]),(ByteArray.mk #[97]),(ByteArray.mk #[120,46,49])])) 9) 3).toNat ([(dwdG y50000 ([(ByteArray.mk #[115,101,114,118,101,114]),(ByteArray.mk #[97]),(ByteArray.mk #[120,46,49])]))]) (dnext (dnext (dwdGN y50000 ([(ByteArray.mk #[115,101,114,118,101,114]),(ByteArray.mk #[97]),(ByteArray.mk #[120,46,49])])) 9) 3)).2) 24) 3))
            (br (cApp (y5) ([(((lk0 (dval (dnext (dwdGN y50000 ([(ByteArray.mk #[115,101,114,118,101,114]),(ByteArray.mk #[97]),(ByteArray.mk #[120,46,49])])) 9) 3).toNat ([(dwdG y50000 ([(ByteArray.mk #[115,101,114,118,101,114]),(ByteArray.mk #[97]),(ByteArray.mk #[120,46,49])]))]) (dnext (dnext (dwdGN y50000 ([(ByteArray.mk #[115,101,114,118,101,114]),(ByteArray.mk #[97]),(ByteArray.mk #[120,46,49])])) 9) 3)).1),(false,(([]:List Blk),(((dval (dwdGN y50000 ([(ByteArray.mk #[115,101,114,118,101,114]),(ByteArray.mk #[97]),(ByteArray.mk #[120,46,49])])) 9)),()))))]) 64)
             (some (.normal,st_f31_1 (x1) (isub .i64 (x6) 1) ((y5)++([(((lk0 (dval (dnext (dwdGN y50000 ([(ByteArray.mk #[115,101,114,118,101,114]),(ByteArray.mk #[97]),(ByteArray.mk #[120,46,49])])) 9) 3).toNat ([(dwdG y50000 ([(ByteArray.mk #[115,101,114,118,101,114]),(ByteArray.mk #[97]),(ByteArray.mk #[120,46,49])]))]) (dnext (dnext (dwdGN y50000 ([(ByteArray.mk #[115,101,114,118,101,114]),(ByteArray.mk #[97]),(ByteArray.mk #[120,46,49])])) 9) 3)).1),(false,(([]:List Blk),(((dval (dwdGN y50000 ([(ByteArray.mk #[115,101,114,118,101,114]),(ByteArray.mk #[97]),(ByteArray.mk #[120,46,49])])) 9)),()))))])) (dnext ((lk0 (dval (dnext (dwdGN y50000 ([(ByteArray.mk #[115,101,114,118,101,114]),(ByteArray.mk #[97]),(ByteArray.mk #[120,46,49])])) 9) 3).toNat ([(dwdG y50000 ([(ByteArray.mk #[115,101,114,118,101,114]),(ByteArray.mk #[97]),(ByteArray.mk #[120,46,49])]))]) (dnext (dnext (dwdGN y50000 ([(ByteArray.mk #[115,101,114,118,101,114]),(ByteArray.mk #[97]),(ByteArray.mk #[120,46,49])])) 9) 3)).2) 24)))
             (none))
            (br (cApp (y5) ([(((lk0 (dval (dnext (dwdGN y50000 ([(ByteArray.mk #[115,101,114,118,101,114]),(ByteArray.mk #[97]),(ByteArray.mk #[120,46,49])])) 9) 3).toNat ([(dwdG y50000 ([(ByteArray.mk #[115,101,114,118,101,114]),(ByteArray.mk #[97]),(ByteArray.mk #[120,46,49])]))]) (dnext (dnext (dwdGN y50000 ([(ByteArray.mk #[115,101,114,118,101,114]),(ByteArray.mk #[97]),(ByteArray.mk #[120,46,49])])) 9) 3)).1),((false),(([]:List Blk),(((dval (dwdGN y50000 ([(ByteArray.mk #[115,101,114,118,101,114]),(ByteArray.mk #[97]),(ByteArray.mk #[120,46,49])])) 9)),()))))]) 64)
             (some (.normal,st_f31_1 (x1) (isub .i64 (x6) 1) ((y5)++([(((lk0 (dval (dnext (dwdGN y50000 ([(ByteArray.mk #[115,101,114,118,101,114]),(ByteArray.mk #[97]),(ByteArray.mk #[120,46,49])])) 9) 3).toNat ([(dwdG y50000 ([(ByteArray.mk #[115,101,114,118,101,114]),(ByteArray.mk #[97]),(ByteArray.mk #[120,46,49])]))]) (dnext (dnext (dwdGN y50000 ([(ByteArray.mk #[115,101,114,118,101,114]),(ByteArray.mk #[97]),(ByteArray.mk #[120,46,49])])) 9) 3)).1),((false),(([]:List Blk),(((dval (dwdGN y50000 ([(ByteArray.mk #[115,101,114,118,101,114]),(ByteArray.mk #[97]),(ByteArray.mk #[120,46,49])])) 9)),()))))])) (dnext ((lk0 (dval (dnext (dwdGN y50000 ([(ByteArray.mk #[115,101,114,118,101,114]),(ByteArray.mk #[97]),(ByteArray.mk #[120,46,49])])) 9) 3).toNat ([(dwdG y50000 ([(ByteArray.mk #[115,101,114,118,101,114]),(ByteArray.mk #[97]),(ByteArray.mk #[120,46,49])]))]) (dnext (dnext (dwdGN y50000 ([(ByteArray.mk #[115,101,114,118,101,114]),(ByteArray.mk #[97]),(ByteArray.mk #[120,46,49])])) 9) 3)).2) 24)))
             (none))))))
        (none)))
      (none))
     (none))
    (none))
   (none))
  (some (.exit 0,st_f31_1_e0 y5 y50000))
noncomputable def lp_f31_1 (x1:Int)(x6:Int)(y5:(List BlkT))(y50000:Dice):Option (Exit×VS):=loopF (roundF g_f31 fg_f31_1 tb_f31_1) (st_f31_1 x1 x6 y5 y50000)
noncomputable def n_f31_1 (x1:Int)(x6:Int)(y5:(List BlkT))(y50000:Dice):Option (Exit×VS):=
 br ((igt x6 0))
  (br ((wdGOk y50000 ([(ByteArray.mk #[115,101,114,118,101,114]),(ByteArray.mk #[97]),(ByteArray.mk #[120,46,49])])))
   (br ((nextOk (dwdGN y50000 ([(ByteArray.mk #[115,101,114,118,101,114]),(ByteArray.mk #[97]),(ByteArray.mk #[120,46,49])])) 9))
    (br ((nextOk (dnext (dwdGN y50000 ([(ByteArray.mk #[115,101,114,118,101,114]),(ByteArray.mk #[97]),(ByteArray.mk #[120,46,49])])) 9) 3))
     (br ((lb0 (dval (dnext (dwdGN y50000 ([(ByteArray.mk #[115,101,114,118,101,114]),(ByteArray.mk #[97]),(ByteArray.mk #[120,46,49])])) 9) 3) ([(dwdG y50000 ([(ByteArray.mk #[115,101,114,118,101,114]),(ByteArray.mk #[97]),(ByteArray.mk #[120,46,49])]))]) (dnext (dnext (dwdGN y50000 ([(ByteArray.mk #[115,101,114,118,101,114]),(ByteArray.mk #[97]),(ByteArray.mk #[120,46,49])])) 9) 3)))
      (br ((igt (x1) 0))
       (br ((oneOk ((lk0 (dval (dnext (dwdGN y50000 ([(ByteArray.mk #[115,101,114,118,101,114]),(ByteArray.mk #[97]),(ByteArray.mk #[120,46,49])])) 9) 3).toNat ([(dwdG y50000 ([(ByteArray.mk #[115,101,114,118,101,114]),(ByteArray.mk #[97]),(ByteArray.mk #[120,46,49])]))]) (dnext (dnext (dwdGN y50000 ([(ByteArray.mk #[115,101,114,118,101,114]),(ByteArray.mk #[97]),(ByteArray.mk #[120,46,49])])) 9) 3)).2) 3))
        (br ((done ((lk0 (dval (dnext (dwdGN y50000 ([(ByteArray.mk #[115,101,114,118,101,114]),(ByteArray.mk #[97]),(ByteArray.mk #[120,46,49])])) 9) 3).toNat ([(dwdG y50000 ([(ByteArray.mk #[115,101,114,118,101,114]),(ByteArray.mk #[97]),(ByteArray.mk #[120,46,49])]))]) (dnext (dnext (dwdGN y50000 ([(ByteArray.mk #[115,101,114,118,101,114]),(ByteArray.mk #[97]),(ByteArray.mk #[120,46,49])])) 9) 3)).2) 3))
         (br ((ls7S fuel (dnext ((lk0 (dval (dnext (dwdGN y50000 ([(ByteArray.mk #[115,101,114,118,101,114]),(ByteArray.mk #[97]),(ByteArray.mk #[120,46,49])])) 9) 3).toNat ([(dwdG y50000 ([(ByteArray.mk #[115,101,114,118,101,114]),(ByteArray.mk #[97]),(ByteArray.mk #[120,46,49])]))]) (dnext (dnext (dwdGN y50000 ([(ByteArray.mk #[115,101,114,118,101,114]),(ByteArray.mk #[97]),(ByteArray.mk #[120,46,49])])) 9) 3)).2) 3) (isub .i64 (x1) 1)))
          (br ((nextOk (ls7N (dnext ((lk0 (dval (dnext (dwdGN y50000 ([(ByteArray.mk #[115,101,114,118,101,114]),(ByteArray.mk #[97]),(ByteArray.mk #[120,46,49])])) 9) 3).toNat ([(dwdG y50000 ([(ByteArray.mk #[115,101,114,118,101,114]),(ByteArray.mk #[97]),(ByteArray.mk #[120,46,49])]))]) (dnext (dnext (dwdGN y50000 ([(ByteArray.mk #[115,101,114,118,101,114]),(ByteArray.mk #[97]),(ByteArray.mk #[120,46,49])])) 9) 3)).2) 3) (isub .i64 (x1) 1)) 24))
           (br ((ieq (dval (ls7N (dnext ((lk0 (dval (dnext (dwdGN y50000 ([(ByteArray.mk #[115,101,114,118,101,114]),(ByteArray.mk #[97]),(ByteArray.mk #[120,46,49])])) 9) 3).toNat ([(dwdG y50000 ([(ByteArray.mk #[115,101,114,118,101,114]),(ByteArray.mk #[97]),(ByteArray.mk #[120,46,49])]))]) (dnext (dnext (dwdGN y50000 ([(ByteArray.mk #[115,101,114,118,101,114]),(ByteArray.mk #[97]),(ByteArray.mk #[120,46,49])])) 9) 3)).2) 3) (isub .i64 (x1) 1)) 24) 0))
            (br (cApp (y5) ([(([]:List ByteArray),(true,((List.map Blk.of (ls7F (dnext ((lk0 (dval (dnext (dwdGN y50000 ([(ByteArray.mk #[115,101,114,118,101,114]),(ByteArray.mk #[97]),(ByteArray.mk #[120,46,49])])) 9) 3).toNat ([(dwdG y50000 ([(ByteArray.mk #[115,101,114,118,101,114]),(ByteArray.mk #[97]),(ByteArray.mk #[120,46,49])]))]) (dnext (dnext (dwdGN y50000 ([(ByteArray.mk #[115,101,114,118,101,114]),(ByteArray.mk #[97]),(ByteArray.mk #[120,46,49])])) 9) 3)).2) 3) (isub .i64 (x1) 1))),(((dval (dwdGN y50000 ([(ByteArray.mk #[115,101,114,118,101,114]),(ByteArray.mk #[97]),(ByteArray.mk #[120,46,49])])) 9)),()))))]) 64)
             (lp_f31_1 (x1) (isub .i64 (x6) 1) ((y5)++([(([]:List ByteArray),(true,((List.map Blk.of (ls7F (dnext ((lk0 (dval (dnext (dwdGN y50000 ([(ByteArray.mk #[115,101,114,118,101,114]),(ByteArray.mk #[97]),(ByteArray.mk #[120,46,49])])) 9) 3).toNat ([(dwdG y50000 ([(ByteArray.mk #[115,101,114,118,101,114]),(ByteArray.mk #[97]),(ByteArray.mk #[120,46,49])]))]) (dnext (dnext (dwdGN y50000 ([(ByteArray.mk #[115,101,114,118,101,114]),(ByteArray.mk #[97]),(ByteArray.mk #[120,46,49])])) 9) 3)).2) 3) (isub .i64 (x1) 1))),(((dval (dwdGN y50000 ([(ByteArray.mk #[115,101,114,118,101,114]),(ByteArray.mk #[97]),(ByteArray.mk #[120,46,49])])) 9)),()))))])) (dnext (ls7N (dnext ((lk0 (dval (dnext (dwdGN y50000 ([(ByteArray.mk #[115,101,114,118,101,114]),(ByteArray.mk #[97]),(ByteArray.mk #[120,46,49])])) 9) 3).toNat ([(dwdG y50000 ([(ByteArray.mk #[115,101,114,118,101,114]),(ByteArray.mk #[97]),(ByteArray.mk #[120,46,49])]))]) (dnext (dnext (dwdGN y50000 ([(ByteArray.mk #[115,101,114,118,101,114]),(ByteArray.mk #[97]),(ByteArray.mk #[120,46,49])])) 9) 3)).2) 3) (isub .i64 (x1) 1)) 24))
             (none))
            (br ((ieq (dval (ls7N (dnext ((lk0 (dval (dnext (dwdGN y50000 ([(ByteArray.mk #[115,101,114,118,101,114]),(ByteArray.mk #[97]),(ByteArray.mk #[120,46,49])])) 9) 3).toNat ([(dwdG y50000 ([(ByteArray.mk #[115,101,114,118,101,114]),(ByteArray.mk #[97]),(ByteArray.mk #[120,46,49])]))]) (dnext (dnext (dwdGN y50000 ([(ByteArray.mk #[115,101,114,118,101,114]),(ByteArray.mk #[97]),(ByteArray.mk #[120,46,49])])) 9) 3)).2) 3) (isub .i64 (x1) 1)) 24) 1))
             (br ((wdGOk (dnext (ls7N (dnext ((lk0 (dval (dnext (dwdGN y50000 ([(ByteArray.mk #[115,101,114,118,101,114]),(ByteArray.mk #[97]),(ByteArray.mk #[120,46,49])])) 9) 3).toNat ([(dwdG y50000 ([(ByteArray.mk #[115,101,114,118,101,114]),(ByteArray.mk #[97]),(ByteArray.mk #[120,46,49])]))]) (dnext (dnext (dwdGN y50000 ([(ByteArray.mk #[115,101,114,118,101,114]),(ByteArray.mk #[97]),(ByteArray.mk #[120,46,49])])) 9) 3)).2) 3) (isub .i64 (x1) 1)) 24) ([(ByteArray.mk #[]),(ByteArray.mk #[97,32,98]),(ByteArray.mk #[34])])))
              (br (cIx ((lk0 (dval (dnext (dwdGN y50000 ([(ByteArray.mk #[115,101,114,118,101,114]),(ByteArray.mk #[97]),(ByteArray.mk #[120,46,49])])) 9) 3).toNat ([(dwdG y50000 ([(ByteArray.mk #[115,101,114,118,101,114]),(ByteArray.mk #[97]),(ByteArray.mk #[120,46,49])]))]) (dnext (dnext (dwdGN y50000 ([(ByteArray.mk #[115,101,114,118,101,114]),(ByteArray.mk #[97]),(ByteArray.mk #[120,46,49])])) 9) 3)).1) 0)
               (br (cLd ((lk0 (dval (dnext (dwdGN y50000 ([(ByteArray.mk #[115,101,114,118,101,114]),(ByteArray.mk #[97]),(ByteArray.mk #[120,46,49])])) 9) 3).toNat ([(dwdG y50000 ([(ByteArray.mk #[115,101,114,118,101,114]),(ByteArray.mk #[97]),(ByteArray.mk #[120,46,49])]))]) (dnext (dnext (dwdGN y50000 ([(ByteArray.mk #[115,101,114,118,101,114]),(ByteArray.mk #[97]),(ByteArray.mk #[120,46,49])])) 9) 3)).1) (Int.toNat 0))
                (br (cApp (y5) ([((List.set ((lk0 (dval (dnext (dwdGN y50000 ([(ByteArray.mk #[115,101,114,118,101,114]),(ByteArray.mk #[97]),(ByteArray.mk #[120,46,49])])) 9) 3).toNat ([(dwdG y50000 ([(ByteArray.mk #[115,101,114,118,101,114]),(ByteArray.mk #[97]),(ByteArray.mk #[120,46,49])]))]) (dnext (dnext (dwdGN y50000 ([(ByteArray.mk #[115,101,114,118,101,114]),(ByteArray.mk #[97]),(ByteArray.mk #[120,46,49])])) 9) 3)).1) (Int.toNat 0) (dwdG (dnext (ls7N (dnext ((lk0 (dval (dnext (dwdGN y50000 ([(ByteArray.mk #[115,101,114,118,101,114]),(ByteArray.mk #[97]),(ByteArray.mk #[120,46,49])])) 9) 3).toNat ([(dwdG y50000 ([(ByteArray.mk #[115,101,114,118,101,114]),(ByteArray.mk #[97]),(ByteArray.mk #[120,46,49])]))]) (dnext (dnext (dwdGN y50000 ([(ByteArray.mk #[115,101,114,118,101,114]),(ByteArray.mk #[97]),(ByteArray.mk #[120,46,49])])) 9) 3)).2) 3) (isub .i64 (x1) 1)) 24) ([(ByteArray.mk #[]),(ByteArray.mk #[97,32,98]),(ByteArray.mk #[34])]))),(true,((List.map Blk.of (ls7F (dnext ((lk0 (dval (dnext (dwdGN y50000 ([(ByteArray.mk #[115,101,114,118,101,114]),(ByteArray.mk #[97]),(ByteArray.mk #[120,46,49])])) 9) 3).toNat ([(dwdG y50000 ([(ByteArray.mk #[115,101,114,118,101,114]),(ByteArray.mk #[97]),(ByteArray.mk #[120,46,49])]))]) (dnext (dnext (dwdGN y50000 ([(ByteArray.mk #[115,101,114,118,101,114]),(ByteArray.mk #[97]),(ByteArray.mk #[120,46,49])])) 9) 3)).2) 3) (isub .i64 (x1) 1))),(((dval (dwdGN y50000 ([(ByteArray.mk #[115,101,114,118,101,114]),(ByteArray.mk #[97]),(ByteArray.mk #[120,46,49])])) 9)),()))))]) 64)
                 (lp_f31_1 (x1) (isub .i64 (x6) 1) ((y5)++([((List.set ((lk0 (dval (dnext (dwdGN y50000 ([(ByteArray.mk #[115,101,114,118,101,114]),(ByteArray.mk #[97]),(ByteArray.mk #[120,46,49])])) 9) 3).toNat ([(dwdG y50000 ([(ByteArray.mk #[115,101,114,118,101,114]),(ByteArray.mk #[97]),(ByteArray.mk #[120,46,49])]))]) (dnext (dnext (dwdGN y50000 ([(ByteArray.mk #[115,101,114,118,101,114]),(ByteArray.mk #[97]),(ByteArray.mk #[120,46,49])])) 9) 3)).1) (Int.toNat 0) (dwdG (dnext (ls7N (dnext ((lk0 (dval (dnext (dwdGN y50000 ([(ByteArray.mk #[115,101,114,118,101,114]),(ByteArray.mk #[97]),(ByteArray.mk #[120,46,49])])) 9) 3).toNat ([(dwdG y50000 ([(ByteArray.mk #[115,101,114,118,101,114]),(ByteArray.mk #[97]),(ByteArray.mk #[120,46,49])]))]) (dnext (dnext (dwdGN y50000 ([(ByteArray.mk #[115,101,114,118,101,114]),(ByteArray.mk #[97]),(ByteArray.mk #[120,46,49])])) 9) 3)).2) 3) (isub .i64 (x1) 1)) 24) ([(ByteArray.mk #[]),(ByteArray.mk #[97,32,98]),(ByteArray.mk #[34])]))),(true,((List.map Blk.of (ls7F (dnext ((lk0 (dval (dnext (dwdGN y50000 ([(ByteArray.mk #[115,101,114,118,101,114]),(ByteArray.mk #[97]),(ByteArray.mk #[120,46,49])])) 9) 3).toNat ([(dwdG y50000 ([(ByteArray.mk #[115,101,114,118,101,114]),(ByteArray.mk #[97]),(ByteArray.mk #[120,46,49])]))]) (dnext (dnext (dwdGN y50000 ([(ByteArray.mk #[115,101,114,118,101,114]),(ByteArray.mk #[97]),(ByteArray.mk #[120,46,49])])) 9) 3)).2) 3) (isub .i64 (x1) 1))),(((dval (dwdGN y50000 ([(ByteArray.mk #[115,101,114,118,101,114]),(ByteArray.mk #[97]),(ByteArray.mk #[120,46,49])])) 9)),()))))])) (dwdGN (dnext (ls7N (dnext ((lk0 (dval (dnext (dwdGN y50000 ([(ByteArray.mk #[115,101,114,118,101,114]),(ByteArray.mk #[97]),(ByteArray.mk #[120,46,49])])) 9) 3).toNat ([(dwdG y50000 ([(ByteArray.mk #[115,101,114,118,101,114]),(ByteArray.mk #[97]),(ByteArray.mk #[120,46,49])]))]) (dnext (dnext (dwdGN y50000 ([(ByteArray.mk #[115,101,114,118,101,114]),(ByteArray.mk #[97]),(ByteArray.mk #[120,46,49])])) 9) 3)).2) 3) (isub .i64 (x1) 1)) 24) ([(ByteArray.mk #[]),(ByteArray.mk #[97,32,98]),(ByteArray.mk #[34])])))
                 (none))
                (none))
               (none))
              (none))
             (br ((ieq (dval (ls7N (dnext ((lk0 (dval (dnext (dwdGN y50000 ([(ByteArray.mk #[115,101,114,118,101,114]),(ByteArray.mk #[97]),(ByteArray.mk #[120,46,49])])) 9) 3).toNat ([(dwdG y50000 ([(ByteArray.mk #[115,101,114,118,101,114]),(ByteArray.mk #[97]),(ByteArray.mk #[120,46,49])]))]) (dnext (dnext (dwdGN y50000 ([(ByteArray.mk #[115,101,114,118,101,114]),(ByteArray.mk #[97]),(ByteArray.mk #[120,46,49])])) 9) 3)).2) 3) (isub .i64 (x1) 1)) 24) 2))
              (br ((wdGOk (dnext (ls7N (dnext ((lk0 (dval (dnext (dwdGN y50000 ([(ByteArray.mk #[115,101,114,118,101,114]),(ByteArray.mk #[97]),(ByteArray.mk #[120,46,49])])) 9) 3).toNat ([(dwdG y50000 ([(ByteArray.mk #[115,101,114,118,101,114]),(ByteArray.mk #[97]),(ByteArray.mk #[120,46,49])]))]) (dnext (dnext (dwdGN y50000 ([(ByteArray.mk #[115,101,114,118,101,114]),(ByteArray.mk #[97]),(ByteArray.mk #[120,46,49])])) 9) 3)).2) 3) (isub .i64 (x1) 1)) 24) ([(ByteArray.mk #[97,10,98]),(ByteArray.mk #[127])])))
               (br (cApp ((lk0 (dval (dnext (dwdGN y50000 ([(ByteArray.mk #[115,101,114,118,101,114]),(ByteArray.mk #[97]),(ByteArray.mk #[120,46,49])])) 9) 3).toNat ([(dwdG y50000 ([(ByteArray.mk #[115,101,114,118,101,114]),(ByteArray.mk #[97]),(ByteArray.mk #[120,46,49])]))]) (dnext (dnext (dwdGN y50000 ([(ByteArray.mk #[115,101,114,118,101,114]),(ByteArray.mk #[97]),(ByteArray.mk #[120,46,49])])) 9) 3)).1) ([(dwdG (dnext (ls7N (dnext ((lk0 (dval (dnext (dwdGN y50000 ([(ByteArray.mk #[115,101,114,118,101,114]),(ByteArray.mk #[97]),(ByteArray.mk #[120,46,49])])) 9) 3).toNat ([(dwdG y50000 ([(ByteArray.mk #[115,101,114,118,101,114]),(ByteArray.mk #[97]),(ByteArray.mk #[120,46,49])]))]) (dnext (dnext (dwdGN y50000 ([(ByteArray.mk #[115,101,114,118,101,114]),(ByteArray.mk #[97]),(ByteArray.mk #[120,46,49])])) 9) 3)).2) 3) (isub .i64 (x1) 1)) 24) ([(ByteArray.mk #[97,10,98]),(ByteArray.mk #[127])]))]) 16)
                (br (cApp (y5) ([((((lk0 (dval (dnext (dwdGN y50000 ([(ByteArray.mk #[115,101,114,118,101,114]),(ByteArray.mk #[97]),(ByteArray.mk #[120,46,49])])) 9) 3).toNat ([(dwdG y50000 ([(ByteArray.mk #[115,101,114,118,101,114]),(ByteArray.mk #[97]),(ByteArray.mk #[120,46,49])]))]) (dnext (dnext (dwdGN y50000 ([(ByteArray.mk #[115,101,114,118,101,114]),(ByteArray.mk #[97]),(ByteArray.mk #[120,46,49])])) 9) 3)).1)++([(dwdG (dnext (ls7N (dnext ((lk0 (dval (dnext (dwdGN y50000 ([(ByteArray.mk #[115,101,114,118,101,114]),(ByteArray.mk #[97]),(ByteArray.mk #[120,46,49])])) 9) 3).toNat ([(dwdG y50000 ([(ByteArray.mk #[115,101,114,118,101,114]),(ByteArray.mk #[97]),(ByteArray.mk #[120,46,49])]))]) (dnext (dnext (dwdGN y50000 ([(ByteArray.mk #[115,101,114,118,101,114]),(ByteArray.mk #[97]),(ByteArray.mk #[120,46,49])])) 9) 3)).2) 3) (isub .i64 (x1) 1)) 24) ([(ByteArray.mk #[97,10,98]),(ByteArray.mk #[127])]))])),(true,((List.map Blk.of (ls7F (dnext ((lk0 (dval (dnext (dwdGN y50000 ([(ByteArray.mk #[115,101,114,118,101,114]),(ByteArray.mk #[97]),(ByteArray.mk #[120,46,49])])) 9) 3).toNat ([(dwdG y50000 ([(ByteArray.mk #[115,101,114,118,101,114]),(ByteArray.mk #[97]),(ByteArray.mk #[120,46,49])]))]) (dnext (dnext (dwdGN y50000 ([(ByteArray.mk #[115,101,114,118,101,114]),(ByteArray.mk #[97]),(ByteArray.mk #[120,46,49])])) 9) 3)).2) 3) (isub .i64 (x1) 1))),(((dval (dwdGN y50000 ([(ByteArray.mk #[115,101,114,118,101,114]),(ByteArray.mk #[97]),(ByteArray.mk #[120,46,49])])) 9)),()))))]) 64)
                 (lp_f31_1 (x1) (isub .i64 (x6) 1) ((y5)++([((((lk0 (dval (dnext (dwdGN y50000 ([(ByteArray.mk #[115,101,114,118,101,114]),(ByteArray.mk #[97]),(ByteArray.mk #[120,46,49])])) 9) 3).toNat ([(dwdG y50000 ([(ByteArray.mk #[115,101,114,118,101,114]),(ByteArray.mk #[97]),(ByteArray.mk #[120,46,49])]))]) (dnext (dnext (dwdGN y50000 ([(ByteArray.mk #[115,101,114,118,101,114]),(ByteArray.mk #[97]),(ByteArray.mk #[120,46,49])])) 9) 3)).1)++([(dwdG (dnext (ls7N (dnext ((lk0 (dval (dnext (dwdGN y50000 ([(ByteArray.mk #[115,101,114,118,101,114]),(ByteArray.mk #[97]),(ByteArray.mk #[120,46,49])])) 9) 3).toNat ([(dwdG y50000 ([(ByteArray.mk #[115,101,114,118,101,114]),(ByteArray.mk #[97]),(ByteArray.mk #[120,46,49])]))]) (dnext (dnext (dwdGN y50000 ([(ByteArray.mk #[115,101,114,118,101,114]),(ByteArray.mk #[97]),(ByteArray.mk #[120,46,49])])) 9) 3)).2) 3) (isub .i64 (x1) 1)) 24) ([(ByteArray.mk #[97,10,98]),(ByteArray.mk #[127])]))])),(true,((List.map Blk.of (ls7F (dnext ((lk0 (dval (dnext (dwdGN y50000 ([(ByteArray.mk #[115,101,114,118,101,114]),(ByteArray.mk #[97]),(ByteArray.mk #[120,46,49])])) 9) 3).toNat ([(dwdG y50000 ([(ByteArray.mk #[115,101,114,118,101,114]),(ByteArray.mk #[97]),(ByteArray.mk #[120,46,49])]))]) (dnext (dnext (dwdGN y50000 ([(ByteArray.mk #[115,101,114,118,101,114]),(ByteArray.mk #[97]),(ByteArray.mk #[120,46,49])])) 9) 3)).2) 3) (isub .i64 (x1) 1))),(((dval (dwdGN y50000 ([(ByteArray.mk #[115,101,114,118,101,114]),(ByteArray.mk #[97]),(ByteArray.mk #[120,46,49])])) 9)),()))))])) (dwdGN (dnext (ls7N (dnext ((lk0 (dval (dnext (dwdGN y50000 ([(ByteArray.mk #[115,101,114,118,101,114]),(ByteArray.mk #[97]),(ByteArray.mk #[120,46,49])])) 9) 3).toNat ([(dwdG y50000 ([(ByteArray.mk #[115,101,114,118,101,114]),(ByteArray.mk #[97]),(ByteArray.mk #[120,46,49])]))]) (dnext (dnext (dwdGN y50000 ([(ByteArray.mk #[115,101,114,118,101,114]),(ByteArray.mk #[97]),(ByteArray.mk #[120,46,49])])) 9) 3)).2) 3) (isub .i64 (x1) 1)) 24) ([(ByteArray.mk #[97,10,98]),(ByteArray.mk #[127])])))
                 (none))
                (none))
               (none))
              (br ((ieq (dval (ls7N (dnext ((lk0 (dval (dnext (dwdGN y50000 ([(ByteArray.mk #[115,101,114,118,101,114]),(ByteArray.mk #[97]),(ByteArray.mk #[120,46,49])])) 9) 3).toNat ([(dwdG y50000 ([(ByteArray.mk #[115,101,114,118,101,114]),(ByteArray.mk #[97]),(ByteArray.mk #[120,46,49])]))]) (dnext (dnext (dwdGN y50000 ([(ByteArray.mk #[115,101,114,118,101,114]),(ByteArray.mk #[97]),(ByteArray.mk #[120,46,49])])) 9) 3)).2) 3) (isub .i64 (x1) 1)) 24) 3))
               (br (cApp (y5) ([(((lk0 (dval (dnext (dwdGN y50000 ([(ByteArray.mk #[115,101,114,118,101,114]),(ByteArray.mk #[97]),(ByteArray.mk #[120,46,49])])) 9) 3).toNat ([(dwdG y50000 ([(ByteArray.mk #[115,101,114,118,101,114]),(ByteArray.mk #[97]),(ByteArray.mk #[120,46,49])]))]) (dnext (dnext (dwdGN y50000 ([(ByteArray.mk #[115,101,114,118,101,114]),(ByteArray.mk #[97]),(ByteArray.mk #[120,46,49])])) 9) 3)).1),(false,((List.map Blk.of (ls7F (dnext ((lk0 (dval (dnext (dwdGN y50000 ([(ByteArray.mk #[115,101,114,118,101,114]),(ByteArray.mk #[97]),(ByteArray.mk #[120,46,49])])) 9) 3).toNat ([(dwdG y50000 ([(ByteArray.mk #[115,101,114,118,101,114]),(ByteArray.mk #[97]),(ByteArray.mk #[120,46,49])]))]) (dnext (dnext (dwdGN y50000 ([(ByteArray.mk #[115,101,114,118,101,114]),(ByteArray.mk #[97]),(ByteArray.mk #[120,46,49])])) 9) 3)).2) 3) (isub .i64 (x1) 1))),(((dval (dwdGN y50000 ([(ByteArray.mk #[115,101,114,118,101,114]),(ByteArray.mk #[97]),(ByteArray.mk #[120,46,49])])) 9)),()))))]) 64)
                (lp_f31_1 (x1) (isub .i64 (x6) 1) ((y5)++([(((lk0 (dval (dnext (dwdGN y50000 ([(ByteArray.mk #[115,101,114,118,101,114]),(ByteArray.mk #[97]),(ByteArray.mk #[120,46,49])])) 9) 3).toNat ([(dwdG y50000 ([(ByteArray.mk #[115,101,114,118,101,114]),(ByteArray.mk #[97]),(ByteArray.mk #[120,46,49])]))]) (dnext (dnext (dwdGN y50000 ([(ByteArray.mk #[115,101,114,118,101,114]),(ByteArray.mk #[97]),(ByteArray.mk #[120,46,49])])) 9) 3)).1),(false,((List.map Blk.of (ls7F (dnext ((lk0 (dval (dnext (dwdGN y50000 ([(ByteArray.mk #[115,101,114,118,101,114]),(ByteArray.mk #[97]),(ByteArray.mk #[120,46,49])])) 9) 3).toNat ([(dwdG y50000 ([(ByteArray.mk #[115,101,114,118,101,114]),(ByteArray.mk #[97]),(ByteArray.mk #[120,46,49])]))]) (dnext (dnext (dwdGN y50000 ([(ByteArray.mk #[115,101,114,118,101,114]),(ByteArray.mk #[97]),(ByteArray.mk #[120,46,49])])) 9) 3)).2) 3) (isub .i64 (x1) 1))),(((dval (dwdGN y50000 ([(ByteArray.mk #[115,101,114,118,101,114]),(ByteArray.mk #[97]),(ByteArray.mk #[120,46,49])])) 9)),()))))])) (dnext (ls7N (dnext ((lk0 (dval (dnext (dwdGN y50000 ([(ByteArray.mk #[115,101,114,118,101,114]),(ByteArray.mk #[97]),(ByteArray.mk #[120,46,49])])) 9) 3).toNat ([(dwdG y50000 ([(ByteArray.mk #[115,101,114,118,101,114]),(ByteArray.mk #[97]),(ByteArray.mk #[120,46,49])]))]) (dnext (dnext (dwdGN y50000 ([(ByteArray.mk #[115,101,114,118,101,114]),(ByteArray.mk #[97]),(ByteArray.mk #[120,46,49])])) 9) 3)).2) 3) (isub .i64 (x1) 1)) 24))
                (none))
               (br (cApp (y5) ([(((lk0 (dval (dnext (dwdGN y50000 ([(ByteArray.mk #[115,101,114,118,101,114]),(ByteArray.mk #[97]),(ByteArray.mk #[120,46,49])])) 9) 3).toNat ([(dwdG y50000 ([(ByteArray.mk #[115,101,114,118,101,114]),(ByteArray.mk #[97]),(ByteArray.mk #[120,46,49])]))]) (dnext (dnext (dwdGN y50000 ([(ByteArray.mk #[115,101,114,118,101,114]),(ByteArray.mk #[97]),(ByteArray.mk #[120,46,49])])) 9) 3)).1),(true,((List.map Blk.of (ls7F (dnext ((lk0 (dval (dnext (dwdGN y50000 ([(ByteArray.mk #[115,101,114,118,101,114]),(ByteArray.mk #[97]),(ByteArray.mk #[120,46,49])])) 9) 3).toNat ([(dwdG y50000 ([(ByteArray.mk #[115,101,114,118,101,114]),(ByteArray.mk #[97]),(ByteArray.mk #[120,46,49])]))]) (dnext (dnext (dwdGN y50000 ([(ByteArray.mk #[115,101,114,118,101,114]),(ByteArray.mk #[97]),(ByteArray.mk #[120,46,49])])) 9) 3)).2) 3) (isub .i64 (x1) 1))),(((dval (dwdGN y50000 ([(ByteArray.mk #[115,101,114,118,101,114]),(ByteArray.mk #[97]),(ByteArray.mk #[120,46,49])])) 9)),()))))]) 64)
                (lp_f31_1 (x1) (isub .i64 (x6) 1) ((y5)++([(((lk0 (dval (dnext (dwdGN y50000 ([(ByteArray.mk #[115,101,114,118,101,114]),(ByteArray.mk #[97]),(ByteArray.mk #[120,46,49])])) 9) 3).toNat ([(dwdG y50000 ([(ByteArray.mk #[115,101,114,118,101,114]),(ByteArray.mk #[97]),(ByteArray.mk #[120,46,49])]))]) (dnext (dnext (dwdGN y50000 ([(ByteArray.mk #[115,101,114,118,101,114]),(ByteArray.mk #[97]),(ByteArray.mk #[120,46,49])])) 9) 3)).1),(true,((List.map Blk.of (ls7F (dnext ((lk0 (dval (dnext (dwdGN y50000 ([(ByteArray.mk #[115,101,114,118,101,114]),(ByteArray.mk #[97]),(ByteArray.mk #[120,46,49])])) 9) 3).toNat ([(dwdG y50000 ([(ByteArray.mk #[115,101,114,118,101,114]),(ByteArray.mk #[97]),(ByteArray.mk #[120,46,49])]))]) (dnext (dnext (dwdGN y50000 ([(ByteArray.mk #[115,101,114,118,101,114]),(ByteArray.mk #[97]),(ByteArray.mk #[120,46,49])])) 9) 3)).2) 3) (isub .i64 (x1) 1))),(((dval (dwdGN y50000 ([(ByteArray.mk #[115,101,114,118,101,114]),(ByteArray.mk #[97]),(ByteArray.mk #[120,46,49])])) 9)),()))))])) (dnext (ls7N (dnext ((lk0 (dval (dnext (dwdGN y50000 ([(ByteArray.mk #[115,101,114,118,101,114]),(ByteArray.mk #[97]),(ByteArray.mk #[120,46,49])])) 9) 3).toNat ([(dwdG y50000 ([(ByteArray.mk #[115,101,114,118,101,114]),(ByteArray.mk #[97]),(ByteArray.mk #[120,46,49])]))]) (dnext (dnext (dwdGN y50000 ([(ByteArray.mk #[115,101,114,118,101,114]),(ByteArray.mk #[97]),(ByteArray.mk #[120,46,49])])) 9) 3)).2) 3) (isub .i64 (x1) 1)) 24))
                (none))))))
           (none))
          (none))
         (br ((nextOk (dnext ((lk0 (dval (dnext (dwdGN y50000 ([(ByteArray.mk #[115,101,114,118,101,114]),(ByteArray.mk #[97]),(ByteArray.mk #[120,46,49])])) 9) 3).toNat ([(dwdG y50000 ([(ByteArray.mk #[115,101,114,118,101,114]),(ByteArray.mk #[97]),(ByteArray.mk #[120,46,49])]))]) (dnext (dnext (dwdGN y50000 ([(ByteArray.mk #[115,101,114,118,101,114]),(ByteArray.mk #[97]),(ByteArray.mk #[120,46,49])])) 9) 3)).2) 3) 24))
          (br ((ieq (dval (dnext ((lk0 (dval (dnext (dwdGN y50000 ([(ByteArray.mk #[115,101,114,118,101,114]),(ByteArray.mk #[97]),(ByteArray.mk #[120,46,49])])) 9) 3).toNat ([(dwdG y50000 ([(ByteArray.mk #[115,101,114,118,101,114]),(ByteArray.mk #[97]),(ByteArray.mk #[120,46,49])]))]) (dnext (dnext (dwdGN y50000 ([(ByteArray.mk #[115,101,114,118,101,114]),(ByteArray.mk #[97]),(ByteArray.mk #[120,46,49])])) 9) 3)).2) 3) 24) 0))
           (br (cApp (y5) ([(([]:List ByteArray),((false),(([]:List Blk),(((dval (dwdGN y50000 ([(ByteArray.mk #[115,101,114,118,101,114]),(ByteArray.mk #[97]),(ByteArray.mk #[120,46,49])])) 9)),()))))]) 64)
            (lp_f31_1 (x1) (isub .i64 (x6) 1) ((y5)++([(([]:List ByteArray),((false),(([]:List Blk),(((dval (dwdGN y50000 ([(ByteArray.mk #[115,101,114,118,101,114]),(ByteArray.mk #[97]),(ByteArray.mk #[120,46,49])])) 9)),()))))])) (dnext (dnext ((lk0 (dval (dnext (dwdGN y50000 ([(ByteArray.mk #[115,101,114,118,101,114]),(ByteArray.mk #[97]),(ByteArray.mk #[120,46,49])])) 9) 3).toNat ([(dwdG y50000 ([(ByteArray.mk #[115,101,114,118,101,114]),(ByteArray.mk #[97]),(ByteArray.mk #[120,46,49])]))]) (dnext (dnext (dwdGN y50000 ([(ByteArray.mk #[115,101,114,118,101,114]),(ByteArray.mk #[97]),(ByteArray.mk #[120,46,49])])) 9) 3)).2) 3) 24))
            (none))
           (br ((ieq (dval (dnext ((lk0 (dval (dnext (dwdGN y50000 ([(ByteArray.mk #[115,101,114,118,101,114]),(ByteArray.mk #[97]),(ByteArray.mk #[120,46,49])])) 9) 3).toNat ([(dwdG y50000 ([(ByteArray.mk #[115,101,114,118,101,114]),(ByteArray.mk #[97]),(ByteArray.mk #[120,46,49])]))]) (dnext (dnext (dwdGN y50000 ([(ByteArray.mk #[115,101,114,118,101,114]),(ByteArray.mk #[97]),(ByteArray.mk #[120,46,49])])) 9) 3)).2) 3) 24) 1))
            (br ((wdGOk (dnext (dnext ((lk0 (dval (dnext (dwdGN y50000 ([(ByteArray.mk #[115,101,114,118,101,114]),(ByteArray.mk #[97]),(ByteArray.mk #[120,46,49])])) 9) 3).toNat ([(dwdG y50000 ([(ByteArray.mk #[115,101,114,118,101,114]),(ByteArray.mk #[97]),(ByteArray.mk #[120,46,49])]))]) (dnext (dnext (dwdGN y50000 ([(ByteArray.mk #[115,101,114,118,101,114]),(ByteArray.mk #[97]),(ByteArray.mk #[120,46,49])])) 9) 3)).2) 3) 24) ([(ByteArray.mk #[]),(ByteArray.mk #[97,32,98]),(ByteArray.mk #[34])])))
             (br (cIx ((lk0 (dval (dnext (dwdGN y50000 ([(ByteArray.mk #[115,101,114,118,101,114]),(ByteArray.mk #[97]),(ByteArray.mk #[120,46,49])])) 9) 3).toNat ([(dwdG y50000 ([(ByteArray.mk #[115,101,114,118,101,114]),(ByteArray.mk #[97]),(ByteArray.mk #[120,46,49])]))]) (dnext (dnext (dwdGN y50000 ([(ByteArray.mk #[115,101,114,118,101,114]),(ByteArray.mk #[97]),(ByteArray.mk #[120,46,49])])) 9) 3)).1) 0)
              (br (cLd ((lk0 (dval (dnext (dwdGN y50000 ([(ByteArray.mk #[115,101,114,118,101,114]),(ByteArray.mk #[97]),(ByteArray.mk #[120,46,49])])) 9) 3).toNat ([(dwdG y50000 ([(ByteArray.mk #[115,101,114,118,101,114]),(ByteArray.mk #[97]),(ByteArray.mk #[120,46,49])]))]) (dnext (dnext (dwdGN y50000 ([(ByteArray.mk #[115,101,114,118,101,114]),(ByteArray.mk #[97]),(ByteArray.mk #[120,46,49])])) 9) 3)).1) (Int.toNat 0))
               (br (cApp (y5) ([((List.set ((lk0 (dval (dnext (dwdGN y50000 ([(ByteArray.mk #[115,101,114,118,101,114]),(ByteArray.mk #[97]),(ByteArray.mk #[120,46,49])])) 9) 3).toNat ([(dwdG y50000 ([(ByteArray.mk #[115,101,114,118,101,114]),(ByteArray.mk #[97]),(ByteArray.mk #[120,46,49])]))]) (dnext (dnext (dwdGN y50000 ([(ByteArray.mk #[115,101,114,118,101,114]),(ByteArray.mk #[97]),(ByteArray.mk #[120,46,49])])) 9) 3)).1) (Int.toNat 0) (dwdG (dnext (dnext ((lk0 (dval (dnext (dwdGN y50000 ([(ByteArray.mk #[115,101,114,118,101,114]),(ByteArray.mk #[97]),(ByteArray.mk #[120,46,49])])) 9) 3).toNat ([(dwdG y50000 ([(ByteArray.mk #[115,101,114,118,101,114]),(ByteArray.mk #[97]),(ByteArray.mk #[120,46,49])]))]) (dnext (dnext (dwdGN y50000 ([(ByteArray.mk #[115,101,114,118,101,114]),(ByteArray.mk #[97]),(ByteArray.mk #[120,46,49])])) 9) 3)).2) 3) 24) ([(ByteArray.mk #[]),(ByteArray.mk #[97,32,98]),(ByteArray.mk #[34])]))),((false),(([]:List Blk),(((dval (dwdGN y50000 ([(ByteArray.mk #[115,101,114,118,101,114]),(ByteArray.mk #[97]),(ByteArray.mk #[120,46,49])])) 9)),()))))]) 64)
                (lp_f31_1 (x1) (isub .i64 (x6) 1) ((y5)++([((List.set ((lk0 (dval (dnext (dwdGN y50000 ([(ByteArray.mk #[115,101,114,118,101,114]),(ByteArray.mk #[97]),(ByteArray.mk #[120,46,49])])) 9) 3).toNat ([(dwdG y50000 ([(ByteArray.mk #[115,101,114,118,101,114]),(ByteArray.mk #[97]),(ByteArray.mk #[120,46,49])]))]) (dnext (dnext (dwdGN y50000 ([(ByteArray.mk #[115,101,114,118,101,114]),(ByteArray.mk #[97]),(ByteArray.mk #[120,46,49])])) 9) 3)).1) (Int.toNat 0) (dwdG (dnext (dnext ((lk0 (dval (dnext (dwdGN y50000 ([(ByteArray.mk #[115,101,114,118,101,114]),(ByteArray.mk #[97]),(ByteArray.mk #[120,46,49])])) 9) 3).toNat ([(dwdG y50000 ([(ByteArray.mk #[115,101,114,118,101,114]),(ByteArray.mk #[97]),(ByteArray.mk #[120,46,49])]))]) (dnext (dnext (dwdGN y50000 ([(ByteArray.mk #[115,101,114,118,101,114]),(ByteArray.mk #[97]),(ByteArray.mk #[120,46,49])])) 9) 3)).2) 3) 24) ([(ByteArray.mk #[]),(ByteArray.mk #[97,32,98]),(ByteArray.mk #[34])]))),((false),(([]:List Blk),(((dval (dwdGN y50000 ([(ByteArray.mk #[115,101,114,118,101,114]),(ByteArray.mk #[97]),(ByteArray.mk #[120,46,49])])) 9)),()))))])) (dwdGN (dnext (dnext ((lk0 (dval (dnext (dwdGN y50000 ([(ByteArray.mk #[115,101,114,118,101,114]),(ByteArray.mk #[97]),(ByteArray.mk #[120,46,49])])) 9) 3).toNat ([(dwdG y50000 ([(ByteArray.mk #[115,101,114,118,101,114]),(ByteArray.mk #[97]),(ByteArray.mk #[120,46,49])]))]) (dnext (dnext (dwdGN y50000 ([(ByteArray.mk #[115,101,114,118,101,114]),(ByteArray.mk #[97]),(ByteArray.mk #[120,46,49])])) 9) 3)).2) 3) 24) ([(ByteArray.mk #[]),(ByteArray.mk #[97,32,98]),(ByteArray.mk #[34])])))
                (none))
               (none))
              (none))
             (none))
            (br ((ieq (dval (dnext ((lk0 (dval (dnext (dwdGN y50000 ([(ByteArray.mk #[115,101,114,118,101,114]),(ByteArray.mk #[97]),(ByteArray.mk #[120,46,49])])) 9) 3).toNat ([(dwdG y50000 ([(ByteArray.mk #[115,101,114,118,101,114]),(ByteArray.mk #[97]),(ByteArray.mk #[120,46,49])]))]) (dnext (dnext (dwdGN y50000 ([(ByteArray.mk #[115,101,114,118,101,114]),(ByteArray.mk #[97]),(ByteArray.mk #[120,46,49])])) 9) 3)).2) 3) 24) 2))
             (br ((wdGOk (dnext (dnext ((lk0 (dval (dnext (dwdGN y50000 ([(ByteArray.mk #[115,101,114,118,101,114]),(ByteArray.mk #[97]),(ByteArray.mk #[120,46,49])])) 9) 3).toNat ([(dwdG y50000 ([(ByteArray.mk #[115,101,114,118,101,114]),(ByteArray.mk #[97]),(ByteArray.mk #[120,46,49])]))]) (dnext (dnext (dwdGN y50000 ([(ByteArray.mk #[115,101,114,118,101,114]),(ByteArray.mk #[97]),(ByteArray.mk #[120,46,49])])) 9) 3)).2) 3) 24) ([(ByteArray.mk #[97,10,98]),(ByteArray.mk #[127])])))
              (br (cApp ((lk0 (dval (dnext (dwdGN y50000 ([(ByteArray.mk #[115,101,114,118,101,114]),(ByteArray.mk #[97]),(ByteArray.mk #[120,46,49])])) 9) 3).toNat ([(dwdG y50000 ([(ByteArray.mk #[115,101,114,118,101,114]),(ByteArray.mk #[97]),(ByteArray.mk #[120,46,49])]))]) (dnext (dnext (dwdGN y50000 ([(ByteArray.mk #[115,101,114,118,101,114]),(ByteArray.mk #[97]),(ByteArray.mk #[120,46,49])])) 9) 3)).1) ([(dwdG (dnext (dnext ((lk0 (dval (dnext (dwdGN y50000 ([(ByteArray.mk #[115,101,114,118,101,114]),(ByteArray.mk #[97]),(ByteArray.mk #[120,46,49])])) 9) 3).toNat ([(dwdG y50000 ([(ByteArray.mk #[115,101,114,118,101,114]),(ByteArray.mk #[97]),(ByteArray.mk #[120,46,49])]))]) (dnext (dnext (dwdGN y50000 ([(ByteArray.mk #[115,101,114,118,101,114]),(ByteArray.mk #[97]),(ByteArray.mk #[120,46,49])])) 9) 3)).2) 3) 24) ([(ByteArray.mk #[97,10,98]),(ByteArray.mk #[127])]))]) 16)
               (br (cApp (y5) ([((((lk0 (dval (dnext (dwdGN y50000 ([(ByteArray.mk #[115,101,114,118,101,114]),(ByteArray.mk #[97]),(ByteArray.mk #[120,46,49])])) 9) 3).toNat ([(dwdG y50000 ([(ByteArray.mk #[115,101,114,118,101,114]),(ByteArray.mk #[97]),(ByteArray.mk #[120,46,49])]))]) (dnext (dnext (dwdGN y50000 ([(ByteArray.mk #[115,101,114,118,101,114]),(ByteArray.mk #[97]),(ByteArray.mk #[120,46,49])])) 9) 3)).1)++([(dwdG (dnext (dnext ((lk0 (dval (dnext (dwdGN y50000 ([(ByteArray.mk #[115,101,114,118,101,114]),(ByteArray.mk #[97]),(ByteArray.mk #[120,46,49])])) 9) 3).toNat ([(dwdG y50000 ([(ByteArray.mk #[115,101,114,118,101,114]),(ByteArray.mk #[97]),(ByteArray.mk #[120,46,49])]))]) (dnext (dnext (dwdGN y50000 ([(ByteArray.mk #[115,101,114,118,101,114]),(ByteArray.mk #[97]),(ByteArray.mk #[120,46,49])])) 9) 3)).2) 3) 24) ([(ByteArray.mk #[97,10,98]),(ByteArray.mk #[127])]))])),((false),(([]:List Blk),(((dval (dwdGN y50000 ([(ByteArray.mk #[115,101,114,118,101,114]),(ByteArray.mk #[97]),(ByteArray.mk #[120,46,49])])) 9)),()))))]) 64)
                (lp_f31_1 (x1) (isub .i64 (x6) 1) ((y5)++([((((lk0 (dval (dnext (dwdGN y50000 ([(ByteArray.mk #[115,101,114,118,101,114]),(ByteArray.mk #[97]),(ByteArray.mk #[120,46,49])])) 9) 3).toNat ([(dwdG y50000 ([(ByteArray.mk #[115,101,114,118,101,114]),(ByteArray.mk #[97]),(ByteArray.mk #[120,46,49])]))]) (dnext (dnext (dwdGN y50000 ([(ByteArray.mk #[115,101,114,118,101,114]),(ByteArray.mk #[97]),(ByteArray.mk #[120,46,49])])) 9) 3)).1)++([(dwdG (dnext (dnext ((lk0 (dval (dnext (dwdGN y50000 ([(ByteArray.mk #[115,101,114,118,101,114]),(ByteArray.mk #[97]),(ByteArray.mk #[120,46,49])])) 9) 3).toNat ([(dwdG y50000 ([(ByteArray.mk #[115,101,114,118,101,114]),(ByteArray.mk #[97]),(ByteArray.mk #[120,46,49])]))]) (dnext (dnext (dwdGN y50000 ([(ByteArray.mk #[115,101,114,118,101,114]),(ByteArray.mk #[97]),(ByteArray.mk #[120,46,49])])) 9) 3)).2) 3) 24) ([(ByteArray.mk #[97,10,98]),(ByteArray.mk #[127])]))])),((false),(([]:List Blk),(((dval (dwdGN y50000 ([(ByteArray.mk #[115,101,114,118,101,114]),(ByteArray.mk #[97]),(ByteArray.mk #[120,46,49])])) 9)),()))))])) (dwdGN (dnext (dnext ((lk0 (dval (dnext (dwdGN y50000 ([(ByteArray.mk #[115,101,114,118,101,114]),(ByteArray.mk #[97]),(ByteArray.mk #[120,46,49])])) 9) 3).toNat ([(dwdG y50000 ([(ByteArray.mk #[115,101,114,118,101,114]),(ByteArray.mk #[97]),(ByteArray.mk #[120,46,49])]))]) (dnext (dnext (dwdGN y50000 ([(ByteArray.mk #[115,101,114,118,101,114]),(ByteArray.mk #[97]),(ByteArray.mk #[120,46,49])])) 9) 3)).2) 3) 24) ([(ByteArray.mk #[97,10,98]),(ByteArray.mk #[127])])))
                (none))
               (none))
              (none))
             (br ((ieq (dval (dnext ((lk0 (dval (dnext (dwdGN y50000 ([(ByteArray.mk #[115,101,114,118,101,114]),(ByteArray.mk #[97]),(ByteArray.mk #[120,46,49])])) 9) 3).toNat ([(dwdG y50000 ([(ByteArray.mk #[115,101,114,118,101,114]),(ByteArray.mk #[97]),(ByteArray.mk #[120,46,49])]))]) (dnext (dnext (dwdGN y50000 ([(ByteArray.mk #[115,101,114,118,101,114]),(ByteArray.mk #[97]),(ByteArray.mk #[120,46,49])])) 9) 3)).2) 3) 24) 3))
              (br (cApp (y5) ([(((lk0 (dval (dnext (dwdGN y50000 ([(ByteArray.mk #[115,101,114,118,101,114]),(ByteArray.mk #[97]),(ByteArray.mk #[120,46,49])])) 9) 3).toNat ([(dwdG y50000 ([(ByteArray.mk #[115,101,114,118,101,114]),(ByteArray.mk #[97]),(ByteArray.mk #[120,46,49])]))]) (dnext (dnext (dwdGN y50000 ([(ByteArray.mk #[115,101,114,118,101,114]),(ByteArray.mk #[97]),(ByteArray.mk #[120,46,49])])) 9) 3)).1),(false,(([]:List Blk),(((dval (dwdGN y50000 ([(ByteArray.mk #[115,101,114,118,101,114]),(ByteArray.mk #[97]),(ByteArray.mk #[120,46,49])])) 9)),()))))]) 64)
               (lp_f31_1 (x1) (isub .i64 (x6) 1) ((y5)++([(((lk0 (dval (dnext (dwdGN y50000 ([(ByteArray.mk #[115,101,114,118,101,114]),(ByteArray.mk #[97]),(ByteArray.mk #[120,46,49])])) 9) 3).toNat ([(dwdG y50000 ([(ByteArray.mk #[115,101,114,118,101,114]),(ByteArray.mk #[97]),(ByteArray.mk #[120,46,49])]))]) (dnext (dnext (dwdGN y50000 ([(ByteArray.mk #[115,101,114,118,101,114]),(ByteArray.mk #[97]),(ByteArray.mk #[120,46,49])])) 9) 3)).1),(false,(([]:List Blk),(((dval (dwdGN y50000 ([(ByteArray.mk #[115,101,114,118,101,114]),(ByteArray.mk #[97]),(ByteArray.mk #[120,46,49])])) 9)),()))))])) (dnext (dnext ((lk0 (dval (dnext (dwdGN y50000 ([(ByteArray.mk #[115,101,114,118,101,114]),(ByteArray.mk #[97]),(ByteArray.mk #[120,46,49])])) 9) 3).toNat ([(dwdG y50000 ([(ByteArray.mk #[115,101,114,118,101,114]),(ByteArray.mk #[97]),(ByteArray.mk #[120,46,49])]))]) (dnext (dnext (dwdGN y50000 ([(ByteArray.mk #[115,101,114,118,101,114]),(ByteArray.mk #[97]),(ByteArray.mk #[120,46,49])])) 9) 3)).2) 3) 24))
               (none))
              (br (cApp (y5) ([(((lk0 (dval (dnext (dwdGN y50000 ([(ByteArray.mk #[115,101,114,118,101,114]),(ByteArray.mk #[97]),(ByteArray.mk #[120,46,49])])) 9) 3).toNat ([(dwdG y50000 ([(ByteArray.mk #[115,101,114,118,101,114]),(ByteArray.mk #[97]),(ByteArray.mk #[120,46,49])]))]) (dnext (dnext (dwdGN y50000 ([(ByteArray.mk #[115,101,114,118,101,114]),(ByteArray.mk #[97]),(ByteArray.mk #[120,46,49])])) 9) 3)).1),((false),(([]:List Blk),(((dval (dwdGN y50000 ([(ByteArray.mk #[115,101,114,118,101,114]),(ByteArray.mk #[97]),(ByteArray.mk #[120,46,49])])) 9)),()))))]) 64)
               (lp_f31_1 (x1) (isub .i64 (x6) 1) ((y5)++([(((lk0 (dval (dnext (dwdGN y50000 ([(ByteArray.mk #[115,101,114,118,101,114]),(ByteArray.mk #[97]),(ByteArray.mk #[120,46,49])])) 9) 3).toNat ([(dwdG y50000 ([(ByteArray.mk #[115,101,114,118,101,114]),(ByteArray.mk #[97]),(ByteArray.mk #[120,46,49])]))]) (dnext (dnext (dwdGN y50000 ([(ByteArray.mk #[115,101,114,118,101,114]),(ByteArray.mk #[97]),(ByteArray.mk #[120,46,49])])) 9) 3)).1),((false),(([]:List Blk),(((dval (dwdGN y50000 ([(ByteArray.mk #[115,101,114,118,101,114]),(ByteArray.mk #[97]),(ByteArray.mk #[120,46,49])])) 9)),()))))])) (dnext (dnext ((lk0 (dval (dnext (dwdGN y50000 ([(ByteArray.mk #[115,101,114,118,101,114]),(ByteArray.mk #[97]),(ByteArray.mk #[120,46,49])])) 9) 3).toNat ([(dwdG y50000 ([(ByteArray.mk #[115,101,114,118,101,114]),(ByteArray.mk #[97]),(ByteArray.mk #[120,46,49])]))]) (dnext (dnext (dwdGN y50000 ([(ByteArray.mk #[115,101,114,118,101,114]),(ByteArray.mk #[97]),(ByteArray.mk #[120,46,49])])) 9) 3)).2) 3) 24))
               (none))))))
          (none)))
        (none))
       (br ((nextOk ((lk0 (dval (dnext (dwdGN y50000 ([(ByteArray.mk #[115,101,114,118,101,114]),(ByteArray.mk #[97]),(ByteArray.mk #[120,46,49])])) 9) 3).toNat ([(dwdG y50000 ([(ByteArray.mk #[115,101,114,118,101,114]),(ByteArray.mk #[97]),(ByteArray.mk #[120,46,49])]))]) (dnext (dnext (dwdGN y50000 ([(ByteArray.mk #[115,101,114,118,101,114]),(ByteArray.mk #[97]),(ByteArray.mk #[120,46,49])])) 9) 3)).2) 24))
        (br ((ieq (dval ((lk0 (dval (dnext (dwdGN y50000 ([(ByteArray.mk #[115,101,114,118,101,114]),(ByteArray.mk #[97]),(ByteArray.mk #[120,46,49])])) 9) 3).toNat ([(dwdG y50000 ([(ByteArray.mk #[115,101,114,118,101,114]),(ByteArray.mk #[97]),(ByteArray.mk #[120,46,49])]))]) (dnext (dnext (dwdGN y50000 ([(ByteArray.mk #[115,101,114,118,101,114]),(ByteArray.mk #[97]),(ByteArray.mk #[120,46,49])])) 9) 3)).2) 24) 0))
         (br (cApp (y5) ([(([]:List ByteArray),((false),(([]:List Blk),(((dval (dwdGN y50000 ([(ByteArray.mk #[115,101,114,118,101,114]),(ByteArray.mk #[97]),(ByteArray.mk #[120,46,49])])) 9)),()))))]) 64)
          (lp_f31_1 (x1) (isub .i64 (x6) 1) ((y5)++([(([]:List ByteArray),((false),(([]:List Blk),(((dval (dwdGN y50000 ([(ByteArray.mk #[115,101,114,118,101,114]),(ByteArray.mk #[97]),(ByteArray.mk #[120,46,49])])) 9)),()))))])) (dnext ((lk0 (dval (dnext (dwdGN y50000 ([(ByteArray.mk #[115,101,114,118,101,114]),(ByteArray.mk #[97]),(ByteArray.mk #[120,46,49])])) 9) 3).toNat ([(dwdG y50000 ([(ByteArray.mk #[115,101,114,118,101,114]),(ByteArray.mk #[97]),(ByteArray.mk #[120,46,49])]))]) (dnext (dnext (dwdGN y50000 ([(ByteArray.mk #[115,101,114,118,101,114]),(ByteArray.mk #[97]),(ByteArray.mk #[120,46,49])])) 9) 3)).2) 24))
          (none))
         (br ((ieq (dval ((lk0 (dval (dnext (dwdGN y50000 ([(ByteArray.mk #[115,101,114,118,101,114]),(ByteArray.mk #[97]),(ByteArray.mk #[120,46,49])])) 9) 3).toNat ([(dwdG y50000 ([(ByteArray.mk #[115,101,114,118,101,114]),(ByteArray.mk #[97]),(ByteArray.mk #[120,46,49])]))]) (dnext (dnext (dwdGN y50000 ([(ByteArray.mk #[115,101,114,118,101,114]),(ByteArray.mk #[97]),(ByteArray.mk #[120,46,49])])) 9) 3)).2) 24) 1))
          (br ((wdGOk (dnext ((lk0 (dval (dnext (dwdGN y50000 ([(ByteArray.mk #[115,101,114,118,101,114]),(ByteArray.mk #[97]),(ByteArray.mk #[120,46,49])])) 9) 3).toNat ([(dwdG y50000 ([(ByteArray.mk #[115,101,114,118,101,114]),(ByteArray.mk #[97]),(ByteArray.mk #[120,46,49])]))]) (dnext (dnext (dwdGN y50000 ([(ByteArray.mk #[115,101,114,118,101,114]),(ByteArray.mk #[97]),(ByteArray.mk #[120,46,49])])) 9) 3)).2) 24) ([(ByteArray.mk #[]),(ByteArray.mk #[97,32,98]),(ByteArray.mk #[34])])))
           (br (cIx ((lk0 (dval (dnext (dwdGN y50000 ([(ByteArray.mk #[115,101,114,118,101,114]),(ByteArray.mk #[97]),(ByteArray.mk #[120,46,49])])) 9) 3).toNat ([(dwdG y50000 ([(ByteArray.mk #[115,101,114,118,101,114]),(ByteArray.mk #[97]),(ByteArray.mk #[120,46,49])]))]) (dnext (dnext (dwdGN y50000 ([(ByteArray.mk #[115,101,114,118,101,114]),(ByteArray.mk #[97]),(ByteArray.mk #[120,46,49])])) 9) 3)).1) 0)
            (br (cLd ((lk0 (dval (dnext (dwdGN y50000 ([(ByteArray.mk #[115,101,114,118,101,114]),(ByteArray.mk #[97]),(ByteArray.mk #[120,46,49])])) 9) 3).toNat ([(dwdG y50000 ([(ByteArray.mk #[115,101,114,118,101,114]),(ByteArray.mk #[97]),(ByteArray.mk #[120,46,49])]))]) (dnext (dnext (dwdGN y50000 ([(ByteArray.mk #[115,101,114,118,101,114]),(ByteArray.mk #[97]),(ByteArray.mk #[120,46,49])])) 9) 3)).1) (Int.toNat 0))
             (br (cApp (y5) ([((List.set ((lk0 (dval (dnext (dwdGN y50000 ([(ByteArray.mk #[115,101,114,118,101,114]),(ByteArray.mk #[97]),(ByteArray.mk #[120,46,49])])) 9) 3).toNat ([(dwdG y50000 ([(ByteArray.mk #[115,101,114,118,101,114]),(ByteArray.mk #[97]),(ByteArray.mk #[120,46,49])]))]) (dnext (dnext (dwdGN y50000 ([(ByteArray.mk #[115,101,114,118,101,114]),(ByteArray.mk #[97]),(ByteArray.mk #[120,46,49])])) 9) 3)).1) (Int.toNat 0) (dwdG (dnext ((lk0 (dval (dnext (dwdGN y50000 ([(ByteArray.mk #[115,101,114,118,101,114]),(ByteArray.mk #[97]),(ByteArray.mk #[120,46,49])])) 9) 3).toNat ([(dwdG y50000 ([(ByteArray.mk #[115,101,114,118,101,114]),(ByteArray.mk #[97]),(ByteArray.mk #[120,46,49])]))]) (dnext (dnext (dwdGN y50000 ([(ByteArray.mk #[115,101,114,118,101,114]),(ByteArray.mk #[97]),(ByteArray.mk #[120,46,49])])) 9) 3)).2) 24) ([(ByteArray.mk #[]),(ByteArray.mk #[97,32,98]),(ByteArray.mk #[34])]))),((false),(([]:List Blk),(((dval (dwdGN y50000 ([(ByteArray.mk #[115,101,114,118,101,114]),(ByteArray.mk #[97]),(ByteArray.mk #[120,46,49])])) 9)),()))))]) 64)
              (lp_f31_1 (x1) (isub .i64 (x6) 1) ((y5)++([((List.set ((lk0 (dval (dnext (dwdGN y50000 ([(ByteArray.mk #[115,101,114,118,101,114]),(ByteArray.mk #[97]),(ByteArray.mk #[120,46,49])])) 9) 3).toNat ([(dwdG y50000 ([(ByteArray.mk #[115,101,114,118,101,114]),(ByteArray.mk #[97]),(ByteArray.mk #[120,46,49])]))]) (dnext (dnext (dwdGN y50000 ([(ByteArray.mk #[115,101,114,118,101,114]),(ByteArray.mk #[97]),(ByteArray.mk #[120,46,49])])) 9) 3)).1) (Int.toNat 0) (dwdG (dnext ((lk0 (dval (dnext (dwdGN y50000 ([(ByteArray.mk #[115,101,114,118,101,114]),(ByteArray.mk #[97]),(ByteArray.mk #[120,46,49])])) 9) 3).toNat ([(dwdG y50000 ([(ByteArray.mk #[115,101,114,118,101,114]),(ByteArray.mk #[97]),(ByteArray.mk #[120,46,49])]))]) (dnext (dnext (dwdGN y50000 ([(ByteArray.mk #[115,101,114,118,101,114]),(ByteArray.mk #[97]),(ByteArray.mk #[120,46,49])])) 9) 3)).2) 24) ([(ByteArray.mk #[]),(ByteArray.mk #[97,32,98]),(ByteArray.mk #[34])]))),((false),(([]:List Blk),(((dval (dwdGN y50000 ([(ByteArray.mk #[115,101,114,118,101,114]),(ByteArray.mk #[97]),(ByteArray.mk #[120,46,49])])) 9)),()))))])) (dwdGN (dnext ((lk0 (dval (dnext (dwdGN y50000 ([(ByteArray.mk #[115,101,114,118,101,114]),(ByteArray.mk #[97]),(ByteArray.mk #[120,46,49])])) 9) 3).toNat ([(dwdG y50000 ([(ByteArray.mk #[115,101,114,118,101,114]),(ByteArray.mk #[97]),(ByteArray.mk #[120,46,49])]))]) (dnext (dnext (dwdGN y50000 ([(ByteArray.mk #[115,101,114,118,101,114]),(ByteArray.mk #[97]),(ByteArray.mk #[120,46,49])])) 9) 3)).2) 24) ([(ByteArray.mk #[]),(ByteArray.mk #[97,32,98]),(ByteArray.mk #[34])])))
              (none))
             (none))
            (none))
           (none))
          (br ((ieq (dval ((lk0 (dval (dnext (dwdGN y50000 ([(ByteArray.mk #[115,101,114,118,101,114]),(ByteArray.mk #[97]),(ByteArray.mk #[120,46,49])])) 9) 3).toNat ([(dwdG y50000 ([(ByteArray.mk #[115,101,114,118,101,114]),(ByteArray.mk #[97]),(ByteArray.mk #[120,46,49])]))]) (dnext (dnext (dwdGN y50000 ([(ByteArray.mk #[115,101,114,118,101,114]),(ByteArray.mk #[97]),(ByteArray.mk #[120,46,49])])) 9) 3)).2) 24) 2))
           (br ((wdGOk (dnext ((lk0 (dval (dnext (dwdGN y50000 ([(ByteArray.mk #[115,101,114,118,101,114]),(ByteArray.mk #[97]),(ByteArray.mk #[120,46,49])])) 9) 3).toNat ([(dwdG y50000 ([(ByteArray.mk #[115,101,114,118,101,114]),(ByteArray.mk #[97]),(ByteArray.mk #[120,46,49])]))]) (dnext (dnext (dwdGN y50000 ([(ByteArray.mk #[115,101,114,118,101,114]),(ByteArray.mk #[97]),(ByteArray.mk #[120,46,49])])) 9) 3)).2) 24) ([(ByteArray.mk #[97,10,98]),(ByteArray.mk #[127])])))
            (br (cApp ((lk0 (dval (dnext (dwdGN y50000 ([(ByteArray.mk #[115,101,114,118,101,114]),(ByteArray.mk #[97]),(ByteArray.mk #[120,46,49])])) 9) 3).toNat ([(dwdG y50000 ([(ByteArray.mk #[115,101,114,118,101,114]),(ByteArray.mk #[97]),(ByteArray.mk #[120,46,49])]))]) (dnext (dnext (dwdGN y50000 ([(ByteArray.mk #[115,101,114,118,101,114]),(ByteArray.mk #[97]),(ByteArray.mk #[120,46,49])])) 9) 3)).1) ([(dwdG (dnext ((lk0 (dval (dnext (dwdGN y50000 ([(ByteArray.mk #[115,101,114,118,101,114]),(ByteArray.mk #[97]),(ByteArray.mk #[120,46,49])])) 9) 3).toNat ([(dwdG y50000 ([(ByteArray.mk #[115,101,114,118,101,114]),(ByteArray.mk #[97]),(ByteArray.mk #[120,46,49])]))]) (dnext (dnext (dwdGN y50000 ([(ByteArray.mk #[115,101,114,118,101,114]),(ByteArray.mk #[97]),(ByteArray.mk #[120,46,49])])) 9) 3)).2) 24) ([(ByteArray.mk #[97,10,98]),(ByteArray.mk #[127])]))]) 16)
             (br (cApp (y5) ([((((lk0 (dval (dnext (dwdGN y50000 ([(ByteArray.mk #[115,101,114,118,101,114]),(ByteArray.mk #[97]),(ByteArray.mk #[120,46,49])])) 9) 3).toNat ([(dwdG y50000 ([(ByteArray.mk #[115,101,114,118,101,114]),(ByteArray.mk #[97]),(ByteArray.mk #[120,46,49])]))]) (dnext (dnext (dwdGN y50000 ([(ByteArray.mk #[115,101,114,118,101,114]),(ByteArray.mk #[97]),(ByteArray.mk #[120,46,49])])) 9) 3)).1)++([(dwdG (dnext ((lk0 (dval (dnext (dwdGN y50000 ([(ByteArray.mk #[115,101,114,118,101,114]),(ByteArray.mk #[97]),(ByteArray.mk #[120,46,49])])) 9) 3).toNat ([(dwdG y50000 ([(ByteArray.mk #[115,101,114,118,101,114]),(ByteArray.mk #[97]),(ByteArray.mk #[120,46,49])]))]) (dnext (dnext (dwdGN y50000 ([(ByteArray.mk #[115,101,114,118,101,114]),(ByteArray.mk #[97]),(ByteArray.mk #[120,46,49])])) 9) 3)).2) 24) ([(ByteArray.mk #[97,10,98]),(ByteArray.mk #[127])]))])),((false),(([]:List Blk),(((dval (dwdGN y50000 ([(ByteArray.mk #[115,101,114,118,101,114]),(ByteArray.mk #[97]),(ByteArray.mk #[120,46,49])])) 9)),()))))]) 64)
              (lp_f31_1 (x1) (isub .i64 (x6) 1) ((y5)++([((((lk0 (dval (dnext (dwdGN y50000 ([(ByteArray.mk #[115,101,114,118,101,114]),(ByteArray.mk #[97]),(ByteArray.mk #[120,46,49])])) 9) 3).toNat ([(dwdG y50000 ([(ByteArray.mk #[115,101,114,118,101,114]),(ByteArray.mk #[97]),(ByteArray.mk #[120,46,49])]))]) (dnext (dnext (dwdGN y50000 ([(ByteArray.mk #[115,101,114,118,101,114]),(ByteArray.mk #[97]),(ByteArray.mk #[120,46,49])])) 9) 3)).1)++([(dwdG (dnext ((lk0 (dval (dnext (dwdGN y50000 ([(ByteArray.mk #[115,101,114,118,101,114]),(ByteArray.mk #[97]),(ByteArray.mk #[120,46,49])])) 9) 3).toNat ([(dwdG y50000 ([(ByteArray.mk #[115,101,114,118,101,114]),(ByteArray.mk #[97]),(ByteArray.mk #[120,46,49])]))]) (dnext (dnext (dwdGN y50000 ([(ByteArray.mk #[115,101,114,118,101,114]),(ByteArray.mk #[97]),(ByteArray.mk #[120,46,49])])) 9) 3)).2) 24) ([(ByteArray.mk #[97,10,98]),(ByteArray.mk #[127])]))])),((false),(([]:List Blk),(((dval (dwdGN y50000 ([(ByteArray.mk #[115,101,114,118,101,114]),(ByteArray.mk #[97]),(ByteArray.mk #[120,46,49])])) 9)),()))))])) (dwdGN (dnext ((lk0 (dval (dnext (dwdGN y50000 ([(ByteArray.mk #[115,101,114,118,101,114]),(ByteArray.mk #[97]),(ByteArray.mk #[120,46,49])])) 9) 3).toNat ([(dwdG y50000 ([(ByteArray.mk #[115,101,114,118,101,114]),(ByteArray.mk #[97]),(ByteArray.mk #[120,46,49])]))]) (dnext (dnext (dwdGN y50000 ([(ByteArray.mk #[115,101,114,118,101,114]),(ByteArray.mk #[97]),(ByteArray.mk #[120,46,49])])) 9) 3)).2) 24) ([(ByteArray.mk #[97,10,98]),(ByteArray.mk #[127])])))
              (none))
             (none))
            (none))
           (br ((ieq (dval ((lk0 (dval (dnext (dwdGN y50000 ([(ByteArray.mk #[115,101,114,118,101,114]),(ByteArray.mk #[97]),(ByteArray.mk #[120,46,49])])) 9) 3).toNat ([(dwdG y50000 ([(ByteArray.mk #[115,101,114,118,101,114]),(ByteArray.mk #[97]),(ByteArray.mk #[120,46,49])]))]) (dnext (dnext (dwdGN y50000 ([(ByteArray.mk #[115,101,114,118,101,114]),(ByteArray.mk #[97]),(ByteArray.mk #[120,46,49])])) 9) 3)).2) 24) 3))
            (br (cApp (y5) ([(((lk0 (dval (dnext (dwdGN y50000 ([(ByteArray.mk #[115,101,114,118,101,114]),(ByteArray.mk #[97]),(ByteArray.mk #[120,46,49])])) 9) 3).toNat ([(dwdG y50000 ([(ByteArray.mk #[115,101,114,118,101,114]),(ByteArray.mk #[97]),(ByteArray.mk #[120,46,49])]))]) (dnext (dnext (dwdGN y50000 ([(ByteArray.mk #[115,101,114,118,101,114]),(ByteArray.mk #[97]),(ByteArray.mk #[120,46,49])])) 9) 3)).1),(false,(([]:List Blk),(((dval (dwdGN y50000 ([(ByteArray.mk #[115,101,114,118,101,114]),(ByteArray.mk #[97]),(ByteArray.mk #[120,46,49])])) 9)),()))))]) 64)
             (lp_f31_1 (x1) (isub .i64 (x6) 1) ((y5)++([(((lk0 (dval (dnext (dwdGN y50000 ([(ByteArray.mk #[115,101,114,118,101,114]),(ByteArray.mk #[97]),(ByteArray.mk #[120,46,49])])) 9) 3).toNat ([(dwdG y50000 ([(ByteArray.mk #[115,101,114,118,101,114]),(ByteArray.mk #[97]),(ByteArray.mk #[120,46,49])]))]) (dnext (dnext (dwdGN y50000 ([(ByteArray.mk #[115,101,114,118,101,114]),(ByteArray.mk #[97]),(ByteArray.mk #[120,46,49])])) 9) 3)).1),(false,(([]:List Blk),(((dval (dwdGN y50000 ([(ByteArray.mk #[115,101,114,118,101,114]),(ByteArray.mk #[97]),(ByteArray.mk #[120,46,49])])) 9)),()))))])) (dnext ((lk0 (dval (dnext (dwdGN y50000 ([(ByteArray.mk #[115,101,114,118,101,114]),(ByteArray.mk #[97]),(ByteArray.mk #[120,46,49])])) 9) 3).toNat ([(dwdG y50000 ([(ByteArray.mk #[115,101,114,118,101,114]),(ByteArray.mk #[97]),(ByteArray.mk #[120,46,49])]))]) (dnext (dnext (dwdGN y50000 ([(ByteArray.mk #[115,101,114,118,101,114]),(ByteArray.mk #[97]),(ByteArray.mk #[120,46,49])])) 9) 3)).2) 24))
             (none))
            (br (cApp (y5) ([(((lk0 (dval (dnext (dwdGN y50000 ([(ByteArray.mk #[115,101,114,118,101,114]),(ByteArray.mk #[97]),(ByteArray.mk #[120,46,49])])) 9) 3).toNat ([(dwdG y50000 ([(ByteArray.mk #[115,101,114,118,101,114]),(ByteArray.mk #[97]),(ByteArray.mk #[120,46,49])]))]) (dnext (dnext (dwdGN y50000 ([(ByteArray.mk #[115,101,114,118,101,114]),(ByteArray.mk #[97]),(ByteArray.mk #[120,46,49])])) 9) 3)).1),((false),(([]:List Blk),(((dval (dwdGN y50000 ([(ByteArray.mk #[115,101,114,118,101,114]),(ByteArray.mk #[97]),(ByteArray.mk #[120,46,49])])) 9)),()))))]) 64)
             (lp_f31_1 (x1) (isub .i64 (x6) 1) ((y5)++([(((lk0 (dval (dnext (dwdGN y50000 ([(ByteArray.mk #[115,101,114,118,101,114]),(ByteArray.mk #[97]),(ByteArray.mk #[120,46,49])])) 9) 3).toNat ([(dwdG y50000 ([(ByteArray.mk #[115,101,114,118,101,114]),(ByteArray.mk #[97]),(ByteArray.mk #[120,46,49])]))]) (dnext (dnext (dwdGN y50000 ([(ByteArray.mk #[115,101,114,118,101,114]),(ByteArray.mk #[97]),(ByteArray.mk #[120,46,49])])) 9) 3)).1),((false),(([]:List Blk),(((dval (dwdGN y50000 ([(ByteArray.mk #[115,101,114,118,101,114]),(ByteArray.mk #[97]),(ByteArray.mk #[120,46,49])])) 9)),()))))])) (dnext ((lk0 (dval (dnext (dwdGN y50000 ([(ByteArray.mk #[115,101,114,118,101,114]),(ByteArray.mk #[97]),(ByteArray.mk #[120,46,49])])) 9) 3).toNat ([(dwdG y50000 ([(ByteArray.mk #[115,101,114,118,101,114]),(ByteArray.mk #[97]),(ByteArray.mk #[120,46,49])]))]) (dnext (dnext (dwdGN y50000 ([(ByteArray.mk #[115,101,114,118,101,114]),(ByteArray.mk #[97]),(ByteArray.mk #[120,46,49])])) 9) 3)).2) 24))
             (none))))))
        (none)))
      (none))
     (none))
    (none))
   (none))
  (some (.exit 0,st_f31_1_e0 y5 y50000))
def la_f31_1 (x1:Int)(x6:Int)(y5:(List BlkT))(y50000:Dice):Option (Exit×VS):=some (.exit 0,st_f31_1_e0 ((lk1 (lsRec x1) (igt x1 0) x6.toNat y5 y50000).1) ((lk1 (lsRec x1) (igt x1 0) x6.toNat y5 y50000).2))
theorem be_f31_1 (x1:Int)(x6:Int)(y5:(List BlkT))(y50000:Dice):roundF g_f31 fg_f31_1 tb_f31_1 (st_f31_1 x1 x6 y5 y50000)=b_f31_1 x1 x6 y5 y50000:=by kernel_rfl
theorem ln_f31_1 (x1:Int)(x6:Int)(y5:(List BlkT))(y50000:Dice):lp_f31_1 x1 x6 y5 y50000=n_f31_1 x1 x6 y5 y50000:=(loopF_nxt _ _).trans (by
 rw [be_f31_1]
 simp only [b_f31_1,n_f31_1,nxt_br,nxt_n,nxt_r,nxt_e,nxt_0]
 rfl)
def r_f31 (d0:Dice)(p1:Int):Option (V×List VO):=
 br ((nextOk d0 4))
  (br ((lb1 p1 (dval d0 4) ([]:List BlkT) (dnext d0 4)))
   (some (.t (.sl tyBlkT) ((lk1 (lsRec p1) (igt p1 0) (dval d0 4).toNat ([]:List BlkT) (dnext d0 4)).1),[.box (.t tyDice ((lk1 (lsRec p1) (igt p1 0) (dval d0 4).toNat ([]:List BlkT) (dnext d0 4)).2))]))
   (none))
  (none)
theorem e_f31 (d0:Dice)(p1:Int):runF g_f31 tc_f31 rv_f31 false [.ptr 50000 0,.t tI p1] [.box (.t tyDice d0)]=r_f31 d0 p1:=by kernel_rfl
theorem ok_f31:Option.map (trC Tryd.prog) Tryd.f31.body=some tc_f31.er:=by kernel_rfl
theorem rok_f31:trVs Tryd.prog Tryd.f31.results.toList=some (rv_f31.map Prod.fst):=by kernel_rfl
theorem gk_f31:GOk Tryd.prog g_f31:=gok_of _ (by
 intro p hp
 simp only [List.mem_cons,List.not_mem_nil,or_false] at hp
 rcases hp with rfl|rfl|rfl|rfl
 ·exact ⟨en_f18,ms_f18⟩
 ·exact ⟨en_f31R,ms_f31R⟩
 ·exact ⟨en_f32,ms_f32⟩
 ·exact ⟨en_f52,ms_f52⟩)
theorem l_f31_0 (x1:Int)(x6:Int)(x8:Int)(y5:(List BlkT))(y7_1:Bool)(y7_3:Int)(y18:(List ByteArray))(y50000:Dice)(h:(lb0 x8 y18 y50000)=true):lp_f31_0 x1 x6 x8 y5 y7_1 y7_3 y18 y50000=la_f31_0 x1 x6 x8 y5 y7_1 y7_3 y18 y50000:=by
 obtain ⟨h0,hh⟩:=Bool.and_eq_true_iff.1 h
 obtain ⟨h1,h2,h3⟩:=cP_of hh
 clear h hh
 obtain ⟨k,rfl⟩:=Int.eq_ofNat_of_zero_le h1
 clear h1
 induction k generalizing y18 y50000 with
 |zero=>
  rw [ln_f31_0]
  rfl
 |succ k ih=>
  rw [ln_f31_0]
  have k1:dOk (dwdGN y50000 bl2)=true:=dOk_next h0
  have i1:isub .i64 ((k+1:Nat):Int) 1=(k:Int):=by rw [isub_in (by omega)];omega
  unfold n_f31_0
  rw [show igt ((k+1:Nat):Int) 0=true from decide_eq_true (by omega),br_true]
  have ih:=ih (y18++[dwdG y50000 bl2]) (dwdGN y50000 bl2) k1 (by omega) (by rw [List.length_append,List.length_singleton];omega)
  refine brY (Bool.and_eq_true_iff.2 ⟨h0,by decide⟩) (brY (cAppN (by decide) (by rw [List.length_singleton];omega)) ?_)
  rw [i1]
  exact ih
theorem l_f31_1 (x1:Int)(x6:Int)(y5:(List BlkT))(y50000:Dice)(h:(lb1 x1 x6 y5 y50000)=true):lp_f31_1 x1 x6 y5 y50000=la_f31_1 x1 x6 y5 y50000:=by
 obtain ⟨h0,hh⟩:=Bool.and_eq_true_iff.1 h
 obtain ⟨h1,h2,h3,h4,h5⟩:=cP_of hh
 clear h hh
 obtain ⟨i,rfl⟩:=Int.eq_ofNat_of_zero_le h4
 clear h4
 induction i generalizing y5 y50000 with
 |zero=>
  rw [ln_f31_1]
  rfl
 |succ i ih=>
  have hv:=dval_lt (d:=dnext (dwdGN y50000 bl1) 9) (n:=3) (by omega)
  have k1:dOk (dwdGN y50000 bl1)=true:=dOk_next h0
  have k2:dOk (dnext (dwdGN y50000 bl1) 9)=true:=dOk_next k1
  have k3:dOk (dnext (dnext (dwdGN y50000 bl1) 9) 3)=true:=dOk_next k2
  have i1:isub .i64 ((i+1:Nat):Int) 1=(i:Int):=by rw [isub_in (by omega)];omega
  obtain ⟨a1,a2,a3,a4⟩:=lA_ok y50000 h0
  have er:lk0 (dval (dnext (dwdGN y50000 bl1) 9) 3).toNat [dwdG y50000 bl1] (dnext (dnext (dwdGN y50000 bl1) 9) 3)=lA y50000:=rfl
  have la:la_f31_1 x1 ((i+1:Nat):Int) y5 y50000=la_f31_1 x1 (i:Int) (y5++[(lB (lsRec x1) (igt x1 0) (lA y50000) (dval (dwdGN y50000 bl1) 9)).1]) (lB (lsRec x1) (igt x1 0) (lA y50000) (dval (dwdGN y50000 bl1) 9)).2:=by
   unfold la_f31_1
   rw [Int.toNat_natCast,Int.toNat_natCast]
   rfl
  rw [la,ln_f31_1]
  have hz:lb0 (dval (dnext (dwdGN y50000 bl1) 9) 3) [dwdG y50000 bl1] (dnext (dnext (dwdGN y50000 bl1) 9) 3)=true:=Bool.and_eq_true_iff.2 ⟨k3,cP_in ⟨by omega,by omega,by rw [List.length_singleton];omega⟩⟩
  have fin: ∀ (x:BlkT) (d:Dice),dOk d=true->lp_f31_1 x1 (i:Int) (y5++[x]) d=la_f31_1 x1 (i:Int) (y5++[x]) d:=fun x d g1=>ih (y5++[x]) d g1 (by rw [List.length_append,List.length_singleton];omega)
  simp only [n_f31_1]
  rw [show igt ((i+1:Nat):Int) 0=true from decide_eq_true (by omega),br_true]
  refine brY (Bool.and_eq_true_iff.2 ⟨h0,by decide⟩) (brY (Bool.and_eq_true_iff.2 ⟨k1,by decide⟩) (brY (Bool.and_eq_true_iff.2 ⟨k2,by decide⟩) (brY hz ?_)))
  simp only [er,i1]
  generalize dval (dwdGN y50000 bl1) 9=ln
  generalize lA y50000=r at a1 a2 a3 a4
  have hyl:y5.length<=3:=by omega
  cases hdp:igt x1 0 with
  |false=>
   rw [br_false]
   refine (l_tail a4 a1 a2 hyl (F:=fun y d=>lp_f31_1 x1 (i:Int) y d)).trans ?_
   exact fin _ _ (lT_ok a2 a3 a4).2.2
  |true=>
   rw [br_true]
   have hx1:0<x1:=of_decide_eq_true hdp
   have i3:isub .i64 x1 1=x1-1:=isub_in (by omega)
   have kr:dOk (dnext r.2 3)=true:=dOk_next a4
   refine brY (Bool.and_eq_true_iff.2 ⟨Bool.and_eq_true_iff.2 ⟨a4,by decide⟩,by decide⟩) ?_
   have eb:lB (lsRec x1) true r ln=bif done r.2 3 then lT r.1 true ((lsRec x1 (dnext r.2 3)).1.map Blk.of) ln (lsRec x1 (dnext r.2 3)).2 else lT r.1 false [] ln (dnext r.2 3):=rfl
   rw [eb]
   cases hdn:done r.2 3 with
   |false=>
    rw [br_false,cond_false]
    refine (l_tail kr a1 a2 hyl (F:=fun y d=>lp_f31_1 x1 (i:Int) y d)).trans ?_
    exact fin _ _ (lT_ok a2 a3 kr).2.2
   |true=>
    rw [br_true,cond_true,i3]
    have hrec:lsRec x1 (dnext r.2 3)=lsG (x1-1).toNat (dnext r.2 3):=by
     unfold lsRec
     rw [if_neg (by omega),show x1.toNat-1=(x1-1).toNat by omega]
    have hq:=(lsG_ok (x1-1).toNat (dnext r.2 3) kr).2
    have hts:ls7S fuel (dnext r.2 3) (x1-1)=true:=by
     cases hfu:fuel with
     |zero=>omega
     |succ k=>exact Bool.and_eq_true_iff.2 ⟨kr,cP_in ⟨by omega,by omega,by omega⟩⟩
    rw [hrec]
    refine brY hts ?_
    refine (l_tail (d:=ls7N (dnext r.2 3) (x1-1)) hq a1 a2 hyl (F:=fun y d=>lp_f31_1 x1 (i:Int) y d)).trans ?_
    exact fin _ _ (lT_ok a2 a3 hq).2.2
theorem lo_f31_0: ∀ S l p,g_f31.L 0 (fgt fg_f31_0 S)=some (true,l)->pickA l=some p->loopF (roundF g_f31 fg_f31_0 tb_f31_0) S=some p:=
 lok_of (s:=sh_f31_0) ⟨by decide,by decide⟩ (by kernel_rfl) fun x y hok p hp=>by
 simp only [pickA_br,pickA_one] at hp
 exact (l_f31_0 x.2.1 x.2.2.2.1 x.2.2.2.2.2.1 y.1 y.2.1.2.1 y.2.1.2.2.2.1 y.2.2.1 y.2.2.2.2.2.2.2.1 (by simpa using hok)).trans hp
theorem lo_f31_1: ∀ S l p,g_f31.L 1 (fgt fg_f31_1 S)=some (true,l)->pickA l=some p->loopF (roundF g_f31 fg_f31_1 tb_f31_1) S=some p:=
 lok_of (s:=sh_f31_1) ⟨by decide,by decide⟩ (by kernel_rfl) fun x y hok p hp=>by
 simp only [pickA_br,pickA_one] at hp
 exact (l_f31_1 x.2.1 x.2.2.2.1 y.1 y.2.2.1 (by simpa using hok)).trans hp
theorem lk_f31:tc_f31.lok g_f31:=by
 repeat (first|exact trivial|exact lo_f31_0|exact lo_f31_1|refine ⟨?_, ?_⟩)
theorem s_f31 (d:Dice)(n:Int)(h:ls7S (fuel+1) d n=true):r_f31 d n=some (.t (.sl tyBlkT) (ls7F d n),[.box (.t tyDice (ls7N d n))]):=by
 obtain ⟨h1,h2⟩:=Bool.and_eq_true_iff.1 h
 obtain ⟨h2,h3,h4⟩:=cP_of h2
 have hv:=dval_lt (d:=d) (n:=4) (by omega)
 unfold r_f31
 refine brY (Bool.and_eq_true_iff.2 ⟨h1,by decide⟩) (brY (Bool.and_eq_true_iff.2 ⟨dOk_next h1,cP_in ⟨h2,h3,h4,by omega,by rw [List.length_nil];omega⟩⟩) ?_)
 have e:lk1 (lsRec n) (igt n 0) (dval d 4).toNat [] (dnext d 4)=lsG n.toNat d:=by
  obtain ⟨k,rfl⟩:=Int.eq_ofNat_of_zero_le h2
  rw [Int.toNat_natCast]
  cases k with
  |zero=>rfl
  |succ k=>
   have e1:lsRec ((k+1:Nat):Int)=lsG k:=by
    unfold lsRec
    rw [Int.toNat_natCast,if_neg (Nat.succ_ne_zero k),Nat.add_sub_cancel]
   have e2:igt ((k+1:Nat):Int) 0=true:=decide_eq_true (by omega)
   rw [e1,e2]
   rfl
 rw [e]
 rfl
theorem mr_f31:Meets Tryd.prog 31 (runF g_f31 tc_f31 rv_f31 false):=by
 obtain ⟨c,hc,hi⟩:=Option.map_eq_some_iff.1 ok_f31
 exact meets_of (by decide) Tryd.func31 hc hi Tryd.ntmps31 rok_f31 gk_f31 lk_f31 mixed
end
theorem ma_law07_list: ∀ N:Nat,Meets Tryd.prog 31 (strip (@sp_f31R ⟨N⟩))
 |0=>meets_zeroP fun d x=>by first|rfl|simp [ls7S]
 |N+1=>by
  letI:Fuel:=⟨N⟩
  haveI:Nonempty (PLift (Meets Tryd.prog 31 (strip sp_f31R))):=⟨⟨ma_law07_list N⟩⟩
  exact meets_specP mr_f31 rfl fun d x hok=>(e_f31 d x.1).trans (s_f31 d x.1 hok)
def sp_f31:Ent:=specP tyDice (.pr tI .nil) (fun d x=>(ls7Ok d x.1)) (fun d x=>(.t (.sl tyBlkT) (ls7F d x.1))) (fun d x=>(ls7N d x.1))
theorem ms_f31:Meets Tryd.prog 31 (strip sp_f31):=meets_fuelP ma_law07_list fun d x hok=>fuel_law07_list d x.1 hok
end
end Go.Proofs.YtkkoedniahnneaaDoor.K
namespace Go.Proofs.YtkkoedniahnneaaDoor.K
open Go.RowKit
noncomputable section
set_option linter.unusedSectionVars false
theorem notB {b:Bool}(h:(!b)=true):b=false:=by
 cases b
 ·rfl
 ·cases h
def bI (b:Int):Bool:=decide (0<=b/\b<=255)
theorem strOf_bl (s:ByteArray):strOf (bytesL s)=s:=by
 obtain ⟨⟨l⟩⟩:=s
 unfold strOf bytesL
 congr 1
 rw [List.map_map]
 have:(l.map ((fun n:Int=>UInt8.ofNat n.toNat) ∘ fun b:UInt8=>(b.toNat:Int)))=l:=by
  conv=>rhs;rw [←List.map_id l]
  refine List.map_congr_left fun b _=> ?_
  simp
 show (l.map _).toArray=_
 rw [this]
theorem bl_strOf {l:List Int}(h:l.all bI=true):bytesL (strOf l)=l:=by
 unfold strOf bytesL
 show (l.map _).map _=l
 rw [List.map_map]
 conv=>rhs;rw [←List.map_id l]
 refine List.map_congr_left fun b hb=> ?_
 have:=List.all_eq_true.1 h b hb
 simp only [bI,decide_eq_true_eq] at this
 simp only [Function.comp_apply,UInt8.toNat_ofNat',id_eq]
 omega
theorem bl_bI (s:ByteArray):(bytesL s).all bI=true:=by
 rw [List.all_eq_true]
 intro x hx
 obtain ⟨b,_,rfl⟩:=List.mem_map.1 hx
 have:=b.toNat_lt
 exact decide_eq_true (by omega)
theorem byt_ext (s:ByteArray)(a b:Nat):bytesL (s.extract a b)=((bytesL s).drop a).take (b-a):=by
 unfold bytesL
 rw [ByteArray.data_extract,Array.toList_extract,List.extract_eq_take_drop,List.map_take,List.map_drop]
theorem esc_bI: ∀ l:List Int,l.all bI=true->(escL l).all bI=true
 | [],_=>rfl
 |c::l,h=>by
  obtain ⟨h1,h2⟩:=Bool.and_eq_true_iff.1 h
  rw [escL_cons,List.all_append,esc_bI l h2,Bool.and_true]
  unfold escI
  cases ieq c 34||ieq c 92 with
  |true=>
   show (bI 92&&(bI c&&true))=true
   rw [h1]
   rfl
  |false=>
   show (bI c&&true)=true
   rw [h1]
   rfl
theorem qt_bl (w:ByteArray):bytesL (qtF w)=bif plnB w then bytesL w else 34::(escL (bytesL w)++[34]):=by
 unfold qtF
 cases plnB w with
 |true=>rfl
 |false=>
  show bytesL (strOf (qtI w))=_
  rw [bl_strOf]
  ·rfl
  ·show ([34]++escL (bytesL w)++[34]).all bI=true
   rw [List.all_append,List.all_append,esc_bI _ (bl_bI w)]
   rfl
theorem skL_bl: ∀ (b:List Int) (w:Bool) (c:Int) (R:List Int),b.all blkI=true->blkI c=false->ieq c 35=false→ ∃ k,skL (b++c::R) false w=(false,(b.length,(k,b.isEmpty&&w)))
 | [],w,c,R,_,h1,h2=>⟨0,by
  rw [List.nil_append,skL.eq_def]
  simp only [h1,h2,Bool.false_and,cond_false]
  rfl⟩
 |d::b,w,c,R,hb,h1,h2=>by
  obtain ⟨g1,g2⟩:=Bool.and_eq_true_iff.1 hb
  obtain ⟨k,hk⟩:=skL_bl b false c R g2 h1 h2
  refine ⟨k+(bif ieq d 10 then 1 else 0), ?_⟩
  rw [List.cons_append,skL.eq_def]
  simp only [g1,Bool.false_and,cond_false,cond_true,hk,Bool.and_false,List.length_cons]
  rfl
theorem skL_bl0: ∀ (b:List Int) (w:Bool),b.all blkI=true→ ∃ k,skL b false w=(false,(b.length,(k,b.isEmpty&&w)))
 | [],w,_=>⟨0,rfl⟩
 |d::b,w,hb=>by
  obtain ⟨g1,g2⟩:=Bool.and_eq_true_iff.1 hb
  obtain ⟨k,hk⟩:=skL_bl0 b false g2
  refine ⟨k+(bif ieq d 10 then 1 else 0), ?_⟩
  rw [skL.eq_def]
  simp only [g1,Bool.false_and,cond_false,cond_true,hk,Bool.and_false,List.length_cons]
  rfl
structure SkAt (x y:ParserXX) (S:List Int) (f:Bool):Prop where
 nx:nxP x=nxP.nxQ y
 text:y.1.1=x.1.1
 rest:lxR y=S
 flag:lxW y=f
 pos:0<=y.1.2.1
theorem sk_at {x:ParserXX}(h:lxOk2 x=true){b S:List Int}{k:Nat}{f:Bool}(hR:lxR x=b++S)(hk:skL (lxR x) false (lxW x)=(false,(b.length,(k,f)))):SkAt x (lxSk x (skL (lxR x) false (lxW x))) S f:=by
 obtain ⟨h1,h2,_,_,_⟩:=cP_of h
 refine ⟨?_,rfl, ?_, ?_, ?_⟩
 ·unfold nxP
  rw [hk]
  rfl
 ·rw [hk]
  show (bytesL x.1.1).drop (x.1.2.1+(b.length:Int)).toNat=S
  rw [show (x.1.2.1+(b.length:Int)).toNat=x.1.2.1.toNat+b.length by omega, ← List.drop_drop]
  show (lxR x).drop b.length=S
  rw [hR,List.drop_left]
 ·rw [hk]
  rfl
 ·rw [hk]
  show 0<=x.1.2.1+(b.length:Int)
  omega
theorem nxQ_end {y:ParserXX}(h1:0<=y.1.2.1)(h:lxR y=[]):(nxP.nxQ y).1=(0,(ByteArray.mk #[],(false,(lxL y,())))):=by
 have hl:(bytesL y.1.1).length<=y.1.2.1.toNat:=List.drop_eq_nil_iff.1 h
 rw [bytesG_len] at hl
 have e1:ige y.1.2.1 (slen y.1.1)=true:=decide_eq_true (by simp only [slen];omega)
 unfold nxP.nxQ
 rw [e1]
 rfl
theorem lxR_head {y:ParserXX}(h1:0<=y.1.2.1){c:Int}{R:List Int}(h:lxR y=c::R):ige y.1.2.1 (slen y.1.1)=false/\sgt y.1.1 y.1.2.1=c/\(bytesL y.1.1).drop (y.1.2.1+1).toNat=R:=by
 obtain ⟨⟨t,a,r1⟩,r⟩:=y
 simp only at h1
 obtain ⟨k,rfl⟩:=Int.eq_ofNat_of_zero_le h1
 have h:(bytesL t).drop k=c::R:=h
 have hk:k<(bytesL t).length:=by
  rcases Nat.lt_or_ge k (bytesL t).length with hk|hk
  ·exact hk
  ·rw [List.drop_eq_nil_of_le hk] at h
   cases h
 have hk2:k<t.size:=by rw [←bytesG_len];exact hk
 rw [List.drop_eq_getElem_cons hk,List.cons.injEq] at h
 refine ⟨decide_eq_false (by simp only [slen];omega), ?_, ?_⟩
 ·show sgt t (k:Int)=c
  rw [sgt_get hk2]
  exact h.1
 ·show (bytesL t).drop ((k:Int)+1).toNat=R
  rw [show ((k:Int)+1).toNat=k+1 by omega]
  exact h.2
theorem nxQ_sign {y:ParserXX}(h1:0<=y.1.2.1){c:Int}{R:List Int}(h:lxR y=c::R)(hc:(ieq c 59||(ieq c 123||ieq c 125))=true):(nxP.nxQ y).1=(c,(ByteArray.mk #[],(false,(lxL y,()))))/\lxR (nxP.nxQ y).2=R/\lxW (nxP.nxQ y).2=false:=by
 obtain ⟨e1,e2,e3⟩:=lxR_head h1 h
 unfold nxP.nxQ
 rw [e1,cond_false,e2,hc,cond_true]
 exact ⟨rfl,e3,rfl⟩
theorem qd_esc: ∀ (l R:List Int),l.all isClI=true->qd (escL l++34::R)=(true,(l,(escL l).length+1))
 | [],R,_=>by
  show qd (34::R)=_
  rw [qd.eq_def]
  rfl
 |c::l,R,h=>by
  obtain ⟨h1,h2⟩:=Bool.and_eq_true_iff.1 h
  have ih:=qd_esc l R h2
  rw [escL_cons]
  unfold escI
  have ecl:ieq 92 34=false:=rfl
  cases hc:ieq c 34||ieq c 92 with
  |true=>
   show qd (92::c::(escL l++34::R))=_
   rw [qd.eq_def]
   simp only [ecl,hc,ih,cond_true,cond_false,show ieq (92:Int) 92=true from rfl]
   simp only [cond_true,List.length_append,List.length_cons,List.length_nil]
   rw [show (escL l).length+1+2=0+1+1+(escL l).length+1 by omega]
  |false=>
   obtain ⟨g1,g2⟩:=Bool.or_eq_false_iff.1 hc
   show qd (c::(escL l++34::R))=_
   rw [qd.eq_def]
   simp only [g1,g2,h1,ih,cond_true,cond_false]
   simp only [List.length_append,List.length_cons,List.length_nil]
   rw [show (escL l).length+1+1=0+1+(escL l).length+1 by omega]
def nlt:List Int->Bool
 | []=>true
 |c::_=> !ltrB c
theorem ltL_all: ∀ (l R:List Int),l.all ltrB=true->nlt R=true->ltL (l++R)=l.length
 | [],[],_,_=>rfl
 | [],c::R,_,h=>by
  have h:(!ltrB c)=true:=h
  show ltL (c::R)=0
  unfold ltL
  rw [notB h]
  rfl
 |c::l,R,h,hR=>by
  obtain ⟨h1,h2⟩:=Bool.and_eq_true_iff.1 h
  rw [List.cons_append,List.length_cons, ← ltL_all l R h2 hR]
  show ltL (c::(l++R))=_
  rw [ltL,h1]
  rfl
theorem let_tab:((List.range 256).all fun n=> !ltrB (n:Int)||(!blkI (n:Int)&&(!ieq (n:Int) 35&&(!ieq (n:Int) 34&& !(ieq (n:Int) 59||(ieq (n:Int) 123||ieq (n:Int) 125))))))=true:=by kernel_rfl
theorem let_not {c:Int}(hb:bI c=true)(h:ltrB c=true):blkI c=false/\ieq c 35=false/\ieq c 34=false/\(ieq c 59||(ieq c 123||ieq c 125))=false:=by
 have hb:=of_decide_eq_true hb
 obtain ⟨n,rfl⟩:=Int.eq_ofNat_of_zero_le hb.1
 have:=List.all_eq_true.1 let_tab n (List.mem_range.2 (by omega))
 rw [h,Bool.not_true,Bool.false_or] at this
 obtain ⟨h1,this⟩:=Bool.and_eq_true_iff.1 this
 obtain ⟨h2,this⟩:=Bool.and_eq_true_iff.1 this
 obtain ⟨h3,h4⟩:=Bool.and_eq_true_iff.1 this
 exact ⟨notB h1,notB h2,notB h3,notB h4⟩
theorem nxQ_quoted {y:ParserXX}(h1:0<=y.1.2.1){l R:List Int}(hl:l.all isClI=true)(h:lxR y=34::(escL l++34::R))(hw:lxW y=false):(nxP.nxQ y).1=(119,(strOf l,(false,(lxL y,()))))/\lxR (nxP.nxQ y).2=R:=by
 obtain ⟨e1,e2,e3⟩:=lxR_head h1 h
 have q:=qd_esc l R hl
 have e4:nxP.nxQ y=(qdF ((y.1.1,(y.1.2.1,(lxL y,(true,())))),y.2),qdD ((y.1.1,(y.1.2.1,(lxL y,(true,())))),y.2)):=by
  unfold nxP.nxQ
  rw [e1,cond_false,e2,hw]
  rfl
 rw [e4]
 unfold qdF qdD lxTo
 simp only
 rw [e3,q]
 refine ⟨rfl, ?_⟩
 show (bytesL y.1.1).drop (y.1.2.1+(1+((escL l).length+1:Nat))).toNat=R
 rw [show (y.1.2.1+(1+(((escL l).length+1:Nat):Int))).toNat=(y.1.2.1+1).toNat+((escL l).length+1) by omega, ← List.drop_drop,e3,show escL l++34::R=(escL l++[34])++R by simp,List.drop_left' (by simp)]
theorem nxQ_plain {y:ParserXX}(h1:0<=y.1.2.1){w:ByteArray}{R:List Int}(hp:plnB w=true)(h:lxR y=bytesL w++R)(hR:nlt R=true)(hw:lxW y=false):(nxP.nxQ y).1=(119,(w,(true,(lxL y,()))))/\lxR (nxP.nxQ y).2=R:=by
 obtain ⟨p1,p2⟩:=Bool.and_eq_true_iff.1 hp
 have p2:=of_decide_eq_true p2
 have hz:=bytesG_len w
 have hlt:=ltL_all (bytesL w) R p1 hR
 rw [←h] at hlt
 have hi:=bl_bI w
 cases hb:bytesL w with
 |nil=>
  rw [hb] at hz
  simp only [List.length_nil] at hz
  omega
 |cons c l=>
  rw [hb] at hi p1
  obtain ⟨f1,f2,f3,f4⟩:=let_not (Bool.and_eq_true_iff.1 hi).1 (Bool.and_eq_true_iff.1 p1).1
  have h':=h
  rw [hb,List.cons_append] at h'
  obtain ⟨e1,e2,e3⟩:=lxR_head h1 h'
  have e4:nxP.nxQ y=((119,(ssl y.1.1 y.1.2.1 (y.1.2.1+ltL (lxR y)),(true,(lxL y,())))),lxTo ((y.1.1,(y.1.2.1,(lxL y,(true,())))),y.2) (ltL (lxR y))):=by
   unfold nxP.nxQ
   rw [e1,cond_false,e2,f4,cond_false,hw,f3,(Bool.and_eq_true_iff.1 p1).1]
   simp only [ine,f3,Bool.not_true,Bool.and_false,Bool.or_false,Bool.false_or,cond_false]
  rw [e4,hlt]
  have e5:ssl y.1.1 y.1.2.1 (y.1.2.1+((bytesL w).length:Int))=w:=by
   rw [←strOf_bl w]
   unfold ssl
   rw [←strOf_bl (ByteArray.extract _ _ _),byt_ext,strOf_bl w,show (y.1.2.1+((bytesL w).length:Int)).toNat-y.1.2.1.toNat=(bytesL w).length by omega]
   show strOf ((lxR y).take _)=_
   rw [h,List.take_left']
   ·exact strOf_bl w
   ·rfl
  refine ⟨?_, ?_⟩
  ·show ((119,(ssl _ _ _,_)):TokenX)=_
   rw [e5]
  ·show (bytesL y.1.1).drop (y.1.2.1+((bytesL w).length:Int)).toNat=R
   rw [show (y.1.2.1+((bytesL w).length:Int)).toNat=y.1.2.1.toNat+(bytesL w).length by omega, ← List.drop_drop]
   show (lxR y).drop _=R
   rw [h,List.drop_left]
abbrev TK:Type:=Int×(ByteArray×Bool)
def cur (x:ParserXX):TK:=(x.2.1.1,(x.2.1.2.1,x.2.1.2.2.1))
def sg (c:Int):TK:=(c,(ByteArray.mk #[],false))
def wtok (w:ByteArray):TK:=(119,(w,plnB w))
theorem tk_end {x:ParserXX}(h:lxOk2 x=true){b:List Int}(hb:b.all blkI=true)(hR:lxR x=b):cur (tkD x)=sg 0:=by
 obtain ⟨k,hk⟩:=skL_bl0 b (lxW x) hb
 have hk:skL (lxR x) false (lxW x)=(false,(b.length,(k,b.isEmpty&&lxW x))):=by rw [hR];exact hk
 have a:=sk_at (S:=[]) h (by rw [List.append_nil];exact hR) hk
 have q:=nxQ_end a.pos a.rest
 have e:nxF x=(nxP.nxQ (lxSk x (skL (lxR x) false (lxW x)))).1:=by
  unfold nxF
  rw [a.nx]
 show ((nxF x).1,((nxF x).2.1,(nxF x).2.2.1))=_
 rw [e,q]
 rfl
theorem sign_not {c:Int}(h:(ieq c 59||(ieq c 123||ieq c 125))=true):blkI c=false/\ieq c 35=false:=by
 have:c=59∨c=123∨c=125:=by
  rcases Bool.or_eq_true_iff.1 h with h|h
  ·exact .inl (eq_of_beq h)
  ·rcases Bool.or_eq_true_iff.1 h with h|h
   ·exact .inr (.inl (eq_of_beq h))
   ·exact .inr (.inr (eq_of_beq h))
 rcases this with rfl|rfl|rfl<;>exact ⟨rfl,rfl⟩
theorem tk_sign {x:ParserXX}(h:lxOk2 x=true){b:List Int}{c:Int}{R:List Int}(hb:b.all blkI=true)(hc:(ieq c 59||(ieq c 123||ieq c 125))=true)(hR:lxR x=b++c::R):cur (tkD x)=sg c/\lxR (tkD x)=R/\lxW (tkD x)=false:=by
 obtain ⟨c1,c2⟩:=sign_not hc
 obtain ⟨k,hk⟩:=skL_bl b (lxW x) c R hb c1 c2
 rw [←hR] at hk
 have a:=sk_at (S:=c::R) h hR hk
 obtain ⟨q1,q2,q3⟩:=nxQ_sign a.pos a.rest hc
 have e:nxP x=nxP.nxQ (lxSk x (skL (lxR x) false (lxW x))):=a.nx
 refine ⟨?_, ?_, ?_⟩
 ·show ((nxP x).1.1,((nxP x).1.2.1,(nxP x).1.2.2.1))=_
  rw [e,q1]
  rfl
 ·show lxR (nxP x).2=R
  rw [e]
  exact q2
 ·show lxW (nxP x).2=false
  rw [e]
  exact q3
theorem tk_word {x:ParserXX}(h:lxOk2 x=true){b:List Int}{w:ByteArray}{R:List Int}(hb:b.all blkI=true)(hw:clB w=true)(hf:(b.isEmpty&&lxW x)=false)(hn:nlt R=true)(hR:lxR x=b++(bytesL (qtF w)++R)):cur (tkD x)=wtok w/\lxR (tkD x)=R:=by
 rw [qt_bl] at hR
 cases hp:plnB w with
 |true=>
  rw [hp,cond_true] at hR
  have hi:=bl_bI w
  obtain ⟨p1,p2⟩:=Bool.and_eq_true_iff.1 hp
  have p2:=of_decide_eq_true p2
  have hz:=bytesG_len w
  obtain ⟨c,l,hcl⟩: ∃ c l,bytesL w=c::l:=by
   cases hq:bytesL w with
   |nil=>
    rw [hq] at hz
    simp only [List.length_nil] at hz
    omega
   |cons c l=>exact ⟨c,l,rfl⟩
  have hi2:=hi
  rw [hcl] at hi2 p1
  obtain ⟨f1,f2,f3,f4⟩:=let_not (Bool.and_eq_true_iff.1 hi2).1 (Bool.and_eq_true_iff.1 p1).1
  obtain ⟨k,hk⟩:=skL_bl b (lxW x) c (l++R) hb f1 f2
  have hR2:lxR x=b++c::(l++R):=by rw [hR,hcl];rfl
  rw [←hR2,hf] at hk
  have a:=sk_at h hR hk
  obtain ⟨q1,q2⟩:=nxQ_plain a.pos hp a.rest hn a.flag
  have e:nxP x=nxP.nxQ (lxSk x (skL (lxR x) false (lxW x))):=a.nx
  refine ⟨?_, ?_⟩
  ·show ((nxP x).1.1,((nxP x).1.2.1,(nxP x).1.2.2.1))=_
   unfold wtok
   rw [e,q1,hp]
  ·show lxR (nxP x).2=R
   rw [e]
   exact q2
 |false=>
  rw [hp,cond_false] at hR
  have hR2:lxR x=b++34::(escL (bytesL w)++34::R):=by rw [hR];simp
  obtain ⟨k,hk⟩:=skL_bl b (lxW x) 34 (escL (bytesL w)++34::R) hb rfl rfl
  rw [←hR2,hf] at hk
  have a:=sk_at h hR2 hk
  have hcl:(bytesL w).all isClI=true:=by
   rw [←clZ_eq] at hw
   exact hw
  obtain ⟨q1,q2⟩:=nxQ_quoted a.pos hcl a.rest a.flag
  have e:nxP x=nxP.nxQ (lxSk x (skL (lxR x) false (lxW x))):=a.nx
  refine ⟨?_, ?_⟩
  ·show ((nxP x).1.1,((nxP x).1.2.1,(nxP x).1.2.2.1))=_
   unfold wtok
   rw [e,q1,hp,strOf_bl]
  ·show lxR (nxP x).2=R
   rw [e]
   exact q2
end
end Go.Proofs.YtkkoedniahnneaaDoor.K
namespace Go.Proofs.YtkkoedniahnneaaDoor.K
open Go.RowKit
noncomputable section
set_option linter.unusedSectionVars false
def Has:ParserXX->List TK->Prop
 |_,[]=>True
 |x,t::ts=>cur x=t/\Has (tkD x) ts
mutual
def tkB:K.Blk->List TK
 |.mk ws o wi _=>ws.map wtok++(bif !o then [sg 59] else (sg 123::(tkL wi++[sg 125])))
def tkL:List K.Blk->List TK
 | []=>[]
 |b::r=>tkB b++tkL r
end
theorem nlt32 (l:List Int):nlt (32::l)=true:=by
 show (!ltrB 32)=true
 have:ltrB 32=false:=by kernel_rfl
 rw [this]
 rfl
theorem nlt59 (l:List Int):nlt (59::l)=true:=by
 show (!ltrB 59)=true
 have:ltrB 59=false:=by kernel_rfl
 rw [this]
 rfl
theorem nlt_wds {ws:List ByteArray}{S:List Int}(h:nlt S=true):nlt (wdsT ws++S)=true:=by
 cases ws with
 |nil=>exact h
 |cons w r=>exact nlt32 _
theorem ind_bl (n:Nat):(indL n).all blkI=true:=by
 unfold indL
 rw [List.all_replicate]
 cases n with
 |zero=>rfl
 |succ n=>
  rw [if_neg (by omega)]
  rfl
theorem wt_ok: ∀ (ws:List ByteArray) (x:ParserXX) (S:List Int) (ts:List TK),lxOk2 x=true->lxR x=wdsT ws++S->ws.all clB=true->nlt S=true->(∀ y,lxOk2 y=true->y.1.1=x.1.1->lxR y=S->Has (tkD y) ts)->Has (tkD x) (ws.map wtok++ts)
 | [],x,S,ts,hx,hR,_,_,k=>k x hx rfl hR
 |w::r,x,S,ts,hx,hR,hc,hS,k=>by
  obtain ⟨c1,c2⟩:=Bool.and_eq_true_iff.1 hc
  have hR2:lxR x=[32]++(bytesL (qtF w)++(wdsT r++S)):=by rw [hR,wdsT_cons];simp
  obtain ⟨q1,q2⟩:=tk_word hx (b:=[32]) rfl c1 rfl (nlt_wds hS) hR2
  have ht:=tk_ok hx
  exact ⟨q1,wt_ok r (tkD x) S ts ht.ok q2 c2 hS fun y hy e hy2=>k y hy (e.trans ht.text) hy2⟩
mutual
theorem tt_B: ∀ (b:K.Blk) (n:Nat) (x:ParserXX) (bb R:List Int) (ts:List TK),frB b=true->lxOk2 x=true->bb.all blkI=true->lxW x=false->lxR x=bb++(pnB b n++R)→
  (∀ y b',lxOk2 y=true->y.1.1=x.1.1->b'.all blkI=true->lxW y=false->lxR y=b'++R->Has (tkD y) ts)->Has (tkD x) (tkB b++ts)
 |.mk [] o wi ln,n,x,bb,R,ts,hf,_,_,_,_,_=>by cases hf
 |.mk (w::r) o wi ln,n,x,bb,R,ts,hf,hx,hb,hw,hR,k=>by
  obtain ⟨f1,f2⟩:=Bool.and_eq_true_iff.1 hf
  obtain ⟨_,f1⟩:=Bool.and_eq_true_iff.1 f1
  obtain ⟨f3,f4⟩:=Bool.and_eq_true_iff.1 f1
  obtain ⟨f5,f6⟩:=Bool.and_eq_true_iff.1 f4
  obtain ⟨f7,f8⟩:=Bool.and_eq_true_iff.1 f2
  have hbi:(bb++indL n).all blkI=true:=by rw [List.all_append,hb,ind_bl];rfl
  have ht:=tk_ok hx
  have hd:(fun z b'=>lxOk2 z=true/\z.1.1=x.1.1/\b'.all blkI=true/\lxW z=false/\lxR z=b'++R)=(fun (z:ParserXX) (b':List Int)=>lxOk2 z=true/\z.1.1=x.1.1/\b'.all blkI=true/\lxW z=false/\lxR z=b'++R):=rfl
  unfold pnB at hR
  unfold tkB
  cases o with
  |false=>
   have hR2:lxR x=(bb++indL n)++(bytesL (qtF w)++(wdsT r++59::([10]++R))):=by
    rw [hR]
    show bb++(((indL n++(bytesL (qtF w)++wdsT r))++[59,10])++R)=_
    simp
   obtain ⟨q1,q2⟩:=tk_word hx hbi f5 (by rw [hw,Bool.and_false]) (nlt_wds (nlt59 _)) hR2
   refine ⟨q1, ?_⟩
   show Has (tkD (tkD x)) ((r.map wtok++[sg 59])++ts)
   rw [List.append_assoc]
   refine wt_ok r (tkD x) (59::([10]++R)) ([sg 59]++ts) ht.ok q2 f6 (nlt59 _) fun y hy e hyR=> ?_
   obtain ⟨s1,s2,s3⟩:=tk_sign hy (b:=[]) (c:=59) rfl rfl hyR
   have hty:=tk_ok hy
   exact ⟨s1,k (tkD y) [10] hty.ok ((hty.text.trans e).trans ht.text) rfl s3 s2⟩
  |true=>
   have hR2:lxR x=(bb++indL n)++(bytesL (qtF w)++(wdsT r++32::123::([10]++(pnL wi (n+1)++(indL n++125::([10]++R)))))):=by
    rw [hR]
    show bb++(((indL n++(bytesL (qtF w)++wdsT r))++([32,123,10]++(pnL wi (n+1)++(indL n++[125,10]))))++R)=_
    simp
   obtain ⟨q1,q2⟩:=tk_word hx hbi f5 (by rw [hw,Bool.and_false]) (nlt_wds (nlt32 _)) hR2
   refine ⟨q1, ?_⟩
   show Has (tkD (tkD x)) ((r.map wtok++(sg 123::(tkL wi++[sg 125])))++ts)
   rw [List.append_assoc]
   refine wt_ok r (tkD x) _ _ ht.ok q2 f6 (nlt32 _) fun y hy e hyR=> ?_
   obtain ⟨s1,s2,s3⟩:=tk_sign hy (b:=[32]) (c:=123) rfl rfl hyR
   have hty:=tk_ok hy
   refine ⟨s1, ?_⟩
   show Has (tkD (tkD y)) ((tkL wi++[sg 125])++ts)
   rw [List.append_assoc]
   refine tt_L wi (n+1) (tkD y) [10] (indL n++125::([10]++R)) _ f8 hty.ok rfl s3 s2 fun z b' hz ez hb' hzw hzR=> ?_
   obtain ⟨u1,u2,u3⟩:=tk_sign hz (b:=b'++indL n) (c:=125) (by rw [List.all_append,hb',ind_bl];rfl) rfl (by rw [hzR,List.append_assoc])
   have htz:=tk_ok hz
   exact ⟨u1,k (tkD z) [10] htz.ok ((((htz.text.trans ez).trans hty.text).trans e).trans ht.text) rfl u3 u2⟩
theorem tt_L: ∀ (l:List K.Blk) (n:Nat) (x:ParserXX) (bb R:List Int) (ts:List TK),frL l=true->lxOk2 x=true->bb.all blkI=true->lxW x=false->lxR x=bb++(pnL l n++R)→
  (∀ y b',lxOk2 y=true->y.1.1=x.1.1->b'.all blkI=true->lxW y=false->lxR y=b'++R->Has (tkD y) ts)->Has (tkD x) (tkL l++ts)
 | [],n,x,bb,R,ts,_,hx,hb,hw,hR,k=>k x bb hx rfl hb hw hR
 |b::r,n,x,bb,R,ts,hf,hx,hb,hw,hR,k=>by
  obtain ⟨f1,f2⟩:=Bool.and_eq_true_iff.1 hf
  unfold pnL at hR
  unfold tkL
  rw [List.append_assoc] at hR ⊢
  exact tt_B b n x bb (pnL r n++R) (tkL r++ts) f1 hx hb hw hR fun y b' hy e hb' hyw hyR=>tt_L r n y b' R ts f2 hy hb' hyw hyR fun z b2 hz ez=>k z b2 hz (ez.trans e)
end
theorem ws_has: ∀ (ws acc:List ByteArray) (x:ParserXX) (t:TK) (ts:List TK),lxOk2 x=true->Has x (ws.map wtok++t::ts)->ieq t.1 119=false->(wsX acc x).1=acc++ws/\Has (wsX acc x).2 (t::ts)
 | [],acc,x,t,ts,hx,h,ht=>by
  have:ieq x.2.1.1 119=false:=by
   have e:x.2.1.1=t.1:=congrArg (fun q=>q.1) h.1
   rw [e]
   exact ht
  rw [wsX_not this]
  exact ⟨(List.append_nil acc).symm,h⟩
 |w::r,acc,x,t,ts,hx,h,ht=>by
  obtain ⟨h1,h2⟩:=h
  have e1:x.2.1.1=119:=congrArg (fun q=>q.1) h1
  have e2:x.2.1.2.1=w:=congrArg (fun q=>q.2.1) h1
  rw [wsX_word hx (by rw [e1];rfl),e2]
  obtain ⟨g1,g2⟩:=ws_has r (acc++[w]) (tkD x) t ts (tk_ok hx).ok h2 ht
  exact ⟨by rw [g1,List.append_assoc];rfl,g2⟩
theorem dS_no (x:ParserXX):dS false x=x:=by
 unfold dS
 rw [Bool.or_false]
structure PS (x:ParserXX) (ts:List TK):Prop where
 ok:okR x=true
 err:x.2.2.1=0
 deep:x.2.2.2.1=false
 has:Has x ts
theorem PS.tk {x:ParserXX}{t:TK}{ts:List TK}(h:PS x (t::ts)):PS (tkD x) ts:=by
 have ht:=tk_ok (okR_lx h.ok)
 exact ⟨okR_tk h.ok,by rw [ht.rest];exact h.err,by rw [ht.rest];exact h.deep,h.has.2⟩
theorem hd_has {lv:Int}{ws:List ByteArray}{x:ParserXX}{t:TK}{ts:List TK}(h:PS x (ws.map wtok++t::ts))(ht:ieq t.1 119=false)(hl:lv<=16)(hw:ws.length<=64):
  (wsX [] (dS (igt lv 16) x)).1=ws/\PS (hdX lv x) (t::ts):=by
 have e:igt lv 16=false:=decide_eq_false (by omega)
 obtain ⟨g1,g2⟩:=ws_has ws [] x t ts (okR_lx h.ok) h.has ht
 rw [List.nil_append] at g1
 have e2:hdX lv x=(wsX [] x).2:=by
  unfold hdX
  rw [e,dS_no,g1,show igt (llen ws) 64=false from decide_eq_false (by simp only [llen];omega),dS_no]
 obtain ⟨_,_,k3,_⟩:=wsX_ok _ [] x (okR_lx h.ok) (Nat.le_refl _)
 rw [e,dS_no,e2]
 exact ⟨g1,okR_ws _ [] x h.ok (Nat.le_refl _),by rw [k3];exact h.err,by rw [k3];exact h.deep,g2⟩
theorem sm_refl_w (ws:List ByteArray):eqW ws ws=true:=decide_eq_true rfl
theorem stX_end {lv:Int}{acc:List BlkT}{x:ParserXX}(h:okR x=true)(hs:x.2.1.1=0∨x.2.1.1=125):stX lv acc x=(acc,x):=by
 rw [stX_eq h]
 have:(!(ieq x.2.2.1 0&&(ine x.2.1.1 0&&ine x.2.1.1 125)))=true:=by
  rcases hs with hs|hs
  ·rw [hs]
   show (!(ieq x.2.2.1 0&&(false&&_)))=true
   rw [Bool.false_and,Bool.and_false]
   rfl
  ·rw [hs]
   show (!(ieq x.2.2.1 0&&(_&&false)))=true
   rw [Bool.and_false,Bool.and_false]
   rfl
 rw [this]
 rfl
mutual
theorem pt_B: ∀ (b:K.Blk) (lv:Int) (acc:List BlkT) (x:ParserXX) (t:TK) (ts:List TK),frB b=true->0<=lv->lv+dpB b<=17->moB b<=64->PS x (tkB b++t::ts)→
  ∃ (c:BlkT) (y:ParserXX),stX lv acc x=stX lv (acc++[c]) y/\smB b (Blk.of c)=true/\PS y (t::ts)
 |.mk [] o wi ln,lv,acc,x,t,ts,hf,_,_,_,_=>by cases hf
 |.mk (w::r) o wi ln,lv,acc,x,t,ts,hf,hl0,hd,hm,h=>by
  obtain ⟨f1,f2⟩:=Bool.and_eq_true_iff.1 hf
  obtain ⟨_,f1⟩:=Bool.and_eq_true_iff.1 f1
  obtain ⟨f3,f4⟩:=Bool.and_eq_true_iff.1 f1
  obtain ⟨f7,f8⟩:=Bool.and_eq_true_iff.1 f2
  have f3:plnB w=true:=f3
  have hdd:lv+((dpL wi:Nat)+1:Int)<=17:=hd
  have hmm:max (w::r).length (moL wi)<=64:=hm
  have hx:=h.ok
  unfold tkB at h
  have hcur:=h.has.1
  have e1:x.2.1.1=119:=congrArg (fun q=>q.1) hcur
  have e2:x.2.1.2.2.1=true:=(congrArg (fun q=>q.2.2) hcur).trans f3
  have hgo:(!(ieq x.2.2.1 0&&(ine x.2.1.1 0&&ine x.2.1.1 125)))=false:=by rw [h.err,e1];rfl
  have hno:(ine x.2.1.1 119|| !x.2.1.2.2.1)=false:=by rw [e1,e2];rfl
  rw [stX_eq hx,hgo,cond_false,hno,cond_false]
  generalize x.2.1.2.2.2.1=ln2
  cases o with
  |false=>
   have h:PS x (((w::r).map wtok++[sg 59])++t::ts):=h
   rw [List.append_assoc] at h
   obtain ⟨g1,g2⟩:=hd_has (lv:=lv) h rfl (by omega) (by omega)
   rw [g1]
   have s1:(hdX lv x).2.1.1=59:=congrArg (fun q=>q.1) g2.has.1
   refine ⟨((w::r),(false,([],(ln2,())))),tkD (hdX lv x), ?_, ?_,g2.tk⟩
   ·unfold stB
    rw [s1]
    rfl
   ·show (eqW (w::r) (w::r)&&((false==false)&&smL wi []))=true
    rw [sm_refl_w]
    have:wi=[]:=by
     rw [Bool.false_or] at f7
     exact List.isEmpty_iff.1 f7
    rw [this]
    rfl
  |true=>
   have h:PS x (((w::r).map wtok++(sg 123::(tkL wi++[sg 125])))++t::ts):=h
   rw [List.append_assoc] at h
   obtain ⟨g1,g2⟩:=hd_has (lv:=lv) h rfl (by omega) (by omega)
   rw [g1]
   have s1:(hdX lv x).2.1.1=123:=congrArg (fun q=>q.1) g2.has.1
   have g3:PS (tkD (hdX lv x)) ((tkL wi++[sg 125])++t::ts):=g2.tk
   rw [List.append_assoc] at g3
   obtain ⟨l',z,z1,z2,z3⟩:=pt_L wi (lv+1) [] (tkD (hdX lv x)) (sg 125) (t::ts) f8 (by omega) (by omega) (by omega) (.inr rfl) g3
   have u1:z.2.1.1=125:=congrArg (fun q=>q.1) z3.has.1
   refine ⟨((w::r),(true,(l'.map Blk.of,(ln2,())))),tkD z, ?_, ?_,z3.tk⟩
   ·unfold stB
    rw [s1,z1]
    unfold stC
    show (bif false then _ else bif true then bif ine z.2.2.1 0 then _ else bif ine z.2.1.1 125 then _ else _ else _)=_
    rw [z3.err,u1]
    rfl
   ·show (eqW (w::r) (w::r)&&((true==true)&&smL wi (l'.map Blk.of)))=true
    rw [sm_refl_w,z2]
    rfl
theorem pt_L: ∀ (l:List K.Blk) (lv:Int) (acc:List BlkT) (x:ParserXX) (t:TK) (ts:List TK),frL l=true->0<=lv->lv+dpL l<=17->moL l<=64->(t.1=0∨t.1=125)->PS x (tkL l++t::ts)→
  ∃ (l':List BlkT) (y:ParserXX),stX lv acc x=(acc++l',y)/\smL l (l'.map Blk.of)=true/\PS y (t::ts)
 | [],lv,acc,x,t,ts,_,_,_,_,ht,h=>by
  have h:PS x (t::ts):=h
  have e:x.2.1.1=t.1:=congrArg (fun q=>q.1) h.has.1
  exact ⟨[],x,by rw [stX_end h.ok (by rw [e];exact ht),List.append_nil],rfl,h⟩
 |b::r,lv,acc,x,t,ts,hf,hl0,hd,hm,ht,h=>by
  obtain ⟨f1,f2⟩:=Bool.and_eq_true_iff.1 hf
  have hd:lv+(max (dpB b) (dpL r):Nat)<=17:=hd
  have hm:max (moB b) (moL r)<=64:=hm
  unfold tkL at h
  rw [List.append_assoc] at h
  obtain ⟨t2,ts2,hts⟩: ∃ t2 ts2,tkL r++t::ts=t2::ts2:=by
   cases hq:tkL r++t::ts with
   |nil=>simp at hq
   |cons a b=>exact ⟨a,b,rfl⟩
  rw [hts] at h
  obtain ⟨c,y,y1,y2,y3⟩:=pt_B b lv acc x t2 ts2 f1 hl0 (by omega) (by omega) h
  rw [←hts] at y3
  obtain ⟨l',z,z1,z2,z3⟩:=pt_L r lv (acc++[c]) y t ts f2 hl0 (by omega) (by omega) ht y3
  refine ⟨c::l',z,by rw [y1,z1,List.append_assoc];rfl, ?_,z3⟩
  show (smB b (Blk.of c)&&smL r (l'.map Blk.of))=true
  rw [y2,z2]
  rfl
end
theorem wds_bI: ∀ ws:List ByteArray,(wdsT ws).all bI=true
 | []=>rfl
 |w::r=>by
  rw [wdsT_cons]
  show (bI 32&&(bytesL (qtF w)++wdsT r).all bI)=true
  rw [List.all_append,bl_bI,wds_bI r]
  rfl
theorem wdl_bI (ws:List ByteArray):(wdsL ws).all bI=true:=by
 cases ws with
 |nil=>rfl
 |cons w r=>
  show (bytesL (qtF w)++wdsT r).all bI=true
  rw [List.all_append,bl_bI,wds_bI r]
  rfl
theorem ind_bI (n:Nat):(indL n).all bI=true:=by
 unfold indL
 rw [List.all_replicate]
 cases n with
 |zero=>rfl
 |succ n=>
  rw [if_neg (by omega)]
  rfl
mutual
theorem pnB_bI: ∀ (b:K.Blk) (n:Nat),(pnB b n).all bI=true
 |.mk ws o wi ln,n=>by
  unfold pnB
  cases o with
  |false=>
   show ((indL n++wdsL ws)++[59,10]).all bI=true
   rw [List.all_append,List.all_append,ind_bI,wdl_bI]
   rfl
  |true=>
   show ((indL n++wdsL ws)++([32,123,10]++(pnL wi (n+1)++(indL n++[125,10])))).all bI=true
   rw [List.all_append,List.all_append,ind_bI,wdl_bI,List.all_append,List.all_append,List.all_append,ind_bI,pnL_bI wi (n+1)]
   rfl
theorem pnL_bI: ∀ (l:List K.Blk) (n:Nat),(pnL l n).all bI=true
 | [],_=>rfl
 |b::r,n=>by
  unfold pnL
  rw [List.all_append,pnB_bI b n,pnL_bI r n]
  rfl
end
theorem back {l:List BlkT}(hf:frT l=true)(hd:dpT l<=16)(hm:moT l<=64)(hs:(pnT l 0).length<=8192)(he:endN (strOf (pnT l 0))<=200): ∃ l',paB (strOf (pnT l 0))=(l',(0,0))/\smT l l'=true:=by
 have hz:(strOf (pnT l 0)).size=(pnT l 0).length:=strOf_size _
 have hbl:bytesL (strOf (pnT l 0))=pnT l 0:=bl_strOf (pnL_bI _ 0)
 generalize strOf (pnT l 0)=s at hz hbl he ⊢
 have hs8:s.size<=8192:=by omega
 obtain ⟨o1,o2,o3⟩:=okR_ps hs8
 have hhas:Has (tkD (psX s)) (tkL (l.map Blk.of)++[sg 0]):=by
  refine tt_L (l.map Blk.of) 0 (psX s) [] [] [sg 0] hf o3 rfl rfl ?_ fun y b' hy e hb' hyw hyR=> ?_
  ·show (bytesL s).drop 0=[]++(pnT l 0++[])
   rw [List.drop_zero,List.nil_append,List.append_nil]
   exact hbl
  ·rw [List.append_nil] at hyR
   exact ⟨tk_end hy hb' hyR,trivial⟩
 obtain ⟨l',y,y1,y2,y3⟩:=pt_L (l.map Blk.of) 1 [] (tkD (psX s)) (sg 0) [] hf (by omega) (by show (1:Int)+(dpT l:Nat)<=17;omega) hm (.inl rfl) ⟨o1,by rw [(tk_ok o3).rest];rfl,by rw [(tk_ok o3).rest];rfl,hhas⟩
 rw [List.nil_append] at y1
 refine ⟨l', ?_,y2⟩
 rw [paB_in hs8 he]
 have ey:psY s=y:=by
  show (stX 1 [] (tkD (psX s))).2=y
  rw [y1]
 have es:y.2.1.1=0:=congrArg (fun q=>q.1) y3.has.1
 have ez:psZ s=y:=by
  unfold psZ
  rw [ey,es,y3.err]
  rfl
 have ef:stF (tkD (psX s)) 1=l':=by
  unfold stF stBad
  rw [y1,y3.err]
  show (bif ieq _ 0&&false then [] else l')=l'
  rw [Bool.and_false]
  rfl
 rw [ez,y3.err,y3.deep,ef]
 rfl
mutual
theorem sm_B: ∀ a b:K.Blk,smB a b=true->(∀ n,pnB a n=pnB b n)/\dpB a=dpB b/\frB a=frB b/\moB a=moB b
 |.mk ws o wi _,.mk ws2 o2 wi2 _,h=>by
  obtain ⟨h1,h2⟩:=Bool.and_eq_true_iff.1 h
  obtain ⟨h2,h3⟩:=Bool.and_eq_true_iff.1 h2
  obtain rfl:ws=ws2:=of_decide_eq_true h1
  obtain rfl:o=o2:=eq_of_beq h2
  obtain ⟨g1,g2,g3,g4⟩:=sm_L wi wi2 h3
  have g5:wi.isEmpty=wi2.isEmpty:=by
   cases wi with
   |nil=>
    cases wi2 with
    |nil=>rfl
    |cons b s=>cases h3
   |cons a r=>
    cases wi2 with
    |nil=>cases h3
    |cons b s=>rfl
  refine ⟨fun n=> ?_, ?_, ?_, ?_⟩
  ·unfold pnB
   rw [g1]
  ·show dpL wi+1=dpL wi2+1
   rw [g2]
  ·unfold frB
   rw [g3,g5]
  ·unfold moB
   rw [g4]
theorem sm_L: ∀ a b:List K.Blk,smL a b=true->(∀ n,pnL a n=pnL b n)/\dpL a=dpL b/\frL a=frL b/\moL a=moL b
 | [],[],_=>⟨fun _=>rfl,rfl,rfl,rfl⟩
 | [],_::_,h=>by cases h
 |_::_,[],h=>by cases h
 |a::r,b::s,h=>by
  obtain ⟨h1,h2⟩:=Bool.and_eq_true_iff.1 h
  obtain ⟨g1,g2,g3,g4⟩:=sm_B a b h1
  obtain ⟨k1,k2,k3,k4⟩:=sm_L r s h2
  refine ⟨fun n=> ?_, ?_, ?_, ?_⟩
  ·unfold pnL
   rw [g1,k1]
  ·show max (dpB a) (dpL r)=max (dpB b) (dpL s)
   rw [g2,k2]
  ·show (frB a&&frL r)=(frB b&&frL s)
   rw [g3,k3]
  ·show max (moB a) (moL r)=max (moB b) (moL s)
   rw [g4,k4]
end
end
end Go.Proofs.YtkkoedniahnneaaDoor.K
namespace Go.Proofs.YtkkoedniahnneaaDoor.K
open Go.RowKit
noncomputable section
set_option linter.unusedSectionVars false
theorem qt_len (w:ByteArray):(bytesL (qtF w)).length<=2*w.size+2:=by
 have h1:=bytesG_len w
 have h2:=escL_len (bytesL w)
 rw [qt_bl]
 cases plnB w with
 |true=>
  rw [cond_true]
  omega
 |false=>
  rw [cond_false,List.length_cons,List.length_append,List.length_singleton]
  omega
theorem wdsT_len (B:Nat): ∀ ws:List ByteArray,(∀ s∈ws,s.size<=B)->(wdsT ws).length<=ws.length*(2*B+3)
 | [],_=>Nat.zero_le _
 |w::r,h=>by
  have h1:=qt_len w
  have h2:=h w List.mem_cons_self
  have h3:=wdsT_len B r fun s hs=>h s (List.mem_cons_of_mem _ hs)
  rw [wdsT_cons,List.length_cons,List.length_append,List.length_cons,Nat.add_mul,Nat.one_mul]
  omega
theorem wdsL_len (B:Nat){ws:List ByteArray}(h: ∀ s∈ws,s.size<=B):(wdsL ws).length<=ws.length*(2*B+3):=by
 cases ws with
 |nil=>exact Nat.zero_le _
 |cons w r=>
  have h1:=wdsT_len B (w::r) h
  rw [wdsT_cons,List.length_cons] at h1
  show (bytesL (qtF w)++wdsT r).length<=_
  omega
theorem indL_n (n:Nat):(indL n).length=2*n:=List.length_replicate
theorem pnO_max (x:BlkT)(n:Nat):(pnO x n).length<=4*n+(wdsL x.1).length+5+(bif x.2.1 then (pnT (x.2.2.1.map Blk.un) (n+1)).length else 0):=by
 unfold pnO
 cases x.2.1 with
 |false=>
  simp only [Bool.not_false,cond_true,cond_false,List.length_append,indL_n,List.length_cons,List.length_nil]
  omega
 |true=>
  simp only [Bool.not_true,cond_true,cond_false,List.length_append,indL_n,List.length_cons,List.length_nil]
  omega
theorem pnT_all (n B:Nat): ∀ l:List BlkT,(∀ x∈l,(pnO x n).length<=B)->(pnT l n).length<=l.length*B
 | [],_=>Nat.zero_le _
 |x::l,h=>by
  have h1:=pnT_all n B l fun y hy=>h y (List.mem_cons_of_mem _ hy)
  have h2:=h x List.mem_cons_self
  have e:pnT (x::l) n=pnO x n++pnT l n:=prT_cons x l n
  rw [e,List.length_append,List.length_cons,Nat.add_mul,Nat.one_mul]
  omega
def Sb:Nat->Nat
 |0=>400
 |n+1=>4*Sb n
theorem Sb_ge: ∀ n,400<=Sb n
 |0=>Nat.le_refl _
 |n+1=>by
  have:=Sb_ge n
  show 400<=4*Sb n
  omega
theorem pnO_sm {x:BlkT}{k B:Nat}(hw:smW x.1)(hk:k<=10)(hi:(pnT (x.2.2.1.map Blk.un) (k+1)).length<=B):(pnO x k).length<=105+B:=by
 have h1:=pnO_max x k
 have h2:=wdsL_len 6 hw.2
 have h3:=hw.1
 have h4:x.1.length*(2*6+3)<=4*15:=Nat.mul_le_mul h3 (by decide)
 cases hq:x.2.1 with
 |true=>
  rw [hq,cond_true] at h1
  omega
 |false=>
  rw [hq,cond_false] at h1
  omega
theorem SM_len: ∀ (n:Nat) (l:List BlkT) (k:Nat),SM n l->k+n<=10->(pnT l k).length<=Sb n
 |0,l,k,h,hk=>by
  obtain ⟨h1,h2⟩:=h
  have h3:=pnT_all k 105 l fun x hx=>by
   obtain ⟨a,b⟩:=h2 x hx
   exact pnO_sm (B:=0) a (by omega) (by rw [b];exact Nat.le_refl _)
  have h4:l.length*105<=3*105:=Nat.mul_le_mul h1 (Nat.le_refl _)
  show _<=400
  omega
 |n+1,l,k,h,hk=>by
  obtain ⟨h1,h2⟩:=h
  have hb:=Sb_ge n
  have h3:=pnT_all k (105+Sb n) l fun x hx=>by
   obtain ⟨a,b⟩:=h2 x hx
   refine pnO_sm a (by omega) ?_
   rcases b with b|b
   ·rw [b]
    exact Nat.zero_le _
   ·exact SM_len n _ (k+1) b (by omega)
  have h4:l.length*(105+Sb n)<=3*(105+Sb n):=Nat.mul_le_mul h1 (Nat.le_refl _)
  show _<=4*Sb n
  omega
theorem ls_pnt {n:Nat}{d:Dice}(h:dOk d=true)(hn:n<=3):pntOk (lsG n d).1=true:=by
 have h1:=SM_len n _ 0 (lsG_ok n d h).1 (by omega)
 have h2:Sb n<=25600:=by
  have:n=0∨n=1∨n=2∨n=3:=by omega
  rcases this with rfl|rfl|rfl|rfl<;>decide
 exact Bool.and_eq_true_iff.2 ⟨ls_okT h hn,cP_in (by omega)⟩
end
end Go.Proofs.YtkkoedniahnneaaDoor.K
set_option linter.unusedSectionVars false
namespace Go.Proofs.YtkkoedniahnneaaDoor.K.ZZ
open Go.RowKit
noncomputable section
set_option linter.unusedSectionVars false
def okZB:Nat->List BlkT->Bool
 |0,_=>false
 |n+1,l=>decide (l.length<=2000000)&&l.all fun x=>decide (x.1.length<=2000000)&&okZB n (x.2.2.1.map Blk.un)
theorem okZ_p {n:Nat}{l:List BlkT}(h:okZB (n+1) l=true):l.length<=2000000∧ ∀ x∈l,x.1.length<=2000000/\okZB n (x.2.2.1.map Blk.un)=true:=by
 obtain ⟨h1,h2⟩:=Bool.and_eq_true_iff.1 h
 refine ⟨of_decide_eq_true h1,fun x hx=> ?_⟩
 obtain ⟨h3,h4⟩:=Bool.and_eq_true_iff.1 (List.all_eq_true.1 h2 x hx)
 exact ⟨of_decide_eq_true h3,h4⟩
def okZT (l:List BlkT):Bool:=cP (∃ N,okZB N l=true)
theorem okZ_fuel {l:List BlkT}(h:okZT l=true): ∃ N,okZB N l=true:=cP_of h
def szS (k:Nat)(l:List BlkT)(m:Int):Bool:=okZB k l&&cP (toT l<=1000000000000∧ -2000000000000<=m/\m<=2000000000000)
def szZOk (l:List BlkT)(m:Int):Bool:=okZT l&&cP (toT l<=1000000000000∧ -2000000000000<=m/\m<=2000000000000)
theorem fuel_ref07_Size (l:List BlkT)(m:Int)(h:szZOk l m=true): ∃ N,szS N l m=true:=by
 obtain ⟨h1,h2⟩:=Bool.and_eq_true_iff.1 h
 obtain ⟨N,h1⟩:=okZ_fuel h1
 exact ⟨N,Bool.and_eq_true_iff.2 ⟨h1,h2⟩⟩
theorem en_f30:Entered Tryd.prog 30:= .inr ⟨by decide,_,Tryd.func30,by kernel_rfl,by kernel_rfl⟩
def sp_f30R [Fuel]:Ent:=spec (.pr (.sl tyBlkT) (.pr tI .nil)) (fun x=>(szS fuel x.1 x.2.1)) (fun x=>(.t tI (szT x.1 x.2.1)))
theorem en_f30R:Entered Tryd.prog 30:=en_f30
section
variable [Fuel][Nonempty (PLift (Meets Tryd.prog 30 (strip sp_f30R)))]
theorem ms_f30R:Meets Tryd.prog 30 (strip sp_f30R):=(Classical.choice (inferInstance:Nonempty (PLift (Meets Tryd.prog 30 (strip sp_f30R))))).down
def sz0 [Fuel](l:List BlkT)(m n k:Int):Bool:=cP (0<=k/\k<=l.length/\okZB (fuel+1) l=true∧ -2000000000000<=m/\m<=2000000000000/\0<=n/\n+toT (l.drop k.toNat)<=1000000000000)
def dr_f30_0:List DO:=[(.mk (oV 18 5) []),(.mk (oP 19 (.bin false .add (.t 18) (cI 1))) [0]),(.mk (oV 20 0) []),(.mk (oV 21 6) []),(.mk (oP 22 (.ix 4 (.t 20) (.t 21))) [2,3]),(.mk (oP 23 (.fa 0 (.t 22))) [4]),(.mk (oL 24 23) [5]),(.mk (oP 25 (.len false (.t 24))) [6]),(.mk (oP 26 (.bin false .quo (.t 25) (cI 8))) [7]),(.mk (oP 27 (.bin false .add (.t 19) (.t 26))) [1,8]),(.mk (oV 28 0) []),(.mk (oV 29 6) []),(.mk (oP 30 (.ix 4 (.t 28) (.t 29))) [10,11]),(.mk (oP 31 (.fa 2 (.t 30))) [12]),(.mk (oL 32 31) [13]),(.mk (oV 33 1) []),(.mk (oV 34 5) []),(.mk (oP 35 (.bin false .sub (.t 33) (.t 34))) [15,16]),(.mk (oC 36 30 [(.t 32),(.t 35)]) [14,17]),(.mk (oP 37 (.bin false .add (.t 27) (.t 36))) [9,18]),(.mk (oV 5 37) [19,18,0,1,2,3,4,5,6,7,8,9,10,11,12,13,14,15,16,17,18,19])]
def fg_f30_0:Fg:=⟨[(0,some (.sl tyBlkT)),(1,some tI),(5,some tI),(6,some tI)],[]⟩
def tb_f30_0:TC:=(.sq (.sq (.reg [(oV 7 6),(oV 8 0),(oP 9 (.len false (.t 8))),(oP 10 (.bin false .lss (.t 7) (.t 9))),(oV 11 10),(oQ 12 11 true (.mv (.t 5))),(oQ 13 11 true (.mv (.t 1))),(oQ 14 11 true (.bin false .leq (.t 12) (.t 13))),(oP 15 (.pick (.t 11) (.t 14) (cB false)))]) (.cd (.t 15) .sk (.fg ⟨[(5,some tI)],[]⟩ (.ex 0)))) (.sq (.bk 1 (.dr dr_f30_0 [(0,[]),(1,[]),(2,[]),(3,[]),(4,[]),(5,[]),(6,[]),(7,[]),(8,[]),(9,[]),(10,[]),(11,[]),(12,[]),(13,[]),(14,[]),(15,[]),(16,[]),(17,[]),(18,[]),(19,[]),(20,[])] (.of [0,1,2,3,4,5,6,7,8,9,10,11,12,13,14,15,16,17,18,19,20]))) (.reg [(oV 16 6),(oP 17 (.bin false .add (.t 16) (cI 1))),(oV 6 17)])))
def tc_f30:TC:=(.sq (.reg [(oP 4 (.mv (cI 0)))]) (.sq (.reg [(oP 5 (.mv (cI 0)))]) (.sq (.sq (.reg [(oP 6 (.mv (cI 0)))]) (.bk 0 (.lp 0 fg_f30_0 tb_f30_0))) (.sq (.reg [(oV 38 5),(oV 4 38)]) .rt))))
def rv_f30:List (RV×Option Ty):=[((.t 4),some tI)]
abbrev sh_f30_0:Sh:=⟨[(0,.ty (.sl tyBlkT)),(1,.ty tI),(5,.ty tI),(6,.ty tI)],[]⟩
def st_f30_0 (x0:(List BlkT))(x1:Int)(x5:Int)(x6:Int):VS:=sh_f30_0.st (x0,x1,x5,x6,()) ()
abbrev sh_f30_0_e0:Sh:=⟨[(5,.ty tI)],[]⟩
def st_f30_0_e0 (x5:Int):VS:=sh_f30_0_e0.st (x5,()) ()
-- loop 0: (x0 : (List BlkT)) (x1 : Int) (x5 : Int) (x6 : Int); out: ('exit', 0) (x5 : Int)
def L_f30_0:VS->Option (Bool×List (Bool×Exit×VS)):=mkL sh_f30_0 (fun x y=>(sz0 x.1 x.2.1 x.2.2.1 x.2.2.2.1)) (fun x y=>[(true,.exit 0,st_f30_0_e0 (szA (x.1.drop x.2.2.2.1.toNat) x.2.1 x.2.2.1))])
def g_f30:G:=⟨TYs,[],39,EL [(30,sp_f30R)],keeps,(Ls [L_f30_0]),IL [],RL []⟩
def b_f30_0 (x0:(List BlkT))(x1:Int)(x5:Int)(x6:Int):Option (Exit×VS):=
 br ((ilt x6 (llen x0)))
  (br ((ile x5 x1))
   (br (cIx x0 x6)
    (br (cNz 8)
     (br (cIx x0 x6)
      (br ((szS fuel (List.map Blk.un ((((lgt tyBlkT x0 (Int.toNat x6)).2).2).1)) (isub .i64 x1 x5)))
       (some (.normal,st_f30_0 x0 x1 (iadd .i64 (iadd .i64 (iadd .i64 x5 1) (iquo .i64 (llen ((lgt tyBlkT x0 (Int.toNat x6)).1)) 8)) (szT (List.map Blk.un ((((lgt tyBlkT x0 (Int.toNat x6)).2).2).1)) (isub .i64 x1 x5))) (iadd .i64 x6 1)))
       (none))
      (none))
     (none))
    (none))
   (some (.exit 0,st_f30_0_e0 x5)))
  (some (.exit 0,st_f30_0_e0 x5))
noncomputable def lp_f30_0 (x0:(List BlkT))(x1:Int)(x5:Int)(x6:Int):Option (Exit×VS):=loopF (roundF g_f30 fg_f30_0 tb_f30_0) (st_f30_0 x0 x1 x5 x6)
noncomputable def n_f30_0 (x0:(List BlkT))(x1:Int)(x5:Int)(x6:Int):Option (Exit×VS):=
 br ((ilt x6 (llen x0)))
  (br ((ile x5 x1))
   (br (cIx x0 x6)
    (br (cNz 8)
     (br (cIx x0 x6)
      (br ((szS fuel (List.map Blk.un ((((lgt tyBlkT x0 (Int.toNat x6)).2).2).1)) (isub .i64 x1 x5)))
       (lp_f30_0 x0 x1 (iadd .i64 (iadd .i64 (iadd .i64 x5 1) (iquo .i64 (llen ((lgt tyBlkT x0 (Int.toNat x6)).1)) 8)) (szT (List.map Blk.un ((((lgt tyBlkT x0 (Int.toNat x6)).2).2).1)) (isub .i64 x1 x5))) (iadd .i64 x6 1))
       (none))
      (none))
     (none))
    (none))
   (some (.exit 0,st_f30_0_e0 x5)))
  (some (.exit 0,st_f30_0_e0 x5))
def la_f30_0 (x0:(List BlkT))(x1:Int)(x5:Int)(x6:Int):Option (Exit×VS):=some (.exit 0,st_f30_0_e0 (szA (x0.drop x6.toNat) x1 x5))
theorem be_f30_0 (x0:(List BlkT))(x1:Int)(x5:Int)(x6:Int):roundF g_f30 fg_f30_0 tb_f30_0 (st_f30_0 x0 x1 x5 x6)=b_f30_0 x0 x1 x5 x6:=by kernel_rfl
theorem ln_f30_0 (x0:(List BlkT))(x1:Int)(x5:Int)(x6:Int):lp_f30_0 x0 x1 x5 x6=n_f30_0 x0 x1 x5 x6:=(loopF_nxt _ _).trans (by
 rw [be_f30_0]
 simp only [b_f30_0,n_f30_0,nxt_br,nxt_n,nxt_r,nxt_e,nxt_0]
 rfl)
def r_f30 (p0:(List BlkT))(p1:Int):Option (V×List VO):=
 br ((sz0 p0 p1 (0:Int) (0:Int)))
  (some (.t tI (szA (p0.drop (0:Int).toNat) p1 (0:Int)),[]))
  (none)
theorem e_f30 (p0:(List BlkT))(p1:Int):runF g_f30 tc_f30 rv_f30 false [.t (.sl tyBlkT) p0,.t tI p1] []=r_f30 p0 p1:=by kernel_rfl
theorem ok_f30:Option.map (trC Tryd.prog) Tryd.f30.body=some tc_f30.er:=by kernel_rfl
theorem rok_f30:trVs Tryd.prog Tryd.f30.results.toList=some (rv_f30.map Prod.fst):=by kernel_rfl
theorem gk_f30:GOk Tryd.prog g_f30:=gok_of _ (by
 intro p hp
 simp only [List.mem_cons,List.not_mem_nil,or_false] at hp
 rcases hp with rfl
 ·exact ⟨en_f30R,ms_f30R⟩)
theorem l_f30_0 (x0:(List BlkT))(x1:Int)(x5:Int)(x6:Int)(h:(sz0 x0 x1 x5 x6)=true):lp_f30_0 x0 x1 x5 x6=la_f30_0 x0 x1 x5 x6:=by
 obtain ⟨h1,h2,h4,h5,h5b,h5c,h5d⟩:=cP_of h
 clear h
 obtain ⟨h6,h8⟩:=okZ_p h4
 obtain ⟨k,rfl⟩:=Int.eq_ofNat_of_zero_le h1
 rw [Int.toNat_natCast] at h5d
 refine range_ind x0 (fun k=> ∀ x5:Int,0<=x5->x5+toT (x0.drop k)<=1000000000000->lp_f30_0 x0 x1 x5 (k:Int)=la_f30_0 x0 x1 x5 (k:Int)) ?_ ?_ k (by omega) x5 h5c h5d
 ·intro x5 _ _
  have e2:ilt (x0.length:Int) (llen x0)=false:=decide_eq_false (by simp only [llen];omega)
  rw [ln_f30_0]
  unfold n_f30_0 la_f30_0
  rw [e2,br_false,Int.toNat_natCast,List.drop_length]
  rfl
 ·intro k hk ih x5 hx hy
  rw [List.drop_eq_getElem_cons hk,toT_cons] at hy
  obtain ⟨g1,g3⟩:=h8 _ (List.getElem_mem hk)
  have e2:ilt (k:Int) (llen x0)=true:=decide_eq_true (by simp only [llen];omega)
  have e3:cIx x0 (k:Int)=true:=by rw [cIx_nat];exact decide_eq_true hk
  rw [ln_f30_0]
  unfold n_f30_0
  rw [e2,e3,Int.toNat_natCast,lgt_get (y:=tyBlkT) hk,br_true,add1 (k:=k)]
  unfold la_f30_0 at ih ⊢
  rw [Int.toNat_natCast,List.drop_eq_getElem_cons hk,szA_cons]
  by_cases hm:x5<=x1
  ·have e4:ile x5 x1=true:=decide_eq_true hm
   have e5:isub .i64 x1 x5=x1-x5:=isub_in (by omega)
   have e6:szS fuel (x0[k].2.2.1.map Blk.un) (x1-x5)=true:=Bool.and_eq_true_iff.2 ⟨g3,cP_in ⟨by omega,by omega,by omega⟩⟩
   have e7:iquo .i64 (llen x0[k].1) 8=(x0[k].1.length:Int).tdiv 8:=by
    have h3:=Int.tdiv_eq_ediv_of_nonneg (b:=8) (show (0:Int)<=(x0[k].1.length:Int) by omega)
    exact Go.IntWalk.i64_in _ (by simp only [llen];rw [h3];omega)
   obtain ⟨b1,b2⟩:=szL_le ((x0[k].2.2.1.map Blk.un).map Blk.of) (x1-x5) 0 (Int.le_refl 0)
   have b1:0<=szT (x0[k].2.2.1.map Blk.un) (x1-x5):=b1
   have b2:szT (x0[k].2.2.1.map Blk.un) (x1-x5)<=0+(toT (x0[k].2.2.1.map Blk.un):Int):=b2
   have b3:=Int.tdiv_eq_ediv_of_nonneg (b:=8) (show (0:Int)<=(x0[k].1.length:Int) by omega)
   rw [e4,e5,e6,e7,br_true,br_true,br_true,br_true,if_pos hm,iadd_in (a:=x5) (b:=1) (by omega),iadd_in (a:=x5+1) (by rw [b3];omega),iadd_in (by rw [b3];omega)]
   have e8:cNz 8=true:=rfl
   rw [e8,br_true,ih _ (by rw [b3];omega) (by rw [b3];omega),Int.toNat_natCast]
   rw [show x5+1+(x0[k].1.length:Int).tdiv 8+szT (x0[k].2.2.1.map Blk.un) (x1-x5)=x5+(1+(x0[k].1.length:Int).tdiv 8+szT (x0[k].2.2.1.map Blk.un) (x1-x5)) by omega]
  ·have e4:ile x5 x1=false:=decide_eq_false hm
   rw [e4,br_false,if_neg hm]
theorem lo_f30_0: ∀ S l p,g_f30.L 0 (fgt fg_f30_0 S)=some (true,l)->pickA l=some p->loopF (roundF g_f30 fg_f30_0 tb_f30_0) S=some p:=
 lok_of (s:=sh_f30_0) ⟨by decide,by decide⟩ (by kernel_rfl) fun x y hok p hp=>by
 simp only [pickA_br,pickA_one] at hp
 exact (l_f30_0 x.1 x.2.1 x.2.2.1 x.2.2.2.1 (by simpa using hok)).trans hp
theorem lk_f30:tc_f30.lok g_f30:=by
 repeat (first|exact trivial|exact lo_f30_0|refine ⟨?_, ?_⟩)
theorem s_f30 (l:List BlkT)(m:Int)(h:szS (fuel+1) l m=true):r_f30 l m=some (.t tI (szT l m),[]):=by
 obtain ⟨h1,h2⟩:=Bool.and_eq_true_iff.1 h
 obtain ⟨h2,h3,h4⟩:=cP_of h2
 unfold r_f30
 refine brY (cP_in ⟨by omega,by omega,h1,h3,h4,by omega,by rw [Int.toNat_zero,List.drop_zero];omega⟩) ?_
 rw [Int.toNat_zero,List.drop_zero]
 rfl
theorem mr_f30:Meets Tryd.prog 30 (runF g_f30 tc_f30 rv_f30 false):=by
 obtain ⟨c,hc,hi⟩:=Option.map_eq_some_iff.1 ok_f30
 exact meets_of (by decide) Tryd.func30 hc hi Tryd.ntmps30 rok_f30 gk_f30 lk_f30 mixed
end
theorem ma_ref07_Size: ∀ N:Nat,Meets Tryd.prog 30 (strip (@sp_f30R ⟨N⟩))
 |0=>meets_zero fun x=>by first|rfl|simp [szS]
 |N+1=>by
  letI:Fuel:=⟨N⟩
  haveI:Nonempty (PLift (Meets Tryd.prog 30 (strip sp_f30R))):=⟨⟨ma_ref07_Size N⟩⟩
  exact meets_spec mr_f30 fun x hok=>(e_f30 x.1 x.2.1).trans (s_f30 x.1 x.2.1 hok)
def sp_f30:Ent:=spec (.pr (.sl tyBlkT) (.pr tI .nil)) (fun x=>(szZOk x.1 x.2.1)) (fun x=>(.t tI (szT x.1 x.2.1)))
theorem ms_f30:Meets Tryd.prog 30 (strip sp_f30):=meets_fuel ma_ref07_Size fun x hok=>fuel_ref07_Size x.1 x.2.1 hok
end
end Go.Proofs.YtkkoedniahnneaaDoor.K.ZZ
namespace Go.Proofs.YtkkoedniahnneaaDoor.K
open Go.RowKit Go.ChangeShapes Go.WideShapes Go.Deep
mutual
def buB:K.Blk->Nat
 |.mk ws _ wi _=>((ws.map fun s=>ByteArray.size s+1).sum+1)+(1+((buL wi+1)+(1+0)))
def buL:List K.Blk->Nat
 | []=>0
 |b::r=>buB b+buL r
end
def Ty.bulk:(y:Ty)->y.T->Nat
 |.int _,_=>1
 |.bool,_=>1
 |.str,s=>ByteArray.size s+1
 |.sl e,l=>(List.map e.bulk l).sum+1
 |.nil,_=>0
 |.pr f r,x=>f.bulk x.1+r.bulk x.2
 |.rv,_=>0
 |.rb,l=>buL l+1
 |.ov,_=>0
def bulkL (z:Ty)(l:List z.T):Nat:=(l.map z.bulk).sum
theorem bulkL_app (z:Ty)(l r:List z.T):bulkL z (l++r)=bulkL z l+bulkL z r:=by simp [bulkL,List.sum_append]
section
variable {H:Type}
theorem one_leB (d:DataW H):1<=Rows.uptoBulk d:=by
 cases d with
 |lit l=>cases l<;>simp [Rows.uptoBulk]
 |nil=>simp [Rows.uptoBulk]
 |ptr d=>simp [Rows.uptoBulk]
 |slice elems spare=>simp [Rows.uptoBulk]
 |agg parts=>simp [Rows.uptoBulk]
 |iface t d=>simp [Rows.uptoBulk]
 |map entries=>simp [Rows.uptoBulk]
 |held h=>simp [Rows.uptoBulk]
theorem bulkAll_app (l r:List (DataW H)):Rows.uptoBulkAll (l++r)=Rows.uptoBulkAll l+Rows.uptoBulkAll r:=by
 induction l with
 |nil=>simp [Rows.uptoBulkAll]
 |cons x l ih=>simp only [List.cons_append,Rows.uptoBulkAll,ih];omega
end
section
variable {H:Type}{enc:TypeId×Value->H}{P:Program}{w:World}{base:Nat}{sp:Nat->Bool}{held:Bool}{σ:Pl}
theorem fields_openU {T:TypeId->Ty->Bool}{n:Nat}{cs:List Value}(hT: ∀ t y cs x,T t y=true->DataW.trod enc P w base sp held n t cs=some x→ ∃ z:y.T,Cs noX w σ (y.cells z) cs/\y.wf z/\y.bulk z<=Rows.uptoBulk x.1):
  ∀ (fs:List Field) (ds:List (DataW H)) (o:Nat) (y:Ty),fieldsIs P T fs o y=true->(∀ (i:Nat) (f:Field),fs[i]? = some f→ ∃ x,DataW.trod enc P w base sp held n f.type ((cs.drop f.offset).take (P.cellsOf f.type))=some x/\ds[i]? = some x.1)->o+y.sz=cs.length→
   ∃ z:y.T,Cs noX w σ (y.cells z) (cs.drop o)/\y.wf z/\y.bulk z<=Rows.uptoBulkAll ds
 | [],ds,o,y,h,_,hl=>by
  cases y<;>simp only [fieldsIs,Bool.false_eq_true] at h
  refine ⟨(), ?_,trivial,Nat.zero_le _⟩
  simp only [Ty.sz] at hl
  rw [List.drop_eq_nil_of_le (by omega)]
  simp only [Ty.cells,Cs]
 |f::r,ds,o,y,h,hf,hl=>by
  cases y with
  |pr a b=>
   simp only [fieldsIs,Bool.and_eq_true,decide_eq_true_eq] at h
   obtain ⟨⟨⟨h1,h2⟩,h3⟩,h4⟩:=h
   obtain ⟨x,hx,hd⟩:=hf 0 f rfl
   cases ds with
   |nil=>simp at hd
   |cons d ds=>
    simp only [List.getElem?_cons_zero,Option.some.injEq] at hd
    rw [h1,h2] at hx
    obtain ⟨z1,c1,w1,b1⟩:=hT _ _ _ _ h3 hx
    simp only [Ty.sz] at hl
    obtain ⟨z2,c2,w2,b2⟩:=fields_openU hT r ds (o+a.sz) b h4 (fun i f' hi=>by simpa using hf (i+1) f' (by simpa using hi)) (by omega)
    refine ⟨(z1,z2), ?_,⟨w1,w2⟩, ?_⟩
    ·have:=c1.app c2
     rw [←List.drop_drop,List.take_append_drop] at this
     exact this
    ·show a.bulk z1+b.bulk z2<=Rows.uptoBulk d+Rows.uptoBulkAll ds
     rw [hd]
     omega
  |_=>simp only [fieldsIs,Bool.false_eq_true] at h
theorem rows_openU {z:Ty}{a:Addr}{D:Nat->DataW H}: ∀ (len:Nat),(∀ i,i<len→ ∃ cs',w.cells? base (a.add (i*z.sz)) z.sz=some cs'∧ ∃ z1:z.T,Cs noX w nowhere (z.cells z1) cs'/\z.wf z1/\z.bulk z1<=Rows.uptoBulk (D i))→
  ∃ (l:List z.T) (vs:List Value),l.length=len/\Cs noX w nowhere (l.flatMap z.cells) vs/\vs.length=len*z.sz/\(∀ j,j<len*z.sz->w.cell? (a.add j)=vs[j]?)/\(∀ x∈l,z.wf x)/\bulkL z l<=Rows.uptoBulkAll ((List.range len).map D)
 |0,_=>⟨[],[],rfl,by simp [Cs],by simp,fun j hj=>by omega,(fun x hx=>by cases hx),Nat.zero_le _⟩
 |k+1,h=>by
  obtain ⟨l,vs,h1,h2,h3,h4,h5,h6⟩:=rows_openU k fun i hi=>h i (by omega)
  obtain ⟨cs',hc,z1,c1,w1,b1⟩:=h k (by omega)
  obtain ⟨_,hl,hat⟩:=World.cells?_some hc
  have e:(k+1)*z.sz=k*z.sz+z.sz:=Nat.succ_mul k z.sz
  refine ⟨l++[z1],vs++cs',by simp [h1], ?_,by rw [List.length_append,h3,hl,e],fun j hj=> ?_,fun x hx=> ?_, ?_⟩
  ·rw [List.flatMap_append]
   exact h2.app (by simpa using c1)
  ·by_cases hj2:j<k*z.sz
   ·rw [List.getElem?_append_left (by omega)]
    exact h4 j hj2
   ·obtain ⟨i,rfl⟩: ∃ i,j=k*z.sz+i:=⟨j-k*z.sz,by omega⟩
    rw [List.getElem?_append_right (by omega),h3,Nat.add_sub_cancel_left, ← hat i (by omega),Go.Deep.add_add]
  ·rcases List.mem_append.1 hx with hx|hx
   ·exact h5 x hx
   ·simp at hx
    subst hx
    exact w1
  ·rw [bulkL_app,List.range_succ,List.map_append,bulkAll_app]
   show bulkL z l+(z.bulk z1+0)<=Rows.uptoBulkAll ((List.range k).map D)+(Rows.uptoBulk (D k)+0)
   omega
theorem trod_openU: ∀ (n:Nat) (t:TypeId) (y:Ty) (fuel:Nat) (cs:List Value) (x:DataW H×List MemPlace) (σ:Pl),tyIs P n t y=true->DataW.trod enc P w base sp held fuel t cs=some x→
  ∃ z:y.T,Cs noX w σ (y.cells z) cs/\y.wf z/\y.bulk z<=Rows.uptoBulk x.1
 |0,t,y,_,_,_,_,h,_=>by simp [tyIs] at h
 |n+1,t,y,fuel,cs,x,σ,h,hx=>by
  simp only [tyIs] at h
  cases hu:P.underlying t with
  |none=>rw [hu] at h;cases h
  |some d=>
   rw [hu] at h
   cases d<;>simp only [Bool.false_eq_true] at h
   case int k=>
    simp only [decide_eq_true_eq] at h
    subst h
    obtain ⟨m,rfl,_,hw⟩:=DataW.trod_int hu hx
    exact ⟨m,by simp only [Ty.cells];exact Cs.mk1 (show _/\_ from ⟨rfl,rfl⟩),hw,one_leB _⟩
   case bool=>
    simp only [decide_eq_true_eq] at h
    subst h
    obtain ⟨m,rfl,_⟩:=DataW.trod_bool hu hx
    exact ⟨m,by simp only [Ty.cells];exact Cs.mk1 (show _/\_ from ⟨rfl,rfl⟩),trivial,one_leB _⟩
   case string=>
    simp only [decide_eq_true_eq] at h
    subst h
    obtain ⟨m,rfl,rfl,hw⟩:=DataW.trod_string hu hx
    exact ⟨m,by simp only [Ty.cells];exact Cs.mk1 (show _/\_ from ⟨rfl,rfl⟩),hw,by show m.size+1<=m.data.toList.length+1;rw [show m.data.toList.length=m.size by simp];exact Nat.le_refl _⟩
   case slice e=>
    cases y<;>simp only [Bool.false_eq_true] at h
    case sl z=>
     simp only [Bool.and_eq_true,decide_eq_true_eq] at h
     obtain ⟨⟨h1,h2⟩,h3⟩:=h
     rcases open_slice hu hx with ⟨rfl,rfl⟩|⟨a,len,cap,m,f2,D,Pl,rfl,_,hl,hm,hmm,rfl,hi⟩
     ·refine ⟨[], ?_,⟨by simp [maxLen],fun x hx=>by cases hx⟩,Nat.le_refl 1⟩
      simp only [Ty.cells]
      refine Cs.mk1 ?_
      simp only [C,List.length_nil]
      exact ⟨none,0,rfl,Nat.le_refl _,by simp [maxLen],fun _=>rfl,fun h=>absurd h (by omega)⟩
     ·have hle:len<=m:=by rw [hmm];split<;>omega
      obtain ⟨l,vs,q1,q2,q3,q4,q5,q6⟩:=rows_openU (D:=D) (w:=w) (base:=base) (z:=z) (a:=a) len fun i hil=>by
       obtain ⟨cs',g1,g2⟩:=hi i (by omega)
       rw [h2] at g1
       exact ⟨cs',g1,trod_openU n e z f2 cs' _ nowhere h1 g2⟩
      refine ⟨l, ?_,⟨by omega,q5⟩,by show bulkL z l+1<=Rows.uptoBulkAll ((List.range len).map D)+Rows.uptoBulkAll _+1;omega⟩
      simp only [Ty.cells]
      refine Cs.mk1 ?_
      simp only [C]
      refine ⟨some a,cap,by rw [q1],by omega,hm,fun h0=>by have:l=[]:=List.eq_nil_of_length_eq_zero h0;subst this;rfl,fun hp=> ?_⟩
      rw [q1] at hp
      obtain ⟨v0,hv0⟩: ∃ v,vs[0]? = some v:=by
       have:0<vs.length:=by rw [q3];exact Nat.mul_pos hp h3
       exact ⟨_,List.getElem?_eq_getElem this⟩
      have h0:=q4 0 (Nat.mul_pos hp h3)
      rw [hv0] at h0
      obtain ⟨b,off,spot⟩:=a
      have hsp:spot=none:=by
       simp only [World.cell?, Addr.add] at h0
       cases spot with
       |none=>rfl
       |some s=>split at h0<;>simp at h0
      subst hsp
      refine ⟨b,off,vs,rfl,q2, ?_,fun j _ h=>h,fun j u hu'=> ?_,fun u hu'=> ?_⟩
      ·rcases Nat.lt_or_ge b w.heap.size with hlt|hge
       ·exact hlt
       ·simp [World.cell?, Addr.add,Array.getElem?_eq_none hge] at h0
      ·have hj:j<len*z.sz:=by rw [←q3];exact (List.getElem?_eq_some_iff.1 hu').1
       have:=q4 j hj
       have ha:(Addr.mk b off none).add j=⟨b,off+j,none⟩:=by by_cases h0:j=0<;>simp [Addr.add,h0]
       rw [ha,hu'] at this
       exact this
      ·exact (rows_one l vs q2) u hu'
   case struct fs=>
    simp only [Bool.and_eq_true,decide_eq_true_eq] at h
    obtain ⟨⟨_,h2⟩,h3⟩:=h
    obtain ⟨xs,m,_,rfl,hlen,hxl,hf⟩:=DataW.trod_struct hu hx
    have:=fields_openU (n:=m) (cs:=cs) (σ:=σ) (fun t y cs x=>trod_openU n t y m cs x σ) fs.toList (xs.map (·.1)) 0 y h3 (fun i f hi=>by
     have hi':fs[i]? = some f:=by simpa using hi
     have hlt:=(Array.getElem?_eq_some_iff.1 hi').1
     exact ⟨xs[i]'(by omega),(hf i f hi').trans (List.getElem?_eq_getElem _),by rw [List.getElem?_map,List.getElem?_eq_getElem (by omega)];rfl⟩) (by omega)
    obtain ⟨z,c1,w1,b1⟩:=this
    exact ⟨z,by simpa using c1,w1,by show y.bulk z<=Rows.uptoBulkAll (xs.map (·.1))+1;omega⟩
theorem arg_openU {n:Nat}{t:TypeId}{y:Ty}{v:Value}{r:Reach}{b0:Nat}{d:DataW H}{ps:List MemPlace}(h:tyIs P (n+1) t y=true)(hval:Value.okWide P w r b0 t v)(hd:DataW.Trod enc P w base sp held t v d ps):
  ∃ z:y.T,C noX w σ (V.t y z).d v/\y.wf z/\y.bulk z<=Rows.uptoBulk d:=by
 have h':=h
 obtain ⟨fuel,hf⟩:=hd
 obtain ⟨z,hz,hw,hbk⟩:=trod_openU (n+1) t y fuel _ _ σ h hf
 refine ⟨z, ?_,hw,hbk⟩
 simp only [tyIs] at h
 simp only [V.d]
 cases hu:P.underlying t with
 |none=>rw [hu] at h;cases h
 |some dsc=>
  rw [hu] at h
  cases dsc<;>simp only [Bool.false_eq_true] at h
  case int k=>
   simp only [decide_eq_true_eq] at h
   subst h
   obtain ⟨m,rfl,_⟩:=open_int hu hval ⟨fuel,hf⟩
   simp only [Ty.cells,Value.cells] at hz
   obtain ⟨u,e,hc⟩:=hz.one
   simp at e
   subst e
   exact hc
  case bool=>
   simp only [decide_eq_true_eq] at h
   subst h
   obtain ⟨m,rfl,_⟩:=open_bool hu hval ⟨fuel,hf⟩
   simp only [Ty.cells,Value.cells] at hz
   obtain ⟨u,e,hc⟩:=hz.one
   simp at e
   subst e
   exact hc
  case string=>
   simp only [decide_eq_true_eq] at h
   subst h
   obtain ⟨m,rfl,_⟩:=Go.ChangeMaps.open_string hu hval ⟨fuel,hf⟩
   simp only [Ty.cells,Value.cells] at hz
   obtain ⟨u,e,hc⟩:=hz.one
   simp at e
   subst e
   exact hc
  case slice e=>
   cases y<;>simp only [Bool.false_eq_true] at h
   case sl z'=>
    obtain ⟨a,len,cap,rfl⟩:=okWide_slice hu hval
    simp only [Ty.cells,Value.cells] at hz
    obtain ⟨u,e,hc⟩:=hz.one
    simp at e
    subst e
    exact hc
  case struct fs=>
   simp only [Bool.and_eq_true] at h
   obtain ⟨cs,rfl,_⟩:=okWide_struct hu hval
   rw [y.d_row z h.1.1]
   simp only [C]
   exact ⟨cs.toList,by simp,by simpa [Value.cells] using hz⟩
end
end Go.Proofs.YtkkoedniahnneaaDoor.K
namespace Go.Proofs.YtkkoedniahnneaaDoor.K
open Go.RowKit Go.ChangeShapes Go.WideShapes Go.Deep
def isRb:Ty->Bool
 |.rb=>true
 |_=>false
def rbIs (P:Program)(n:Nat)(t:TypeId):Bool:=match P.underlying t with
 |some (.slice e)=>decide (P.cellsOf e=4)&&match P.underlying e with
  |some (.struct fs)=>fieldsIs P (fun u y=>if isRb y=true then decide (u=t) else tyIs P n u y) fs.toList 0 tyBlkT
  |_=>false
 |_=>false
theorem bu_one (x:BlkT):tyBlkT.bulk x=buB (Blk.of x):=rfl
theorem bu_all: ∀ l:List BlkT,bulkL tyBlkT l=buL (l.map Blk.of)
 | []=>rfl
 |x::l=>by
  show tyBlkT.bulk x+bulkL tyBlkT l=buB (Blk.of x)+buL (l.map Blk.of)
  rw [bu_all l,bu_one]
section
variable {H:Type}{enc:TypeId×Value->H}{P:Program}{w:World}{base:Nat}{sp:Nat->Bool}{held:Bool}{σ:Pl}
theorem fields_openN {N:Nat}{T:TypeId->Ty->Bool}{n:Nat}{cs:List Value}(hT: ∀ t y cs x,T t y=true->Rows.uptoBulk x.1<=N->DataW.trod enc P w base sp held n t cs=some x→ ∃ z:y.T,Cs noX w σ (y.cells z) cs/\y.wf z/\y.bulk z<=Rows.uptoBulk x.1):
  ∀ (fs:List Field) (ds:List (DataW H)) (o:Nat) (y:Ty),fieldsIs P T fs o y=true->Rows.uptoBulkAll ds<=N->(∀ (i:Nat) (f:Field),fs[i]? = some f→ ∃ x,DataW.trod enc P w base sp held n f.type ((cs.drop f.offset).take (P.cellsOf f.type))=some x/\ds[i]? = some x.1)->o+y.sz=cs.length→
   ∃ z:y.T,Cs noX w σ (y.cells z) (cs.drop o)/\y.wf z/\y.bulk z<=Rows.uptoBulkAll ds
 | [],ds,o,y,h,_,_,hl=>by
  cases y<;>simp only [fieldsIs,Bool.false_eq_true] at h
  refine ⟨(), ?_,trivial,Nat.zero_le _⟩
  simp only [Ty.sz] at hl
  rw [List.drop_eq_nil_of_le (by omega)]
  simp only [Ty.cells,Cs]
 |f::r,ds,o,y,h,hN,hf,hl=>by
  cases y with
  |pr a b=>
   simp only [fieldsIs,Bool.and_eq_true,decide_eq_true_eq] at h
   obtain ⟨⟨⟨h1,h2⟩,h3⟩,h4⟩:=h
   obtain ⟨x,hx,hd⟩:=hf 0 f rfl
   cases ds with
   |nil=>simp at hd
   |cons d ds=>
    simp only [List.getElem?_cons_zero,Option.some.injEq] at hd
    have hN:Rows.uptoBulk d+Rows.uptoBulkAll ds<=N:=hN
    rw [h1,h2] at hx
    obtain ⟨z1,c1,w1,b1⟩:=hT _ _ _ _ h3 (by rw [←hd];omega) hx
    simp only [Ty.sz] at hl
    obtain ⟨z2,c2,w2,b2⟩:=fields_openN hT r ds (o+a.sz) b h4 (by omega) (fun i f' hi=>by simpa using hf (i+1) f' (by simpa using hi)) (by omega)
    refine ⟨(z1,z2), ?_,⟨w1,w2⟩, ?_⟩
    ·have:=c1.app c2
     rw [←List.drop_drop,List.take_append_drop] at this
     exact this
    ·show a.bulk z1+b.bulk z2<=Rows.uptoBulk d+Rows.uptoBulkAll ds
     rw [hd]
     omega
  |_=>simp only [fieldsIs,Bool.false_eq_true] at h
theorem bulk_at {D:Nat->DataW H}: ∀ (n i:Nat),i<n->Rows.uptoBulk (D i)<=Rows.uptoBulkAll ((List.range n).map D)
 |0,_,h=>by omega
 |n+1,i,h=>by
  rw [List.range_succ,List.map_append,bulkAll_app]
  show _<=Rows.uptoBulkAll ((List.range n).map D)+(Rows.uptoBulk (D n)+0)
  rcases Nat.lt_or_ge i n with hi|hi
  ·have:=bulk_at (D:=D) n i hi
   omega
  ·obtain rfl:i=n:=by omega
   omega
theorem trod_rb {n:Nat}{t:TypeId}(h:rbIs P n t=true): ∀ (N fuel:Nat) (cs:List Value) (x:DataW H×List MemPlace) (σ:Pl),Rows.uptoBulk x.1<=N->DataW.trod enc P w base sp held fuel t cs=some x→
  ∃ L:List Blk,Cs noX w σ (Ty.rb.cells L) cs/\(∀ z∈L.map Blk.un,tyBlkT.wf z)/\Ty.rb.bulk L<=Rows.uptoBulk x.1
 |0,fuel,cs,x,σ,hN,hx=>by
  have:=one_leB x.1
  omega
 |N+1,fuel,cs,x,σ,hN,hx=>by
  have h0:=h
  unfold rbIs at h
  cases hu:P.underlying t with
  |none=>rw [hu] at h;cases h
  |some d=>
   rw [hu] at h
   cases d<;>simp only [Bool.false_eq_true] at h
   case slice e=>
    rw [Bool.and_eq_true,decide_eq_true_eq] at h
    obtain ⟨h2,h⟩:=h
    cases he:P.underlying e with
    |none=>rw [he] at h;cases h
    |some d=>
     rw [he] at h
     cases d<;>simp only [Bool.false_eq_true] at h
     case struct fs=>
      rcases open_slice hu hx with ⟨rfl,rfl⟩|⟨a,len,cap,m,f2,D,Pl,rfl,_,hl,hm,hmm,rfl,hi⟩
      ·refine ⟨[], ?_,(fun z hz=>by cases hz),Nat.le_refl 1⟩
       show Cs noX w σ [.sl 0 _] _
       refine Cs.mk1 ?_
       simp only [C]
       exact ⟨none,0,rfl,Nat.le_refl _,by simp [maxLen],fun _=>rfl,fun h=>absurd h (by omega)⟩
      ·have hle:len<=m:=by rw [hmm];split<;>omega
       have hbs:Rows.uptoBulkAll ((List.range len).map D)<=N:=by
        have:Rows.uptoBulkAll ((List.range len).map D)+Rows.uptoBulkAll _+1<=N+1:=hN
        omega
       obtain ⟨l,vs,q1,q2,q3,q4,q5,q6⟩:=rows_openU (D:=D) (w:=w) (base:=base) (z:=tyBlkT) (a:=a) len fun i hil=>by
        obtain ⟨cs',g1,g2⟩:=hi i (by omega)
        rw [h2] at g1
        obtain ⟨xs,mf,_,hD,hlen,hxl,hf⟩:=DataW.trod_struct he g2
        have hDi:D i= .agg (xs.map (·.1)):=congrArg (fun q=>q.1) hD
        have hb:=bulk_at (D:=D) len i hil
        have hbi:Rows.uptoBulkAll (xs.map (·.1))+1<=N:=by
         have:Rows.uptoBulk (D i)<=N:=by omega
         rw [hDi] at this
         exact this
        rw [h2] at hlen
        obtain ⟨z,c1,w1,b1⟩:=fields_openN (N:=N) (n:=mf) (cs:=cs') (σ:=nowhere) (fun u y cs x hT hxN hxt=>by
         by_cases hy:isRb y=true
         ·rw [if_pos hy,decide_eq_true_eq] at hT
          subst hT
          cases y<;>simp only [isRb,Bool.false_eq_true] at hy
          obtain ⟨L,c1,_,b1⟩:=trod_rb h0 N mf cs x nowhere hxN hxt
          exact ⟨L,c1,trivial,b1⟩
         ·rw [if_neg hy] at hT
          exact trod_openU n u y mf cs x nowhere hT hxt) fs.toList (xs.map (·.1)) 0 tyBlkT h (by omega) (fun i f hi=>by
         have hi':fs[i]? = some f:=by simpa using hi
         have hlt:=(Array.getElem?_eq_some_iff.1 hi').1
         exact ⟨xs[i]'(by omega),(hf i f hi').trans (List.getElem?_eq_getElem _),by rw [List.getElem?_map,List.getElem?_eq_getElem (by omega)];rfl⟩) (by show 0+4=_;omega)
        refine ⟨cs',g1,z,by simpa using c1,w1, ?_⟩
        rw [hDi]
        show tyBlkT.bulk z<=Rows.uptoBulkAll (xs.map (·.1))+1
        omega
       refine ⟨l.map Blk.of, ?_,(fun z hz=>q5 z (by rw [List.map_map,show (Blk.un ∘ Blk.of)=id from funext Blk.un_of,List.map_id] at hz;exact hz)), ?_⟩
       ·have hd:Ty.d .rb (l.map Blk.of)=(V.t (.sl tyBlkT) l).d:=blks_of l
        show Cs noX w σ [Ty.d .rb (l.map Blk.of)] _
        rw [hd]
        refine Cs.mk1 ?_
        show C noX w σ (.sl (List.length l) (List.flatMap (Ty.cells tyBlkT) l)) _
        simp only [C]
        have h3:0<tyBlkT.sz:=by decide
        refine ⟨some a,cap,by rw [q1],by omega,hm,fun h0=>by have:l=[]:=List.eq_nil_of_length_eq_zero h0;subst this;rfl,fun hp=> ?_⟩
        rw [q1] at hp
        obtain ⟨v0,hv0⟩: ∃ v,vs[0]? = some v:=by
         have:0<vs.length:=by rw [q3];exact Nat.mul_pos hp h3
         exact ⟨_,List.getElem?_eq_getElem this⟩
        have h0:=q4 0 (Nat.mul_pos hp h3)
        rw [hv0] at h0
        obtain ⟨b,off,spot⟩:=a
        have hsp:spot=none:=by
         simp only [World.cell?, Addr.add] at h0
         cases spot with
         |none=>rfl
         |some s=>split at h0<;>simp at h0
        subst hsp
        refine ⟨b,off,vs,rfl,q2, ?_,fun j _ h=>h,fun j u hu'=> ?_,fun u hu'=> ?_⟩
        ·rcases Nat.lt_or_ge b w.heap.size with hlt|hge
         ·exact hlt
         ·simp [World.cell?, Addr.add,Array.getElem?_eq_none hge] at h0
        ·have hj:j<len*tyBlkT.sz:=by rw [←q3];exact (List.getElem?_eq_some_iff.1 hu').1
         have:=q4 j hj
         have ha:(Addr.mk b off none).add j=⟨b,off+j,none⟩:=by by_cases h0:j=0<;>simp [Addr.add,h0]
         rw [ha,hu'] at this
         exact this
        ·exact (rows_one l vs q2) u hu'
       ·show buL (l.map Blk.of)+1<=Rows.uptoBulkAll ((List.range len).map D)+Rows.uptoBulkAll _+1
        rw [←bu_all]
        omega
theorem arg_openRB {n:Nat}{t:TypeId}{v:Value}{r:Reach}{b0:Nat}{d:DataW H}{ps:List MemPlace}(h:rbIs P n t=true)(hval:Value.okWide P w r b0 t v)(hd:DataW.Trod enc P w base sp held t v d ps):
  ∃ z:(Ty.sl tyBlkT).T,C noX w σ (V.t (.sl tyBlkT) z).d v/\(Ty.sl tyBlkT).wf z/\(Ty.sl tyBlkT).bulk z<=Rows.uptoBulk d:=by
 obtain ⟨fuel,hf⟩:=hd
 obtain ⟨L,hz,hw,hb⟩:=trod_rb h (Rows.uptoBulk d) fuel _ _ σ (Nat.le_refl _) hf
 have h0:=h
 unfold rbIs at h0
 cases hu:P.underlying t with
 |none=>rw [hu] at h0;cases h0
 |some dsc=>
  rw [hu] at h0
  cases dsc<;>simp only [Bool.false_eq_true] at h0
  case slice e=>
   obtain ⟨a,len,cap,rfl⟩:=okWide_slice hu hval
   have hz:Cs noX w σ [Ty.d .rb L] (Value.slice a len cap).cells.toList:=hz
   simp only [Value.cells] at hz
   obtain ⟨u,e2,hc⟩:=hz.one
   simp at e2
   subst e2
   have hc2:C noX w σ (V.t (.sl tyBlkT) (L.map Blk.un)).d (.slice a len cap):=by
    rw [blks_sl]
    exact hc
   have hl:(L.map Blk.un).length<=maxLen:=by
    have hc3:C noX w σ (.sl (List.length (L.map Blk.un)) (List.flatMap (Ty.cells tyBlkT) (L.map Blk.un))) (.slice a len cap):=hc2
    simp only [C] at hc3
    obtain ⟨A,c,e3,h1,h2,_⟩:=hc3
    omega
   refine ⟨L.map Blk.un,hc2,⟨hl,hw⟩, ?_⟩
   ·show bulkL tyBlkT (L.map Blk.un)+1<=_
    rw [bu_all,List.map_map,show (Blk.of ∘ Blk.un)=id from funext Blk.of_un,List.map_id]
    exact hb
end
end Go.Proofs.YtkkoedniahnneaaDoor.K
namespace Go.Proofs.YtkkoedniahnneaaDoor.K
open Go.RowKit
open ZZ (okZB okZT)
noncomputable section
set_option linter.unusedSectionVars false
mutual
def tsB:K.Blk->Nat
 |.mk ws _ wi _=>1+ws.length / 8+tsL wi
def tsL:List K.Blk->Nat
 | []=>0
 |b::r=>tsB b+tsL r
end
mutual
theorem szB_ts: ∀ (b:K.Blk) (d:Int),szB b d<=d->szB b d=tsB b
 |.mk ws o wi ln,d,h=>by
  have h3:=Int.tdiv_eq_ediv_of_nonneg (b:=8) (show (0:Int)<=(ws.length:Int) by omega)
  have h:1+(ws.length:Int).tdiv 8+szL wi d 0<=d:=h
  obtain ⟨h1,h2⟩:=szL_le wi d 0 (Int.le_refl 0)
  have h4:=szL_ts wi d 0 (Int.le_refl 0) (by omega)
  show 1+(ws.length:Int).tdiv 8+szL wi d 0=((1+ws.length / 8+tsL wi:Nat):Int)
  omega
theorem szL_ts: ∀ (l:List K.Blk) (m n:Int),0<=n->szL l m n<=m->szL l m n=n+tsL l
 | [],m,n,h0,h=>by
  show n=n+((0:Nat):Int)
  omega
 |b::r,m,n,h0,h=>by
  have e:szL (b::r) m n=if n<=m then szL r m (n+szB b (m-n)) else n:=rfl
  rw [e] at h ⊢
  by_cases hm:n<=m
  ·rw [if_pos hm] at h ⊢
   obtain ⟨h1,h2⟩:=szB_le b (m-n)
   obtain ⟨h3,h4⟩:=szL_le r m (n+szB b (m-n)) (by omega)
   have h5:=szB_ts b (m-n) (by omega)
   have h6:=szL_ts r m (n+szB b (m-n)) (by omega) h
   show _=n+((tsB b+tsL r:Nat):Int)
   omega
  ·rw [if_neg hm] at h
   omega
end
theorem sum_mem {l:List ByteArray}{s:ByteArray}(h:s∈l):s.size+1<=(l.map fun s=>ByteArray.size s+1).sum:=by
 induction l with
 |nil=>cases h
 |cons x l ih=>
  rw [List.map_cons,List.sum_cons]
  rcases List.mem_cons.1 h with rfl|h
  ·omega
  ·have:=ih h
   omega
theorem sum_len (l:List ByteArray):l.length<=(l.map fun s=>ByteArray.size s+1).sum:=by
 induction l with
 |nil=>exact Nat.le_refl _
 |cons x l ih=>
  rw [List.map_cons,List.sum_cons,List.length_cons]
  omega
theorem bu_of (x:BlkT):buB (Blk.of x)=((x.1.map fun s=>ByteArray.size s+1).sum+1)+(1+((buL x.2.2.1+1)+(1+0))):=rfl
theorem ts_of (x:BlkT):tsB (Blk.of x)=1+x.1.length / 8+tsL x.2.2.1:=rfl
theorem bu_in: ∀ {l:List BlkT} {x:BlkT},x∈l->buB (Blk.of x)<=buL (l.map Blk.of)
 | [],_,h=>by cases h
 |a::l,x,h=>by
  show _<=buB (Blk.of a)+buL (l.map Blk.of)
  rcases List.mem_cons.1 h with rfl|h
  ·omega
  ·have:=bu_in h
   omega
theorem ts_in: ∀ {l:List BlkT} {x:BlkT},x∈l->tsB (Blk.of x)<=tsL (l.map Blk.of)
 | [],_,h=>by cases h
 |a::l,x,h=>by
  show _<=tsB (Blk.of a)+tsL (l.map Blk.of)
  rcases List.mem_cons.1 h with rfl|h
  ·omega
  ·have:=ts_in h
   omega
theorem bu_len: ∀ l:List BlkT,l.length<=buL (l.map Blk.of)
 | []=>Nat.le_refl _
 |a::l=>by
  have:=bu_len l
  have h:=bu_of a
  show l.length+1<=buB (Blk.of a)+buL (l.map Blk.of)
  omega
theorem ts_len: ∀ l:List BlkT,l.length<=tsL (l.map Blk.of)
 | []=>Nat.le_refl _
 |a::l=>by
  have:=ts_len l
  have h:=ts_of a
  show l.length+1<=tsB (Blk.of a)+tsL (l.map Blk.of)
  omega
theorem okZ_bu: ∀ (n:Nat) (l:List BlkT),buL (l.map Blk.of)<=n->n<=2000000->okZB (n+1) l=true
 |n,l,h,hn=>by
  have hl:=bu_len l
  refine Bool.and_eq_true_iff.2 ⟨decide_eq_true (by omega),List.all_eq_true.2 fun x hx=> ?_⟩
  have h1:=bu_in hx
  rw [bu_of] at h1
  have h2:=sum_len x.1
  refine Bool.and_eq_true_iff.2 ⟨decide_eq_true (by omega), ?_⟩
  cases n with
  |zero=>omega
  |succ n=>
   refine okZ_bu n (x.2.2.1.map Blk.un) ?_ (by omega)
   rw [map_of_unB]
   omega
mutual
theorem to_buB: ∀ b:K.Blk,toB b<=buB b
 |.mk ws o wi ln=>by
  have h1:=to_buL wi
  have h2:=sum_len ws
  show 1+ws.length+toL wi<=((ws.map fun s=>ByteArray.size s+1).sum+1)+(1+((buL wi+1)+(1+0)))
  omega
theorem to_buL: ∀ l:List K.Blk,toL l<=buL l
 | []=>Nat.le_refl _
 |b::r=>by
  have h1:=to_buB b
  have h2:=to_buL r
  show toB b+toL r<=buB b+buL r
  omega
end
theorem okB_ts: ∀ (n:Nat) (l:List BlkT),tsL (l.map Blk.of)<=n->n<=1000->buL (l.map Blk.of)<=1048576->okB (n+1) l=true
 |n,l,h,hn,hb=>by
  have hl:=ts_len l
  refine Bool.and_eq_true_iff.2 ⟨decide_eq_true (by omega),List.all_eq_true.2 fun x hx=> ?_⟩
  have h1:=bu_in hx
  have h2:=ts_in hx
  rw [bu_of] at h1
  rw [ts_of] at h2
  refine Bool.and_eq_true_iff.2 ⟨decide_eq_true (by omega),Bool.and_eq_true_iff.2 ⟨List.all_eq_true.2 fun s hs=>decide_eq_true (by have:=sum_mem hs;omega), ?_⟩⟩
  cases n with
  |zero=>omega
  |succ n=>
   refine okB_ts n (x.2.2.1.map Blk.un) ?_ (by omega) ?_
   ·rw [map_of_unB]
    omega
   ·rw [map_of_unB]
    omega
theorem wdsT_sum: ∀ ws:List ByteArray,(wdsT ws).length<=3*(ws.map fun s=>ByteArray.size s+1).sum
 | []=>Nat.zero_le _
 |w::r=>by
  have h1:=qt_len w
  have h3:=wdsT_sum r
  rw [wdsT_cons,List.length_cons,List.length_append,List.map_cons,List.sum_cons]
  omega
theorem wdsL_sum (ws:List ByteArray):(wdsL ws).length<=3*(ws.map fun s=>ByteArray.size s+1).sum:=by
 cases ws with
 |nil=>exact Nat.zero_le _
 |cons w r=>
  have h1:=wdsT_sum (w::r)
  rw [wdsT_cons,List.length_cons] at h1
  show (bytesL (qtF w)++wdsT r).length<=_
  omega
mutual
theorem pnB_ts: ∀ (b:K.Blk) (n:Nat),n+tsB b<=1000->(pnB b n).length<=3*buB b+4005*tsB b
 |.mk ws o wi ln,n,h=>by
  have hb:buB (.mk ws o wi ln)=((ws.map fun s=>ByteArray.size s+1).sum+1)+(1+((buL wi+1)+(1+0))):=rfl
  have ht:tsB (.mk ws o wi ln)=1+ws.length / 8+tsL wi:=rfl
  have h1:=pnL_ts wi (n+1) (by omega)
  have h2:=wdsL_sum ws
  rw [hb,ht]
  unfold pnB
  cases o with
  |false=>
   simp only [Bool.not_false,cond_true,List.length_append,indL_n,List.length_cons,List.length_nil]
   omega
  |true=>
   simp only [Bool.not_true,cond_false,List.length_append,indL_n,List.length_cons,List.length_nil]
   omega
theorem pnL_ts: ∀ (l:List K.Blk) (n:Nat),n+tsL l<=1000->(pnL l n).length<=3*buL l+4005*tsL l
 | [],_,_=>Nat.zero_le _
 |b::r,n,h=>by
  have ht:tsL (b::r)=tsB b+tsL r:=rfl
  have hb:buL (b::r)=buB b+buL r:=rfl
  have h1:=pnB_ts b n (by omega)
  have h2:=pnL_ts r n (by omega)
  unfold pnL
  rw [List.length_append,ht,hb]
  omega
end
def buOk (l:List BlkT):Prop:=buL (l.map Blk.of)<=1048576
theorem bu_szZ {l:List BlkT}(h:buOk l):ZZ.szZOk l 200=true:=by
 have h1:=okZ_bu _ l (Nat.le_refl _) (by unfold buOk at h;omega)
 have h2:=to_buL (l.map Blk.of)
 unfold buOk at h
 exact Bool.and_eq_true_iff.2 ⟨cP_in ⟨_,h1⟩,cP_in ⟨by show toL (l.map Blk.of)<=_;omega,by decide,by decide⟩⟩
theorem bu_pnt {l:List BlkT}(h:buOk l)(hs:szT l 200<=200):pntOk l=true:=by
 have h1:szT l 200=0+tsL (l.map Blk.of):=szL_ts (l.map Blk.of) 200 0 (Int.le_refl 0) hs
 have h2:tsL (l.map Blk.of)<=200:=by omega
 have h3:=okB_ts 200 l h2 (by decide) h
 have h4:=pnL_ts (l.map Blk.of) 0 (by omega)
 unfold buOk at h
 exact Bool.and_eq_true_iff.2 ⟨cP_in ⟨201,okN_i h3 (by decide)⟩,cP_in (by show (pnL (l.map Blk.of) 0).length<=_;omega)⟩
theorem okB_fil (p:BlkT->Bool): ∀ (n:Nat) (l:List BlkT),okB n l=true->okB n (l.filter p)=true
 |0,_,h=>h
 |n+1,l,h=>by
  obtain ⟨h1,h2⟩:=Bool.and_eq_true_iff.1 h
  have h1:=of_decide_eq_true h1
  refine Bool.and_eq_true_iff.2 ⟨decide_eq_true (Nat.le_trans (List.length_filter_le p l) h1),List.all_eq_true.2 fun x hx=> ?_⟩
  exact List.all_eq_true.1 h2 x (List.mem_filter.1 hx).1
theorem okT_fil {l:List BlkT}(p:BlkT->Bool)(h:okT l=true):okT (l.filter p)=true:=by
 obtain ⟨N,h⟩:=okT_fuel h
 obtain ⟨h1,h2⟩:=okN_b h
 exact cP_in ⟨N,okN_i (okB_fil p N l h1) h2⟩
end
end Go.Proofs.YtkkoedniahnneaaDoor.K
