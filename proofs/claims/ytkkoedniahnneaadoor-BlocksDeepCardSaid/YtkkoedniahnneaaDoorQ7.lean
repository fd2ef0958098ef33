import Derived.Test.YtkkoedniahnneaaDoorQ3
import Derived.Test.YtkkoedniahnneaaDoorQ6
set_option linter.unusedSimpArgs false
set_option linter.unusedVariables false
namespace Go.Proofs.YtkkoedniahnneaaDoor.K
open Go.RowKit
noncomputable section
set_option linter.unusedSectionVars false
def dpW (x:Int)(m:Int):Int:=irem (icv .i64 x) m
theorem dpW_rng {x m:Int}(h:0<=x/\x<=255)(hm:0<m):(0<=dpW x m/\dpW x m<m)/\icv .i64 x=x:=by
 have e:=icv_in (a:=x) (by omega)
 unfold dpW
 rw [e]
 exact ⟨irem_nn h.1 hm,rfl⟩
abbrev dwA:ByteArray:=ByteArray.mk #[97]
abbrev dwC:ByteArray:=ByteArray.mk #[99]
def dX (l:List BlkT):BlkT:=([dwA],(true,(l.map Blk.of,(0,()))))
def dD:BlkT:=([ByteArray.mk #[100]],(false,([],(0,()))))
def dz0:Nat->ByteArray->ByteArray->List BlkT->ByteArray×ByteArray×List BlkT
 |0,s,e,l=>(s,e,l)
 |j+1,s,e,l=>dz0 j (scat s (ByteArray.mk #[97,123])) (scat e (ByteArray.mk #[125])) [dX l]
def dz1:Nat->ByteArray->List ByteArray->ByteArray×List ByteArray
 |0,t,w=>(t,w)
 |j+1,t,w=>dz1 j (scat t (ByteArray.mk #[32,99])) (w++[dwC])
def dz2:Nat->ByteArray->List BlkT->ByteArray×List BlkT
 |0,u,l=>(u,l)
 |j+1,u,l=>dz2 j (scat u (ByteArray.mk #[100,59,10])) (l++[dD])
structure DL (k:Nat) (l:List BlkT):Prop where
 len:l.length<=1
 ok:okB (k+1) l=true
 txt: ∀ n,n+k<=40->(pnT l n).length<=200*k
theorem wdA:wdsL [dwA]=[97]:=by kernel_rfl
theorem wdD:wdsL [ByteArray.mk #[100]]=[100]:=by kernel_rfl
theorem indL_len (n:Nat):(indL n).length=2*n:=List.length_replicate
theorem DL.next {k:Nat}{l:List BlkT}(h:DL k l):DL (k+1) [dX l]:=by
 refine ⟨Nat.le_refl _, ?_,fun n hn=> ?_⟩
 ·refine Bool.and_eq_true_iff.2 ⟨decide_eq_true (by show 1<=100000;omega), ?_⟩
  rw [List.all_cons,List.all_nil,Bool.and_true]
  refine Bool.and_eq_true_iff.2 ⟨decide_eq_true (by show 1<=100000;omega),Bool.and_eq_true_iff.2 ⟨rfl, ?_⟩⟩
  show okB (k+1) ((l.map Blk.of).map Blk.un)=true
  rw [of_un_map]
  exact h.ok
 ·have h1:=h.txt (n+1) (by omega)
  rw [pnT_one]
  unfold pnO
  show ((indL n++wdsL [dwA])++(bif !true then [59,10] else ([32,123,10]++(pnT ((l.map Blk.of).map Blk.un) (n+1)++(indL n++[125,10]))))).length<=_
  rw [of_un_map,wdA]
  simp only [Bool.not_true,cond_false,List.length_append,indL_len,List.length_cons,List.length_nil]
  omega
theorem dz0_ok: ∀ (j k:Nat) (s e:ByteArray) (l:List BlkT),DL k l->DL (k+j) (dz0 j s e l).2.2/\(dz0 j s e l).1.size=s.size+2*j/\(dz0 j s e l).2.1.size=e.size+j
 |0,k,s,e,l,h=>⟨h,rfl,rfl⟩
 |j+1,k,s,e,l,h=>by
  obtain ⟨h1,h2,h3⟩:=dz0_ok j (k+1) (scat s (ByteArray.mk #[97,123])) (scat e (ByteArray.mk #[125])) [dX l] h.next
  rw [sct] at h2 h3
  have q1:(ByteArray.mk #[97,123]).size=2:=rfl
  have q2:(ByteArray.mk #[125]).size=1:=rfl
  refine ⟨by rw [show k+(j+1)=k+1+j by omega];exact h1, ?_, ?_⟩
  ·show (dz0 j _ _ _).1.size=_
   omega
  ·show (dz0 j _ _ _).2.1.size=_
   omega
theorem qC:bytesL (qtF dwC)=[99]:=by kernel_rfl
theorem wdsT_C (w:List ByteArray):wdsT (w++[dwC])=wdsT w++[32,99]:=by
 unfold wdsT
 rw [List.flatMap_append,List.flatMap_cons,List.flatMap_nil,qC]
 rfl
theorem dz1_ok: ∀ (j:Nat) (t:ByteArray) (v:ByteArray) (w:List ByteArray),(dz1 j t (v::w)).1.size=t.size+2*j/\(dz1 j t (v::w)).2.length=w.length+1+j/\((∀ s∈v::w,wsz s=true)→ ∀ s∈(dz1 j t (v::w)).2,wsz s=true)/\(wdsL (dz1 j t (v::w)).2).length=(wdsL (v::w)).length+2*j
 |0,t,v,w=>⟨rfl,rfl,fun h=>h,rfl⟩
 |j+1,t,v,w=>by
  obtain ⟨h1,h2,h3,h4⟩:=dz1_ok j (scat t (ByteArray.mk #[32,99])) v (w++[dwC])
  rw [sct] at h1
  have q1:(ByteArray.mk #[32,99]).size=2:=rfl
  have e:dz1 (j+1) t (v::w)=dz1 j (scat t (ByteArray.mk #[32,99])) (v::(w++[dwC])):=rfl
  rw [e]
  refine ⟨by omega, ?_,fun h=>h3 fun s hs=> ?_, ?_⟩
  ·rw [h2,List.length_append,List.length_singleton]
   omega
  ·rcases List.mem_cons.1 hs with rfl|hs
   ·exact h s List.mem_cons_self
   ·rcases List.mem_append.1 hs with hs|hs
    ·exact h s (List.mem_cons_of_mem _ hs)
    ·rw [List.mem_singleton.1 hs]
     rfl
  ·rw [h4]
   show (bytesL (qtF v)++wdsT (w++[dwC])).length+2*j=(bytesL (qtF v)++wdsT w).length+2*(j+1)
   rw [wdsT_C]
   simp only [List.length_append,List.length_cons,List.length_nil]
   omega
theorem pnDD:pnO dD 0=[100,59,10]:=by
 unfold pnO dD
 show ((indL 0++wdsL [ByteArray.mk #[100]])++[59,10])=_
 rw [wdD]
 rfl
theorem okD:okB 2 [dD]=true:=by kernel_rfl
theorem okB_app {M:Nat}{a b:List BlkT}(ha:okB (M+1) a=true)(hb:okB (M+1) b=true)(hl:a.length+b.length<=100000):okB (M+1) (a++b)=true:=by
 obtain ⟨_,h1⟩:=Bool.and_eq_true_iff.1 ha
 obtain ⟨_,h2⟩:=Bool.and_eq_true_iff.1 hb
 exact Bool.and_eq_true_iff.2 ⟨decide_eq_true (by rw [List.length_append];exact hl),by rw [List.all_append,h1,h2];rfl⟩
theorem okB_up: ∀ (M:Nat) (l:List BlkT),okB M l=true->okB (M+1) l=true
 |0,l,h=>by cases h
 |M+1,l,h=>by
  obtain ⟨h1,h2⟩:=Bool.and_eq_true_iff.1 h
  refine Bool.and_eq_true_iff.2 ⟨h1,List.all_eq_true.2 fun x hx=> ?_⟩
  have hx:=List.all_eq_true.1 h2 x hx
  obtain ⟨h3,h4⟩:=Bool.and_eq_true_iff.1 hx
  obtain ⟨h5,h6⟩:=Bool.and_eq_true_iff.1 h4
  exact Bool.and_eq_true_iff.2 ⟨h3,Bool.and_eq_true_iff.2 ⟨h5,okB_up M _ h6⟩⟩
theorem okB_ups {M:Nat}{l:List BlkT}(h:okB M l=true): ∀ j,okB (M+j) l=true
 |0=>h
 |j+1=>okB_up _ _ (okB_ups h j)
theorem dz2_ok: ∀ (j:Nat) (u:ByteArray) (l:List BlkT),l.length+j<=1000->okB 2 l=true->(dz2 j u l).1.size=u.size+3*j/\(dz2 j u l).2.length=l.length+j/\okB 2 (dz2 j u l).2=true/\(pnT (dz2 j u l).2 0).length=(pnT l 0).length+3*j
 |0,u,l,_,h=>⟨rfl,rfl,h,rfl⟩
 |j+1,u,l,hl,h=>by
  have hn:okB 2 (l++[dD])=true:=okB_app h okD (by rw [List.length_singleton];omega)
  obtain ⟨h1,h2,h3,h4⟩:=dz2_ok j (scat u (ByteArray.mk #[100,59,10])) (l++[dD]) (by rw [List.length_append,List.length_singleton];omega) hn
  rw [sct] at h1
  have q1:(ByteArray.mk #[100,59,10]).size=3:=rfl
  have e:dz2 (j+1) u l=dz2 j (scat u (ByteArray.mk #[100,59,10])) (l++[dD]):=rfl
  rw [e]
  refine ⟨by omega, ?_,h3, ?_⟩
  ·rw [h2,List.length_append,List.length_singleton]
   omega
  ·rw [h4,pnT_app,pnT_one,pnDD,List.length_append]
   show (pnT l 0).length+3+3*j=_
   omega
def depT (_ _ _:Int):Bool:=true
def depOk (a b c:Int):Bool:=decide (0<=a/\a<=255/\0<=b/\b<=255/\0<=c/\c<=255)
def de0 (n i:Int)(s e:ByteArray):Bool:=cP (0<=n/\n<=255/\0<=i/\i<=20/\s.size<=2*i/\e.size<=i)
def de1 (n i:Int)(t:ByteArray)(w:List ByteArray):Bool:=cP (0<=n/\n<=255/\0<=i/\i<=70/\t.size<=2*i+10/\w.length<=i+10)
def de2 (n i:Int)(u:ByteArray)(l:List BlkT):Bool:=cP (0<=n/\n<=255/\0<=i/\i<=255/\u.size<=3*i/\l.length<=i)
def dr_f5_0:List DO:=[(.mk (oM 66 (.bs 38 4 0 [] [])) []),(.mk (oV 67 9) []),(.mk (oM 68 (.app 38 4 64 (.t 66) (.t 67))) [0,1]),(.mk (oM 69 (.ld true 4 (.t 12))) []),(.mk (oM 70 (.bs 38 4 1 [(.v (.slice none 0 0)),(.v (.bool false)),(.v (.slice none 0 0)),(.v (.int .i64 0))] [(0,4,(.t 69))])) [3]),(.mk (oM 71 (.app 38 4 64 (.t 68) (.t 70))) [2,4,2]),(.mk (oV 72 15) []),(.mk (oM 73 (.app 38 4 64 (.t 71) (.t 72))) [5,6,5]),(.mk (oV 17 73) [7,7,0,1,2,3,4,5,6,7])]
def fg_f5_0:Fg:=⟨[(0,some (.int .u8)),(1,some (.int .u8)),(2,some (.int .u8)),(7,some .str),(8,some .str),(9,some (.sl tyBlkT)),(10,some tI)],[]⟩
def tb_f5_0:TC:=(.sq (.sq (.reg [(oV 22 10),(oV 23 0),(oP 24 (.cv .i64 (.t 23))),(oP 25 (.bin false .rem (.t 24) (cI 20))),(oP 26 (.bin false .lss (.t 22) (.t 25)))]) (.cd (.t 26) .sk (.fg ⟨[(1,some (.int .u8)),(2,some (.int .u8)),(7,some .str),(8,some .str),(9,some (.sl tyBlkT))],[]⟩ (.ex 0)))) (.sq (.bk 1 (.sq (.reg [(oV 29 7),(oP 30 (.bin false .add (.t 29) (.c (.v (.string (ByteArray.mk #[97,123])))))),(oV 31 8),(oP 32 (.bin false .add (.t 31) (.c (.v (.string (ByteArray.mk #[125])))))),(oV 7 30),(oV 8 32)]) (.reg [(oM 33 (.bs 9 1 1 [(.v (.string (ByteArray.mk #[])))] [(0,1,(.c (.v (.string (ByteArray.mk #[97])))))])),(oV 34 9),(oP 35 (.bd [(.v (.slice none 0 0)),(.v (.bool false)),(.v (.slice none 0 0)),(.v (.int .i64 0))] [(0,1,(.t 33)),(1,1,(cB true)),(2,1,(.t 34))])),(oM 36 (.bs 38 4 1 [(.v (.slice none 0 0)),(.v (.bool false)),(.v (.slice none 0 0)),(.v (.int .i64 0))] [(0,4,(.t 35))])),(oV 9 36)]))) (.reg [(oV 27 10),(oP 28 (.bin false .add (.t 27) (cI 1))),(oV 10 28)])))
def fg_f5_1:Fg:=⟨[(1,some (.int .u8)),(2,some (.int .u8)),(7,some .str),(8,some .str),(9,some (.sl tyBlkT)),(11,some .str),(12,none),(13,some tI)],[(12,none),(37,none),(51,none),(21200,none)]⟩
def tb_f5_1:TC:=(.sq (.sq (.reg [(oV 39 13),(oV 40 1),(oP 41 (.cv .i64 (.t 40))),(oP 42 (.bin false .rem (.t 41) (cI 70))),(oP 43 (.bin false .lss (.t 39) (.t 42)))]) (.cd (.t 43) .sk (.fg ⟨[(2,some (.int .u8)),(7,some .str),(8,some .str),(9,some (.sl tyBlkT)),(11,some .str),(12,none)],[(12,some tyBlkT),(37,none),(51,none),(21200,none)]⟩ (.ex 2)))) (.sq (.bk 3 (.sq (.reg [(oV 46 11),(oP 47 (.bin false .add (.t 46) (.c (.v (.string (ByteArray.mk #[32,99])))))),(oV 11 47)]) (.reg [(oP 48 (.fa 0 (.t 12))),(oL 49 48),(oM 50 (.bs 9 1 1 [(.v (.string (ByteArray.mk #[])))] [(0,1,(.c (.v (.string (ByteArray.mk #[99])))))])),(oM 51 (.app 9 1 16 (.t 49) (.t 50))),(oP 52 (.fa 0 (.t 12))),(.mk none none (.m (.st 1 (.t 52) (.t 51))))]))) (.reg [(oV 44 13),(oP 45 (.bin false .add (.t 44) (cI 1))),(oV 13 45)])))
def fg_f5_2:Fg:=⟨[(2,some (.int .u8)),(7,some .str),(8,some .str),(9,some (.sl tyBlkT)),(11,some .str),(12,none),(14,some .str),(15,none),(16,some tI)],[(12,none),(15,none),(37,none),(51,none),(65,none),(21200,none)]⟩
def tb_f5_2:TC:=(.sq (.sq (.reg [(oV 53 16),(oV 54 2),(oP 55 (.cv .i64 (.t 54))),(oP 56 (.bin false .lss (.t 53) (.t 55)))]) (.cd (.t 56) .sk (.fg ⟨[(7,some .str),(8,some .str),(9,some (.sl tyBlkT)),(11,some .str),(12,none),(14,some .str),(15,none)],[(12,some tyBlkT),(15,none),(37,none),(51,none),(65,none),(21200,none)]⟩ (.ex 4)))) (.sq (.bk 5 (.sq (.reg [(oV 59 14),(oP 60 (.bin false .add (.t 59) (.c (.v (.string (ByteArray.mk #[100,59,10])))))),(oV 14 60)]) (.reg [(oV 61 15),(oM 62 (.bs 9 1 1 [(.v (.string (ByteArray.mk #[])))] [(0,1,(.c (.v (.string (ByteArray.mk #[100])))))])),(oP 63 (.bd [(.v (.slice none 0 0)),(.v (.bool false)),(.v (.slice none 0 0)),(.v (.int .i64 0))] [(0,1,(.t 62))])),(oM 64 (.bs 38 4 1 [(.v (.slice none 0 0)),(.v (.bool false)),(.v (.slice none 0 0)),(.v (.int .i64 0))] [(0,4,(.t 63))])),(oM 65 (.app 38 4 64 (.t 61) (.t 64))),(oV 15 65)]))) (.reg [(oV 57 16),(oP 58 (.bin false .add (.t 57) (cI 1))),(oV 16 58)])))
def tc_f5:TC:=(.sq (.reg [(oP 6 (.mv (cB false)))]) (.sq (.reg [(oP 7 (.mv (.c (.v (.string (ByteArray.mk #[])))))),(oP 8 (.mv (.c (.v (.string (ByteArray.mk #[]))))))]) (.sq (.reg [(oP 9 (.mv (.c (.v (.slice none 0 0)))))]) (.sq (.sq (.reg [(oP 10 (.mv (cI 0)))]) (.bk 0 (.lp 0 fg_f5_0 tb_f5_0))) (.sq (.reg [(oP 11 (.mv (.c (.v (.string (ByteArray.mk #[98]))))))]) (.sq (.reg [(oM 37 (.bs 9 1 1 [(.v (.string (ByteArray.mk #[])))] [(0,1,(.c (.v (.string (ByteArray.mk #[98])))))])),(oP 38 (.bd [(.v (.slice none 0 0)),(.v (.bool false)),(.v (.slice none 0 0)),(.v (.int .i64 0))] [(0,1,(.t 37))])),(oM 12 (.new [(.v (.slice none 0 0)),(.v (.bool false)),(.v (.slice none 0 0)),(.v (.int .i64 0))])),(.mk none none (.m (.st 4 (.t 12) (.t 38))))]) (.sq (.sq (.reg [(oP 13 (.mv (cI 0)))]) (.bk 2 (.nf 12 0 9 21200 (.lp 1 fg_f5_1 tb_f5_1)))) (.sq (.reg [(oP 14 (.mv (.c (.v (.string (ByteArray.mk #[]))))))]) (.sq (.reg [(oP 15 (.mv (.c (.v (.slice none 0 0)))))]) (.sq (.sq (.reg [(oP 16 (.mv (cI 0)))]) (.bk 4 (.nw 15 38 (.lp 2 fg_f5_2 tb_f5_2)))) (.sq (.dr dr_f5_0 [(0,[66,5066,10066,15066]),(1,[]),(2,[66,68,5068,10068,15068]),(3,[12,37,51,21200]),(4,[12,37,51,70,5070,10070,15070,21200]),(5,[66,68,70,71,5071,10071,15071]),(6,[15,65]),(7,[15,65,66,68,71,73,5073,10073,15073]),(8,[66,68,71,73])] (.one 1 (.one 3 (.one 6 (.alt 0 (.alt 2 (.of [4,5,7,8]) (.of [4,2,5,7,8])) (.of [4,0,2,5,7,8])))))) (.sq (.reg [(oV 75 17),(oC 76 24 [(.t 75)]),(oV 74 76),(oP 77 (.ext 0 (.t 74))),(oP 78 (.ext 1 (.t 74))),(oV 18 77),(oV 19 78)]) (.sq (.reg [(oV 80 17),(oC 81 25 [(.t 80)]),(oV 79 81),(oP 82 (.ext 0 (.t 79))),(oP 83 (.ext 1 (.t 79))),(oV 20 82),(oV 21 83)]) (.sq (.reg [(oV 84 19),(oV 85 21),(oP 86 (.bin false .eql (.t 84) (.t 85))),(oV 87 86),(oQ 88 87 true (.mv (.t 18))),(oQ 89 87 true (.mv (.t 20))),(oQ 90 87 true (.bin false .eql (.t 88) (.t 89))),(oP 91 (.pick (.t 87) (.t 90) (cB false))),(oV 92 91),(oQ 93 92 true (.mv (.t 7))),(oQ 94 92 true (.mv (.t 8))),(oQ 95 92 true (.bin false .add (.t 93) (.t 94))),(oG 96 92 true (.call 23 [(.t 95)])),(oP 97 (.pick (.t 92) (.t 96) (cB false))),(oV 98 97),(oQ 99 98 true (.mv (.t 7))),(oQ 100 98 true (.mv (.t 11))),(oQ 101 98 true (.bin false .add (.t 99) (.t 100))),(oQ 102 98 true (.bin false .add (.t 101) (.c (.v (.string (ByteArray.mk #[59])))))),(oQ 103 98 true (.mv (.t 8))),(oQ 104 98 true (.bin false .add (.t 102) (.t 103))),(oG 105 98 true (.call 23 [(.t 104)])),(oP 106 (.pick (.t 98) (.t 105) (cB false))),(oV 107 106),(oQ 108 107 true (.mv (.t 14))),(oG 109 107 true (.call 23 [(.t 108)])),(oP 110 (.pick (.t 107) (.t 109) (cB false))),(oV 111 110),(oQ 112 111 true (.mv (.t 7))),(oG 113 111 true (.call 23 [(.t 112)])),(oP 114 (.pick (.t 111) (.t 113) (cB false))),(oV 115 114),(oQ 116 115 true (.mv (.t 11))),(oQ 117 115 true (.bin false .add (.t 116) (.c (.v (.string (ByteArray.mk #[59,10])))))),(oQ 118 115 true (.mv (.t 14))),(oQ 119 115 true (.bin false .add (.t 117) (.t 118))),(oG 120 115 true (.call 23 [(.t 119)])),(oP 121 (.pick (.t 115) (.t 120) (cB false))),(oV 122 121),(oG 123 122 true (.call 21 [])),(oP 124 (.pick (.t 122) (.t 123) (cB false))),(oV 6 124)]) .rt))))))))))))))
def rv_f5:List (RV×Option Ty):=[((.t 6),some .bool)]
abbrev sh_f5_0:Sh:=⟨[(0,.ty (.int .u8)),(1,.ty (.int .u8)),(2,.ty (.int .u8)),(7,.ty .str),(8,.ty .str),(9,.ty (.sl tyBlkT)),(10,.ty tI)],[]⟩
def st_f5_0 (x0:Int)(x1:Int)(x2:Int)(x7:ByteArray)(x8:ByteArray)(x9:(List BlkT))(x10:Int):VS:=sh_f5_0.st (x0,x1,x2,x7,x8,x9,x10,()) ()
abbrev sh_f5_0_e0:Sh:=⟨[(1,.ty (.int .u8)),(2,.ty (.int .u8)),(7,.ty .str),(8,.ty .str),(9,.ty (.sl tyBlkT))],[]⟩
def st_f5_0_e0 (x1:Int)(x2:Int)(x7:ByteArray)(x8:ByteArray)(x9:(List BlkT)):VS:=sh_f5_0_e0.st (x1,x2,x7,x8,x9,()) ()
-- loop 0: (x0 : Int) (x1 : Int) (x2 : Int) (x7 : ByteArray) (x8 : ByteArray) (x9 : (List BlkT)) (x10 : Int); out: ('exit', 0) (x1 : Int) (x2 : Int) (x7 : ByteArray) (x8 : ByteArray) (x9 : (List BlkT))
abbrev sh_f5_1:Sh:=⟨[(1,.ty (.int .u8)),(2,.ty (.int .u8)),(7,.ty .str),(8,.ty .str),(9,.ty (.sl tyBlkT)),(11,.ty .str),(12,.ptr 12 0),(13,.ty tI)],[(12,.bag [.ms 37,.ty .bool,.nl,.ty tI]),(37,.arr 9 .str),(51,.no),(21200,.no)]⟩
def st_f5_1 (x1:Int)(x2:Int)(x7:ByteArray)(x8:ByteArray)(x9:(List BlkT))(x11:ByteArray)(x13:Int)(y12_1:Bool)(y12_3:Int)(y37:(List ByteArray)):VS:=sh_f5_1.st (x1,x2,x7,x8,x9,x11,(),x13,()) (((),y12_1,(),y12_3,()),y37,(),(),())
abbrev sh_f5_1_e2:Sh:=⟨[(2,.ty (.int .u8)),(7,.ty .str),(8,.ty .str),(9,.ty (.sl tyBlkT)),(11,.ty .str),(12,.ptr 12 0)],[(12,.bag [.ms 37,.ty .bool,.nl,.ty tI]),(37,.arr 9 .str),(51,.no),(21200,.no)]⟩
def st_f5_1_e2 (x2:Int)(x7:ByteArray)(x8:ByteArray)(x9:(List BlkT))(x11:ByteArray)(y12_1:Bool)(y12_3:Int)(y37:(List ByteArray)):VS:=sh_f5_1_e2.st (x2,x7,x8,x9,x11,(),()) (((),y12_1,(),y12_3,()),y37,(),(),())
-- loop 1: (x1 : Int) (x2 : Int) (x7 : ByteArray) (x8 : ByteArray) (x9 : (List BlkT)) (x11 : ByteArray) (x13 : Int) (y12_1 : Bool) (y12_3 : Int) (y37 : (List ByteArray)); out: ('exit', 2) (x2 : Int) (x7 : ByteArray) (x8 : ByteArray) (x9 : (List BlkT)) (x11 : ByteArray) (y12_1 : Bool) (y12_3 : Int) (y37 : (List ByteArray))
abbrev sh_f5_2:Sh:=⟨[(2,.ty (.int .u8)),(7,.ty .str),(8,.ty .str),(9,.ty (.sl tyBlkT)),(11,.ty .str),(12,.ptr 12 0),(14,.ty .str),(15,.ms 15),(16,.ty tI)],[(12,.bag [.ms 37,.ty .bool,.nl,.ty tI]),(15,.arr 38 tyBlkT),(37,.arr 9 .str),(51,.no),(65,.no),(21200,.no)]⟩
def st_f5_2 (x2:Int)(x7:ByteArray)(x8:ByteArray)(x9:(List BlkT))(x11:ByteArray)(x14:ByteArray)(x16:Int)(y12_1:Bool)(y12_3:Int)(y15:(List BlkT))(y37:(List ByteArray)):VS:=sh_f5_2.st (x2,x7,x8,x9,x11,(),x14,(),x16,()) (((),y12_1,(),y12_3,()),y15,y37,(),(),(),())
abbrev sh_f5_2_e4:Sh:=⟨[(7,.ty .str),(8,.ty .str),(9,.ty (.sl tyBlkT)),(11,.ty .str),(12,.ptr 12 0),(14,.ty .str),(15,.ms 15)],[(12,.bag [.ms 37,.ty .bool,.nl,.ty tI]),(15,.arr 38 tyBlkT),(37,.arr 9 .str),(51,.no),(65,.no),(21200,.no)]⟩
def st_f5_2_e4 (x7:ByteArray)(x8:ByteArray)(x9:(List BlkT))(x11:ByteArray)(x14:ByteArray)(y12_1:Bool)(y12_3:Int)(y15:(List BlkT))(y37:(List ByteArray)):VS:=sh_f5_2_e4.st (x7,x8,x9,x11,(),x14,(),()) (((),y12_1,(),y12_3,()),y15,y37,(),(),(),())
-- loop 2: (x2 : Int) (x7 : ByteArray) (x8 : ByteArray) (x9 : (List BlkT)) (x11 : ByteArray) (x14 : ByteArray) (x16 : Int) (y12_1 : Bool) (y12_3 : Int) (y15 : (List BlkT)) (y37 : (List ByteArray)); out: ('exit', 4) (x7 : ByteArray) (x8 : ByteArray) (x9 : (List BlkT)) (x11 : ByteArray) (x14 : ByteArray) (y12_1 : Bool) (y12_3 : Int) (y15 : (List BlkT)) (y37 : (List ByteArray))
def L_f5_0:VS->Option (Bool×List (Bool×Exit×VS)):=mkL sh_f5_0 (fun x y=>(de0 x.1 x.2.2.2.2.2.2.1 x.2.2.2.1 x.2.2.2.2.1)) (fun x y=>[(true,.exit 0,st_f5_0_e0 (x.2.1) (x.2.2.1) ((dz0 (dpW x.1 20-x.2.2.2.2.2.2.1).toNat x.2.2.2.1 x.2.2.2.2.1 x.2.2.2.2.2.1).1) ((dz0 (dpW x.1 20-x.2.2.2.2.2.2.1).toNat x.2.2.2.1 x.2.2.2.2.1 x.2.2.2.2.2.1).2.1) ((dz0 (dpW x.1 20-x.2.2.2.2.2.2.1).toNat x.2.2.2.1 x.2.2.2.2.1 x.2.2.2.2.2.1).2.2))])
def L_f5_1:VS->Option (Bool×List (Bool×Exit×VS)):=mkL sh_f5_1 (fun x y=>(de1 x.1 x.2.2.2.2.2.2.2.1 x.2.2.2.2.2.1 y.2.1)) (fun x y=>[(true,.exit 2,st_f5_1_e2 (x.2.1) (x.2.2.1) (x.2.2.2.1) (x.2.2.2.2.1) ((dz1 (dpW x.1 70-x.2.2.2.2.2.2.2.1).toNat x.2.2.2.2.2.1 y.2.1).1) (y.1.2.1) (y.1.2.2.2.1) ((dz1 (dpW x.1 70-x.2.2.2.2.2.2.2.1).toNat x.2.2.2.2.2.1 y.2.1).2))])
def L_f5_2:VS->Option (Bool×List (Bool×Exit×VS)):=mkL sh_f5_2 (fun x y=>(de2 x.1 x.2.2.2.2.2.2.2.2.1 x.2.2.2.2.2.2.1 y.2.1)) (fun x y=>[(true,.exit 4,st_f5_2_e4 (x.2.1) (x.2.2.1) (x.2.2.2.1) (x.2.2.2.2.1) ((dz2 (x.1-x.2.2.2.2.2.2.2.2.1).toNat x.2.2.2.2.2.2.1 y.2.1).1) (y.1.2.1) (y.1.2.2.2.1) ((dz2 (x.1-x.2.2.2.2.2.2.2.2.1).toNat x.2.2.2.2.2.2.1 y.2.1).2) (y.2.2.1))])
def g_f5:G:=⟨TYs,[37,66,70],125,EL [(21,sp_f21),(23,sp_f23),(24,sp_f24),(25,sp_f25)],keeps,(Ls [L_f5_0,L_f5_1,L_f5_2]),IL [],RL []⟩
def b_f5_0 (x0:Int)(x1:Int)(x2:Int)(x7:ByteArray)(x8:ByteArray)(x9:(List BlkT))(x10:Int):Option (Exit×VS):=
 br (cNz 20)
  (br ((ilt x10 (irem (icv .i64 x0) 20)))
   (br (cCat x7 (ByteArray.mk #[97,123]))
    (br (cCat x8 (ByteArray.mk #[125]))
     (some (.normal,st_f5_0 x0 x1 x2 (scat x7 (ByteArray.mk #[97,123])) (scat x8 (ByteArray.mk #[125])) ([([(ByteArray.mk #[97])],(true,((List.map Blk.of x9),(0,()))))]) (iadd .i64 x10 1)))
     (none))
    (none))
   (some (.exit 0,st_f5_0_e0 x1 x2 x7 x8 x9)))
  (none)
noncomputable def lp_f5_0 (x0:Int)(x1:Int)(x2:Int)(x7:ByteArray)(x8:ByteArray)(x9:(List BlkT))(x10:Int):Option (Exit×VS):=loopF (roundF g_f5 fg_f5_0 tb_f5_0) (st_f5_0 x0 x1 x2 x7 x8 x9 x10)
noncomputable def n_f5_0 (x0:Int)(x1:Int)(x2:Int)(x7:ByteArray)(x8:ByteArray)(x9:(List BlkT))(x10:Int):Option (Exit×VS):=
 br (cNz 20)
  (br ((ilt x10 (irem (icv .i64 x0) 20)))
   (br (cCat x7 (ByteArray.mk #[97,123]))
    (br (cCat x8 (ByteArray.mk #[125]))
     (lp_f5_0 x0 x1 x2 (scat x7 (ByteArray.mk #[97,123])) (scat x8 (ByteArray.mk #[125])) ([([(ByteArray.mk #[97])],(true,((List.map Blk.of x9),(0,()))))]) (iadd .i64 x10 1))
     (none))
    (none))
   (some (.exit 0,st_f5_0_e0 x1 x2 x7 x8 x9)))
  (none)
def la_f5_0 (x0:Int)(x1:Int)(x2:Int)(x7:ByteArray)(x8:ByteArray)(x9:(List BlkT))(x10:Int):Option (Exit×VS):=some (.exit 0,st_f5_0_e0 (x1) (x2) ((dz0 (dpW x0 20-x10).toNat x7 x8 x9).1) ((dz0 (dpW x0 20-x10).toNat x7 x8 x9).2.1) ((dz0 (dpW x0 20-x10).toNat x7 x8 x9).2.2))
theorem be_f5_0 (x0:Int)(x1:Int)(x2:Int)(x7:ByteArray)(x8:ByteArray)(x9:(List BlkT))(x10:Int):roundF g_f5 fg_f5_0 tb_f5_0 (st_f5_0 x0 x1 x2 x7 x8 x9 x10)=b_f5_0 x0 x1 x2 x7 x8 x9 x10:=by kernel_rfl
theorem ln_f5_0 (x0:Int)(x1:Int)(x2:Int)(x7:ByteArray)(x8:ByteArray)(x9:(List BlkT))(x10:Int):lp_f5_0 x0 x1 x2 x7 x8 x9 x10=n_f5_0 x0 x1 x2 x7 x8 x9 x10:=(loopF_nxt _ _).trans (by
 rw [be_f5_0]
 simp only [b_f5_0,n_f5_0,nxt_br,nxt_n,nxt_r,nxt_e,nxt_0]
 rfl)
def b_f5_1 (x1:Int)(x2:Int)(x7:ByteArray)(x8:ByteArray)(x9:(List BlkT))(x11:ByteArray)(x13:Int)(y12_1:Bool)(y12_3:Int)(y37:(List ByteArray)):Option (Exit×VS):=
 br (cNz 70)
  (br ((ilt x13 (irem (icv .i64 x1) 70)))
   (br (cCat x11 (ByteArray.mk #[32,99]))
    (br (cApp y37 ([(ByteArray.mk #[99])]) 16)
     (some (.normal,st_f5_1 x1 x2 x7 x8 x9 (scat x11 (ByteArray.mk #[32,99])) (iadd .i64 x13 1) y12_1 y12_3 (y37++([(ByteArray.mk #[99])]))))
     (none))
    (none))
   (some (.exit 2,st_f5_1_e2 x2 x7 x8 x9 x11 y12_1 y12_3 y37)))
  (none)
noncomputable def lp_f5_1 (x1:Int)(x2:Int)(x7:ByteArray)(x8:ByteArray)(x9:(List BlkT))(x11:ByteArray)(x13:Int)(y12_1:Bool)(y12_3:Int)(y37:(List ByteArray)):Option (Exit×VS):=loopF (roundF g_f5 fg_f5_1 tb_f5_1) (st_f5_1 x1 x2 x7 x8 x9 x11 x13 y12_1 y12_3 y37)
noncomputable def n_f5_1 (x1:Int)(x2:Int)(x7:ByteArray)(x8:ByteArray)(x9:(List BlkT))(x11:ByteArray)(x13:Int)(y12_1:Bool)(y12_3:Int)(y37:(List ByteArray)):Option (Exit×VS):=
 br (cNz 70)
  (br ((ilt x13 (irem (icv .i64 x1) 70)))
   (br (cCat x11 (ByteArray.mk #[32,99]))
    (br (cApp y37 ([(ByteArray.mk #[99])]) 16)
     (lp_f5_1 x1 x2 x7 x8 x9 (scat x11 (ByteArray.mk #[32,99])) (iadd .i64 x13 1) y12_1 y12_3 (y37++([(ByteArray.mk #[99])])))
     (none))
    (none))
   (some (.exit 2,st_f5_1_e2 x2 x7 x8 x9 x11 y12_1 y12_3 y37)))
  (none)
def la_f5_1 (x1:Int)(x2:Int)(x7:ByteArray)(x8:ByteArray)(x9:(List BlkT))(x11:ByteArray)(x13:Int)(y12_1:Bool)(y12_3:Int)(y37:(List ByteArray)):Option (Exit×VS):=some (.exit 2,st_f5_1_e2 (x2) (x7) (x8) (x9) ((dz1 (dpW x1 70-x13).toNat x11 y37).1) (y12_1) (y12_3) ((dz1 (dpW x1 70-x13).toNat x11 y37).2))
theorem be_f5_1 (x1:Int)(x2:Int)(x7:ByteArray)(x8:ByteArray)(x9:(List BlkT))(x11:ByteArray)(x13:Int)(y12_1:Bool)(y12_3:Int)(y37:(List ByteArray)):roundF g_f5 fg_f5_1 tb_f5_1 (st_f5_1 x1 x2 x7 x8 x9 x11 x13 y12_1 y12_3 y37)=b_f5_1 x1 x2 x7 x8 x9 x11 x13 y12_1 y12_3 y37:=by kernel_rfl
theorem ln_f5_1 (x1:Int)(x2:Int)(x7:ByteArray)(x8:ByteArray)(x9:(List BlkT))(x11:ByteArray)(x13:Int)(y12_1:Bool)(y12_3:Int)(y37:(List ByteArray)):lp_f5_1 x1 x2 x7 x8 x9 x11 x13 y12_1 y12_3 y37=n_f5_1 x1 x2 x7 x8 x9 x11 x13 y12_1 y12_3 y37:=(loopF_nxt _ _).trans (by
 rw [be_f5_1]
 simp only [b_f5_1,n_f5_1,nxt_br,nxt_n,nxt_r,nxt_e,nxt_0]
 rfl)
def b_f5_2 (x2:Int)(x7:ByteArray)(x8:ByteArray)(x9:(List BlkT))(x11:ByteArray)(x14:ByteArray)(x16:Int)(y12_1:Bool)(y12_3:Int)(y15:(List BlkT))(y37:(List ByteArray)):Option (Exit×VS):=
 br ((ilt x16 (icv .i64 x2)))
  (br (cCat x14 (ByteArray.mk #[100,59,10]))
   (br (cApp y15 ([([(ByteArray.mk #[100])],(false,(([]:List Blk),(0,()))))]) 64)
    (some (.normal,st_f5_2 x2 x7 x8 x9 x11 (scat x14 (ByteArray.mk #[100,59,10])) (iadd .i64 x16 1) y12_1 y12_3 (y15++([([(ByteArray.mk #[100])],(false,(([]:List Blk),(0,()))))])) y37))
    (none))
   (none))
  (some (.exit 4,st_f5_2_e4 x7 x8 x9 x11 x14 y12_1 y12_3 y15 y37))
noncomputable def lp_f5_2 (x2:Int)(x7:ByteArray)(x8:ByteArray)(x9:(List BlkT))(x11:ByteArray)(x14:ByteArray)(x16:Int)(y12_1:Bool)(y12_3:Int)(y15:(List BlkT))(y37:(List ByteArray)):Option (Exit×VS):=loopF (roundF g_f5 fg_f5_2 tb_f5_2) (st_f5_2 x2 x7 x8 x9 x11 x14 x16 y12_1 y12_3 y15 y37)
noncomputable def n_f5_2 (x2:Int)(x7:ByteArray)(x8:ByteArray)(x9:(List BlkT))(x11:ByteArray)(x14:ByteArray)(x16:Int)(y12_1:Bool)(y12_3:Int)(y15:(List BlkT))(y37:(List ByteArray)):Option (Exit×VS):=
 br ((ilt x16 (icv .i64 x2)))
  (br (cCat x14 (ByteArray.mk #[100,59,10]))
   (br (cApp y15 ([([(ByteArray.mk #[100])],(false,(([]:List Blk),(0,()))))]) 64)
    (lp_f5_2 x2 x7 x8 x9 x11 (scat x14 (ByteArray.mk #[100,59,10])) (iadd .i64 x16 1) y12_1 y12_3 (y15++([([(ByteArray.mk #[100])],(false,(([]:List Blk),(0,()))))])) y37)
    (none))
   (none))
  (some (.exit 4,st_f5_2_e4 x7 x8 x9 x11 x14 y12_1 y12_3 y15 y37))
def la_f5_2 (x2:Int)(x7:ByteArray)(x8:ByteArray)(x9:(List BlkT))(x11:ByteArray)(x14:ByteArray)(x16:Int)(y12_1:Bool)(y12_3:Int)(y15:(List BlkT))(y37:(List ByteArray)):Option (Exit×VS):=some (.exit 4,st_f5_2_e4 (x7) (x8) (x9) (x11) ((dz2 (x2-x16).toNat x14 y15).1) (y12_1) (y12_3) ((dz2 (x2-x16).toNat x14 y15).2) (y37))
theorem be_f5_2 (x2:Int)(x7:ByteArray)(x8:ByteArray)(x9:(List BlkT))(x11:ByteArray)(x14:ByteArray)(x16:Int)(y12_1:Bool)(y12_3:Int)(y15:(List BlkT))(y37:(List ByteArray)):roundF g_f5 fg_f5_2 tb_f5_2 (st_f5_2 x2 x7 x8 x9 x11 x14 x16 y12_1 y12_3 y15 y37)=b_f5_2 x2 x7 x8 x9 x11 x14 x16 y12_1 y12_3 y15 y37:=by kernel_rfl
theorem ln_f5_2 (x2:Int)(x7:ByteArray)(x8:ByteArray)(x9:(List BlkT))(x11:ByteArray)(x14:ByteArray)(x16:Int)(y12_1:Bool)(y12_3:Int)(y15:(List BlkT))(y37:(List ByteArray)):lp_f5_2 x2 x7 x8 x9 x11 x14 x16 y12_1 y12_3 y15 y37=n_f5_2 x2 x7 x8 x9 x11 x14 x16 y12_1 y12_3 y15 y37:=(loopF_nxt _ _).trans (by
 rw [be_f5_2]
 simp only [b_f5_2,n_f5_2,nxt_br,nxt_n,nxt_r,nxt_e,nxt_0]
 rfl)
def r_f5_1 (p0:Int)(p1:Int)(p2:Int):Option (V×List VO):=
 br (cApp ([]:List BlkT) ((((dz0 (dpW p0 20-(0:Int)).toNat (ByteArray.mk #[]) (ByteArray.mk #[]) ([]:List BlkT)).2.2))) 64)
  (br (cApp (([]:List BlkT)++((((dz0 (dpW p0 20-(0:Int)).toNat (ByteArray.mk #[]) (ByteArray.mk #[]) ([]:List BlkT)).2.2)))) ([((((dz1 (dpW (p1) 70-(0:Int)).toNat (ByteArray.mk #[98]) ([(ByteArray.mk #[98])])).2)),(((false)),(([]:List Blk),((((0:Int))),()))))]) 64)
   (br (cApp ((([]:List BlkT)++((((dz0 (dpW p0 20-(0:Int)).toNat (ByteArray.mk #[]) (ByteArray.mk #[]) ([]:List BlkT)).2.2))))++([((((dz1 (dpW (p1) 70-(0:Int)).toNat (ByteArray.mk #[98]) ([(ByteArray.mk #[98])])).2)),(((false)),(([]:List Blk),((((0:Int))),()))))])) ((dz2 (((p2))-(0:Int)).toNat (ByteArray.mk #[]) ([]:List BlkT)).2) 64)
    (br ((pntOk (((([]:List BlkT)++((((dz0 (dpW p0 20-(0:Int)).toNat (ByteArray.mk #[]) (ByteArray.mk #[]) ([]:List BlkT)).2.2))))++([((((dz1 (dpW (p1) 70-(0:Int)).toNat (ByteArray.mk #[98]) ([(ByteArray.mk #[98])])).2)),(((false)),(([]:List Blk),((((0:Int))),()))))]))++((dz2 (((p2))-(0:Int)).toNat (ByteArray.mk #[]) ([]:List BlkT)).2))))
     (br ((pntOk (((([]:List BlkT)++((((dz0 (dpW p0 20-(0:Int)).toNat (ByteArray.mk #[]) (ByteArray.mk #[]) ([]:List BlkT)).2.2))))++([((((dz1 (dpW (p1) 70-(0:Int)).toNat (ByteArray.mk #[98]) ([(ByteArray.mk #[98])])).2)),(((false)),(([]:List Blk),((((0:Int))),()))))]))++((dz2 (((p2))-(0:Int)).toNat (ByteArray.mk #[]) ([]:List BlkT)).2))))
      (br ((ieq ((pntF (((([]:List BlkT)++((((dz0 (dpW p0 20-(0:Int)).toNat (ByteArray.mk #[]) (ByteArray.mk #[]) ([]:List BlkT)).2.2))))++([((((dz1 (dpW (p1) 70-(0:Int)).toNat (ByteArray.mk #[98]) ([(ByteArray.mk #[98])])).2)),(((false)),(([]:List Blk),((((0:Int))),()))))]))++((dz2 (((p2))-(0:Int)).toNat (ByteArray.mk #[]) ([]:List BlkT)).2))).2) ((pntF (((([]:List BlkT)++((((dz0 (dpW p0 20-(0:Int)).toNat (ByteArray.mk #[]) (ByteArray.mk #[]) ([]:List BlkT)).2.2))))++([((((dz1 (dpW (p1) 70-(0:Int)).toNat (ByteArray.mk #[98]) ([(ByteArray.mk #[98])])).2)),(((false)),(([]:List Blk),((((0:Int))),()))))]))++((dz2 (((p2))-(0:Int)).toNat (ByteArray.mk #[]) ([]:List BlkT)).2))).2)))
       (br ((seq ((pntF (((([]:List BlkT)++((((dz0 (dpW p0 20-(0:Int)).toNat (ByteArray.mk #[]) (ByteArray.mk #[]) ([]:List BlkT)).2.2))))++([((((dz1 (dpW (p1) 70-(0:Int)).toNat (ByteArray.mk #[98]) ([(ByteArray.mk #[98])])).2)),(((false)),(([]:List Blk),((((0:Int))),()))))]))++((dz2 (((p2))-(0:Int)).toNat (ByteArray.mk #[]) ([]:List BlkT)).2))).1) ((pntF (((([]:List BlkT)++((((dz0 (dpW p0 20-(0:Int)).toNat (ByteArray.mk #[]) (ByteArray.mk #[]) ([]:List BlkT)).2.2))))++([((((dz1 (dpW (p1) 70-(0:Int)).toNat (ByteArray.mk #[98]) ([(ByteArray.mk #[98])])).2)),(((false)),(([]:List Blk),((((0:Int))),()))))]))++((dz2 (((p2))-(0:Int)).toNat (ByteArray.mk #[]) ([]:List BlkT)).2))).1)))
        (br (cCat ((((dz0 (dpW p0 20-(0:Int)).toNat (ByteArray.mk #[]) (ByteArray.mk #[]) ([]:List BlkT)).1))) ((((dz0 (dpW p0 20-(0:Int)).toNat (ByteArray.mk #[]) (ByteArray.mk #[]) ([]:List BlkT)).2.1))))
         (br ((nameG (scat ((((dz0 (dpW p0 20-(0:Int)).toNat (ByteArray.mk #[]) (ByteArray.mk #[]) ([]:List BlkT)).1))) ((((dz0 (dpW p0 20-(0:Int)).toNat (ByteArray.mk #[]) (ByteArray.mk #[]) ([]:List BlkT)).2.1))))))
          (br ((ag7 (scat ((((dz0 (dpW p0 20-(0:Int)).toNat (ByteArray.mk #[]) (ByteArray.mk #[]) ([]:List BlkT)).1))) ((((dz0 (dpW p0 20-(0:Int)).toNat (ByteArray.mk #[]) (ByteArray.mk #[]) ([]:List BlkT)).2.1))))))
           (br (cCat ((((dz0 (dpW p0 20-(0:Int)).toNat (ByteArray.mk #[]) (ByteArray.mk #[]) ([]:List BlkT)).1))) (((dz1 (dpW (p1) 70-(0:Int)).toNat (ByteArray.mk #[98]) ([(ByteArray.mk #[98])])).1)))
            (br (cCat (scat ((((dz0 (dpW p0 20-(0:Int)).toNat (ByteArray.mk #[]) (ByteArray.mk #[]) ([]:List BlkT)).1))) (((dz1 (dpW (p1) 70-(0:Int)).toNat (ByteArray.mk #[98]) ([(ByteArray.mk #[98])])).1))) (ByteArray.mk #[59]))
             (br (cCat (scat (scat ((((dz0 (dpW p0 20-(0:Int)).toNat (ByteArray.mk #[]) (ByteArray.mk #[]) ([]:List BlkT)).1))) (((dz1 (dpW (p1) 70-(0:Int)).toNat (ByteArray.mk #[98]) ([(ByteArray.mk #[98])])).1))) (ByteArray.mk #[59])) ((((dz0 (dpW p0 20-(0:Int)).toNat (ByteArray.mk #[]) (ByteArray.mk #[]) ([]:List BlkT)).2.1))))
              (br ((nameG (scat (scat (scat ((((dz0 (dpW p0 20-(0:Int)).toNat (ByteArray.mk #[]) (ByteArray.mk #[]) ([]:List BlkT)).1))) (((dz1 (dpW (p1) 70-(0:Int)).toNat (ByteArray.mk #[98]) ([(ByteArray.mk #[98])])).1))) (ByteArray.mk #[59])) ((((dz0 (dpW p0 20-(0:Int)).toNat (ByteArray.mk #[]) (ByteArray.mk #[]) ([]:List BlkT)).2.1))))))
               (br ((ag7 (scat (scat (scat ((((dz0 (dpW p0 20-(0:Int)).toNat (ByteArray.mk #[]) (ByteArray.mk #[]) ([]:List BlkT)).1))) (((dz1 (dpW (p1) 70-(0:Int)).toNat (ByteArray.mk #[98]) ([(ByteArray.mk #[98])])).1))) (ByteArray.mk #[59])) ((((dz0 (dpW p0 20-(0:Int)).toNat (ByteArray.mk #[]) (ByteArray.mk #[]) ([]:List BlkT)).2.1))))))
                (br ((nameG ((dz2 (((p2))-(0:Int)).toNat (ByteArray.mk #[]) ([]:List BlkT)).1)))
                 (br ((ag7 ((dz2 (((p2))-(0:Int)).toNat (ByteArray.mk #[]) ([]:List BlkT)).1)))
                  (br ((nameG ((((dz0 (dpW p0 20-(0:Int)).toNat (ByteArray.mk #[]) (ByteArray.mk #[]) ([]:List BlkT)).1)))))
                   (br ((ag7 ((((dz0 (dpW p0 20-(0:Int)).toNat (ByteArray.mk #[]) (ByteArray.mk #[]) ([]:List BlkT)).1)))))
                    (br (cCat (((dz1 (dpW (p1) 70-(0:Int)).toNat (ByteArray.mk #[98]) ([(ByteArray.mk #[98])])).1)) (ByteArray.mk #[59,10]))
                     (br (cCat (scat (((dz1 (dpW (p1) 70-(0:Int)).toNat (ByteArray.mk #[98]) ([(ByteArray.mk #[98])])).1)) (ByteArray.mk #[59,10])) ((dz2 (((p2))-(0:Int)).toNat (ByteArray.mk #[]) ([]:List BlkT)).1))
                      (br ((nameG (scat (scat (((dz1 (dpW (p1) 70-(0:Int)).toNat (ByteArray.mk #[98]) ([(ByteArray.mk #[98])])).1)) (ByteArray.mk #[59,10])) ((dz2 (((p2))-(0:Int)).toNat (ByteArray.mk #[]) ([]:List BlkT)).1))))
                       (br ((ag7 (scat (scat (((dz1 (dpW (p1) 70-(0:Int)).toNat (ByteArray.mk #[98]) ([(ByteArray.mk #[98])])).1)) (ByteArray.mk #[59,10])) ((dz2 (((p2))-(0:Int)).toNat (ByteArray.mk #[]) ([]:List BlkT)).1))))
                        (some (.t .bool awk7,[]))
                        (some (.t .bool false,[])))
                       (none))
                      (none))
                     (none))
                    (some (.t .bool false,[])))
                   (none))
                  (some (.t .bool false,[])))
                 (none))
                (some (.t .bool false,[])))
               (none))
              (none))
             (none))
            (none))
           (some (.t .bool false,[])))
          (none))
         (none))
        (some (.t .bool false,[])))
       (some (.t .bool false,[])))
      (none))
     (none))
    (none))
   (none))
  (none)
def r_f5 (p0:Int)(p1:Int)(p2:Int):Option (V×List VO):=
 br ((de0 p0 (0:Int) (ByteArray.mk #[]) (ByteArray.mk #[])))
  (br ((de1 (p1) (0:Int) (ByteArray.mk #[98]) ([(ByteArray.mk #[98])])))
   (br ((de2 ((p2)) (0:Int) (ByteArray.mk #[]) ([]:List BlkT)))
    (frk
     (frk
      (r_f5_1 p0 p1 p2)
      (r_f5_1 p0 p1 p2))
     (r_f5_1 p0 p1 p2))
    (none))
   (none))
  (none)
theorem e_f5 (p0:Int)(p1:Int)(p2:Int):runF g_f5 tc_f5 rv_f5 false [.t (.int .u8) p0,.t (.int .u8) p1,.t (.int .u8) p2] []=r_f5 p0 p1 p2:=by kernel_rfl
theorem ok_f5:Option.map (trC Tryd.prog) Tryd.f5.body=some tc_f5.er:=by kernel_rfl
theorem rok_f5:trVs Tryd.prog Tryd.f5.results.toList=some (rv_f5.map Prod.fst):=by kernel_rfl
theorem gk_f5:GOk Tryd.prog g_f5:=gok_of _ (by
 intro p hp
 simp only [List.mem_cons,List.not_mem_nil,or_false] at hp
 rcases hp with rfl|rfl|rfl|rfl
 ·exact ⟨en_f21,ms_f21⟩
 ·exact ⟨en_f23,ms_f23⟩
 ·exact ⟨en_f24,ms_f24⟩
 ·exact ⟨en_f25,ms_f25⟩)
theorem l_f5_0 (x0:Int)(x1:Int)(x2:Int)(x7:ByteArray)(x8:ByteArray)(x9:(List BlkT))(x10:Int)(h:(de0 x0 x10 x7 x8)=true):lp_f5_0 x0 x1 x2 x7 x8 x9 x10=la_f5_0 x0 x1 x2 x7 x8 x9 x10:=by
 obtain ⟨h1,h2,h3,h4,h5,h6⟩:=cP_of h
 clear h
 obtain ⟨⟨r1,r2⟩,r3⟩:=dpW_rng (m:=20) ⟨h1,h2⟩ (by decide)
 have er:irem (icv .i64 x0) 20=dpW x0 20:=rfl
 generalize hj:(dpW x0 20-x10).toNat=j
 have key: ∀ (j:Nat) (x7 x8:ByteArray) (x9:List BlkT) (x10:Int),(dpW x0 20-x10).toNat=j->0<=x10->x10<=20->x7.size<=2*x10->x8.size<=x10->lp_f5_0 x0 x1 x2 x7 x8 x9 x10=la_f5_0 x0 x1 x2 x7 x8 x9 x10:=by
  intro j
  induction j with
  |zero=>
   intro x7 x8 x9 x10 hj g1 g2 g3 g4
   have e2:ilt x10 (dpW x0 20)=false:=decide_eq_false (by omega)
   rw [ln_f5_0]
   unfold n_f5_0 la_f5_0
   rw [er,e2,hj]
   rfl
  |succ j ih=>
   intro x7 x8 x9 x10 hj g1 g2 g3 g4
   have e2:ilt x10 (dpW x0 20)=true:=decide_eq_true (by omega)
   have q1:(ByteArray.mk #[97,123]).size=2:=rfl
   have q2:(ByteArray.mk #[125]).size=1:=rfl
   have ha:iadd .i64 x10 1=x10+1:=iadd_in (by omega)
   rw [ln_f5_0]
   unfold n_f5_0
   rw [er,e2,br_true]
   refine brY (by decide) (brY (decide_eq_true (by omega)) (brY (decide_eq_true (by omega)) ?_))
   rw [ha]
   refine (ih (scat x7 (ByteArray.mk #[97,123])) (scat x8 (ByteArray.mk #[125])) [dX x9] (x10+1) (by omega) (by omega) (by omega) (by rw [sct];omega) (by rw [sct];omega)).trans ?_
   unfold la_f5_0
   rw [hj,show (dpW x0 20-(x10+1)).toNat=j by omega]
   rfl
 exact key _ x7 x8 x9 x10 rfl h3 h4 h5 h6
theorem l_f5_1 (x1:Int)(x2:Int)(x7:ByteArray)(x8:ByteArray)(x9:(List BlkT))(x11:ByteArray)(x13:Int)(y12_1:Bool)(y12_3:Int)(y37:(List ByteArray))(h:(de1 x1 x13 x11 y37)=true):lp_f5_1 x1 x2 x7 x8 x9 x11 x13 y12_1 y12_3 y37=la_f5_1 x1 x2 x7 x8 x9 x11 x13 y12_1 y12_3 y37:=by
 obtain ⟨h1,h2,h3,h4,h5,h6⟩:=cP_of h
 clear h
 obtain ⟨⟨r1,r2⟩,r3⟩:=dpW_rng (m:=70) ⟨h1,h2⟩ (by decide)
 have er:irem (icv .i64 x1) 70=dpW x1 70:=rfl
 have key: ∀ (j:Nat) (x11:ByteArray) (y37:List ByteArray) (x13:Int),(dpW x1 70-x13).toNat=j->0<=x13->x13<=70->x11.size<=2*x13+10->y37.length<=x13+10->lp_f5_1 x1 x2 x7 x8 x9 x11 x13 y12_1 y12_3 y37=la_f5_1 x1 x2 x7 x8 x9 x11 x13 y12_1 y12_3 y37:=by
  intro j
  induction j with
  |zero=>
   intro x11 y37 x13 hj g1 g2 g3 g4
   have e2:ilt x13 (dpW x1 70)=false:=decide_eq_false (by omega)
   rw [ln_f5_1]
   unfold n_f5_1 la_f5_1
   rw [er,e2,hj]
   rfl
  |succ j ih=>
   intro x11 y37 x13 hj g1 g2 g3 g4
   have e2:ilt x13 (dpW x1 70)=true:=decide_eq_true (by omega)
   have q1:(ByteArray.mk #[32,99]).size=2:=rfl
   have ha:iadd .i64 x13 1=x13+1:=iadd_in (by omega)
   rw [ln_f5_1]
   unfold n_f5_1
   rw [er,e2,br_true]
   refine brY (by decide) (brY (decide_eq_true (by omega)) (brY (cAppN (by decide) (by rw [List.length_singleton];omega)) ?_))
   rw [ha]
   refine (ih (scat x11 (ByteArray.mk #[32,99])) (y37++[dwC]) (x13+1) (by omega) (by omega) (by omega) (by rw [sct];omega) (by rw [List.length_append,List.length_singleton];omega)).trans ?_
   unfold la_f5_1
   rw [hj,show (dpW x1 70-(x13+1)).toNat=j by omega]
   rfl
 exact key _ x11 y37 x13 rfl h3 h4 h5 h6
theorem l_f5_2 (x2:Int)(x7:ByteArray)(x8:ByteArray)(x9:(List BlkT))(x11:ByteArray)(x14:ByteArray)(x16:Int)(y12_1:Bool)(y12_3:Int)(y15:(List BlkT))(y37:(List ByteArray))(h:(de2 x2 x16 x14 y15)=true):lp_f5_2 x2 x7 x8 x9 x11 x14 x16 y12_1 y12_3 y15 y37=la_f5_2 x2 x7 x8 x9 x11 x14 x16 y12_1 y12_3 y15 y37:=by
 obtain ⟨h1,h2,h3,h4,h5,h6⟩:=cP_of h
 clear h
 have er:icv .i64 x2=x2:=icv_in (by omega)
 have key: ∀ (j:Nat) (x14:ByteArray) (y15:List BlkT) (x16:Int),(x2-x16).toNat=j->0<=x16->x16<=255->x14.size<=3*x16->y15.length<=x16->lp_f5_2 x2 x7 x8 x9 x11 x14 x16 y12_1 y12_3 y15 y37=la_f5_2 x2 x7 x8 x9 x11 x14 x16 y12_1 y12_3 y15 y37:=by
  intro j
  induction j with
  |zero=>
   intro x14 y15 x16 hj g1 g2 g3 g4
   have e2:ilt x16 x2=false:=decide_eq_false (by omega)
   rw [ln_f5_2]
   unfold n_f5_2 la_f5_2
   rw [er,e2,hj]
   rfl
  |succ j ih=>
   intro x14 y15 x16 hj g1 g2 g3 g4
   have e2:ilt x16 x2=true:=decide_eq_true (by omega)
   have q1:(ByteArray.mk #[100,59,10]).size=3:=rfl
   have ha:iadd .i64 x16 1=x16+1:=iadd_in (by omega)
   rw [ln_f5_2]
   unfold n_f5_2
   rw [er,e2,br_true]
   refine brY (decide_eq_true (by omega)) (brY (cAppN (by decide) (by rw [List.length_singleton];omega)) ?_)
   rw [ha]
   refine (ih (scat x14 (ByteArray.mk #[100,59,10])) (y15++[dD]) (x16+1) (by omega) (by omega) (by omega) (by rw [sct];omega) (by rw [List.length_append,List.length_singleton];omega)).trans ?_
   unfold la_f5_2
   rw [hj,show (x2-(x16+1)).toNat=j by omega]
   rfl
 exact key _ x14 y15 x16 rfl h3 h4 h5 h6
theorem lo_f5_0: ∀ S l p,g_f5.L 0 (fgt fg_f5_0 S)=some (true,l)->pickA l=some p->loopF (roundF g_f5 fg_f5_0 tb_f5_0) S=some p:=
 lok_of (s:=sh_f5_0) ⟨by decide,by decide⟩ (by kernel_rfl) fun x y hok p hp=>by
 simp only [pickA_br,pickA_one] at hp
 exact (l_f5_0 x.1 x.2.1 x.2.2.1 x.2.2.2.1 x.2.2.2.2.1 x.2.2.2.2.2.1 x.2.2.2.2.2.2.1 (by simpa using hok)).trans hp
theorem lo_f5_1: ∀ S l p,g_f5.L 1 (fgt fg_f5_1 S)=some (true,l)->pickA l=some p->loopF (roundF g_f5 fg_f5_1 tb_f5_1) S=some p:=
 lok_of (s:=sh_f5_1) ⟨by decide,by decide⟩ (by kernel_rfl) fun x y hok p hp=>by
 simp only [pickA_br,pickA_one] at hp
 exact (l_f5_1 x.1 x.2.1 x.2.2.1 x.2.2.2.1 x.2.2.2.2.1 x.2.2.2.2.2.1 x.2.2.2.2.2.2.2.1 y.1.2.1 y.1.2.2.2.1 y.2.1 (by simpa using hok)).trans hp
theorem lo_f5_2: ∀ S l p,g_f5.L 2 (fgt fg_f5_2 S)=some (true,l)->pickA l=some p->loopF (roundF g_f5 fg_f5_2 tb_f5_2) S=some p:=
 lok_of (s:=sh_f5_2) ⟨by decide,by decide⟩ (by kernel_rfl) fun x y hok p hp=>by
 simp only [pickA_br,pickA_one] at hp
 exact (l_f5_2 x.1 x.2.1 x.2.2.1 x.2.2.2.1 x.2.2.2.2.1 x.2.2.2.2.2.2.1 x.2.2.2.2.2.2.2.2.1 y.1.2.1 y.1.2.2.2.1 y.2.1 y.2.2.1 (by simpa using hok)).trans hp
theorem lk_f5:tc_f5.lok g_f5:=by
 repeat (first|exact trivial|exact lo_f5_0|exact lo_f5_1|exact lo_f5_2|refine ⟨?_, ?_⟩)
theorem nm_of {s:ByteArray}(h:s.size<=1000000):nameG s=true:=decide_eq_true (by omega)
set_option maxRecDepth 100000 in
theorem s_f5 (a b c:Int)(h:depOk a b c=true):r_f5 a b c=some (.t .bool (depT a b c),[]):=by
 obtain ⟨h1,h2,h3,h4,h5,h6⟩:=of_decide_eq_true h
 obtain ⟨⟨a1,a2⟩,_⟩:=dpW_rng (m:=20) ⟨h1,h2⟩ (by decide)
 obtain ⟨⟨b1,b2⟩,_⟩:=dpW_rng (m:=70) ⟨h3,h4⟩ (by decide)
 have e0:(ByteArray.mk #[]).size=0:=rfl
 have e1:(ByteArray.mk #[98]).size=1:=rfl
 simp only [r_f5,r_f5_1,frk_self,frk_self]
 refine brY (cP_in ⟨h1,h2,by decide,by decide,by decide,by decide⟩) (brY (cP_in ⟨h3,h4,by decide,by decide,by decide,by decide⟩) (brY (cP_in ⟨h5,h6,by decide,by decide,by decide,by decide⟩) ?_))
 obtain ⟨L1,L2,L3⟩:=dz0_ok (dpW a 20-0).toNat 0 (ByteArray.mk #[]) (ByteArray.mk #[]) [] ⟨Nat.zero_le _,rfl,fun n _=>Nat.zero_le _⟩
 obtain ⟨W1,W2,W3,W4⟩:=dz1_ok (dpW b 70-0).toNat (ByteArray.mk #[98]) (ByteArray.mk #[98]) []
 obtain ⟨M1,M2,M3,M4⟩:=dz2_ok (c-0).toNat (ByteArray.mk #[]) [] (by rw [List.length_nil];omega) rfl
 generalize dz0 (dpW a 20-0).toNat (ByteArray.mk #[]) (ByteArray.mk #[]) []=P at L1 L2 L3 ⊢
 generalize dz1 (dpW b 70-0).toNat (ByteArray.mk #[98]) [ByteArray.mk #[98]]=T at W1 W2 W3 W4 ⊢
 generalize dz2 (c-0).toNat (ByteArray.mk #[]) []=U at M1 M2 M3 M4 ⊢
 obtain ⟨s,e,l⟩:=P
 obtain ⟨t,w⟩:=T
 obtain ⟨u,m⟩:=U
 simp only at L1 L2 L3 W1 W2 W3 W4 M1 M2 M3 M4 ⊢
 rw [List.length_nil] at W2 M2
 have hll:=L1.len
 have hw4:(wdsL [ByteArray.mk #[98]]).length=1:=by kernel_rfl
 have hpk:pntOk ((([]++l)++[(w,(false,([],(0,()))))])++m)=true:=by
  refine Bool.and_eq_true_iff.2 ⟨cP_in ⟨25,okN_i ?_ (by omega)⟩,cP_in ?_⟩
  ·refine okB_app (M:=24) (okB_app (M:=24) ?_ ?_ ?_) ?_ ?_
   ·rw [List.nil_append]
    have:=okB_ups L1.ok (25-(0+(dpW a 20-0).toNat+1))
    rw [show 0+(dpW a 20-0).toNat+1+(25-(0+(dpW a 20-0).toNat+1))=25 by omega] at this
    exact this
   ·refine Bool.and_eq_true_iff.2 ⟨decide_eq_true (by show 1<=100000;omega), ?_⟩
    rw [List.all_cons,List.all_nil,Bool.and_true]
    exact Bool.and_eq_true_iff.2 ⟨decide_eq_true (by show w.length<=100000;omega),Bool.and_eq_true_iff.2 ⟨List.all_eq_true.2 (W3 (fun s hs=>by rw [List.mem_singleton.1 hs];rfl)),rfl⟩⟩
   ·rw [List.nil_append,List.length_singleton]
    omega
   ·exact okB_ups M3 23
   ·rw [List.length_append,List.nil_append,List.length_singleton]
    omega
  ·rw [List.nil_append,pnT_app,pnT_app,pnT_one,List.length_append,List.length_append,M4]
   have ht:=L1.txt 0 (by omega)
   have ho:(pnO (w,(false,([],(0,())))) 0).length=(wdsL w).length+2:=by
    unfold pnO
    show ((indL 0++wdsL w)++[59,10]).length=_
    rw [List.length_append,List.length_append,indL_len]
    simp
   have hp0:(pnT ([]:List BlkT) 0).length=0:=rfl
   rw [ho,W4,hw4,hp0]
   omega
 have q1:(ByteArray.mk #[59]).size=1:=rfl
 have q2:(ByteArray.mk #[59,10]).size=2:=rfl
 refine brY (cAppN (by decide) (by rw [List.length_nil];omega)) (brY (cAppN (by decide) (by rw [List.nil_append,List.length_singleton];omega)) (brY (cAppN (by decide) (by rw [List.nil_append,List.length_append,List.length_singleton];omega)) ?_))
 rw [hpk,br_true,br_true,ieq_s,br_true,seq_s,br_true]
 refine brY (decide_eq_true (by omega)) (brY (nm_of (by rw [sct];omega)) (brY rfl (brY (decide_eq_true (by omega)) (brY (decide_eq_true (by rw [sct];omega)) (brY (decide_eq_true (by rw [sct,sct];omega)) (brY (nm_of (by rw [sct,sct,sct];omega)) (brY rfl (brY (nm_of (by omega)) (brY rfl (brY (nm_of (by omega)) (brY rfl (brY (decide_eq_true (by omega)) (brY (decide_eq_true (by rw [sct];omega)) (brY (nm_of (by rw [sct,sct];omega)) (brY rfl ?_)))))))))))))))
 rfl
def sp_f5:Ent:=spec (.pr (.int .u8) (.pr (.int .u8) (.pr (.int .u8) .nil))) (fun x=>(depOk x.1 x.2.1 x.2.2.1)) (fun x=>(.t .bool (depT x.1 x.2.1 x.2.2.1)))
theorem ms_f5:Meets Tryd.prog 5 (strip sp_f5):=by
 obtain ⟨c,hc,hi⟩:=Option.map_eq_some_iff.1 ok_f5
 exact meets_spec (R:=runF g_f5 tc_f5 rv_f5 false) (meets_of (by decide) Tryd.func5 hc hi Tryd.ntmps5 rok_f5 gk_f5 lk_f5 mixed) fun x hok=>(e_f5 x.1 x.2.1 x.2.2.1).trans (s_f5 x.1 x.2.1 x.2.2.1 hok)
theorem okw_BlocksDeep (z0 z1 z2:Int)(w0:Ty.wf (.int .u8) z0)(w1:Ty.wf (.int .u8) z1)(w2:Ty.wf (.int .u8) z2):depOk z0 z1 z2=true:=decide_eq_true (by have:=wf_u8 w0;have:=wf_u8 w1;have:=wf_u8 w2;omega)
theorem walkBlocksDeep (z0:Int)(z1:Int)(z2:Int)(W:World)(v0:Value)(v1:Value)(v2:Value)(c0:C noX W (fun _=> .no) (V.t (.int .u8) z0).d v0)(c1:C noX W (fun _=> .no) (V.t (.int .u8) z1).d v1)(c2:C noX W (fun _=> .no) (V.t (.int .u8) z2).d v2)(w0:Ty.wf (.int .u8) z0)(w1:Ty.wf (.int .u8) z1)(w2:Ty.wf (.int .u8) z2):
  Calls Tryd.prog 5 #[v0,v1,v2] W fun r w'=>r= .returned (.bool true)/\Below W.heap.size W w':=
 calls_true (by decide) ms_f5 (args:=[.t (.int .u8) z0,.t (.int .u8) z1,.t (.int .u8) z2]) (strip_spec (x:=(z0,z1,z2,())) rfl (okw_BlocksDeep z0 z1 z2 w0 w1 w2)) (by simp only [V.ds,Cs];exact ⟨_,_,rfl,c0,_,_,rfl,c1,_,_,rfl,c2,rfl⟩)
end
end Go.Proofs.YtkkoedniahnneaaDoor.K
