import Derived.Test.YtckcgijklnloiaaGreatQ8
import Derived.RangeFuncCalls
import Derived.RangeFuncBound
import Derived.Shelf.RegionOpen
import Derived.OwnWalkIn
import Derived.TacticsInMore
import Derived.LoopNIn
import Derived.LoopIn
import Derived.Lib.SliceRun
set_option linter.unusedSimpArgs false
set_option linter.unusedVariables false
namespace Go.Proofs.YtckcgijklnloiaaGreat.K
open Go.RowKit
noncomputable section
def rowT (t:Talk)(v:Int)(l:List Int):List Keep:=(l.filter fun j=>possF t j).map fun j=>(v,(j,()))
theorem QIZ {t:Talk}{v x:Int}{r:List Int}:rowT t v (x::r)=if possF t x=true then (v,(x,()))::rowT t v r else rowT t v r:=by
 unfold rowT
 rw [List.filter_cons]
 split <;> rfl
theorem QPa (t:Talk)(v:Int)(l:List Int):(rowT t v l).length≤l.length:=by
 unfold rowT
 rw [List.length_map]
 exact List.length_filter_le _ _
def verS (s:Endpoint)(o l:List Int)(v n:Nat):List Keep:=(List.range' v n).flatMap fun (j:Nat)=>rowT (s,((j:Int),(o,()))) (j:Int) l
theorem QUF {s:Endpoint}{o:List Int}{v n:Nat}(h:suitF o=true):verS s o (sortI o) v n=verC s o v n:=by
 unfold verS verC
 congr 1
 funext j
 exact QUU h
def Qk8:Fg:=⟨[(2,none),(3,none),(5,none),(6,none),(7,some tI),(8,none),(38,none),(39,some tI),(40,some tI)],[(2,some Qad),(3,some Qad),(5,none),(8,some Qfe),(18,none),(52,none),(5018,none),(10018,none),(15018,none)]⟩
noncomputable def Qm3:TC:=(.sq (.reg (rT Tryz.f54 9)) (.sq (.cd (.t 41) .sk (.fg ⟨[(2,none),(3,none),(5,none),(6,none),(7,some tI)],[(2,some Qad),(3,some Qad),(5,none),(18,none),(52,none),(5018,none),(10018,none),(15018,none)]⟩ (.ex 2))) (.sq (.bk 3 (.sq (.reg (rT Tryz.f54 10)) (.sq (.reg (rT Tryz.f54 11)) (.cd (.t 46) (.reg (rT Tryz.f54 12)) .sk)))) (.reg (rT Tryz.f54 13)))))
def Qk7:Fg:=⟨[(2,none),(3,none),(5,none),(6,none),(7,some tI)],[(2,some Qad),(3,some Qad),(5,none),(18,none),(52,none),(5018,none),(10018,none),(15018,none)]⟩
noncomputable def Qm2:TC:=(.sq (.sq (.reg (rT Tryz.f54 6)) (.cd (.t 30) .sk (.fg ⟨[(5,none)],[(5,none),(52,none)]⟩ (.ex 0)))) (.sq (.bk 1 (.sq (.reg (rT Tryz.f54 7)) (.sq (.reg (rT Tryz.f54 8)) (.bk 2 (.nw 5 39 (.lp 0 Qk8 Qm3)))))) (.reg (rT Tryz.f54 14))))
noncomputable def QFM:TC:=(.sq (.reg (rT Tryz.f54 0)) (.sq (.sq (.reg (rT Tryz.f54 1)) (.cd (.t 14) (.sq (.reg (rT Tryz.f54 2)) .rt) .sk)) (.sq (.reg (rT Tryz.f54 3)) (.sq (.reg (rT Tryz.f54 4)) (.sq (.sq (.reg (rT Tryz.f54 5)) (.bk 0 (.nw 5 39 (.lp 1 Qk7 Qm2)))) (.sq (.reg (rT Tryz.f54 15)) .rt))))))
def QTp:List (RV×Option Ty):=[((.t 4),some (.sl Qah))]
abbrev Qs8:Sh:=⟨[(2, .ptr 2 0),(3, .ptr 3 0),(5, .ms 5),(6, .ms 18),(7, .ty tI),(8, .ptr 8 0),(38, .ms 18),(39, .ty tI),(40, .ty tI)],[(2, .box Qad),(3, .box Qad),(5, .arr 39 Qah),(8, .box Qfe),(18, .arr 3 tI),(52, .no),(5018, .no),(10018, .no),(15018, .no)]⟩
def Qnh (x7 x39 x40:Int)(y2 y3:Endpoint)(y5:List Keep)(y8:Talk)(y18:List Int):VS:=Qs8.st ((),(),(),(),x7,(),(),x39,x40,()) (y2,y3,y5,y8,y18,(),(),(),(),())
abbrev Qzd:Sh:=⟨[(2, .ptr 2 0),(3, .ptr 3 0),(5, .ms 5),(6, .ms 18),(7, .ty tI)],[(2, .box Qad),(3, .box Qad),(5, .arr 39 Qah),(18, .arr 3 tI),(52, .no),(5018, .no),(10018, .no),(15018, .no)]⟩
def Qfx (x7:Int)(y2 y3:Endpoint)(y5:List Keep)(y18:List Int):VS:=Qzd.st ((),(),(),(),x7,()) (y2,y3,y5,y18,(),(),(),(),())
abbrev Qs7:Sh:=⟨[(2, .ptr 2 0),(3, .ptr 3 0),(5, .ms 5),(6, .ms 18),(7, .ty tI)],[(2, .box Qad),(3, .box Qad),(5, .arr 39 Qah),(18, .arr 3 tI),(52, .no),(5018, .no),(10018, .no),(15018, .no)]⟩
def QsK (x7:Int)(y2 y3:Endpoint)(y5:List Keep)(y18:List Int):VS:=Qs7.st ((),(),(),(),x7,()) (y2,y3,y5,y18,(),(),(),(),())
abbrev Qzc:Sh:=⟨[(5, .ms 5)],[(5, .arr 39 Qah),(52, .no)]⟩
def Qfw (y5:List Keep):VS:=Qzc.st ((),()) (y5,(),())
def Q0I:VS→Option (Bool×List (Bool×Exit×VS)):=mkL Qs8 (fun x y=>(decide (x.2.2.2.2.2.2.2.1=(y.2.2.2.2.1.length:Int)∧0≤x.2.2.2.2.2.2.2.2.1∧x.2.2.2.2.2.2.2.2.1≤x.2.2.2.2.2.2.2.1∧y.2.2.2.2.1.length≤16∧(y.2.2.1.length:Int)≤200+x.2.2.2.2.2.2.2.2.1)&&QeJ y.2.2.2.1 0)) (fun x y=>[(true, .exit 2,Qfx (x.2.2.2.2.1) (y.1) (y.2.1) (y.2.2.1++rowT y.2.2.2.1 x.2.2.2.2.1 (y.2.2.2.2.1.drop x.2.2.2.2.2.2.2.2.1.toNat)) (y.2.2.2.2.1))])
def Q0H:VS→Option (Bool×List (Bool×Exit×VS)):=mkL Qs7 (fun x y=>(decide (1≤x.2.2.2.2.1∧x.2.2.2.2.1≤5∧hiC y.1 y.2.1≤4∧(y.2.2.1.length:Int)≤16 * x.2.2.2.2.1∧y.2.2.2.1.length≤16)&&lenEE y.2.1 (QaJ y.1))) (fun x y=>[(true, .exit 0,Qfw (y.2.2.1++verS y.2.1 (QaJ y.1) y.2.2.2.1 x.2.2.2.2.1.toNat (hiC y.1 y.2.1+1 - x.2.2.2.2.1).toNat))])
def g_f54:G:=⟨TYs,[],55,EL [(82,QA9),(88,Qr1),(89,QSH),(90,QGf)],keeps,(Ls [Q0I,Q0H]),IL [],RL []⟩
def QOl (x7 x39 x40:Int)(y2 y3:Endpoint)(y5:List Keep)(y8:Talk)(y18:List Int):Option (Exit×VS):=
 let a1:=lgt tI y18 (Int.toNat x40)
 br (ilt x40 x39) (br (cIx y18 x40) (br (cLd y18 (Int.toNat x40)) (br (QeJ y8 a1) (br (possF y8 a1) (br (cApp y5 ([(x7,(a1,()))]) 16) (some (.normal,Qnh x7 x39 (iadd .i64 x40 1) y2 y3 (y5++([(x7,(a1,()))])) y8 y18)) none) (some (.normal,Qnh x7 x39 (iadd .i64 x40 1) y2 y3 y5 y8 y18))) none) none) none) (some (.exit 2,Qfx x7 y2 y3 y5 y18))
noncomputable def QhY (x7 x39 x40:Int)(y2 y3:Endpoint)(y5:List Keep)(y8:Talk)(y18:List Int):Option (Exit×VS):=loopF (Qai g_f54 Qk8 Qm3) (Qnh x7 x39 x40 y2 y3 y5 y8 y18)
noncomputable def Qt6 (x7 x39 x40:Int)(y2 y3:Endpoint)(y5:List Keep)(y8:Talk)(y18:List Int):Option (Exit×VS):=
 let a1:=lgt tI y18 (Int.toNat x40)
 br (ilt x40 x39) (br (cIx y18 x40) (br (cLd y18 (Int.toNat x40)) (br (QeJ y8 a1) (br (possF y8 a1) (br (cApp y5 ([(x7,(a1,()))]) 16) (QhY x7 x39 (iadd .i64 x40 1) y2 y3 (y5++([(x7,(a1,()))])) y8 y18) none) (QhY x7 x39 (iadd .i64 x40 1) y2 y3 y5 y8 y18)) none) none) none) (some (.exit 2,Qfx x7 y2 y3 y5 y18))
def Qkt (x7 x39 x40:Int)(y2 y3:Endpoint)(y5:List Keep)(y8:Talk)(y18:List Int):Option (Exit×VS):=some (.exit 2,Qfx (x7) (y2) (y3) (y5++rowT y8 x7 (y18.drop x40.toNat)) (y18))
theorem QRL (x7 x39 x40:Int)(y2 y3:Endpoint)(y5:List Keep)(y8:Talk)(y18:List Int):Qai g_f54 Qk8 Qm3 (Qnh x7 x39 x40 y2 y3 y5 y8 y18)=QOl x7 x39 x40 y2 y3 y5 y8 y18:=by kernel_rfl
theorem QBM (x7 x39 x40:Int)(y2 y3:Endpoint)(y5:List Keep)(y8:Talk)(y18:List Int):QhY x7 x39 x40 y2 y3 y5 y8 y18=Qt6 x7 x39 x40 y2 y3 y5 y8 y18:=(Qan _ _).trans (by
 rw [QRL]
 simp only [QOl,Qt6,QaA,nxt_n,nxt_r,nxt_e,nxt_0]
 rfl)
def QOk (x7:Int)(y2 y3:Endpoint)(y5:List Keep)(y18:List Int):Option (Exit×VS):=
 let a1:=((y3.1,(y3.2.1,(y3.2.2.1,(y3.2.2.2.1,(y3.2.2.2.2.1,(y3.2.2.2.2.2.1,(y3.2.2.2.2.2.2.1,(y3.2.2.2.2.2.2.2.1,(y3.2.2.2.2.2.2.2.2.1,()))))))))),(x7,(y2.2.2.2.1,())))
 br (ile x7 (imn y2.2.2.1 y3.2.2.1)) (br (decide ((llen y18)=(y18.length:Int)∧0≤(0:Int)∧(0:Int)≤(llen y18)∧y18.length≤16∧(y5.length:Int)≤200+(0:Int))&&QeJ a1 0) (some (.normal,QsK (iadd .i64 (x7) 1) (y2) (y3) (y5++rowT a1 x7 (y18.drop (0:Int).toNat)) (y18))) none) (some (.exit 0,Qfw y5))
noncomputable def QnS (x7:Int)(y2 y3:Endpoint)(y5:List Keep)(y18:List Int):Option (Exit×VS):=loopF (Qai g_f54 Qk7 Qm2) (QsK x7 y2 y3 y5 y18)
noncomputable def Qqm (x7:Int)(y2 y3:Endpoint)(y5:List Keep)(y18:List Int):Option (Exit×VS):=
 let a1:=((y3.1,(y3.2.1,(y3.2.2.1,(y3.2.2.2.1,(y3.2.2.2.2.1,(y3.2.2.2.2.2.1,(y3.2.2.2.2.2.2.1,(y3.2.2.2.2.2.2.2.1,(y3.2.2.2.2.2.2.2.2.1,()))))))))),(x7,(y2.2.2.2.1,())))
 br (ile x7 (imn y2.2.2.1 y3.2.2.1)) (br (decide ((llen y18)=(y18.length:Int)∧0≤(0:Int)∧(0:Int)≤(llen y18)∧y18.length≤16∧(y5.length:Int)≤200+(0:Int))&&QeJ a1 0) (QnS (iadd .i64 (x7) 1) (y2) (y3) (y5++rowT a1 x7 (y18.drop (0:Int).toNat)) (y18)) none) (some (.exit 0,Qfw y5))
def Qks (x7:Int)(y2 y3:Endpoint)(y5:List Keep)(y18:List Int):Option (Exit×VS):=some (.exit 0,Qfw (y5++verS y3 (QaJ y2) y18 x7.toNat (hiC y2 y3+1 - x7).toNat))
theorem QRK (x7:Int)(y2 y3:Endpoint)(y5:List Keep)(y18:List Int):Qai g_f54 Qk7 Qm2 (QsK x7 y2 y3 y5 y18)=QOk x7 y2 y3 y5 y18:=by kernel_rfl
theorem QBL (x7:Int)(y2 y3:Endpoint)(y5:List Keep)(y18:List Int):QnS x7 y2 y3 y5 y18=Qqm x7 y2 y3 y5 y18:=(Qan _ _).trans (by
 rw [QRK]
 simp only [QOk,Qqm,QaA,nxt_n,nxt_r,nxt_e,nxt_0]
 rfl)
def r_f54 (p0 p1:Endpoint):Option (V×List VO):=
 let a1:=imx p0.2.1 p1.2.1
 br (QbX p0 p1) (br (!(Qgi p0 p1)) (some (.t (.sl Qah) ([]:List Keep),[])) (br (Qgk p0.2.2.2.1) (br (decide (1≤a1∧a1≤5∧hiC p0 p1≤4∧(([]:List Keep).length:Int)≤16 * a1∧(sortL p0.2.2.2.1).length≤16)&&lenEE p1 (QaJ p0)) (some (.t (.sl Qah) (([]:List Keep)++verS p1 (QaJ p0) (sortL p0.2.2.2.1) a1.toNat (hiC p0 p1+1 - a1).toNat),[])) none) none)) none
theorem e_f54 (p0 p1:Endpoint):runF g_f54 QFM QTp false [.t Qad p0, .t Qad p1] []=r_f54 p0 p1:=by kernel_rfl
theorem en_f54:Qag Tryz.prog 54:= .inr ⟨by decide,_,Tryz.func54,by kernel_rfl,by kernel_rfl⟩
theorem gk_f54:GOk Tryz.prog g_f54:=Qak _ (gA (gC QMu QKy (gC QEL QEk (gC en_f89 ms_f89 (gC QUp QT6 gN)))))
theorem QXL (x7 x39 x40:Int)(y2 y3:Endpoint)(y5:List Keep)(y8:Talk)(y18:List Int)(h:(decide (x39=(y18.length:Int)∧0≤x40∧x40≤x39∧y18.length≤16∧(y5.length:Int)≤200+x40)&&QeJ y8 0)=true):QhY x7 x39 x40 y2 y3 y5 y8 y18=Qkt x7 x39 x40 y2 y3 y5 y8 y18:=by
 obtain ⟨h,hc⟩:=Bool.and_eq_true_iff.1 h
 obtain ⟨rfl,h1,h2,h3,h4⟩:=of_decide_eq_true h
 clear h
 obtain ⟨k,rfl⟩:=Int.eq_ofNat_of_zero_le h1
 have key: ∀ k,k≤y18.length→ ∀ y5:List Keep,y5.length≤200+k→QhY x7 (y18.length:Int) (k:Int) y2 y3 y5 y8 y18=Qkt x7 (y18.length:Int) (k:Int) y2 y3 y5 y8 y18:=by
  refine Qat y18 (fun k=> ∀ y5:List Keep,y5.length≤200+k→QhY x7 (y18.length:Int) (k:Int) y2 y3 y5 y8 y18=Qkt x7 (y18.length:Int) (k:Int) y2 y3 y5 y8 y18) ?_ ?_
  ·intro y5 _
   rw [QBM]
   simp only [Qt6,Qkt,Qar,Nat.lt_irrefl,decide_false,Qae,Int.toNat_natCast,List.drop_length,rowT,List.filter_nil,List.map_nil,List.append_nil]
  ·intro k hk ih y5 hy
   rw [QBM]
   have c1:cLd y18 k=true:=decide_eq_true (by omega)
   have c2: ∀ v,QeJ y8 v=true:=fun v=>hc
   have c3: ∀ v:Keep,cApp y5 [v] 16=true:=fun v=>cAppN (by omega) (by simp only [List.length_singleton]; omega)
   simp only [Qt6,Qar,Qax,hk,decide_true,Qab,Int.toNat_natCast,add1 (show k<4611686018427387904 by omega),QaC (y:=tI) hk,c1,c2,c3]
   rw [ih y5 (by omega),ih (y5++[(x7,(y18[k],()))]) (by simp only [List.length_append,List.length_singleton]; omega)]
   simp only [Qkt,Int.toNat_natCast,List.drop_eq_getElem_cons hk,QIZ]
   cases possF y8 y18[k] with
   | true=>simp only [Qab,if_true,List.append_assoc,List.singleton_append]
   | false=>simp only [Qae,Bool.false_eq_true,if_false]
 exact key k (by omega) y5 (by omega)
theorem QXK (x7:Int)(y2 y3:Endpoint)(y5:List Keep)(y18:List Int)(h:(decide (1≤x7∧x7≤5∧hiC y2 y3≤4∧(y5.length:Int)≤16 * x7∧y18.length≤16)&&lenEE y3 (QaJ y2))=true):QnS x7 y2 y3 y5 y18=Qks x7 y2 y3 y5 y18:=by
 obtain ⟨h,hc⟩:=Bool.and_eq_true_iff.1 h
 obtain ⟨h0,h1,h2,h3,h4⟩:=of_decide_eq_true h
 clear h
 obtain ⟨k,rfl⟩:=Int.eq_ofNat_of_zero_le (show 0≤x7 by omega)
 have key: ∀ (m k:Nat) (y5:List Keep),m=5 - k→1≤k→k≤5→y5.length≤16 * k→QnS (k:Int) y2 y3 y5 y18=Qks (k:Int) y2 y3 y5 y18:=by
  intro m
  induction m with
  | zero=>
   intro k y5 hm h0 h1 h3
   have:k=5:=by omega
   subst this
   rw [QBL]
   have e:(hiC y2 y3+1 - ((5:Nat):Int)).toNat=0:=by omega
   simp only [Qqm,Qks,show ile ((5:Nat):Int) (imn y2.2.2.1 y3.2.2.1)=false from decide_eq_false (by show ¬ _≤hiC y2 y3; omega),Qae,e,verS,List.range'_zero,List.flatMap_nil,List.append_nil]
  | succ m ih=>
   intro k y5 hm h0 h1 h3
   rw [QBL]
   by_cases hk:(k:Int)≤hiC y2 y3
   ·have e1:(hiC y2 y3+1 - (k:Int)).toNat=(hiC y2 y3+1 - ((k+1:Nat):Int)).toNat+1:=by omega
    have c0:(decide (True∧(0:Int)≤0∧(0:Int)≤llen y18∧y18.length≤16∧(y5.length:Int)≤200+0)&&QeJ (y3,((k:Int),(QaJ y2,()))) 0)=true:=Bool.and_eq_true_iff.2 ⟨decide_eq_true ⟨trivial,by simp only [llen]; omega⟩,hc⟩
    have hr:=QPa (y3,((k:Int),(QaJ y2,()))) (k:Int) y18
    have hi:=ih (k+1) (y5++rowT (y3,((k:Int),(QaJ y2,()))) (k:Int) y18) (by omega) (by omega) (by omega) (by simp only [List.length_append]; omega)
    simp only [Qqm,show ile (k:Int) (imn y2.2.2.1 y3.2.2.1)=true from decide_eq_true hk,Qab,add1 (show k<4611686018427387904 by omega),eEta]
    refine Eq.trans (congrArg (fun b=>br b _ _) c0) ?_
    rw [Qab]
    refine Eq.trans hi ?_
    simp only [Qks,Int.toNat_natCast,e1,verS,List.range'_succ,List.flatMap_cons,List.append_assoc]
   ·have e1:(hiC y2 y3+1 - (k:Int)).toNat=0:=by omega
    simp only [Qqm,show ile (k:Int) (imn y2.2.2.1 y3.2.2.1)=false from decide_eq_false hk,Qae,Qks,e1,verS,List.range'_zero,List.flatMap_nil,List.append_nil]
 exact key (5 - k) k y5 rfl (by omega) (by omega) (by omega)
theorem QPI: ∀ S l p,g_f54.L 0 (fgt Qk8 S)=some (true,l)→pickA l=some p→loopF (Qai g_f54 Qk8 Qm3) S=some p:=
 QaB (s:=Qs8) ⟨by decide,by decide⟩ (by kernel_rfl) fun x y hok p hp=>by
 simp only [Qap,Qam] at hp
 exact (QXL x.2.2.2.2.1 x.2.2.2.2.2.2.2.1 x.2.2.2.2.2.2.2.2.1 y.1 y.2.1 y.2.2.1 y.2.2.2.1 y.2.2.2.2.1 (by simpa using hok)).trans hp
theorem QPH: ∀ S l p,g_f54.L 1 (fgt Qk7 S)=some (true,l)→pickA l=some p→loopF (Qai g_f54 Qk7 Qm2) S=some p:=
 QaB (s:=Qs7) ⟨by decide,by decide⟩ (by kernel_rfl) fun x y hok p hp=>by
 simp only [Qap,Qam] at hp
 exact (QXK x.2.2.2.2.1 y.1 y.2.1 y.2.2.1 y.2.2.2.1 (by simpa using hok)).trans hp
theorem lk_f54:QFM.lok g_f54:=by
 repeat (first | exact trivial | exact QPI | exact QPH | refine ⟨?_, ?_⟩)
theorem s_f54 (c s:Endpoint)(h:QbX c s=true):r_f54 c s=some (.t (.sl Qah) (Qdc c s),[]):=by
 obtain ⟨hc,hs⟩:=Bool.and_eq_true_iff.1 h
 have hs':=Qd1 hs
 have hc':=Qd1 hc
 have c1:Qgk (QaJ c)=true:=decide_eq_true hc'.2.1
 simp only [r_f54,h,c1,Qab]
 unfold Qdc
 cases hr:Qgi c s with
 | false=>rfl
 | true=>
  obtain ⟨hv,hw⟩:=Bool.and_eq_true_iff.1 hr
  have v1:=QhF hv
  have v2:=QhF hw
  have hsu:=QDU hv
  have b1:1≤loC c s∧loC c s≤4:=by simp only [loC,imx]; omega
  have b2:hiC c s≤4:=by simp only [hiC,imn]; omega
  have b3:(sortL (QaJ c)).length≤16:=by
   show (sortI (QaJ c)).length≤16
   rw [show (sortI (QaJ c)).length=(QaJ c).length from List.length_mergeSort _]
   exact QOP hsu
  have c0:(decide (1≤loC c s∧loC c s≤5∧hiC c s≤4∧(([]:List Keep).length:Int)≤16 * loC c s∧(sortL (QaJ c)).length≤16)&&lenEE s (QaJ c))=true:=Bool.and_eq_true_iff.2 ⟨decide_eq_true ⟨b1.1,by omega,b2,by simp only [List.length_nil]; omega,b3⟩,decide_eq_true ⟨hs'.2.2.1,hs'.2.1,hc'.2.1⟩⟩
  rw [Bool.not_true,Qae,cond_false]
  refine Eq.trans (congrArg (fun b=>br b _ _) c0) ?_
  rw [Qab, ← QUF hsu]
  rfl
def QSO:Ent:=spec (.pr Qad (.pr Qad .nil)) (fun x=>(QbX x.1 x.2.1)) (fun x=>(.t (.sl Qah) (Qdc x.1 x.2.1)))
theorem ms_f54:Meets Tryz.prog 54 (strip QSO):=Qaf (R:=runF g_f54 QFM QTp false) (mG Tryz.func54 (by kernel_rfl) Tryz.ntmps54 (by kernel_rfl) gk_f54 lk_f54) fun x hok=>(e_f54 x.1 x.2.1).trans (s_f54 x.1 x.2.1 hok)
end
end Go.Proofs.YtckcgijklnloiaaGreat.K
namespace Go.Proofs.YtckcgijklnloiaaGreat.K
open Go.RowKit
noncomputable section
end
end Go.Proofs.YtckcgijklnloiaaGreat.K
namespace Go.Proofs.YtckcgijklnloiaaGreat.K
open Go.RowKit
noncomputable section
theorem Qru {d:Dice}{i s:ByteArray}{k:Keep}{id g:Int}{a:Bool}(hi:i.size≤1000)(hs:s.size≤1000):QaG (cerV d i s k id g a)=true:=by
 unfold cerV signC
 cases Qpb (cRaw d i s k id a) g with
 | true=>rfl
 | false=>
  rw [cond_false]
  have:QaG (cRaw d i s k id a)=true:=by
   refine QiZ hi hs ?_ ?_
   ·unfold cNm
    cases done (cD5 d a) 3 <;> simp
   ·intro t ht
    unfold cNm at ht
    cases hd:done (cD5 d a) 3 with
    | true=>
     rw [hd] at ht
     simp only [cond_true,List.mem_cons,List.not_mem_nil,or_false] at ht
     rcases ht with rfl | rfl
     ·omega
     ·rw [QvY]; show s.size+1≤_; omega
    | false=>
     rw [hd] at ht
     simp only [cond_false,List.mem_cons,List.not_mem_nil,or_false] at ht
     subst ht
     omega
  exact this
theorem Qxt: ∀ (m i:Nat) (u:Up),u.2.2.1.size≤1000→u.1.all QaG=true→(abvZ m i u).1.all QaG=true∧(abvZ m i u).2.2.1.size≤1000
 | 0,_,u,h,h2=>⟨h2,h⟩
 | m+1,i,(ab,d,iss,g),h,h2=>by
  have hs:=QsG i
  refine Qxt m (i+1) _ (show (sSubs.getD i ByteArray.empty).size≤1000 by omega) ?_
  rw [List.all_cons,Qru h (by omega)]
  exact h2
theorem QNs {d:Dice}{nm:ByteArray}{k:Keep}{id:Int}(hn:nm.size≤1000)(hd:dOk d=true):QaZ (chnV d nm k id)=true:=by
 have hu0:upOk ([],dnext (dofN d [1,0,2]) 2,sRoot,1+dval (dofN d [1,0,2]) 2)=true:=Bool.and_eq_true_iff.2 ⟨Qal (n:=2) (QaY (l:=[1,0,2]) hd),rfl⟩
 have hm:=Qbo (d:=d) (l:=[1,0,2]) (by decide)
 simp only [List.mem_cons,List.not_mem_nil,or_false] at hm
 obtain ⟨h1,h2⟩:=Qxt (dof d [1,0,2]).toNat 0 ([],dnext (dofN d [1,0,2]) 2,sRoot,1+dval (dofN d [1,0,2]) 2) (show sRoot.size≤1000 by decide) rfl
 have hl:=(Qxs (dof d [1,0,2]).toNat 0 _ hu0).2
 simp only [List.length_nil] at hl
 have hl2:(chU d).1.length≤3:=by
  unfold chU
  omega
 unfold chnV
 simp only [QaZ,Bool.and_eq_true,List.all_cons,List.length_cons,decide_eq_true_eq]
 exact ⟨by omega,Qru h2 hn,h1⟩
theorem id_len {d:Dice}{nm:ByteArray}(hn:nm.size≤1000)(hd:dOk d=true):idLen (idV d nm)=true:=by
 show QaZ (iCh d nm)=true
 unfold iCh
 cases !done (iD4 d) 9
 ·rfl
 ·exact QNs hn (Qal (n:=9) (Qal (n:=20) (QNm hd)))
theorem QL4: ∀ (n:Nat) (nm:ByteArray) (d:Dice),nm.size≤1000→dOk d=true→(idsZ n nm d).1.all idLen=true
 | 0,_,_,_,_=>rfl
 | n+1,nm,d,hn,hd=>by
  simp only [idsZ,List.all_cons,Bool.and_eq_true]
  exact ⟨id_len hn hd,QL4 n nm _ hn (Qxe hd)⟩
theorem QQ3 {d:Dice}{nm:ByteArray}(hn:nm.size≤1000)(hd:dOk d=true):(eIdz d nm).1.all idLen=true∧(eIdz d nm).1.length≤3:=by
 have k4:=Qal (n:=2) (Qal (n:=2) (Qrp (QaY (l:=[1,1,2,3]) hd)))
 have k6:=Qal (n:=3) (Qal (n:=5 - eL0 d) k4)
 have k7:dOk (eD7 d)=true:=by
  unfold eD7
  cases eB d
  ·exact k6
  ·exact QaY (l:=[3,4,2]) k6
 have k8:=QaY (l:=[1,2,1,3,0]) k7
 have m7:=Qbo (d:=eD7 d) (l:=[1,2,1,3,0]) (by decide)
 simp only [List.mem_cons,List.not_mem_nil,or_false] at m7
 refine ⟨QL4 _ _ _ hn k8, ?_⟩
 have:=(Qw2 (dof (eD7 d) [1,2,1,3,0]).toNat nm (eD8 d) k8).2
 unfold eIdz
 omega
theorem QLL {l:List (List Int)}(h: ∀ x ∈ l,x.length≤4)(k:Nat):(lgt (.sl tI) l k).length≤4:=by
 show (l.getD k []).length≤4
 rw [List.getD_eq_getElem?_getD]
 cases hk:l[k]? with
 | none=>exact Nat.zero_le _
 | some x=>exact h x (List.mem_of_getElem? hk)
theorem an_len (d:Dice)(nm:ByteArray):(eAnch (epV d nm)).length≤4:=QLL (by simp) _
theorem hs_len (d:Dice)(nm:ByteArray):(eHash (epV d nm)).length≤4:=QLL (by simp) _
theorem QMn {e:Endpoint}(h1:e.1.size≤1000)(h2:(QaJ e).length≤1000)(h3:(eIds e).length≤1000)(h4:(eAnch e).length≤1000)(h5:(eHash e).length≤1000)(h6:(eIds e).all idLen=true):Qa8 e=true:=by
 simp only [Qa8,Bool.and_eq_true,decide_eq_true_eq]
 exact ⟨⟨decide_eq_true (by omega),by omega,by omega,by omega,by omega⟩,h6⟩
theorem QUm {d:Dice}{nm:ByteArray}(hn:nm.size≤1000)(hd:dOk d=true):(eIds (epV d nm)).all idLen=true∧(eIds (epV d nm)).length≤3:=QQ3 hn hd
theorem QMk (d:Dice)(nm:ByteArray):(epV d nm).1=nm:=rfl
attribute [local irreducible] epV epN prZ
end
end Go.Proofs.YtckcgijklnloiaaGreat.K
namespace Go.Proofs.YtckcgijklnloiaaGreat.K
open Go.RowKit
noncomputable section
end
end Go.Proofs.YtckcgijklnloiaaGreat.K
namespace Go.Proofs.YtckcgijklnloiaaGreat.K
open Go.RowKit
noncomputable section
def Qiw:Option Int→List Link→Bool
 | _,[]=>true
 | pv,x::r=>Qby x.1&&decide (0≤x.2.1∧x.2.1≤40000)&&(match pv with | none=>true | some d=>decide (d<x.2.1))&&Qiw (some x.2.1) r
theorem QqM (pv:Option Int)(x:Link)(r:List Link):Qiw pv (x::r)=(Qby x.1&&decide (0≤x.2.1∧x.2.1≤40000)&&(match pv with | none=>true | some d=>decide (d<x.2.1))&&Qiw (some x.2.1) r):=by cases pv <;> rfl
def pvAt (l:List Link)(k:Nat):Option Int:=if k=0 then none else (l[k - 1]?).map fun x:Link=>x.2.1
def QeW (i:Item):Bool:=QaT i.1&&decide (1≤i.2.1∧i.2.1≤2)&&decide (1≤i.2.2.1∧i.2.2.1≤4)&&decide (1≤i.2.2.2.1.length∧i.2.2.2.1.length≤8)&&Qiw none i.2.2.2.1&&decide ((i.2.2.2.1.headD ((0,(0,())),(0,()))).2.1≤i.2.2.2.2.1∧i.2.2.2.2.1≤40000)
def Qli (i:Item):Int:=if QeW i then 0 else 30
def Qfb (i:Item):Bool:=nameG i.1
noncomputable def QRk:List DO:=dT Tryz.f79 7
noncomputable def QRj:List DO:=dT Tryz.f79 10
def Qk2:Fg:=⟨[(1,none),(45,some (.sl QbD)),(46,some tI),(47,some tI)],[(1,some QaU)]⟩
noncomputable def QmX:TC:=(.sq (.reg (rT Tryz.f79 5)) (.sq (.cd (.t 48) .sk (.fg ⟨[(1,none)],[(1,some QaU)]⟩ (.ex 0))) (.sq (.bk 1 (.sq (.reg (rT Tryz.f79 6)) (.sq (.dr QRk [(0,[5]),(1,[5]),(2,[]),(3,[]),(4,[]),(5,[5]),(6,[5]),(7,[]),(8,[]),(9,[]),(10,[5]),(11,[5]),(12,[]),(13,[]),(14,[]),(15,[]),(16,[]),(17,[]),(18,[1]),(19,[1]),(20,[]),(21,[]),(22,[]),(23,[]),(24,[]),(25,[5]),(26,[5]),(27,[]),(28,[]),(29,[])] (.of [0,1,2,3,4,5,6,7,8,9,10,11,12,13,14,15,16,17,18,19,20,21,22,23,24,25,26,27,28,29])) (.cd (.t 81) (.sq (.reg (rT Tryz.f79 8)) (.fg ⟨[(2,some tI)],[]⟩ .rt)) .sk)))) (.reg (rT Tryz.f79 9)))))
noncomputable def QFC:TC:=(.sq (.reg (rT Tryz.f79 0)) (.sq (.reg (rT Tryz.f79 1)) (.sq (.sq (.reg (rT Tryz.f79 2)) (.cd (.t 43) (.sq (.reg (rT Tryz.f79 3)) .rt) .sk)) (.sq (.sq (.reg (rT Tryz.f79 4)) (.bk 0 (.lp 0 Qk2 QmX))) (.sq (.sq (.dr QRj [(0,[1]),(1,[1]),(2,[1]),(3,[1]),(4,[]),(5,[]),(6,[]),(7,[]),(8,[]),(9,[1]),(10,[1]),(11,[]),(12,[])] (.of [0,1,2,3,4,5,6,7,8,9,10,11,12])) (.cd (.t 95) (.sq (.reg (rT Tryz.f79 11)) .rt) .sk)) (.sq (.reg (rT Tryz.f79 12)) .rt))))))
def QTf:List (RV×Option Ty):=[((.t 2),some tI)]
abbrev Qs2:Sh:=⟨[(1, .ptr 1 0),(45, .ty (.sl QbD)),(46, .ty tI),(47, .ty tI)],[(1, .box QaU)]⟩
def Qnf (x45:List Link)(x46 x47:Int)(y1:Item):VS:=Qs2.st ((),x45,x46,x47,()) (y1,())
abbrev Qvk:Sh:=⟨[(2, .ty tI)],[]⟩
def Qa0 (x2:Int):VS:=Qvk.st (x2,()) ()
abbrev Qy7:Sh:=⟨[(1, .ptr 1 0)],[(1, .box QaU)]⟩
def Qfr (y1:Item):VS:=Qy7.st ((),()) (y1,())
def Q0C:VS→Option (Bool×List (Bool×Exit×VS)):=mkL Qs2 (fun x y=>((x.2.1 == y.1.2.2.2.1)&&rngOk x.2.1 x.2.2.1 x.2.2.2.1)) (fun x y=>[((!(Qiw (pvAt x.2.1 x.2.2.2.1.toNat) (x.2.1.drop x.2.2.2.1.toNat))), .ret,Qa0 (30)),(true, .exit 0,Qfr (y.1))])
def g_f79:G:=⟨TYs,[],96,EL [(124,QsW),(125,QsV)],keeps,(Ls [Q0C]),IL [],RL []⟩
def QOf (x45:List Link)(x46 x47:Int)(y1:Item):Option (Exit×VS):=
 let a1:=lgt QbD x45 (Int.toNat x47)
 br (ilt x47 x46) (br (cIx x45 x47) (br (!(Qby (a1.1))) (some (.ret,Qa0 30)) (br (ilt ((a1.2).1) 0) (some (.ret,Qa0 30)) (br (igt ((a1.2).1) 40000) (some (.ret,Qa0 30)) (br (igt x47 0) (br (cIx y1.2.2.2.1 (isub .i64 x47 1)) (br (ige (((lgt QbD y1.2.2.2.1 (Int.toNat (isub .i64 x47 1))).2).1) ((a1.2).1)) (some (.ret,Qa0 30)) (some (.normal,Qnf x45 x46 (iadd .i64 x47 1) y1))) none) (some (.normal,Qnf x45 x46 (iadd .i64 x47 1) y1)))))) none) (some (.exit 0,Qfr y1))
noncomputable def QjV (x45:List Link)(x46 x47:Int)(y1:Item):Option (Exit×VS):=loopF (Qai g_f79 Qk2 QmX) (Qnf x45 x46 x47 y1)
noncomputable def Qt1 (x45:List Link)(x46 x47:Int)(y1:Item):Option (Exit×VS):=
 let a1:=lgt QbD x45 (Int.toNat x47)
 br (ilt x47 x46) (br (cIx x45 x47) (br (!(Qby (a1.1))) (some (.ret,Qa0 30)) (br (ilt ((a1.2).1) 0) (some (.ret,Qa0 30)) (br (igt ((a1.2).1) 40000) (some (.ret,Qa0 30)) (br (igt x47 0) (br (cIx y1.2.2.2.1 (isub .i64 x47 1)) (br (ige (((lgt QbD y1.2.2.2.1 (Int.toNat (isub .i64 x47 1))).2).1) ((a1.2).1)) (some (.ret,Qa0 30)) (QjV x45 x46 (iadd .i64 x47 1) y1)) none) (QjV x45 x46 (iadd .i64 x47 1) y1))))) none) (some (.exit 0,Qfr y1))
def Qh1 (x45:List Link)(x46 x47:Int)(y1:Item):Option (Exit×VS):=br (!(Qiw (pvAt x45 x47.toNat) (x45.drop x47.toNat))) (some (.ret,Qa0 (30)))<|some (.exit 0,Qfr (y1))
theorem QRF (x45:List Link)(x46 x47:Int)(y1:Item):Qai g_f79 Qk2 QmX (Qnf x45 x46 x47 y1)=QOf x45 x46 x47 y1:=by kernel_rfl
theorem QBH (x45:List Link)(x46 x47:Int)(y1:Item):QjV x45 x46 x47 y1=Qt1 x45 x46 x47 y1:=(Qan _ _).trans (by
 rw [QRF]
 simp only [QOf,Qt1,QaA,nxt_n,nxt_r,nxt_e,nxt_0]
 rfl)
def Qqa (p0:Item):Option (V×List VO):=
 let a1:=((((p0).2).2).2)
 let a2:=llen p0.2.2.2.1
 br (ilt p0.2.2.1 1) (some (.t tI 30,[])) (br (igt p0.2.2.1 4) (some (.t tI 30,[])) (br (ilt a2 1) (some (.t tI 30,[])) (br (igt a2 8) (some (.t tI 30,[])) (br ((p0.2.2.2.1 == p0.2.2.2.1)&&rngOk p0.2.2.2.1 a2 (0:Int)) (br (!(Qiw (pvAt p0.2.2.2.1 (0:Int).toNat) (p0.2.2.2.1.drop (0:Int).toNat))) (some (.t tI (30),[])) (br (cIx (a1.1) 0) (br (ilt ((a1.2).1) (((lgt QbD (a1.1) (Int.toNat 0)).2).1)) (some (.t tI 30,[])) (br (igt ((a1.2).1) 40000) (some (.t tI 30,[])) (some (.t tI 0,[])))) none)) none))))
def r_f79 (p0:Item):Option (V×List VO):=br (ieq p0.2.1 1) (br (nameG p0.1) (br (!(QaT p0.1)) (some (.t tI 30,[])) (br (!true) (some (.t tI 30,[])) (Qqa p0))) none) (br (nameG p0.1) (br (!(QaT p0.1)) (some (.t tI 30,[])) (br (!(ieq p0.2.1 2)) (some (.t tI 30,[])) (Qqa p0))) none)
theorem e_f79 (p0:Item):runF g_f79 QFC QTf false [.t QaU p0] []=r_f79 p0:=by kernel_rfl
theorem en_f79:Qag Tryz.prog 79:= .inr ⟨by decide,_,Tryz.func79,by kernel_rfl,by kernel_rfl⟩
theorem gk_f79:GOk Tryz.prog g_f79:=Qak _ (gA (gC QAH QzN (gC QAG QzM gN)))
theorem QXF (x45:List Link)(x46 x47:Int)(y1:Item)(h:((x45 == y1.2.2.2.1)&&rngOk x45 x46 x47)=true):QjV x45 x46 x47 y1=Qh1 x45 x46 x47 y1:=by
 simp only [Bool.and_eq_true,beq_iff_eq] at h
 obtain ⟨hx,h0⟩:=h
 obtain ⟨rfl,h3,k,rfl,hk⟩:=rng_k h0
 clear h0
 refine Qat x45 (fun k=>QjV x45 (x45.length:Int) (k:Int) y1=Qh1 x45 (x45.length:Int) (k:Int) y1) ?_ ?_ k hk
 ·rw [QBH]
  simp [Qt1,Qh1,Qar,Qae,Qiw]
 ·intro k hk ih
  rw [QBH]
  have el:Qh1 x45 (x45.length:Int) (k:Int) y1=br (!(Qby x45[k].1&&decide (0≤x45[k].2.1∧x45[k].2.1≤40000)&&(match pvAt x45 k with | none=>true | some d=>decide (d<x45[k].2.1)))) (some (.ret,Qa0 30)) (Qh1 x45 (x45.length:Int) ((k+1:Nat):Int) y1):=by
   have e1:pvAt x45 (k+1)=some x45[k].2.1:=by
    unfold pvAt
    rw [if_neg (by omega),Nat.add_sub_cancel,List.getElem?_eq_getElem hk]
    rfl
   simp only [Qh1,Int.toNat_natCast,e1]
   rw [List.drop_eq_getElem_cons hk,QqM]
   generalize (Qby x45[k].1&&decide (0≤x45[k].2.1∧x45[k].2.1≤40000)&&(match pvAt x45 k with | none=>true | some d=>decide (d<x45[k].2.1)))=c
   cases c <;> rfl
  rw [el]
  simp only [Qt1,Qar,Qax,hk,decide_true,Qab,Int.toNat_natCast,add1 (show k<4611686018427387904 by omega),QaC (y:=QbD) hk,ih, ← hx]
  cases Qby x45[k].1 with
  | false=>rfl
  | true=>
   simp only [Bool.not_true,Qae,Bool.true_and]
   by_cases c1:x45[k].2.1<0
   ·rw [show ilt x45[k].2.1 0=true from decide_eq_true c1,Qab,decide_eq_false (show ¬ (0≤x45[k].2.1∧x45[k].2.1≤40000) by omega)]
    rfl
   ·rw [show ilt x45[k].2.1 0=false from decide_eq_false c1,Qae]
    by_cases c2:40000<x45[k].2.1
    ·rw [show igt x45[k].2.1 40000=true from decide_eq_true (by omega),Qab,decide_eq_false (show ¬ (0≤x45[k].2.1∧x45[k].2.1≤40000) by omega)]
     rfl
    ·rw [show igt x45[k].2.1 40000=false from decide_eq_false (by omega),Qae,decide_eq_true (show 0≤x45[k].2.1∧x45[k].2.1≤40000 by omega)]
     simp only [Bool.true_and]
     by_cases hk0:k=0
     ·subst hk0
      rfl
     ·have hk1:k - 1<x45.length:=by omega
      have e1:isub .i64 (k:Int) 1=((k - 1:Nat):Int):=by rw [Qbg (by omega)]; omega
      have e2:igt (k:Int) 0=true:=by simp only [igt,decide_eq_true_eq]; omega
      have e3:pvAt x45 k=some x45[k - 1].2.1:=by
       unfold pvAt
       rw [if_neg hk0,List.getElem?_eq_getElem hk1]
       rfl
      rw [e1,e2,e3,Qab]
      simp only [Qax,hk1,decide_true,Qab,Int.toNat_natCast,QaC (y:=QbD) hk1]
      by_cases c3:x45[k - 1].2.1<x45[k].2.1
      ·rw [show ige x45[k - 1].2.1 x45[k].2.1=false from decide_eq_false (by omega),Qae,decide_eq_true c3]
       rfl
      ·rw [show ige x45[k - 1].2.1 x45[k].2.1=true from decide_eq_true (by omega),Qab,decide_eq_false c3]
       rfl
theorem QPC: ∀ S l p,g_f79.L 0 (fgt Qk2 S)=some (true,l)→pickA l=some p→loopF (Qai g_f79 Qk2 QmX) S=some p:=
 QaB (s:=Qs2) ⟨by decide,by decide⟩ (by kernel_rfl) fun x y hok p hp=>by
 simp only [Qap,Qam] at hp
 exact (QXF x.2.1 x.2.2.1 x.2.2.2.1 y.1 (by simpa using hok)).trans hp
theorem lk_f79:QFC.lok g_f79:=by
 repeat (first | exact trivial | exact QPC | refine ⟨?_, ?_⟩)
theorem Qba {i:Item}:QeW i=true↔QaT i.1=true∧(1≤i.2.1∧i.2.1≤2)∧(1≤i.2.2.1∧i.2.2.1≤4)∧(1≤i.2.2.2.1.length∧i.2.2.2.1.length≤8)∧Qiw none i.2.2.2.1=true∧(i.2.2.2.1.headD ((0,(0,())),(0,()))).2.1≤i.2.2.2.2.1∧i.2.2.2.2.1≤40000:=by
 unfold QeW
 simp only [Bool.and_eq_true,decide_eq_true_eq,and_assoc]
theorem s_f79 (i:Item)(h:Qfb i=true):r_f79 i=some (.t tI (Qli i),[]):=by
 have h:nameG i.1=true:=h
 have bad:(QeW i=true→False)→some (V.t tI 30,([]:List VO))=some (V.t tI (Qli i),[]):=fun hq=>by
  cases hi:QeW i with
  | false=>simp [Qli,hi]
  | true=>exact (hq hi).elim
 have tail:QaT i.1=true→(1≤i.2.1∧i.2.1≤2)→Qqa i=some (.t tI (Qli i),[]):=fun k1 k2=>by
  simp only [Qqa]
  refine QaE (fun g=>bad fun hq=> ?_) (fun g1=>QaE (fun g=>bad fun hq=> ?_) (fun g2=>QaE (fun g=>bad fun hq=> ?_) (fun g3=>QaE (fun g=>bad fun hq=> ?_) (fun g4=> ?_))))
  ·have:=Qba.1 hq; simp only [ilt,decide_eq_true_eq] at g; omega
  ·have:=Qba.1 hq; simp only [igt,decide_eq_true_eq] at g; omega
  ·have:=Qba.1 hq; simp only [ilt,llen,decide_eq_true_eq] at g; omega
  ·have:=Qba.1 hq; simp only [igt,llen,decide_eq_true_eq] at g; omega
  ·simp only [ilt,igt,llen,decide_eq_false_iff_not] at g1 g2 g3 g4
   rw [beq_self_eq_true,Bool.true_and,rng_0 (by omega),Qab]
   have e0:pvAt i.2.2.2.1 (0:Int).toNat=none:=rfl
   rw [e0,Int.toNat_zero,List.drop_zero]
   refine QaE (fun g=>bad fun hq=> ?_) (fun g5=> ?_)
   ·have:=Qba.1 hq
    rw [this.2.2.2.2.1] at g
    cases g
   ·have hl:0<i.2.2.2.1.length:=by omega
    have e1:cIx i.2.2.2.1 0=true:=by simp only [cIx,decide_eq_true_eq]; omega
    have e2:lgt QbD i.2.2.2.1 0=i.2.2.2.1.headD ((0,(0,())),(0,())):=by
     cases hq:i.2.2.2.1 with
     | nil=>rw [hq] at hl; simp at hl
     | cons a l=>rfl
    rw [e1,Qab,e2]
    refine QaE (fun g=>bad fun hq=> ?_) (fun g6=>QaE (fun g=>bad fun hq=> ?_) (fun g7=> ?_))
    ·have:=Qba.1 hq; simp only [ilt,decide_eq_true_eq] at g; omega
    ·have:=Qba.1 hq; simp only [igt,decide_eq_true_eq] at g; omega
    ·simp only [ilt,igt,decide_eq_false_iff_not] at g6 g7
     have:QeW i=true:=Qba.2 ⟨k1,k2,by omega,by omega,by simpa using g5,by omega,by omega⟩
     simp [Qli,this]
 simp only [r_f79,Qqa] at tail ⊢
 rw [h]
 simp only [Qab]
 refine QaE (fun g1=>QaE (fun g=>bad fun hq=> ?_) (fun g2=> ?_)) (fun g1=>QaE (fun g=>bad fun hq=> ?_) (fun g2=>QaE (fun g=>bad fun hq=> ?_) (fun g3=> ?_)))
 ·rw [(Qba.1 hq).1] at g; cases g
 ·simp only [Qdb,decide_eq_true_eq] at g1
  exact tail (by simpa using g2) (by omega)
 ·rw [(Qba.1 hq).1] at g; cases g
 ·have:=Qba.1 hq
  simp only [Qdb,decide_eq_false_iff_not,Bool.not_eq_true',decide_eq_true_eq] at g1 g
  omega
 ·simp only [Qdb,decide_eq_false_iff_not,Bool.not_eq_false',decide_eq_true_eq] at g1 g3
  exact tail (by simpa using g2) (by omega)
def QSL:Ent:=spec (.pr QaU .nil) (fun x=>(Qfb x.1)) (fun x=>(.t tI (Qli x.1)))
theorem ms_f79:Meets Tryz.prog 79 (strip QSL):=Qaf (R:=runF g_f79 QFC QTf false) (mG Tryz.func79 (by kernel_rfl) Tryz.ntmps79 (by kernel_rfl) gk_f79 lk_f79) fun x hok=>(e_f79 x.1).trans (s_f79 x.1 hok)
end
end Go.Proofs.YtckcgijklnloiaaGreat.K
namespace Go.Proofs.YtckcgijklnloiaaGreat.K
open Go.RowKit
noncomputable section
abbrev egAt (l:List Keep)(k:Nat):Keep:=l.getD k zK
def egLt (a b:Keep):Bool:= !igt a.1 b.1&& !(ieq a.1 b.1&&ige a.2.1 b.2.1)
def egIn (n:Int)(x:Keep):Bool:= !ilt x.1 0&&(!ige x.1 n&&(!ilt x.2.1 0&&(!ige x.2.1 n&& !ieq x.1 x.2.1)))
def egOk (n:Int)(l:List Keep)(k:Nat):Bool:=egIn n (egAt l k)&&(decide (k=0)||egLt (egAt l (k - 1)) (egAt l k))
def egUp (n:Int)(l:List Keep)(k:Nat):Bool:=(List.range' k (l.length - k)).all (egOk n l)
theorem QQ6 (n:Int)(l:List Keep):egUp n l l.length=true:=by
 unfold egUp
 rw [Nat.sub_self]
 rfl
theorem QMU {n:Int}{l:List Keep}{k:Nat}(hk:k<l.length):egUp n l k=(egOk n l k&&egUp n l (k+1)):=by
 have:l.length - k=(l.length - (k+1))+1:=by omega
 unfold egUp
 rw [this,List.range'_succ,List.all_cons]
theorem QQ5 {β:Type}(c1 c2 c3 c4 c5 u:Bool)(R E:Option β):br c1 R (br c2 R (br c3 R (br c4 R (br c5 R (br (!u) R E)))))=br (!(((!c1&&(!c2&&(!c3&&(!c4&& !c5))))&&true)&&u)) R E:=by
 cases c1 <;> cases c2 <;> cases c3 <;> cases c4 <;> cases c5 <;> rfl
theorem QQ4 {β:Type}(c1 c2 c3 c4 c5 a b c u:Bool)(R E:Option β):br c1 R (br c2 R (br c3 R (br c4 R (br c5 R (br a R (br b (br c R (br (!u) R E)) (br (!u) R E)))))))=br (!(((!c1&&(!c2&&(!c3&&(!c4&& !c5))))&&(!a&& !(b&&c)))&&u)) R E:=by
 cases c1 <;> cases c2 <;> cases c3 <;> cases c4 <;> cases c5 <;> cases a <;> cases b <;> cases c <;> rfl
theorem QKc {k:Nat}(hk:k<100000)(h0:k≠0):isub .i64 (k:Int) 1=((k - 1:Nat):Int):=by
 rw [Qbg (by omega)]
 omega
def QqN (l:List Keep)(n:Int):Bool:=egUp n l 0&&ile (llen l) 40
def QBW (l:List Keep)(_n:Int):Bool:=decide (l.length≤99999)
noncomputable def QRi:List DO:=dT Tryz.f80 6
def Qk1:Fg:=⟨[(0,some (.sl Qah)),(1,some tI),(7,some (.sl Qah)),(8,some tI),(9,some tI)],[]⟩
noncomputable def QmW:TC:=(.sq (.reg (rT Tryz.f80 2)) (.sq (.cd (.t 10) .sk (.fg ⟨[(0,some (.sl Qah))],[]⟩ (.ex 0))) (.sq (.bk 1 (.sq (.reg (rT Tryz.f80 3)) (.sq (.sq (.reg (rT Tryz.f80 4)) (.cd (.t 40) (.sq (.reg (rT Tryz.f80 5)) (.fg ⟨[(4,some .bool)],[]⟩ .rt)) .sk)) (.sq (.dr QRi [(0,[]),(1,[]),(2,[]),(3,[]),(4,[]),(5,[]),(6,[]),(7,[]),(8,[]),(9,[6]),(10,[6]),(11,[]),(12,[]),(13,[]),(14,[]),(15,[]),(16,[]),(17,[]),(18,[]),(19,[6]),(20,[6]),(21,[]),(22,[]),(23,[]),(24,[]),(25,[]),(26,[]),(27,[]),(28,[]),(29,[6]),(30,[6]),(31,[]),(32,[]),(33,[]),(34,[])] (.of [0,1,2,3,4,5,6,7,8,9,10,11,12,13,14,15,16,17,18,19,20,21,22,23,24,25,26,27,28,29,30,31,32,33,34])) (.cd (.t 75) (.sq (.reg (rT Tryz.f80 7)) (.fg ⟨[(4,some .bool)],[]⟩ .rt)) .sk))))) (.reg (rT Tryz.f80 8)))))
noncomputable def QFB:TC:=(.sq (.reg (rT Tryz.f80 0)) (.sq (.sq (.reg (rT Tryz.f80 1)) (.bk 0 (.lp 0 Qk1 QmW))) (.sq (.reg (rT Tryz.f80 9)) .rt)))
def QTe:List (RV×Option Ty):=[((.t 4),some .bool)]
abbrev Qs1:Sh:=⟨[(0, .ty (.sl Qah)),(1, .ty tI),(7, .ty (.sl Qah)),(8, .ty tI),(9, .ty tI)],[]⟩
def QjF (x0:List Keep)(x1:Int)(x7:List Keep)(x8 x9:Int):VS:=Qs1.st (x0,x1,x7,x8,x9,()) ()
abbrev Qvj:Sh:=⟨[(4, .ty .bool)],[]⟩
def QaL (x4:Bool):VS:=Qvj.st (x4,()) ()
abbrev Qy6:Sh:=⟨[(0, .ty (.sl Qah))],[]⟩
def Qfq (x0:List Keep):VS:=Qy6.st (x0,()) ()
def Q0B:VS→Option (Bool×List (Bool×Exit×VS)):=mkL Qs1 (fun x y=>(x.2.2.1 == x.1&&(rngOk x.2.2.1 x.2.2.2.1 x.2.2.2.2.1&&decide (x.2.2.1.length≤99999)))) (fun x y=>[((!egUp x.2.1 x.2.2.1 x.2.2.2.2.1.toNat), .ret,QaL (false)),(true, .exit 0,Qfq (x.1))])
def g_f80:G:=⟨TYs,[],80,EL [],keeps,(Ls [Q0B]),IL [],RL []⟩
def QOe (x0:List Keep)(x1:Int)(x7:List Keep)(x8 x9:Int):Option (Exit×VS):=
 let a1:=lgt Qah x7 (Int.toNat x9)
 let a2:=lgt Qah x0 (Int.toNat (isub .i64 x9 1))
 let a3:=cIx x0 (isub .i64 x9 1)
 let a4:=iadd .i64 x9 1
 br (ilt x9 x8) (br (cIx x7 x9) (br (ilt (a1.1) 0) (some (.ret,QaL false)) (br (ige (a1.1) x1) (some (.ret,QaL false)) (br (ilt ((a1.2).1) 0) (some (.ret,QaL false)) (br (ige ((a1.2).1) x1) (some (.ret,QaL false)) (br (ieq (a1.1) ((a1.2).1)) (some (.ret,QaL false)) (br (igt x9 0) (br a3 (br (igt (a2.1) (a1.1)) (some (.ret,QaL false)) (br a3 (br (ieq (a2.1) (a1.1)) (br a3 (br (ige ((a2.2).1) ((a1.2).1)) (some (.ret,QaL false)) (some (.normal,QjF x0 x1 x7 x8 a4))) none) (some (.normal,QjF x0 x1 x7 x8 a4))) none)) none) (some (.normal,QjF x0 x1 x7 x8 a4)))))))) none) (some (.exit 0,Qfq x0))
noncomputable def QhW (x0:List Keep)(x1:Int)(x7:List Keep)(x8 x9:Int):Option (Exit×VS):=loopF (Qai g_f80 Qk1 QmW) (QjF x0 x1 x7 x8 x9)
noncomputable def Qt0 (x0:List Keep)(x1:Int)(x7:List Keep)(x8 x9:Int):Option (Exit×VS):=
 let a1:=lgt Qah x7 (Int.toNat x9)
 let a2:=lgt Qah x0 (Int.toNat (isub .i64 x9 1))
 let a3:=cIx x0 (isub .i64 x9 1)
 let a4:=iadd .i64 x9 1
 br (ilt x9 x8) (br (cIx x7 x9) (br (ilt (a1.1) 0) (some (.ret,QaL false)) (br (ige (a1.1) x1) (some (.ret,QaL false)) (br (ilt ((a1.2).1) 0) (some (.ret,QaL false)) (br (ige ((a1.2).1) x1) (some (.ret,QaL false)) (br (ieq (a1.1) ((a1.2).1)) (some (.ret,QaL false)) (br (igt x9 0) (br a3 (br (igt (a2.1) (a1.1)) (some (.ret,QaL false)) (br a3 (br (ieq (a2.1) (a1.1)) (br a3 (br (ige ((a2.2).1) ((a1.2).1)) (some (.ret,QaL false)) (QhW x0 x1 x7 x8 a4)) none) (QhW x0 x1 x7 x8 a4)) none)) none) (QhW x0 x1 x7 x8 a4))))))) none) (some (.exit 0,Qfq x0))
def QnY (x0:List Keep)(x1:Int)(x7:List Keep)(x8 x9:Int):Option (Exit×VS):=br (!egUp x1 x7 x9.toNat) (some (.ret,QaL (false)))<|some (.exit 0,Qfq (x0))
theorem QRE (x0:List Keep)(x1:Int)(x7:List Keep)(x8 x9:Int):Qai g_f80 Qk1 QmW (QjF x0 x1 x7 x8 x9)=QOe x0 x1 x7 x8 x9:=by kernel_rfl
theorem QBG (x0:List Keep)(x1:Int)(x7:List Keep)(x8 x9:Int):QhW x0 x1 x7 x8 x9=Qt0 x0 x1 x7 x8 x9:=(Qan _ _).trans (by
 rw [QRE]
 simp only [QOe,Qt0,QaA,nxt_n,nxt_r,nxt_e,nxt_0]
 rfl)
def r_f80 (p0:List Keep)(p1:Int):Option (V×List VO):=br (p0 == p0&&(rngOk p0 (llen p0) (0:Int)&&decide (p0.length≤99999))) (br (!egUp p1 p0 (0:Int).toNat) (some (.t .bool (false),[])) (some (.t .bool (ile (llen (p0)) 40),[]))) none
theorem e_f80 (p0:List Keep)(p1:Int):runF g_f80 QFB QTe false [.t (.sl Qah) p0, .t tI p1] []=r_f80 p0 p1:=by kernel_rfl
theorem en_f80:Qag Tryz.prog 80:= .inr ⟨by decide,_,Tryz.func80,by kernel_rfl,by kernel_rfl⟩
theorem gk_f80:GOk Tryz.prog g_f80:=Qak _ (fun p hp=>by cases hp)
theorem QXE (x0:List Keep)(x1:Int)(x7:List Keep)(x8 x9:Int)(h:(x7 == x0&&(rngOk x7 x8 x9&&decide (x7.length≤99999)))=true):QhW x0 x1 x7 x8 x9=QnY x0 x1 x7 x8 x9:=by
 simp only [Bool.and_eq_true,beq_iff_eq,decide_eq_true_eq] at h
 obtain ⟨rfl,h0,hl⟩:=h
 obtain ⟨rfl,h3,k,rfl,hk⟩:=rng_k h0
 clear h0
 refine Qat x7 (fun k=>QhW x7 x1 x7 (x7.length:Int) (k:Int)=QnY x7 x1 x7 (x7.length:Int) (k:Int)) ?_ ?_ k hk
 ·rw [QBG]
  simp only [Qt0,QnY,Qar,Nat.lt_irrefl,decide_false,Qae,Int.toNat_natCast,QQ6,Bool.not_true]
 ·intro k hk ih
  rw [QBG]
  simp only [Qt0,Qar,Qax,hk,decide_true,Qab,Int.toNat_natCast,add1 (show k<4611686018427387904 by omega),ih]
  simp only [QnY,Int.toNat_natCast,QMU hk]
  by_cases hk0:k=0
  ·subst hk0
   rw [show igt ((0:Nat):Int) 0=false from rfl]
   simp only [Qae]
   exact QQ5 ..
  ·rw [show igt (k:Int) 0=true from decide_eq_true (by omega),QKc (by omega) hk0]
   simp only [Qab,Qax,show k - 1<x7.length by omega,decide_true,Int.toNat_natCast]
   unfold egOk
   rw [show decide (k=0)=false from decide_eq_false hk0,Bool.false_or]
   exact QQ4 ..
theorem QPB: ∀ S l p,g_f80.L 0 (fgt Qk1 S)=some (true,l)→pickA l=some p→loopF (Qai g_f80 Qk1 QmW) S=some p:=
 QaB (s:=Qs1) ⟨by decide,by decide⟩ (by kernel_rfl) fun x y hok p hp=>by
 simp only [Qap,Qam] at hp
 exact (QXE x.1 x.2.1 x.2.2.1 x.2.2.2.1 x.2.2.2.2.1 (by simpa using hok)).trans hp
theorem lk_f80:QFB.lok g_f80:=by
 repeat (first | exact trivial | exact QPB | refine ⟨?_, ?_⟩)
theorem s_f80 (l:List Keep)(n:Int)(h:QBW l n=true):r_f80 l n=some (.t .bool (QqN l n),[]):=by
 have hl:l.length≤99999:=of_decide_eq_true h
 simp only [r_f80,beq_self_eq_true,Bool.true_and,rng_0 (show l.length≤100000 by omega),decide_eq_true hl,Qab,Int.toNat_zero]
 unfold QqN
 cases egUp n l 0 <;> rfl
def QSK:Ent:=spec (.pr (.sl Qah) (.pr tI .nil)) (fun x=>(QBW x.1 x.2.1)) (fun x=>(.t .bool (QqN x.1 x.2.1)))
theorem ms_f80:Meets Tryz.prog 80 (strip QSK):=Qaf (R:=runF g_f80 QFB QTe false) (mG Tryz.func80 (by kernel_rfl) Tryz.ntmps80 (by kernel_rfl) gk_f80 lk_f80) fun x hok=>(e_f80 x.1 x.2.1).trans (s_f80 x.1 x.2.1 hok)
def badI (i:Item):Bool:=ine (Qli i) 0
theorem Q0y (i:Item):badI i= !QeW i:=by
 unfold badI Qli
 cases QeW i <;> rfl
noncomputable def QFD:TC:=(.sq (.reg (rT Tryz.f78 0)) (.sq (.reg (rT Tryz.f78 1)) .rt))
def QTg:List (RV×Option Ty):=[((.t 2),some .bool)]
def g_f78:G:=⟨TYs,[],6,EL [(79,QSL)],keeps,(fun _ _=>none),IL [],RL []⟩
def r_f78 (p0:Item):Option (V×List VO):=br (Qfb p0) (some (.t .bool (ine (Qli p0) 0),[])) none
theorem e_f78 (p0:Item):runF g_f78 QFD QTg false [.t QaU p0] []=r_f78 p0:=by kernel_rfl
theorem en_f78:Qag Tryz.prog 78:= .inr ⟨by decide,_,Tryz.func78,by kernel_rfl,by kernel_rfl⟩
theorem gk_f78:GOk Tryz.prog g_f78:=Qak _ (gA (gC en_f79 ms_f79 gN))
theorem lk_f78:QFD.lok g_f78:=by repeat (first | exact trivial | refine ⟨?_, ?_⟩)
theorem s_f78 (i:Item)(h:Qfb i=true):r_f78 i=some (.t .bool (badI i),[]):=by
 simp only [r_f78,h,Qab]
 rfl
def QSM:Ent:=spec (.pr QaU .nil) (fun x=>(Qfb x.1)) (fun x=>(.t .bool (badI x.1)))
theorem ms_f78:Meets Tryz.prog 78 (strip QSM):=Qaf (R:=runF g_f78 QFD QTg false) (mG Tryz.func78 (by kernel_rfl) Tryz.ntmps78 (by kernel_rfl) gk_f78 lk_f78) fun x hok=>(e_f78 x.1).trans (s_f78 x.1 hok)
def Qb6 (l:List Item):Bool:=decide (l.length≤100000)&&l.all Qfb
theorem QLP {l:List Item}(h:Qb6 l=true){k:Nat}(hk:k<l.length):Qfb l[k]=true:=by
 simp only [Qb6,Bool.and_eq_true,List.all_eq_true] at h
 exact h.2 _ (List.getElem_mem hk)
theorem QzC {l:List Item}(h:Qb6 l=true):l.length≤100000:=by
 simp only [Qb6,Bool.and_eq_true,decide_eq_true_eq] at h
 exact h.1
def Qsi (l:List Item):Int:=match fstG badI l with | some k=>(k:Int) | none=> -1
def Qc8:Fg:=⟨[(0,some (.sl QaU)),(1,none),(7,some tI),(8,some tI)],[]⟩
noncomputable def Qd8:TC:=(.sq (.reg (rT Tryz.f123 2)) (.sq (.cd (.t 9) .sk (.fg ⟨[],[]⟩ (.ex 0))) (.sq (.bk 1 (.sq (.reg (rT Tryz.f123 3)) (.sq (.reg (rT Tryz.f123 4)) (.cd (.t 16) (.sq (.reg (rT Tryz.f123 5)) (.fg ⟨[(4,some tI)],[]⟩ .rt)) .sk)))) (.reg (rT Tryz.f123 6)))))
noncomputable def Qlt:TC:=(.sq (.reg (rT Tryz.f123 0)) (.sq (.sq (.reg (rT Tryz.f123 1)) (.bk 0 (.lp 0 Qc8 Qd8))) (.sq (.reg (rT Tryz.f123 7)) .rt)))
def Qsa:List (RV×Option Ty):=[((.t 4),some tI)]
abbrev QgK:Sh:=⟨[(0, .ty (.sl QaU)),(1, .cf 78),(7, .ty tI),(8, .ty tI)],[]⟩
def Qgv (x0:List Item)(x7 x8:Int):VS:=QgK.st (x0,(),x7,x8,()) ()
abbrev QmQ:Sh:=⟨[(4, .ty tI)],[]⟩
def Qb3 (x4:Int):VS:=QmQ.st (x4,()) ()
abbrev QpL:Sh:=⟨[],[]⟩
def Qcp  : VS:=QpL.st () ()
def QA2:VS→Option (Bool×List (Bool×Exit×VS)):=mkL QgK (fun x y=>(rngOk x.1 x.2.2.1 x.2.2.2.1&&Qb6 x.1)) (fun x y=>[(((fstG badI (x.1.drop x.2.2.2.1.toNat)).isSome), .ret,Qb3 (x.2.2.2.1+((fstG badI (x.1.drop x.2.2.2.1.toNat)).getD 0:Nat))),(true, .exit 0,Qcp)])
def Qc3:G:=⟨TYs,[],19,EL [(78,QSM)],keeps,(Ls [QA2]),IL [],RL []⟩
def QrB (x0:List Item)(x7 x8:Int):Option (Exit×VS):=
 let a1:=lgt QaU x0 (Int.toNat x8)
 br (ilt x8 x7) (br (cIx x0 x8) (br (Qfb a1) (br (badI a1) (some (.ret,Qb3 x8)) (some (.normal,Qgv x0 x7 (iadd .i64 x8 1)))) none) none) (some (.exit 0,Qcp))
noncomputable def QeR (x0:List Item)(x7 x8:Int):Option (Exit×VS):=loopF (Qai Qc3 Qc8 Qd8) (Qgv x0 x7 x8)
noncomputable def QfV (x0:List Item)(x7 x8:Int):Option (Exit×VS):=
 let a1:=lgt QaU x0 (Int.toNat x8)
 br (ilt x8 x7) (br (cIx x0 x8) (br (Qfb a1) (br (badI a1) (some (.ret,Qb3 x8)) (QeR x0 x7 (iadd .i64 x8 1))) none) none) (some (.exit 0,Qcp))
def QeV (x0:List Item)(x7 x8:Int):Option (Exit×VS):=
 let a1:=fstG badI (x0.drop x8.toNat)
 br (a1.isSome) (some (.ret,Qb3 (x8+(a1.getD 0:Nat))))<|some (.exit 0,Qcp)
theorem Qxn (x0:List Item)(x7 x8:Int):Qai Qc3 Qc8 Qd8 (Qgv x0 x7 x8)=QrB x0 x7 x8:=by kernel_rfl
theorem Qmb (x0:List Item)(x7 x8:Int):QeR x0 x7 x8=QfV x0 x7 x8:=(Qan _ _).trans (by
 rw [Qxn]
 simp only [QrB,QfV,QaA,nxt_n,nxt_r,nxt_e,nxt_0]
 rfl)
def Qqh (p0:List Item):Option (V×List VO):=
 let a1:=(fstG badI (p0.drop (0:Int).toNat))
 br (rngOk p0 (llen p0) (0:Int)&&Qb6 p0) (br (a1.isSome) (some (.t tI ((0:Int)+(a1.getD 0:Nat)),[])) (some (.t tI (-1),[]))) none
theorem QM0 (p0:List Item):runF Qc3 Qlt Qsa false [.t (.sl QaU) p0, .c (.func (.func 78) ⟨[]⟩ ⟨[]⟩)] []=Qqh p0:=by kernel_rfl
theorem QEP:Qag Tryz.prog 123:= .inr ⟨by decide,_,Tryz.func123,by kernel_rfl,by kernel_rfl⟩
theorem QEG:GOk Tryz.prog Qc3:=Qak _ (gA (gC en_f78 ms_f78 gN))
theorem QAg (x0:List Item)(x7 x8:Int)(h:(rngOk x0 x7 x8&&Qb6 x0)=true):QeR x0 x7 x8=QeV x0 x7 x8:=by
 simp only [Bool.and_eq_true] at h
 obtain ⟨h0,hc⟩:=h
 obtain ⟨rfl,h3,k,rfl,hk⟩:=rng_k h0
 clear h0
 refine Qat x0 (fun k=>QeR x0 (x0.length:Int) (k:Int)=QeV x0 (x0.length:Int) (k:Int)) ?_ ?_ k hk
 ·rw [Qmb]
  simp [QfV,QeV,Qar,Qae,fstG]
 ·intro k hk ih
  rw [Qmb]
  have hx:=QLP hc hk
  simp only [QfV,Qar,Qax,hk,decide_true,Qab,Int.toNat_natCast,add1 (show k<4611686018427387904 by omega),ih,QaC (y:=QaU) hk,hx]
  simp only [QeV,Int.toNat_natCast,List.drop_eq_getElem_cons hk,fstG]
  cases h:(badI x0[k]) with
  | true=>simp [Qab]
  | false=>
   simp only [Qae,Bool.false_eq_true,if_false]
   cases hq:fstG badI (x0.drop (k+1)) with
   | none=>rfl
   | some j=>
    simp only [Option.map_some,Option.isSome_some,Option.getD_some,Qab]
    congr 3
    omega
theorem Qwq: ∀ S l p,Qc3.L 0 (fgt Qc8 S)=some (true,l)→pickA l=some p→loopF (Qai Qc3 Qc8 Qd8) S=some p:=
 QaB (s:=QgK) ⟨by decide,by decide⟩ (by kernel_rfl) fun x y hok p hp=>by
 simp only [Qap,Qam] at hp
 exact (QAg x.1 x.2.2.1 x.2.2.2.1 (by simpa using hok)).trans hp
theorem QEv:Qlt.lok Qc3:=by
 repeat (first | exact trivial | exact Qwq | refine ⟨?_, ?_⟩)
theorem QHF (l:List Item)(h:Qb6 l=true):Qqh l=some (.t tI (Qsi l),[]):=by
 have hl:=QzC h
 simp only [Qqh,rng_0 hl,h,Bool.and_self,Qab,Int.toNat_zero,List.drop_zero,Qsi]
 cases fstG badI l <;> simp [Qab,Qae]
def Qr5:Ent:=specH [.ty (.sl QaU), .cf 78] [] (fun x d=>(Qb6 x.1)) (fun x d=>(.t tI (Qsi x.1)))
theorem QEo:Meets Tryz.prog 123 (strip Qr5):=(QaO (R:=runF Qc3 Qlt Qsa false) (mG Tryz.func123 (by kernel_rfl) Tryz.ntmps123 (by kernel_rfl) QEG QEv) fun x d hok=>(QM0 x.1).trans (QHF x.1 hok))
def Qi0 (l:List Item):Bool:=l.any badI
noncomputable def Qot:TC:=(.sq (.reg (rT Tryz.f77 0)) (.sq (.reg (rT Tryz.f77 1)) .rt))
def Qv4:List (RV×Option Ty):=[((.t 4),some .bool)]
def Qod:G:=⟨TYs,[],9,EL [(123,Qr5)],keeps,(fun _ _=>none),IL [],RL []⟩
def QtI (p0:List Item):Option (V×List VO):=br (Qb6 p0) (some (.t .bool (ige (Qsi p0) 0),[])) none
theorem QRc (p0:List Item):runF Qod Qot Qv4 false [.t (.sl QaU) p0, .c (.func (.func 78) ⟨[]⟩ ⟨[]⟩)] []=QtI p0:=by kernel_rfl
theorem QMv:Qag Tryz.prog 77:= .inr ⟨by decide,_,Tryz.func77,by kernel_rfl,by kernel_rfl⟩
theorem QMc:GOk Tryz.prog Qod:=Qak _ (gA (gC QEP QEo gN))
theorem QLH:Qot.lok Qod:=by repeat (first | exact trivial | refine ⟨?_, ?_⟩)
theorem QO6 (l:List Item)(h:Qb6 l=true):QtI l=some (.t .bool (Qi0 l),[]):=by
 simp only [QtI,h,Qab]
 have e:ige (Qsi l) 0=Qi0 l:=by
  unfold Qsi Qi0
  cases hq:fstG badI l with
  | none=>rw [QbY.1 hq]; rfl
  | some k=>
   rw [← QbE,hq]
   simp only [ige,Option.isSome_some,decide_eq_true_eq]
   omega
 rw [e]
def Qvc:Ent:=specH [.ty (.sl QaU), .cf 78] [] (fun x d=>(Qb6 x.1)) (fun x d=>(.t .bool (Qi0 x.1)))
theorem QKz:Meets Tryz.prog 77 (strip Qvc):=(QaO (R:=runF Qod Qot Qv4 false) (mG Tryz.func77 (by kernel_rfl) Tryz.ntmps77 (by kernel_rfl) QMc QLH) fun x d hok=>(QRc x.1).trans (QO6 x.1 hok))
abbrev zEp:Endpoint:=Ty.zero Qad
abbrev epAt (l:List Endpoint)(k:Nat):Endpoint:=l.getD k zEp
def epOkK (l m:List Endpoint)(k:Nat):Bool:=QaS (epAt l k)&&(decide (k=0)||slt (epAt m (k - 1)).1 (epAt l k).1)
def epUp2 (l m:List Endpoint)(k:Nat):Bool:=(List.range' k (l.length - k)).all (epOkK l m)
abbrev epUp (l:List Endpoint)(k:Nat):Bool:=epUp2 l l k
theorem QQP (l m:List Endpoint):epUp2 l m l.length=true:=by
 unfold epUp2
 rw [Nat.sub_self]
 rfl
theorem QMm {l m:List Endpoint}{k:Nat}(hk:k<l.length):epUp2 l m k=(epOkK l m k&&epUp2 l m (k+1)):=by
 have:l.length - k=(l.length - (k+1))+1:=by omega
 unfold epUp2
 rw [this,List.range'_succ,List.all_cons]
abbrev xEps (e:Estate):List Endpoint:=e.1
abbrev xEdg (e:Estate):List Keep:=e.2.1
abbrev xItm (e:Estate):List Item:=e.2.2.1
def estOk (e:Estate):Bool:=epUp (xEps e) 0&&((xItm e).all QeW&&(ile (llen (xEps e)) 16&&(ile (llen (xItm e)) 30&&(egUp (llen (xEps e)) (xEdg e) 0&&ile (llen (xEdg e)) 40))))
def QmH (e:Estate):Int:=bif estOk e then 0 else 31
theorem Qrr (e:Estate):ine (QmH e) 0= !estOk e:=by
 unfold QmH
 cases estOk e <;> rfl
def Qcy (e:Estate):Bool:=decide ((xEps e).length≤99999∧(xEdg e).length≤99999)&&((xEps e).all Qa8&&Qb6 (xItm e))
theorem QOA (l:List Item):Qi0 l= !l.all QeW:=by
 unfold Qi0
 rw [List.not_all_eq_any_not]
 congr 1
 funext x
 exact Q0y x
theorem QL2 (a b:Int):ile a b= !igt a b:=by
 simp only [ile,igt, ← decide_not,Int.not_lt]
theorem QQO {β:Type}(v s u:Bool)(R E:Option β):br (!v) R (br (!s) R (br (!u) R E))=br (!((v&&s)&&u)) R E:=by
 cases v <;> cases s <;> rfl
theorem QQN {β:Type}(v u:Bool)(R E:Option β):br (!v) R (br (!u) R E)=br (!((v&&true)&&u)) R E:=by
 cases v <;> rfl
noncomputable def QRn:List DO:=dT Tryz.f39 4
def Qk9:Fg:=⟨[(1,none),(7,some (.sl Qad)),(8,some tI),(9,some tI)],[(1,some Qau)]⟩
noncomputable def Qm4:TC:=(.sq (.reg (rT Tryz.f39 2)) (.sq (.cd (.t 10) .sk (.fg ⟨[(1,none)],[(1,some Qau)]⟩ (.ex 0))) (.sq (.bk 1 (.sq (.reg (rT Tryz.f39 3)) (.sq (.dr QRn [(0,[4]),(1,[]),(2,[]),(3,[]),(4,[]),(5,[]),(6,[]),(7,[1]),(8,[1]),(9,[]),(10,[]),(11,[]),(12,[]),(13,[]),(14,[4]),(15,[4]),(16,[]),(17,[]),(18,[])] (.of [0,1,2,3,4,5,6,7,8,9,10,11,12,13,14,15,16,17,18])) (.cd (.t 32) (.sq (.reg (rT Tryz.f39 5)) (.fg ⟨[(2,some tI)],[]⟩ .rt)) .sk)))) (.reg (rT Tryz.f39 6)))))
noncomputable def QFX:TC:=(.sq (.reg (rT Tryz.f39 0)) (.sq (.sq (.reg (rT Tryz.f39 1)) (.bk 0 (.lp 0 Qk9 Qm4))) (.sq (.reg (rT Tryz.f39 7)) (.sq (.sq (.reg (rT Tryz.f39 8)) (.cd (.t 58) (.sq (.reg (rT Tryz.f39 9)) .rt) .sk)) (.sq (.reg (rT Tryz.f39 10)) .rt)))))
def QTA:List (RV×Option Ty):=[((.t 2),some tI)]
abbrev Qs9:Sh:=⟨[(1, .ptr 1 0),(7, .ty (.sl Qad)),(8, .ty tI),(9, .ty tI)],[(1, .box Qau)]⟩
def Qni (x7:List Endpoint)(x8 x9:Int)(y1:Estate):VS:=Qs9.st ((),x7,x8,x9,()) (y1,())
abbrev Qvn:Sh:=⟨[(2, .ty tI)],[]⟩
def Qb9 (x2:Int):VS:=Qvn.st (x2,()) ()
abbrev Qzg:Sh:=⟨[(1, .ptr 1 0)],[(1, .box Qau)]⟩
def Qfy (y1:Estate):VS:=Qzg.st ((),()) (y1,())
def Q0J:VS→Option (Bool×List (Bool×Exit×VS)):=mkL Qs9 (fun x y=>(decide (x.2.1.length=y.1.1.length∧x.2.1.length≤99999)&&(rngOk x.2.1 x.2.2.1 x.2.2.2.1&&x.2.1.all Qa8))) (fun x y=>[((!epUp2 x.2.1 y.1.1 x.2.2.2.1.toNat), .ret,Qb9 (31)),(true, .exit 0,Qfy (y.1))])
def g_f39:G:=⟨TYs,[],59,EL [(76,QBa),(77,Qvc),(80,QSK)],keeps,(Ls [Q0J]),IL [],RL []⟩
def QOm (x7:List Endpoint)(x8 x9:Int)(y1:Estate):Option (Exit×VS):=
 let a1:=lgt Qad x7 (Int.toNat x9)
 br (ilt x9 x8) (br (cIx x7 x9) (br (Qa8 a1) (br (ine (Qe2 a1) 0) (some (.ret,Qb9 31)) (br (igt x9 0) (br (cIx y1.1 (isub .i64 x9 1)) (br (!slt ((lgt Qad y1.1 (Int.toNat (isub .i64 x9 1))).1) (a1.1)) (some (.ret,Qb9 31)) (some (.normal,Qni x7 x8 (iadd .i64 x9 1) y1))) none) (some (.normal,Qni x7 x8 (iadd .i64 x9 1) y1)))) none) none) (some (.exit 0,Qfy y1))
noncomputable def QjX (x7:List Endpoint)(x8 x9:Int)(y1:Estate):Option (Exit×VS):=loopF (Qai g_f39 Qk9 Qm4) (Qni x7 x8 x9 y1)
noncomputable def Qt7 (x7:List Endpoint)(x8 x9:Int)(y1:Estate):Option (Exit×VS):=
 let a1:=lgt Qad x7 (Int.toNat x9)
 br (ilt x9 x8) (br (cIx x7 x9) (br (Qa8 a1) (br (ine (Qe2 a1) 0) (some (.ret,Qb9 31)) (br (igt x9 0) (br (cIx y1.1 (isub .i64 x9 1)) (br (!slt ((lgt Qad y1.1 (Int.toNat (isub .i64 x9 1))).1) (a1.1)) (some (.ret,Qb9 31)) (QjX x7 x8 (iadd .i64 x9 1) y1)) none) (QjX x7 x8 (iadd .i64 x9 1) y1))) none) none) (some (.exit 0,Qfy y1))
def Qn2 (x7:List Endpoint)(x8 x9:Int)(y1:Estate):Option (Exit×VS):=br (!epUp2 x7 y1.1 x9.toNat) (some (.ret,Qb9 (31)))<|some (.exit 0,Qfy (y1))
theorem QRM (x7:List Endpoint)(x8 x9:Int)(y1:Estate):Qai g_f39 Qk9 Qm4 (Qni x7 x8 x9 y1)=QOm x7 x8 x9 y1:=by kernel_rfl
theorem QBN (x7:List Endpoint)(x8 x9:Int)(y1:Estate):QjX x7 x8 x9 y1=Qt7 x7 x8 x9 y1:=(Qan _ _).trans (by
 rw [QRM]
 simp only [QOm,Qt7,QaA,nxt_n,nxt_r,nxt_e,nxt_0]
 rfl)
def r_f39 (p0:Estate):Option (V×List VO):=
 let a1:=((((p0).2).2).1)
 let a2:=llen ((p0).1)
 br (decide (p0.1.length=p0.1.length∧p0.1.length≤99999)&&(rngOk p0.1 (llen p0.1) (0:Int)&&p0.1.all Qa8)) (br (!epUp2 p0.1 p0.1 (0:Int).toNat) (some (.t tI (31),[])) (br (Qb6 a1) (br (Qi0 a1) (some (.t tI 31,[])) (br (igt a2 16) (some (.t tI 31,[])) (br (igt (llen a1) 30) (some (.t tI 31,[])) (br (QBW (((p0).2).1) a2) (br (!(QqN (((p0).2).1) a2)) (some (.t tI 31,[])) (some (.t tI 0,[]))) none)))) none)) none
theorem e_f39 (p0:Estate):runF g_f39 QFX QTA false [.t Qau p0] []=r_f39 p0:=by kernel_rfl
theorem QMB:Qag Tryz.prog 39:= .inr ⟨by decide,_,Tryz.func39,by kernel_rfl,by kernel_rfl⟩
theorem gk_f39:GOk Tryz.prog g_f39:=Qak _ (gA (gC QMw QKA (gC QMv QKz (gC en_f80 ms_f80 gN))))
theorem QXM (x7:List Endpoint)(x8 x9:Int)(y1:Estate)(h:(decide (x7.length=y1.1.length∧x7.length≤99999)&&(rngOk x7 x8 x9&&x7.all Qa8))=true):QjX x7 x8 x9 y1=Qn2 x7 x8 x9 y1:=by
 simp only [Bool.and_eq_true,decide_eq_true_eq,List.all_eq_true] at h
 obtain ⟨⟨hx,hl⟩,h0,ha⟩:=h
 obtain ⟨rfl,h3,k,rfl,hk⟩:=rng_k h0
 clear h0
 refine Qat x7 (fun k=>QjX x7 (x7.length:Int) (k:Int) y1=Qn2 x7 (x7.length:Int) (k:Int) y1) ?_ ?_ k hk
 ·rw [QBN]
  simp only [Qt7,Qn2,Qar,Nat.lt_irrefl,decide_false,Qae,Int.toNat_natCast,QQP,Bool.not_true]
 ·intro k hk ih
  rw [QBN]
  have he:Qa8 (lgt Qad x7 k)=true:=by rw [QaC (y:=Qad) hk]; exact ha _ (List.getElem_mem hk)
  simp only [Qt7,Qar,Qax,hk,decide_true,Qab,Int.toNat_natCast,add1 (show k<4611686018427387904 by omega),ih,he,Qxh]
  simp only [Qn2,Int.toNat_natCast,QMm hk]
  by_cases hk0:k=0
  ·subst hk0
   rw [show igt ((0:Nat):Int) 0=false from rfl]
   simp only [Qae]
   exact QQN ..
  ·rw [show igt (k:Int) 0=true from decide_eq_true (by omega),QKc (by omega) hk0]
   simp only [Qab,Qax,show k - 1<y1.1.length by omega,decide_true,Int.toNat_natCast]
   unfold epOkK
   rw [show decide (k=0)=false from decide_eq_false hk0,Bool.false_or]
   exact QQO ..
theorem QPJ: ∀ S l p,g_f39.L 0 (fgt Qk9 S)=some (true,l)→pickA l=some p→loopF (Qai g_f39 Qk9 Qm4) S=some p:=
 QaB (s:=Qs9) ⟨by decide,by decide⟩ (by kernel_rfl) fun x y hok p hp=>by
 simp only [Qap,Qam] at hp
 exact (QXM x.2.1 x.2.2.1 x.2.2.2.1 y.1 (by simpa using hok)).trans hp
theorem lk_f39:QFX.lok g_f39:=by
 repeat (first | exact trivial | exact QPJ | refine ⟨?_, ?_⟩)
theorem s_f39 (e:Estate)(h:Qcy e=true):r_f39 e=some (.t tI (QmH e),[]):=by
 simp only [Qcy,Bool.and_eq_true,decide_eq_true_eq] at h
 obtain ⟨⟨h1,h2⟩,h3,h4⟩:=h
 have h5:QBW (xEdg e) (llen (xEps e))=true:=decide_eq_true h2
 simp only [xEps,xEdg,xItm] at h1 h2 h3 h4 h5
 simp only [r_f39,rng_0 (show e.1.length≤100000 by omega),decide_eq_true h1,true_and,Bool.true_and,h3,h4,h5,Qab,Int.toNat_zero,QOA]
 unfold QmH estOk QqN
 simp only [xEps,xEdg,xItm,epUp]
 rw [QL2 (llen e.1),QL2 (llen e.2.2.1)]
 cases epUp2 e.1 e.1 0 <;> cases e.2.2.1.all QeW <;> cases igt (llen e.1) 16 <;> cases igt (llen e.2.2.1) 30 <;> cases (egUp (llen e.1) e.2.1 0&&ile (llen e.2.1) 40) <;> rfl
def QBd:Ent:=spec (.pr Qau .nil) (fun x=>(Qcy x.1)) (fun x=>(.t tI (QmH x.1)))
theorem QKF:Meets Tryz.prog 39 (strip QBd):=Qaf (R:=runF g_f39 QFX QTA false) (mG Tryz.func39 (by kernel_rfl) Tryz.ntmps39 (by kernel_rfl) gk_f39 lk_f39) fun x hok=>(e_f39 x.1).trans (s_f39 x.1 hok)
end
end Go.Proofs.YtckcgijklnloiaaGreat.K
namespace Go.Proofs.YtckcgijklnloiaaGreat.K
open Go.RowKit
noncomputable section
theorem brY {β:Type}{c:Bool}{a b r:Option β}(h:c=true)(k:a=r):br c a b=r:=by
 subst h
 exact k
def endsF (e:Estate)(i:Int):Endpoint×Endpoint:=(epAt (xEps e) (egAt (xEdg e) i.toNat).1.toNat,epAt (xEps e) (egAt (xEdg e) i.toNat).2.1.toNat)
def QmG (e:Estate)(i:Int):Bool:=cIx (xEdg e) i&&(cIx (xEps e) (egAt (xEdg e) i.toNat).1&&cIx (xEps e) (egAt (xEdg e) i.toNat).2.1)
noncomputable def QRm:List DO:=dT Tryz.f44 2
noncomputable def QFS:TC:=(.sq (.reg (rT Tryz.f44 0)) (.sq (.reg (rT Tryz.f44 1)) (.sq (.dr QRm [(0,[2]),(1,[2]),(2,[6]),(3,[6]),(4,[]),(5,[]),(6,[2]),(7,[2]),(8,[6]),(9,[6]),(10,[]),(11,[]),(12,[4]),(13,[5])] (.of [0,1,2,3,4,5,6,7,8,9,10,11,12,13])) .rt)))
def QTv:List (RV×Option Ty):=[((.c 4 true 9),some Qad),((.c 5 true 9),some Qad)]
def g_f44:G:=⟨TYs,[],24,EL [],keeps,(fun _ _=>none),IL [],RL []⟩
def r_f44 (p0:Estate)(p1:Int):Option (V×List VO):=
 let a1:=lgt Qah p0.2.1 (Int.toNat p1)
 br (cIx p0.2.1 p1) (br (cIx p0.1 (a1.1)) (br (cIx p0.1 ((a1.2).1)) (some (.tu [(.t Qad (lgt Qad p0.1 (Int.toNat (a1.1)))),(.t Qad (lgt Qad p0.1 (Int.toNat ((a1.2).1))))],[])) none) none) none
theorem e_f44 (p0:Estate)(p1:Int):runF g_f44 QFS QTv false [.t Qau p0, .t tI p1] []=r_f44 p0 p1:=by kernel_rfl
theorem en_f44:Qag Tryz.prog 44:= .inr ⟨by decide,_,Tryz.func44,by kernel_rfl,by kernel_rfl⟩
theorem gk_f44:GOk Tryz.prog g_f44:=Qak _ (fun p hp=>by cases hp)
theorem lk_f44:QFS.lok g_f44:=by repeat (first | exact trivial | refine ⟨?_, ?_⟩)
theorem s_f44 (e:Estate)(i:Int)(h:QmG e i=true):r_f44 e i=some (.tu [.t Qad (endsF e i).1, .t Qad (endsF e i).2],[]):=by
 simp only [QmG,Bool.and_eq_true] at h
 obtain ⟨h1,h2,h3⟩:=h
 simp only [r_f44]
 exact brY h1 (brY h2 (brY h3 rfl))
def QSS:Ent:=spec (.pr Qau (.pr tI .nil)) (fun x=>(QmG x.1 x.2.1)) (fun x=>(.tu [(.t Qad ((endsF x.1 x.2.1).1)),(.t Qad ((endsF x.1 x.2.1).2))]))
theorem ms_f44:Meets Tryz.prog 44 (strip QSS):=Qaf (R:=runF g_f44 QFS QTv false) (mG Tryz.func44 (by kernel_rfl) Tryz.ntmps44 (by kernel_rfl) gk_f44 lk_f44) fun x hok=>(e_f44 x.1 x.2.1).trans (s_f44 x.1 x.2.1 hok)
theorem eg_all {n:Int}{l:List Keep}(h:egUp n l 0=true){k:Nat}(hk:k<l.length):egIn n (egAt l k)=true:=by
 unfold egUp at h
 rw [List.all_eq_true] at h
 have:=h k (by rw [List.mem_range']; exact ⟨k,by omega,by omega⟩)
 unfold egOk at this
 exact (Bool.and_eq_true_iff.1 this).1
theorem eg_in {n:Int}{x:Keep}(h:egIn n x=true):(0≤x.1∧x.1<n)∧(0≤x.2.1∧x.2.1<n)∧x.1≠x.2.1:=by
 simp only [egIn,ilt,ige,Qdb,Bool.and_eq_true,Bool.not_eq_true',decide_eq_false_iff_not] at h
 refine ⟨⟨by omega,by omega⟩,⟨by omega,by omega⟩,h.2.2.2.2⟩
theorem Qw7 {e:Estate}(h:estOk e=true):epUp (xEps e) 0=true∧(xItm e).all QeW=true∧(xEps e).length≤16∧(xItm e).length≤30∧egUp (llen (xEps e)) (xEdg e) 0=true∧(xEdg e).length≤40:=by
 simp only [estOk,ile,llen,Bool.and_eq_true,decide_eq_true_eq] at h
 exact ⟨h.1,h.2.1,by omega,by omega,h.2.2.2.2.1,by omega⟩
theorem QCY {e:Estate}(h:estOk e=true){k:Nat}(hk:k<(xEdg e).length):(0≤(egAt (xEdg e) k).1∧(egAt (xEdg e) k).1<(xEps e).length)∧(0≤(egAt (xEdg e) k).2.1∧(egAt (xEdg e) k).2.1<(xEps e).length)∧(egAt (xEdg e) k).1≠(egAt (xEdg e) k).2.1:=
 eg_in (eg_all (Qw7 h).2.2.2.2.1 hk)
theorem QQK {e:Estate}{i:Int}(h:estOk e=true)(h0:0≤i)(h1:i<(xEdg e).length):QmG e i=true:=by
 obtain ⟨k,rfl⟩:=Int.eq_ofNat_of_zero_le h0
 have:=QCY h (k:=k) (by omega)
 simp only [QmG,cIx,Int.toNat_natCast,Bool.and_eq_true,decide_eq_true_eq]
 exact ⟨⟨by omega,by omega⟩,⟨this.1.1,this.1.2⟩,this.2.1.1,this.2.1.2⟩
theorem QuB {e:Estate}(h:Qcy e=true):(xEps e).all Qa8=true:=by
 simp only [Qcy,Bool.and_eq_true] at h
 exact h.2.1
theorem QuD {l:List Endpoint}(h:l.all Qa8=true){c:Int}(hc:cIx l c=true):Qa8 (epAt l c.toNat)=true:=by
 simp only [cIx,decide_eq_true_eq] at hc
 obtain ⟨k,rfl⟩:=Int.eq_ofNat_of_zero_le hc.1
 have hk:k<l.length:=by omega
 rw [Int.toNat_natCast,show epAt l k=l[k] by simp only [epAt,List.getD_eq_getElem?_getD,List.getElem?_eq_getElem hk,Option.getD_some]]
 exact List.all_eq_true.1 h _ (List.getElem_mem hk)
theorem QQQ {e:Estate}{i:Int}(h:Qcy e=true)(hi:QmG e i=true):QbX (endsF e i).1 (endsF e i).2=true:=by
 simp only [QmG,Bool.and_eq_true] at hi
 exact Bool.and_eq_true_iff.2 ⟨QuD (QuB h) hi.2.1,QuD (QuB h) hi.2.2⟩
def Qff (e:Estate)(i:Int):Int:=bif !estOk e then 31 else bif ilt i 0||ige i (llen (xEdg e)) then 4 else 0
def QhD (e:Estate)(_i:Int):Bool:=Qcy e
def Qsl (e:Estate)(_i _d:Int):Bool:=Qcy e
noncomputable def QFT:TC:=(.sq (.reg (rT Tryz.f43 0)) (.sq (.bk 0 (.sq (.reg (rT Tryz.f43 1)) (.cd (.t 5) (.sq (.reg (rT Tryz.f43 2)) .rt) (.sq (.reg (rT Tryz.f43 3)) (.cd (.t 9) (.sq (.reg (rT Tryz.f43 4)) .rt) .sk))))) (.sq (.reg (rT Tryz.f43 5)) .rt)))
def QTw:List (RV×Option Ty):=[((.t 4),some tI)]
def g_f43:G:=⟨TYs,[],19,EL [(39,QBd)],keeps,(fun _ _=>none),IL [],RL []⟩
def r_f43 (p0:Estate)(p1:Int):Option (V×List VO):=br (Qcy p0) (br (ine (QmH p0) 0) (some (.t tI 31,[])) (br (ilt p1 0) (some (.t tI 4,[])) (br (ige p1 (llen p0.2.1)) (some (.t tI 4,[])) (some (.t tI 0,[]))))) none
theorem e_f43 (p0:Estate)(p1:Int):runF g_f43 QFT QTw false [.t Qau p0, .t tI p1] []=r_f43 p0 p1:=by kernel_rfl
theorem en_f43:Qag Tryz.prog 43:= .inr ⟨by decide,_,Tryz.func43,by kernel_rfl,by kernel_rfl⟩
theorem gk_f43:GOk Tryz.prog g_f43:=Qak _ (gA (gC QMB QKF gN))
theorem lk_f43:QFT.lok g_f43:=by repeat (first | exact trivial | refine ⟨?_, ?_⟩)
theorem s_f43 (e:Estate)(i:Int)(h:QhD e i=true):r_f43 e i=some (.t tI (Qff e i),[]):=by
 have h:Qcy e=true:=h
 simp only [r_f43,h,Qab,Qrr]
 unfold Qff
 cases estOk e <;> cases ilt i 0 <;> cases ige i (llen (xEdg e)) <;> rfl
def QST:Ent:=spec (.pr Qau (.pr tI .nil)) (fun x=>(QhD x.1 x.2.1)) (fun x=>(.t tI (Qff x.1 x.2.1)))
theorem ms_f43:Meets Tryz.prog 43 (strip QST):=Qaf (R:=runF g_f43 QFT QTw false) (mG Tryz.func43 (by kernel_rfl) Tryz.ntmps43 (by kernel_rfl) gk_f43 lk_f43) fun x hok=>(e_f43 x.1 x.2.1).trans (s_f43 x.1 x.2.1 hok)
theorem Qxx (e:Estate)(i:Int):(ine (Qff e i) 0=false∧Qff e i=0∧estOk e=true∧0≤i∧i<(xEdg e).length)∨ine (Qff e i) 0=true:=by
 unfold Qff
 cases h1:estOk e with
 | false=>exact .inr rfl
 | true=>
  cases h2:ilt i 0 with
  | true=>exact .inr rfl
  | false=>
   cases h3:ige i (llen (xEdg e)) with
   | true=>exact .inr rfl
   | false=>
    simp only [ilt,ige,llen,decide_eq_false_iff_not] at h2 h3
    exact .inl ⟨rfl,rfl,rfl,by omega,by omega⟩
def Qdd (e:Estate)(i d:Int):Keep×Int:=bif ine (Qff e i) 0 then (zK,Qff e i) else Qbz (endsF e i).1 (endsF e i).2 d
noncomputable def QF3:TC:=(.sq (.reg (rT Tryz.f15 0)) (.sq (.sq (.reg (rT Tryz.f15 1)) (.sq (.reg (rT Tryz.f15 2)) (.cd (.t 15) (.sq (.reg (rT Tryz.f15 3)) .rt) .sk))) (.sq (.reg (rT Tryz.f15 4)) (.sq (.reg (rT Tryz.f15 5)) .rt))))
def QTG:List (RV×Option Ty):=[((.c 6 true 2),some Qah),((.t 7),some tI)]
def g_f15:G:=⟨TYs,[],30,EL [(42,QGk),(43,QST),(44,QSS)],keeps,(fun _ _=>none),IL [],RL []⟩
def r_f15 (p0:Estate)(p1 p2:Int):Option (V×List VO):=
 let a1:=Qbz ((endsF p0 p1).1) ((endsF p0 p1).2) p2
 br (QhD p0 p1) (br (ine (Qff p0 p1) 0) (some (.tu [(.t Qah (0,(0,()))),(.t tI (Qff p0 p1))],[])) (br (QmG p0 p1) (br (Qf8 ((endsF p0 p1).1) ((endsF p0 p1).2) p2) (some (.tu [(.t Qah (a1.1)),(.t tI (a1.2))],[])) none) none)) none
theorem e_f15 (p0:Estate)(p1 p2:Int):runF g_f15 QF3 QTG false [.t Qau p0, .t tI p1, .t tI p2] []=r_f15 p0 p1 p2:=by kernel_rfl
theorem QUx:Qag Tryz.prog 15:= .inr ⟨by decide,_,Tryz.func15,by kernel_rfl,by kernel_rfl⟩
theorem gk_f15:GOk Tryz.prog g_f15:=Qak _ (gA (gC QUu QUb (gC en_f43 ms_f43 (gC en_f44 ms_f44 gN))))
theorem lk_f15:QF3.lok g_f15:=by repeat (first | exact trivial | refine ⟨?_, ?_⟩)
theorem s_f15 (e:Estate)(i d:Int)(h:Qsl e i d=true):r_f15 e i d=some (.tu [.t Qah (Qdd e i d).1, .t tI (Qdd e i d).2],[]):=by
 have h:Qcy e=true:=h
 simp only [r_f15,show QhD e i=true from h,Qab]
 unfold Qdd
 rcases Qxx e i with ⟨h1,_,h2,h3,h4⟩ | h1
 ·have h5:=QQK h2 h3 h4
  rw [h1,Qae,h5,Qab,show Qf8 (endsF e i).1 (endsF e i).2 d=true from QQQ h h5,Qab]
  rfl
 ·rw [h1]
  rfl
def QG1:Ent:=spec (.pr Qau (.pr tI (.pr tI .nil))) (fun x=>(Qsl x.1 x.2.1 x.2.2.1)) (fun x=>(.tu [(.t Qah ((Qdd x.1 x.2.1 x.2.2.1).1)),(.t tI ((Qdd x.1 x.2.1 x.2.2.1).2))]))
theorem QUe:Meets Tryz.prog 15 (strip QG1):=Qaf (R:=runF g_f15 QF3 QTG false) (mG Tryz.func15 (by kernel_rfl) Tryz.ntmps15 (by kernel_rfl) gk_f15 lk_f15) fun x hok=>(e_f15 x.1 x.2.1 x.2.2.1).trans (s_f15 x.1 x.2.1 x.2.2.1 hok)
def dayF (n:Int):Bool:=ige n 0&&ile n 40000
noncomputable def QFW:TC:=(.sq (.reg (rT Tryz.f40 0)) (.sq (.reg (rT Tryz.f40 1)) .rt))
def QTz:List (RV×Option Ty):=[((.t 2),some .bool)]
def g_f40:G:=⟨TYs,[],9,EL [],keeps,(fun _ _=>none),IL [],RL []⟩
def r_f40 (p0:Int):Option (V×List VO):=br (ige p0 0) (some (.t .bool (ile p0 40000),[])) (some (.t .bool false,[]))
theorem e_f40 (p0:Int):runF g_f40 QFW QTz false [.t tI p0] []=r_f40 p0:=by kernel_rfl
theorem en_f40:Qag Tryz.prog 40:= .inr ⟨by decide,_,Tryz.func40,by kernel_rfl,by kernel_rfl⟩
theorem gk_f40:GOk Tryz.prog g_f40:=Qak _ (fun p hp=>by cases hp)
theorem lk_f40:QFW.lok g_f40:=by repeat (first | exact trivial | refine ⟨?_, ?_⟩)
theorem s_f40 (n:Int):r_f40 n=some (.t .bool (dayF n),[]):=by
 simp only [r_f40]
 unfold dayF
 cases ige n 0 <;> rfl
def QSU:Ent:=spec (.pr tI .nil) (fun x=>true) (fun x=>(.t .bool (dayF x.1)))
theorem ms_f40:Meets Tryz.prog 40 (strip QSU):=Qaf (R:=runF g_f40 QFW QTz false) (mG Tryz.func40 (by kernel_rfl) Tryz.ntmps40 (by kernel_rfl) gk_f40 lk_f40) fun x _=>(e_f40 x.1).trans (s_f40 x.1)
end
end Go.Proofs.YtckcgijklnloiaaGreat.K
namespace Go.Proofs.YtckcgijklnloiaaGreat.K
open Go.RowKit
noncomputable section
theorem QFh (s:Endpoint)(o:List Int): ∀ (n v:Nat),(verC s o v n).length≤16 * n:=by
 intro n
 induction n with
 | zero=>intro v; simp [verC]
 | succ n ih=>
  intro v
  have h1:(rowC s o (v:Int) 1).length≤16:=by
   unfold rowC
   rw [List.length_map]
   exact Nat.le_trans (List.length_filter_le _ _) (by rw [List.length_range']; omega)
  have h2:=ih (v+1)
  unfold verC at h2 ⊢
  rw [List.range'_succ,List.flatMap_cons,List.length_append]
  omega
theorem QAN {c s:Endpoint}:(Qdc c s).length≤64:=by
 unfold Qdc
 cases h:Qgi c s with
 | false=>exact Nat.zero_le _
 | true=>
  obtain ⟨hv,hw⟩:=Bool.and_eq_true_iff.1 h
  have v1:=QhF hv
  have v2:=QhF hw
  refine Nat.le_trans (QFh _ _ _ _) ?_
  simp only [hiC,loC,imn,imx]
  split <;> split <;> omega
-- loop 0: (x2 : Int) (x33 : (List Keep)) (x34 : Int) (x35 : Int) (y9 : Endpoint) (y10 : Endpoint) (y11 : (List Keep)); out: ('exit', 0) (y11 : (List Keep))
-- loop 0: (x2 : Int) (x34 : (List Keep)) (x35 : Int) (x36 : Int) (y8 : Endpoint) (y9 : Endpoint) (y11 : (List Keep)); out: ('exit', 0) (y11 : (List Keep))
end
end Go.Proofs.YtckcgijklnloiaaGreat.K
namespace Go.Proofs.YtckcgijklnloiaaGreat.K
open Go.RowKit Go.Shelf
attribute [local go_sem] Oper.semAt_some
def cut9 (vs:List Value)(k:Nat):Value:= .agg ((vs.drop (k * 9)).take 9).toArray
def encP (vs:List Value)(l:List Keep):List (Array Value):=l.map fun x=> #[cut9 vs x.1.toNat,cut9 vs x.2.1.toNat]
theorem QNp {vs:List Value}{q:Nat}{v0 v1 v2 v3 v4 v5 v6 v7 v8:Value}(e0:vs[q * 9]? = some v0)(e1:vs[q * 9+1]? = some v1)(e2:vs[q * 9+2]? = some v2)(e3:vs[q * 9+3]? = some v3)(e4:vs[q * 9+4]? = some v4)(e5:vs[q * 9+5]? = some v5)(e6:vs[q * 9+6]? = some v6)(e7:vs[q * 9+7]? = some v7)(e8:vs[q * 9+8]? = some v8):cut9 vs q= .agg #[v0,v1,v2,v3,v4,v5,v6,v7,v8]:=by
 have hag:((vs.drop (q * 9)).take 9)=[v0,v1,v2,v3,v4,v5,v6,v7,v8]:=by
  apply List.ext_getElem?
  intro i
  rcases Nat.lt_or_ge i 9 with hi | hi
  ·rw [List.getElem?_take_of_lt hi,List.getElem?_drop]
   rcases i with _ | _ | _ | _ | _ | _ | _ | _ | _ | i
   ·rw [Nat.add_zero,e0]; rfl
   ·rw [e1]; rfl
   ·rw [e2]; rfl
   ·rw [e3]; rfl
   ·rw [e4]; rfl
   ·rw [e5]; rfl
   ·rw [e6]; rfl
   ·rw [e7]; rfl
   ·rw [e8]; rfl
   ·omega
  ·rw [List.getElem?_take_eq_none hi,List.getElem?_eq_none (by simpa using hi)]
 unfold cut9
 rw [hag]
set_option maxRecDepth 100000 in
set_option maxHeartbeats 8000000 in
theorem QZl {n:Nat}{b0 off0 c0 n0 b1 off1 c1 n1 k a s:Nat}{it:Value}{w:World}{v0 v1 v2 v3 v4 v5 v6 v7 v8 u0 u1 u2 u3 u4 u5 u6 u7 u8:Value}(hk:k<n1)(ka:a<n0)(ks:s<n0)(hn0:n0≤99999)(hn1:n1≤99999)(hb0:b0<w.heap.size)(hb1:b1<w.heap.size)
  (da:w.cell? ⟨b1,off1+k * 2,none⟩=some (.int .i64 (a:Int))) (db:w.cell? ⟨b1,off1+k * 2+1,none⟩=some (.int .i64 (s:Int)))
  (w0:w.cell? ⟨b0,off0+a * 9,none⟩=some v0) (w1:w.cell? ⟨b0,off0+a * 9+1,none⟩=some v1) (w2:w.cell? ⟨b0,off0+a * 9+2,none⟩=some v2) (w3:w.cell? ⟨b0,off0+a * 9+3,none⟩=some v3) (w4:w.cell? ⟨b0,off0+a * 9+4,none⟩=some v4) (w5:w.cell? ⟨b0,off0+a * 9+5,none⟩=some v5) (w6:w.cell? ⟨b0,off0+a * 9+6,none⟩=some v6) (w7:w.cell? ⟨b0,off0+a * 9+7,none⟩=some v7) (w8:w.cell? ⟨b0,off0+a * 9+8,none⟩=some v8) (x0:w.cell? ⟨b0,off0+s * 9,none⟩=some u0) (x1:w.cell? ⟨b0,off0+s * 9+1,none⟩=some u1) (x2:w.cell? ⟨b0,off0+s * 9+2,none⟩=some u2) (x3:w.cell? ⟨b0,off0+s * 9+3,none⟩=some u3) (x4:w.cell? ⟨b0,off0+s * 9+4,none⟩=some u4) (x5:w.cell? ⟨b0,off0+s * 9+5,none⟩=some u5) (x6:w.cell? ⟨b0,off0+s * 9+6,none⟩=some u6) (x7:w.cell? ⟨b0,off0+s * 9+7,none⟩=some u7) (x8:w.cell? ⟨b0,off0+s * 9+8,none⟩=some u8) (ov0:v0.oneCell'=true) (ov1:v1.oneCell'=true) (ov2:v2.oneCell'=true) (ov3:v3.oneCell'=true) (ov4:v4.oneCell'=true) (ov5:v5.oneCell'=true) (ov6:v6.oneCell'=true) (ov7:v7.oneCell'=true) (ov8:v8.oneCell'=true) (ou0:u0.oneCell'=true) (ou1:u1.oneCell'=true) (ou2:u2.oneCell'=true) (ou3:u3.oneCell'=true) (ou4:u4.oneCell'=true) (ou5:u5.oneCell'=true) (ou6:u6.oneCell'=true) (ou7:u7.oneCell'=true) (ou8:u8.oneCell'=true):
  CallsIn (Fw none) n Tryz.prog 44 #[.agg #[.slice (some ⟨b0,off0,none⟩) n0 c0, .slice (some ⟨b1,off1,none⟩) n1 c1,it], .int .i64 (k:Int)] w fun e w'=>e= .returned (.tuple #[.agg #[v0,v1,v2,v3,v4,v5,v6,v7,v8], .agg #[u0,u1,u2,u3,u4,u5,u6,u7,u8]])∧Below w.heap.size w w':=by
 refine callsIn_of_wp (F:=Fw none) Tryz.func44 rfl trivial ?_ rfl
 simp only [Tryz.ntmps44,List.size_toArray,List.length_cons,List.length_nil,Nat.reduceAdd,Nat.reduceSub,Array.replicate_succ,Array.replicate_zero,List.push_toArray,List.append_toArray,List.nil_append,List.cons_append]
 have up: ∀ {p:Addr} {v:Value},w.cell? p=some v→ ∀ o1 o2 o3,(((w.alloc o1).alloc o2).alloc o3).cell? p=some v:=fun h o1 o2 o3=>Lib.cell?_alloc_some _ (Lib.cell?_alloc_some _ (Lib.cell?_alloc_some _ h))
 replace da:=up da
 replace db:=up db
 replace w0:=fun o1 o2 o3 o4=>Lib.cell?_alloc_some o4 (up w0 o1 o2 o3)
 replace w1:=fun o1 o2 o3 o4=>Lib.cell?_alloc_some o4 (up w1 o1 o2 o3)
 replace w2:=fun o1 o2 o3 o4=>Lib.cell?_alloc_some o4 (up w2 o1 o2 o3)
 replace w3:=fun o1 o2 o3 o4=>Lib.cell?_alloc_some o4 (up w3 o1 o2 o3)
 replace w4:=fun o1 o2 o3 o4=>Lib.cell?_alloc_some o4 (up w4 o1 o2 o3)
 replace w5:=fun o1 o2 o3 o4=>Lib.cell?_alloc_some o4 (up w5 o1 o2 o3)
 replace w6:=fun o1 o2 o3 o4=>Lib.cell?_alloc_some o4 (up w6 o1 o2 o3)
 replace w7:=fun o1 o2 o3 o4=>Lib.cell?_alloc_some o4 (up w7 o1 o2 o3)
 replace w8:=fun o1 o2 o3 o4=>Lib.cell?_alloc_some o4 (up w8 o1 o2 o3)
 replace x0:=fun o1 o2 o3 o4=>Lib.cell?_alloc_some o4 (up x0 o1 o2 o3)
 replace x1:=fun o1 o2 o3 o4=>Lib.cell?_alloc_some o4 (up x1 o1 o2 o3)
 replace x2:=fun o1 o2 o3 o4=>Lib.cell?_alloc_some o4 (up x2 o1 o2 o3)
 replace x3:=fun o1 o2 o3 o4=>Lib.cell?_alloc_some o4 (up x3 o1 o2 o3)
 replace x4:=fun o1 o2 o3 o4=>Lib.cell?_alloc_some o4 (up x4 o1 o2 o3)
 replace x5:=fun o1 o2 o3 o4=>Lib.cell?_alloc_some o4 (up x5 o1 o2 o3)
 replace x6:=fun o1 o2 o3 o4=>Lib.cell?_alloc_some o4 (up x6 o1 o2 o3)
 replace x7:=fun o1 o2 o3 o4=>Lib.cell?_alloc_some o4 (up x7 o1 o2 o3)
 replace x8:=fun o1 o2 o3 o4=>Lib.cell?_alloc_some o4 (up x8 o1 o2 o3)
 clear up
 gi_wp2
 have sv0:=fun a m W=>run_store Tryz.prog W a v0 m ov0
 have sv1:=fun a m W=>run_store Tryz.prog W a v1 m ov1
 have sv2:=fun a m W=>run_store Tryz.prog W a v2 m ov2
 have sv3:=fun a m W=>run_store Tryz.prog W a v3 m ov3
 have sv4:=fun a m W=>run_store Tryz.prog W a v4 m ov4
 have sv5:=fun a m W=>run_store Tryz.prog W a v5 m ov5
 have sv6:=fun a m W=>run_store Tryz.prog W a v6 m ov6
 have sv7:=fun a m W=>run_store Tryz.prog W a v7 m ov7
 have sv8:=fun a m W=>run_store Tryz.prog W a v8 m ov8
 have su0:=fun a m W=>run_store Tryz.prog W a u0 m ou0
 have su1:=fun a m W=>run_store Tryz.prog W a u1 m ou1
 have su2:=fun a m W=>run_store Tryz.prog W a u2 m ou2
 have su3:=fun a m W=>run_store Tryz.prog W a u3 m ou3
 have su4:=fun a m W=>run_store Tryz.prog W a u4 m ou4
 have su5:=fun a m W=>run_store Tryz.prog W a u5 m ou5
 have su6:=fun a m W=>run_store Tryz.prog W a u6 m ou6
 have su7:=fun a m W=>run_store Tryz.prog W a u7 m ou7
 have su8:=fun a m W=>run_store Tryz.prog W a u8 m ou8
 have fz: ∀ (d:Nat) (q:Nat) (p:Option Nat),w.frozen? ⟨w.heap.size+d,q,none⟩=false:=fun d q _=>by
  have:w.heap[w.heap.size+d]? = none:=Array.getElem?_eq_none (by omega)
  simp [World.frozen?, this]
 have fr: ∀ (d q:Nat) c1 t1 c2 t2 c3 t3 c4 t4,((((w.alloc (.cells c1 t1)).alloc (.cells c2 t2)).alloc (.cells c3 t3)).alloc (.cells c4 t4)).drew.frozen? ⟨w.heap.size+d,q,none⟩=false:=fun d q c1 t1 c2 t2 c3 t3 c4 t4=>by
  rw [frozen_drew_own,frozen?_alloc_cells,frozen?_alloc_cells,frozen?_alloc_cells,frozen?_alloc_cells]
  exact fz d q none
 have hm:Tryz.prog.follows .mixedOrders=true:=mixed
 gi_region_o
 gi_wp2
 refine bodyPost_ret (by simp [results,Tryz.results44,go_sem]; rfl) rfl ?_
 exact ⟨rfl,((((Below.refl _ _).alloc (Nat.le_refl _) _).alloc (by simp) _).alloc (by simp; omega) _).alloc (by simp; omega) _ |>.drew⟩
set_option maxRecDepth 100000 in
set_option maxHeartbeats 4000000 in
theorem QPf (Bs b0 off0 c0 n0 b1 off1 c1 n1:Nat)(A0 A1:Option Addr)(it:Value)(vs:List Value)(l1:List Keep)(Xf:Nat→Nat→Prop)(w:World)(hn0:n0≤99999)(hn1:n1≤99999)(hl1:l1.length=n1)
  (hB0:w.cell? ⟨Bs,0,none⟩=some (.slice A0 n0 c0)) (hB1:w.cell? ⟨Bs,1,none⟩=some (.slice A1 n1 c1)) (hB2:w.cell? ⟨Bs,2,none⟩=some it) (hBl:Bs<w.heap.size) (hBx: ∀ q, ¬ Xf Bs q)
  (hE:0<n1→A1=some ⟨b1,off1,none⟩∧b1<w.heap.size∧(∀ j,j<n1 * 2→ ¬ Xf b1 (off1+j))∧ ∀ k (hk:k<l1.length),w.cell? ⟨b1,off1+k * 2,none⟩=some (.int .i64 l1[k].1)∧w.cell? ⟨b1,off1+k * 2+1,none⟩=some (.int .i64 l1[k].2.1))
  (hP:0<n0→A0=some ⟨b0,off0,none⟩∧vs.length=n0 * 9∧b0<w.heap.size∧(∀ j,j<vs.length→ ¬ Xf b0 (off0+j))∧(∀ v ∈ vs,v.oneCell'=true)∧ ∀ j v,vs[j]? = some v→w.cell? ⟨b0,off0+j,none⟩=some v)
  (hin: ∀ k (hk:k<l1.length),(0≤l1[k].1∧l1[k].1<n0)∧0≤l1[k].2.1∧l1[k].2.1<n0):
  ItOk Tryz.prog 81 [.pointer (some ⟨Bs,0,none⟩)] (encP vs l1) Xf w:=by
 intro l J Jx W hJ hJx hK hY h0 _
 have HE:=Lib.hid hE
 have HP:=Lib.hid hP
 have HI:=Lib.hid hin
 clear hE hP hin
 refine callsIn_of_wp (F:=Fw none) Tryz.func81 rfl trivial ?_ rfl
 simp only [Tryz.ntmps81,List.size_toArray,List.length_cons,List.length_nil,Nat.reduceAdd,Nat.reduceSub,Array.replicate_succ,Array.replicate_zero,List.push_toArray,List.append_toArray,List.nil_append,List.cons_append]
 have hb1:W.cell? ⟨Bs,1,none⟩=some (.slice A1 n1 c1):=((hK _ W h0).2 Bs 1 hBl (hBx 1)).trans hB1
 gi_wp2
 gi_loopw [7] (fun i wr=> ∃ k:Nat,k≤n1∧i= .int .i64 (k:Int)∧J ((encP vs l1).drop k) wr)
  (fun i _=>n1 - (intOf i).toNat)
 case atStart=>exact ⟨0,Nat.zero_le _,rfl,h0⟩
 case round=>
  obtain ⟨k,hk,rfl,hJs⟩:=hrel
  by_cases hlt:k<n1
  ·have hlt2:k<l1.length:=by omega
   obtain ⟨rfl,hbl,hnx,hcl⟩:=HE.out (by omega)
   obtain ⟨⟨a0,a1⟩,s0,s1⟩:=HI.out k hlt2
   obtain ⟨rfl,hvl,hpl,hpx,hpo,hpc⟩:=HP.out (by omega)
   obtain ⟨ca,cb⟩:=hcl k hlt2
   have hJ2:=hJs
   have hlen:k<(encP vs l1).length:=by simpa [encP] using hlt2
   rw [List.drop_eq_getElem_cons hlen] at hJ2
   have hrow:(encP vs l1)[k]= #[cut9 vs l1[k].1.toNat,cut9 vs l1[k].2.1.toNat]:=by simp [encP]
   rw [hrow] at hJ2
   have keep: ∀ b q,b<w.heap.size→ ¬ Xf b q→wr.cell? ⟨b,q,none⟩=w.cell? ⟨b,q,none⟩:=fun b q h1 h2=>(hK _ wr hJs).2 b q h1 h2
   have hsz:w.heap.size≤wr.heap.size:=(hK _ wr hJs).1
   generalize hxa:l1[k].1=xa at *
   generalize hxs:l1[k].2.1=xs at *
   obtain ⟨a,rfl⟩:=Int.eq_ofNat_of_zero_le a0
   obtain ⟨s,rfl⟩:=Int.eq_ofNat_of_zero_le s0
   have ka:a<n0:=by omega
   have ks:s<n0:=by omega
   have cel: ∀ q,q<n0→ ∀ i,i<9→ ∃ v,vs[q * 9+i]? = some v∧wr.cell? ⟨b0,off0+(q * 9+i),none⟩=some v∧v.oneCell'=true:=by
    intro q hq i hi
    have hlt:q * 9+i<vs.length:=by omega
    exact ⟨_,List.getElem?_eq_getElem hlt,(keep b0 _ hpl (hpx _ hlt)).trans (hpc _ _ (List.getElem?_eq_getElem hlt)),hpo _ (List.getElem_mem hlt)⟩
   have da:wr.cell? ⟨b1,off1+k * 2,none⟩=some (.int .i64 (a:Int)):=(keep b1 _ hbl (hnx _ (by omega))).trans ca
   have db:wr.cell? ⟨b1,off1+k * 2+1,none⟩=some (.int .i64 (s:Int)):=(keep b1 _ hbl (by rw [Nat.add_assoc]; exact hnx _ (by omega))).trans cb
   have dB0:wr.cell? ⟨Bs,0,none⟩=some (.slice (some ⟨b0,off0,none⟩) n0 c0):=(keep Bs 0 hBl (hBx 0)).trans hB0
   have dB1:wr.cell? ⟨Bs,1,none⟩=some (.slice (some ⟨b1,off1,none⟩) n1 c1):=(keep Bs 1 hBl (hBx 1)).trans hB1
   have dB2:wr.cell? ⟨Bs,2,none⟩=some it:=(keep Bs 2 hBl (hBx 2)).trans hB2
   clear keep hnx hpx hpc hcl ca cb hB0 hB1 hB2 hb1
   obtain ⟨v0,e0,w0,ov0⟩:=cel a ka 0 (by omega)
   obtain ⟨v1,e1,w1,ov1⟩:=cel a ka 1 (by omega)
   obtain ⟨v2,e2,w2,ov2⟩:=cel a ka 2 (by omega)
   obtain ⟨v3,e3,w3,ov3⟩:=cel a ka 3 (by omega)
   obtain ⟨v4,e4,w4,ov4⟩:=cel a ka 4 (by omega)
   obtain ⟨v5,e5,w5,ov5⟩:=cel a ka 5 (by omega)
   obtain ⟨v6,e6,w6,ov6⟩:=cel a ka 6 (by omega)
   obtain ⟨v7,e7,w7,ov7⟩:=cel a ka 7 (by omega)
   obtain ⟨v8,e8,w8,ov8⟩:=cel a ka 8 (by omega)
   obtain ⟨u0,f0,x0,ou0⟩:=cel s ks 0 (by omega)
   obtain ⟨u1,f1,x1,ou1⟩:=cel s ks 1 (by omega)
   obtain ⟨u2,f2,x2,ou2⟩:=cel s ks 2 (by omega)
   obtain ⟨u3,f3,x3,ou3⟩:=cel s ks 3 (by omega)
   obtain ⟨u4,f4,x4,ou4⟩:=cel s ks 4 (by omega)
   obtain ⟨u5,f5,x5,ou5⟩:=cel s ks 5 (by omega)
   obtain ⟨u6,f6,x6,ou6⟩:=cel s ks 6 (by omega)
   obtain ⟨u7,f7,x7,ou7⟩:=cel s ks 7 (by omega)
   obtain ⟨u8,f8,x8,ou8⟩:=cel s ks 8 (by omega)
   rw [Nat.add_zero] at e0 w0 f0 x0
   rw [← Nat.add_assoc] at w1 w2 w3 w4 w5 w6 w7 w8 x1 x2 x3 x4 x5 x6 x7 x8
   clear cel hrow
   gi_wp2_with fail
   refine (QZl hlt ka ks hn0 hn1 (Nat.lt_of_lt_of_le hpl hsz) (Nat.lt_of_lt_of_le hbl hsz) da db w0 w1 w2 w3 w4 w5 w6 w7 w8 x0 x1 x2 x3 x4 x5 x6 x7 x8 ov0 ov1 ov2 ov3 ov4 ov5 ov6 ov7 ov8 ou0 ou1 ou2 ou3 ou4 ou5 ou6 ou7 ou8).mono ?_
   rintro e W2 ⟨rfl,hbel⟩
   obtain ⟨fn,tmps,assign,body,hy,hR⟩:=hY _ _ W2 (hJ _ _ _ hJ2 hbel)
   rw [Int.toNat_natCast,Int.toNat_natCast,QNp e0 e1 e2 e3 e4 e5 e6 e7 e8,QNp f0 f1 f2 f3 f4 f5 f6 f7 f8] at hy
   clear w0 w1 w2 w3 w4 w5 w6 w7 w8 x0 x1 x2 x3 x4 x5 x6 x7 x8 da db dB0 dB1 dB2 hY hJ2
   gi_wp2
   refine hR.mono ?_
   rintro e W3 (⟨rfl,hJ3⟩ | ⟨rfl,hJx3⟩)
   ·gi_wp2
    go_roundw
    case rel=>exact ⟨k+1,by omega,by simp,hJ3⟩
    case measure=>simp [intOf]; omega
   ·gi_wp2
    refine bodyPost_ret (results_none rfl _ _ _) rfl ?_
    exact ⟨⟨_,rfl⟩, .inr hJx3⟩
  ·obtain rfl:k=n1:=by omega
   rw [List.drop_of_length_le (by simp [encP]; omega)] at hJs
   gi_wp2
   go_end0
   exact ⟨⟨_,rfl⟩, .inl hJs⟩
def prsI (e:Estate):List (Endpoint×Endpoint×Unit):=(xEdg e).map fun x=>(epAt (xEps e) x.1.toNat,(epAt (xEps e) x.2.1.toNat,()))
def prsOk (e:Estate):Bool:=decide ((xEps e).length≤99999∧(xEdg e).length≤99999)&&(xEdg e).all fun x=>decide ((0≤x.1∧x.1<(xEps e).length)∧0≤x.2.1∧x.2.1<(xEps e).length)
def Qh3:Itr:=mkIt [.ptr 50000 0] [Qau] (.pr Qad (.pr Qad .nil)) (fun d=>(prsOk d.1)) (fun d=>(prsI d.1))
noncomputable def QFV:TC:=(.sq (.reg (rT Tryz.f41 0)) (.sq (.reg (rT Tryz.f41 1)) .rt))
def QTy:List (RV×Option Ty):=[((.t 2),none)]
def g_f41:G:=⟨TYs,[],4,EL [],keeps,(fun _ _=>none),IL [],RL []⟩
def r_f41 (p0:Estate):Option (V×List VO):=some (.fn 81 [(.ptr 50000 0)],[.box (.t Qau p0)])
theorem e_f41 (p0:Estate):runF g_f41 QFV QTy true [.t Qau p0] []=r_f41 p0:=by kernel_rfl
theorem QUv:Qag Tryz.prog 41:= .inr ⟨by decide,_,Tryz.func41,by kernel_rfl,by kernel_rfl⟩
theorem gk_f41:GOk Tryz.prog g_f41:=Qak _ (fun p hp=>by cases hp)
theorem lk_f41:QFV.lok g_f41:=by repeat (first | exact trivial | refine ⟨?_, ?_⟩)
def QGl:Ent:=specO (.pr Qau .nil) (fun _=>true) (fun x=> .fn 81 [.ptr 50000 0]) (fun x=>[.box (.t Qau x.1)])
theorem QUc:Meets Tryz.prog 41 (strip QGl):=QiV (R:=runF g_f41 QFV QTy true) (mG Tryz.func41 (by kernel_rfl) Tryz.ntmps41 (by kernel_rfl) gk_f41 lk_f41) fun x _=>(e_f41 x.1).trans rfl
theorem QMl {X:Nat→Nat→Prop}{w:World}{l:List Endpoint}{vs:List Value}(h:Cs X w nowhere (l.flatMap Qad.cells) vs){a:Nat}(ha:a<l.length):C X w nowhere (V.t Qad (epAt l a)).d (cut9 vs a):=by
 rw [show epAt l a=l[a] by simp only [epAt,List.getD_eq_getElem?_getD,List.getElem?_eq_getElem ha,Option.getD_some]]
 simp only [V.d]
 rw [Ty.d_row Qad _ rfl]
 simp only [C]
 refine ⟨_,rfl, ?_⟩
 have k1:=h.drop_ (a * Qad.sz)
 rw [Qc4,List.drop_eq_getElem_cons ha,List.flatMap_cons] at k1
 have k2:=k1.take_ Qad.sz
 rw [List.take_left' (Qad.cells_len _)] at k2
 exact k2
theorem QXV {X:Nat→Nat→Prop}{w:World}{l:List Keep}{vs:List Value}(h:Cs X w nowhere (l.flatMap Qah.cells) vs){k:Nat}(hk:k<l.length):vs[k * 2]? = some (.int .i64 l[k].1)∧vs[k * 2+1]? = some (.int .i64 l[k].2.1):=by
 have k1:=h.drop_ (k * Qah.sz)
 rw [Qc4,List.drop_eq_getElem_cons hk,List.flatMap_cons] at k1
 have k3:Cs X w nowhere (D.v (.int .i64 l[k].1)::D.v (.int .i64 l[k].2.1)::(l.drop (k+1)).flatMap Qah.cells) (vs.drop (k * 2)):=k1
 simp only [Cs] at k3
 obtain ⟨u0,r0,q0,c0,u1,r1,q1,c1,_⟩:=k3
 have d0:(vs.drop (k * 2))[0]? = some u0:=by rw [q0]; rfl
 have d1:(vs.drop (k * 2))[1]? = some u1:=by rw [q0,q1]; rfl
 rw [List.getElem?_drop] at d0 d1
 rw [(C.v c0).1] at d0
 rw [(C.v c1).1] at d1
 exact ⟨d0,d1⟩
theorem QBZ:Iters Tryz.prog 81 Qh3:=by
 refine Iters.weak (by decide) (enters_of Tryz.func81 (by kernel_rfl) rfl) fun caps objs yr rows h X w σ lb hfin hl hc=> ?_
 unfold Qh3 mkIt at h
 split at h
 ·rename_i x d hx hd
  simp only [Option.some.injEq,Prod.mk.injEq] at h
  obtain ⟨hok,h⟩:=h
  cases h
  have hcaps:=QlA hx
  subst hcaps
  cases objs with
  | nil=>simp [Qbx] at hd
  | cons o os=>
   cases o with
   | box cv=>
    cases os with
    | cons o2 os=>simp [Qbx] at hd
    | nil=>
     simp only [Qbx] at hd
     split at hd
     ·rename_i l u hl1 _
      simp only [Option.some.injEq] at hd
      subst hd
      have hl2:V.as Qau cv=some l:=hl1
      simp only [prsOk,Bool.and_eq_true,decide_eq_true_eq,List.all_eq_true] at hok
      obtain ⟨⟨n0,n1⟩,hin⟩:=hok
      obtain ⟨Bs,ty,us,h1,h2,h3,h4⟩:=Qxo (show Qau.row=true from rfl) hl2 (hl.at_ 0 _ rfl).1
      have h3':Cs X w σ [.sl (List.length l.1) (List.flatMap Qad.cells l.1), .sl (List.length l.2.1) (List.flatMap Qah.cells l.2.1), .sl (List.length l.2.2.1) (List.flatMap QaU.cells l.2.2.1)] us:=h3
      simp only [Cs] at h3'
      obtain ⟨u0,r0,rfl,k0,u1,r1,rfl,k1,u2,r2,rfl,k2,rfl⟩:=h3'
      simp only [C] at k0 k1
      obtain ⟨A0,c0,rfl,_,_,_,g4⟩:=k0
      obtain ⟨A1,c1,rfl,_,_,_,e4⟩:=k1
      simp only [mkVt,SV.mk,V.ds,V.d,Cs,C] at hc
      obtain ⟨p,ps,rfl,⟨b',q1,rfl⟩,rfl⟩:=hc
      have h1:σ 50000= .box Bs:=h1
      rw [h1] at q1
      injection q1 with q1
      subst q1
      have hBl:=(Array.getElem?_eq_some_iff.1 h2).1
      have hBx: ∀ q, ¬ (X Bs q∧ ∀ j,j<[VO.box cv].length→(σ (50000+j)).blk≠some Bs):=fun q hq=>hq.2 0 (by simp) (by rw [h1]; rfl)
      obtain ⟨b0,off0,vs,hP⟩: ∃ b0 off0 vs,0<List.length l.1→A0=some ⟨b0,off0,none⟩∧Cs X w nowhere (List.flatMap Qad.cells l.1) vs∧Fix X w b0 off0 vs:=by
       rcases Nat.eq_zero_or_pos (List.length l.1) with h0 | hp
       ·exact ⟨0,0,[],fun h=>absurd h (by omega)⟩
       ·obtain ⟨b0,off0,vs,x1,x2,x3⟩:=g4 hp
        exact ⟨b0,off0,vs,fun _=>⟨x1,x2,x3⟩⟩
      obtain ⟨b1,off1,ws,hE⟩: ∃ b1 off1 ws,0<List.length l.2.1→A1=some ⟨b1,off1,none⟩∧Cs X w nowhere (List.flatMap Qah.cells l.2.1) ws∧Fix X w b1 off1 ws:=by
       rcases Nat.eq_zero_or_pos (List.length l.2.1) with h0 | hp
       ·exact ⟨0,0,[],fun h=>absurd h (by omega)⟩
       ·obtain ⟨b0,off0,vs,x1,x2,x3⟩:=e4 hp
        exact ⟨b0,off0,vs,fun _=>⟨x1,x2,x3⟩⟩
      have hin2: ∀ k (hk:k<l.2.1.length),(0≤(l.2.1[k]).1∧(l.2.1[k]).1<(l.1.length:Int))∧0≤(l.2.1[k]).2.1∧(l.2.1[k]).2.1<(l.1.length:Int):=fun k hk=>hin _ (List.getElem_mem hk)
      refine ⟨encP vs l.2.1,⟨by simp [prsI,encP,xEdg],fun i r v hr hv=> ?_⟩,QPf Bs b0 off0 c0 (List.length l.1) b1 off1 c1 (List.length l.2.1) A0 A1 u2 vs l.2.1 _ w n0 n1 rfl (by simp [World.cell?, h2]) (by simp [World.cell?, h2]) (by simp [World.cell?, h2]) hBl hBx (fun hp=> ?_) (fun hp=> ?_) hin2⟩
      ·simp only [prsI,encP,xEdg,List.getElem?_map,Option.map_eq_some_iff] at hr hv
       obtain ⟨x,hx,rfl⟩:=hr
       obtain ⟨y,hy,rfl⟩:=hv
       rw [hx] at hy
       injection hy with hy
       subst hy
       have hb:=hin x (List.mem_of_getElem? hx)
       obtain ⟨⟨a0,a1⟩,s0,s1⟩:=hb
       simp only [xEps] at a1 s1
       obtain ⟨_,g5,_⟩:=hP (by omega)
       simp only [Ty.canon,V.ds,Cs]
       exact ⟨_,_,rfl,QMl g5 (by omega),_,_,rfl,QMl g5 (by omega),rfl⟩
      ·obtain ⟨x1,x2,x3⟩:=hE hp
       have hvl:=x2.len
       rw [QcV] at hvl
       have hvl:ws.length=List.length l.2.1 * 2:=hvl
       refine ⟨x1,x3.lt,fun j hj hx=>x3.nx j (by omega) hx.1,fun k hk=> ?_⟩
       obtain ⟨y1,y2⟩:=QXV x2 hk
       refine ⟨x3.at_ _ _ y1, ?_⟩
       rw [Nat.add_assoc]
       exact x3.at_ _ _ y2
      ·obtain ⟨x1,x2,x3⟩:=hP hp
       have hvl:=x2.len
       rw [QcV] at hvl
       have hvl:vs.length=List.length l.1 * 9:=hvl
       exact ⟨x1,hvl,x3.lt,fun j hj hx=>x3.nx j hj hx.1,x3.one,fun j v hv=>x3.at_ j v hv⟩
     ·cases hd
   | no=>simp [Qbx] at hd
   | arr e t l=>simp [Qbx] at hd
 ·cases h
end Go.Proofs.YtckcgijklnloiaaGreat.K
namespace Go.Proofs.YtckcgijklnloiaaGreat.K
open Go.RowKit
noncomputable section
abbrev ERow:Type:=Endpoint×Endpoint×Unit
def prow (e:Estate)(x:Keep):ERow:=(epAt (xEps e) x.1.toNat,(epAt (xEps e) x.2.1.toNat,()))
theorem QjN (e:Estate):prsI e=(xEdg e).map (prow e):=rfl
def QdT (d:Int)(z:ERow):Bool:=ine (Qbz z.1 z.2.1 d).2 0
def outO (d:Int)(z:ERow):Keep:=bif QdT d z then zK else (Qbz z.1 z.2.1 d).1
def brkU (d:Int):List ERow→Nat→List Int
 | [],_=>[]
 | z::r,k=>bif QdT d z then (k:Int)::brkU d r (k+1) else brkU d r (k+1)
def Qit (zs:List ERow):Bool:=zs.all fun z=>QbX z.1 z.2.1
def allF (e:Estate)(d:Int):List Keep×List Int×Int:=
 bif !estOk e then ([],[],31) else bif !dayF d then ([],[],2) else ((prsI e).map (outO d),brkU d (prsI e) 0,0)
theorem QC0 {e:Estate}(hl:Qcy e=true)(h:estOk e=true):prsOk e=true∧Qit (prsI e)=true∧(prsI e).length≤40:=by
 have hp:=Qw7 h
 have hlen:(xEps e).length≤99999∧(xEdg e).length≤99999:=⟨by omega,by omega⟩
 have hin: ∀ x ∈ xEdg e,(0≤x.1∧x.1<(xEps e).length)∧0≤x.2.1∧x.2.1<(xEps e).length:=fun x hx=>by
  obtain ⟨k,hk⟩:=List.mem_iff_getElem?.1 hx
  obtain ⟨hk1,rfl⟩:=List.getElem?_eq_some_iff.1 hk
  have:=QCY h hk1
  have he:egAt (xEdg e) k=(xEdg e)[k]:=by simp only [egAt,List.getD_eq_getElem?_getD,List.getElem?_eq_getElem hk1,Option.getD_some]
  rw [he] at this
  exact ⟨this.1,this.2.1⟩
 refine ⟨?_, ?_, ?_⟩
 ·simp only [prsOk,Bool.and_eq_true,decide_eq_true_eq,List.all_eq_true]
  exact ⟨hlen,hin⟩
 ·rw [QjN]
  simp only [Qit,List.all_eq_true,List.mem_map]
  rintro z ⟨x,hx,rfl⟩
  obtain ⟨⟨a0,a1⟩,s0,s1⟩:=hin x hx
  exact Bool.and_eq_true_iff.2 ⟨QuD (QuB hl) (decide_eq_true ⟨a0,by omega⟩),QuD (QuB hl) (decide_eq_true ⟨s0,by omega⟩)⟩
 ·rw [QjN,List.length_map]
  exact hp.2.2.2.2.2
noncomputable def QRs:List DO:=dT Tryz.f14 14
def Qe1:Fg:=⟨[(3,none),(7,none),(8,none)],[(60000,some tI),(60001,none),(60002,none),(39,none),(43,none),(20700,none),(20800,none)]⟩
noncomputable def Qne:TC:=(.sq (.reg (rT Tryz.f14 8)) (.reg (rT Tryz.f14 9)))
noncomputable def Qm8:TC:=(.bk 2 (.sq (.reg (rT Tryz.f14 10)) (.sq (.sq (.reg (rT Tryz.f14 11)) (.cd (.t 33) (.reg (rT Tryz.f14 12)) .sk)) (.reg (rT Tryz.f14 13)))))
noncomputable def QF4:TC:=(.sq (.reg (rT Tryz.f14 0)) (.sq (.bk 0 (.sq (.reg (rT Tryz.f14 1)) (.cd (.t 13) (.sq (.reg (rT Tryz.f14 2)) .rt) (.sq (.reg (rT Tryz.f14 3)) (.cd (.t 17) (.sq (.reg (rT Tryz.f14 4)) .rt) .sk))))) (.sq (.reg (rT Tryz.f14 5)) (.sq (.reg (rT Tryz.f14 6)) (.sq (.sq (.reg (rT Tryz.f14 7)) (.bk 1 (.nf 7 0 39 20700 (.nf 8 0 3 20800 (.rf 0 Qe1 (.t 22) (.pr Qad (.pr Qad .nil)) [23,24] [3,7,8] Qne Qm8))))) (.sq (.dr QRs [(0,[7,43,20700]),(1,[8,39,20800]),(2,[43,20700]),(3,[39,20800]),(4,[])] (.of [0,1,2,3,4])) .rt))))))
def QTH:List (RV×Option Ty):=[((.t 4),some (.sl Qah)),((.t 5),some (.sl tI)),((.t 6),some tI)]
abbrev Qth:Sh:=⟨[(3, .ptr 60000 0),(7, .ptr 60001 0),(8, .ptr 60002 0)],[(60000, .box tI),(60001, .bag [.ms 20700]),(60002, .bag [.ms 20800]),(39, .no),(43, .no),(20700, .arr 39 Qah),(20800, .arr 3 tI)]⟩
def Qnk (y60000:Int)(y20700:List Keep)(y20800:List Int):VS:=Qth.st ((),(),(),()) (y60000,((),()),((),()),(),(),y20700,y20800,())
abbrev QpA:Sh:=⟨[(3, .ptr 60000 0),(7, .ptr 60001 0),(8, .ptr 60002 0)],[(60000, .box tI),(60001, .bag [.ms 20700]),(60002, .bag [.ms 20800]),(39, .no),(43, .no),(20700, .arr 39 Qah),(20800, .arr 3 tI)]⟩
def QdR (y60000:Int)(y20700:List Keep)(y20800:List Int):VS:=QpA.st ((),(),(),()) (y60000,((),()),((),()),(),(),y20700,y20800,())
def QuW:VS→List (Ty.T (.pr Qad (.pr Qad .nil)))→Option (Bool×List (Bool×Exit×VS)):=mkR Qth (fun zs x y=>(Qit zs&&decide (y.2.2.2.2.2.1.length+zs.length≤1000∧y.2.2.2.2.2.2.1.length≤y.2.2.2.2.2.1.length))) (fun zs x y=>[(true, .normal,QdR (y.1) (y.2.2.2.2.2.1++zs.map (outO y.1)) (y.2.2.2.2.2.2.1++brkU y.1 zs y.2.2.2.2.2.1.length))])
def g_f14:G:=⟨TYs,[],46,EL [(39,QBd),(40,QSU),(41,QGl),(42,QGk)],keeps,(Ls [fun _=>none]),IL [(81,Qh3)],(RL [⟨(.pr Qad (.pr Qad .nil)),QuW⟩])⟩
def QOr (z:(Endpoint×(Endpoint×Unit)))(y60000:Int)(y20700:List Keep)(y20800:List Int):Option (Exit×VS):=
 let a1:=Qbz z.1 z.2.1 y60000
 let a2:=((a1.1).1,(((a1.1).2).1,()))
 br (Qf8 z.1 z.2.1 y60000) (br (ine (a1.2) 0) (br (cApp y20800 ([(llen y20700)]) 8) (br (cApp y20700 ([(0,(0,()))]) 16) (some (.normal,Qnk y60000 (y20700++([(0,(0,()))])) (y20800++([(llen y20700)])))) none) none) (br (cApp y20700 ([a2]) 16) (some (.normal,Qnk y60000 (y20700++([a2])) y20800)) none)) none
noncomputable def Qkd (zs:List (Endpoint×(Endpoint×Unit)))(y60000:Int)(y20700:List Keep)(y20800:List Int):Option (Exit×VS):=Qdh (QeI g_f14 Qe1 (.pr Qad (.pr Qad .nil)) [23,24] Qne Qm8) zs (Qnk y60000 y20700 y20800)
noncomputable def QzF (z:(Endpoint×(Endpoint×Unit)))(zs:List (Endpoint×(Endpoint×Unit)))(y60000:Int)(y20700:List Keep)(y20800:List Int):Option (Exit×VS):=
 let a1:=Qbz z.1 z.2.1 y60000
 let a2:=((a1.1).1,(((a1.1).2).1,()))
 br (Qf8 z.1 z.2.1 y60000) (br (ine (a1.2) 0) (br (cApp y20800 ([(llen y20700)]) 8) (br (cApp y20700 ([(0,(0,()))]) 16) (Qkd zs y60000 (y20700++([(0,(0,()))])) (y20800++([(llen y20700)]))) none) none) (br (cApp y20700 ([a2]) 16) (Qkd zs y60000 (y20700++([a2])) y20800) none)) none
def Qut (zs:List (Endpoint×(Endpoint×Unit)))(y60000:Int)(y20700:List Keep)(y20800:List Int):Option (Exit×VS):=some (.normal,QdR (y60000) (y20700++zs.map (outO y60000)) (y20800++brkU y60000 zs y20700.length))
theorem QRR (z:(Endpoint×(Endpoint×Unit)))(y60000:Int)(y20700:List Keep)(y20800:List Int):QeI g_f14 Qe1 (.pr Qad (.pr Qad .nil)) [23,24] Qne Qm8 z (Qnk y60000 y20700 y20800)=QOr z y60000 y20700 y20800:=by kernel_rfl
theorem QLB (y60000:Int)(y20700:(List Keep))(y20800:(List Int)):Qkd [] y60000 y20700 y20800=some (.normal,QdR y60000 y20700 y20800):=rfl
theorem QPT (z:(Endpoint×(Endpoint×Unit)))(zs:List (Endpoint×(Endpoint×Unit)))(y60000:Int)(y20700:List Keep)(y20800:List Int):Qkd (z::zs) y60000 y20700 y20800=QzF z zs y60000 y20700 y20800:=(QiS _ _ _ _).trans (by
 rw [QRR]
 simp only [QOr,QzF,QaA,nxt_n,nxt_r,nxt_e,nxt_0]
 rfl)
def r_f14 (p0:Estate)(p1:Int):Option (V×List VO):=br (Qcy p0) (br (ine (QmH p0) 0) (some (.tu [(.t (.sl Qah) ([]:List Keep)),(.t (.sl tI) ([]:List Int)),(.t tI 31)],[])) (br (!(dayF p1)) (some (.tu [(.t (.sl Qah) ([]:List Keep)),(.t (.sl tI) ([]:List Int)),(.t tI 2)],[])) (br (prsOk p0) (br (Qit (prsI p0)&&decide (([]:List Keep).length+(prsI p0).length≤1000∧([]:List Int).length≤([]:List Keep).length)) (some (.tu [(.t (.sl Qah) (([]:List Keep)++(prsI p0).map (outO p1))),(.t (.sl tI) (([]:List Int)++brkU p1 (prsI p0) ([]:List Keep).length)),(.t tI 0)],[])) none) none))) none
theorem e_f14 (p0:Estate)(p1:Int):runF g_f14 QF4 QTH false [.t Qau p0, .t tI p1] []=r_f14 p0 p1:=by kernel_rfl
theorem QUy:Qag Tryz.prog 14:= .inr ⟨by decide,_,Tryz.func14,by kernel_rfl,by kernel_rfl⟩
theorem gk_f14:GOk Tryz.prog g_f14:=Qak _ (gA (gC QMB QKF (gC en_f40 ms_f40 (gC QUv QUc (gC QUu QUb gN)))))
 [(81,Qh3)] (by
 intro p hp
 simp only [List.mem_cons,List.not_mem_nil,or_false] at hp
 rcases hp with rfl
 ·exact QBZ)
theorem QXQ (zs:List (Endpoint×(Endpoint×Unit)))(y60000:Int)(y20700:List Keep)(y20800:List Int)(h:(Qit zs&&decide (y20700.length+zs.length≤1000∧y20800.length≤y20700.length))=true):Qkd zs y60000 y20700 y20800=Qut zs y60000 y20700 y20800:=by
 simp only [Bool.and_eq_true,decide_eq_true_eq] at h
 obtain ⟨hr,h1,h2⟩:=h
 induction zs generalizing y20700 y20800 with
 | nil=>
  rw [QLB]
  simp only [Qut,List.map_nil,List.append_nil,brkU]
 | cons z zs ih=>
  simp only [Qit,List.all_cons,Bool.and_eq_true] at hr
  simp only [List.length_cons] at h1
  rw [QPT]
  have c1:Qf8 z.1 z.2.1 y60000=true:=hr.1
  have c2: ∀ v,cApp y20800 [v] 8=true:=fun v=>cAppN (by omega) (by simp only [List.length_singleton]; omega)
  have c3: ∀ v,cApp y20700 [v] 16=true:=fun v=>cAppN (by omega) (by simp only [List.length_singleton]; omega)
  simp only [QzF,c1,c2,c3,Qab]
  rw [ih _ _ hr.2 (by simp only [List.length_append,List.length_singleton]; omega) (by simp only [List.length_append,List.length_singleton]; omega),ih _ _ hr.2 (by simp only [List.length_append,List.length_singleton]; omega) (by simp only [List.length_append,List.length_singleton]; omega)]
  simp only [Qut,List.map_cons,brkU,outO,QdT,List.append_assoc,List.singleton_append,List.length_append,List.length_singleton]
  cases ine (Qbz z.1 z.2.1 y60000).2 0 <;> rfl
theorem QPN: ∀ S (rows:List (Ty.T (.pr Qad (.pr Qad .nil)))) l p,g_f14.R 0 (fgt Qe1 S) (.pr Qad (.pr Qad .nil)) rows=some (true,l)→pickA l=some p→Qdh (QeI g_f14 Qe1 (.pr Qad (.pr Qad .nil)) [23,24] Qne Qm8) rows (fgt Qe1 S)=some p:=by
 intro S rows l p hR hp
 rw [show g_f14.R 0 (fgt Qe1 S) (.pr Qad (.pr Qad .nil)) rows=QuW (fgt Qe1 S) rows from RL_at (l:=[⟨(.pr Qad (.pr Qad .nil)),QuW⟩]) (j:=0) (F:=QuW) rfl _ _] at hR
 refine Qz0 (s:=Qth) ⟨by decide,by decide⟩ (by kernel_rfl) (fun zs x y hok p hp=> ?_) S rows l p hR hp
 simp only [Qap,Qam] at hp
 exact (QXQ zs y.1 y.2.2.2.2.2.1 y.2.2.2.2.2.2.1 (by first | rfl | simpa using hok)).trans hp
theorem lk_f14:QF4.lok g_f14:=by
 repeat (first | exact trivial | exact QPN | refine ⟨?_, ?_⟩)
theorem s_f14 (e:Estate)(d:Int)(h:QhD e d=true):r_f14 e d=some (.tu [.t (.sl Qah) (allF e d).1, .t (.sl tI) (allF e d).2.1, .t tI (allF e d).2.2],[]):=by
 have hl:Qcy e=true:=h
 simp only [r_f14,hl,Qab,Qrr,List.nil_append,List.length_nil,Nat.zero_add,Nat.le_refl,and_true]
 unfold allF
 cases he:estOk e with
 | false=>rfl
 | true=>
  obtain ⟨h1,h2,h3⟩:=QC0 hl he
  rw [Bool.not_true,Qae]
  cases dayF d with
  | false=>rfl
  | true=>
   rw [Bool.not_true,Qae,h1,Qab,h2,Bool.true_and,decide_eq_true (by omega),Qab]
   rfl
def QG8:Ent:=spec (.pr Qau (.pr tI .nil)) (fun x=>(QhD x.1 x.2.1)) (fun x=>(.tu [(.t (.sl Qah) ((allF x.1 x.2.1).1)),(.t (.sl tI) (((allF x.1 x.2.1).2).1)),(.t tI (((allF x.1 x.2.1).2).2))]))
theorem QUf:Meets Tryz.prog 14 (strip QG8):=Qaf (R:=runF g_f14 QF4 QTH false) (mG Tryz.func14 (by kernel_rfl) Tryz.ntmps14 (by kernel_rfl) gk_f14 lk_f14) fun x hok=>(e_f14 x.1 x.2.1).trans (s_f14 x.1 x.2.1 hok)
end
end Go.Proofs.YtckcgijklnloiaaGreat.K
