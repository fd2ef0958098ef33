import Derived.Test.YtckcgijklnloiaaGreatQ7
import Derived.Test.YtckcgijklnloiaaGreatQ4
import Derived.Test.YtckcgijklnloiaaGreatQ3
import Derived.RangeFuncCalls
import Derived.RangeFuncBound
import Derived.Shelf.RegionOpen
import Derived.OwnWalkIn
import Derived.TacticsInMore
import Derived.LoopNIn
import Derived.LoopIn
set_option linter.unusedSimpArgs false
set_option linter.unusedVariables false
namespace Go.Proofs.YtckcgijklnloiaaGreat.K
open Go.RowKit
noncomputable section
def okPos (l:List Int)(t:Talk):Bool:=decide (l.length≤100000)&&lenEE (tkE t) (tkO t)
def ixPos (l:List Int)(t:Talk):Int:=match fstG (possF t) l with | some k=>(k:Int) | none=> -1
def Qc7:Fg:=⟨[(0,some (.sl tI)),(1,none),(7,some tI),(8,some tI)],[]⟩
noncomputable def Qd7:TC:=(.sq (.reg (rT Tryz.f128 2)) (.sq (.cd (.t 9) .sk (.fg ⟨[],[]⟩ (.ex 0))) (.sq (.bk 1 (.sq (.reg (rT Tryz.f128 3)) (.sq (.reg (rT Tryz.f128 4)) (.cd (.t 16) (.sq (.reg (rT Tryz.f128 5)) (.fg ⟨[(4,some tI)],[]⟩ .rt)) .sk)))) (.reg (rT Tryz.f128 6)))))
noncomputable def Qls:TC:=(.sq (.reg (rT Tryz.f128 0)) (.sq (.sq (.reg (rT Tryz.f128 1)) (.bk 0 (.lp 0 Qc7 Qd7))) (.sq (.reg (rT Tryz.f128 7)) .rt)))
def Qr9:List (RV×Option Ty):=[((.t 4),some tI)]
abbrev QgH:Sh:=⟨[(0, .ty (.sl tI)),(1, .bf 90 Qfe),(7, .ty tI),(8, .ty tI)],[]⟩
def Qgu (x0:List Int)(x1:Talk)(x7 x8:Int):VS:=QgH.st (x0,x1,x7,x8,()) ()
abbrev QmP:Sh:=⟨[(4, .ty tI)],[]⟩
def Qb2 (x4:Int):VS:=QmP.st (x4,()) ()
abbrev QpJ:Sh:=⟨[],[]⟩
def Qco  : VS:=QpJ.st () ()
def QA1:VS→Option (Bool×List (Bool×Exit×VS)):=mkL QgH (fun x y=>(rngOk x.1 x.2.2.1 x.2.2.2.1&&okPos x.1 x.2.1)) (fun x y=>[(((fstG (possF x.2.1) (x.1.drop x.2.2.2.1.toNat)).isSome), .ret,Qb2 (x.2.2.2.1+((fstG (possF x.2.1) (x.1.drop x.2.2.2.1.toNat)).getD 0:Nat))),(true, .exit 0,Qco)])
def Qc2:G:=⟨TYs,[],19,EL [(90,QGf)],keeps,(Ls [QA1]),IL [],RL []⟩
def QrA (x0:List Int)(x1:Talk)(x7 x8:Int):Option (Exit×VS):=
 let a1:=lgt tI x0 (Int.toNat x8)
 br (ilt x8 x7) (br (cIx x0 x8) (br (QeJ x1 a1) (br (possF x1 a1) (some (.ret,Qb2 x8)) (some (.normal,Qgu x0 x1 x7 (iadd .i64 x8 1)))) none) none) (some (.exit 0,Qco))
noncomputable def QeQ (x0:List Int)(x1:Talk)(x7 x8:Int):Option (Exit×VS):=loopF (Qai Qc2 Qc7 Qd7) (Qgu x0 x1 x7 x8)
noncomputable def QfU (x0:List Int)(x1:Talk)(x7 x8:Int):Option (Exit×VS):=
 let a1:=lgt tI x0 (Int.toNat x8)
 br (ilt x8 x7) (br (cIx x0 x8) (br (QeJ x1 a1) (br (possF x1 a1) (some (.ret,Qb2 x8)) (QeQ x0 x1 x7 (iadd .i64 x8 1))) none) none) (some (.exit 0,Qco))
def QeU (x0:List Int)(x1:Talk)(x7 x8:Int):Option (Exit×VS):=
 let a1:=fstG (possF x1) (x0.drop x8.toNat)
 br (a1.isSome) (some (.ret,Qb2 (x8+(a1.getD 0:Nat))))<|some (.exit 0,Qco)
theorem Qxm (x0:List Int)(x1:Talk)(x7 x8:Int):Qai Qc2 Qc7 Qd7 (Qgu x0 x1 x7 x8)=QrA x0 x1 x7 x8:=by kernel_rfl
theorem Qma (x0:List Int)(x1:Talk)(x7 x8:Int):QeQ x0 x1 x7 x8=QfU x0 x1 x7 x8:=(Qan _ _).trans (by
 rw [Qxm]
 simp only [QrA,QfU,QaA,nxt_n,nxt_r,nxt_e,nxt_0]
 rfl)
def Qqg (p0:List Int)(p1:Talk):Option (V×List VO):=
 let a1:=(fstG (possF p1) (p0.drop (0:Int).toNat))
 br (rngOk p0 (llen p0) (0:Int)&&okPos p0 p1) (br (a1.isSome) (some (.t tI ((0:Int)+(a1.getD 0:Nat)),[])) (some (.t tI (-1),[]))) none
theorem QMZ (p0:List Int)(p1:Talk):runF Qc2 Qls Qr9 false [.t (.sl tI) p0, .fn 1000090 [(.t Qfe p1)]] []=Qqg p0 p1:=by kernel_rfl
theorem QEO:Qag Tryz.prog 128:= .inr ⟨by decide,_,Tryz.func128,by kernel_rfl,by kernel_rfl⟩
theorem QEF:GOk Tryz.prog Qc2:=Qak _ (gA (gC QUp QT6 gN))
theorem QAf (x0:List Int)(x1:Talk)(x7 x8:Int)(h:(rngOk x0 x7 x8&&okPos x0 x1)=true):QeQ x0 x1 x7 x8=QeU x0 x1 x7 x8:=by
 simp only [Bool.and_eq_true,okPos] at h
 obtain ⟨h0,_,hc⟩:=h
 obtain ⟨rfl,h3,k,rfl,hk⟩:=rng_k h0
 clear h0
 refine Qat x0 (fun k=>QeQ x0 x1 (x0.length:Int) (k:Int)=QeU x0 x1 (x0.length:Int) (k:Int)) ?_ ?_ k hk
 ·rw [Qma]
  simp [QfU,QeU,Qar,Qae,fstG]
 ·intro k hk ih
  rw [Qma]
  have hx:QeJ x1 x0[k]=true:=hc
  simp only [QfU,Qar,Qax,hk,decide_true,Qab,Int.toNat_natCast,add1 (show k<4611686018427387904 by omega),ih,QaC (y:=tI) hk,hx]
  simp only [QeU,Int.toNat_natCast,List.drop_eq_getElem_cons hk,fstG]
  cases h:possF x1 x0[k] with
  | true=>simp [Qab]
  | false=>
   simp only [Qae,Bool.false_eq_true,if_false]
   cases hq:fstG (possF x1) (x0.drop (k+1)) with
   | none=>rfl
   | some j=>
    simp only [Option.map_some,Option.isSome_some,Option.getD_some,Qab]
    congr 3
    omega
theorem Qwp: ∀ S l p,Qc2.L 0 (fgt Qc7 S)=some (true,l)→pickA l=some p→loopF (Qai Qc2 Qc7 Qd7) S=some p:=
 QaB (s:=QgH) ⟨by decide,by decide⟩ (by kernel_rfl) fun x y hok p hp=>by
 simp only [Qap,Qam] at hp
 exact (QAf x.1 x.2.1 x.2.2.1 x.2.2.2.1 (by simpa using hok)).trans hp
theorem QEu:Qls.lok Qc2:=by
 repeat (first | exact trivial | exact Qwp | refine ⟨?_, ?_⟩)
theorem QHE (l:List Int)(t:Talk)(h:okPos l t=true):Qqg l t=some (.t tI (ixPos l t),[]):=by
 have hl:l.length≤100000:=of_decide_eq_true (Bool.and_eq_true_iff.1 h).1
 simp only [Qqg,rng_0 hl,h,Bool.and_self,Qab,Int.toNat_zero,List.drop_zero,ixPos]
 cases fstG (possF t) l <;> simp [Qab,Qae]
def Qr4:Ent:=specB [.ty (.sl tI), .bf 90 Qfe] [] (fun x y=>(okPos x.1 x.2.1)) (fun x y=>(.t tI (ixPos x.1 x.2.1))) (fun x y=>[])
theorem QEn:Meets Tryz.prog 128 (strip Qr4):=QcM (QaN (R:=runF Qc2 Qls Qr9 false) (mG Tryz.func128 (by kernel_rfl) Tryz.ntmps128 (by kernel_rfl) QEF QEu) fun x y hok=>(QMZ x.1 x.2.1).trans (QHE x.1 x.2.1 hok))
abbrev zK:Keep:=(0,(0,()))
abbrev QAl (s:Endpoint)(x:Int):List Qaa:=(lgt Qaw (eIds s) (Qbl s x).1.toNat).2.2.1
def pickE (c s:Endpoint)(d x:Int):Int:=chkCh (QAl s x) (eAnch c) (eHash c) d s.1
def pickF (c s:Endpoint)(v d x:Int):Keep×Int:=bif ine (pickE c s d x) 0 then (zK,29) else ((v,(x,())),0)
def overF (c s:Endpoint)(v d:Int)(o l:List Int):Keep×Int:=match fstG (posE s o v) l with | none=>(zK,28) | some k=>pickF c s v d (l.getD k 0)
abbrev outL (s:Endpoint)(o:List Int):List Int:=bif s.2.2.2.2.1 then QaJ s else o
def withF (c s:Endpoint)(d m:Int)(o:List Int):Keep×Int:=
 bif !Qgi c s then (zK,19) else bif ilt d 0 then (zK,2) else bif igt d 40000 then (zK,2) else bif ilt m 1 then (zK,2) else bif igt m 4 then (zK,2) else
 bif ilt (imn m s.2.2.1) c.2.1 then (zK,27) else bif ilt (imn m s.2.2.1) s.2.1 then (zK,27) else overF c s (imn m s.2.2.1) d o (outL s o)
def QuZ (c s:Endpoint)(_d _m:Int)(o:List Int):Bool:=QbX c s&&decide (o.length≤100000)
theorem Qd1 {e:Endpoint}(h:Qa8 e=true):nameG e.1=true∧(QaJ e).length≤100000∧(eIds e).length≤100000∧(eAnch e).length≤100000∧(eHash e).length≤100000∧(eIds e).all idLen=true:=by
 simp only [Qa8,Bool.and_eq_true,decide_eq_true_eq] at h
 exact ⟨h.1.1,h.1.2.1,h.1.2.2.1,h.1.2.2.2.1,h.1.2.2.2.2,h.2⟩
theorem QB3 {e:Endpoint}{c:Int}(h:(Qbl e c).2=true): ∃ k,(Qbl e c).1=((k:Nat):Int)∧k<(eIds e).length:=by
 unfold Qbl ixAlg at h ⊢
 cases hi:ine (QaH c).2 0 with
 | true=>rw [hi] at h; cases h
 | false=>
  rw [hi] at h
  cases hq:fstG (fun x=>idAlg x (QaH c).1) (eIds e) with
  | none=>rw [hq] at h; cases h
  | some k=>exact ⟨k,rfl,(QkY hq).1⟩
theorem QUZ {e:Endpoint}{o:List Int}{v c:Int}(h:posE e o v c=true):(Qbl e c).2=true:=by
 simp only [posE,Bool.and_eq_true] at h
 exact h.2.2.2.2.2
theorem QKe {c s:Endpoint}{d v x:Int}{o:List Int}(hc:Qa8 c=true)(hs:Qa8 s=true)(h:posE s o v x=true):cIx (eIds s) (Qbl s x).1=true∧QiY (QAl s x) (eAnch c) (eHash c) d s.1=true:=by
 obtain ⟨k,hk,hl⟩:=QB3 (QUZ h)
 obtain ⟨_,_,_,h4,h5,_⟩:=Qd1 hc
 have h6:=(Qd1 hs).2.2.2.2.2
 unfold QAl
 rw [hk,Qax,Int.toNat_natCast,QaC (y:=Qaw) hl]
 refine ⟨decide_eq_true hl, ?_⟩
 have:=List.all_eq_true.1 h6 _ (List.getElem_mem hl)
 simp only [QiY,Bool.and_eq_true,decide_eq_true_eq]
 exact ⟨this,h4,h5⟩
theorem QMg {e:Endpoint}{o l:List Int}{v:Int}{k:Nat}(h:fstG (posE e o v) l=some k):k<l.length∧posE e o v (l.getD k 0)=true:=by
 obtain ⟨q,h1⟩:=QkY h
 refine ⟨q, ?_⟩
 rw [List.getD_eq_getElem?_getD,List.getElem?_eq_getElem q,Option.getD_some]
 exact h1
theorem eEta (p1:Endpoint):(p1.1,(p1.2.1,(p1.2.2.1,(p1.2.2.2.1,(p1.2.2.2.2.1,(p1.2.2.2.2.2.1,(p1.2.2.2.2.2.2.1,(p1.2.2.2.2.2.2.2.1,(p1.2.2.2.2.2.2.2.2.1,())))))))))=p1:=rfl
def outKI (p:Keep×Int):Option (V×List VO):=some (.tu [.t Qah p.1, .t tI p.2],[])
theorem brT {a:Bool}{X Y:Option (V×List VO)}{x y:Keep×Int}(hx:X=outKI x)(hy:Y=outKI y):br a X Y=outKI (bif a then x else y):=by
 cases a
 ·exact hy
 ·exact hx
noncomputable def QRh:List DO:=dT Tryz.f83 15
noncomputable def QRg:List DO:=dT Tryz.f83 16
noncomputable def QRf:List DO:=dT Tryz.f83 18
noncomputable def QFz:TC:=(.sq (.reg (rT Tryz.f83 0)) (.sq (.bk 0 (.sq (.reg (rT Tryz.f83 1)) (.cd (.t 18) (.sq (.reg (rT Tryz.f83 2)) .rt) (.sq (.reg (rT Tryz.f83 3)) (.cd (.t 24) (.sq (.reg (rT Tryz.f83 4)) .rt) .sk))))) (.sq (.reg (rT Tryz.f83 5)) (.sq (.sq (.reg (rT Tryz.f83 6)) (.cd (.t 58) (.sq (.reg (rT Tryz.f83 7)) .rt) .sk)) (.sq (.reg (rT Tryz.f83 8)) (.sq (.sq (.reg (rT Tryz.f83 9)) (.cd (.t 63) (.reg (rT Tryz.f83 10)) .sk)) (.sq (.reg (rT Tryz.f83 11)) (.sq (.reg (rT Tryz.f83 12)) (.sq (.sq (.reg (rT Tryz.f83 13)) (.cd (.t 73) (.sq (.reg (rT Tryz.f83 14)) .rt) .sk)) (.sq (.dr QRh [(0,[6]),(1,[]),(2,[]),(3,[]),(4,[]),(5,[]),(6,[]),(7,[]),(8,[]),(9,[]),(10,[])] (.of [0,1,2,3,4,5,6,7,8,9,10])) (.sq (.sq (.dr QRg [(0,[6]),(1,[6]),(2,[]),(3,[]),(4,[]),(5,[]),(6,[5]),(7,[5]),(8,[5]),(9,[5]),(10,[]),(11,[6]),(12,[6]),(13,[]),(14,[])] (.of [0,1,2,3,4,5,6,7,8,9,10,11,12,13,14])) (.cd (.t 98) (.sq (.reg (rT Tryz.f83 17)) .rt) .sk)) (.sq (.dr QRf [(0,[12]),(1,[12]),(2,[]),(3,[]),(4,[]),(5,[]),(6,[]),(7,[10]),(8,[])] (.of [0,1,2,3,4,5,6,7,8])) .rt))))))))))))
def QTc:List (RV×Option Ty):=[((.c 10 true 2),some Qah),((.t 11),some tI)]
def g_f83:G:=⟨TYs,[],107,EL [(56,QBc),(57,QSN),(82,QA9),(126,QHh),(127,QHg),(128,Qr4)],keeps,(fun _ _=>none),IL [],RL []⟩
def r_f83 (p0 p1:Endpoint)(p2 p3:Int)(p4:List Int):Option (V×List VO):=
 let a6:=imn p3 p1.2.2.1
 let a1:=((p1.1,(p1.2.1,(p1.2.2.1,(p1.2.2.2.1,(p1.2.2.2.2.1,(p1.2.2.2.2.2.1,(p1.2.2.2.2.2.2.1,(p1.2.2.2.2.2.2.2.1,(p1.2.2.2.2.2.2.2.2.1,()))))))))),(a6,(p4,())))
 let a7:=ixPos (QeK a1) a1
 let a2:=lgt tI (QeK a1) (Int.toNat a7)
 let a8:=ixPos (QgL a1) a1
 let a3:=lgt tI (QgL a1) (Int.toNat a8)
 let a4:=((((lgt Qaw p1.2.2.2.2.2.1 (Int.toNat ((Qbl p1 a3).1))).2).2).1)
 let a5:=((((lgt Qaw p1.2.2.2.2.2.1 (Int.toNat ((Qbl p1 a2).1))).2).2).1)
 br (QbX p0 p1) (br (!(Qgi p0 p1)) (some (.tu [(.t Qah (0,(0,()))),(.t tI 19)],[])) (br (ilt p2 0) (some (.tu [(.t Qah (0,(0,()))),(.t tI 2)],[])) (br (igt p2 40000) (some (.tu [(.t Qah (0,(0,()))),(.t tI 2)],[])) (br (ilt p3 1) (some (.tu [(.t Qah (0,(0,()))),(.t tI 2)],[])) (br (igt p3 4) (some (.tu [(.t Qah (0,(0,()))),(.t tI 2)],[])) (br (ilt a6 p0.2.1) (some (.tu [(.t Qah (0,(0,()))),(.t tI 27)],[])) (br (ilt a6 p1.2.1) (some (.tu [(.t Qah (0,(0,()))),(.t tI 27)],[])) (br (p1.2.2.2.2.1) (br (okPos (QgL a1) a1) (br (ilt a8 0) (some (.tu [(.t Qah (0,(0,()))),(.t tI 28)],[])) (br (cIx (QgL a1) a8) (br (idnOk p1 a3) (br (cIx p1.2.2.2.2.2.1 ((Qbl p1 a3).1)) (br (QiY a4 p0.2.2.2.2.2.2.1 p0.2.2.2.2.2.2.2.1 p2 p1.1) (br (ine (chkCh a4 p0.2.2.2.2.2.2.1 p0.2.2.2.2.2.2.2.1 p2 p1.1) 0) (some (.tu [(.t Qah (0,(0,()))),(.t tI 29)],[])) (br (cIx (QgL a1) a8) (some (.tu [(.t Qah (a6,(a3,()))),(.t tI 0)],[])) none)) none) none) none) none)) none) (br (okPos (QeK a1) a1) (br (ilt a7 0) (some (.tu [(.t Qah (0,(0,()))),(.t tI 28)],[])) (br (cIx (QeK a1) a7) (br (idnOk p1 a2) (br (cIx p1.2.2.2.2.2.1 ((Qbl p1 a2).1)) (br (QiY a5 p0.2.2.2.2.2.2.1 p0.2.2.2.2.2.2.2.1 p2 p1.1) (br (ine (chkCh a5 p0.2.2.2.2.2.2.1 p0.2.2.2.2.2.2.2.1 p2 p1.1) 0) (some (.tu [(.t Qah (0,(0,()))),(.t tI 29)],[])) (br (cIx (QeK a1) a7) (some (.tu [(.t Qah (a6,(a2,()))),(.t tI 0)],[])) none)) none) none) none) none)) none))))))))) none
theorem e_f83 (p0 p1:Endpoint)(p2 p3:Int)(p4:List Int):runF g_f83 QFz QTc false [.t Qad p0, .t Qad p1, .t tI p2, .t tI p3, .t (.sl tI) p4] []=r_f83 p0 p1 p2 p3 p4:=by kernel_rfl
theorem en_f83:Qag Tryz.prog 83:= .inr ⟨by decide,_,Tryz.func83,by kernel_rfl,by kernel_rfl⟩
theorem gk_f83:GOk Tryz.prog g_f83:=Qak _ (gA (gC QMy QKC (gC en_f57 ms_f57 (gC QMu QKy (gC QZ6 QV0 (gC QZ5 QVZ (gC QEO QEn gN)))))))
theorem lk_f83:QFz.lok g_f83:=by repeat (first | exact trivial | refine ⟨?_, ?_⟩)
theorem s_f83 (c s:Endpoint)(d m:Int)(o:List Int)(h:QuZ c s d m o=true):r_f83 c s d m o=some (.tu [.t Qah (withF c s d m o).1, .t tI (withF c s d m o).2],[]):=by
 simp only [QuZ,Bool.and_eq_true,decide_eq_true_eq] at h
 obtain ⟨hr,ho⟩:=h
 obtain ⟨hc,hs⟩:=Bool.and_eq_true_iff.1 hr
 have hs':=Qd1 hs
 have hle:lenEE s o=true:=decide_eq_true ⟨hs'.2.2.1,hs'.2.1,ho⟩
 have hid: ∀ x,idnOk s x=true:=fun x=>decide_eq_true hs'.2.2.1
 have hb1: ∀ v,okPos (QaJ s) (s,(v,(o,())))=true:=fun v=>Bool.and_eq_true_iff.2 ⟨decide_eq_true hs'.2.1,hle⟩
 have hb2: ∀ v,okPos o (s,(v,(o,())))=true:=fun v=>Bool.and_eq_true_iff.2 ⟨decide_eq_true ho,hle⟩
 have hp: ∀ v,possF (s,(v,(o,())))=posE s o v:=fun v=>rfl
 simp only [r_f83,eEta,QgL,QeK,tkE,tkO,hr,Qab,hb1,hb2,hid,ixPos,hp]
 show _=outKI (withF c s d m o)
 have hg: ∀ (l:List Int) (k:Nat),lgt tI l k=l.getD k 0:=fun _ _=>rfl
 unfold withF
 refine brT rfl<|brT rfl<|brT rfl<|brT rfl<|brT rfl<|brT rfl<|brT rfl ?_
 cases hw:s.2.2.2.2.1 with
 | true=>
  rw [Qab]
  rw [show outL s o=QaJ s by unfold outL; rw [hw]; rfl]
  unfold overF
  cases hq:fstG (posE s o (imn m s.2.2.1)) (QaJ s) with
  | none=>rfl
  | some k=>
   obtain ⟨hk,hp⟩:=QMg hq
   obtain ⟨h1,h2⟩:=QKe (d:=d) hc hs hp
   simp only [show ilt (k:Int) 0=false from decide_eq_false (by omega),Qae,Qax,hk,decide_true,Qab,Int.toNat_natCast,hg,h1]
   refine Eq.trans (congrArg (fun b=>br b _ _) h2) ?_
   rw [Qab]
   exact brT rfl rfl
 | false=>
  rw [Qae]
  rw [show outL s o=o by unfold outL; rw [hw]; rfl]
  unfold overF
  cases hq:fstG (posE s o (imn m s.2.2.1)) (o) with
  | none=>rfl
  | some k=>
   obtain ⟨hk,hp⟩:=QMg hq
   obtain ⟨h1,h2⟩:=QKe (d:=d) hc hs hp
   simp only [show ilt (k:Int) 0=false from decide_eq_false (by omega),Qae,Qax,hk,decide_true,Qab,Int.toNat_natCast,hg,h1]
   refine Eq.trans (congrArg (fun b=>br b _ _) h2) ?_
   rw [Qab]
   exact brT rfl rfl
def QSJ:Ent:=spec (.pr Qad (.pr Qad (.pr tI (.pr tI (.pr (.sl tI) .nil))))) (fun x=>(QuZ x.1 x.2.1 x.2.2.1 x.2.2.2.1 x.2.2.2.2.1)) (fun x=>(.tu [(.t Qah ((withF x.1 x.2.1 x.2.2.1 x.2.2.2.1 x.2.2.2.2.1).1)),(.t tI ((withF x.1 x.2.1 x.2.2.1 x.2.2.2.1 x.2.2.2.2.1).2))]))
theorem ms_f83:Meets Tryz.prog 83 (strip QSJ):=Qaf (R:=runF g_f83 QFz QTc false) (mG Tryz.func83 (by kernel_rfl) Tryz.ntmps83 (by kernel_rfl) gk_f83 lk_f83) fun x hok=>(e_f83 x.1 x.2.1 x.2.2.1 x.2.2.2.1 x.2.2.2.2.1).trans (s_f83 x.1 x.2.1 x.2.2.1 x.2.2.2.1 x.2.2.2.2.1 hok)
def Qbz (c s:Endpoint)(d:Int):Keep×Int:=withF c s d c.2.2.1 (QaJ c)
def Qf8 (c s:Endpoint)(_d:Int):Bool:=QbX c s
theorem QhF {c:Endpoint}(h:QaS c=true):1≤c.2.1∧c.2.1≤c.2.2.1∧c.2.2.1≤4:=by
 simp only [QaS,Bool.and_eq_true,Bool.not_eq_true'] at h
 obtain ⟨_,h1,h2,h3,_⟩:=h
 have h1:=of_decide_eq_false h1
 have h2:=of_decide_eq_false h2
 have h3:=of_decide_eq_false h3
 omega
noncomputable def QFU:TC:=(.sq (.reg (rT Tryz.f42 0)) (.sq (.sq (.reg (rT Tryz.f42 1)) (.cd (.t 11) (.sq (.reg (rT Tryz.f42 2)) .rt) .sk)) (.sq (.reg (rT Tryz.f42 3)) .rt)))
def QTx:List (RV×Option Ty):=[((.c 6 true 2),some Qah),((.t 7),some tI)]
def g_f42:G:=⟨TYs,[],23,EL [(82,QA9),(83,QSJ)],keeps,(fun _ _=>none),IL [],RL []⟩
def r_f42 (p0 p1:Endpoint)(p2:Int):Option (V×List VO):=
 let a1:=withF p0 p1 p2 p0.2.2.1 p0.2.2.2.1
 br (QbX p0 p1) (br (!(Qgi p0 p1)) (some (.tu [(.t Qah (0,(0,()))),(.t tI 19)],[])) (br (QuZ p0 p1 p2 p0.2.2.1 p0.2.2.2.1) (some (.tu [(.t Qah (a1.1)),(.t tI (a1.2))],[])) none)) none
theorem e_f42 (p0 p1:Endpoint)(p2:Int):runF g_f42 QFU QTx false [.t Qad p0, .t Qad p1, .t tI p2] []=r_f42 p0 p1 p2:=by kernel_rfl
theorem QUu:Qag Tryz.prog 42:= .inr ⟨by decide,_,Tryz.func42,by kernel_rfl,by kernel_rfl⟩
theorem gk_f42:GOk Tryz.prog g_f42:=Qak _ (gA (gC QMu QKy (gC en_f83 ms_f83 gN)))
theorem lk_f42:QFU.lok g_f42:=by repeat (first | exact trivial | refine ⟨?_, ?_⟩)
theorem s_f42 (c s:Endpoint)(d:Int)(h:Qf8 c s d=true):r_f42 c s d=some (.tu [.t Qah (Qbz c s d).1, .t tI (Qbz c s d).2],[]):=by
 have hr:QbX c s=true:=h
 have hw:QuZ c s d c.2.2.1 (QaJ c)=true:=Bool.and_eq_true_iff.2 ⟨h,decide_eq_true (Qd1 (Bool.and_eq_true_iff.1 h).1).2.1⟩
 simp only [r_f42,hr,hw,Qab]
 show _=outKI (Qbz c s d)
 unfold Qbz withF
 cases Qgi c s <;> rfl
def QGk:Ent:=spec (.pr Qad (.pr Qad (.pr tI .nil))) (fun x=>(Qf8 x.1 x.2.1 x.2.2.1)) (fun x=>(.tu [(.t Qah ((Qbz x.1 x.2.1 x.2.2.1).1)),(.t tI ((Qbz x.1 x.2.1 x.2.2.1).2))]))
theorem QUb:Meets Tryz.prog 42 (strip QGk):=Qaf (R:=runF g_f42 QFU QTx false) (mG Tryz.func42 (by kernel_rfl) Tryz.ntmps42 (by kernel_rfl) gk_f42 lk_f42) fun x hok=>(e_f42 x.1 x.2.1 x.2.2.1).trans (s_f42 x.1 x.2.1 x.2.2.1 hok)
def usesL (e:Endpoint)(c:Int):List Keep:=
 [bif ieq (QaH c).1.2.2.1.2.1 0 then ((QaH c).1.2.2.1.1,((lgt Qaw (eIds e) (Qbl e c).1.toNat).1.2.1,())) else (QaH c).1.2.2.1,(lgt Qaw (eIds e) (Qbl e c).1.toNat).1,(QaH c).1.2.2.2.2.1,(QaH c).1.2.2.2.2.2.1]
def usesF (e:Endpoint)(o:Keep):List Keep×Int:=
 bif !QaS e then ([],19) else bif ine (QaH o.2.1).2 0 then ([],(QaH o.2.1).2) else bif !(Qbl e o.2.1).2 then ([],4) else (usesL e o.2.1,0)
def QA4 (e:Endpoint)(_o:Keep):Bool:=Qa8 e
def outLI (p:List Keep×Int):Option (V×List VO):=some (.tu [.t (.sl Qah) p.1, .t tI p.2],[])
theorem QUH {e:Endpoint}{c:Int}(h:(Qbl e c).2=true):cIx (eIds e) (Qbl e c).1=true:=by
 obtain ⟨k,hk,hl⟩:=QB3 h
 rw [hk,Qax]
 exact decide_eq_true hl
noncomputable def QFO:TC:=(.sq (.reg (rT Tryz.f50 0)) (.sq (.sq (.reg (rT Tryz.f50 1)) (.sq (.reg (rT Tryz.f50 2)) (.cd (.t 15) (.sq (.reg (rT Tryz.f50 3)) .rt) .sk))) (.sq (.reg (rT Tryz.f50 4)) (.sq (.sq (.reg (rT Tryz.f50 5)) (.cd (.t 24) (.sq (.reg (rT Tryz.f50 6)) .rt) .sk)) (.sq (.reg (rT Tryz.f50 7)) (.sq (.sq (.reg (rT Tryz.f50 8)) (.cd (.t 34) (.sq (.reg (rT Tryz.f50 9)) .rt) .sk)) (.sq (.reg (rT Tryz.f50 10)) (.sq (.sq (.reg (rT Tryz.f50 11)) (.cd (.t 44) (.reg (rT Tryz.f50 12)) .sk)) (.sq (.reg (rT Tryz.f50 13)) .rt)))))))))
def QTr:List (RV×Option Ty):=[((.t 4),some (.sl Qah)),((.t 5),some tI)]
def g_f50:G:=⟨TYs,[],57,EL [(56,QBc),(76,QBa),(85,Qvb)],keeps,(fun _ _=>none),IL [],RL []⟩
def r_f50 (p0:Endpoint)(p1:Keep):Option (V×List VO):=
 let a1:=((lgt Qaw p0.2.2.2.2.2.1 (Int.toNat ((Qbl p0 p1.2.1).1))).1)
 let a2:=((((QaH p1.2.1).1).2).2)
 let a3:=(((((a2.2).2).2).1).1,((((((a2.2).2).2).1).2).1,()))
 let a4:=((((a2.2).2).1).1,(((((a2.2).2).1).2).1,()))
 let a5:=((a1.2).1,())
 br (Qa8 p0) (br (ine (Qe2 p0) 0) (some (.tu [(.t (.sl Qah) ([]:List Keep)),(.t tI (Qe2 p0))],[])) (br (ine ((QaH p1.2.1).2) 0) (some (.tu [(.t (.sl Qah) ([]:List Keep)),(.t tI ((QaH p1.2.1).2))],[])) (br (idnOk p0 p1.2.1) (br (!((Qbl p0 p1.2.1).2)) (some (.tu [(.t (.sl Qah) ([]:List Keep)),(.t tI 4)],[])) (br (cIx p0.2.2.2.2.2.1 ((Qbl p0 p1.2.1).1)) (br (ieq (((a2.1).2).1) 0) (some (.tu [(.t (.sl Qah) ([((a2.1).1,a5),(a1.1,a5),a4,a3])),(.t tI 0)],[])) (some (.tu [(.t (.sl Qah) ([((a2.1).1,(((a2.1).2).1,())),(a1.1,a5),a4,a3])),(.t tI 0)],[]))) none)) none))) none
theorem e_f50 (p0:Endpoint)(p1:Keep):runF g_f50 QFO QTr false [.t Qad p0, .t Qah p1] []=r_f50 p0 p1:=by kernel_rfl
theorem en_f50:Qag Tryz.prog 50:= .inr ⟨by decide,_,Tryz.func50,by kernel_rfl,by kernel_rfl⟩
theorem gk_f50:GOk Tryz.prog g_f50:=Qak _ (gA (gC QMy QKC (gC QMw QKA (gC QC3 QBA gN))))
theorem lk_f50:QFO.lok g_f50:=by repeat (first | exact trivial | refine ⟨?_, ?_⟩)
theorem s_f50 (e:Endpoint)(o:Keep)(h:QA4 e o=true):r_f50 e o=some (.tu [.t (.sl Qah) (usesF e o).1, .t tI (usesF e o).2],[]):=by
 have hr:Qa8 e=true:=h
 have hid: ∀ x,idnOk e x=true:=fun x=>decide_eq_true (Qd1 hr).2.2.1
 simp only [r_f50,hr,hid,Qab,Qxh]
 show _=outLI (usesF e o)
 unfold usesF Qe2
 cases QaS e with
 | false=>rfl
 | true=>
  rw [Bool.not_true,Qae,cond_false]
  cases ine (QaH o.2.1).2 0 with
  | true=>rfl
  | false=>
   rw [Qae,cond_false]
   cases hi:(Qbl e o.2.1).2 with
   | false=>rfl
   | true=>
    rw [Bool.not_true,Qae,cond_false]
    refine Eq.trans (congrArg (fun b=>br b _ _) (QUH hi)) ?_
    rw [Qab]
    unfold usesL
    cases ieq (QaH o.2.1).1.2.2.1.2.1 0 <;> rfl
def QSQ:Ent:=spec (.pr Qad (.pr Qah .nil)) (fun x=>(QA4 x.1 x.2.1)) (fun x=>(.tu [(.t (.sl Qah) ((usesF x.1 x.2.1).1)),(.t tI ((usesF x.1 x.2.1).2))]))
theorem ms_f50:Meets Tryz.prog 50 (strip QSQ):=Qaf (R:=runF g_f50 QFO QTr false) (mG Tryz.func50 (by kernel_rfl) Tryz.ntmps50 (by kernel_rfl) gk_f50 lk_f50) fun x hok=>(e_f50 x.1 x.2.1).trans (s_f50 x.1 x.2.1 hok)
end
end Go.Proofs.YtckcgijklnloiaaGreat.K
namespace Go.Proofs.YtckcgijklnloiaaGreat.K
open Go.RowKit
noncomputable section
theorem brN {β:Type}{p q:Bool}{X:Option β}:br p (br q X none) none=br (p&&q) X none:=by cases p <;> rfl
def Qa5 (c:Int):Int:=bif ine (QaH c).2 0 then 0 else strF (QaH c).1.2.2.2.2.1
noncomputable def Qyi:TC:=(.sq (.reg (rT Tryz.f153 0)) (.sq (.reg (rT Tryz.f153 1)) (.sq (.sq (.reg (rT Tryz.f153 2)) (.cd (.t 11) (.sq (.reg (rT Tryz.f153 3)) .rt) .sk)) (.sq (.reg (rT Tryz.f153 4)) .rt))))
def QIq:List (RV×Option Ty):=[((.t 2),some tI)]
def QCx:G:=⟨TYs,[],15,EL [(103,QHr),(170,QyX)],keeps,(fun _ _=>none),IL [],RL []⟩
def QJM (p0:Int):Option (V×List VO):=br (ine ((QaH p0).2) 0) (some (.t tI 0,[])) (some (.t tI (strF (((((((QaH p0).1).2).2).2).2).1)),[]))
theorem e_f153 (p0:Int):runF QCx Qyi QIq false [.t tI p0] []=QJM p0:=by kernel_rfl
theorem QZS:Qag Tryz.prog 153:= .inr ⟨by decide,_,Tryz.func153,by kernel_rfl,by kernel_rfl⟩
theorem QYM:GOk Tryz.prog QCx:=Qak _ (gA (gC Q0g QWa (gC QMP QKL gN)))
theorem QW5:Qyi.lok QCx:=by repeat (first | exact trivial | refine ⟨?_, ?_⟩)
theorem s_f153 (c:Int):QJM c=some (.t tI (Qa5 c),[]):=by
 simp only [QJM]
 unfold Qa5
 cases ine (QaH c).2 0 <;> rfl
def QG0:Ent:=spec (.pr tI .nil) (fun x=>true) (fun x=>(.t tI (Qa5 x.1)))
theorem QVM:Meets Tryz.prog 153 (strip QG0):=Qaf (R:=runF QCx Qyi QIq false) (mG Tryz.func153 (by kernel_rfl) Tryz.ntmps153 (by kernel_rfl) QYM QW5) fun x _=>(e_f153 x.1).trans (s_f153 x.1)
def insK (x:Int)(l:List Int):Nat→Nat
 | 0=>0
 | k+1=>if ilt (Qa5 (l.getD k 0)) (Qa5 x)=true then insK x l k else k+1
theorem QAi (x:Int)(l:List Int): ∀ k,insK x l k≤k
 | 0=>Nat.le_refl _
 | k+1=>by
  unfold insK
  split
  ·exact Nat.le_succ_of_le (QAi x l k)
  ·exact Nat.le_refl _
def insS (l:List Int)(x:Int):List Int:=(l.take (insK x l l.length)++[x])++l.drop (insK x l l.length)
theorem QB2 (l:List Int)(x:Int):(insS l x).length=l.length+1:=by
 have:=QAi x l l.length
 simp only [insS,List.length_append,List.length_take,List.length_drop,List.length_singleton]
 omega
def sortS (l:List Int):List Int:=l.foldl insS []
def lenS (l:List Int):Bool:=decide (l.length≤1000)
noncomputable def QNf:List DO:=dT Tryz.f112 5
noncomputable def QNe:List DO:=dT Tryz.f112 7
def QhA:Fg:=⟨[(0,some (.sl tI)),(3,none),(4,some tI),(5,some tI)],[(3,none),(32,none),(36,none),(42,none),(46,none)]⟩
noncomputable def QjB:TC:=(.sq (.sq (.dr QNf [(0,[]),(1,[]),(2,[]),(3,[3,32,36,42,46]),(4,[]),(5,[]),(6,[3,32,36,42,46]),(7,[3,32,36,42,46]),(8,[]),(9,[]),(10,[]),(11,[]),(12,[]),(13,[]),(14,[]),(15,[])] (.of [0,1,2,3,4,5,6,7,8,9,10,11,12,13,14,15])) (.cd (.t 29) .sk (.fg ⟨[(0,some (.sl tI)),(3,none),(4,some tI),(5,some tI)],[(3,none),(32,none),(36,none),(42,none),(46,none)]⟩ (.ex 2)))) (.bk 3 (.reg (rT Tryz.f112 6))))
def Qhz:Fg:=⟨[(0,some (.sl tI)),(3,none),(4,some tI)],[(3,none),(32,none),(36,none),(42,none),(46,none)]⟩
noncomputable def QjA:TC:=(.mv [(32,3)] (.sq (.sq (.reg (rT Tryz.f112 3)) (.cd (.t 9) .sk (.fg ⟨[(3,none)],[(3,none),(32,none),(36,none),(42,none),(46,none)]⟩ (.ex 0)))) (.sq (.bk 1 (.sq (.reg (rT Tryz.f112 4)) (.sq (.bk 2 (.lp 0 QhA QjB)) (.dr QNe [(0,[32,5032,10032,15032]),(1,[3,32,36,42,46]),(2,[]),(3,[3,32,36,42,46]),(4,[3,32,36,42,46,5036,10036,15036]),(5,[]),(6,[]),(7,[]),(8,[]),(9,[]),(10,[32,36,42,5042,10042,15042]),(11,[3,32,36,42,46]),(12,[]),(13,[3,32,36,42,46]),(14,[3,32,36,42,46,5046,10046,15046]),(15,[32,36,42,46])] (.one 2 (.one 5 (.one 6 (.one 7 (.one 8 (.one 9 (.one 12 (.alt 0 (.one 1 (.one 3 (.alt 4 (.alt 10 (.of [11,13,14,15]) (.one 11 (.alt 10 (.of [13,14,15]) (.of [13,10,14,15])))) (.one 11 (.alt 4 (.alt 10 (.of [13,14,15]) (.of [13,10,14,15])) (.of [13,4,10,14,15])))))) (.alt 1 (.alt 0 (.one 3 (.alt 4 (.alt 10 (.of [11,13,14,15]) (.one 11 (.alt 10 (.of [13,14,15]) (.of [13,10,14,15])))) (.one 11 (.alt 4 (.alt 10 (.of [13,14,15]) (.of [13,10,14,15])) (.of [13,4,10,14,15]))))) (.alt 3 (.alt 0 (.alt 4 (.alt 10 (.of [11,13,14,15]) (.one 11 (.alt 10 (.of [13,14,15]) (.of [13,10,14,15])))) (.one 11 (.alt 4 (.alt 10 (.of [13,14,15]) (.of [13,10,14,15])) (.of [13,4,10,14,15])))) (.one 11 (.alt 0 (.alt 4 (.alt 10 (.of [13,14,15]) (.of [13,10,14,15])) (.of [13,4,10,14,15])) (.of [13,0,4,10,14,15])))) (.one 11 (.alt 0 (.one 3 (.alt 4 (.alt 10 (.of [13,14,15]) (.of [13,10,14,15])) (.of [13,4,10,14,15]))) (.alt 3 (.alt 0 (.alt 4 (.alt 10 (.of [13,14,15]) (.of [13,10,14,15])) (.of [13,4,10,14,15])) (.of [13,0,4,10,14,15])) (.one 13 (.alt 0 (.of [3,4,10,14,15]) (.of [3,0,4,10,14,15])))))))) (.one 11 (.alt 0 (.one 1 (.one 3 (.alt 4 (.alt 10 (.of [13,14,15]) (.of [13,10,14,15])) (.of [13,4,10,14,15])))) (.alt 1 (.alt 0 (.one 3 (.alt 4 (.alt 10 (.of [13,14,15]) (.of [13,10,14,15])) (.of [13,4,10,14,15]))) (.alt 3 (.alt 0 (.alt 4 (.alt 10 (.of [13,14,15]) (.of [13,10,14,15])) (.of [13,4,10,14,15])) (.of [13,0,4,10,14,15])) (.one 13 (.alt 0 (.of [3,4,10,14,15]) (.of [3,0,4,10,14,15]))))) (.one 13 (.alt 0 (.of [1,3,4,10,14,15]) (.one 1 (.alt 0 (.of [3,4,10,14,15]) (.of [3,0,4,10,14,15]))))))))))))))))))))) (.reg (rT Tryz.f112 8)))))
noncomputable def QyJ:TC:=(.sq (.reg (rT Tryz.f112 0)) (.sq (.reg (rT Tryz.f112 1)) (.sq (.sq (.reg (rT Tryz.f112 2)) (.bk 0 (.nw 3 3 (.lp 1 Qhz QjA)))) (.sq (.reg (rT Tryz.f112 9)) .rt))))
def QIR:List (RV×Option Ty):=[((.t 2),none)]
abbrev QpR:Sh:=⟨[(0, .ty (.sl tI)),(3, .ms 3),(4, .ty tI),(5, .ty tI)],[(3, .arr 3 tI),(32, .no),(36, .no),(42, .no),(46, .no)]⟩
def QoZ (x0:List Int)(x4 x5:Int)(y3:List Int):VS:=QpR.st (x0,(),x4,x5,()) (y3,(),(),(),(),())
abbrev QvV:Sh:=⟨[(0, .ty (.sl tI)),(3, .ms 3),(4, .ty tI),(5, .ty tI)],[(3, .arr 3 tI),(32, .no),(36, .no),(42, .no),(46, .no)]⟩
def Qca (x0:List Int)(x4 x5:Int)(y3:List Int):VS:=QvV.st (x0,(),x4,x5,()) (y3,(),(),(),(),())
abbrev QpQ:Sh:=⟨[(0, .ty (.sl tI)),(3, .ms 3),(4, .ty tI)],[(3, .arr 3 tI),(32, .no),(36, .no),(42, .no),(46, .no)]⟩
def QoY (x0:List Int)(x4:Int)(y3:List Int):VS:=QpQ.st (x0,(),x4,()) (y3,(),(),(),(),())
abbrev QvU:Sh:=⟨[(3, .ms 3)],[(3, .arr 3 tI),(32, .no),(36, .no),(42, .no),(46, .no)]⟩
def QeF (y3:List Int):VS:=QvU.st ((),()) (y3,(),(),(),(),())
def QSu:VS→Option (Bool×List (Bool×Exit×VS)):=mkL QpR (fun x y=>(decide (0≤x.2.2.2.1∧x.2.2.2.1≤y.1.length∧y.1.length≤1000)&&cIx x.1 x.2.2.1)) (fun x y=>[(true, .exit 2,Qca (x.1) (x.2.2.1) ((insK (lgt tI x.1 x.2.2.1.toNat) y.1 x.2.2.2.1.toNat:Nat):Int) (y.1))])
def QSt:VS→Option (Bool×List (Bool×Exit×VS)):=mkL QpQ (fun x y=>(decide (0≤x.2.2.1∧x.2.2.1≤x.1.length∧x.1.length≤1000∧y.1.length≤x.2.2.1.toNat))) (fun x y=>[(true, .exit 0,QeF ((x.1.drop x.2.2.1.toNat).foldl insS y.1))])
def Qgn:G:=⟨TYs,[32],48,EL [(153,QG0)],keeps,(Ls [QSu,QSt]),IL [],RL []⟩
def QDL (x0:List Int)(x4 x5:Int)(y3:List Int):Option (Exit×VS):=
 let a1:=isub .i64 x5 1
 br (igt x5 0) (br (cIx y3 a1) (br (cLd y3 (Int.toNat a1)) (br (cIx x0 x4) (br (ilt (Qa5 (lgt tI y3 (Int.toNat a1))) (Qa5 (lgt tI x0 (Int.toNat x4)))) (some (.normal,QoZ x0 x4 a1 y3)) (some (.exit 2,Qca x0 x4 x5 y3))) none) none) none) (some (.exit 2,Qca x0 x4 x5 y3))
noncomputable def Qko (x0:List Int)(x4 x5:Int)(y3:List Int):Option (Exit×VS):=loopF (Qai Qgn QhA QjB) (QoZ x0 x4 x5 y3)
noncomputable def QnN (x0:List Int)(x4 x5:Int)(y3:List Int):Option (Exit×VS):=
 let a1:=isub .i64 x5 1
 br (igt x5 0) (br (cIx y3 a1) (br (cLd y3 (Int.toNat a1)) (br (cIx x0 x4) (br (ilt (Qa5 (lgt tI y3 (Int.toNat a1))) (Qa5 (lgt tI x0 (Int.toNat x4)))) (Qko x0 x4 a1 y3) (some (.exit 2,Qca x0 x4 x5 y3))) none) none) none) (some (.exit 2,Qca x0 x4 x5 y3))
def QkS (x0:List Int)(x4 x5:Int)(y3:List Int):Option (Exit×VS):=some (.exit 2,Qca (x0) (x4) ((insK (lgt tI x0 x4.toNat) y3 x5.toNat:Nat):Int) (y3))
theorem QOb (x0:List Int)(x4 x5:Int)(y3:List Int):Qai Qgn QhA QjB (QoZ x0 x4 x5 y3)=QDL x0 x4 x5 y3:=by kernel_rfl
theorem QwU (x0:List Int)(x4 x5:Int)(y3:List Int):Qko x0 x4 x5 y3=QnN x0 x4 x5 y3:=(Qan _ _).trans (by
 rw [QOb]
 simp only [QDL,QnN,QaA,nxt_n,nxt_r,nxt_e,nxt_0]
 rfl)
def Qik (x0:List Int)(x4:Int)(y3:List Int):Option (Exit×VS):=
 let a1:=((insK (lgt tI x0 x4.toNat) y3 (llen y3).toNat:Nat):Int)
 let a2:=(wnL tI (y3) (Int.toNat a1) (Int.toNat ((List.length (y3):Nat):Int) - Int.toNat a1))
 let a3:=wnL tI (y3) (Int.toNat 0) (Int.toNat a1 - Int.toNat 0)
 let a4:=lgt tI (x0) (Int.toNat (x4))
 br (cApp ((([]:List Int)++a3)++([a4])) a2 8) (some (.normal,QoY (x0) (iadd .i64 (x4) 1) (((([]:List Int)++a3)++([a4]))++a2))) none
def Qil (x0:List Int)(x4:Int)(y3:List Int):Option (Exit×VS):=
 let a1:=((insK (lgt tI x0 x4.toNat) y3 (llen y3).toNat:Nat):Int)
 br (cApp (([]:List Int)++(wnL tI (y3) (Int.toNat 0) (Int.toNat a1 - Int.toNat 0))) ([(lgt tI (x0) (Int.toNat (x4)))]) 8) (br (cWn (y3) a1 ((List.length (y3):Nat):Int)) (Qik x0 x4 y3) none) none
def Qii (x0:List Int)(x4:Int)(y3:List Int):Option (Exit×VS):=br (cApp (([]:List Int)++(wnL tI (y3) (Int.toNat 0) (Int.toNat ((insK (lgt tI x0 x4.toNat) y3 (llen y3).toNat:Nat):Int) - Int.toNat 0))) ([(lgt tI (x0) (Int.toNat (x4)))]) 8) (Qik x0 x4 y3) none
def Qij (x0:List Int)(x4:Int)(y3:List Int):Option (Exit×VS):=frk (Qil x0 x4 y3) (br (cWn (y3) ((insK (lgt tI x0 x4.toNat) y3 (llen y3).toNat:Nat):Int) ((List.length (y3):Nat):Int)) (Qii x0 x4 y3) none)
def Qig (x0:List Int)(x4:Int)(y3:List Int):Option (Exit×VS):=br (cApp ([]:List Int) (wnL tI (y3) (Int.toNat 0) (Int.toNat ((insK (lgt tI x0 x4.toNat) y3 (llen y3).toNat:Nat):Int) - Int.toNat 0)) 8) (Qii x0 x4 y3) none
def Qih (x0:List Int)(x4:Int)(y3:List Int):Option (Exit×VS):=br (cWn (y3) ((insK (lgt tI x0 x4.toNat) y3 (llen y3).toNat:Nat):Int) ((List.length (y3):Nat):Int)) (Qig x0 x4 y3) none
def Qfm (x0:List Int)(x4:Int)(y3:List Int):Option (Exit×VS):=frk (br (cApp ([]:List Int) (wnL tI (y3) (Int.toNat 0) (Int.toNat ((insK (lgt tI x0 x4.toNat) y3 (llen y3).toNat:Nat):Int) - Int.toNat 0)) 8) (Qij x0 x4 y3) none) (Qih x0 x4 y3)
def Qim (x0:List Int)(x4:Int)(y3:List Int):Option (Exit×VS):=frk (br (cApp ([]:List Int) (wnL tI (y3) (Int.toNat 0) (Int.toNat ((insK (lgt tI x0 x4.toNat) y3 (llen y3).toNat:Nat):Int) - Int.toNat 0)) 8) (frk (Qil x0 x4 y3) (Qij x0 x4 y3)) none) (Qfm x0 x4 y3)
def Qin (x0:List Int)(x4:Int)(y3:List Int):Option (Exit×VS):=br (cWn (y3) 0 ((insK (lgt tI x0 x4.toNat) y3 (llen y3).toNat:Nat):Int)) (Qim x0 x4 y3) none
def Qgd (x0:List Int)(x4:Int)(y3:List Int):Option (Exit×VS):=frk (Qfm x0 x4 y3) (Qih x0 x4 y3)
def Qgb (x0:List Int)(x4:Int)(y3:List Int):Option (Exit×VS):=br (cWn (y3) 0 ((insK (lgt tI x0 x4.toNat) y3 (llen y3).toNat:Nat):Int)) (Qfm x0 x4 y3) none
def Qd2 (x0:List Int)(x4:Int)(y3:List Int):Option (Exit×VS):=br (cWn (y3) 0 ((insK (lgt tI x0 x4.toNat) y3 (llen y3).toNat:Nat):Int)) (Qig x0 x4 y3) none
def Qga (x0:List Int)(x4:Int)(y3:List Int):Option (Exit×VS):=frk (Qd2 x0 x4 y3) (Qd2 x0 x4 y3)
def Qgc (x0:List Int)(x4:Int)(y3:List Int):Option (Exit×VS):=
 let a1:=((insK (lgt tI x0 x4.toNat) y3 (llen y3).toNat:Nat):Int)
 frk (Qgb x0 x4 y3) (frk (br (cWn (y3) 0 a1) (Qgd x0 x4 y3) none) (br (cWn (y3) a1 ((List.length (y3):Nat):Int)) (Qga x0 x4 y3) none))
def QuS (x0:List Int)(x4:Int)(y3:List Int):Option (Exit×VS):=
 let a1:=((insK (lgt tI x0 x4.toNat) y3 (llen y3).toNat:Nat):Int)
 br (ilt x4 (llen x0)) (br (decide (0≤(llen y3)∧(llen y3)≤y3.length∧y3.length≤1000)&&cIx x0 x4) (br (cIx (x0) (x4)) (frk (Qin x0 x4 y3) (frk (frk (Qin x0 x4 y3) (frk (br (cWn (y3) 0 a1) (frk (Qim x0 x4 y3) (Qgd x0 x4 y3)) none) (Qgc x0 x4 y3))) (frk (Qgb x0 x4 y3) (frk (Qgc x0 x4 y3) (br (cWn (y3) a1 ((List.length (y3):Nat):Int)) (frk (Qd2 x0 x4 y3) (Qga x0 x4 y3)) none))))) none) none) (some (.exit 0,QeF y3))
noncomputable def Qkn (x0:List Int)(x4:Int)(y3:List Int):Option (Exit×VS):=loopF (Qai Qgn Qhz QjA) (QoY x0 x4 y3)
noncomputable def QdG (x0:List Int)(x4:Int)(y3:List Int):Option (Exit×VS):=
 let a1:=((insK (lgt tI x0 x4.toNat) y3 (llen y3).toNat:Nat):Int)
 let a2:=(wnL tI (y3) (Int.toNat a1) (Int.toNat ((List.length (y3):Nat):Int) - Int.toNat a1))
 let a3:=wnL tI (y3) (Int.toNat 0) (Int.toNat a1 - Int.toNat 0)
 let a4:=lgt tI (x0) (Int.toNat (x4))
 br (cApp ((([]:List Int)++a3)++([a4])) a2 8) (Qkn (x0) (iadd .i64 (x4) 1) (((([]:List Int)++a3)++([a4]))++a2)) none
noncomputable def QdH (x0:List Int)(x4:Int)(y3:List Int):Option (Exit×VS):=
 let a1:=((insK (lgt tI x0 x4.toNat) y3 (llen y3).toNat:Nat):Int)
 br (cApp (([]:List Int)++(wnL tI (y3) (Int.toNat 0) (Int.toNat a1 - Int.toNat 0))) ([(lgt tI (x0) (Int.toNat (x4)))]) 8) (br (cWn (y3) a1 ((List.length (y3):Nat):Int)) (QdG x0 x4 y3) none) none
noncomputable def QdE (x0:List Int)(x4:Int)(y3:List Int):Option (Exit×VS):=br (cApp (([]:List Int)++(wnL tI (y3) (Int.toNat 0) (Int.toNat ((insK (lgt tI x0 x4.toNat) y3 (llen y3).toNat:Nat):Int) - Int.toNat 0))) ([(lgt tI (x0) (Int.toNat (x4)))]) 8) (QdG x0 x4 y3) none
noncomputable def QdF (x0:List Int)(x4:Int)(y3:List Int):Option (Exit×VS):=frk (QdH x0 x4 y3) (br (cWn (y3) ((insK (lgt tI x0 x4.toNat) y3 (llen y3).toNat:Nat):Int) ((List.length (y3):Nat):Int)) (QdE x0 x4 y3) none)
noncomputable def QdC (x0:List Int)(x4:Int)(y3:List Int):Option (Exit×VS):=br (cApp ([]:List Int) (wnL tI (y3) (Int.toNat 0) (Int.toNat ((insK (lgt tI x0 x4.toNat) y3 (llen y3).toNat:Nat):Int) - Int.toNat 0)) 8) (QdE x0 x4 y3) none
noncomputable def QdD (x0:List Int)(x4:Int)(y3:List Int):Option (Exit×VS):=br (cWn (y3) ((insK (lgt tI x0 x4.toNat) y3 (llen y3).toNat:Nat):Int) ((List.length (y3):Nat):Int)) (QdC x0 x4 y3) none
noncomputable def QcH (x0:List Int)(x4:Int)(y3:List Int):Option (Exit×VS):=frk (br (cApp ([]:List Int) (wnL tI (y3) (Int.toNat 0) (Int.toNat ((insK (lgt tI x0 x4.toNat) y3 (llen y3).toNat:Nat):Int) - Int.toNat 0)) 8) (QdF x0 x4 y3) none) (QdD x0 x4 y3)
noncomputable def QdI (x0:List Int)(x4:Int)(y3:List Int):Option (Exit×VS):=frk (br (cApp ([]:List Int) (wnL tI (y3) (Int.toNat 0) (Int.toNat ((insK (lgt tI x0 x4.toNat) y3 (llen y3).toNat:Nat):Int) - Int.toNat 0)) 8) (frk (QdH x0 x4 y3) (QdF x0 x4 y3)) none) (QcH x0 x4 y3)
noncomputable def QdJ (x0:List Int)(x4:Int)(y3:List Int):Option (Exit×VS):=br (cWn (y3) 0 ((insK (lgt tI x0 x4.toNat) y3 (llen y3).toNat:Nat):Int)) (QdI x0 x4 y3) none
noncomputable def QcL (x0:List Int)(x4:Int)(y3:List Int):Option (Exit×VS):=frk (QcH x0 x4 y3) (QdD x0 x4 y3)
noncomputable def QcJ (x0:List Int)(x4:Int)(y3:List Int):Option (Exit×VS):=br (cWn (y3) 0 ((insK (lgt tI x0 x4.toNat) y3 (llen y3).toNat:Nat):Int)) (QcH x0 x4 y3) none
noncomputable def Qb8 (x0:List Int)(x4:Int)(y3:List Int):Option (Exit×VS):=br (cWn (y3) 0 ((insK (lgt tI x0 x4.toNat) y3 (llen y3).toNat:Nat):Int)) (QdC x0 x4 y3) none
noncomputable def QcI (x0:List Int)(x4:Int)(y3:List Int):Option (Exit×VS):=frk (Qb8 x0 x4 y3) (Qb8 x0 x4 y3)
noncomputable def QcK (x0:List Int)(x4:Int)(y3:List Int):Option (Exit×VS):=
 let a1:=((insK (lgt tI x0 x4.toNat) y3 (llen y3).toNat:Nat):Int)
 frk (QcJ x0 x4 y3) (frk (br (cWn (y3) 0 a1) (QcL x0 x4 y3) none) (br (cWn (y3) a1 ((List.length (y3):Nat):Int)) (QcI x0 x4 y3) none))
noncomputable def QjR (x0:List Int)(x4:Int)(y3:List Int):Option (Exit×VS):=
 let a1:=((insK (lgt tI x0 x4.toNat) y3 (llen y3).toNat:Nat):Int)
 br (ilt x4 (llen x0)) (br (decide (0≤(llen y3)∧(llen y3)≤y3.length∧y3.length≤1000)&&cIx x0 x4) (br (cIx (x0) (x4)) (frk (QdJ x0 x4 y3) (frk (frk (QdJ x0 x4 y3) (frk (br (cWn (y3) 0 a1) (frk (QdI x0 x4 y3) (QcL x0 x4 y3)) none) (QcK x0 x4 y3))) (frk (QcJ x0 x4 y3) (frk (QcK x0 x4 y3) (br (cWn (y3) a1 ((List.length (y3):Nat):Int)) (frk (Qb8 x0 x4 y3) (QcI x0 x4 y3)) none))))) none) none) (some (.exit 0,QeF y3))
def QkR (x0:List Int)(x4:Int)(y3:List Int):Option (Exit×VS):=some (.exit 0,QeF ((x0.drop x4.toNat).foldl insS y3))
theorem QOa (x0:List Int)(x4:Int)(y3:List Int):Qai Qgn Qhz QjA (QoY x0 x4 y3)=QuS x0 x4 y3:=by kernel_rfl
theorem QwT (x0:List Int)(x4:Int)(y3:List Int):Qkn x0 x4 y3=QjR x0 x4 y3:=(Qan _ _).trans (by
 rw [QOa]
 first
 |(simp only [QuS,Qin,Qim,Qil,Qik,Qij,Qii,Qfm,Qih,Qig,Qgd,Qgc,Qgb,Qga,Qd2,QcU,QjR,QdJ,QdI,QdH,QdG,QdF,QdE,QcH,QdD,QdC,QcL,QcK,QcJ,QcI,Qb8,QcU,QaA,nxt_n,nxt_r,nxt_e,nxt_0]
   rfl)
 |(simp only [QuS,Qin,Qim,Qil,Qik,Qij,Qii,Qfm,Qih,Qig,Qgd,Qgc,Qgb,Qga,Qd2,QcU,QjR,QdJ,QdI,QdH,QdG,QdF,QdE,QcH,QdD,QdC,QcL,QcK,QcJ,QcI,Qb8,QcU]
   try generalize (cApp ((([]:List Int)++(wnL tI (y3) (Int.toNat 0) (Int.toNat (((insK (lgt tI x0 x4.toNat) y3 (llen y3).toNat:Nat):Int)) - Int.toNat 0)))++([(lgt tI (x0) (Int.toNat (x4)))])) (wnL tI (y3) (Int.toNat (((insK (lgt tI x0 x4.toNat) y3 (llen y3).toNat:Nat):Int))) (Int.toNat ((List.length (y3):Nat):Int) - Int.toNat (((insK (lgt tI x0 x4.toNat) y3 (llen y3).toNat:Nat):Int)))) 8)=cq0
   try generalize (cWn (y3) (((insK (lgt tI x0 x4.toNat) y3 (llen y3).toNat:Nat):Int)) ((List.length (y3):Nat):Int))=cq1
   try generalize (cApp (([]:List Int)++(wnL tI (y3) (Int.toNat 0) (Int.toNat (((insK (lgt tI x0 x4.toNat) y3 (llen y3).toNat:Nat):Int)) - Int.toNat 0))) ([(lgt tI (x0) (Int.toNat (x4)))]) 8)=cq2
   try generalize (cApp ([]:List Int) (wnL tI (y3) (Int.toNat 0) (Int.toNat (((insK (lgt tI x0 x4.toNat) y3 (llen y3).toNat:Nat):Int)) - Int.toNat 0)) 8)=cq3
   try generalize (cWn (y3) 0 (((insK (lgt tI x0 x4.toNat) y3 (llen y3).toNat:Nat):Int)))=cq4
   try generalize (cIx (x0) (x4))=cq5
   try generalize ((decide (0≤(llen y3)∧(llen y3)≤y3.length∧y3.length≤1000)&&cIx x0 x4))=cq6
   simp only [brN,QcU,Bool.and_assoc,Bool.and_comm,Bool.and_left_comm,Bool.and_self,Bool.and_self_left,QaA,nxt_n,nxt_r,nxt_e,nxt_0]
   try rfl))
def QT2 (p0:List Int):Option (V×List VO):=br (decide (0≤(0:Int)∧(0:Int)≤p0.length∧p0.length≤1000∧([]:List Int).length≤(0:Int).toNat)) (some (.ms 50000,[.arr 3 tI ((p0.drop (0:Int).toNat).foldl insS ([]:List Int))])) none
theorem e_f112 (p0:List Int):runF Qgn QyJ QIR true [.t (.sl tI) p0] []=QT2 p0:=by kernel_rfl
theorem Q0d:Qag Tryz.prog 112:= .inr ⟨by decide,_,Tryz.func112,by kernel_rfl,by kernel_rfl⟩
theorem QZd:GOk Tryz.prog Qgn:=Qak _ (gA (gC QZS QVM gN))
theorem QQs (x0:List Int)(x4 x5:Int)(y3:List Int)(h:(decide (0≤x5∧x5≤y3.length∧y3.length≤1000)&&cIx x0 x4)=true):Qko x0 x4 x5 y3=QkS x0 x4 x5 y3:=by
 obtain ⟨h,hc⟩:=Bool.and_eq_true_iff.1 h
 obtain ⟨h0,h1,h2⟩:=of_decide_eq_true h
 obtain ⟨k,rfl⟩:=Int.eq_ofNat_of_zero_le h0
 have key: ∀ k:Nat,k≤y3.length→Qko x0 x4 (k:Int) y3=QkS x0 x4 (k:Int) y3:=by
  intro k
  induction k with
  | zero=>
   intro _
   rw [QwU]
   simp only [QnN,QkS,show igt ((0:Nat):Int) 0=false from rfl,Qae,Int.toNat_natCast]
   rfl
  | succ k ih=>
   intro hk
   rw [QwU]
   have e1:isub .i64 ((k+1:Nat):Int) 1=(k:Int):=by rw [Qbg (by omega)]; omega
   have e2:cLd y3 k=true:=decide_eq_true (by omega)
   simp only [QnN,show igt ((k+1:Nat):Int) 0=true from decide_eq_true (by omega),Qab,e1,Qax,show k<y3.length by omega,decide_true,Int.toNat_natCast,e2,hc,ih (by omega)]
   simp only [QkS,Int.toNat_natCast]
   rw [show insK (lgt tI x0 x4.toNat) y3 (k+1)=if ilt (Qa5 (y3.getD k 0)) (Qa5 (lgt tI x0 x4.toNat))=true then insK (lgt tI x0 x4.toNat) y3 k else k+1 from rfl]
   show br (ilt (Qa5 (y3.getD k 0)) (Qa5 (lgt tI x0 x4.toNat))) _ _=_
   cases ilt (Qa5 (y3.getD k 0)) (Qa5 (lgt tI x0 x4.toNat)) <;> rfl
 exact key k (by omega)
theorem QQr (x0:List Int)(x4:Int)(y3:List Int)(h:(decide (0≤x4∧x4≤x0.length∧x0.length≤1000∧y3.length≤x4.toNat))=true):Qkn x0 x4 y3=QkR x0 x4 y3:=by
 simp only [decide_eq_true_eq] at h
 obtain ⟨h0,h1,h2,h3⟩:=h
 obtain ⟨k,rfl⟩:=Int.eq_ofNat_of_zero_le h0
 rw [Int.toNat_natCast] at h3
 revert y3
 refine Qat x0 (fun k=> ∀ y3:List Int,y3.length≤k→Qkn x0 (k:Int) y3=QkR x0 (k:Int) y3) ?_ ?_ k (by omega)
 ·intro y3 _
  rw [QwT]
  simp only [QjR,QdJ,QdI,QdH,QdG,QdF,QdE,QcH,QdD,QdC,QcL,QcK,QcJ,QcI,Qb8,QcU,QkR,show ilt (x0.length:Int) (llen x0)=false from decide_eq_false (by simp only [llen]; omega),Qae,Int.toNat_natCast,List.drop_length,List.foldl_nil]
 ·intro k hk ih y3 hy
  rw [QwT]
  have hle:=QAi x0[k] y3 y3.length
  obtain ⟨q,hq⟩: ∃ q,q=insK x0[k] y3 y3.length:=⟨_,rfl⟩
  rw [← hq] at hle
  have c0:decide ((0:Int)≤(y3.length:Nat)∧((y3.length:Nat):Int)≤y3.length∧y3.length≤1000)=true:=decide_eq_true (by omega)
  have c1:cWn y3 0 (q:Int)=true:=decide_eq_true (by omega)
  have c2:cWn y3 (q:Int) (y3.length:Nat)=true:=decide_eq_true (by omega)
  have w1:wnL tI y3 0 (q - 0)=y3.take q:=by rw [QuY (by omega),List.drop_zero,Nat.sub_zero]
  have w2:wnL tI y3 q (y3.length - q)=y3.drop q:=by rw [QuY (by omega),List.take_of_length_le (by rw [List.length_drop]; omega)]
  have a1:cApp ([]:List Int) (y3.take q) 8=true:=cAppN (by omega) (by simp only [List.length_nil,List.length_take]; omega)
  have a2:cApp (y3.take q) [x0[k]] 8=true:=cAppN (by omega) (by simp only [List.length_singleton,List.length_take]; omega)
  have a3:cApp (y3.take q++[x0[k]]) (y3.drop q) 8=true:=cAppN (by omega) (by simp only [List.length_append,List.length_singleton,List.length_take,List.length_drop]; omega)
  simp only [QjR,QdJ,QdI,QdH,QdG,QdF,QdE,QcH,QdD,QdC,QcL,QcK,QcJ,QcI,Qb8,QcU,show ilt (k:Int) (llen x0)=true from decide_eq_true (by simp only [llen]; omega),Qax,hk,decide_true,Bool.and_true,Qab,Int.toNat_natCast,Int.toNat_zero,add1 (show k<4611686018427387904 by omega),QaC (y:=tI) hk,llen,c0, ← hq,c1,c2,w1,w2,List.nil_append,a1,a2,a3,QcU]
  have e:=ih (insS y3 x0[k]) (by rw [QB2]; omega)
  simp only [insS, ← hq] at e
  rw [e]
  simp only [QkR,Int.toNat_natCast,List.drop_eq_getElem_cons hk,List.foldl_cons,insS, ← hq]
theorem QLv: ∀ S l p,Qgn.L 0 (fgt QhA S)=some (true,l)→pickA l=some p→loopF (Qai Qgn QhA QjB) S=some p:=
 QaB (s:=QpR) ⟨by decide,by decide⟩ (by kernel_rfl) fun x y hok p hp=>by
 simp only [Qap,Qam] at hp
 exact (QQs x.1 x.2.2.1 x.2.2.2.1 y.1 (by simpa using hok)).trans hp
theorem QLu: ∀ S l p,Qgn.L 1 (fgt Qhz S)=some (true,l)→pickA l=some p→loopF (Qai Qgn Qhz QjA) S=some p:=
 QaB (s:=QpQ) ⟨by decide,by decide⟩ (by kernel_rfl) fun x y hok p hp=>by
 simp only [Qap,Qam] at hp
 exact (QQr x.1 x.2.2.1 y.1 (by simpa using hok)).trans hp
theorem QXw:QyJ.lok Qgn:=by
 repeat (first | exact trivial | exact QLv | exact QLu | refine ⟨?_, ?_⟩)
theorem s_f112 (l:List Int)(h:lenS l=true):QT2 l=some (.ms 50000,[.arr 3 tI (sortS l)]):=by
 simp only [lenS,decide_eq_true_eq] at h
 refine Eq.trans (congrArg (fun b=>br b _ _) (decide_eq_true ⟨Int.le_refl _,by omega,h,by simp⟩)) ?_
 rfl
def QHo:Ent:=specO (.pr (.sl tI) .nil) (fun x=>(lenS x.1)) (fun x=>(.ms 50000)) (fun x=>[.arr 3 tI (sortS x.1)])
theorem QV7:Meets Tryz.prog 112 (strip QHo):=QiV (R:=runF Qgn QyJ QIR true) (mG Tryz.func112 (by kernel_rfl) Tryz.ntmps112 (by kernel_rfl) QZd QXw) fun x hok=>(e_f112 x.1).trans (s_f112 x.1 hok)
end
end Go.Proofs.YtckcgijklnloiaaGreat.K
namespace Go.Proofs.YtckcgijklnloiaaGreat.K
open Go.RowKit
noncomputable section
theorem Qcs {d:Dice}{l:List Int}(h:dOk d=true)(h1:l≠[])(h2:l.length≤100):ofOk d l=true:=by
 have:0<l.length:=List.length_pos_iff.2 h1
 simp only [ofOk,h,Bool.true_and,decide_eq_true_eq]
 omega
theorem QaQ {d:Dice}{n:Int}(h:dOk d=true)(hn:n≤1000000):Qav d n=true:=by
 simp only [Qav,h,Bool.true_and,decide_eq_true_eq]
 omega
theorem Qcr {d:Dice}{n:Int}(h:dOk d=true)(h0:0≤n)(hn:n≤1000000):oneOk d n=true:=by
 simp only [oneOk,QaQ h hn,Bool.true_and,decide_eq_true_eq]
 omega
abbrev kAlg (d:Dice):Int:=dof d [5,7,5,6,8,9]
def keyV (d:Dice):Keep:=(kAlg d,(sizeV (dofN d [5,7,5,6,8,9]) (kAlg d),()))
def keyN (d:Dice):Dice:=sizeN (dofN d [5,7,5,6,8,9]) (kAlg d)
theorem QuK {d:Dice}(h:dOk d=true):dOk (keyN d)=true:=Qoj (QaY h)
noncomputable def QFH:TC:=(.sq (.reg (rT Tryz.f73 0)) (.sq (.reg (rT Tryz.f73 1)) (.sq (.reg (rT Tryz.f73 2)) .rt)))
def QTk:List (RV×Option Ty):=[((.c 2 true 2),some Qah)]
def g_f73:G:=⟨TYs,[],12,EL [(45,Ql4),(74,QBb)],keeps,(fun _ _=>none),IL [],RL []⟩
def r_f73 (d0:Dice):Option (V×List VO):=
 let a1:=(dof d0 ([5,7,5,6,8,9]))
 let a2:=(dofN d0 ([5,7,5,6,8,9]))
 br (ofOk d0 ([5,7,5,6,8,9])) (br (dOk1 a2 a1) (some (.t Qah (a1,((sizeV a2 a1),())),[.box (.t Qaq (sizeN a2 a1))])) none) none
theorem e_f73 (d0:Dice):runF g_f73 QFH QTk false [.ptr 50000 0] [.box (.t Qaq d0)]=r_f73 d0:=by kernel_rfl
theorem QUr:Qag Tryz.prog 73:= .inr ⟨by decide,_,Tryz.func73,by kernel_rfl,by kernel_rfl⟩
theorem gk_f73:GOk Tryz.prog g_f73:=Qak _ (gA (gC Qrh Qqr (gC QMx QKB gN)))
theorem lk_f73:QFH.lok g_f73:=by repeat (first | exact trivial | refine ⟨?_, ?_⟩)
theorem s_f73 (d:Dice)(h:dOk d=true):r_f73 d=some (.t Qah (keyV d),[.box (.t Qaq (keyN d))]):=by
 have h1:ofOk d [5,7,5,6,8,9]=true:=Qcs h (by decide) (by decide)
 have h2:dOk1 (dofN d [5,7,5,6,8,9]) (dof d [5,7,5,6,8,9])=true:=QaY (l:=[5,7,5,6,8,9]) h
 simp only [r_f73,h1,h2,Qab]
 rfl
def QGh:Ent:=specP Qaq .nil (fun d x=>(dOk d)) (fun d x=>(.t Qah (keyV d))) (fun d x=>(keyN d))
theorem QT8:Meets Tryz.prog 73 (strip QGh):=Qa7 (R:=runF g_f73 QFH QTk false) (mG Tryz.func73 (by kernel_rfl) Tryz.ntmps73 (by kernel_rfl) gk_f73 lk_f73) rfl fun d x hok=>(e_f73 d).trans (s_f73 d hok)
abbrev cD1 (d:Dice):Dice:=dnext d 1000
abbrev cD2 (d:Dice):Dice:=dofN (cD1 d) [3,2,4,1]
abbrev cD3 (d:Dice):Dice:=dofN (cD2 d) [0,5,10]
abbrev cD4 (d:Dice):Dice:=dofN (cD3 d) [1000,100,50,20]
def cD5 (d:Dice)(a:Bool):Dice:=bif a then dofN (cD4 d) [3,0,1] else cD4 d
def cPath (d:Dice)(a:Bool):Int:=bif a then dof (cD4 d) [3,0,1] else 0
def cNm (d:Dice)(a:Bool)(s:ByteArray):List ByteArray:=bif done (cD5 d a) 3 then [s,scat s (ByteArray.mk #[120])] else [s]
def cRaw (d:Dice)(i s:ByteArray)(k:Keep)(id:Int)(a:Bool):Qaa:=
 (dval d 1000,(i,(s,(k,(id,((dof (cD1 d) [3,2,4,1],(0,())),(dof (cD2 d) [0,5,10],(dof (cD3 d) [1000,100,50,20],(a,(cPath d a,(cNm d a s,((0,(0,())),()))))))))))))
def cerV (d:Dice)(i s:ByteArray)(k:Keep)(id g:Int)(a:Bool):Qaa:=(signC (cRaw d i s k id a) g).1
def cerN (d:Dice)(_i _s:ByteArray)(_k:Keep)(_id _g:Int)(a:Bool):Dice:=dnext (cD5 d a) 3
def cerOk (d:Dice)(i s:ByteArray)(_k:Keep)(_id _g:Int)(_a:Bool):Bool:=dOk d&&decide (i.size≤1000∧s.size≤1000)
theorem QUC {d:Dice}(h:dOk d=true):dOk (cD4 d)=true:=QaY (QaY (QaY (Qal h)))
theorem dOk_c5 {d:Dice}{a:Bool}(h:dOk d=true):dOk (cD5 d a)=true:=by
 cases a
 ·exact QUC h
 ·exact QaY (l:=[3,0,1]) (QUC h)
theorem QNo {d:Dice}{i s:ByteArray}{k:Keep}{id g:Int}{a:Bool}(h:dOk d=true):dOk (cerN d i s k id g a)=true:=Qal (dOk_c5 h)
theorem QvY (a b:ByteArray):(scat a b).size=a.size+b.size:=by simp [scat]
theorem QiZ {i s:ByteArray}{k:Keep}{id:Int}{a:Bool}{q p:Int}{u v:Keep}{x y:Int}(hi:i.size≤1000)(hs:s.size≤1000){l:List ByteArray}(hl:l.length≤2)(hn: ∀ t ∈ l,t.size≤1001):
  QaG (q,(i,(s,(k,(id,(u,(x,(y,(a,(p,(l,(v,()))))))))))))=true:=by
 have hg: ∀ t:ByteArray,t.size≤1001→nameG t=true:=fun t ht=>decide_eq_true (by omega)
 simp only [QaG,Bool.and_eq_true]
 refine ⟨hg _ (by omega),hg _ (by omega), ?_⟩
 simp only [Qb7,Bool.and_eq_true,List.all_eq_true]
 exact ⟨decide_eq_true (by show l.length≤_; omega),fun t ht=>hg t (hn t ht)⟩
noncomputable def QNd:List DO:=dT Tryz.f113 1
noncomputable def QyI:TC:=(.sq (.reg (rT Tryz.f113 0)) (.sq (.dr QNd [(0,[50000]),(1,[17,5017,10017,15017,50000]),(2,[]),(3,[]),(4,[10]),(5,[]),(6,[50000]),(7,[]),(8,[24,5024,10024,15024,50000]),(9,[]),(10,[50000]),(11,[]),(12,[28,5028,10028,15028,50000]),(13,[50000]),(14,[]),(15,[31,5031,10031,15031,50000]),(16,[]),(17,[]),(18,[15,5015,10015,15015]),(19,[14,15,40,49])] (.one 0 (.one 2 (.one 3 (.one 4 (.one 5 (.one 6 (.one 7 (.one 10 (.one 11 (.one 13 (.one 14 (.one 16 (.alt 1 (.alt 8 (.one 9 (.alt 12 (.alt 15 (.of [17,18,19]) (.of [18,15,17,19])) (.of [18,12,15,17,19]))) (.of [18,8,9,12,15,17,19])) (.of [18,1,8,9,12,15,17,19]))))))))))))))) (.sq (.sq (.reg (rT Tryz.f113 2)) (.cd (.t 34) (.reg (rT Tryz.f113 3)) .sk)) (.sq (.reg (rT Tryz.f113 4)) (.sq (.sq (.reg (rT Tryz.f113 5)) (.cd (.t 43) (.reg (rT Tryz.f113 6)) .sk)) (.sq (.reg (rT Tryz.f113 7)) (.sq (.reg (rT Tryz.f113 8)) .rt)))))))
def QIQ:List (RV×Option Ty):=[((.c 14 true 15),some Qac)]
def QCM:G:=⟨TYs,[40],58,EL [(35,QgA),(45,Ql4),(46,Qvf),(84,QSI)],keeps,(fun _ _=>none),IL [],RL []⟩
def Qnm (d0:Dice)(p1 p2:ByteArray)(p3:Keep)(p4 p5:Int)(p6:Bool):Option (V×List VO):=
 let a1:=(dofN (dofN (dnext d0 1000) ([3,2,4,1])) ([0,5,10]))
 let a2:=(dof (dofN (dnext d0 1000) ([3,2,4,1])) ([0,5,10]))
 let a3:=(dofN a1 ([1000,100,50,20]))
 let a4:=(dof (dnext d0 1000) ([3,2,4,1]))
 let a5:=(dof a1 ([1000,100,50,20]))
 let a6:=scat p2 (ByteArray.mk #[120])
 let a7:=dval d0 1000
 let a8:=(dofN a3 ([3,0,1]))
 let a9:=(dof a3 ([3,0,1]))
 let a10:=cCat p2 (ByteArray.mk #[120])
 let a11:=cApp ([p2]) ([a6]) 16
 br (ofOk a1 ([1000,100,50,20])) (br (p6) (br (ofOk a3 ([3,0,1])) (br (oneOk a8 3) (br (done a8 3) (br a10 (br a11 (br (QbW (a7,(p1,(p2,((p3.1,(p3.2.1,())),(p4,((a4,(0,())),(a2,(a5,(p6,(a9,((([p2])++([a6])),((0,(0,())),())))))))))))) p5) (some (.t Qac ((signC (a7,(p1,(p2,((p3.1,(p3.2.1,())),(p4,((a4,(0,())),(a2,(a5,(p6,(a9,((([p2])++([a6])),((0,(0,())),())))))))))))) p5).1),[.box (.t Qaq (dnext a8 3))])) none) none) none) (br (QbW (a7,(p1,(p2,((p3.1,(p3.2.1,())),(p4,((a4,(0,())),(a2,(a5,(p6,(a9,([p2],((0,(0,())),())))))))))))) p5) (some (.t Qac ((signC (a7,(p1,(p2,((p3.1,(p3.2.1,())),(p4,((a4,(0,())),(a2,(a5,(p6,(a9,([p2],((0,(0,())),())))))))))))) p5).1),[.box (.t Qaq (dnext a8 3))])) none)) none) none) (br (oneOk a3 3) (br (done a3 3) (br a10 (br a11 (br (QbW (a7,(p1,(p2,((p3.1,(p3.2.1,())),(p4,((a4,(0,())),(a2,(a5,(p6,(0,((([p2])++([a6])),((0,(0,())),())))))))))))) p5) (some (.t Qac ((signC (a7,(p1,(p2,((p3.1,(p3.2.1,())),(p4,((a4,(0,())),(a2,(a5,(p6,(0,((([p2])++([a6])),((0,(0,())),())))))))))))) p5).1),[.box (.t Qaq (dnext a3 3))])) none) none) none) (br (QbW (a7,(p1,(p2,((p3.1,(p3.2.1,())),(p4,((a4,(0,())),(a2,(a5,(p6,(0,([p2],((0,(0,())),())))))))))))) p5) (some (.t Qac ((signC (a7,(p1,(p2,((p3.1,(p3.2.1,())),(p4,((a4,(0,())),(a2,(a5,(p6,(0,([p2],((0,(0,())),())))))))))))) p5).1),[.box (.t Qaq (dnext a3 3))])) none)) none)) none
def QtW (d0:Dice)(p1 p2:ByteArray)(p3:Keep)(p4 p5:Int)(p6:Bool):Option (V×List VO):=br (ofOk (dofN (dnext d0 1000) ([3,2,4,1])) ([0,5,10])) (Qnm d0 p1 p2 p3 p4 p5 p6) none
def QtV (d0:Dice)(p1 p2:ByteArray)(p3:Keep)(p4 p5:Int)(p6:Bool):Option (V×List VO):=br (ofOk (dnext d0 1000) ([3,2,4,1])) (QtW d0 p1 p2 p3 p4 p5 p6) none
def QJ4 (d0:Dice)(p1 p2:ByteArray)(p3:Keep)(p4 p5:Int)(p6:Bool):Option (V×List VO):=frk (br (Qav d0 1000) (frk (br (ofOk (dnext d0 1000) ([3,2,4,1])) (frk (br (ofOk (dofN (dnext d0 1000) ([3,2,4,1])) ([0,5,10])) (frk (Qnm d0 p1 p2 p3 p4 p5 p6) (Qnm d0 p1 p2 p3 p4 p5 p6)) none) (QtW d0 p1 p2 p3 p4 p5 p6)) none) (QtV d0 p1 p2 p3 p4 p5 p6)) none) (br (Qav d0 1000) (QtV d0 p1 p2 p3 p4 p5 p6) none)
theorem e_f113 (d0:Dice)(p1 p2:ByteArray)(p3:Keep)(p4 p5:Int)(p6:Bool):runF QCM QyI QIQ false [.ptr 50000 0, .t .str p1, .t .str p2, .t Qah p3, .t tI p4, .t tI p5, .t .bool p6] [.box (.t Qaq d0)]=QJ4 d0 p1 p2 p3 p4 p5 p6:=by kernel_rfl
theorem Q0c:Qag Tryz.prog 113:= .inr ⟨by decide,_,Tryz.func113,by kernel_rfl,by kernel_rfl⟩
theorem QZc:GOk Tryz.prog QCM:=Qak _ (gA (gC Qiy Qiu (gC Qrh Qqr (gC QC4 QBB (gC en_f84 ms_f84 gN)))))
theorem QXv:QyI.lok QCM:=by repeat (first | exact trivial | refine ⟨?_, ?_⟩)
theorem s_f113 (d:Dice)(i s:ByteArray)(k:Keep)(id g:Int)(a:Bool)(h:cerOk d i s k id g a=true):QJ4 d i s k id g a=some (.t Qac (cerV d i s k id g a),[.box (.t Qaq (cerN d i s k id g a))]):=by
 simp only [cerOk,Bool.and_eq_true,decide_eq_true_eq] at h
 obtain ⟨h,hi,hs⟩:=h
 have h1:Qav d 1000=true:=QaQ h (by omega)
 have k1:=Qal (n:=1000) h
 have h2:ofOk (dnext d 1000) [3,2,4,1]=true:=Qcs k1 (by decide) (by decide)
 have k2:=QaY (l:=[3,2,4,1]) k1
 have h3:ofOk (dofN (dnext d 1000) [3,2,4,1]) [0,5,10]=true:=Qcs k2 (by decide) (by decide)
 have k3:=QaY (l:=[0,5,10]) k2
 have h4:ofOk (dofN (dofN (dnext d 1000) [3,2,4,1]) [0,5,10]) [1000,100,50,20]=true:=Qcs k3 (by decide) (by decide)
 have k4:=QaY (l:=[1000,100,50,20]) k3
 have h5:ofOk (dofN (dofN (dofN (dnext d 1000) [3,2,4,1]) [0,5,10]) [1000,100,50,20]) [3,0,1]=true:=Qcs k4 (by decide) (by decide)
 have h6:oneOk (dofN (dofN (dofN (dofN (dnext d 1000) [3,2,4,1]) [0,5,10]) [1000,100,50,20]) [3,0,1]) 3=true:=Qcr (QaY k4) (by omega) (by omega)
 have h7:oneOk (dofN (dofN (dofN (dnext d 1000) [3,2,4,1]) [0,5,10]) [1000,100,50,20]) 3=true:=Qcr k4 (by omega) (by omega)
 have c1:cCat s (ByteArray.mk #[120])=true:=decide_eq_true (by show ((s.size+1:Nat):Int)≤_; omega)
 have c2:cApp [s] [scat s (ByteArray.mk #[120])] 16=true:=by rfl
 have hn1: ∀ t ∈ [s],t.size≤1001:=fun t ht=>by
  rw [List.mem_singleton] at ht
  subst ht
  omega
 have hn2: ∀ t ∈ [s]++[scat s (ByteArray.mk #[120])],t.size≤1001:=fun t ht=>by
  simp only [List.mem_append,List.mem_singleton] at ht
  rcases ht with rfl | rfl
  ·omega
  ·rw [QvY]; show s.size+1≤_; omega
 have c3: ∀ (q p x y:Int) (u v:Keep) (kk:Keep),QbW (q,(i,(s,(kk,(id,(u,(x,(y,(a,(p,([s],(v,())))))))))))) g=true:=fun q p x y u v kk=>QiZ hi hs (by simp) hn1
 have c4: ∀ (q p x y:Int) (u v:Keep) (kk:Keep),QbW (q,(i,(s,(kk,(id,(u,(x,(y,(a,(p,([s]++[scat s (ByteArray.mk #[120])],(v,())))))))))))) g=true:=fun q p x y u v kk=>QiZ hi hs (by simp) hn2
 simp only [QJ4,Qnm,QtW,QtV,QcU,h1,h2,h3,h4,h5,h6,h7,c1,c2,c3,c4,Qab,QcU]
 unfold cerV cerN cRaw cNm cD5 cPath
 cases a with
 | true=>
  rw [Qab]
  simp only [cond_true]
  cases done (dofN (dofN (dofN (dofN (dnext d 1000) [3,2,4,1]) [0,5,10]) [1000,100,50,20]) [3,0,1]) 3 <;> rfl
 | false=>
  rw [Qae]
  simp only [cond_false]
  cases done (dofN (dofN (dofN (dnext d 1000) [3,2,4,1]) [0,5,10]) [1000,100,50,20]) 3 <;> rfl
def QHn:Ent:=specP Qaq (.pr .str (.pr .str (.pr Qah (.pr tI (.pr tI (.pr .bool .nil)))))) (fun d x=>(cerOk d x.1 x.2.1 x.2.2.1 x.2.2.2.1 x.2.2.2.2.1 x.2.2.2.2.2.1)) (fun d x=>(.t Qac (cerV d x.1 x.2.1 x.2.2.1 x.2.2.2.1 x.2.2.2.2.1 x.2.2.2.2.2.1))) (fun d x=>(cerN d x.1 x.2.1 x.2.2.1 x.2.2.2.1 x.2.2.2.2.1 x.2.2.2.2.2.1))
theorem QV6:Meets Tryz.prog 113 (strip QHn):=Qa7 (R:=runF QCM QyI QIQ false) (mG Tryz.func113 (by kernel_rfl) Tryz.ntmps113 (by kernel_rfl) QZc QXv) rfl fun d x hok=>(e_f113 d x.1 x.2.1 x.2.2.1 x.2.2.2.1 x.2.2.2.2.1 x.2.2.2.2.2.1).trans (s_f113 d x.1 x.2.1 x.2.2.1 x.2.2.2.1 x.2.2.2.2.1 x.2.2.2.2.2.1 hok)
end
end Go.Proofs.YtckcgijklnloiaaGreat.K
namespace Go.Proofs.YtckcgijklnloiaaGreat.K
open Go.RowKit
noncomputable section
abbrev sRoot:ByteArray:=ByteArray.mk #[114,111,111,116]
abbrev sSubs:List ByteArray:=[ByteArray.mk #[99,97],ByteArray.mk #[99,98],ByteArray.mk #[99,99]]
abbrev Up:Type:=List Qaa×Dice×ByteArray×Int
def abvZ:Nat→Nat→Up→Up
 | 0,_,u=>u
 | m+1,i,(ab,d,iss,g)=>abvZ m (i+1) (cerV d iss (sSubs.getD i ByteArray.empty) (5,(2048,())) ((11+i:Nat):Int) g true::ab,cerN d iss (sSubs.getD i ByteArray.empty) (5,(2048,())) ((11+i:Nat):Int) g true,sSubs.getD i ByteArray.empty,((11+i:Nat):Int))
def upOk (u:Up):Bool:=dOk u.2.1&&decide (u.2.2.1.size≤1000)
def chU (d:Dice):Up:=abvZ (dof d [1,0,2]).toNat 0 ([],dnext (dofN d [1,0,2]) 2,sRoot,1+dval (dofN d [1,0,2]) 2)
def chnV (d:Dice)(nm:ByteArray)(k:Keep)(id:Int):List Qaa:=cerV (chU d).2.1 (chU d).2.2.1 nm k id (chU d).2.2.2 false::(chU d).1
def chnN (d:Dice)(nm:ByteArray)(k:Keep)(id:Int):Dice:=cerN (chU d).2.1 (chU d).2.2.1 nm k id (chU d).2.2.2 false
def chnOk (d:Dice)(nm:ByteArray)(_k:Keep)(_id:Int):Bool:=dOk d&&decide (nm.size≤1000)
theorem QsG (i:Nat):(sSubs.getD i ByteArray.empty).size≤2:=by
 rcases i with _ | _ | _ | i
 ·exact Nat.le_refl 2
 ·exact Nat.le_refl 2
 ·exact Nat.le_refl 2
 ·exact Nat.zero_le _
theorem QFm {ab:List Qaa}{d:Dice}{iss:ByteArray}{g:Int}{i:Nat}(h:upOk (ab,d,iss,g)=true):upOk (cerV d iss (sSubs.getD i ByteArray.empty) (5,(2048,())) ((11+i:Nat):Int) g true::ab,cerN d iss (sSubs.getD i ByteArray.empty) (5,(2048,())) ((11+i:Nat):Int) g true,sSubs.getD i ByteArray.empty,((11+i:Nat):Int))=true:=by
 simp only [upOk,Bool.and_eq_true,decide_eq_true_eq] at h ⊢
 exact ⟨QNo h.1,by have:=QsG i; omega⟩
theorem Qxs: ∀ (m i:Nat) (u:Up),upOk u=true→upOk (abvZ m i u)=true∧(abvZ m i u).1.length=u.1.length+m
 | 0,_,u,h=>⟨h,rfl⟩
 | m+1,i,(ab,d,iss,g),h=>by
  have:=Qxs m (i+1) _ (QFm (i:=i) h)
  refine ⟨this.1,this.2.trans ?_⟩
  simp only [List.length_cons]
  omega
theorem cEta (c:Qaa):(c.1,(c.2.1,(c.2.2.1,((c.2.2.2.1.1,(c.2.2.2.1.2.1,())),(c.2.2.2.2.1,((c.2.2.2.2.2.1.1,(c.2.2.2.2.2.1.2.1,())),(c.2.2.2.2.2.2.1,(c.2.2.2.2.2.2.2.1,(c.2.2.2.2.2.2.2.2.1,(c.2.2.2.2.2.2.2.2.2.1,(c.2.2.2.2.2.2.2.2.2.2.1,((c.2.2.2.2.2.2.2.2.2.2.2.1.1,(c.2.2.2.2.2.2.2.2.2.2.2.1.2.1,())),()))))))))))))=c:=rfl
abbrev upQ (n i:Int)(ab:List Qaa)(d:Dice)(iss:ByteArray)(g:Int):Up:=abvZ (n - i).toNat i.toNat (ab,d,iss,g)
def Qk4:Fg:=⟨[(0,none),(1,some .str),(3,some tI),(6,none),(9,some tI),(10,some tI),(11,some .str),(12,none),(13,some tI)],[(6,some Qah),(12,none),(40,none),(42,none),(50000,some Qaq)]⟩
noncomputable def QmZ:TC:=(.mv [(40,12)] (.sq (.sq (.reg (rT Tryz.f75 5)) (.cd (.t 24) .sk (.fg ⟨[(0,none),(1,some .str),(3,some tI),(6,none),(10,some tI),(11,some .str),(12,none)],[(6,some Qah),(12,none),(40,none),(42,none),(50000,some Qaq)]⟩ (.ex 0)))) (.sq (.bk 1 (.sq (.reg (rT Tryz.f75 6)) (.sq (.reg (rT Tryz.f75 7)) (.sq (.reg (rT Tryz.f75 8)) (.reg (rT Tryz.f75 9)))))) (.reg (rT Tryz.f75 10)))))
noncomputable def QFF:TC:=(.sq (.reg (rT Tryz.f75 0)) (.sq (.reg (rT Tryz.f75 1)) (.sq (.reg (rT Tryz.f75 2)) (.sq (.reg (rT Tryz.f75 3)) (.sq (.sq (.reg (rT Tryz.f75 4)) (.bk 0 (.nw 12 138 (.lp 0 Qk4 QmZ)))) (.sq (.reg (rT Tryz.f75 11)) .rt))))))
def QTi:List (RV×Option Ty):=[((.t 8),some (.sl Qac))]
abbrev Qs4:Sh:=⟨[(0, .ptr 50000 0),(1, .ty .str),(3, .ty tI),(6, .ptr 6 0),(9, .ty tI),(10, .ty tI),(11, .ty .str),(12, .ms 12),(13, .ty tI)],[(6, .box Qah),(12, .arr 138 Qac),(40, .no),(42, .no),(50000, .box Qaq)]⟩
def QsI (x1:ByteArray)(x3 x9 x10:Int)(x11:ByteArray)(x13:Int)(y6:Keep)(y12:List Qaa)(y50000:Dice):VS:=Qs4.st ((),x1,x3,(),x9,x10,x11,(),x13,()) (y6,y12,(),(),y50000,())
abbrev Qy9:Sh:=⟨[(0, .ptr 50000 0),(1, .ty .str),(3, .ty tI),(6, .ptr 6 0),(10, .ty tI),(11, .ty .str),(12, .ms 12)],[(6, .box Qah),(12, .arr 138 Qac),(40, .no),(42, .no),(50000, .box Qaq)]⟩
def Qft (x1:ByteArray)(x3 x10:Int)(x11:ByteArray)(y6:Keep)(y12:List Qaa)(y50000:Dice):VS:=Qy9.st ((),x1,x3,(),x10,x11,(),()) (y6,y12,(),(),y50000,())
def Q0E:VS→Option (Bool×List (Bool×Exit×VS)):=mkL Qs4 (fun x y=>(decide (0≤x.2.2.2.2.2.2.2.2.1∧x.2.2.2.2.2.2.2.2.1≤x.2.2.2.2.1∧x.2.2.2.2.1≤3∧y.2.1.length≤x.2.2.2.2.2.2.2.2.1)&&upOk (y.2.1,y.2.2.2.2.1,x.2.2.2.2.2.2.1,x.2.2.2.2.2.1))) (fun x y=>[(true, .exit 0,Qft (x.2.1) (x.2.2.1) ((upQ x.2.2.2.2.1 x.2.2.2.2.2.2.2.2.1 y.2.1 y.2.2.2.2.1 x.2.2.2.2.2.2.1 x.2.2.2.2.2.1).2.2.2) ((upQ x.2.2.2.2.1 x.2.2.2.2.2.2.2.2.1 y.2.1 y.2.2.2.2.1 x.2.2.2.2.2.2.1 x.2.2.2.2.2.1).2.2.1) (y.1) ((upQ x.2.2.2.2.1 x.2.2.2.2.2.2.2.2.1 y.2.1 y.2.2.2.2.1 x.2.2.2.2.2.2.1 x.2.2.2.2.2.1).1) ((upQ x.2.2.2.2.1 x.2.2.2.2.2.2.2.2.1 y.2.1 y.2.2.2.2.1 x.2.2.2.2.2.2.1 x.2.2.2.2.2.1).2.1))])
def g_f75:G:=⟨TYs,[40,53],56,EL [(35,QgA),(45,Ql4),(113,QHn)],keeps,(Ls [Q0E]),IL [],RL []⟩
def QOh (x1:ByteArray)(x3 x9 x10:Int)(x11:ByteArray)(x13:Int)(y6:Keep)(y12:List Qaa)(y50000:Dice):Option (Exit×VS):=
 let a3:=(lgt .str ([(ByteArray.mk #[99,97]),(ByteArray.mk #[99,98]),(ByteArray.mk #[99,99])]) (Int.toNat x13))
 let a4:=iadd .i64 11 x13
 let a1:=(cerV y50000 x11 a3 (5,(2048,())) a4 x10 true)
 let a2:=((a1.2).1,(((a1.2).2).1,((((((a1.2).2).2).1).1,((((((a1.2).2).2).1).2).1,())),(((((a1.2).2).2).2).1,((((((((a1.2).2).2).2).2).1).1,((((((((a1.2).2).2).2).2).1).2).1,())),(((((((a1.2).2).2).2).2).2).1,((((((((a1.2).2).2).2).2).2).2).1,(((((((((a1.2).2).2).2).2).2).2).2).1,((((((((((a1.2).2).2).2).2).2).2).2).2).1,(((((((((((a1.2).2).2).2).2).2).2).2).2).2).1,((((((((((((((a1.2).2).2).2).2).2).2).2).2).2).2).1).1,((((((((((((((a1.2).2).2).2).2).2).2).2).2).2).2).1).2).1,())),())))))))))))
 br (ilt x13 x9) (br (cIx ([(ByteArray.mk #[99,97]),(ByteArray.mk #[99,98]),(ByteArray.mk #[99,99])]) x13) (br (cerOk y50000 x11 a3 (5,(2048,())) a4 x10 true) (br (cApp ([(a1.1,a2)]) y12 152) (some (.normal,QsI x1 x3 x9 a4 a3 (iadd .i64 x13 1) y6 (([(a1.1,a2)])++y12) (cerN y50000 x11 a3 (5,(2048,())) a4 x10 true))) none) none) none) (some (.exit 0,Qft x1 x3 x10 x11 y6 y12 y50000))
noncomputable def QnR (x1:ByteArray)(x3 x9 x10:Int)(x11:ByteArray)(x13:Int)(y6:Keep)(y12:List Qaa)(y50000:Dice):Option (Exit×VS):=loopF (Qai g_f75 Qk4 QmZ) (QsI x1 x3 x9 x10 x11 x13 y6 y12 y50000)
noncomputable def Qt3 (x1:ByteArray)(x3 x9 x10:Int)(x11:ByteArray)(x13:Int)(y6:Keep)(y12:List Qaa)(y50000:Dice):Option (Exit×VS):=
 let a3:=(lgt .str ([(ByteArray.mk #[99,97]),(ByteArray.mk #[99,98]),(ByteArray.mk #[99,99])]) (Int.toNat x13))
 let a4:=iadd .i64 11 x13
 let a1:=(cerV y50000 x11 a3 (5,(2048,())) a4 x10 true)
 let a2:=((a1.2).1,(((a1.2).2).1,((((((a1.2).2).2).1).1,((((((a1.2).2).2).1).2).1,())),(((((a1.2).2).2).2).1,((((((((a1.2).2).2).2).2).1).1,((((((((a1.2).2).2).2).2).1).2).1,())),(((((((a1.2).2).2).2).2).2).1,((((((((a1.2).2).2).2).2).2).2).1,(((((((((a1.2).2).2).2).2).2).2).2).1,((((((((((a1.2).2).2).2).2).2).2).2).2).1,(((((((((((a1.2).2).2).2).2).2).2).2).2).2).1,((((((((((((((a1.2).2).2).2).2).2).2).2).2).2).2).1).1,((((((((((((((a1.2).2).2).2).2).2).2).2).2).2).2).1).2).1,())),())))))))))))
 br (ilt x13 x9) (br (cIx ([(ByteArray.mk #[99,97]),(ByteArray.mk #[99,98]),(ByteArray.mk #[99,99])]) x13) (br (cerOk y50000 x11 a3 (5,(2048,())) a4 x10 true) (br (cApp ([(a1.1,a2)]) y12 152) (QnR x1 x3 x9 a4 a3 (iadd .i64 x13 1) y6 (([(a1.1,a2)])++y12) (cerN y50000 x11 a3 (5,(2048,())) a4 x10 true)) none) none) none) (some (.exit 0,Qft x1 x3 x10 x11 y6 y12 y50000))
def Qn0 (x1:ByteArray)(x3 x9 x10:Int)(x11:ByteArray)(x13:Int)(y6:Keep)(y12:List Qaa)(y50000:Dice):Option (Exit×VS):=
 let a1:=upQ x9 x13 y12 y50000 x11 x10
 some (.exit 0,Qft (x1) (x3) (a1.2.2.2) (a1.2.2.1) (y6) (a1.1) (a1.2.1))
theorem QRH (x1:ByteArray)(x3 x9 x10:Int)(x11:ByteArray)(x13:Int)(y6:Keep)(y12:List Qaa)(y50000:Dice):Qai g_f75 Qk4 QmZ (QsI x1 x3 x9 x10 x11 x13 y6 y12 y50000)=QOh x1 x3 x9 x10 x11 x13 y6 y12 y50000:=by kernel_rfl
theorem QBJ (x1:ByteArray)(x3 x9 x10:Int)(x11:ByteArray)(x13:Int)(y6:Keep)(y12:List Qaa)(y50000:Dice):QnR x1 x3 x9 x10 x11 x13 y6 y12 y50000=Qt3 x1 x3 x9 x10 x11 x13 y6 y12 y50000:=(Qan _ _).trans (by
 rw [QRH]
 simp only [QOh,Qt3,QaA,nxt_n,nxt_r,nxt_e,nxt_0]
 rfl)
def r_f75 (d0:Dice)(p1:ByteArray)(p2:Keep)(p3:Int):Option (V×List VO):=
 let a4:=(dofN d0 ([1,0,2]))
 let a1:=(upQ (dof d0 ([1,0,2])) (0:Int) ([]:List Qaa) (dnext a4 2) (ByteArray.mk #[114,111,111,116]) (iadd .i64 1 (dval a4 2)))
 let a2:=cerV (a1.2.1) (a1.2.2.1) (p1) (p2) (p3) (a1.2.2.2) false
 let a3:=((a2.2).1,(((a2.2).2).1,((((((a2.2).2).2).1).1,((((((a2.2).2).2).1).2).1,())),(((((a2.2).2).2).2).1,((((((((a2.2).2).2).2).2).1).1,((((((((a2.2).2).2).2).2).1).2).1,())),(((((((a2.2).2).2).2).2).2).1,((((((((a2.2).2).2).2).2).2).2).1,(((((((((a2.2).2).2).2).2).2).2).2).1,((((((((((a2.2).2).2).2).2).2).2).2).2).1,(((((((((((a2.2).2).2).2).2).2).2).2).2).2).1,((((((((((((((a2.2).2).2).2).2).2).2).2).2).2).2).1).1,((((((((((((((a2.2).2).2).2).2).2).2).2).2).2).2).1).2).1,())),())))))))))))
 br (ofOk d0 ([1,0,2])) (br (Qav a4 2) (br (decide (0≤(0:Int)∧(0:Int)≤(dof d0 ([1,0,2]))∧(dof d0 ([1,0,2]))≤3∧([]:List Qaa).length≤(0:Int))&&upOk (([]:List Qaa),(dnext a4 2),(ByteArray.mk #[114,111,111,116]),(iadd .i64 1 (dval a4 2)))) (br (cerOk (a1.2.1) (a1.2.2.1) (p1) (p2) (p3) (a1.2.2.2) false) (br (cApp ([(a2.1,a3)]) (a1.1) 152) (some (.t (.sl Qac) (([(a2.1,a3)])++(a1.1)),[.box (.t Qaq (cerN (a1.2.1) (a1.2.2.1) (p1) (p2) (p3) (a1.2.2.2) false))])) none) none) none) none) none
theorem e_f75 (d0:Dice)(p1:ByteArray)(p2:Keep)(p3:Int):runF g_f75 QFF QTi false [.ptr 50000 0, .t .str p1, .t Qah p2, .t tI p3] [.box (.t Qaq d0)]=r_f75 d0 p1 p2 p3:=by kernel_rfl
theorem QUq:Qag Tryz.prog 75:= .inr ⟨by decide,_,Tryz.func75,by kernel_rfl,by kernel_rfl⟩
theorem gk_f75:GOk Tryz.prog g_f75:=Qak _ (gA (gC Qiy Qiu (gC Qrh Qqr (gC Q0c QV6 gN))))
theorem QXH (x1:ByteArray)(x3 x9 x10:Int)(x11:ByteArray)(x13:Int)(y6:Keep)(y12:List Qaa)(y50000:Dice)(h:(decide (0≤x13∧x13≤x9∧x9≤3∧y12.length≤x13)&&upOk (y12,y50000,x11,x10))=true):QnR x1 x3 x9 x10 x11 x13 y6 y12 y50000=Qn0 x1 x3 x9 x10 x11 x13 y6 y12 y50000:=by
 obtain ⟨h,hu⟩:=Bool.and_eq_true_iff.1 h
 obtain ⟨h0,h1,h2,h3⟩:=of_decide_eq_true h
 clear h
 obtain ⟨k,rfl⟩:=Int.eq_ofNat_of_zero_le h0
 obtain ⟨n,rfl⟩:=Int.eq_ofNat_of_zero_le (show 0≤x9 by omega)
 have key: ∀ (m k:Nat) (x10:Int) (x11:ByteArray) (y12:List Qaa) (y50000:Dice),m=n - k→k≤n→y12.length≤k→upOk (y12,y50000,x11,x10)=true→QnR x1 x3 (n:Int) x10 x11 (k:Int) y6 y12 y50000=Qn0 x1 x3 (n:Int) x10 x11 (k:Int) y6 y12 y50000:=by
  intro m
  induction m with
  | zero=>
   intro k x10 x11 y12 y50000 hm h1 h3 hu
   have:k=n:=by omega
   subst this
   rw [QBJ]
   simp only [Qt3,Qn0,show ilt (k:Int) (k:Int)=false from decide_eq_false (by omega),Qae,upQ,Int.sub_self,Int.toNat_zero,abvZ]
  | succ m ih=>
   intro k x10 x11 y12 y50000 hm h1 h3 hu
   rw [QBJ]
   have hk:k<3:=by omega
   have c1:cIx sSubs (k:Int)=true:=by rw [Qax]; exact decide_eq_true hk
   have e1:iadd .i64 11 (k:Int)=((11+k:Nat):Int):=(QaV (by omega)).trans (by omega)
   have hu2:=Bool.and_eq_true_iff.1 hu
   have hu3:x11.size≤1000:=of_decide_eq_true hu2.2
   have c2:cerOk y50000 x11 (sSubs.getD k ByteArray.empty) (5,(2048,())) ((11+k:Nat):Int) x10 true=true:=Bool.and_eq_true_iff.2 ⟨hu2.1,decide_eq_true ⟨hu3,by have:=QsG k; omega⟩⟩
   have c3: ∀ c:Qaa,cApp [c] y12 152=true:=fun c=>cAppN (by omega) (by simp only [List.length_singleton]; omega)
   have hg:lgt .str sSubs k=sSubs.getD k ByteArray.empty:=rfl
   simp only [Qt3,cEta,show ilt (k:Int) (n:Int)=true from decide_eq_true (by omega),Qab,c1,e1,Int.toNat_natCast,hg,c2,c3,add1 (show k<4611686018427387904 by omega),List.singleton_append]
   rw [ih (k+1) _ _ _ _ (by omega) (by omega) (by simp only [List.length_cons]; omega) (QFm hu)]
   have q1:((n:Int) - (k:Int)).toNat=m+1:=by omega
   have q2:((n:Int) - ((k+1:Nat):Int)).toNat=m:=by omega
   simp only [Qn0,upQ,q1,q2,Int.toNat_natCast,abvZ]
 exact key _ k _ _ _ _ rfl (by omega) (by omega) hu
theorem QPE: ∀ S l p,g_f75.L 0 (fgt Qk4 S)=some (true,l)→pickA l=some p→loopF (Qai g_f75 Qk4 QmZ) S=some p:=
 QaB (s:=Qs4) ⟨by decide,by decide⟩ (by kernel_rfl) fun x y hok p hp=>by
 simp only [Qap,Qam] at hp
 exact (QXH x.2.1 x.2.2.1 x.2.2.2.2.1 x.2.2.2.2.2.1 x.2.2.2.2.2.2.1 x.2.2.2.2.2.2.2.2.1 y.1 y.2.1 y.2.2.2.2.1 (by simpa using hok)).trans hp
theorem lk_f75:QFF.lok g_f75:=by
 repeat (first | exact trivial | exact QPE | refine ⟨?_, ?_⟩)
theorem s_f75 (d:Dice)(nm:ByteArray)(k:Keep)(id:Int)(h:chnOk d nm k id=true):r_f75 d nm k id=some (.t (.sl Qac) (chnV d nm k id),[.box (.t Qaq (chnN d nm k id))]):=by
 simp only [chnOk,Bool.and_eq_true,decide_eq_true_eq] at h
 obtain ⟨h,hn⟩:=h
 have h1:ofOk d [1,0,2]=true:=Qcs h (by decide) (by decide)
 have k1:=QaY (l:=[1,0,2]) h
 have h2:Qav (dofN d [1,0,2]) 2=true:=QaQ k1 (by omega)
 have b2:=QaP (d:=dofN d [1,0,2]) (n:=2) (by omega)
 have e2:iadd .i64 1 (dval (dofN d [1,0,2]) 2)=1+dval (dofN d [1,0,2]) 2:=QaV (by omega)
 have hm:=Qbo (d:=d) (l:=[1,0,2]) (by decide)
 simp only [List.mem_cons,List.not_mem_nil,or_false] at hm
 have hu0:upOk ([],dnext (dofN d [1,0,2]) 2,sRoot,1+dval (dofN d [1,0,2]) 2)=true:=Bool.and_eq_true_iff.2 ⟨Qal (n:=2) k1,rfl⟩
 obtain ⟨hv,hl⟩:=Qxs (dof d [1,0,2]).toNat 0 _ hu0
 have hv2:=Bool.and_eq_true_iff.1 hv
 have hv3:(chU d).2.2.1.size≤1000:=of_decide_eq_true hv2.2
 have c5:cerOk (chU d).2.1 (chU d).2.2.1 nm k id (chU d).2.2.2 false=true:=Bool.and_eq_true_iff.2 ⟨hv2.1,decide_eq_true ⟨hv3,hn⟩⟩
 have hl2:(chU d).1.length≤3:=by
  unfold chU
  rw [hl]
  simp only [List.length_nil]
  omega
 have c6: ∀ c:Qaa,cApp [c] (chU d).1 152=true:=fun c=>cAppN (by omega) (by simp only [List.length_singleton]; omega)
 have c7:(decide ((0:Int)≤0∧(0:Int)≤dof d [1,0,2]∧dof d [1,0,2]≤3∧(([]:List Qaa).length:Int)≤0)&&upOk ([],dnext (dofN d [1,0,2]) 2,sRoot,1+dval (dofN d [1,0,2]) 2))=true:=Bool.and_eq_true_iff.2 ⟨decide_eq_true ⟨Int.le_refl _,by omega,by omega,Int.le_refl _⟩,hu0⟩
 have e3:upQ (dof d [1,0,2]) 0 [] (dnext (dofN d [1,0,2]) 2) sRoot (1+dval (dofN d [1,0,2]) 2)=chU d:=by
  unfold upQ chU
  rw [Int.sub_zero,Int.toNat_zero]
 simp only [r_f75,h1,h2,e2,Qab,cEta,e3,c5,c6]
 refine Eq.trans (congrArg (fun b=>br b _ _) c7) ?_
 rfl
def QGg:Ent:=specP Qaq (.pr .str (.pr Qah (.pr tI .nil))) (fun d x=>(chnOk d x.1 x.2.1 x.2.2.1)) (fun d x=>(.t (.sl Qac) (chnV d x.1 x.2.1 x.2.2.1))) (fun d x=>(chnN d x.1 x.2.1 x.2.2.1))
theorem QT7:Meets Tryz.prog 75 (strip QGg):=Qa7 (R:=runF g_f75 QFF QTi false) (mG Tryz.func75 (by kernel_rfl) Tryz.ntmps75 (by kernel_rfl) gk_f75 lk_f75) rfl fun d x hok=>(e_f75 d x.1 x.2.1 x.2.2.1).trans (s_f75 d x.1 x.2.1 x.2.2.1 hok)
end
end Go.Proofs.YtckcgijklnloiaaGreat.K
namespace Go.Proofs.YtckcgijklnloiaaGreat.K
open Go.RowKit
noncomputable section
def QA8:Ent:=lendE QHq
theorem QPi:Meets Tryz.prog 104 (strip QA8):=QEp QV9
def suZ:Nat→List Int→Dice→List Int×Dice
 | 0,l,d=>(l,d)
 | n+1,l,d=>suZ n (bif !hasF l (1+dval d 16) then l++[1+dval d 16] else l) (dnext d 16)
def suI (d:Dice):List Int×Dice:=suZ (2+dval d 9).toNat [] (dnext d 9)
def suiV (d:Dice):List Int:=bif done (suI d).2 4 then sortS (suI d).1 else (suI d).1
def suiN (d:Dice):Dice:=dnext (suI d).2 4
theorem QSB: ∀ (n:Nat) (l:List Int) (d:Dice),dOk d=true→dOk (suZ n l d).2=true∧(suZ n l d).1.length≤l.length+n
 | 0,l,d,h=>⟨h,Nat.le_refl _⟩
 | n+1,l,d,h=>by
  have:=QSB n (bif !hasF l (1+dval d 16) then l++[1+dval d 16] else l) (dnext d 16) (Qal h)
  refine ⟨this.1,Nat.le_trans this.2 ?_⟩
  cases !hasF l (1+dval d 16) <;> simp only [cond_true,cond_false,List.length_append,List.length_singleton] <;> omega
theorem QF9 {d:Dice}(h:dOk d=true):dOk (suI d).2=true∧(suI d).1.length≤10:=by
 have h2:=QSB (2+dval d 9).toNat [] (dnext d 9) (Qal h)
 have b:=QaP (d:=d) (n:=9) (by omega)
 refine ⟨h2.1,Nat.le_trans h2.2 ?_⟩
 simp only [List.length_nil]
 omega
theorem Qrp {d:Dice}(h:dOk d=true):dOk (suiN d)=true:=Qal (n:=4) (QF9 h).1
def Qk5:Fg:=⟨[(0,none),(3,none),(4,some tI)],[(3,none),(23,none),(27,none),(5027,none),(10027,none),(15027,none),(50000,some Qaq)]⟩
noncomputable def Qm0:TC:=(.sq (.sq (.reg (rT Tryz.f72 3)) (.cd (.t 10) .sk (.fg ⟨[(0,none),(3,none)],[(3,none),(23,none),(27,none),(5027,none),(10027,none),(15027,none),(50000,some Qaq)]⟩ (.ex 0)))) (.sq (.bk 1 (.sq (.reg (rT Tryz.f72 4)) (.sq (.reg (rT Tryz.f72 5)) (.cd (.t 19) (.reg (rT Tryz.f72 6)) .sk)))) (.reg (rT Tryz.f72 7))))
noncomputable def QFI:TC:=(.sq (.reg (rT Tryz.f72 0)) (.sq (.reg (rT Tryz.f72 1)) (.sq (.sq (.reg (rT Tryz.f72 2)) (.bk 0 (.nw 3 3 (.lp 0 Qk5 Qm0)))) (.sq (.sq (.reg (rT Tryz.f72 8)) (.cd (.t 25) (.reg (rT Tryz.f72 9)) .sk)) (.sq (.reg (rT Tryz.f72 10)) .rt)))))
def QTl:List (RV×Option Ty):=[((.t 2),none)]
abbrev Qs5:Sh:=⟨[(0, .ptr 50000 0),(3, .ms 3),(4, .ty tI)],[(3, .arr 3 tI),(23, .no),(27, .no),(5027, .no),(10027, .no),(15027, .no),(50000, .box Qaq)]⟩
def Qng (x4:Int)(y3:List Int)(y50000:Dice):VS:=Qs5.st ((),(),x4,()) (y3,(),(),(),(),(),y50000,())
abbrev Qza:Sh:=⟨[(0, .ptr 50000 0),(3, .ms 3)],[(3, .arr 3 tI),(23, .no),(27, .no),(5027, .no),(10027, .no),(15027, .no),(50000, .box Qaq)]⟩
def Qfu (y3:List Int)(y50000:Dice):VS:=Qza.st ((),(),()) (y3,(),(),(),(),(),y50000,())
def Q0F:VS→Option (Bool×List (Bool×Exit×VS)):=mkL Qs5 (fun x y=>(decide (0≤x.2.2.1∧(y.1.length:Int)+x.2.2.1≤10)&&dOk y.2.2.2.2.2.2.1)) (fun x y=>[(true, .exit 0,Qfu ((suZ x.2.2.1.toNat y.1 y.2.2.2.2.2.2.1).1) ((suZ x.2.2.1.toNat y.1 y.2.2.2.2.2.2.1).2))])
def g_f72:G:=⟨TYs,[],29,EL [(35,QgA),(46,Qvf),(104,QA8),(112,QHo)],(104::keeps),(Ls [Q0F]),IL [],RL []⟩
def QOi (x4:Int)(y3:List Int)(y50000:Dice):Option (Exit×VS):=
 let a1:=iadd .i64 1 (dval y50000 16)
 br (igt x4 0) (br (Qav y50000 16) (br (Qa2 y3 a1) (br (!(hasF y3 a1)) (br (cApp y3 ([a1]) 8) (some (.normal,Qng (isub .i64 x4 1) (y3++([a1])) (dnext y50000 16))) none) (some (.normal,Qng (isub .i64 x4 1) y3 (dnext y50000 16)))) none) none) (some (.exit 0,Qfu y3 y50000))
noncomputable def QjW (x4:Int)(y3:List Int)(y50000:Dice):Option (Exit×VS):=loopF (Qai g_f72 Qk5 Qm0) (Qng x4 y3 y50000)
noncomputable def Qt4 (x4:Int)(y3:List Int)(y50000:Dice):Option (Exit×VS):=
 let a1:=iadd .i64 1 (dval y50000 16)
 br (igt x4 0) (br (Qav y50000 16) (br (Qa2 y3 a1) (br (!(hasF y3 a1)) (br (cApp y3 ([a1]) 8) (QjW (isub .i64 x4 1) (y3++([a1])) (dnext y50000 16)) none) (QjW (isub .i64 x4 1) y3 (dnext y50000 16))) none) none) (some (.exit 0,Qfu y3 y50000))
def Qn1 (x4:Int)(y3:List Int)(y50000:Dice):Option (Exit×VS):=
 let a1:=suZ x4.toNat y3 y50000
 some (.exit 0,Qfu (a1.1) (a1.2))
theorem QRI (x4:Int)(y3:List Int)(y50000:Dice):Qai g_f72 Qk5 Qm0 (Qng x4 y3 y50000)=QOi x4 y3 y50000:=by kernel_rfl
theorem QBK (x4:Int)(y3:List Int)(y50000:Dice):QjW x4 y3 y50000=Qt4 x4 y3 y50000:=(Qan _ _).trans (by
 rw [QRI]
 simp only [QOi,Qt4,QaA,nxt_n,nxt_r,nxt_e,nxt_0]
 rfl)
def r_f72 (d0:Dice):Option (V×List VO):=
 let a2:=iadd .i64 2 (dval d0 9)
 let a1:=(suZ a2.toNat ([]:List Int) (dnext d0 9))
 br (Qav d0 9) (br (decide (0≤a2∧(([]:List Int).length:Int)+a2≤10)&&dOk (dnext d0 9)) (br (oneOk (a1.2) 4) (br (done (a1.2) 4) (br (lenS (a1.1)) (some (.ms 50001,[.box (.t Qaq (dnext (a1.2) 4)), .arr 3 tI (sortS (a1.1))])) none) (some (.ms 50001,[.box (.t Qaq (dnext (a1.2) 4)), .arr 3 tI (a1.1)]))) none) none) none
theorem e_f72 (d0:Dice):runF g_f72 QFI QTl true [.ptr 50000 0] [.box (.t Qaq d0)]=r_f72 d0:=by kernel_rfl
theorem QUs:Qag Tryz.prog 72:= .inr ⟨by decide,_,Tryz.func72,by kernel_rfl,by kernel_rfl⟩
theorem gk_f72:GOk Tryz.prog g_f72:=Qak _ (gA (gC Qiy Qiu (gC QC4 QBB (gC Q0f QPi (gC Q0d QV7 gN)))))
theorem QXI (x4:Int)(y3:List Int)(y50000:Dice)(h:(decide (0≤x4∧(y3.length:Int)+x4≤10)&&dOk y50000)=true):QjW x4 y3 y50000=Qn1 x4 y3 y50000:=by
 obtain ⟨h,hd⟩:=Bool.and_eq_true_iff.1 h
 obtain ⟨h0,h1⟩:=of_decide_eq_true h
 clear h
 obtain ⟨n,rfl⟩:=Int.eq_ofNat_of_zero_le h0
 have key: ∀ (n:Nat) (y3:List Int) (y50000:Dice),y3.length+n≤10→dOk y50000=true→QjW (n:Int) y3 y50000=Qn1 (n:Int) y3 y50000:=by
  intro n
  induction n with
  | zero=>
   intro y3 y50000 _ _
   rw [QBK]
   simp only [Qt4,Qn1,show igt ((0:Nat):Int) 0=false from rfl,Qae,Int.toNat_natCast,suZ]
  | succ n ih=>
   intro y3 y50000 hl hd
   rw [QBK]
   have b:=QaP (d:=y50000) (n:=16) (by omega)
   have e1:iadd .i64 1 (dval y50000 16)=1+dval y50000 16:=QaV (by omega)
   have e2:isub .i64 ((n+1:Nat):Int) 1=(n:Int):=(Qbg (by omega)).trans (by omega)
   have c1:Qav y50000 16=true:=QaQ hd (by omega)
   have c2: ∀ v,Qa2 y3 v=true:=fun v=>decide_eq_true (by omega)
   have c3: ∀ v,cApp y3 [v] 8=true:=fun v=>cAppN (by omega) (by simp only [List.length_singleton]; omega)
   simp only [Qt4,show igt ((n+1:Nat):Int) 0=true from decide_eq_true (by omega),Qab,e1,e2,c1,c2,c3]
   rw [ih y3 (dnext y50000 16) (by omega) (Qal hd),ih (y3++[1+dval y50000 16]) (dnext y50000 16) (by simp only [List.length_append,List.length_singleton]; omega) (Qal hd)]
   simp only [Qn1,Int.toNat_natCast,suZ]
   cases !hasF y3 (1+dval y50000 16) <;> rfl
 exact key n y3 y50000 (by omega) hd
theorem QPF: ∀ S l p,g_f72.L 0 (fgt Qk5 S)=some (true,l)→pickA l=some p→loopF (Qai g_f72 Qk5 Qm0) S=some p:=
 QaB (s:=Qs5) ⟨by decide,by decide⟩ (by kernel_rfl) fun x y hok p hp=>by
 simp only [Qap,Qam] at hp
 exact (QXI x.2.2.1 y.1 y.2.2.2.2.2.2.1 (by simpa using hok)).trans hp
theorem lk_f72:QFI.lok g_f72:=by
 repeat (first | exact trivial | exact QPF | refine ⟨?_, ?_⟩)
theorem s_f72 (d:Dice)(h:dOk d=true):r_f72 d=some (.ms 50001,[.box (.t Qaq (suiN d)), .arr 3 tI (suiV d)]):=by
 have b:=QaP (d:=d) (n:=9) (by omega)
 have e1:iadd .i64 2 (dval d 9)=2+dval d 9:=QaV (by omega)
 have c1:Qav d 9=true:=QaQ h (by omega)
 obtain ⟨k1,k2⟩:=QF9 h
 have c2:oneOk (suI d).2 4=true:=Qcr k1 (by omega) (by omega)
 have c3:lenS (suI d).1=true:=decide_eq_true (by omega)
 have c4:(decide ((0:Int)≤2+dval d 9∧(([]:List Int).length:Int)+(2+dval d 9)≤10)&&dOk (dnext d 9))=true:=Bool.and_eq_true_iff.2 ⟨decide_eq_true ⟨by omega,by simp only [List.length_nil]; omega⟩,Qal h⟩
 have e2:suZ (2+dval d 9).toNat [] (dnext d 9)=suI d:=rfl
 simp only [r_f72,c1,e1,Qab,e2,c2,c3]
 refine Eq.trans (congrArg (fun b=>br b _ _) c4) ?_
 rw [Qab]
 unfold suiV suiN
 cases done (suI d).2 4 <;> rfl
def QGi:Ent:=specS [.ptr 50000 0] [.box Qaq] (fun x y=>(dOk y.1)) (fun x y=>(.ms 50001)) (fun x y=>[.box (.t Qaq (suiN y.1)), .arr 3 tI (suiV y.1)])
theorem QT9:Meets Tryz.prog 72 (strip QGi):=QaN (R:=runF g_f72 QFI QTl true) (mG Tryz.func72 (by kernel_rfl) Tryz.ntmps72 (by kernel_rfl) gk_f72 lk_f72) fun x y hok=>(e_f72 y.1).trans (s_f72 y.1 hok)
end
end Go.Proofs.YtckcgijklnloiaaGreat.K
namespace Go.Proofs.YtckcgijklnloiaaGreat.K
open Go.RowKit
noncomputable section
abbrev iB (d:Dice):Bool:=igt (dval (keyN d) 3) 0
abbrev iD2 (d:Dice):Dice:=dnext (keyN d) 3
abbrev iA (d:Dice):Int:=dof (iD2 d) [5,7]
def iKey (d:Dice):Keep:=bif iB d then (iA d,(sizeV (dofN (iD2 d) [5,7]) (iA d),())) else keyV d
def iD3 (d:Dice):Dice:=bif iB d then sizeN (dofN (iD2 d) [5,7]) (iA d) else iD2 d
def iId (d:Dice):Int:=100+dval (iD3 d) 20
abbrev iD4 (d:Dice):Dice:=dnext (iD3 d) 20
abbrev iD5 (d:Dice):Dice:=dnext (iD4 d) 9
def iCh (d:Dice)(nm:ByteArray):List Qaa:=bif !done (iD4 d) 9 then chnV (iD5 d) nm (iKey d) (iId d) else []
def iD6 (d:Dice)(nm:ByteArray):Dice:=bif !done (iD4 d) 9 then chnN (iD5 d) nm (iKey d) (iId d) else iD5 d
def idV (d:Dice)(nm:ByteArray):Qao:=(iKey d,(iId d,(iCh d nm,())))
theorem QNm {d:Dice}(h:dOk d=true):dOk (iD3 d)=true:=by
 unfold iD3
 cases iB d
 ·exact Qal (n:=3) (QuK h)
 ·exact Qoj (QaY (l:=[5,7]) (Qal (n:=3) (QuK h)))
theorem Q0m {d:Dice}{nm:ByteArray}{k:Keep}{id:Int}(h:dOk d=true):dOk (chnN d nm k id)=true:=by
 have h2:=(Qxs (dof d [1,0,2]).toNat 0 _ (Bool.and_eq_true_iff.2 ⟨Qal (n:=2) (QaY (l:=[1,0,2]) h),rfl⟩:upOk ([],dnext (dofN d [1,0,2]) 2,sRoot,1+dval (dofN d [1,0,2]) 2)=true)).1
 exact QNo (Bool.and_eq_true_iff.1 h2).1
theorem Qxe {d:Dice}{nm:ByteArray}(h:dOk d=true):dOk (iD6 d nm)=true:=by
 have h5:dOk (iD5 d)=true:=Qal (n:=9) (Qal (n:=20) (QNm h))
 unfold iD6
 cases !done (iD4 d) 9
 ·exact h5
 ·exact Q0m h5
def idsZ:Nat→ByteArray→Dice→List Qao×Dice
 | 0,_,d=>([],d)
 | n+1,nm,d=>(idV d nm::(idsZ n nm (iD6 d nm)).1,(idsZ n nm (iD6 d nm)).2)
theorem Qw2: ∀ (n:Nat) (nm:ByteArray) (d:Dice),dOk d=true→dOk (idsZ n nm d).2=true∧(idsZ n nm d).1.length=n
 | 0,_,d,h=>⟨h,rfl⟩
 | n+1,nm,d,h=>by
  have:=Qw2 n nm (iD6 d nm) (Qxe h)
  exact ⟨this.1,by simp only [idsZ,List.length_cons,this.2]⟩
abbrev eL0 (d:Dice):Int:=dof d [1,1,2,3]
abbrev eD1 (d:Dice):Dice:=dofN d [1,1,2,3]
abbrev eD2 (d:Dice):Dice:=suiN (eD1 d)
abbrev eD3 (d:Dice):Dice:=dnext (eD2 d) 2
abbrev eD4 (d:Dice):Dice:=dnext (eD3 d) 2
abbrev eD5 (d:Dice):Dice:=dnext (eD4 d) (5 - eL0 d)
abbrev eD6 (d:Dice):Dice:=dnext (eD5 d) 3
abbrev eB (d:Dice):Bool:=igt (dval (eD5 d) 3) 0
def eLst (d:Dice):Int:=bif eB d then 1 else eL0 d
def eMst (d:Dice):Int:=bif eB d then dof (eD6 d) [3,4,2] else eL0 d+dval (eD4 d) (5 - eL0 d)
def eD7 (d:Dice):Dice:=bif eB d then dofN (eD6 d) [3,4,2] else eD6 d
abbrev eD8 (d:Dice):Dice:=dofN (eD7 d) [1,2,1,3,0]
def eIdz (d:Dice)(nm:ByteArray):List Qao×Dice:=idsZ (dof (eD7 d) [1,2,1,3,0]).toNat nm (eD8 d)
abbrev eAn (d:Dice)(nm:ByteArray):List Int:=lgt (.sl tI) [[1,2],[1,2],[1],[2,11],([]:List Int)] (dval (eIdz d nm).2 5).toNat
abbrev eD10 (d:Dice)(nm:ByteArray):Dice:=dnext (eIdz d nm).2 5
abbrev eHs (d:Dice)(nm:ByteArray):List Int:=lgt (.sl tI) [[1,2,3,4],[2,3,4],[3,4]] (dval (eD10 d nm) 3).toNat
def epV (d:Dice)(nm:ByteArray):Endpoint:=(nm,(eLst d,(eMst d,(suiV (eD1 d),(done (eD2 d) 2,((eIdz d nm).1,(eAn d nm,(eHs d nm,(done (eD3 d) 2,())))))))))
def epN (d:Dice)(nm:ByteArray):Dice:=dnext (eD10 d nm) 3
def epOk (d:Dice)(nm:ByteArray):Bool:=dOk d&&decide (nm.size≤1000)
noncomputable def QuG:List DO:=dT Tryz.f36 2
def Qcu:Fg:=⟨[(0,none),(1,some .str),(4,none),(5,none),(6,some tI)],[(4,some Qad),(5,none),(15,none),(78,none),(5015,none),(10015,none),(15015,none),(20505,none),(50000,some Qaq)]⟩
noncomputable def Qdl:TC:=(.sq (.sq (.reg (rT Tryz.f36 6)) (.cd (.t 42) .sk (.fg ⟨[(0,none),(4,none),(5,none)],[(4,some Qad),(5,some Qad),(15,none),(78,none),(5015,none),(10015,none),(15015,none),(20505,none),(50000,some Qaq)]⟩ (.ex 0)))) (.sq (.bk 1 (.sq (.reg (rT Tryz.f36 7)) (.sq (.sq (.reg (rT Tryz.f36 8)) (.cd (.t 49) (.sq (.reg (rT Tryz.f36 9)) (.reg (rT Tryz.f36 10))) .sk)) (.sq (.reg (rT Tryz.f36 11)) (.sq (.reg (rT Tryz.f36 12)) (.sq (.sq (.reg (rT Tryz.f36 13)) (.cd (.t 67) (.reg (rT Tryz.f36 14)) .sk)) (.reg (rT Tryz.f36 15)))))))) (.reg (rT Tryz.f36 16))))
noncomputable def Qi5:TC:=(.sq (.reg (rT Tryz.f36 0)) (.sq (.reg (rT Tryz.f36 1)) (.sq (.dr QuG [(0,[5,15,78,5015,10015,15015,20505]),(1,[5,15,78,5015,10015,15015,20505]),(2,[50000]),(3,[5,15,78,5015,10015,15015,20505]),(4,[5,15,78,5015,10015,15015,20505]),(5,[15,78,5015,10015,15015,20505]),(6,[27,5027,10027,15027,50000]),(7,[15,78,5015,10015,15015,20505]),(8,[5,15,78,5015,10015,15015,20505]),(9,[4,5,15,78,5015,10015,15015,20505])] (.of [0,1,2,3,4,5,6,7,8,9])) (.sq (.sq (.reg (rT Tryz.f36 3)) (.cd (.t 32) (.reg (rT Tryz.f36 4)) .sk)) (.sq (.sq (.reg (rT Tryz.f36 5)) (.bk 0 (.nf 5 5 99 20505 (.lp 0 Qcu Qdl)))) (.sq (.reg (rT Tryz.f36 17)) (.sq (.reg (rT Tryz.f36 18)) (.sq (.reg (rT Tryz.f36 19)) .rt))))))))
def QpY:List (RV×Option Ty):=[((.c 4 true 9),none)]
abbrev QfJ:Sh:=⟨[(0, .ptr 50000 0),(1, .ty .str),(4, .ptr 4 0),(5, .ptr 5 0),(6, .ty tI)],[(4, .box Qad),(5, .bag [.ty .str, .ty tI, .ty tI, .ms 15, .ty .bool, .ms 20505, .nl, .nl, .ty .bool]),(15, .arr 3 tI),(78, .no),(5015, .no),(10015, .no),(15015, .no),(20505, .arr 99 Qaw),(50000, .box Qaq)]⟩
def QbJ (x1:ByteArray)(x6:Int)(y4:Endpoint)(y5_0:ByteArray)(y5_1 y5_2:Int)(y5_4 y5_8:Bool)(y15:List Int)(y20505:List Qao)(y50000:Dice):VS:=QfJ.st ((),x1,(),(),x6,()) (y4,(y5_0,y5_1,y5_2,(),y5_4,(),(),(),y5_8,()),y15,(),(),(),(),y20505,y50000,())
abbrev QiP:Sh:=⟨[(0, .ptr 50000 0),(4, .ptr 4 0),(5, .ptr 5 0)],[(4, .box Qad),(5, .bag [.ty .str, .ty tI, .ty tI, .ms 15, .ty .bool, .ms 20505, .nl, .nl, .ty .bool]),(15, .arr 3 tI),(78, .no),(5015, .no),(10015, .no),(15015, .no),(20505, .arr 99 Qaw),(50000, .box Qaq)]⟩
def Qbt (y4:Endpoint)(y5_0:ByteArray)(y5_1 y5_2:Int)(y5_4 y5_8:Bool)(y15:List Int)(y20505:List Qao)(y50000:Dice):VS:=QiP.st ((),(),(),()) (y4,(y5_0,y5_1,y5_2,(),y5_4,(),(),(),y5_8,()),y15,(),(),(),(),y20505,y50000,())
def QAY:VS→Option (Bool×List (Bool×Exit×VS)):=mkL QfJ (fun x y=>(decide (0≤x.2.2.2.2.1∧(y.2.2.2.2.2.2.2.1.length:Int)+x.2.2.2.2.1≤10∧x.2.1.size≤1000)&&dOk y.2.2.2.2.2.2.2.2.1)) (fun x y=>[(true, .exit 0,Qbt (y.1) (y.2.1.1) (y.2.1.2.1) (y.2.1.2.2.1) (y.2.1.2.2.2.2.1) (y.2.1.2.2.2.2.2.2.2.2.1) (y.2.2.1) (y.2.2.2.2.2.2.2.1++(idsZ x.2.2.2.2.1.toNat x.2.1 y.2.2.2.2.2.2.2.2.1).1) ((idsZ x.2.2.2.2.1.toNat x.2.1 y.2.2.2.2.2.2.2.2.1).2))])
def g_f36:G:=⟨TYs,[],100,EL [(35,QgA),(45,Ql4),(46,Qvf),(72,QGi),(73,QGh),(74,QBb),(75,QGg)],keeps,(Ls [QAY]),IL [],RL []⟩
def Qrx (x1:ByteArray)(x6:Int)(y4:Endpoint)(y5_0:ByteArray)(y5_1 y5_2:Int)(y5_4 y5_8:Bool)(y15:List Int)(y20505:List Qao)(y50000:Dice):Option (Exit×VS):=
 let a1:=dnext (keyN y50000) 3
 let a2:=(sizeN (dofN a1 ([5,7])) (dof a1 ([5,7])))
 let a3:=((dof a1 ([5,7])),((sizeV (dofN a1 ([5,7])) (dof a1 ([5,7]))),()))
 let a4:=iadd .i64 100 (dval a2 20)
 let a5:=iadd .i64 100 (dval a1 20)
 let a6:=((keyV y50000).1,(((keyV y50000).2).1,()))
 let a7:=dnext (dnext a2 20) 9
 let a8:=dnext (dnext a1 20) 9
 let a9:=isub .i64 x6 1
 let a10:=((chnV a8 x1 (keyV y50000) a5),())
 let a11:=((chnV a7 x1 a3 a4),())
 br (igt x6 0) (br (dOk y50000) (br (Qav (keyN y50000) 3) (br (igt (dval (keyN y50000) 3) 0) (br (ofOk a1 ([5,7])) (br (dOk1 (dofN a1 ([5,7])) (dof a1 ([5,7]))) (br (Qav a2 20) (br (oneOk (dnext a2 20) 9) (br (!(done (dnext a2 20) 9)) (br (chnOk a7 x1 a3 a4) (br (cApp y20505 ([(a3,(a4,a11))]) 48) (some (.normal,QbJ x1 a9 y4 y5_0 y5_1 y5_2 y5_4 y5_8 y15 (y20505++([(a3,(a4,a11))])) (chnN a7 x1 a3 a4))) none) none) (br (cApp y20505 ([(a3,(a4,(([]:List Qaa),())))]) 48) (some (.normal,QbJ x1 a9 y4 y5_0 y5_1 y5_2 y5_4 y5_8 y15 (y20505++([(a3,(a4,(([]:List Qaa),())))])) a7)) none)) none) none) none) none) (br (Qav a1 20) (br (oneOk (dnext a1 20) 9) (br (!(done (dnext a1 20) 9)) (br (chnOk a8 x1 (keyV y50000) a5) (br (cApp y20505 ([(a6,(a5,a10))]) 48) (some (.normal,QbJ x1 a9 y4 y5_0 y5_1 y5_2 y5_4 y5_8 y15 (y20505++([(a6,(a5,a10))])) (chnN a8 x1 (keyV y50000) a5))) none) none) (br (cApp y20505 ([(a6,(a5,(([]:List Qaa),())))]) 48) (some (.normal,QbJ x1 a9 y4 y5_0 y5_1 y5_2 y5_4 y5_8 y15 (y20505++([(a6,(a5,(([]:List Qaa),())))])) a8)) none)) none) none)) none) none) (some (.exit 0,Qbt y4 y5_0 y5_1 y5_2 y5_4 y5_8 y15 y20505 y50000))
noncomputable def Qbe (x1:ByteArray)(x6:Int)(y4:Endpoint)(y5_0:ByteArray)(y5_1 y5_2:Int)(y5_4 y5_8:Bool)(y15:List Int)(y20505:List Qao)(y50000:Dice):Option (Exit×VS):=loopF (Qai g_f36 Qcu Qdl) (QbJ x1 x6 y4 y5_0 y5_1 y5_2 y5_4 y5_8 y15 y20505 y50000)
noncomputable def QfR (x1:ByteArray)(x6:Int)(y4:Endpoint)(y5_0:ByteArray)(y5_1 y5_2:Int)(y5_4 y5_8:Bool)(y15:List Int)(y20505:List Qao)(y50000:Dice):Option (Exit×VS):=
 let a1:=dnext (keyN y50000) 3
 let a2:=(sizeN (dofN a1 ([5,7])) (dof a1 ([5,7])))
 let a3:=((dof a1 ([5,7])),((sizeV (dofN a1 ([5,7])) (dof a1 ([5,7]))),()))
 let a4:=iadd .i64 100 (dval a2 20)
 let a5:=iadd .i64 100 (dval a1 20)
 let a6:=((keyV y50000).1,(((keyV y50000).2).1,()))
 let a7:=dnext (dnext a2 20) 9
 let a8:=dnext (dnext a1 20) 9
 let a9:=isub .i64 x6 1
 let a10:=((chnV a8 x1 (keyV y50000) a5),())
 let a11:=((chnV a7 x1 a3 a4),())
 br (igt x6 0) (br (dOk y50000) (br (Qav (keyN y50000) 3) (br (igt (dval (keyN y50000) 3) 0) (br (ofOk a1 ([5,7])) (br (dOk1 (dofN a1 ([5,7])) (dof a1 ([5,7]))) (br (Qav a2 20) (br (oneOk (dnext a2 20) 9) (br (!(done (dnext a2 20) 9)) (br (chnOk a7 x1 a3 a4) (br (cApp y20505 ([(a3,(a4,a11))]) 48) (Qbe x1 a9 y4 y5_0 y5_1 y5_2 y5_4 y5_8 y15 (y20505++([(a3,(a4,a11))])) (chnN a7 x1 a3 a4)) none) none) (br (cApp y20505 ([(a3,(a4,(([]:List Qaa),())))]) 48) (Qbe x1 a9 y4 y5_0 y5_1 y5_2 y5_4 y5_8 y15 (y20505++([(a3,(a4,(([]:List Qaa),())))])) a7) none)) none) none) none) none) (br (Qav a1 20) (br (oneOk (dnext a1 20) 9) (br (!(done (dnext a1 20) 9)) (br (chnOk a8 x1 (keyV y50000) a5) (br (cApp y20505 ([(a6,(a5,a10))]) 48) (Qbe x1 a9 y4 y5_0 y5_1 y5_2 y5_4 y5_8 y15 (y20505++([(a6,(a5,a10))])) (chnN a8 x1 (keyV y50000) a5)) none) none) (br (cApp y20505 ([(a6,(a5,(([]:List Qaa),())))]) 48) (Qbe x1 a9 y4 y5_0 y5_1 y5_2 y5_4 y5_8 y15 (y20505++([(a6,(a5,(([]:List Qaa),())))])) a8) none)) none) none)) none) none) (some (.exit 0,Qbt y4 y5_0 y5_1 y5_2 y5_4 y5_8 y15 y20505 y50000))
def Qbv (x1:ByteArray)(x6:Int)(y4:Endpoint)(y5_0:ByteArray)(y5_1 y5_2:Int)(y5_4 y5_8:Bool)(y15:List Int)(y20505:List Qao)(y50000:Dice):Option (Exit×VS):=
 let a1:=idsZ x6.toNat x1 y50000
 some (.exit 0,Qbt (y4) (y5_0) (y5_1) (y5_2) (y5_4) (y5_8) (y15) (y20505++a1.1) (a1.2))
theorem QuP (x1:ByteArray)(x6:Int)(y4:Endpoint)(y5_0:ByteArray)(y5_1 y5_2:Int)(y5_4 y5_8:Bool)(y15:List Int)(y20505:List Qao)(y50000:Dice):Qai g_f36 Qcu Qdl (QbJ x1 x6 y4 y5_0 y5_1 y5_2 y5_4 y5_8 y15 y20505 y50000)=Qrx x1 x6 y4 y5_0 y5_1 y5_2 y5_4 y5_8 y15 y20505 y50000:=by kernel_rfl
theorem Qkq (x1:ByteArray)(x6:Int)(y4:Endpoint)(y5_0:ByteArray)(y5_1 y5_2:Int)(y5_4 y5_8:Bool)(y15:List Int)(y20505:List Qao)(y50000:Dice):Qbe x1 x6 y4 y5_0 y5_1 y5_2 y5_4 y5_8 y15 y20505 y50000=QfR x1 x6 y4 y5_0 y5_1 y5_2 y5_4 y5_8 y15 y20505 y50000:=(Qan _ _).trans (by
 rw [QuP]
 simp only [Qrx,QfR,QaA,nxt_n,nxt_r,nxt_e,nxt_0]
 rfl)
def r_f36 (d0:Dice)(p1:ByteArray):Option (V×List VO):=
 let a4:=(dofN d0 ([1,1,2,3]))
 let a6:=dnext (suiN a4) 2
 let a13:=(dof d0 ([1,1,2,3]))
 let a5:=isub .i64 5 a13
 let a12:=dnext (dnext a6 2) a5
 let a1:=dnext a12 3
 let a7:=(dofN a1 ([3,4,2]))
 let a10:=(dof a7 ([1,2,1,3,0]))
 let a2:=(idsZ a10.toNat p1 (dofN a7 ([1,2,1,3,0])))
 let a11:=(dof a1 ([1,2,1,3,0]))
 let a3:=(idsZ a11.toNat p1 (dofN a1 ([1,2,1,3,0])))
 let a8:=dnext (a2.2) 5
 let a9:=dnext (a3.2) 5
 br (ofOk d0 ([1,1,2,3])) (br (dOk a4) (br (oneOk (suiN a4) 2) (br (oneOk a6 2) (br (Qav (dnext a6 2) a5) (br (Qav a12 3) (br (igt (dval a12 3) 0) (br (ofOk a1 ([3,4,2])) (br (ofOk a7 ([1,2,1,3,0])) (br (decide (0≤a10∧(([]:List Qao).length:Int)+a10≤10∧p1.size≤1000)&&dOk (dofN a7 ([1,2,1,3,0]))) (br (Qav (a2.2) 5) (br (cIx ([[1,2],[1,2],[1],[2,11],([]:List Int)]) (dval (a2.2) 5)) (br (Qav a8 3) (br (cIx ([[1,2,3,4],[2,3,4],[3,4]]) (dval a8 3)) (some (.ag [(.t .str (p1)),(.t tI (1:Int)),(.t tI (dof a1 ([3,4,2]))),(.ms 50001),(.t .bool (done (suiN a4) 2)),(.ms 50002),(.t (.sl tI) (lgt (.sl tI) ([[1,2],[1,2],[1],[2,11],([]:List Int)]) (Int.toNat (dval (a2.2) 5)))),(.t (.sl tI) (lgt (.sl tI) ([[1,2,3,4],[2,3,4],[3,4]]) (Int.toNat (dval a8 3)))),(.t .bool (done a6 2))],[.box (.t Qaq (dnext a8 3)), .arr 3 tI (suiV a4), .arr 99 Qaw (([]:List Qao)++a2.1)])) none) none) none) none) none) none) none) (br (ofOk a1 ([1,2,1,3,0])) (br (decide (0≤a11∧(([]:List Qao).length:Int)+a11≤10∧p1.size≤1000)&&dOk (dofN a1 ([1,2,1,3,0]))) (br (Qav (a3.2) 5) (br (cIx ([[1,2],[1,2],[1],[2,11],([]:List Int)]) (dval (a3.2) 5)) (br (Qav a9 3) (br (cIx ([[1,2,3,4],[2,3,4],[3,4]]) (dval a9 3)) (some (.ag [(.t .str (p1)),(.t tI a13),(.t tI (iadd .i64 a13 (dval (dnext a6 2) a5))),(.ms 50001),(.t .bool (done (suiN a4) 2)),(.ms 50002),(.t (.sl tI) (lgt (.sl tI) ([[1,2],[1,2],[1],[2,11],([]:List Int)]) (Int.toNat (dval (a3.2) 5)))),(.t (.sl tI) (lgt (.sl tI) ([[1,2,3,4],[2,3,4],[3,4]]) (Int.toNat (dval a9 3)))),(.t .bool (done a6 2))],[.box (.t Qaq (dnext a9 3)), .arr 3 tI (suiV a4), .arr 99 Qaw (([]:List Qao)++a3.1)])) none) none) none) none) none) none)) none) none) none) none) none) none
theorem e_f36 (d0:Dice)(p1:ByteArray):runF g_f36 Qi5 QpY true [.ptr 50000 0, .t .str p1] [.box (.t Qaq d0)]=r_f36 d0 p1:=by kernel_rfl
theorem ok_f36:Option.map (trC Tryz.prog) Tryz.f36.body=some Qi5.er:=by kernel_rfl
theorem QUW:trVs Tryz.prog Tryz.f36.results.toList=some (QpY.map Prod.fst):=by kernel_rfl
theorem QUw:Qag Tryz.prog 36:= .inr ⟨by decide,_,Tryz.func36,by kernel_rfl,by kernel_rfl⟩
theorem QMf:GOk Tryz.prog g_f36:=Qak _ (gA (gC Qiy Qiu (gC Qrh Qqr (gC QC4 QBB (gC QUs QT9 (gC QUr QT8 (gC QMx QKB (gC QUq QT7 gN))))))))
theorem QAc (x1:ByteArray)(x6:Int)(y4:Endpoint)(y5_0:ByteArray)(y5_1 y5_2:Int)(y5_4 y5_8:Bool)(y15:List Int)(y20505:List Qao)(y50000:Dice)(h:(decide (0≤x6∧(y20505.length:Int)+x6≤10∧x1.size≤1000)&&dOk y50000)=true):Qbe x1 x6 y4 y5_0 y5_1 y5_2 y5_4 y5_8 y15 y20505 y50000=Qbv x1 x6 y4 y5_0 y5_1 y5_2 y5_4 y5_8 y15 y20505 y50000:=by
 obtain ⟨h,hd⟩:=Bool.and_eq_true_iff.1 h
 obtain ⟨h0,h1,h2⟩:=of_decide_eq_true h
 clear h
 obtain ⟨n,rfl⟩:=Int.eq_ofNat_of_zero_le h0
 have key: ∀ (n:Nat) (y20505:List Qao) (y50000:Dice),y20505.length+n≤10→dOk y50000=true→Qbe x1 (n:Int) y4 y5_0 y5_1 y5_2 y5_4 y5_8 y15 y20505 y50000=Qbv x1 (n:Int) y4 y5_0 y5_1 y5_2 y5_4 y5_8 y15 y20505 y50000:=by
  intro n
  induction n with
  | zero=>
   intro y20505 y50000 _ _
   rw [Qkq]
   simp only [QfR,Qbv,show igt ((0:Nat):Int) 0=false from rfl,Qae,Int.toNat_natCast,idsZ,List.append_nil]
  | succ n ih=>
   intro y20505 y50000 hl hd
   rw [Qkq]
   have e2:isub .i64 ((n+1:Nat):Int) 1=(n:Int):=(Qbg (by omega)).trans (by omega)
   have k1:=QuK hd
   have k2:=Qal (n:=3) k1
   have k3:=QaY (l:=[5,7]) k2
   have k4: ∀ a,dOk (sizeN (dofN (dnext (keyN y50000) 3) [5,7]) a)=true:=fun a=>Qoj k3
   have c1:Qav (keyN y50000) 3=true:=QaQ k1 (by omega)
   have c2:ofOk (dnext (keyN y50000) 3) [5,7]=true:=Qcs k2 (by decide) (by decide)
   have c3: ∀ a,dOk1 (dofN (dnext (keyN y50000) 3) [5,7]) a=true:=fun a=>k3
   have c4: ∀ a,Qav (sizeN (dofN (dnext (keyN y50000) 3) [5,7]) a) 20=true:=fun a=>QaQ (k4 a) (by omega)
   have c5: ∀ a,oneOk (dnext (sizeN (dofN (dnext (keyN y50000) 3) [5,7]) a) 20) 9=true:=fun a=>Qcr (Qal (k4 a)) (by omega) (by omega)
   have c6:Qav (dnext (keyN y50000) 3) 20=true:=QaQ k2 (by omega)
   have c7:oneOk (dnext (dnext (keyN y50000) 3) 20) 9=true:=Qcr (Qal k2) (by omega) (by omega)
   have c8: ∀ a k i,chnOk (dnext (dnext (sizeN (dofN (dnext (keyN y50000) 3) [5,7]) a) 20) 9) x1 k i=true:=fun a k i=>Bool.and_eq_true_iff.2 ⟨Qal (Qal (k4 a)),decide_eq_true h2⟩
   have c9: ∀ k i,chnOk (dnext (dnext (dnext (keyN y50000) 3) 20) 9) x1 k i=true:=fun k i=>Bool.and_eq_true_iff.2 ⟨Qal (Qal k2),decide_eq_true h2⟩
   have ca: ∀ v,cApp y20505 [v] 48=true:=fun v=>cAppN (by omega) (by simp only [List.length_singleton]; omega)
   have cb: ∀ d:Dice,iadd .i64 100 (dval d 20)=100+dval d 20:=fun d=>by
    have b:=QaP (d:=d) (n:=20) (by omega)
    exact QaV (by omega)
   simp only [QfR,show igt ((n+1:Nat):Int) 0=true from decide_eq_true (by omega),Qab,hd,e2,c1,c2,c3,c4,c5,c6,c7,c8,c9,ca,cb]
   have hi: ∀ v d,dOk d=true→Qbe x1 (n:Int) y4 y5_0 y5_1 y5_2 y5_4 y5_8 y15 (y20505++[v]) d=Qbv x1 (n:Int) y4 y5_0 y5_1 y5_2 y5_4 y5_8 y15 (y20505++[v]) d:=fun v d hd=>ih _ _ (by simp only [List.length_append,List.length_singleton]; omega) hd
   have hz:=hi (idV y50000 x1) (iD6 y50000 x1) (Qxe hd)
   have goal2:Qbv x1 (n:Int) y4 y5_0 y5_1 y5_2 y5_4 y5_8 y15 (y20505++[idV y50000 x1]) (iD6 y50000 x1)=Qbv x1 ((n+1:Nat):Int) y4 y5_0 y5_1 y5_2 y5_4 y5_8 y15 y20505 y50000:=by
    simp only [Qbv,Int.toNat_natCast,idsZ,List.append_assoc,List.singleton_append]
   refine Eq.trans ?_ (hz.trans goal2)
   simp only [idV,iD6,iCh,iId,iKey,iD3,iB,iD2,iA,iD4,iD5]
   cases igt (dval (keyN y50000) 3) 0 with
   | true=>
    simp only [Qab,cond_true]
    cases done (dnext (sizeN (dofN (dnext (keyN y50000) 3) [5,7]) (dof (dnext (keyN y50000) 3) [5,7])) 20) 9 <;> rfl
   | false=>
    simp only [Qae,cond_false]
    cases done (dnext (dnext (keyN y50000) 3) 20) 9 <;> rfl
 exact key n _ _ (by omega) hd
theorem Qul: ∀ S l p,g_f36.L 0 (fgt Qcu S)=some (true,l)→pickA l=some p→loopF (Qai g_f36 Qcu Qdl) S=some p:=
 QaB (s:=QfJ) ⟨by decide,by decide⟩ (by kernel_rfl) fun x y hok p hp=>by
 simp only [Qap,Qam] at hp
 exact (QAc x.2.1 x.2.2.2.2.1 y.1 y.2.1.1 y.2.1.2.1 y.2.1.2.2.1 y.2.1.2.2.2.2.1 y.2.1.2.2.2.2.2.2.2.2.1 y.2.2.1 y.2.2.2.2.2.2.2.1 y.2.2.2.2.2.2.2.2.1 (by simpa using hok)).trans hp
theorem QLK:Qi5.lok g_f36:=by
 repeat (first | exact trivial | exact Qul | refine ⟨?_, ?_⟩)
theorem s_f36 (d:Dice)(nm:ByteArray)(h:epOk d nm=true):r_f36 d nm=some (.ag [.t .str nm, .t tI (eLst d), .t tI (eMst d), .ms 50001, .t .bool (done (eD2 d) 2), .ms 50002, .t (.sl tI) (eAn d nm), .t (.sl tI) (eHs d nm), .t .bool (done (eD3 d) 2)],[.box (.t Qaq (epN d nm)), .arr 3 tI (suiV (eD1 d)), .arr 99 Qaw (eIdz d nm).1]):=by
 simp only [epOk,Bool.and_eq_true,decide_eq_true_eq] at h
 obtain ⟨h,hn⟩:=h
 have m0:=Qbo (d:=d) (l:=[1,1,2,3]) (by decide)
 simp only [List.mem_cons,List.not_mem_nil,or_false] at m0
 have k1:=QaY (l:=[1,1,2,3]) h
 have k2:=Qrp k1
 have k3:=Qal (n:=2) k2
 have k4:=Qal (n:=2) k3
 have e0:isub .i64 5 (dof d [1,1,2,3])=5 - eL0 d:=Qbg (by omega)
 have b4:=QaP (d:=eD4 d) (n:=5 - eL0 d) (by show 0<5 - dof d [1,1,2,3]; omega)
 have e1:iadd .i64 (dof d [1,1,2,3]) (dval (eD4 d) (5 - eL0 d))=eL0 d+dval (eD4 d) (5 - eL0 d):=QaV (by show _∧_; have:eL0 d=dof d [1,1,2,3]:=rfl; omega)
 have k5:=Qal (n:=5 - eL0 d) k4
 have k6:=Qal (n:=3) k5
 have k6':=QaY (l:=[3,4,2]) k6
 have k7:dOk (eD7 d)=true:=by
  unfold eD7
  cases eB d
  ·exact k6
  ·exact k6'
 have k8:=QaY (l:=[1,2,1,3,0]) k7
 have m7:=Qbo (d:=eD7 d) (l:=[1,2,1,3,0]) (by decide)
 simp only [List.mem_cons,List.not_mem_nil,or_false] at m7
 obtain ⟨k9,_⟩:=Qw2 (dof (eD7 d) [1,2,1,3,0]).toNat nm (eD8 d) k8
 have k10:=Qal (n:=5) k9
 have c1:ofOk d [1,1,2,3]=true:=Qcs h (by decide) (by decide)
 have c3:oneOk (suiN (dofN d [1,1,2,3])) 2=true:=Qcr k2 (by omega) (by omega)
 have c4:oneOk (dnext (suiN (dofN d [1,1,2,3])) 2) 2=true:=Qcr k3 (by omega) (by omega)
 have c5:Qav (eD4 d) (5 - eL0 d)=true:=QaQ k4 (by show 5 - dof d [1,1,2,3]≤_; omega)
 have c6:Qav (eD5 d) 3=true:=QaQ k5 (by omega)
 have c7:ofOk (eD6 d) [3,4,2]=true:=Qcs k6 (by decide) (by decide)
 have c8:ofOk (eD7 d) [1,2,1,3,0]=true:=Qcs k7 (by decide) (by decide)
 have k8':dOk (dofN (eD7 d) [1,2,1,3,0])=true:=k8
 have e5:idsZ (dof (eD7 d) [1,2,1,3,0]).toNat nm (dofN (eD7 d) [1,2,1,3,0])=eIdz d nm:=rfl
 have c9:(decide ((0:Int)≤dof (eD7 d) [1,2,1,3,0]∧(([]:List Qao).length:Int)+dof (eD7 d) [1,2,1,3,0]≤10∧nm.size≤1000)&&true)=true:=by
  rw [Bool.and_true]
  exact decide_eq_true ⟨by omega,by simp only [List.length_nil]; omega,hn⟩
 have c10:Qav (eIdz d nm).2 5=true:=QaQ k9 (by omega)
 have b10:=QaP (d:=(eIdz d nm).2) (n:=5) (by omega)
 have c11:cIx [[1,2],[1,2],[1],[2,11],([]:List Int)] (dval (eIdz d nm).2 5)=true:=decide_eq_true (by simp only [List.length_cons,List.length_nil]; omega)
 have c12:Qav (dnext (eIdz d nm).2 5) 3=true:=QaQ k10 (by omega)
 have b12:=QaP (d:=dnext (eIdz d nm).2 5) (n:=3) (by omega)
 have c13:cIx [[1,2,3,4],[2,3,4],([3,4]:List Int)] (dval (dnext (eIdz d nm).2 5) 3)=true:=decide_eq_true (by simp only [List.length_cons,List.length_nil]; omega)
 simp only [r_f36,c1,k1,c3,c4,e0,c5,c6,e1,c7,Qab]
 cases hb:eB d with
 | true=>
  have e7:dofN (eD6 d) [3,4,2]=eD7 d:=by unfold eD7; rw [hb]; rfl
  have e8:eLst d=1:=by unfold eLst; rw [hb]; rfl
  have e9:eMst d=dof (eD6 d) [3,4,2]:=by unfold eMst; rw [hb]; rfl
  refine Eq.trans (congrArg (fun b=>br b _ _) hb) ?_
  simp only [Qab,e7,c8,k8',e5,Qab,c10,c11,c12,c13]
  refine Eq.trans (congrArg (fun b=>br b _ _) c9) ?_
  rw [Qab,e8,e9]
  refine Eq.trans (congrArg (fun b=>br b _ _) c13) ?_
  rfl
 | false=>
  have e7:eD6 d=eD7 d:=by unfold eD7; rw [hb]; rfl
  have e8:eLst d=eL0 d:=by unfold eLst; rw [hb]; rfl
  have e9:eMst d=eL0 d+dval (eD4 d) (5 - eL0 d):=by unfold eMst; rw [hb]; rfl
  refine Eq.trans (congrArg (fun b=>br b _ _) hb) ?_
  simp only [Qae,e7,c8,k8',e5,Qab,c10,c11,c12,c13]
  refine Eq.trans (congrArg (fun b=>br b _ _) c9) ?_
  rw [Qab,e8,e9]
  refine Eq.trans (congrArg (fun b=>br b _ _) c13) ?_
  rfl
def QBe:Ent:=specS [.ptr 50000 0, .ty .str] [.box Qaq] (fun x y=>(epOk y.1 x.2.1)) (fun x y=>(.ag [(.t .str ((epV y.1 x.2.1).1)),(.t tI (((epV y.1 x.2.1).2).1)),(.t tI ((((epV y.1 x.2.1).2).2).1)),(.ms 50001),(.t .bool ((((((epV y.1 x.2.1).2).2).2).2).1)),(.ms 50002),(.t (.sl tI) ((((((((epV y.1 x.2.1).2).2).2).2).2).2).1)),(.t (.sl tI) (((((((((epV y.1 x.2.1).2).2).2).2).2).2).2).1)),(.t .bool ((((((((((epV y.1 x.2.1).2).2).2).2).2).2).2).2).1))])) (fun x y=>[.box (.t Qaq (epN y.1 x.2.1)), .arr 3 tI (((((epV y.1 x.2.1).2).2).2).1), .arr 99 Qaw (((((((epV y.1 x.2.1).2).2).2).2).2).1)])
theorem QUd:Meets Tryz.prog 36 (strip QBe):=QaN (R:=runF g_f36 Qi5 QpY true) (mG Tryz.func36 (by kernel_rfl) Tryz.ntmps36 (by kernel_rfl) QMf QLK) fun x y hok=>(e_f36 y.1 x.2.1).trans (s_f36 y.1 x.2.1 hok)
end
end Go.Proofs.YtckcgijklnloiaaGreat.K
namespace Go.Proofs.YtckcgijklnloiaaGreat.K
open Go.RowKit
noncomputable section
theorem QHu (l:List Int):(sortS l).length=l.length:=by
 unfold sortS
 have: ∀ (l a:List Int),(l.foldl insS a).length=a.length+l.length:=by
  intro l
  induction l with
  | nil=>intro a; rfl
  | cons x r ih=>
   intro a
   rw [List.foldl_cons,ih,QB2,List.length_cons]
   omega
 rw [this]
 simp
theorem QOS {d:Dice}(h:dOk d=true):(suiV d).length≤10:=by
 have:=(QF9 h).2
 unfold suiV
 cases done (suI d).2 4
 ·exact this
 ·rw [cond_true,QHu]
  exact this
theorem QRy {d:Dice}{nm:ByteArray}(h:dOk d=true):dOk (eIdz d nm).2=true:=by
 have k4:=Qal (n:=2) (Qal (n:=2) (Qrp (QaY (l:=[1,1,2,3]) h)))
 have k6:=Qal (n:=3) (Qal (n:=5 - eL0 d) k4)
 have k7:dOk (eD7 d)=true:=by
  unfold eD7
  cases eB d
  ·exact k6
  ·exact QaY (l:=[3,4,2]) k6
 exact (Qw2 (dof (eD7 d) [1,2,1,3,0]).toNat nm (eD8 d) (QaY (l:=[1,2,1,3,0]) k7)).1
theorem QNn {d:Dice}{nm:ByteArray}(h:dOk d=true):dOk (epN d nm)=true:=Qal (n:=3) (Qal (n:=5) (QRy h))
def prZ:List Int→List Int→Dice→List Int×Dice
 | [],s,d=>(s,d)
 | x::r,s,d=>if ilt (llen s) 16=true then (if hasF s x=true then prZ r s d else if done d 2=true then prZ r (s++[x]) (dnext d 2) else prZ r s (dnext d 2)) else (s,d)
theorem QuC {d:Dice}{nm:ByteArray}(h:dOk d=true):(QaJ (epV d nm)).length≤10:=QOS (QaY (l:=[1,1,2,3]) h)
end
end Go.Proofs.YtckcgijklnloiaaGreat.K
namespace Go.Proofs.YtckcgijklnloiaaGreat.K
open Go.RowKit
noncomputable section
end
end Go.Proofs.YtckcgijklnloiaaGreat.K
namespace Go.Proofs.YtckcgijklnloiaaGreat.K
open Go.RowKit
noncomputable section
end
end Go.Proofs.YtckcgijklnloiaaGreat.K
namespace Go.Proofs.YtckcgijklnloiaaGreat.K
open Go.RowKit
noncomputable section
def rowC (s:Endpoint)(o:List Int)(v:Int)(k:Nat):List Keep:=((List.range' k (17 - k)).filter fun (j:Nat)=>posE s o v (j:Int)).map fun (j:Nat)=>(v,((j:Int),()))
def verC (s:Endpoint)(o:List Int)(v n:Nat):List Keep:=(List.range' v n).flatMap fun (j:Nat)=>rowC s o (j:Int) 1
abbrev hiC (c s:Endpoint):Int:=imn c.2.2.1 s.2.2.1
abbrev loC (c s:Endpoint):Int:=imx c.2.1 s.2.1
def Qdc (c s:Endpoint):List Keep:=bif !Qgi c s then [] else verC s (QaJ c) (loC c s).toNat (hiC c s+1 - loC c s).toNat
-- loop 0: (x6 : Int) (x7 : Int) (y2 : Endpoint) (y3 : Endpoint) (y5 : (List Keep)); out: ('exit', 2) (x6 : Int) (y2 : Endpoint) (y3 : Endpoint) (y5 : (List Keep))
-- loop 1: (x6 : Int) (y2 : Endpoint) (y3 : Endpoint) (y5 : (List Keep)); out: ('exit', 0) (y5 : (List Keep))
end
end Go.Proofs.YtckcgijklnloiaaGreat.K
namespace Go.Proofs.YtckcgijklnloiaaGreat.K
open Go.RowKit
noncomputable section
theorem QHv (l:List Int):(sortI l).Pairwise (· ≤ ·):=by
 have:=List.pairwise_mergeSort (le:=fun x y:Int=>decide (x≤y)) (fun a b c h1 h2=>by simp only [decide_eq_true_eq] at *; omega) (fun a b=>by simp only [Bool.or_eq_true,decide_eq_true_eq]; omega) l
 exact this.imp fun h=>of_decide_eq_true h
theorem Qvh {l:List Int}{p:Int→Bool}(hn:l.Nodup)(hr: ∀ x ∈ l,1≤x∧x≤16)(hp: ∀ x,p x=true→x ∈ l):(sortI l).filter p=(((List.range' 1 16).filter fun (j:Nat)=>p (j:Int)).map fun (j:Nat)=>(j:Int)):=by
 have hperm:(sortI l).Perm l:=List.mergeSort_perm _ _
 refine List.Perm.eq_of_pairwise (le:=(· ≤ ·)) (fun a b _ _ h1 h2=>by omega) ((QHv l).filter _) ?_ ?_
 ·rw [List.pairwise_map]
  refine List.Pairwise.filter _ ?_
  refine (List.pairwise_lt_range' (s:=1) (n:=16)).imp fun h=>by omega
 ·refine (List.perm_ext_iff_of_nodup ((hperm.nodup_iff.2 hn).filter _) ?_).2 fun a=> ?_
  ·rw [List.nodup_iff_pairwise_ne,List.pairwise_map]
   refine List.Pairwise.filter _ ?_
   refine (List.pairwise_lt_range' (s:=1) (n:=16)).imp fun h=>by omega
  ·simp only [List.mem_filter,List.mem_map,List.mem_range'_1,hperm.mem_iff]
   constructor
   ·rintro ⟨h1,h2⟩
    have:=hr a h1
    exact ⟨a.toNat,⟨by omega,by rw [Int.toNat_of_nonneg (by omega)]; exact h2⟩,Int.toNat_of_nonneg (by omega)⟩
   ·rintro ⟨j,⟨_,h2⟩,rfl⟩
    exact ⟨hp _ h2,h2⟩
def rowS (s:Endpoint)(o:List Int)(v:Int)(l:List Int):List Keep:=(l.filter fun j=>posE s o v j).map fun j=>(v,(j,()))
theorem QOQ {l:List Int}(h:suitF l=true): ∀ x ∈ l,1≤x∧x≤16:=by
 intro x hx
 obtain ⟨k,hk,rfl⟩:=List.mem_iff_getElem.1 hx
 exact (Qlu h k hk).1
theorem QUU {s:Endpoint}{o:List Int}{v:Int}(h:suitF o=true):rowS s o v (sortI o)=rowC s o v 1:=by
 unfold rowS rowC
 rw [Qvh (p:=fun j=>posE s o v j) (QrZ h) (QOQ h) (fun x hx=>by
  simp only [posE,Bool.and_eq_true] at hx
  exact List.contains_iff_mem.1 hx.2.2.2.1),List.map_map]
 rfl
theorem QDU {c:Endpoint}(h:QaS c=true):suitF (QaJ c)=true:=by
 simp only [QaS,Bool.and_eq_true] at h
 exact h.2.2.2.2.1
end
end Go.Proofs.YtckcgijklnloiaaGreat.K
namespace Go.Proofs.YtckcgijklnloiaaGreat.K
open Go.RowKit Go.Shelf
attribute [local go_sem] Oper.semAt_some
set_option maxRecDepth 100000 in
set_option maxHeartbeats 1000000 in
theorem QA3 (Bs b0 off c n:Nat)(A:Option Addr)(vs:List Value)(Xf:Nat→Nat→Prop)(w:World)(hreach:n * 8≤140737488351232)(hvl:vs.length=n)
  (hBs:w.cell? ⟨Bs,0,none⟩=some (.slice A n c)) (hBl:Bs<w.heap.size)
  (hA:0<n→A=some ⟨b0,off,none⟩∧b0<w.heap.size∧(∀ j,j<vs.length→ ¬ Xf b0 (off+j))∧ ∀ j v,vs[j]? = some v→w.cell? ⟨b0,off+j,none⟩=some v):
  ItOk Tryz.prog 136 [.pointer (some ⟨Bs,0,none⟩)] (vs.map fun v=> #[v]) Xf w:=by
 intro l J Jx W hJ hJx hK hY h0 hst
 have HA:=Lib.hid hA
 clear hA
 refine callsIn_of_wp (F:=Fw none) Tryz.func136 rfl trivial ?_ rfl
 simp only [Tryz.ntmps136,List.size_toArray,List.length_cons,List.length_nil,Nat.reduceAdd,Nat.reduceSub,Array.replicate_succ,Array.replicate_zero,List.push_toArray,List.append_toArray,List.nil_append,List.cons_append]
 have hb0:W.cell? ⟨Bs,0,none⟩=some (.slice A n c):=(hst Bs 0 hBl).trans hBs
 gi_wp2
 gi_loopw [7] (fun i wr=> ∃ k:Nat,k≤n∧i= .int .i64 (k:Int)∧J ((vs.drop k).map fun v=> #[v]) wr)
  (fun i _=>n - (intOf i).toNat)
 case atStart=>exact ⟨0,Nat.zero_le _,rfl,h0⟩
 case round=>
  obtain ⟨k,hk,rfl,hJs⟩:=hrel
  by_cases hlt:k<n
  ·obtain ⟨rfl,hbl,hnx,hcl⟩:=HA.out (by omega)
   have hlt2:k<vs.length:=by omega
   rw [List.drop_eq_getElem_cons hlt2,List.map_cons] at hJs
   obtain ⟨fn,tmps,assign,body,hy,hR⟩:=hY _ _ wr hJs
   have hcx':wr.cell? ⟨b0,off+k,none⟩=some vs[k]:=((hK _ wr hJs).2 b0 _ hbl (hnx _ hlt2)).trans (hcl _ _ (List.getElem?_eq_getElem hlt2))
   clear hnx hcl hY
   gi_wp2
   refine hR.mono ?_
   rintro e W3 (⟨rfl,hJ3⟩ | ⟨rfl,hJx3⟩)
   ·gi_wp2
    go_roundw
    case rel=>exact ⟨k+1,by omega,by simp,hJ3⟩
    case measure=>simp [intOf]; omega
   ·gi_wp2
    refine bodyPost_ret (results_none rfl _ _ _) rfl ?_
    exact ⟨⟨_,rfl⟩, .inr hJx3⟩
  ·obtain rfl:k=n:=by omega
   rw [List.drop_of_length_le (by omega)] at hJs
   gi_wp2
   go_end0
   exact ⟨⟨_,rfl⟩, .inl hJs⟩
def mkIt (l:List SV)(bs:List Ty)(yr:Ty)(ok:boxT bs→Bool)(f:boxT bs→List yr.T):Itr:=fun caps objs=>
 match rdVt l caps,Qbx bs objs with
 | some _,some d=>some (ok d,⟨yr,f d⟩)
 | _,_=>none
def Qgk (l:List Int):Bool:=decide (l.length≤100000)
def valI (l:List Int):List (Int×Unit):=l.map fun x=>(x,())
def Qn9:Itr:=mkIt [.ptr 50000 0] [(.sl tI)] (.pr tI .nil) (fun d=>(Qgk d.1)) (fun d=>(valI d.1))
noncomputable def QFw:TC:=(.sq (.reg (rT Tryz.f89 0)) (.sq (.reg (rT Tryz.f89 1)) .rt))
def QS9:List (RV×Option Ty):=[((.t 2),none)]
def g_f89:G:=⟨TYs,[],4,EL [],keeps,(fun _ _=>none),IL [],RL []⟩
def r_f89 (p0:List Int):Option (V×List VO):=some (.fn 136 [(.ptr 50000 0)],[.box (.t (.sl tI) p0)])
theorem e_f89 (p0:List Int):runF g_f89 QFw QS9 true [.t (.sl tI) p0] []=r_f89 p0:=by kernel_rfl
theorem en_f89:Qag Tryz.prog 89:= .inr ⟨by decide,_,Tryz.func89,by kernel_rfl,by kernel_rfl⟩
theorem gk_f89:GOk Tryz.prog g_f89:=Qak _ (fun p hp=>by cases hp)
theorem lk_f89:QFw.lok g_f89:=by repeat (first | exact trivial | refine ⟨?_, ?_⟩)
def QSH:Ent:=specO (.pr (.sl tI) .nil) (fun _=>true) (fun x=> .fn 136 [.ptr 50000 0]) (fun x=>[.box (.t (.sl tI) x.1)])
theorem ms_f89:Meets Tryz.prog 89 (strip QSH):=QiV (R:=runF g_f89 QFw QS9 true) (mG Tryz.func89 (by kernel_rfl) Tryz.ntmps89 (by kernel_rfl) gk_f89 lk_f89) fun x _=>(e_f89 x.1).trans rfl
theorem QNw (l:List Int):l.flatMap tI.cells=l.map fun x=>D.v (.int .i64 x):=by
 induction l with
 | nil=>rfl
 | cons x r ih=>rw [List.flatMap_cons,ih,List.map_cons]; rfl
theorem QLT:Iters Tryz.prog (136+1000000) Qn9:=by
 refine Iters.strong (enters_of Tryz.func136 (by kernel_rfl) rfl) fun caps objs yr rows h X w σ lb hfin hl hc=> ?_
 unfold Qn9 mkIt at h
 split at h
 ·rename_i x d hx hd
  simp only [Option.some.injEq,Prod.mk.injEq] at h
  obtain ⟨hok,h⟩:=h
  cases h
  have hcaps:=QlA hx
  subst hcaps
  cases objs with
  | nil=>simp [Qbx] at hd
  | cons o os=>
   cases o with
   | box cv=>
    cases os with
    | cons o2 os=>simp [Qbx] at hd
    | nil=>
     simp only [Qbx] at hd
     split at hd
     ·rename_i l u hl1 _
      simp only [Option.some.injEq] at hd
      subst hd
      have hlen:l.length≤100000:=of_decide_eq_true hok
      have hcv:=SV.rd_mk (s:= .ty (.sl tI)) (v:=cv) (x:=l) (by simpa [asBox,Ty.row] using hl1)
      subst hcv
      obtain ⟨⟨Bs,ty,us,h1,h2,h3,h4⟩,_⟩:=hl.at_ 0 _ rfl
      have h3':Cs X w σ [.sl (List.length l) (List.flatMap tI.cells l)] us:=h3
      obtain ⟨uv,rfl,h5⟩:=h3'.one
      simp only [C] at h5
      obtain ⟨A,c,rfl,g1,g2,g3,g4⟩:=h5
      simp only [mkVt,SV.mk,V.ds,V.d,Cs,C] at hc
      obtain ⟨p,ps,rfl,⟨b',e1,rfl⟩,rfl⟩:=hc
      have h1:σ 50000= .box Bs:=h1
      rw [h1] at e1
      injection e1 with e1
      subst e1
      have hcell:w.cell? ⟨Bs,0,none⟩=some (.slice A (List.length l) c):=by simp [World.cell?, h2]
      have hBl:=(Array.getElem?_eq_some_iff.1 h2).1
      rcases Nat.eq_zero_or_pos (List.length l) with h0 | hp
      ·have hl0:l=[]:=List.eq_nil_of_length_eq_zero h0
       subst hl0
       exact ⟨[],⟨rfl,fun i r v hr=>by simp [valI] at hr⟩,QA3 Bs 0 0 c 0 A [] _ w (by omega) rfl hcell hBl (fun h=>absurd h (by omega))⟩
      ·obtain ⟨b0,off,vs,rfl,g5,g6⟩:=g4 hp
       have hvl:=g5.len
       rw [QNw,List.length_map] at hvl
       refine ⟨vs.map fun v=> #[v],⟨by simp [valI,hvl],fun i r v hr hv=> ?_⟩,QA3 Bs b0 off c (List.length l) _ vs _ w (by omega) hvl hcell hBl (fun _=>⟨rfl,g6.lt,fun j hj hx=>g6.nx j hj hx,fun j v hv=>g6.at_ j v hv⟩)⟩
       rw [QNw] at g5
       simp only [valI,List.getElem?_map,Option.map_eq_some_iff] at hr hv
       obtain ⟨x,hx,rfl⟩:=hr
       obtain ⟨u,hu,rfl⟩:=hv
       have hd:(l.map fun x=>D.v (.int .i64 x))[i]? = some (.v (.int .i64 x)):=by rw [List.getElem?_map,hx]; rfl
       obtain ⟨u2,hu2,hcu⟩:=g5.at_ hd
       rw [hu] at hu2
       injection hu2 with hu2
       subst hu2
       simp only [Ty.canon,V.ds,V.d,Cs]
       refine ⟨_,_,rfl, ?_,rfl⟩
       rw [(C.v hcu).1]
       simp only [Ty.d,C]
       exact ⟨trivial,rfl⟩
     ·cases hd
   | no=>simp [Qbx] at hd
   | arr e t l=>simp [Qbx] at hd
 ·cases h
end Go.Proofs.YtckcgijklnloiaaGreat.K
namespace Go.Proofs.YtckcgijklnloiaaGreat.K
open Go.RowKit
noncomputable section
def idL (l:List Int):List Int:=l
def sortL (l:List Int):List Int:=sortI l
def Qbf:Fg:=⟨[(2,none)],[(60000,none),(11,none),(20200,none),(50000,some (.sl tI))]⟩
noncomputable def Qdo:TC:=(.reg (rT Tryz.f160 2))
noncomputable def Qdn:TC:=(.bk 1 (.reg (rT Tryz.f160 3)))
noncomputable def QiC:TC:=(.sq (.reg (rT Tryz.f160 0)) (.sq (.sq (.reg (rT Tryz.f160 1)) (.bk 0 (.nf 2 0 3 20200 (.rf 0 Qbf (.t 6) (.pr tI .nil) [7] [2] Qdo Qdn)))) (.sq (.reg (rT Tryz.f160 4)) .rt)))
def Qp1:List (RV×Option Ty):=[((.t 4),none)]
abbrev QfL:Sh:=⟨[(2, .ptr 60000 0)],[(60000, .bag [.ms 20200]),(11, .no),(20200, .arr 3 tI),(50000, .box (.sl tI))]⟩
def QfD (y20200 y50000:List Int):VS:=QfL.st ((),()) (((),()),(),y20200,y50000,())
abbrev Qio:Sh:=⟨[(2, .ptr 60000 0)],[(60000, .bag [.ms 20200]),(11, .no),(20200, .arr 3 tI),(50000, .box (.sl tI))]⟩
def Qdg (y20200 y50000:List Int):VS:=Qio.st ((),()) (((),()),(),y20200,y50000,())
def Qe3:VS→List (Ty.T (.pr tI .nil))→Option (Bool×List (Bool×Exit×VS)):=mkR QfL (fun zs x y=>(decide (zs.length+y.2.2.1.length≤100000))) (fun zs x y=>[(true, .normal,Qdg (y.2.2.1++zs.map (fun z=>z.1)) (y.2.2.2.1))])
def QbV:G:=⟨TYs,[],13,EL [],keeps,(Ls [fun _=>none]),IL [(1000136,Qn9)],(RL [⟨(.pr tI .nil),Qe3⟩])⟩
def QmJ (z:(Int×Unit))(y20200 y50000:List Int):Option (Exit×VS):=br (cApp y20200 ([z.1]) 8) (some (.normal,QfD (y20200++([z.1])) y50000)) none
noncomputable def Qf0 (zs:List (Int×Unit))(y20200 y50000:List Int):Option (Exit×VS):=Qdh (QeI QbV Qbf (.pr tI .nil) [7] Qdo Qdn) zs (QfD y20200 y50000)
noncomputable def QgV (z:(Int×Unit))(zs:List (Int×Unit))(y20200 y50000:List Int):Option (Exit×VS):=br (cApp y20200 ([z.1]) 8) (Qf0 zs (y20200++([z.1])) y50000) none
def Qf5 (zs:List (Int×Unit))(y20200 y50000:List Int):Option (Exit×VS):=some (.normal,Qdg (y20200++zs.map (fun z=>z.1)) (y50000))
theorem QuR (z:(Int×Unit))(y20200 y50000:List Int):QeI QbV Qbf (.pr tI .nil) [7] Qdo Qdn z (QfD y20200 y50000)=QmJ z y20200 y50000:=by kernel_rfl
theorem Qup (z:(Int×Unit))(zs:List (Int×Unit))(y20200 y50000:List Int):Qf0 (z::zs) y20200 y50000=QgV z zs y20200 y50000:=(QiS _ _ _ _).trans (by
 rw [QuR]
 simp only [QmJ,QgV,QaA,nxt_n,nxt_r,nxt_e,nxt_0]
 rfl)
def QlD (d0:List Int):Option (V×List VO):=br (Qgk d0) (br (decide ((valI d0).length+([]:List Int).length≤100000)) (some (.ms 50001,[.box (.t (.sl tI) (d0)), .arr 3 tI (([]:List Int)++(valI d0).map (fun z=>z.1))])) none) none
theorem QET (d0:List Int):runF QbV QiC Qp1 true [.c (.slice none 0 0), .fn 136 [(.ptr 50000 0)]] [.box (.t (.sl tI) d0)]=QlD d0:=by kernel_rfl
theorem QAD:Qag Tryz.prog 160:= .inr ⟨by decide,_,Tryz.func160,by kernel_rfl,by kernel_rfl⟩
theorem QAp:GOk Tryz.prog QbV:=Qak _ (fun p hp=>by cases hp) [(1000136,Qn9)] (by
 intro p hp
 simp only [List.mem_cons,List.not_mem_nil,or_false] at hp
 rcases hp with rfl
 ·exact QLT)
theorem QwZ (zs:List (Int×Unit))(y20200 y50000:List Int)(h:(decide (zs.length+y20200.length≤100000))=true):Qf0 zs y20200 y50000=Qf5 zs y20200 y50000:=by
 induction zs generalizing y20200 with
 | nil=>
  simp only [Qf5,List.map_nil,List.append_nil]
  rfl
 | cons z zs ih=>
  rw [Qup]
  have h:=of_decide_eq_true h
  rw [List.length_cons] at h
  have c1:cApp y20200 [z.1] 8=true:=cAppN (by omega) (by simp only [List.length_singleton]; omega)
  simp only [QgV,c1,Qab]
  rw [ih (y20200++[z.1]) (decide_eq_true (by simp only [List.length_append,List.length_singleton]; omega))]
  simp only [Qf5,List.map_cons,List.append_assoc,List.singleton_append]
theorem Qun: ∀ S (rows:List (Ty.T (.pr tI .nil))) l p,QbV.R 0 (fgt Qbf S) (.pr tI .nil) rows=some (true,l)→pickA l=some p→Qdh (QeI QbV Qbf (.pr tI .nil) [7] Qdo Qdn) rows (fgt Qbf S)=some p:=by
 intro S rows l p hR hp
 rw [show QbV.R 0 (fgt Qbf S) (.pr tI .nil) rows=Qe3 (fgt Qbf S) rows from RL_at (l:=[⟨(.pr tI .nil),Qe3⟩]) (j:=0) (F:=Qe3) rfl _ _] at hR
 refine Qz0 (s:=QfL) ⟨by decide,by decide⟩ (by kernel_rfl) (fun zs x y hok p hp=> ?_) S rows l p hR hp
 simp only [Qap,Qam] at hp
 exact (QwZ zs y.2.2.1 y.2.2.2.1 (by first | rfl | simpa using hok)).trans hp
theorem Qz6:QiC.lok QbV:=by
 repeat (first | exact trivial | exact Qun | refine ⟨?_, ?_⟩)
theorem QOF (l:List Int):(valI l).map (fun z=>z.1)=l:=by
 unfold valI
 rw [List.map_map]
 exact List.map_id _
theorem QEb (l:List Int)(h:Qgk l=true):QlD l=some (.ms 50001,[.box (.t (.sl tI) l), .arr 3 tI (idL l)]):=by
 have hl:l.length≤100000:=of_decide_eq_true h
 have c1:decide ((valI l).length+([]:List Int).length≤100000)=true:=decide_eq_true (by simp only [valI,List.length_map,List.length_nil]; omega)
 simp only [QlD,h,Qab]
 refine Eq.trans (congrArg (fun b=>br b _ _) c1) ?_
 rw [Qab,List.nil_append,QOF]
 rfl
def Qo3:Ent:=specB [.nl, .fn 136 [(50000,0)]] [.box (.sl tI)] (fun x y=>(Qgk y.1)) (fun x y=>(.ms 50001)) (fun x y=>[.box (.t (.sl tI) y.1), .arr 3 tI (idL y.1)])
theorem QzJ:Meets Tryz.prog 160 (strip Qo3):=QcM (QaN (R:=runF QbV QiC Qp1 true) (mG Tryz.func160 (by kernel_rfl) Tryz.ntmps160 (by kernel_rfl) QAp Qz6) fun x y hok=>(QET y.1).trans (QEb y.1 hok))
noncomputable def QiD:TC:=(.sq (.reg (rT Tryz.f134 0)) (.sq (.reg (rT Tryz.f134 1)) .rt))
def Qp2:List (RV×Option Ty):=[((.t 2),none)]
def Qh5:G:=⟨TYs,[],5,EL [(160,Qo3)],keeps,(fun _ _=>none),IL [],RL []⟩
def QlE (d0:List Int):Option (V×List VO):=br (Qgk d0) (some (.ms 50001,[.box (.t (.sl tI) d0), .arr 3 tI (idL d0)])) none
theorem QEU (d0:List Int):runF Qh5 QiD Qp2 true [.fn 136 [(.ptr 50000 0)]] [.box (.t (.sl tI) d0)]=QlE d0:=by kernel_rfl
theorem QAF:Qag Tryz.prog 134:= .inr ⟨by decide,_,Tryz.func134,by kernel_rfl,by kernel_rfl⟩
theorem QAq:GOk Tryz.prog Qh5:=Qak _ (gA (gC QAD QzJ gN))
theorem Qz7:QiD.lok Qh5:=by repeat (first | exact trivial | refine ⟨?_, ?_⟩)
theorem QEc (l:List Int)(h:Qgk l=true):QlE l=some (.ms 50001,[.box (.t (.sl tI) l), .arr 3 tI (idL l)]):=by
 simp only [QlE,h,Qab]
def Qo4:Ent:=specB [.fn 136 [(50000,0)]] [.box (.sl tI)] (fun x y=>(Qgk y.1)) (fun x y=>(.ms 50001)) (fun x y=>[.box (.t (.sl tI) y.1), .arr 3 tI (idL y.1)])
theorem QzL:Meets Tryz.prog 134 (strip Qo4):=QcM (QaN (R:=runF Qh5 QiD Qp2 true) (mG Tryz.func134 (by kernel_rfl) Tryz.ntmps134 (by kernel_rfl) QAq Qz7) fun x y hok=>(QEU y.1).trans (QEc y.1 hok))
noncomputable def Qlp:TC:=(.sq (.reg (rT Tryz.f88 0)) (.sq (.reg (rT Tryz.f88 1)) (.sq (.reg (rT Tryz.f88 2)) (.sq (.reg (rT Tryz.f88 3)) .rt))))
def Qr6:List (RV×Option Ty):=[((.t 2),none)]
def QkX:G:=⟨TYs,[],9,EL [(134,Qo4),(135,QHa)],keeps,(fun _ _=>none),IL [],RL []⟩
def Qp9 (d0:List Int):Option (V×List VO):=br (Qgk d0) (br (lenOk (idL d0)) (some (.ms 50001,[.box (.t (.sl tI) d0), .arr 3 tI (sortI (idL d0))])) none) none
theorem QMW (d0:List Int):runF QkX Qlp Qr6 true [.fn 136 [(.ptr 50000 0)]] [.box (.t (.sl tI) d0)]=Qp9 d0:=by kernel_rfl
theorem QEL:Qag Tryz.prog 88:= .inr ⟨by decide,_,Tryz.func88,by kernel_rfl,by kernel_rfl⟩
theorem QEC:GOk Tryz.prog QkX:=Qak _ (gA (gC QAF QzL (gC QZ0 QVU gN)))
theorem QEr:Qlp.lok QkX:=by repeat (first | exact trivial | refine ⟨?_, ?_⟩)
theorem QHB (l:List Int)(h:Qgk l=true):Qp9 l=some (.ms 50001,[.box (.t (.sl tI) l), .arr 3 tI (sortL l)]):=by
 have hl:l.length≤100000:=of_decide_eq_true h
 have c1:lenOk (idL l)=true:=decide_eq_true (by show l.length<_; omega)
 simp only [Qp9,h,c1,Qab]
 rfl
def Qr1:Ent:=specB [.fn 136 [(50000,0)]] [.box (.sl tI)] (fun x y=>(Qgk y.1)) (fun x y=>(.ms 50001)) (fun x y=>[.box (.t (.sl tI) y.1), .arr 3 tI (sortL y.1)])
theorem QEk:Meets Tryz.prog 88 (strip Qr1):=QcM (QaN (R:=runF QkX Qlp Qr6 true) (mG Tryz.func88 (by kernel_rfl) Tryz.ntmps88 (by kernel_rfl) QEC QEr) fun x y hok=>(QMW y.1).trans (QHB y.1 hok))
end
end Go.Proofs.YtckcgijklnloiaaGreat.K
