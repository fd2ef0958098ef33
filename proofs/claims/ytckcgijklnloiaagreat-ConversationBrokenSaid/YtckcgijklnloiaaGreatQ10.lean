import Derived.Test.YtckcgijklnloiaaGreatQ9
import Derived.Test.YtckcgijklnloiaaGreatQ8
set_option linter.unusedSimpArgs false
set_option linter.unusedVariables false
namespace Go.Proofs.YtckcgijklnloiaaGreat.K
open Go.RowKit
noncomputable section
def Qde (u:Keep)(a:Int):Bool:=ieq u.1 a
noncomputable def QFN:TC:=(.sq (.reg (rT Tryz.f52 0)) (.sq (.reg (rT Tryz.f52 1)) .rt))
def QTq:List (RV×Option Ty):=[((.t 3),some .bool)]
def g_f52:G:=⟨TYs,[],8,EL [],keeps,(fun _ _=>none),IL [],RL []⟩
def r_f52 (p0:Keep)(d0:Int):Option (V×List VO):=some (.t .bool (ieq p0.1 d0),[.box (.t tI d0)])
theorem e_f52 (p0:Keep)(d0:Int):runF g_f52 QFN QTq false [.t Qah p0, .ptr 50000 0] [.box (.t tI d0)]=r_f52 p0 d0:=by kernel_rfl
theorem en_f52:Qag Tryz.prog 52:= .inr ⟨by decide,_,Tryz.func52,by kernel_rfl,by kernel_rfl⟩
theorem gk_f52:GOk Tryz.prog g_f52:=Qak _ (fun p hp=>by cases hp)
theorem lk_f52:QFN.lok g_f52:=by repeat (first | exact trivial | refine ⟨?_, ?_⟩)
theorem s_f52 (u:Keep)(a:Int):r_f52 u a=some (.t .bool (Qde u a),[.box (.t tI a)]):=by
 simp only [r_f52]
 rfl
def QSP:Ent:=Qgg [.ty Qah, .ptr 50000 0] [tI] (fun x d=>true) (fun x d=>(.t .bool (Qde x.1 d.1)))
theorem ms_f52:Meets Tryz.prog 52 (strip QSP):=Qct (QaO (R:=runF g_f52 QFN QTq false) (mG Tryz.func52 (by kernel_rfl) Tryz.ntmps52 (by kernel_rfl) gk_f52 lk_f52) fun x d _=>(e_f52 x.1 d.1).trans (s_f52 x.1 d.1))
def okUse (l:List Keep)(_a:Int):Bool:=decide (l.length≤100000)
theorem QKh {l:List Keep}{a:Int}(h:okUse l a=true):l.length≤100000:=of_decide_eq_true h
def ixUse (l:List Keep)(d0:Int):Int:=match fstG (fun c=>Qde c d0) l with | some k=>(k:Int) | none=> -1
def QdZ:Fg:=⟨[(0,some (.sl Qah)),(1,none),(7,some tI),(8,some tI)],[(50000,some tI)]⟩
noncomputable def Qfp:TC:=(.sq (.reg (rT Tryz.f86 2)) (.sq (.cd (.t 9) .sk (.fg ⟨[],[(50000,some tI)]⟩ (.ex 0))) (.sq (.bk 1 (.sq (.reg (rT Tryz.f86 3)) (.sq (.reg (rT Tryz.f86 4)) (.cd (.t 16) (.sq (.reg (rT Tryz.f86 5)) (.fg ⟨[(4,some tI)],[(50000,some tI)]⟩ .rt)) .sk)))) (.reg (rT Tryz.f86 6)))))
noncomputable def Qos:TC:=(.sq (.reg (rT Tryz.f86 0)) (.sq (.sq (.reg (rT Tryz.f86 1)) (.bk 0 (.lp 0 QdZ Qfp))) (.sq (.reg (rT Tryz.f86 7)) .rt)))
def Qv3:List (RV×Option Ty):=[((.t 4),some tI)]
abbrev QiO:Sh:=⟨[(0, .ty (.sl Qah)),(1, .fn 52 [(50000,0)]),(7, .ty tI),(8, .ty tI)],[(50000, .box tI)]⟩
def QiK (x0:List Keep)(x7 x8 y50000:Int):VS:=QiO.st (x0,(),x7,x8,()) (y50000,())
abbrev Qpf:Sh:=⟨[(4, .ty tI)],[(50000, .box tI)]⟩
def Qcl (x4 y50000:Int):VS:=Qpf.st (x4,()) (y50000,())
abbrev QrJ:Sh:=⟨[],[(50000, .box tI)]⟩
def QcQ (y50000:Int):VS:=QrJ.st () (y50000,())
def QFd:VS→Option (Bool×List (Bool×Exit×VS)):=mkL QiO (fun x y=>(rngOk x.1 x.2.2.1 x.2.2.2.1&&okUse x.1 y.1)) (fun x y=>[(((fstG (fun c=>Qde c y.1) (x.1.drop x.2.2.2.1.toNat)).isSome), .ret,Qcl (x.2.2.2.1+((fstG (fun c=>Qde c y.1) (x.1.drop x.2.2.2.1.toNat)).getD 0:Nat)) (y.1)),(true, .exit 0,QcQ (y.1))])
def QeZ:G:=⟨TYs,[],19,EL [(52,QSP)],keeps,(Ls [QFd]),IL [],RL []⟩
def Qsw (x0:List Keep)(x7 x8 y50000:Int):Option (Exit×VS):=br (ilt x8 x7) (br (cIx x0 x8) (br (Qde (lgt Qah x0 (Int.toNat x8)) y50000) (some (.ret,Qcl x8 y50000)) (some (.normal,QiK x0 x7 (iadd .i64 x8 1) y50000))) none) (some (.exit 0,QcQ y50000))
noncomputable def QfZ (x0:List Keep)(x7 x8 y50000:Int):Option (Exit×VS):=loopF (Qai QeZ QdZ Qfp) (QiK x0 x7 x8 y50000)
noncomputable def QhT (x0:List Keep)(x7 x8 y50000:Int):Option (Exit×VS):=br (ilt x8 x7) (br (cIx x0 x8) (br (Qde (lgt Qah x0 (Int.toNat x8)) y50000) (some (.ret,Qcl x8 y50000)) (QfZ x0 x7 (iadd .i64 x8 1) y50000)) none) (some (.exit 0,QcQ y50000))
def Qf3 (x0:List Keep)(x7 x8 y50000:Int):Option (Exit×VS):=br ((fstG (fun c=>Qde c y50000) (x0.drop x8.toNat)).isSome) (some (.ret,Qcl (x8+((fstG (fun c=>Qde c y50000) (x0.drop x8.toNat)).getD 0:Nat)) (y50000)))<|some (.exit 0,QcQ (y50000))
theorem QAX (x0:List Keep)(x7 x8 y50000:Int):Qai QeZ QdZ Qfp (QiK x0 x7 x8 y50000)=Qsw x0 x7 x8 y50000:=by kernel_rfl
theorem QqG (x0:List Keep)(x7 x8 y50000:Int):QfZ x0 x7 x8 y50000=QhT x0 x7 x8 y50000:=(Qan _ _).trans (by
 rw [QAX]
 simp only [Qsw,QhT,QaA,nxt_n,nxt_r,nxt_e,nxt_0]
 rfl)
def QtH (p0:List Keep)(d0:Int):Option (V×List VO):=
 let a1:=(p0.drop (0:Int).toNat)
 br (rngOk p0 (llen p0) (0:Int)&&okUse p0 d0) (br ((fstG (fun c=>Qde c d0) a1).isSome) (some (.t tI ((0:Int)+((fstG (fun c=>Qde c d0) a1).getD 0:Nat)),[.box (.t tI (d0))])) (some (.t tI (-1),[.box (.t tI (d0))]))) none
theorem QRb (p0:List Keep)(d0:Int):runF QeZ Qos Qv3 false [.t (.sl Qah) p0, .fn 52 [(.ptr 50000 0)]] [.box (.t tI d0)]=QtH p0 d0:=by kernel_rfl
theorem QMt:Qag Tryz.prog 86:= .inr ⟨by decide,_,Tryz.func86,by kernel_rfl,by kernel_rfl⟩
theorem QMb:GOk Tryz.prog QeZ:=Qak _ (gA (gC en_f52 ms_f52 gN))
theorem QEz (x0:List Keep)(x7 x8 y50000:Int)(h:(rngOk x0 x7 x8&&okUse x0 y50000)=true):QfZ x0 x7 x8 y50000=Qf3 x0 x7 x8 y50000:=by
 simp only [Bool.and_eq_true] at h
 obtain ⟨h0,hc⟩:=h
 obtain ⟨rfl,h3,k,rfl,hk⟩:=rng_k h0
 clear h0
 refine Qat x0 (fun k=>QfZ x0 (x0.length:Int) (k:Int) y50000=Qf3 x0 (x0.length:Int) (k:Int) y50000) ?_ ?_ k hk
 ·rw [QqG]
  simp [QhT,Qf3,Qar,Qae,fstG]
 ·intro k hk ih
  rw [QqG]
  simp only [QhT,Qar,Qax,hk,decide_true,Qab,Int.toNat_natCast,add1 (show k<4611686018427387904 by omega),ih,QaC (y:=Qah) hk]
  simp only [Qf3,Int.toNat_natCast,List.drop_eq_getElem_cons hk,fstG]
  cases h:(Qde x0[k] y50000) with
  | true=>simp [Qab]
  | false=>
   simp only [Qae,Bool.false_eq_true,if_false]
   cases hq:fstG (fun c=>Qde c y50000) (x0.drop (k+1)) with
   | none=>rfl
   | some j=>
    simp only [Option.map_some,Option.isSome_some,Option.getD_some,Qab]
    congr 3
    omega
theorem Qz3: ∀ S l p,QeZ.L 0 (fgt QdZ S)=some (true,l)→pickA l=some p→loopF (Qai QeZ QdZ Qfp) S=some p:=
 QaB (s:=QiO) ⟨by decide,by decide⟩ (by kernel_rfl) fun x y hok p hp=>by
 simp only [Qap,Qam] at hp
 exact (QEz x.1 x.2.2.1 x.2.2.2.1 y.1 (by simpa using hok)).trans hp
theorem QLG:Qos.lok QeZ:=by
 repeat (first | exact trivial | exact Qz3 | refine ⟨?_, ?_⟩)
theorem QO5 (l:List Keep)(d0:Int)(h:okUse l d0=true):QtH l d0=some (.t tI (ixUse l d0),[.box (.t tI d0)]):=by
 have hl:=QKh h
 simp only [QtH,rng_0 hl,h,Bool.and_self,Qab,Int.toNat_zero,List.drop_zero,ixUse]
 cases fstG (fun c=>Qde c d0) l <;> simp [Qab,Qae]
def Qva:Ent:=Qgg [.ty (.sl Qah), .fn 52 [(50000,0)]] [tI] (fun x d=>(okUse x.1 d.1)) (fun x d=>(.t tI (ixUse x.1 d.1)))
theorem QKx:Meets Tryz.prog 86 (strip Qva):=Qct (QaO (R:=runF QeZ Qos Qv3 false) (mG Tryz.func86 (by kernel_rfl) Tryz.ntmps86 (by kernel_rfl) QMb QLG) fun x d hok=>(QRb x.1 d.1).trans (QO5 x.1 d.1 hok))
def Qsy (l:List Keep)(d0:Int):Bool:=l.any (fun c=>Qde c d0)
noncomputable def Qov:TC:=(.sq (.reg (rT Tryz.f51 0)) (.sq (.reg (rT Tryz.f51 1)) .rt))
def Qv6:List (RV×Option Ty):=[((.t 4),some .bool)]
def Qof:G:=⟨TYs,[],9,EL [(86,Qva)],keeps,(fun _ _=>none),IL [],RL []⟩
def QtK (p0:List Keep)(d0:Int):Option (V×List VO):=br (okUse p0 d0) (some (.t .bool (ige (ixUse p0 d0) 0),[.box (.t tI d0)])) none
theorem QRe (p0:List Keep)(d0:Int):runF Qof Qov Qv6 false [.t (.sl Qah) p0, .fn 52 [(.ptr 50000 0)]] [.box (.t tI d0)]=QtK p0 d0:=by kernel_rfl
theorem QMA:Qag Tryz.prog 51:= .inr ⟨by decide,_,Tryz.func51,by kernel_rfl,by kernel_rfl⟩
theorem QMe:GOk Tryz.prog Qof:=Qak _ (gA (gC QMt QKx gN))
theorem QLJ:Qov.lok Qof:=by repeat (first | exact trivial | refine ⟨?_, ?_⟩)
theorem QO8 (l:List Keep)(d0:Int)(h:okUse l d0=true):QtK l d0=some (.t .bool (Qsy l d0),[.box (.t tI d0)]):=by
 simp only [QtK,h,Qab]
 have e:ige (ixUse l d0) 0=Qsy l d0:=by
  unfold ixUse Qsy
  cases hq:fstG (fun c=>Qde c d0) l with
  | none=>rw [QbY.1 hq]; rfl
  | some k=>
   rw [← QbE,hq]
   simp only [ige,Option.isSome_some,decide_eq_true_eq]
   omega
 rw [e]
def Qve:Ent:=Qgg [.ty (.sl Qah), .fn 52 [(50000,0)]] [tI] (fun x d=>(okUse x.1 d.1)) (fun x d=>(.t .bool (Qsy x.1 d.1)))
theorem QKE:Meets Tryz.prog 51 (strip Qve):=Qct (QaO (R:=runF Qof Qov Qv6 false) (mG Tryz.func51 (by kernel_rfl) Tryz.ntmps51 (by kernel_rfl) QMe QLJ) fun x d hok=>(QRe x.1 d.1).trans (QO8 x.1 d.1 hok))
def witO (o:Keep)(s:Endpoint)(a:Int):Bool:= !Qsy (usesF s o).1 a
def witOk (_o:Keep)(s:Endpoint)(_a:Int):Bool:=Qa8 s
theorem QOG (s:Endpoint)(o:Keep):(usesF s o).1.length≤4:=by
 unfold usesF
 cases QaS s with
 | false=>exact Nat.zero_le _
 | true=>
  cases ine (QaH o.2.1).2 0 with
  | true=>exact Nat.zero_le _
  | false=>
   cases (Qbl s o.2.1).2 with
   | false=>exact Nat.zero_le _
   | true=>exact Nat.le_refl 4
noncomputable def QFP:TC:=(.sq (.reg (rT Tryz.f49 0)) (.sq (.reg (rT Tryz.f49 1)) (.sq (.reg (rT Tryz.f49 2)) .rt)))
def QTs:List (RV×Option Ty):=[((.t 4),some .bool)]
def g_f49:G:=⟨TYs,[],17,EL [(50,QSQ),(51,Qve)],keeps,(fun _ _=>none),IL [],RL []⟩
def r_f49 (p0:Keep)(d0:Endpoint)(d1:Int):Option (V×List VO):=br (QA4 d0 p0) (br (okUse ((usesF d0 p0).1) d1) (some (.t .bool (!(Qsy ((usesF d0 p0).1) d1)),[.box (.t Qad d0), .box (.t tI d1)])) none) none
theorem e_f49 (p0:Keep)(d0:Endpoint)(d1:Int):runF g_f49 QFP QTs false [.t Qah p0, .ptr 50000 0, .ptr 50001 0] [.box (.t Qad d0), .box (.t tI d1)]=r_f49 p0 d0 d1:=by kernel_rfl
theorem en_f49:Qag Tryz.prog 49:= .inr ⟨by decide,_,Tryz.func49,by kernel_rfl,by kernel_rfl⟩
theorem gk_f49:GOk Tryz.prog g_f49:=Qak _ (gA (gC en_f50 ms_f50 (gC QMA QKE gN)))
theorem lk_f49:QFP.lok g_f49:=by repeat (first | exact trivial | refine ⟨?_, ?_⟩)
theorem s_f49 (o:Keep)(s:Endpoint)(a:Int)(h:witOk o s a=true):r_f49 o s a=some (.t .bool (witO o s a),[.box (.t Qad s), .box (.t tI a)]):=by
 have h:Qa8 s=true:=h
 have hu:=QOG s o
 simp only [r_f49,show QA4 s o=true from h,show okUse (usesF s o).1 a=true from decide_eq_true (by omega),Qab]
 rfl
def QSR:Ent:=Qgg [.ty Qah, .ptr 50000 0, .ptr 50001 0] [Qad,tI] (fun x d=>(witOk x.1 d.1 d.2.1)) (fun x d=>(.t .bool (witO x.1 d.1 d.2.1)))
theorem ms_f49:Meets Tryz.prog 49 (strip QSR):=Qct (QaO (R:=runF g_f49 QFP QTs false) (mG Tryz.func49 (by kernel_rfl) Tryz.ntmps49 (by kernel_rfl) gk_f49 lk_f49) fun x d hok=>(e_f49 x.1 d.1 d.2.1).trans (s_f49 x.1 d.1 d.2.1 hok))
def okWit (l:List Keep)(s:Endpoint)(_a:Int):Bool:=Qa8 s&&decide (l.length≤100000)
theorem QKg {l:List Keep}{s:Endpoint}{a:Int}(h:okWit l s a=true):l.length≤100000:=of_decide_eq_true (Bool.and_eq_true_iff.1 h).2
def ixWit (l:List Keep)(d0:Endpoint)(d1:Int):Int:=match fstG (fun c=>witO c d0 d1) l with | some k=>(k:Int) | none=> -1
def QdY:Fg:=⟨[(0,some (.sl Qah)),(1,none),(7,some tI),(8,some tI)],[(50000,some Qad),(50001,some tI)]⟩
noncomputable def Qfo:TC:=(.sq (.reg (rT Tryz.f87 2)) (.sq (.cd (.t 9) .sk (.fg ⟨[],[(50000,some Qad),(50001,some tI)]⟩ (.ex 0))) (.sq (.bk 1 (.sq (.reg (rT Tryz.f87 3)) (.sq (.reg (rT Tryz.f87 4)) (.cd (.t 16) (.sq (.reg (rT Tryz.f87 5)) (.fg ⟨[(4,some tI)],[(50000,some Qad),(50001,some tI)]⟩ .rt)) .sk)))) (.reg (rT Tryz.f87 6)))))
noncomputable def Qor:TC:=(.sq (.reg (rT Tryz.f87 0)) (.sq (.sq (.reg (rT Tryz.f87 1)) (.bk 0 (.lp 0 QdY Qfo))) (.sq (.reg (rT Tryz.f87 7)) .rt)))
def Qv2:List (RV×Option Ty):=[((.t 4),some tI)]
abbrev QiN:Sh:=⟨[(0, .ty (.sl Qah)),(1, .fn 49 [(50000,0),(50001,0)]),(7, .ty tI),(8, .ty tI)],[(50000, .box Qad),(50001, .box tI)]⟩
def QiJ (x0:List Keep)(x7 x8:Int)(y50000:Endpoint)(y50001:Int):VS:=QiN.st (x0,(),x7,x8,()) (y50000,y50001,())
abbrev Qpe:Sh:=⟨[(4, .ty tI)],[(50000, .box Qad),(50001, .box tI)]⟩
def Qck (x4:Int)(y50000:Endpoint)(y50001:Int):VS:=Qpe.st (x4,()) (y50000,y50001,())
abbrev QrI:Sh:=⟨[],[(50000, .box Qad),(50001, .box tI)]⟩
def QcP (y50000:Endpoint)(y50001:Int):VS:=QrI.st () (y50000,y50001,())
def QFc:VS→Option (Bool×List (Bool×Exit×VS)):=mkL QiN (fun x y=>(rngOk x.1 x.2.2.1 x.2.2.2.1&&okWit x.1 y.1 y.2.1)) (fun x y=>[(((fstG (fun c=>witO c y.1 y.2.1) (x.1.drop x.2.2.2.1.toNat)).isSome), .ret,Qck (x.2.2.2.1+((fstG (fun c=>witO c y.1 y.2.1) (x.1.drop x.2.2.2.1.toNat)).getD 0:Nat)) (y.1) (y.2.1)),(true, .exit 0,QcP (y.1) (y.2.1))])
def QeY:G:=⟨TYs,[],19,EL [(49,QSR)],keeps,(Ls [QFc]),IL [],RL []⟩
def Qsv (x0:List Keep)(x7 x8:Int)(y50000:Endpoint)(y50001:Int):Option (Exit×VS):=
 let a1:=lgt Qah x0 (Int.toNat x8)
 br (ilt x8 x7) (br (cIx x0 x8) (br (witOk a1 y50000 y50001) (br (witO a1 y50000 y50001) (some (.ret,Qck x8 y50000 y50001)) (some (.normal,QiJ x0 x7 (iadd .i64 x8 1) y50000 y50001))) none) none) (some (.exit 0,QcP y50000 y50001))
noncomputable def QfY (x0:List Keep)(x7 x8:Int)(y50000:Endpoint)(y50001:Int):Option (Exit×VS):=loopF (Qai QeY QdY Qfo) (QiJ x0 x7 x8 y50000 y50001)
noncomputable def QhS (x0:List Keep)(x7 x8:Int)(y50000:Endpoint)(y50001:Int):Option (Exit×VS):=
 let a1:=lgt Qah x0 (Int.toNat x8)
 br (ilt x8 x7) (br (cIx x0 x8) (br (witOk a1 y50000 y50001) (br (witO a1 y50000 y50001) (some (.ret,Qck x8 y50000 y50001)) (QfY x0 x7 (iadd .i64 x8 1) y50000 y50001)) none) none) (some (.exit 0,QcP y50000 y50001))
def Qf2 (x0:List Keep)(x7 x8:Int)(y50000:Endpoint)(y50001:Int):Option (Exit×VS):=br ((fstG (fun c=>witO c y50000 y50001) (x0.drop x8.toNat)).isSome) (some (.ret,Qck (x8+((fstG (fun c=>witO c y50000 y50001) (x0.drop x8.toNat)).getD 0:Nat)) (y50000) (y50001)))<|some (.exit 0,QcP (y50000) (y50001))
theorem QAW (x0:List Keep)(x7 x8:Int)(y50000:Endpoint)(y50001:Int):Qai QeY QdY Qfo (QiJ x0 x7 x8 y50000 y50001)=Qsv x0 x7 x8 y50000 y50001:=by kernel_rfl
theorem QqF (x0:List Keep)(x7 x8:Int)(y50000:Endpoint)(y50001:Int):QfY x0 x7 x8 y50000 y50001=QhS x0 x7 x8 y50000 y50001:=(Qan _ _).trans (by
 rw [QAW]
 simp only [Qsv,QhS,QaA,nxt_n,nxt_r,nxt_e,nxt_0]
 rfl)
def QtG (p0:List Keep)(d0:Endpoint)(d1:Int):Option (V×List VO):=
 let a1:=(p0.drop (0:Int).toNat)
 br (rngOk p0 (llen p0) (0:Int)&&okWit p0 d0 d1) (br ((fstG (fun c=>witO c d0 d1) a1).isSome) (some (.t tI ((0:Int)+((fstG (fun c=>witO c d0 d1) a1).getD 0:Nat)),[.box (.t Qad (d0)), .box (.t tI (d1))])) (some (.t tI (-1),[.box (.t Qad (d0)), .box (.t tI (d1))]))) none
theorem QRa (p0:List Keep)(d0:Endpoint)(d1:Int):runF QeY Qor Qv2 false [.t (.sl Qah) p0, .fn 49 [(.ptr 50000 0),(.ptr 50001 0)]] [.box (.t Qad d0), .box (.t tI d1)]=QtG p0 d0 d1:=by kernel_rfl
theorem QMs:Qag Tryz.prog 87:= .inr ⟨by decide,_,Tryz.func87,by kernel_rfl,by kernel_rfl⟩
theorem QMa:GOk Tryz.prog QeY:=Qak _ (gA (gC en_f49 ms_f49 gN))
theorem QEy (x0:List Keep)(x7 x8:Int)(y50000:Endpoint)(y50001:Int)(h:(rngOk x0 x7 x8&&okWit x0 y50000 y50001)=true):QfY x0 x7 x8 y50000 y50001=Qf2 x0 x7 x8 y50000 y50001:=by
 simp only [Bool.and_eq_true] at h
 obtain ⟨h0,hc⟩:=h
 obtain ⟨rfl,h3,k,rfl,hk⟩:=rng_k h0
 clear h0
 refine Qat x0 (fun k=>QfY x0 (x0.length:Int) (k:Int) y50000 y50001=Qf2 x0 (x0.length:Int) (k:Int) y50000 y50001) ?_ ?_ k hk
 ·rw [QqF]
  simp [QhS,Qf2,Qar,Qae,fstG]
 ·intro k hk ih
  rw [QqF]
  have hx:witOk x0[k] y50000 y50001=true:=(Bool.and_eq_true_iff.1 hc).1
  simp only [QhS,Qar,Qax,hk,decide_true,Qab,Int.toNat_natCast,add1 (show k<4611686018427387904 by omega),ih,QaC (y:=Qah) hk,hx]
  simp only [Qf2,Int.toNat_natCast,List.drop_eq_getElem_cons hk,fstG]
  cases h:(witO x0[k] y50000 y50001) with
  | true=>simp [Qab]
  | false=>
   simp only [Qae,Bool.false_eq_true,if_false]
   cases hq:fstG (fun c=>witO c y50000 y50001) (x0.drop (k+1)) with
   | none=>rfl
   | some j=>
    simp only [Option.map_some,Option.isSome_some,Option.getD_some,Qab]
    congr 3
    omega
theorem Qz2: ∀ S l p,QeY.L 0 (fgt QdY S)=some (true,l)→pickA l=some p→loopF (Qai QeY QdY Qfo) S=some p:=
 QaB (s:=QiN) ⟨by decide,by decide⟩ (by kernel_rfl) fun x y hok p hp=>by
 simp only [Qap,Qam] at hp
 exact (QEy x.1 x.2.2.1 x.2.2.2.1 y.1 y.2.1 (by simpa using hok)).trans hp
theorem QLF:Qor.lok QeY:=by
 repeat (first | exact trivial | exact Qz2 | refine ⟨?_, ?_⟩)
theorem QO4 (l:List Keep)(d0:Endpoint)(d1:Int)(h:okWit l d0 d1=true):QtG l d0 d1=some (.t tI (ixWit l d0 d1),[.box (.t Qad d0), .box (.t tI d1)]):=by
 have hl:=QKg h
 simp only [QtG,rng_0 hl,h,Bool.and_self,Qab,Int.toNat_zero,List.drop_zero,ixWit]
 cases fstG (fun c=>witO c d0 d1) l <;> simp [Qab,Qae]
def Qu9:Ent:=Qgg [.ty (.sl Qah), .fn 49 [(50000,0),(50001,0)]] [Qad,tI] (fun x d=>(okWit x.1 d.1 d.2.1)) (fun x d=>(.t tI (ixWit x.1 d.1 d.2.1)))
theorem QKw:Meets Tryz.prog 87 (strip Qu9):=Qct (QaO (R:=runF QeY Qor Qv2 false) (mG Tryz.func87 (by kernel_rfl) Tryz.ntmps87 (by kernel_rfl) QMa QLF) fun x d hok=>(QRa x.1 d.1 d.2.1).trans (QO4 x.1 d.1 d.2.1 hok))
def QmL (l:List Keep)(d0:Endpoint)(d1:Int):Bool:=l.any (fun c=>witO c d0 d1)
noncomputable def Qou:TC:=(.sq (.reg (rT Tryz.f53 0)) (.sq (.reg (rT Tryz.f53 1)) .rt))
def Qv5:List (RV×Option Ty):=[((.t 4),some .bool)]
def Qoe:G:=⟨TYs,[],9,EL [(87,Qu9)],keeps,(fun _ _=>none),IL [],RL []⟩
def QtJ (p0:List Keep)(d0:Endpoint)(d1:Int):Option (V×List VO):=br (okWit p0 d0 d1) (some (.t .bool (ige (ixWit p0 d0 d1) 0),[.box (.t Qad d0), .box (.t tI d1)])) none
theorem QRd (p0:List Keep)(d0:Endpoint)(d1:Int):runF Qoe Qou Qv5 false [.t (.sl Qah) p0, .fn 49 [(.ptr 50000 0),(.ptr 50001 0)]] [.box (.t Qad d0), .box (.t tI d1)]=QtJ p0 d0 d1:=by kernel_rfl
theorem QMz:Qag Tryz.prog 53:= .inr ⟨by decide,_,Tryz.func53,by kernel_rfl,by kernel_rfl⟩
theorem QMd:GOk Tryz.prog Qoe:=Qak _ (gA (gC QMs QKw gN))
theorem QLI:Qou.lok Qoe:=by repeat (first | exact trivial | refine ⟨?_, ?_⟩)
theorem QO7 (l:List Keep)(d0:Endpoint)(d1:Int)(h:okWit l d0 d1=true):QtJ l d0 d1=some (.t .bool (QmL l d0 d1),[.box (.t Qad d0), .box (.t tI d1)]):=by
 simp only [QtJ,h,Qab]
 have e:ige (ixWit l d0 d1) 0=QmL l d0 d1:=by
  unfold ixWit QmL
  cases hq:fstG (fun c=>witO c d0 d1) l with
  | none=>rw [QbY.1 hq]; rfl
  | some k=>
   rw [← QbE,hq]
   simp only [ige,Option.isSome_some,decide_eq_true_eq]
   omega
 rw [e]
def Qvd:Ent:=Qgg [.ty (.sl Qah), .fn 49 [(50000,0),(50001,0)]] [Qad,tI] (fun x d=>(okWit x.1 d.1 d.2.1)) (fun x d=>(.t .bool (QmL x.1 d.1 d.2.1)))
theorem QKD:Meets Tryz.prog 53 (strip Qvd):=Qct (QaO (R:=runF Qoe Qou Qv5 false) (mG Tryz.func53 (by kernel_rfl) Tryz.ntmps53 (by kernel_rfl) QMd QLI) fun x d hok=>(QRd x.1 d.1 d.2.1).trans (QO7 x.1 d.1 d.2.1 hok))
def needU (a:Int):List ERow→Int→List Int
 | [],_=>[]
 | z::r,k=>bif QmL (Qdc z.1 z.2.1) z.2.1 a then needU a r (k+1) else k::needU a r (k+1)
def needF (e:Estate)(a:Int):List Int×Int:=
 bif !estOk e then ([],31) else bif ilt a 1||igt a 22 then ([],7) else (needU a (prsI e) 0,0)
def Qe0:Fg:=⟨[(3,none),(6,none),(7,none)],[(60000,some tI),(60001,none),(60002,none),(36,none),(20600,none)]⟩
noncomputable def Qnd:TC:=(.sq (.reg (rT Tryz.f18 8)) (.reg (rT Tryz.f18 9)))
noncomputable def Qm6:TC:=(.bk 2 (.sq (.reg (rT Tryz.f18 10)) (.sq (.sq (.reg (rT Tryz.f18 11)) (.cd (.t 32) (.reg (rT Tryz.f18 12)) .sk)) (.reg (rT Tryz.f18 13)))))
noncomputable def QF1:TC:=(.sq (.reg (rT Tryz.f18 0)) (.sq (.bk 0 (.sq (.reg (rT Tryz.f18 1)) (.cd (.t 11) (.sq (.reg (rT Tryz.f18 2)) .rt) (.sq (.reg (rT Tryz.f18 3)) (.cd (.t 15) (.sq (.reg (rT Tryz.f18 4)) .rt) .sk))))) (.sq (.reg (rT Tryz.f18 5)) (.sq (.reg (rT Tryz.f18 6)) (.sq (.sq (.reg (rT Tryz.f18 7)) (.bk 1 (.nf 6 0 3 20600 (.rf 0 Qe0 (.t 23) (.pr Qad (.pr Qad .nil)) [24,25] [3,6,7] Qnd Qm6)))) (.sq (.reg (rT Tryz.f18 14)) .rt))))))
def QTE:List (RV×Option Ty):=[((.t 4),some (.sl tI)),((.t 5),some tI)]
abbrev Qtc:Sh:=⟨[(3, .ptr 60000 0),(6, .ptr 60001 0),(7, .ptr 60002 0)],[(60000, .box tI),(60001, .bag [.ms 20600]),(60002, .bag [.ty tI]),(36, .no),(20600, .arr 3 tI)]⟩
def Qnj (y60000 y60002_0:Int)(y20600:List Int):VS:=Qtc.st ((),(),(),()) (y60000,((),()),(y60002_0,()),(),y20600,())
abbrev Qpr:Sh:=⟨[(3, .ptr 60000 0),(6, .ptr 60001 0),(7, .ptr 60002 0)],[(60000, .box tI),(60001, .bag [.ms 20600]),(60002, .bag [.ty tI]),(36, .no),(20600, .arr 3 tI)]⟩
def QdQ (y60000 y60002_0:Int)(y20600:List Int):VS:=Qpr.st ((),(),(),()) (y60000,((),()),(y60002_0,()),(),y20600,())
def QuV:VS→List (Ty.T (.pr Qad (.pr Qad .nil)))→Option (Bool×List (Bool×Exit×VS)):=mkR Qtc (fun zs x y=>(Qit zs&&decide (0≤y.2.2.1.1∧y.2.2.1.1+zs.length≤1000∧y.2.2.2.2.1.length≤y.2.2.1.1))) (fun zs x y=>[(true, .normal,QdQ (y.1) (y.2.2.1.1+zs.length) (y.2.2.2.2.1++needU y.1 zs y.2.2.1.1))])
def g_f18:G:=⟨TYs,[],40,EL [(39,QBd),(41,QGl),(53,Qvd),(54,QSO)],keeps,(Ls [fun _=>none]),IL [(81,Qh3)],(RL [⟨(.pr Qad (.pr Qad .nil)),QuV⟩])⟩
def QOp (z:(Endpoint×(Endpoint×Unit)))(y60000 y60002_0:Int)(y20600:List Int):Option (Exit×VS):=br (QbX z.1 z.2.1) (br (okWit (Qdc z.1 z.2.1) z.2.1 y60000) (br (!(QmL (Qdc z.1 z.2.1) z.2.1 y60000)) (br (cApp y20600 ([y60002_0]) 8) (some (.normal,Qnj y60000 (iadd .i64 y60002_0 1) (y20600++([y60002_0])))) none) (some (.normal,Qnj y60000 (iadd .i64 y60002_0 1) y20600))) none) none
noncomputable def Qj6 (zs:List (Endpoint×(Endpoint×Unit)))(y60000 y60002_0:Int)(y20600:List Int):Option (Exit×VS):=Qdh (QeI g_f18 Qe0 (.pr Qad (.pr Qad .nil)) [24,25] Qnd Qm6) zs (Qnj y60000 y60002_0 y20600)
noncomputable def QzE (z:(Endpoint×(Endpoint×Unit)))(zs:List (Endpoint×(Endpoint×Unit)))(y60000 y60002_0:Int)(y20600:List Int):Option (Exit×VS):=br (QbX z.1 z.2.1) (br (okWit (Qdc z.1 z.2.1) z.2.1 y60000) (br (!(QmL (Qdc z.1 z.2.1) z.2.1 y60000)) (br (cApp y20600 ([y60002_0]) 8) (Qj6 zs y60000 (iadd .i64 y60002_0 1) (y20600++([y60002_0]))) none) (Qj6 zs y60000 (iadd .i64 y60002_0 1) y20600)) none) none
def Qus (zs:List (Endpoint×(Endpoint×Unit)))(y60000 y60002_0:Int)(y20600:List Int):Option (Exit×VS):=some (.normal,QdQ (y60000) (y60002_0+zs.length) (y20600++needU y60000 zs y60002_0))
theorem QRP (z:(Endpoint×(Endpoint×Unit)))(y60000 y60002_0:Int)(y20600:List Int):QeI g_f18 Qe0 (.pr Qad (.pr Qad .nil)) [24,25] Qnd Qm6 z (Qnj y60000 y60002_0 y20600)=QOp z y60000 y60002_0 y20600:=by kernel_rfl
theorem QLA (y60000:Int)(y60002_0:Int)(y20600:(List Int)):Qj6 [] y60000 y60002_0 y20600=some (.normal,QdQ y60000 y60002_0 y20600):=rfl
theorem QPS (z:(Endpoint×(Endpoint×Unit)))(zs:List (Endpoint×(Endpoint×Unit)))(y60000 y60002_0:Int)(y20600:List Int):Qj6 (z::zs) y60000 y60002_0 y20600=QzE z zs y60000 y60002_0 y20600:=(QiS _ _ _ _).trans (by
 rw [QRP]
 simp only [QOp,QzE,QaA,nxt_n,nxt_r,nxt_e,nxt_0]
 rfl)
def r_f18 (p0:Estate)(p1:Int):Option (V×List VO):=br (Qcy p0) (br (ine (QmH p0) 0) (some (.tu [(.t (.sl tI) ([]:List Int)),(.t tI 31)],[])) (br (ilt p1 1) (some (.tu [(.t (.sl tI) ([]:List Int)),(.t tI 7)],[])) (br (igt p1 22) (some (.tu [(.t (.sl tI) ([]:List Int)),(.t tI 7)],[])) (br (prsOk p0) (br (Qit (prsI p0)&&decide (0≤(0:Int)∧(0:Int)+(prsI p0).length≤1000∧([]:List Int).length≤(0:Int))) (some (.tu [(.t (.sl tI) (([]:List Int)++needU p1 (prsI p0) (0:Int))),(.t tI 0)],[])) none) none)))) none
theorem e_f18 (p0:Estate)(p1:Int):runF g_f18 QF1 QTE false [.t Qau p0, .t tI p1] []=r_f18 p0 p1:=by kernel_rfl
theorem en_f18:Qag Tryz.prog 18:= .inr ⟨by decide,_,Tryz.func18,by kernel_rfl,by kernel_rfl⟩
theorem gk_f18:GOk Tryz.prog g_f18:=Qak _ (gA (gC QMB QKF (gC QUv QUc (gC QMz QKD (gC en_f54 ms_f54 gN)))))
 [(81,Qh3)] (by
 intro p hp
 simp only [List.mem_cons,List.not_mem_nil,or_false] at hp
 rcases hp with rfl
 ·exact QBZ)
theorem QXO (zs:List (Endpoint×(Endpoint×Unit)))(y60000 y60002_0:Int)(y20600:List Int)(h:(Qit zs&&decide (0≤y60002_0∧y60002_0+zs.length≤1000∧y20600.length≤y60002_0))=true):Qj6 zs y60000 y60002_0 y20600=Qus zs y60000 y60002_0 y20600:=by
 simp only [Bool.and_eq_true,decide_eq_true_eq] at h
 obtain ⟨hr,h0,h1,h2⟩:=h
 induction zs generalizing y60002_0 y20600 with
 | nil=>
  rw [QLA]
  simp only [Qus,List.length_nil,List.append_nil,needU,Int.natCast_zero,Int.add_zero]
 | cons z zs ih=>
  simp only [Qit,List.all_cons,Bool.and_eq_true] at hr
  simp only [List.length_cons] at h1
  rw [QPS]
  have c1:QbX z.1 z.2.1=true:=hr.1
  have hl:=QAN (c:=z.1) (s:=z.2.1)
  have c2:okWit (Qdc z.1 z.2.1) z.2.1 y60000=true:=Bool.and_eq_true_iff.2 ⟨(Bool.and_eq_true_iff.1 hr.1).2,decide_eq_true (by omega)⟩
  have c3:cApp y20600 [y60002_0] 8=true:=cAppN (by omega) (by simp only [List.length_singleton]; omega)
  have e1:iadd .i64 y60002_0 1=y60002_0+1:=QaV (by omega)
  simp only [QzE,c1,c2,c3,e1,Qab]
  rw [ih _ _ hr.2 (by omega) (by omega) (by simp only [List.length_append,List.length_singleton]; omega),ih _ _ hr.2 (by omega) (by omega) (by omega)]
  simp only [Qus,needU,List.append_assoc,List.singleton_append,List.length_cons,Int.natCast_add,Int.natCast_one,show y60002_0+((zs.length:Int)+1)=y60002_0+1+zs.length by omega]
  cases QmL (Qdc z.1 z.2.1) z.2.1 y60000 <;> rfl
theorem QPL: ∀ S (rows:List (Ty.T (.pr Qad (.pr Qad .nil)))) l p,g_f18.R 0 (fgt Qe0 S) (.pr Qad (.pr Qad .nil)) rows=some (true,l)→pickA l=some p→Qdh (QeI g_f18 Qe0 (.pr Qad (.pr Qad .nil)) [24,25] Qnd Qm6) rows (fgt Qe0 S)=some p:=by
 intro S rows l p hR hp
 rw [show g_f18.R 0 (fgt Qe0 S) (.pr Qad (.pr Qad .nil)) rows=QuV (fgt Qe0 S) rows from RL_at (l:=[⟨(.pr Qad (.pr Qad .nil)),QuV⟩]) (j:=0) (F:=QuV) rfl _ _] at hR
 refine Qz0 (s:=Qtc) ⟨by decide,by decide⟩ (by kernel_rfl) (fun zs x y hok p hp=> ?_) S rows l p hR hp
 simp only [Qap,Qam] at hp
 exact (QXO zs y.1 y.2.2.1.1 y.2.2.2.2.1 (by first | rfl | simpa using hok)).trans hp
theorem lk_f18:QF1.lok g_f18:=by
 repeat (first | exact trivial | exact QPL | refine ⟨?_, ?_⟩)
theorem s_f18 (e:Estate)(a:Int)(h:QhD e a=true):r_f18 e a=some (.tu [.t (.sl tI) (needF e a).1, .t tI (needF e a).2],[]):=by
 have hl:Qcy e=true:=h
 simp only [r_f18,hl,Qab,Qrr,List.nil_append,List.length_nil]
 unfold needF
 cases he:estOk e with
 | false=>rfl
 | true=>
  obtain ⟨h1,h2,h3⟩:=QC0 hl he
  rw [Bool.not_true,Qae]
  cases ilt a 1 with
  | true=>rfl
  | false=>
   cases igt a 22 with
   | true=>rfl
   | false=>
    rw [Qae,Qae,h1,Qab,h2,Bool.true_and]
    exact brY (decide_eq_true ⟨Int.le_refl _,by omega,Int.le_refl _⟩) rfl
def QSX:Ent:=spec (.pr Qau (.pr tI .nil)) (fun x=>(QhD x.1 x.2.1)) (fun x=>(.tu [(.t (.sl tI) ((needF x.1 x.2.1).1)),(.t tI ((needF x.1 x.2.1).2))]))
theorem ms_f18:Meets Tryz.prog 18 (strip QSX):=Qaf (R:=runF g_f18 QF1 QTE false) (mG Tryz.func18 (by kernel_rfl) Tryz.ntmps18 (by kernel_rfl) gk_f18 lk_f18) fun x hok=>(e_f18 x.1 x.2.1).trans (s_f18 x.1 x.2.1 hok)
end
end Go.Proofs.YtckcgijklnloiaaGreat.K
namespace Go.Proofs.YtckcgijklnloiaaGreat.K
open Go.RowKit
noncomputable section
def useL:List Keep:=[(2,(0,())),(1,(0,())),(5,(2048,())),(16,(128,())),(3,(0,())),(15,(168,()))]
def linkZ:Nat→Int→Dice→List Link×Dice
 | 0,_,d=>([],d)
 | n+1,day,d=>((lgt Qah useL (dval d 6).toNat,(day,()))::(linkZ n (iadd .i64 (iadd .i64 day 1) (dof (dnext d 6) [5,30,0,100])) (dofN (dnext d 6) [5,30,0,100])).1,(linkZ n (iadd .i64 (iadd .i64 day 1) (dof (dnext d 6) [5,30,0,100])) (dofN (dnext d 6) [5,30,0,100])).2)
def itD3 (d:Dice):Dice:=dnext (dnext (dnext (dnext d 2) 4) 20) 3
def itLk (d:Dice):List Link×Dice:=linkZ (iadd .i64 1 (dval (dnext (dnext (dnext d 2) 4) 20) 3)).toNat (dval (dnext (dnext d 2) 4) 20) (itD3 d)
def itemV (d:Dice)(s:ByteArray):Item:=(s,(iadd .i64 1 (dval d 2),(iadd .i64 1 (dval (dnext d 2) 4),((itLk d).1,(iadd .i64 (lgt QbD (itLk d).1 0).2.1 (dof (itLk d).2 [50,300,0,3000]),())))))
def itemN (d:Dice)(_s:ByteArray):Dice:=dofN (itLk d).2 [50,300,0,3000]
def dOkS (d:Dice)(_s:ByteArray):Bool:=dOk d
theorem QRw {n:Nat}: ∀ {day:Int} {d:Dice},dOk d=true→dOk (linkZ n day d).2=true:=by
 induction n with
 | zero=>exact fun h=>h
 | succ n ih=>exact fun h=>ih (QaY (l:=[5,30,0,100]) (Qal h))
theorem QDa {d:Dice}(h:dOk d=true):dOk (itLk d).2=true:=QRw (Qal (Qal (Qal (Qal h))))
theorem QRx {d:Dice}{s:ByteArray}(h:dOk d=true):dOk (itemN d s)=true:=QaY (QDa h)
theorem Quq: ∀ (n:Nat) (day:Int) (d:Dice),(linkZ n day d).1.length=n
 | 0,_,_=>rfl
 | n+1,day,d=>by simp only [linkZ,List.length_cons,Quq n]
theorem QDW:useL.all Qby=true:=by kernel_rfl
theorem QXC {y:Ty}{l:List y.T}{i:Nat}(h:i<l.length):lgt y l i ∈ l:=by
 rw [QaC (y:=y) h]
 exact List.getElem_mem h
theorem QUO {e:Dice}:0≤dof e [5,30,0,100]∧dof e [5,30,0,100]≤100:=by
 have h:=Qbo (d:=e) (l:=[5,30,0,100]) (by decide)
 simp only [List.mem_cons,List.not_mem_nil,or_false] at h
 omega
theorem QBV: ∀ (n:Nat) (day:Int) (d:Dice) (pv:Option Int),n≤3→0≤day→day+101 * n≤1000→(∀ e,pv=some e→e<day)→Qiw pv (linkZ n day d).1=true
 | 0,_,_,pv,_,_,_,_=>by cases pv <;> rfl
 | n+1,day,d,pv,h1,h2,h3,h4=>by
  have hv:=QaP (d:=d) (n:=6) (by omega)
  have hs:=QUO (e:=dnext d 6)
  have e1:iadd .i64 (iadd .i64 day 1) (dof (dnext d 6) [5,30,0,100])=day+1+dof (dnext d 6) [5,30,0,100]:=by rw [QaV (a:=day) (b:=1) (by omega),QaV (by omega)]
  unfold linkZ
  rw [QqM,e1]
  have hu:Qby (lgt Qah useL (dval d 6).toNat)=true:=List.all_eq_true.1 QDW _ (QXC (y:=Qah) (by have:useL.length=6:=rfl; omega))
  have hr:=QBV n (day+1+dof (dnext d 6) [5,30,0,100]) (dofN (dnext d 6) [5,30,0,100]) (some day) (by omega) (by omega) (by omega) (fun e he=>by injection he; omega)
  simp only [hu,hr,decide_eq_true (show 0≤day∧day≤40000 by omega),Bool.true_and,Bool.and_true]
  cases pv with
  | none=>rfl
  | some e=>exact decide_eq_true (h4 e rfl)
theorem QEw: ∀ (n:Nat) (day:Int) (d:Dice),0<n→((linkZ n day d).1.headD ((0,(0,())),(0,()))).2.1=day
 | 0,_,_,h=>by omega
 | n+1,day,d,_=>rfl
theorem QQy (d:Dice):1≤(itLk d).1.length∧(itLk d).1.length≤3:=by
 have b3:=QaP (d:=dnext (dnext (dnext d 2) 4) 20) (n:=3) (by omega)
 have e3:iadd .i64 1 (dval (dnext (dnext (dnext d 2) 4) 20) 3)=1+dval (dnext (dnext (dnext d 2) 4) 20) 3:=QaV (by omega)
 unfold itLk
 rw [Quq,e3]
 omega
theorem QXX (d:Dice){s:ByteArray}(hs:QaT s=true):QeW (itemV d s)=true:=by
 have b2:=QaP (d:=d) (n:=2) (by omega)
 have b4:=QaP (d:=dnext d 2) (n:=4) (by omega)
 have b20:=QaP (d:=dnext (dnext d 2) 4) (n:=20) (by omega)
 have b3:=QaP (d:=dnext (dnext (dnext d 2) 4) 20) (n:=3) (by omega)
 have e2:iadd .i64 1 (dval d 2)=1+dval d 2:=QaV (by omega)
 have e4:iadd .i64 1 (dval (dnext d 2) 4)=1+dval (dnext d 2) 4:=QaV (by omega)
 have e3:iadd .i64 1 (dval (dnext (dnext (dnext d 2) 4) 20) 3)=1+dval (dnext (dnext (dnext d 2) 4) 20) 3:=QaV (by omega)
 have hl:=QQy d
 have hh:((itLk d).1.headD ((0,(0,())),(0,()))).2.1=dval (dnext (dnext d 2) 4) 20:=QEw _ _ _ (by rw [e3]; omega)
 have e0:lgt QbD (itLk d).1 0=(itLk d).1.headD ((0,(0,())),(0,())):=by
  cases hq:(itLk d).1 with
  | nil=>rw [hq] at hl; simp at hl
  | cons a l=>rfl
 have hu:0≤dof (itLk d).2 [50,300,0,3000]∧dof (itLk d).2 [50,300,0,3000]≤3000:=by
  have h:=Qbo (d:=(itLk d).2) (l:=[50,300,0,3000]) (by decide)
  simp only [List.mem_cons,List.not_mem_nil,or_false] at h
  omega
 have eu:iadd .i64 (lgt QbD (itLk d).1 0).2.1 (dof (itLk d).2 [50,300,0,3000])=(lgt QbD (itLk d).1 0).2.1+dof (itLk d).2 [50,300,0,3000]:=QaV (by rw [e0,hh]; omega)
 refine Qba.2 ⟨hs, ?_, ?_, ?_, ?_, ?_⟩
 ·show 1≤iadd .i64 1 (dval d 2)∧iadd .i64 1 (dval d 2)≤2
  omega
 ·show 1≤iadd .i64 1 (dval (dnext d 2) 4)∧iadd .i64 1 (dval (dnext d 2) 4)≤4
  omega
 ·show 1≤(itLk d).1.length∧(itLk d).1.length≤8
  omega
 ·exact QBV _ _ _ none (by rw [e3]; omega) (by omega) (by omega) (fun e he=>by cases he)
 ·show ((itLk d).1.headD ((0,(0,())),(0,()))).2.1≤iadd .i64 (lgt QbD (itLk d).1 0).2.1 (dof (itLk d).2 [50,300,0,3000])∧iadd .i64 (lgt QbD (itLk d).1 0).2.1 (dof (itLk d).2 [50,300,0,3000])≤40000
  rw [eu,e0,hh]
  omega
noncomputable def QRo:List DO:=dT Tryz.f37 9
def Qla:Fg:=⟨[(0,none),(4,none),(5,none),(6,some tI),(7,some tI)],[(4,some QaU),(5,none),(43,none),(20503,none),(50000,some Qaq)]⟩
noncomputable def Qm5:TC:=(.sq (.sq (.reg (rT Tryz.f37 4)) (.cd (.t 23) .sk (.fg ⟨[(0,none),(4,none),(5,none)],[(4,some QaU),(5,some QaU),(43,none),(20503,none),(50000,some Qaq)]⟩ (.ex 0)))) (.sq (.bk 1 (.sq (.reg (rT Tryz.f37 5)) (.sq (.reg (rT Tryz.f37 6)) (.reg (rT Tryz.f37 7))))) (.reg (rT Tryz.f37 8))))
noncomputable def QFZ:TC:=(.sq (.reg (rT Tryz.f37 0)) (.sq (.reg (rT Tryz.f37 1)) (.sq (.reg (rT Tryz.f37 2)) (.sq (.sq (.reg (rT Tryz.f37 3)) (.bk 0 (.nf 5 3 128 20503 (.lp 0 Qla Qm5)))) (.sq (.dr QRo [(0,[5,43,20503]),(1,[5,43,20503]),(2,[43,20503]),(3,[43,20503]),(4,[43,20503]),(5,[50000]),(6,[]),(7,[58,5058,10058,15058,50000]),(8,[]),(9,[5,43,20503]),(10,[4,5,43,20503])] (.of [0,1,2,3,4,5,6,7,8,9,10])) (.sq (.reg (rT Tryz.f37 10)) .rt))))))
def QTC:List (RV×Option Ty):=[((.c 4 true 5),some QaU)]
abbrev Qta:Sh:=⟨[(0, .ptr 50000 0),(4, .ptr 4 0),(5, .ptr 5 0),(6, .ty tI),(7, .ty tI)],[(4, .box QaU),(5, .bag [.ty .str, .ty tI, .ty tI, .ms 20503, .ty tI]),(43, .no),(20503, .arr 128 QbD),(50000, .box Qaq)]⟩
def QsM (x6 x7:Int)(y4:Item)(y5_0:ByteArray)(y5_1 y5_2 y5_4:Int)(y20503:List Link)(y50000:Dice):VS:=Qta.st ((),(),(),x6,x7,()) (y4,(y5_0,y5_1,y5_2,(),y5_4,()),(),y20503,y50000,())
abbrev Qzh:Sh:=⟨[(0, .ptr 50000 0),(4, .ptr 4 0),(5, .ptr 5 0)],[(4, .box QaU),(5, .bag [.ty .str, .ty tI, .ty tI, .ms 20503, .ty tI]),(43, .no),(20503, .arr 128 QbD),(50000, .box Qaq)]⟩
def Qfz (y4:Item)(y5_0:ByteArray)(y5_1 y5_2 y5_4:Int)(y20503:List Link)(y50000:Dice):VS:=Qzh.st ((),(),(),()) (y4,(y5_0,y5_1,y5_2,(),y5_4,()),(),y20503,y50000,())
def Q0K:VS→Option (Bool×List (Bool×Exit×VS)):=mkL Qta (fun x y=>(dOk y.2.2.2.2.1&&decide (0≤x.2.2.2.2.1∧x.2.2.2.2.1≤100∧y.2.2.2.1.length+x.2.2.2.2.1.toNat≤1000))) (fun x y=>[(true, .exit 0,Qfz (y.1) (y.2.1.1) (y.2.1.2.1) (y.2.1.2.2.1) (y.2.1.2.2.2.2.1) (y.2.2.2.1++(linkZ x.2.2.2.2.1.toNat x.2.2.2.1 y.2.2.2.2.1).1) ((linkZ x.2.2.2.2.1.toNat x.2.2.2.1 y.2.2.2.2.1).2))])
def g_f37:G:=⟨TYs,[],62,EL [(35,QgA),(45,Ql4)],keeps,(Ls [Q0K]),IL [],RL []⟩
def QOn (x6 x7:Int)(y4:Item)(y5_0:ByteArray)(y5_1 y5_2 y5_4:Int)(y20503:List Link)(y50000:Dice):Option (Exit×VS):=
 let a1:=(lgt Qah ([(2,(0,())),(1,(0,())),(5,(2048,())),(16,(128,())),(3,(0,())),(15,(168,()))]) (Int.toNat (dval y50000 6)))
 let a2:=((a1.1,((a1.2).1,())),(x6,()))
 let a3:=dnext y50000 6
 br (igt x7 0) (br (Qav y50000 6) (br (cIx ([(2,(0,())),(1,(0,())),(5,(2048,())),(16,(128,())),(3,(0,())),(15,(168,()))]) (dval y50000 6)) (br (cApp y20503 ([a2]) 24) (br (ofOk a3 ([5,30,0,100])) (some (.normal,QsM (iadd .i64 (iadd .i64 x6 1) (dof a3 ([5,30,0,100]))) (isub .i64 x7 1) y4 y5_0 y5_1 y5_2 y5_4 (y20503++([a2])) (dofN a3 ([5,30,0,100])))) none) none) none) none) (some (.exit 0,Qfz y4 y5_0 y5_1 y5_2 y5_4 y20503 y50000))
noncomputable def Qui (x6 x7:Int)(y4:Item)(y5_0:ByteArray)(y5_1 y5_2 y5_4:Int)(y20503:List Link)(y50000:Dice):Option (Exit×VS):=loopF (Qai g_f37 Qla Qm5) (QsM x6 x7 y4 y5_0 y5_1 y5_2 y5_4 y20503 y50000)
noncomputable def Qt8 (x6 x7:Int)(y4:Item)(y5_0:ByteArray)(y5_1 y5_2 y5_4:Int)(y20503:List Link)(y50000:Dice):Option (Exit×VS):=
 let a1:=(lgt Qah ([(2,(0,())),(1,(0,())),(5,(2048,())),(16,(128,())),(3,(0,())),(15,(168,()))]) (Int.toNat (dval y50000 6)))
 let a2:=((a1.1,((a1.2).1,())),(x6,()))
 let a3:=dnext y50000 6
 br (igt x7 0) (br (Qav y50000 6) (br (cIx ([(2,(0,())),(1,(0,())),(5,(2048,())),(16,(128,())),(3,(0,())),(15,(168,()))]) (dval y50000 6)) (br (cApp y20503 ([a2]) 24) (br (ofOk a3 ([5,30,0,100])) (Qui (iadd .i64 (iadd .i64 x6 1) (dof a3 ([5,30,0,100]))) (isub .i64 x7 1) y4 y5_0 y5_1 y5_2 y5_4 (y20503++([a2])) (dofN a3 ([5,30,0,100]))) none) none) none) none) (some (.exit 0,Qfz y4 y5_0 y5_1 y5_2 y5_4 y20503 y50000))
def Qku (x6 x7:Int)(y4:Item)(y5_0:ByteArray)(y5_1 y5_2 y5_4:Int)(y20503:List Link)(y50000:Dice):Option (Exit×VS):=
 let a1:=linkZ x7.toNat x6 y50000
 some (.exit 0,Qfz (y4) (y5_0) (y5_1) (y5_2) (y5_4) (y20503++a1.1) (a1.2))
theorem QRN (x6 x7:Int)(y4:Item)(y5_0:ByteArray)(y5_1 y5_2 y5_4:Int)(y20503:List Link)(y50000:Dice):Qai g_f37 Qla Qm5 (QsM x6 x7 y4 y5_0 y5_1 y5_2 y5_4 y20503 y50000)=QOn x6 x7 y4 y5_0 y5_1 y5_2 y5_4 y20503 y50000:=by kernel_rfl
theorem QBO (x6 x7:Int)(y4:Item)(y5_0:ByteArray)(y5_1 y5_2 y5_4:Int)(y20503:List Link)(y50000:Dice):Qui x6 x7 y4 y5_0 y5_1 y5_2 y5_4 y20503 y50000=Qt8 x6 x7 y4 y5_0 y5_1 y5_2 y5_4 y20503 y50000:=(Qan _ _).trans (by
 rw [QRN]
 simp only [QOn,Qt8,QaA,nxt_n,nxt_r,nxt_e,nxt_0]
 rfl)
def r_f37 (d0:Dice)(p1:ByteArray):Option (V×List VO):=
 let a2:=dnext (dnext (dnext d0 2) 4) 20
 let a3:=iadd .i64 1 (dval a2 3)
 let a1:=linkZ a3.toNat (dval (dnext (dnext d0 2) 4) 20) (dnext a2 3)
 br (Qav d0 2) (br (Qav (dnext d0 2) 4) (br (Qav (dnext (dnext d0 2) 4) 20) (br (Qav a2 3) (br (dOk (dnext a2 3)&&decide (0≤a3∧a3≤100∧([]:List Link).length+a3.toNat≤1000)) (br (cIx (([]:List Link)++a1.1) 0) (br (cLd (([]:List Link)++a1.1) (Int.toNat 0)) (br (ofOk (a1.2) ([50,300,0,3000])) (some (.t QaU ((p1),((iadd .i64 1 (dval d0 2)),((iadd .i64 1 (dval (dnext d0 2) 4)),((([]:List Link)++a1.1),((iadd .i64 (((lgt QbD (([]:List Link)++a1.1) (Int.toNat 0)).2).1) (dof (a1.2) ([50,300,0,3000]))),()))))),[.box (.t Qaq (dofN (a1.2) ([50,300,0,3000])))])) none) none) none) none) none) none) none) none
theorem e_f37 (d0:Dice)(p1:ByteArray):runF g_f37 QFZ QTC false [.ptr 50000 0, .t .str p1] [.box (.t Qaq d0)]=r_f37 d0 p1:=by kernel_rfl
theorem en_f37:Qag Tryz.prog 37:= .inr ⟨by decide,_,Tryz.func37,by kernel_rfl,by kernel_rfl⟩
theorem gk_f37:GOk Tryz.prog g_f37:=Qak _ (gA (gC Qiy Qiu (gC Qrh Qqr gN)))
theorem QXN (x6 x7:Int)(y4:Item)(y5_0:ByteArray)(y5_1 y5_2 y5_4:Int)(y20503:List Link)(y50000:Dice)(h:(dOk y50000&&decide (0≤x7∧x7≤100∧y20503.length+x7.toNat≤1000))=true):Qui x6 x7 y4 y5_0 y5_1 y5_2 y5_4 y20503 y50000=Qku x6 x7 y4 y5_0 y5_1 y5_2 y5_4 y20503 y50000:=by
 simp only [Bool.and_eq_true,decide_eq_true_eq] at h
 obtain ⟨hd,h1,h2q,h3⟩:=h
 obtain ⟨k,rfl⟩:=Int.eq_ofNat_of_zero_le h1
 rw [Int.toNat_natCast] at h3
 have h2:k≤100:=by omega
 clear h1 h2q
 induction k generalizing y20503 y50000 x6 with
 | zero=>
  rw [QBO]
  have e1:igt ((0:Nat):Int) 0=false:=rfl
  simp only [Qt8,e1,Qae,Qku,Int.toNat_natCast,linkZ,List.append_nil]
 | succ k ih=>
  rw [QBO]
  have e1:igt ((k+1:Nat):Int) 0=true:=by simp only [igt,decide_eq_true_eq]; omega
  have e2:isub .i64 ((k+1:Nat):Int) 1=(k:Int):=by rw [Qbg (by omega)]; omega
  have hv:=QaP (d:=y50000) (n:=6) (by omega)
  have hc:cIx useL (dval y50000 6)=true:=by
   have:useL.length=6:=rfl
   simp only [cIx,decide_eq_true_eq]
   omega
  have hla:Qku x6 ((k+1:Nat):Int) y4 y5_0 y5_1 y5_2 y5_4 y20503 y50000=Qku (iadd .i64 (iadd .i64 x6 1) (dof (dnext y50000 6) [5,30,0,100])) (k:Int) y4 y5_0 y5_1 y5_2 y5_4 (y20503++[(lgt Qah useL (dval y50000 6).toNat,(x6,()))]) (dofN (dnext y50000 6) [5,30,0,100]):=by
   simp only [Qku,Int.toNat_natCast,linkZ,List.append_assoc]
   rfl
  rw [hla, ← ih _ _ _ (QaY (Qal hd)) (by simp; omega) (by omega)]
  have n6:Qav y50000 6=true:=by simp [Qav,hd]
  have f1:ofOk (dnext y50000 6) [5,30,0,100]=true:=by simp [ofOk,Qal hd]
  simp only [Qt8,e1,e2,n6,f1,Qab,show ([(2,(0,())),(1,(0,())),(5,(2048,())),(16,(128,())),(3,(0,())),(15,(168,()))]:List Keep)=useL from rfl,hc]
  rw [Q0r (by simp; omega) (by omega),Qab]
  show br (cIx useL (dval y50000 6)) _ _=_
  rw [hc,Qab]
theorem QPK: ∀ S l p,g_f37.L 0 (fgt Qla S)=some (true,l)→pickA l=some p→loopF (Qai g_f37 Qla Qm5) S=some p:=
 QaB (s:=Qta) ⟨by decide,by decide⟩ (by kernel_rfl) fun x y hok p hp=>by
 simp only [Qap,Qam] at hp
 exact (QXN x.2.2.2.1 x.2.2.2.2.1 y.1 y.2.1.1 y.2.1.2.1 y.2.1.2.2.1 y.2.1.2.2.2.2.1 y.2.2.2.1 y.2.2.2.2.1 (by simpa using hok)).trans hp
theorem lk_f37:QFZ.lok g_f37:=by
 repeat (first | exact trivial | exact QPK | refine ⟨?_, ?_⟩)
theorem s_f37 (d:Dice)(s:ByteArray)(h:dOkS d s=true):r_f37 d s=some (.t QaU (itemV d s),[.box (.t Qaq (itemN d s))]):=by
 have h:dOk d=true:=h
 have n2:Qav d 2=true:=by simp [Qav,h]
 have n4:Qav (dnext d 2) 4=true:=by simp [Qav,Qal h]
 have n20:Qav (dnext (dnext d 2) 4) 20=true:=by simp [Qav,Qal (Qal h)]
 have n3:Qav (dnext (dnext (dnext d 2) 4) 20) 3=true:=by simp [Qav,Qal (Qal (Qal h))]
 have b3:=QaP (d:=dnext (dnext (dnext d 2) 4) 20) (n:=3) (by omega)
 have e3:iadd .i64 1 (dval (dnext (dnext (dnext d 2) 4) 20) 3)=1+dval (dnext (dnext (dnext d 2) 4) 20) 3:=QaV (by omega)
 have hl:=Quq (iadd .i64 1 (dval (dnext (dnext (dnext d 2) 4) 20) 3)).toNat (dval (dnext (dnext d 2) 4) 20) (itD3 d)
 have hd3:dOk (itD3 d)=true:=Qal (Qal (Qal (Qal h)))
 have hL:dOk (itLk d).2=true:=QDa h
 have f5:ofOk (itLk d).2 [50,300,0,3000]=true:=by simp [ofOk,hL]
 have hlen:0<(itLk d).1.length:=by
  show 0<(linkZ _ _ _).1.length
  rw [hl]
  omega
 have c1:cIx (itLk d).1 0=true:=by simp only [cIx,decide_eq_true_eq]; omega
 have c2:cLd (itLk d).1 (Int.toNat 0)=true:=by simp only [cLd,decide_eq_true_eq]; exact hlen
 simp only [r_f37,n2,n4,n20,n3,Qab,List.nil_append,show dnext (dnext (dnext (dnext d 2) 4) 20) 3=itD3 d from rfl,hd3,Bool.true_and]
 rw [Qlg ⟨by omega,by omega,by simp; omega⟩,Qab]
 simp only [show linkZ (iadd .i64 1 (dval (dnext (dnext (dnext d 2) 4) 20) 3)).toNat (dval (dnext (dnext d 2) 4) 20) (itD3 d)=itLk d from rfl,c1,c2,f5,Qab]
 rfl
def QSW:Ent:=specP Qaq (.pr .str .nil) (fun d x=>(dOkS d x.1)) (fun d x=>(.t QaU (itemV d x.1))) (fun d x=>(itemN d x.1))
theorem ms_f37:Meets Tryz.prog 37 (strip QSW):=Qa7 (R:=runF g_f37 QFZ QTC false) (mG Tryz.func37 (by kernel_rfl) Tryz.ntmps37 (by kernel_rfl) gk_f37 lk_f37) rfl fun d x hok=>(e_f37 d x.1).trans (s_f37 d x.1 hok)
noncomputable def QRr:List DO:=[(.mk (oV 16 0) []),(.mk (oV 17 5) []),(.mk (oP 18 (.ix 2 (.t 16) (.t 17))) [0,1]),(.mk (oM 19 (.ld true 2 (.t 18))) [2]),(.mk (oV 20 1) []),(.mk (oV 21 5) []),(.mk (oP 22 (.ix 2 (.t 20) (.t 21))) [4,5]),(.mk (oM 23 (.ld true 2 (.t 22))) [6]),(.mk (oP 24 (.eqs true [0,0] (.t 19) (.t 23))) [3,7])]
def QCW:Fg:=⟨[(0,some (.sl Qah)),(1,some (.sl Qah)),(12,some tI),(13,some tI)],[]⟩
noncomputable def QA6:TC:=(.sq (.reg [(oP 14 (.bin false .lss (.t 13) (.t 12)))]) (.sq (.cd (.t 14) .sk (.fg ⟨[],[]⟩ (.ex 0))) (.sq (.bk 1 (.sq (.reg [(oV 15 13),(oV 5 15)]) (.sq (.dr QRr [(0,[]),(1,[]),(2,[]),(3,[]),(4,[]),(5,[]),(6,[]),(7,[]),(8,[])] (.of [0,1,2,3,4,5,6,7,8])) (.cd (.t 24) (.sq (.reg [(oP 4 (.mv (cB false)))]) (.fg ⟨[(4,some .bool)],[]⟩ .rt)) .sk)))) (.reg [(oP 25 (.bin false .add (.t 13) (cI 1))),(oV 13 25)]))))
abbrev QBj:Sh:=⟨[(0, .ty (.sl Qah)),(1, .ty (.sl Qah)),(12, .ty tI),(13, .ty tI)],[]⟩
def QsN (x0 x1:List Keep)(x12 x13:Int):VS:=QBj.st (x0,x1,x12,x13,()) ()
abbrev Qvs:Sh:=⟨[(4, .ty .bool)],[]⟩
def Qef (x4:Bool):VS:=Qvs.st (x4,()) ()
abbrev Qzi:Sh:=⟨[],[]⟩
def QfB  : VS:=Qzi.st () ()
def Q0L:VS→Option (Bool×List (Bool×Exit×VS)):=mkL QBj (fun x y=>(decide (0≤x.2.2.2.1∧x.2.2.2.1≤x.1.length∧x.1.length=x.2.1.length∧x.2.2.1=x.1.length∧x.1.length≤100000))) (fun x y=>[((!(x.1.drop x.2.2.2.1.toNat == x.2.1.drop x.2.2.2.1.toNat)), .ret,Qef (false)),(true, .exit 0,QfB)])
def g_f22:G:=⟨TYs,[],26,EL [],keeps,(Ls [Q0L]),IL [],RL []⟩
def QOo (x0 x1:List Keep)(x12 x13:Int):Option (Exit×VS):=
 let a1:=Int.toNat x13
 br (ilt x13 x12) (br (cIx x0 x13) (br (cIx x1 x13) (br (!(and (ieq ((lgt Qah x0 a1).1) ((lgt Qah x1 a1).1)) (and (ieq (((lgt Qah x0 a1).2).1) (((lgt Qah x1 a1).2).1)) true))) (some (.ret,Qef false)) (some (.normal,QsN x0 x1 x12 (iadd .i64 x13 1)))) none) none) (some (.exit 0,QfB))
noncomputable def QnT (x0 x1:List Keep)(x12 x13:Int):Option (Exit×VS):=loopF (Qai g_f22 QCW QA6) (QsN x0 x1 x12 x13)
noncomputable def Qt9 (x0 x1:List Keep)(x12 x13:Int):Option (Exit×VS):=
 let a1:=Int.toNat x13
 br (ilt x13 x12) (br (cIx x0 x13) (br (cIx x1 x13) (br (!(and (ieq ((lgt Qah x0 a1).1) ((lgt Qah x1 a1).1)) (and (ieq (((lgt Qah x0 a1).2).1) (((lgt Qah x1 a1).2).1)) true))) (some (.ret,Qef false)) (QnT x0 x1 x12 (iadd .i64 x13 1))) none) none) (some (.exit 0,QfB))
def Qn3 (x0 x1:List Keep)(x12 x13:Int):Option (Exit×VS):=br (!(x0.drop x13.toNat == x1.drop x13.toNat)) (some (.ret,Qef (false)))<|some (.exit 0,QfB)
theorem QRO (x0 x1:List Keep)(x12 x13:Int):Qai g_f22 QCW QA6 (QsN x0 x1 x12 x13)=QOo x0 x1 x12 x13:=by kernel_rfl
theorem QBP (x0 x1:List Keep)(x12 x13:Int):QnT x0 x1 x12 x13=Qt9 x0 x1 x12 x13:=(Qan _ _).trans (by
 rw [QRO]
 simp only [QOo,Qt9,QaA,nxt_n,nxt_r,nxt_e,nxt_0]
 rfl)
theorem l_f22_0 (x0 x1:List Keep)(x12 x13:Int)(h:(decide (0≤x13∧x13≤x0.length∧x0.length=x1.length∧x12=x0.length∧x0.length≤100000))=true):QnT x0 x1 x12 x13=Qn3 x0 x1 x12 x13:=by
 simp only [decide_eq_true_eq] at h
 obtain ⟨h0,h1,h2,rfl,h3⟩:=h
 obtain ⟨k,rfl⟩:=Int.eq_ofNat_of_zero_le h0
 refine Qat x0 (fun k=>QnT x0 x1 (x0.length:Int) (k:Int)=Qn3 x0 x1 (x0.length:Int) (k:Int)) ?_ ?_ k (by omega)
 ·rw [QBP]
  simp only [Qt9,Qn3,Qar,Nat.lt_irrefl,decide_false,Qae,Int.toNat_natCast,List.drop_length]
  rw [h2,List.drop_length]
  rfl
 ·intro k hk ih
  rw [QBP]
  have hk2:k<x1.length:=by omega
  have hq:(and (ieq x0[k].1 x1[k].1) (and (ieq x0[k].2.1 x1[k].2.1) true))=(x0[k] == x1[k]):=rfl
  simp only [Qt9,Qar,Qax,hk,hk2,decide_true,Qab,Int.toNat_natCast,add1 (show k<4611686018427387904 by omega),QaC (y:=Qah) hk,QaC (y:=Qah) hk2,ih]
  rw [hq]
  simp only [Qn3,Int.toNat_natCast,List.drop_eq_getElem_cons hk,List.drop_eq_getElem_cons hk2,List.cons_beq_cons]
  cases x0[k] == x1[k] <;> rfl
def Qlb:Fg:=⟨[(1,some tI),(7,some (.sl tI)),(8,some tI),(9,some tI)],[]⟩
noncomputable def Qm7:TC:=(.sq (.reg (rT Tryz.f16 2)) (.sq (.cd (.t 10) .sk (.fg ⟨[],[]⟩ (.ex 0))) (.sq (.bk 1 (.sq (.reg (rT Tryz.f16 3)) (.sq (.reg (rT Tryz.f16 4)) (.cd (.t 15) (.sq (.reg (rT Tryz.f16 5)) (.fg ⟨[(4,some .bool)],[]⟩ .rt)) .sk)))) (.reg (rT Tryz.f16 6)))))
noncomputable def QF2:TC:=(.sq (.reg (rT Tryz.f16 0)) (.sq (.sq (.reg (rT Tryz.f16 1)) (.bk 0 (.lp 0 Qlb Qm7))) (.sq (.reg (rT Tryz.f16 7)) .rt)))
def QTF:List (RV×Option Ty):=[((.t 4),some .bool)]
abbrev Qtf:Sh:=⟨[(1, .ty tI),(7, .ty (.sl tI)),(8, .ty tI),(9, .ty tI)],[]⟩
def QsO (x1:Int)(x7:List Int)(x8 x9:Int):VS:=Qtf.st (x1,x7,x8,x9,()) ()
abbrev QvF:Sh:=⟨[(4, .ty .bool)],[]⟩
def Qeq (x4:Bool):VS:=QvF.st (x4,()) ()
abbrev Qzj:Sh:=⟨[],[]⟩
def QfC  : VS:=Qzj.st () ()
def Q0M:VS→Option (Bool×List (Bool×Exit×VS)):=mkL Qtf (fun x y=>(rngOk x.2.1 x.2.2.1 x.2.2.2.1)) (fun x y=>[((hasF (x.2.1.drop x.2.2.2.1.toNat) x.1), .ret,Qeq (true)),(true, .exit 0,QfC)])
def g_f16:G:=⟨TYs,[],17,EL [],keeps,(Ls [Q0M]),IL [],RL []⟩
def QOq (x1:Int)(x7:List Int)(x8 x9:Int):Option (Exit×VS):=br (ilt x9 x8) (br (cIx x7 x9) (br (ieq (lgt tI x7 (Int.toNat x9)) x1) (some (.ret,Qeq true)) (some (.normal,QsO x1 x7 x8 (iadd .i64 x9 1)))) none) (some (.exit 0,QfC))
noncomputable def QnU (x1:Int)(x7:List Int)(x8 x9:Int):Option (Exit×VS):=loopF (Qai g_f16 Qlb Qm7) (QsO x1 x7 x8 x9)
noncomputable def Quc (x1:Int)(x7:List Int)(x8 x9:Int):Option (Exit×VS):=br (ilt x9 x8) (br (cIx x7 x9) (br (ieq (lgt tI x7 (Int.toNat x9)) x1) (some (.ret,Qeq true)) (QnU x1 x7 x8 (iadd .i64 x9 1))) none) (some (.exit 0,QfC))
def Qn4 (x1:Int)(x7:List Int)(x8 x9:Int):Option (Exit×VS):=br (hasF (x7.drop x9.toNat) x1) (some (.ret,Qeq (true)))<|some (.exit 0,QfC)
theorem QRQ (x1:Int)(x7:List Int)(x8 x9:Int):Qai g_f16 Qlb Qm7 (QsO x1 x7 x8 x9)=QOq x1 x7 x8 x9:=by kernel_rfl
theorem QBQ (x1:Int)(x7:List Int)(x8 x9:Int):QnU x1 x7 x8 x9=Quc x1 x7 x8 x9:=(Qan _ _).trans (by
 rw [QRQ]
 simp only [QOq,Quc,QaA,nxt_n,nxt_r,nxt_e,nxt_0]
 rfl)
def r_f16 (p0:List Int)(p1:Int):Option (V×List VO):=br (rngOk p0 (llen p0) (0:Int)) (br (hasF (p0.drop (0:Int).toNat) p1) (some (.t .bool (true),[])) (some (.t .bool false,[]))) none
theorem e_f16 (p0:List Int)(p1:Int):runF g_f16 QF2 QTF false [.t (.sl tI) p0, .t tI p1] []=r_f16 p0 p1:=by kernel_rfl
theorem en_f16:Qag Tryz.prog 16:= .inr ⟨by decide,_,Tryz.func16,by kernel_rfl,by kernel_rfl⟩
theorem gk_f16:GOk Tryz.prog g_f16:=Qak _ (fun p hp=>by cases hp)
theorem QXP (x1:Int)(x7:List Int)(x8 x9:Int)(h:(rngOk x7 x8 x9)=true):QnU x1 x7 x8 x9=Qn4 x1 x7 x8 x9:=by
 obtain ⟨rfl,h3,k,rfl,hk⟩:=rng_k h
 clear h
 refine Qat x7 (fun k=>QnU x1 x7 (x7.length:Int) (k:Int)=Qn4 x1 x7 (x7.length:Int) (k:Int)) ?_ ?_ k hk
 ·rw [QBQ]
  simp only [Quc,Qn4,Qar,Nat.lt_irrefl,decide_false,Qae,Int.toNat_natCast,List.drop_length]
  rfl
 ·intro k hk ih
  rw [QBQ]
  simp only [Quc,Qar,Qax,hk,decide_true,Qab,Int.toNat_natCast,add1 (show k<4611686018427387904 by omega),ih,QaC (y:=tI) hk]
  simp only [Qn4,Int.toNat_natCast,List.drop_eq_getElem_cons hk]
  have e:hasF (x7[k]::x7.drop (k+1)) x1=(ieq x7[k] x1||hasF (x7.drop (k+1)) x1):=by
   unfold hasF
   rw [List.contains_cons]
   congr 1
   simp only [ieq,BEq.comm]
  rw [e]
  cases ieq x7[k] x1 <;> rfl
theorem QPM: ∀ S l p,g_f16.L 0 (fgt Qlb S)=some (true,l)→pickA l=some p→loopF (Qai g_f16 Qlb Qm7) S=some p:=
 QaB (s:=Qtf) ⟨by decide,by decide⟩ (by kernel_rfl) fun x y hok p hp=>by
 simp only [Qap,Qam] at hp
 exact (QXP x.1 x.2.1 x.2.2.1 x.2.2.2.1 (by simpa using hok)).trans hp
theorem lk_f16:QF2.lok g_f16:=by
 repeat (first | exact trivial | exact QPM | refine ⟨?_, ?_⟩)
theorem s_f16 (l:List Int)(n:Int)(h:Qa2 l n=true):r_f16 l n=some (.t .bool (hasF l n),[]):=by
 have hl:l.length≤100000:=of_decide_eq_true h
 simp only [r_f16,rng_0 hl,Qab,Int.toNat_zero,List.drop_zero]
 cases hasF l n <;> rfl
def QSY:Ent:=spec (.pr (.sl tI) (.pr tI .nil)) (fun x=>(Qa2 x.1 x.2.1)) (fun x=>(.t .bool (hasF x.1 x.2.1)))
theorem ms_f16:Meets Tryz.prog 16 (strip QSY):=Qaf (R:=runF g_f16 QF2 QTF false) (mG Tryz.func16 (by kernel_rfl) Tryz.ntmps16 (by kernel_rfl) gk_f16 lk_f16) fun x hok=>(e_f16 x.1 x.2.1).trans (s_f16 x.1 x.2.1 hok)
def Qol:Bool:=true
noncomputable def QF8:TC:=(.sq (.reg (rT Tryz.f10 0)) (.sq (.reg (rT Tryz.f10 1)) (.sq (.reg (rT Tryz.f10 2)) (.sq (.reg (rT Tryz.f10 3)) (.sq (.reg (rT Tryz.f10 4)) .rt)))))
def QTL:List (RV×Option Ty):=[((.t 0),some .bool)]
def g_f10:G:=⟨TYs,[],44,EL [(14,QG8),(15,QG1),(18,QSX)],keeps,(fun _ _=>none),IL [],RL []⟩
def r_f10  : Option (V×List VO):=
 let a1:=(allF (([]:List Endpoint),(([]:List Keep),(([]:List Item),()))) 0)
 br (Qsl (([]:List Endpoint),(([]:List Keep),(([]:List Item),()))) 0 0) (br (QhD (([]:List Endpoint),(([]:List Keep),(([]:List Item),()))) 0) (br (QhD (([]:List Endpoint),(([]:List Keep),(([]:List Item),()))) 99) (br (ieq ((Qdd (([]:List Endpoint),(([]:List Keep),(([]:List Item),()))) 0 0).2) 4) (br (ieq ((a1.2).2) 0) (br (ieq (llen (a1.1)) 0) (br (ieq (llen ((a1.2).1)) 0) (some (.t .bool (ieq ((needF (([]:List Endpoint),(([]:List Keep),(([]:List Item),()))) 99).2) 7),[])) (some (.t .bool false,[]))) (some (.t .bool false,[]))) (some (.t .bool false,[]))) (some (.t .bool false,[]))) none) none) none
theorem e_f10  : runF g_f10 QF8 QTL false [] []=r_f10  :=by kernel_rfl
theorem en_f10:Qag Tryz.prog 10:= .inr ⟨by decide,_,Tryz.func10,by kernel_rfl,by kernel_rfl⟩
theorem gk_f10:GOk Tryz.prog g_f10:=Qak _ (gA (gC QUy QUf (gC QUx QUe (gC en_f18 ms_f18 gN))))
theorem lk_f10:QF8.lok g_f10:=by repeat (first | exact trivial | refine ⟨?_, ?_⟩)
set_option maxRecDepth 100000 in
theorem s_f10:r_f10=some (.t .bool Qol,[]):=by kernel_rfl
def QS1:Ent:=spec .nil (fun x=>true) (fun x=>(.t .bool Qol))
theorem ms_f10:Meets Tryz.prog 10 (strip QS1):=Qaf (R:=runF g_f10 QF8 QTL false) (mG Tryz.func10 (by kernel_rfl) Tryz.ntmps10 (by kernel_rfl) gk_f10 lk_f10) fun x _=>(e_f10 ).trans (s_f10)
end
end Go.Proofs.YtckcgijklnloiaaGreat.K
namespace Go.Proofs.YtckcgijklnloiaaGreat.K
open Go.RowKit
noncomputable section
attribute [local irreducible] epV epN prZ
end
end Go.Proofs.YtckcgijklnloiaaGreat.K
namespace Go.Proofs.YtckcgijklnloiaaGreat.K
open Go.RowKit
noncomputable section
theorem QyR (s x:Int):0≤stepS s x∧stepS s x<4294967296:=by
 unfold stepS imul
 rw [IntKind.wrap_u32]
 omega
theorem QrY: ∀ (b:List Int) (s:Int),(0≤s∧s<4294967296)→0≤b.foldl stepS s∧b.foldl stepS s<4294967296
 | [],_,h=>h
 | x::r,s,_=>QrY r (stepS s x) (QyR s x)
theorem QDX (b:List Int):0≤sumB b∧sumB b<4294967296:=by
 have h:=QrY b 2166136261 (by omega)
 unfold sumB
 rw [show icv .i64 (b.foldl stepS 2166136261)=b.foldl stepS 2166136261 from Go.IntWalk.i64_in _ (by omega)]
 exact h
theorem QUJ (b:List Int):sumI (sumB b)=true:=by
 have h:=QDX b
 simp only [sumI,Bool.and_eq_true,Bool.not_eq_true',ilt,ige,decide_eq_false_iff_not]
 omega
theorem QAh {n:Int}(h:0≤n∧n≤2147483648):keyI n=true:=by
 simp only [keyI,Bool.and_eq_true,Bool.not_eq_true',ilt,igt,decide_eq_false_iff_not]
 omega
def subOk (s:ByteArray):Bool:=QaT s&&QeL [s]&&QeL [s,scat s (ByteArray.mk #[120])]
theorem QD0: ∀ i,i<3→subOk (sSubs.getD i ByteArray.empty)=true:=by
 intro i hi
 have:i=0∨i=1∨i=2:=by omega
 rcases this with rfl | rfl | rfl
 ·show subOk (ByteArray.mk #[99,97])=true
  kernel_rfl
 ·show subOk (ByteArray.mk #[99,98])=true
  kernel_rfl
 ·show subOk (ByteArray.mk #[99,99])=true
  kernel_rfl
theorem QEi:QaT sRoot=true:=by kernel_rfl
theorem QX1 (d:Dice):kindU (dof d [3,2,4,1],(0,())) 1=true:=by
 have h1:kindU (1,(0,())) 1=true:=by kernel_rfl
 have h2:kindU (2,(0,())) 1=true:=by kernel_rfl
 have h3:kindU (3,(0,())) 1=true:=by kernel_rfl
 have h4:kindU (4,(0,())) 1=true:=by kernel_rfl
 have hm:=Qbo (d:=d) (l:=[3,2,4,1]) (by decide)
 simp only [List.mem_cons,List.not_mem_nil,or_false] at hm
 rcases hm with h | h | h | h
 ·rw [h]; exact h3
 ·rw [h]; exact h2
 ·rw [h]; exact h4
 ·rw [h]; exact h1
theorem Qwb {d:Dice}{i s:ByteArray}{k:Keep}{id:Int}{a:Bool}{q:Keep}(hi:QaT i=true)(hs:subOk s=true)(hk:kindU k 2=true)(hd:keyI id=true)(hq:keyI q.1=true)(hq2:sumI q.2.1=true):QaD (sealC (cRaw d i s k id a) q)=true:=by
 simp only [subOk,Bool.and_eq_true] at hs
 have b1:=QaP (d:=d) (n:=1000) (by omega)
 have m1:=Qbo (d:=cD2 d) (l:=[0,5,10]) (by decide)
 have m2:=Qbo (d:=cD3 d) (l:=[1000,100,50,20]) (by decide)
 have m3:=Qbo (d:=cD4 d) (l:=[3,0,1]) (by decide)
 simp only [List.mem_cons,List.not_mem_nil,or_false] at m1 m2 m3
 have hp:0≤cPath d a∧cPath d a≤8∧(a=false→cPath d a=0):=by
  unfold cPath
  cases a
  ·exact ⟨Int.le_refl 0,show (0:Int)≤8 by decide,fun _=>rfl⟩
  ·exact ⟨by show 0≤dof _ _; omega,by show dof _ _≤8; omega,fun h=>by cases h⟩
 have hn:QeL (cNm d a s)=true:=by
  unfold cNm
  cases done (cD5 d a) 3
  ·exact hs.1.2
  ·exact hs.2
 have h1:ilt (dval d 1000) 0=false:=decide_eq_false (by omega)
 have h2:igt (dval d 1000) 1099511627776=false:=decide_eq_false (by omega)
 have h3:ilt (dof (cD2 d) [0,5,10]) 0=false:=decide_eq_false (by omega)
 have h4:igt (dof (cD2 d) [0,5,10]) (dof (cD3 d) [1000,100,50,20])=false:=decide_eq_false (by omega)
 have h5:igt (dof (cD3 d) [1000,100,50,20]) 40000=false:=decide_eq_false (by omega)
 have h6:ilt (cPath d a) 0=false:=decide_eq_false (by omega)
 have h7:igt (cPath d a) 8=false:=decide_eq_false (by omega)
 have h8:(a||ieq (cPath d a) 0)=true:=by
  cases a
  ·rw [hp.2.2 rfl]; rfl
  ·rfl
 show (!ilt (dval d 1000) 0&&(!igt (dval d 1000) 1099511627776&&(QaT i&&(QaT s&&(QeL (cNm d a s)&&(kindU k 2&&(keyI id&&(kindU (dof (cD1 d) [3,2,4,1],(0,())) 1&&(keyI q.1&&(sumI q.2.1&&(!ilt (dof (cD2 d) [0,5,10]) 0&&(!igt (dof (cD2 d) [0,5,10]) (dof (cD3 d) [1000,100,50,20])&&(!igt (dof (cD3 d) [1000,100,50,20]) 40000&&(!ilt (cPath d a) 0&&(!igt (cPath d a) 8&&(a||ieq (cPath d a) 0))))))))))))))))=true
 rw [h1,h2,h3,h4,h5,h6,h7,h8,hi,hs.1.1,hn,hk,hd,QX1,hq,hq2]
 rfl
theorem Qxj {d:Dice}{i s:ByteArray}{k:Keep}{id g:Int}{a:Bool}(hi:QaT i=true)(hs:subOk s=true)(hk:kindU k 2=true)(hd:keyI id=true)(hg:keyI g=true):cerV d i s k id g a=sealC (cRaw d i s k id a) (g,(sumB (QbB (unsC (cRaw d i s k id a))).1,()))∧QaD (cerV d i s k id g a)=true:=by
 have hb:Qpb (cRaw d i s k id a) g=false:=by
  unfold Qpb unsC
  rw [Qwb hi hs hk hd rfl rfl,Bool.not_true,Bool.false_or]
  simp only [keyI,Bool.and_eq_true,Bool.not_eq_true'] at hg
  rw [hg.1,hg.2]
  rfl
 have he:cerV d i s k id g a=sealC (cRaw d i s k id a) (g,(sumB (QbB (unsC (cRaw d i s k id a))).1,())):=by
  unfold cerV signC
  rw [hb]
  rfl
 exact ⟨he,by rw [he]; exact Qwb hi hs hk hd hg (QUJ _)⟩
theorem QUT:kindU (5,(2048,())) 2=true:=by kernel_rfl
theorem Qxr: ∀ (m i:Nat) (u:Up),i+m≤3→QaT u.2.2.1=true→keyI u.2.2.2=true→u.1.all QaD=true→(abvZ m i u).1.all QaD=true∧QaT (abvZ m i u).2.2.1=true∧keyI (abvZ m i u).2.2.2=true
 | 0,_,u,_,h,h1,h2=>⟨h2,h,h1⟩
 | m+1,i,(ab,d,iss,g),hm,h,h1,h2=>by
  have hs:=QD0 i (by omega)
  have hn:QaT (sSubs.getD i ByteArray.empty)=true:=by
   simp only [subOk,Bool.and_eq_true] at hs
   exact hs.1.1
  have hk:keyI ((11+i:Nat):Int)=true:=QAh (by omega)
  refine Qxr m (i+1) _ (by omega) hn hk ?_
  rw [List.all_cons,(Qxj h hs QUT hk h1).2]
  exact h2
theorem QNr {d:Dice}{nm:ByteArray}{k:Keep}{id:Int}(hs:subOk nm=true)(hk:kindU k 2=true)(hd:keyI id=true):(chnV d nm k id).all QaD=true∧QlT k id (chnV d nm k id)=true:=by
 have b2:=QaP (d:=dofN d [1,0,2]) (n:=2) (by omega)
 have hm:=Qbo (d:=d) (l:=[1,0,2]) (by decide)
 simp only [List.mem_cons,List.not_mem_nil,or_false] at hm
 obtain ⟨h1,h2,h3⟩:=Qxr (dof d [1,0,2]).toNat 0 ([],dnext (dofN d [1,0,2]) 2,sRoot,1+dval (dofN d [1,0,2]) 2) (by omega) QEi (QAh (show 0≤1+dval (dofN d [1,0,2]) 2∧1+dval (dofN d [1,0,2]) 2≤2147483648 by omega)) rfl
 obtain ⟨e,hv⟩:=Qxj (d:=(chU d).2.1) (i:=(chU d).2.2.1) (s:=nm) (k:=k) (id:=id) (g:=(chU d).2.2.2) (a:=false) h2 hs hk hd h3
 unfold chnV
 refine ⟨by rw [List.all_cons,hv]; exact h1, ?_⟩
 unfold QlT
 rw [e]
 have: ∀ (x:Qaa) (l:List Qaa),(x::l).getD 0 zCert=x:=fun _ _=>rfl
 rw [this]
 show (_||((k == k)&&ieq id id))=true
 simp [ieq]
theorem Q0p {d:Dice}{nm:ByteArray}{k:Keep}{id:Int}(hd:dOk d=true):(chnV d nm k id).length≤4:=by
 have hu0:upOk ([],dnext (dofN d [1,0,2]) 2,sRoot,1+dval (dofN d [1,0,2]) 2)=true:=Bool.and_eq_true_iff.2 ⟨Qal (n:=2) (QaY (l:=[1,0,2]) hd),rfl⟩
 have hm:=Qbo (d:=d) (l:=[1,0,2]) (by decide)
 simp only [List.mem_cons,List.not_mem_nil,or_false] at hm
 have hl:=(Qxs (dof d [1,0,2]).toNat 0 _ hu0).2
 simp only [List.length_nil] at hl
 have hl2:(chU d).1.length≤3:=by
  unfold chU
  omega
 unfold chnV
 rw [List.length_cons]
 omega
theorem QBh {a:Int}(h:a=5∨a=6∨a=7∨a=8∨a=9)(d:Dice):kindU (a,(sizeV d a,())) 2=true:=by
 have hv:Qby (a,(sizeV d a,()))=true:=QD6 (by omega) (by omega)
 unfold kindU
 rw [hv]
 rcases h with rfl | rfl | rfl | rfl | rfl <;> rfl
theorem QQv (d:Dice):kindU (keyV d) 2=true:=by
 have hm:=Qbo (d:=d) (l:=[5,7,5,6,8,9]) (by decide)
 simp only [List.mem_cons,List.not_mem_nil,or_false] at hm
 exact QBh (a:=kAlg d) (by have:kAlg d=dof d [5,7,5,6,8,9]:=rfl; omega) _
theorem QqW (d:Dice):kindU (iKey d) 2=true:=by
 unfold iKey
 cases iB d
 ·exact QQv d
 ·have hm:=Qbo (d:=iD2 d) (l:=[5,7]) (by decide)
  simp only [List.mem_cons,List.not_mem_nil,or_false] at hm
  exact QBh (a:=iA d) (by have:iA d=dof (iD2 d) [5,7]:=rfl; omega) _
theorem QBi {k:Keep}{id:Int}{l:List Qaa}(hk:kindU k 2=true)(hd:keyI id=true)(hl:l.length≤8)(h1:l.all QaD=true)(h2:QlT k id l=true):Qis k id l=true:=by
 simp only [kindU,Bool.and_eq_true] at hk
 have h8:igt (llen l) 8=false:=decide_eq_false (by simp only [llen]; omega)
 have hi:ine (kindF k.1) 2=false:=by rw [QAj,hk.2]; rfl
 unfold Qis
 rw [hk.1,hi,hd,h8,h1,h2]
 rfl
theorem QQB {d:Dice}{nm:ByteArray}(hs:subOk nm=true)(hd:dOk d=true):idOk (idV d nm)=true:=by
 have b:=QaP (d:=iD3 d) (n:=20) (by omega)
 have hk:keyI (iId d)=true:=QAh (by unfold iId; omega)
 show Qis (iKey d) (iId d) (iCh d nm)=true
 unfold iCh
 cases !done (iD4 d) 9
 ·exact QBi (QqW d) hk (Nat.zero_le _) rfl rfl
 ·obtain ⟨h1,h2⟩:=QNr (d:=iD5 d) (k:=iKey d) (id:=iId d) hs (QqW d) hk
  exact QBi (QqW d) hk (Nat.le_trans (Q0p (Qal (n:=9) (Qal (n:=20) (QNm hd)))) (by decide)) h1 h2
theorem Qw1: ∀ (n:Nat) (nm:ByteArray) (d:Dice),subOk nm=true→dOk d=true→(idsZ n nm d).1.all idOk=true
 | 0,_,_,_,_=>rfl
 | n+1,nm,d,hn,hd=>by
  simp only [idsZ,List.all_cons,Bool.and_eq_true]
  exact ⟨QQB hn hd,Qw1 n nm _ hn (Qxe hd)⟩
theorem QOO {c:Int}(h:1≤c∧c≤16):ieq (QaH c).2 0=true:=by
 unfold QaH
 rw [if_neg (by omega)]
 rfl
theorem QUK {l:List Int}(hn:l.Nodup)(hr: ∀ x ∈ l,1≤x∧x≤16):suitF l=true:=by
 have key: ∀ (k:Nat) (hk:k<l.length),(ieq (QaH l[k]).2 0&& !hasF (l.take k) l[k])=true:=by
  intro k hk
  rw [QOO (hr _ (List.getElem_mem hk)),Bool.true_and,Bool.not_eq_true']
  unfold hasF
  rw [Bool.eq_false_iff]
  intro hc
  have hm:=List.contains_iff_mem.1 hc
  obtain ⟨j,hj,he⟩:=List.mem_iff_getElem.1 hm
  rw [List.length_take] at hj
  rw [List.getElem_take] at he
  have:=(List.nodup_iff_pairwise_ne.1 hn)
  rw [List.pairwise_iff_getElem] at this
  exact this j k (by omega) hk (by omega) he
 simp only [suitF,Qgf,List.all_eq_true,List.mem_range'_1]
 intro k hk
 have hk2:k<l.length:=by omega
 simp only [List.getD_eq_getElem?_getD,List.getElem?_eq_getElem hk2,Option.getD_some]
 exact key k hk2
def goodS (l:List Int):Prop:=l.Nodup∧ ∀ x ∈ l,1≤x∧x≤16
theorem QQC {l:List Int}{x:Int}(h:goodS l)(hx:1≤x∧x≤16)(hn:hasF l x=false):goodS (l++[x]):=by
 have hm:x ∉ l:=fun hc=>by
  unfold hasF at hn
  rw [List.contains_iff_mem.2 hc] at hn
  cases hn
 refine ⟨?_,fun y hy=> ?_⟩
 ·rw [List.nodup_append]
  refine ⟨h.1,List.nodup_cons.2 ⟨by simp,List.nodup_nil⟩,fun a ha b hb=> ?_⟩
  rw [List.mem_singleton] at hb
  rintro rfl
  exact hm (hb▸ha)
 ·rw [List.mem_append,List.mem_singleton] at hy
  rcases hy with hy | rfl
  ·exact h.2 y hy
  ·exact hx
theorem QA7: ∀ (n:Nat) (l:List Int) (d:Dice),goodS l→goodS (suZ n l d).1
 | 0,_,_,h=>h
 | n+1,l,d,h=>by
  have b:=QaP (d:=d) (n:=16) (by omega)
  unfold suZ
  refine QA7 n _ _ ?_
  cases hh:hasF l (1+dval d 16) with
  | true=>exact h
  | false=>exact QQC h (by omega) hh
theorem QL0 (l:List Int)(x:Int):(insS l x).Perm (x::l):=by
 unfold insS
 rw [List.append_assoc,List.singleton_append]
 refine List.perm_middle.trans ?_
 rw [List.take_append_drop]
theorem QD5 (l:List Int):(sortS l).Perm l:=by
 have key: ∀ (l a:List Int),(l.foldl insS a).Perm (a++l):=by
  intro l
  induction l with
  | nil=>intro a; rw [List.append_nil]; exact List.Perm.refl _
  | cons x r ih=>
   intro a
   rw [List.foldl_cons]
   refine (ih (insS a x)).trans ?_
   refine ((QL0 a x).append_right r).trans ?_
   exact List.perm_middle.symm
 unfold sortS
 have:=key l []
 rwa [List.nil_append] at this
theorem QL6 {a b:List Int}(h:a.Perm b)(hb:goodS b):goodS a:=⟨h.nodup_iff.2 hb.1,fun x hx=>hb.2 x (h.mem_iff.1 hx)⟩
theorem QOR (d:Dice):goodS (suiV d):=by
 have h:=QA7 (2+dval d 9).toNat [] (dnext d 9) ⟨List.nodup_nil,fun x hx=>by cases hx⟩
 unfold suiV
 cases done (suI d).2 4
 ·exact h
 ·exact QL6 (QD5 _) h
def anOk (l:List Int):Bool:= !igt (llen l) 16&&(ascF l&&l.all keyI)
def hsOk (l:List Int):Bool:=ascF l&&l.all hashF
theorem QFj {e:Endpoint}(hw:wordF e.1=true)(h1:1≤e.2.1)(h2:e.2.1≤e.2.2.1)(h3:e.2.2.1≤4)(hs:goodS (QaJ e))(hi:(eIds e).length≤4)(hv:(eIds e).all idOk=true)(ha:anOk (eAnch e)=true)(hh:hsOk (eHash e)=true):QaS e=true:=by
 simp only [anOk,hsOk,Bool.and_eq_true] at ha hh
 have g1:ilt e.2.1 1=false:=decide_eq_false (by omega)
 have g2:igt e.2.1 e.2.2.1=false:=decide_eq_false (by omega)
 have g3:igt e.2.2.1 4=false:=decide_eq_false (by omega)
 have g4:igt (llen (eIds e)) 4=false:=decide_eq_false (by simp only [llen]; omega)
 unfold QaS
 rw [hw,g1,g2,g3,QUK hs.1 hs.2,g4,ha.1,ha.2.1,ha.2.2,hv,hh.1,hh.2]
 rfl
theorem QLM {l:List (List Int)}{p:List Int→Bool}(h:l.all p=true)(h0:p []=true)(k:Nat):p (lgt (.sl tI) l k)=true:=by
 show p (l.getD k [])=true
 rw [List.getD_eq_getElem?_getD]
 cases hk:l[k]? with
 | none=>exact h0
 | some x=>exact List.all_eq_true.1 h x (List.mem_of_getElem? hk)
theorem an_ok (d:Dice)(nm:ByteArray):anOk (eAnch (epV d nm))=true:=QLM (p:=anOk) (by decide) (by decide) _
theorem hs_ok (d:Dice)(nm:ByteArray):hsOk (eHash (epV d nm))=true:=QLM (p:=hsOk) (by kernel_rfl) (by decide) _
theorem ver_ok (d:Dice):1≤eLst d∧eLst d≤eMst d∧eMst d≤4:=by
 have m0:=Qbo (d:=d) (l:=[1,1,2,3]) (by decide)
 have m1:=Qbo (d:=eD6 d) (l:=[3,4,2]) (by decide)
 simp only [List.mem_cons,List.not_mem_nil,or_false] at m0 m1
 have b4:=QaP (d:=eD4 d) (n:=5 - eL0 d) (by show 0<5 - dof d [1,1,2,3]; omega)
 have e0:eL0 d=dof d [1,1,2,3]:=rfl
 unfold eLst eMst
 cases eB d
 ·show 1≤eL0 d∧eL0 d≤eL0 d+dval (eD4 d) (5 - eL0 d)∧eL0 d+dval (eD4 d) (5 - eL0 d)≤4
  omega
 ·show (1:Int)≤1∧1≤dof (eD6 d) [3,4,2]∧dof (eD6 d) [3,4,2]≤4
  omega
theorem QEQ {d:Dice}{nm:ByteArray}(hs:subOk nm=true)(hd:dOk d=true):(eIdz d nm).1.all idOk=true:=by
 have k4:=Qal (n:=2) (Qal (n:=2) (Qrp (QaY (l:=[1,1,2,3]) hd)))
 have k6:=Qal (n:=3) (Qal (n:=5 - eL0 d) k4)
 have k7:dOk (eD7 d)=true:=by
  unfold eD7
  cases eB d
  ·exact k6
  ·exact QaY (l:=[3,4,2]) k6
 exact Qw1 _ _ _ hs (QaY (l:=[1,2,1,3,0]) k7)
theorem ep_all {d:Dice}{nm:ByteArray}(hs:subOk nm=true)(hn:nm.size≤1000)(hd:dOk d=true):goodS (QaJ (epV d nm))∧(eIds (epV d nm)).length≤4∧(eIds (epV d nm)).all idOk=true∧(1≤(epV d nm).2.1∧(epV d nm).2.1≤(epV d nm).2.2.1∧(epV d nm).2.2.1≤4):=
 ⟨QOR _,Nat.le_trans (QUm hn hd).2 (by decide),QEQ hs hd,ver_ok d⟩
theorem QQM {d:Dice}{nm:ByteArray}(hs:subOk nm=true)(hw:wordF nm=true)(hn:nm.size≤1000)(hd:dOk d=true):QaS (epV d nm)=true:=by
 obtain ⟨h1,h2,h3,h4,h5,h6⟩:=ep_all hs hn hd
 exact QFj (show wordF (epV d nm).1=true from hw) h4 h5 h6 h1 h2 h3 (an_ok d nm) (hs_ok d nm)
attribute [local irreducible] epV epN prZ
end
end Go.Proofs.YtckcgijklnloiaaGreat.K
namespace Go.Proofs.YtckcgijklnloiaaGreat.K
open Go.RowKit
noncomputable section
end
end Go.Proofs.YtckcgijklnloiaaGreat.K
namespace Go.Proofs.YtckcgijklnloiaaGreat.K.PE
open Go.RowKit
noncomputable section
noncomputable def QuG:List DO:=dT Tryz.f36 2
def Qcu:Fg:=⟨[(0,none),(1,some .str),(4,none),(5,none),(6,some tI)],[(4,some Qad),(5,none),(15,none),(78,none),(5015,none),(10015,none),(15015,none),(20505,none),(50000,some Qaq)]⟩
noncomputable def Qdl:TC:=(.sq (.sq (.reg (rT Tryz.f36 6)) (.cd (.t 42) .sk (.fg ⟨[(0,none),(4,none),(5,none)],[(4,some Qad),(5,some Qad),(15,none),(78,none),(5015,none),(10015,none),(15015,none),(20505,none),(50000,some Qaq)]⟩ (.ex 0)))) (.sq (.bk 1 (.sq (.reg (rT Tryz.f36 7)) (.sq (.sq (.reg (rT Tryz.f36 8)) (.cd (.t 49) (.sq (.reg (rT Tryz.f36 9)) (.reg (rT Tryz.f36 10))) .sk)) (.sq (.reg (rT Tryz.f36 11)) (.sq (.reg (rT Tryz.f36 12)) (.sq (.sq (.reg (rT Tryz.f36 13)) (.cd (.t 67) (.reg (rT Tryz.f36 14)) .sk)) (.reg (rT Tryz.f36 15)))))))) (.reg (rT Tryz.f36 16))))
noncomputable def Qi5:TC:=(.sq (.reg (rT Tryz.f36 0)) (.sq (.reg (rT Tryz.f36 1)) (.sq (.dr QuG [(0,[5,15,78,5015,10015,15015,20505]),(1,[5,15,78,5015,10015,15015,20505]),(2,[50000]),(3,[5,15,78,5015,10015,15015,20505]),(4,[5,15,78,5015,10015,15015,20505]),(5,[15,78,5015,10015,15015,20505]),(6,[27,5027,10027,15027,50000]),(7,[15,78,5015,10015,15015,20505]),(8,[5,15,78,5015,10015,15015,20505]),(9,[4,5,15,78,5015,10015,15015,20505])] (.of [0,1,2,3,4,5,6,7,8,9])) (.sq (.sq (.reg (rT Tryz.f36 3)) (.cd (.t 32) (.reg (rT Tryz.f36 4)) .sk)) (.sq (.sq (.reg (rT Tryz.f36 5)) (.bk 0 (.nf 5 5 99 20505 (.lp 0 Qcu Qdl)))) (.sq (.reg (rT Tryz.f36 17)) (.sq (.reg (rT Tryz.f36 18)) (.sq (.reg (rT Tryz.f36 19)) .rt))))))))
def QpY:List (RV×Option Ty):=[((.c 4 true 9),some Qad)]
abbrev QfJ:Sh:=⟨[(0, .ptr 50000 0),(1, .ty .str),(4, .ptr 4 0),(5, .ptr 5 0),(6, .ty tI)],[(4, .box Qad),(5, .bag [.ty .str, .ty tI, .ty tI, .ms 15, .ty .bool, .ms 20505, .nl, .nl, .ty .bool]),(15, .arr 3 tI),(78, .no),(5015, .no),(10015, .no),(15015, .no),(20505, .arr 99 Qaw),(50000, .box Qaq)]⟩
def QbJ (x1:ByteArray)(x6:Int)(y4:Endpoint)(y5_0:ByteArray)(y5_1 y5_2:Int)(y5_4 y5_8:Bool)(y15:List Int)(y20505:List Qao)(y50000:Dice):VS:=QfJ.st ((),x1,(),(),x6,()) (y4,(y5_0,y5_1,y5_2,(),y5_4,(),(),(),y5_8,()),y15,(),(),(),(),y20505,y50000,())
abbrev QiP:Sh:=⟨[(0, .ptr 50000 0),(4, .ptr 4 0),(5, .ptr 5 0)],[(4, .box Qad),(5, .bag [.ty .str, .ty tI, .ty tI, .ms 15, .ty .bool, .ms 20505, .nl, .nl, .ty .bool]),(15, .arr 3 tI),(78, .no),(5015, .no),(10015, .no),(15015, .no),(20505, .arr 99 Qaw),(50000, .box Qaq)]⟩
def Qbt (y4:Endpoint)(y5_0:ByteArray)(y5_1 y5_2:Int)(y5_4 y5_8:Bool)(y15:List Int)(y20505:List Qao)(y50000:Dice):VS:=QiP.st ((),(),(),()) (y4,(y5_0,y5_1,y5_2,(),y5_4,(),(),(),y5_8,()),y15,(),(),(),(),y20505,y50000,())
def QAY:VS→Option (Bool×List (Bool×Exit×VS)):=mkL QfJ (fun x y=>(decide (0≤x.2.2.2.2.1∧(y.2.2.2.2.2.2.2.1.length:Int)+x.2.2.2.2.1≤10∧x.2.1.size≤1000)&&dOk y.2.2.2.2.2.2.2.2.1)) (fun x y=>[(true, .exit 0,Qbt (y.1) (y.2.1.1) (y.2.1.2.1) (y.2.1.2.2.1) (y.2.1.2.2.2.2.1) (y.2.1.2.2.2.2.2.2.2.2.1) (y.2.2.1) (y.2.2.2.2.2.2.2.1++(idsZ x.2.2.2.2.1.toNat x.2.1 y.2.2.2.2.2.2.2.2.1).1) ((idsZ x.2.2.2.2.1.toNat x.2.1 y.2.2.2.2.2.2.2.2.1).2))])
def g_f36:G:=⟨TYs,[],100,EL [(35,QgA),(45,Ql4),(46,Qvf),(72,QGi),(73,QGh),(74,QBb),(75,QGg)],keeps,(Ls [QAY]),IL [],RL []⟩
def Qrx (x1:ByteArray)(x6:Int)(y4:Endpoint)(y5_0:ByteArray)(y5_1 y5_2:Int)(y5_4 y5_8:Bool)(y15:List Int)(y20505:List Qao)(y50000:Dice):Option (Exit×VS):=
 let a1:=dnext (keyN y50000) 3
 let a2:=(sizeN (dofN a1 ([5,7])) (dof a1 ([5,7])))
 let a3:=((dof a1 ([5,7])),((sizeV (dofN a1 ([5,7])) (dof a1 ([5,7]))),()))
 let a4:=iadd .i64 100 (dval a2 20)
 let a5:=iadd .i64 100 (dval a1 20)
 let a6:=((keyV y50000).1,(((keyV y50000).2).1,()))
 let a7:=dnext (dnext a2 20) 9
 let a8:=dnext (dnext a1 20) 9
 let a9:=isub .i64 x6 1
 let a10:=((chnV a8 x1 (keyV y50000) a5),())
 let a11:=((chnV a7 x1 a3 a4),())
 br (igt x6 0) (br (dOk y50000) (br (Qav (keyN y50000) 3) (br (igt (dval (keyN y50000) 3) 0) (br (ofOk a1 ([5,7])) (br (dOk1 (dofN a1 ([5,7])) (dof a1 ([5,7]))) (br (Qav a2 20) (br (oneOk (dnext a2 20) 9) (br (!(done (dnext a2 20) 9)) (br (chnOk a7 x1 a3 a4) (br (cApp y20505 ([(a3,(a4,a11))]) 48) (some (.normal,QbJ x1 a9 y4 y5_0 y5_1 y5_2 y5_4 y5_8 y15 (y20505++([(a3,(a4,a11))])) (chnN a7 x1 a3 a4))) none) none) (br (cApp y20505 ([(a3,(a4,(([]:List Qaa),())))]) 48) (some (.normal,QbJ x1 a9 y4 y5_0 y5_1 y5_2 y5_4 y5_8 y15 (y20505++([(a3,(a4,(([]:List Qaa),())))])) a7)) none)) none) none) none) none) (br (Qav a1 20) (br (oneOk (dnext a1 20) 9) (br (!(done (dnext a1 20) 9)) (br (chnOk a8 x1 (keyV y50000) a5) (br (cApp y20505 ([(a6,(a5,a10))]) 48) (some (.normal,QbJ x1 a9 y4 y5_0 y5_1 y5_2 y5_4 y5_8 y15 (y20505++([(a6,(a5,a10))])) (chnN a8 x1 (keyV y50000) a5))) none) none) (br (cApp y20505 ([(a6,(a5,(([]:List Qaa),())))]) 48) (some (.normal,QbJ x1 a9 y4 y5_0 y5_1 y5_2 y5_4 y5_8 y15 (y20505++([(a6,(a5,(([]:List Qaa),())))])) a8)) none)) none) none)) none) none) (some (.exit 0,Qbt y4 y5_0 y5_1 y5_2 y5_4 y5_8 y15 y20505 y50000))
noncomputable def Qbe (x1:ByteArray)(x6:Int)(y4:Endpoint)(y5_0:ByteArray)(y5_1 y5_2:Int)(y5_4 y5_8:Bool)(y15:List Int)(y20505:List Qao)(y50000:Dice):Option (Exit×VS):=loopF (Qai g_f36 Qcu Qdl) (QbJ x1 x6 y4 y5_0 y5_1 y5_2 y5_4 y5_8 y15 y20505 y50000)
noncomputable def QfR (x1:ByteArray)(x6:Int)(y4:Endpoint)(y5_0:ByteArray)(y5_1 y5_2:Int)(y5_4 y5_8:Bool)(y15:List Int)(y20505:List Qao)(y50000:Dice):Option (Exit×VS):=
 let a1:=dnext (keyN y50000) 3
 let a2:=(sizeN (dofN a1 ([5,7])) (dof a1 ([5,7])))
 let a3:=((dof a1 ([5,7])),((sizeV (dofN a1 ([5,7])) (dof a1 ([5,7]))),()))
 let a4:=iadd .i64 100 (dval a2 20)
 let a5:=iadd .i64 100 (dval a1 20)
 let a6:=((keyV y50000).1,(((keyV y50000).2).1,()))
 let a7:=dnext (dnext a2 20) 9
 let a8:=dnext (dnext a1 20) 9
 let a9:=isub .i64 x6 1
 let a10:=((chnV a8 x1 (keyV y50000) a5),())
 let a11:=((chnV a7 x1 a3 a4),())
 br (igt x6 0) (br (dOk y50000) (br (Qav (keyN y50000) 3) (br (igt (dval (keyN y50000) 3) 0) (br (ofOk a1 ([5,7])) (br (dOk1 (dofN a1 ([5,7])) (dof a1 ([5,7]))) (br (Qav a2 20) (br (oneOk (dnext a2 20) 9) (br (!(done (dnext a2 20) 9)) (br (chnOk a7 x1 a3 a4) (br (cApp y20505 ([(a3,(a4,a11))]) 48) (Qbe x1 a9 y4 y5_0 y5_1 y5_2 y5_4 y5_8 y15 (y20505++([(a3,(a4,a11))])) (chnN a7 x1 a3 a4)) none) none) (br (cApp y20505 ([(a3,(a4,(([]:List Qaa),())))]) 48) (Qbe x1 a9 y4 y5_0 y5_1 y5_2 y5_4 y5_8 y15 (y20505++([(a3,(a4,(([]:List Qaa),())))])) a7) none)) none) none) none) none) (br (Qav a1 20) (br (oneOk (dnext a1 20) 9) (br (!(done (dnext a1 20) 9)) (br (chnOk a8 x1 (keyV y50000) a5) (br (cApp y20505 ([(a6,(a5,a10))]) 48) (Qbe x1 a9 y4 y5_0 y5_1 y5_2 y5_4 y5_8 y15 (y20505++([(a6,(a5,a10))])) (chnN a8 x1 (keyV y50000) a5)) none) none) (br (cApp y20505 ([(a6,(a5,(([]:List Qaa),())))]) 48) (Qbe x1 a9 y4 y5_0 y5_1 y5_2 y5_4 y5_8 y15 (y20505++([(a6,(a5,(([]:List Qaa),())))])) a8) none)) none) none)) none) none) (some (.exit 0,Qbt y4 y5_0 y5_1 y5_2 y5_4 y5_8 y15 y20505 y50000))
def Qbv (x1:ByteArray)(x6:Int)(y4:Endpoint)(y5_0:ByteArray)(y5_1 y5_2:Int)(y5_4 y5_8:Bool)(y15:List Int)(y20505:List Qao)(y50000:Dice):Option (Exit×VS):=
 let a1:=idsZ x6.toNat x1 y50000
 some (.exit 0,Qbt (y4) (y5_0) (y5_1) (y5_2) (y5_4) (y5_8) (y15) (y20505++a1.1) (a1.2))
theorem QuP (x1:ByteArray)(x6:Int)(y4:Endpoint)(y5_0:ByteArray)(y5_1 y5_2:Int)(y5_4 y5_8:Bool)(y15:List Int)(y20505:List Qao)(y50000:Dice):Qai g_f36 Qcu Qdl (QbJ x1 x6 y4 y5_0 y5_1 y5_2 y5_4 y5_8 y15 y20505 y50000)=Qrx x1 x6 y4 y5_0 y5_1 y5_2 y5_4 y5_8 y15 y20505 y50000:=by kernel_rfl
theorem Qkq (x1:ByteArray)(x6:Int)(y4:Endpoint)(y5_0:ByteArray)(y5_1 y5_2:Int)(y5_4 y5_8:Bool)(y15:List Int)(y20505:List Qao)(y50000:Dice):Qbe x1 x6 y4 y5_0 y5_1 y5_2 y5_4 y5_8 y15 y20505 y50000=QfR x1 x6 y4 y5_0 y5_1 y5_2 y5_4 y5_8 y15 y20505 y50000:=(Qan _ _).trans (by
 rw [QuP]
 simp only [Qrx,QfR,QaA,nxt_n,nxt_r,nxt_e,nxt_0]
 rfl)
def r_f36 (d0:Dice)(p1:ByteArray):Option (V×List VO):=
 let a4:=(dofN d0 ([1,1,2,3]))
 let a6:=dnext (suiN a4) 2
 let a13:=(dof d0 ([1,1,2,3]))
 let a5:=isub .i64 5 a13
 let a12:=dnext (dnext a6 2) a5
 let a1:=dnext a12 3
 let a7:=(dofN a1 ([3,4,2]))
 let a10:=(dof a7 ([1,2,1,3,0]))
 let a2:=(idsZ a10.toNat p1 (dofN a7 ([1,2,1,3,0])))
 let a11:=(dof a1 ([1,2,1,3,0]))
 let a3:=(idsZ a11.toNat p1 (dofN a1 ([1,2,1,3,0])))
 let a8:=dnext (a2.2) 5
 let a9:=dnext (a3.2) 5
 br (ofOk d0 ([1,1,2,3])) (br (dOk a4) (br (oneOk (suiN a4) 2) (br (oneOk a6 2) (br (Qav (dnext a6 2) a5) (br (Qav a12 3) (br (igt (dval a12 3) 0) (br (ofOk a1 ([3,4,2])) (br (ofOk a7 ([1,2,1,3,0])) (br (decide (0≤a10∧(([]:List Qao).length:Int)+a10≤10∧p1.size≤1000)&&dOk (dofN a7 ([1,2,1,3,0]))) (br (Qav (a2.2) 5) (br (cIx ([[1,2],[1,2],[1],[2,11],([]:List Int)]) (dval (a2.2) 5)) (br (Qav a8 3) (br (cIx ([[1,2,3,4],[2,3,4],[3,4]]) (dval a8 3)) (some (.t Qad ((p1),((1:Int),((dof a1 ([3,4,2])),((suiV a4),((done (suiN a4) 2),((([]:List Qao)++a2.1),((lgt (.sl tI) ([[1,2],[1,2],[1],[2,11],([]:List Int)]) (Int.toNat (dval (a2.2) 5))),((lgt (.sl tI) ([[1,2,3,4],[2,3,4],[3,4]]) (Int.toNat (dval a8 3))),((done a6 2),()))))))))),[.box (.t Qaq (dnext a8 3))])) none) none) none) none) none) none) none) (br (ofOk a1 ([1,2,1,3,0])) (br (decide (0≤a11∧(([]:List Qao).length:Int)+a11≤10∧p1.size≤1000)&&dOk (dofN a1 ([1,2,1,3,0]))) (br (Qav (a3.2) 5) (br (cIx ([[1,2],[1,2],[1],[2,11],([]:List Int)]) (dval (a3.2) 5)) (br (Qav a9 3) (br (cIx ([[1,2,3,4],[2,3,4],[3,4]]) (dval a9 3)) (some (.t Qad ((p1),(a13,((iadd .i64 a13 (dval (dnext a6 2) a5)),((suiV a4),((done (suiN a4) 2),((([]:List Qao)++a3.1),((lgt (.sl tI) ([[1,2],[1,2],[1],[2,11],([]:List Int)]) (Int.toNat (dval (a3.2) 5))),((lgt (.sl tI) ([[1,2,3,4],[2,3,4],[3,4]]) (Int.toNat (dval a9 3))),((done a6 2),()))))))))),[.box (.t Qaq (dnext a9 3))])) none) none) none) none) none) none)) none) none) none) none) none) none
theorem e_f36 (d0:Dice)(p1:ByteArray):runF g_f36 Qi5 QpY false [.ptr 50000 0, .t .str p1] [.box (.t Qaq d0)]=r_f36 d0 p1:=by kernel_rfl
theorem ok_f36:Option.map (trC Tryz.prog) Tryz.f36.body=some Qi5.er:=by kernel_rfl
theorem QUW:trVs Tryz.prog Tryz.f36.results.toList=some (QpY.map Prod.fst):=by kernel_rfl
theorem QUw:Qag Tryz.prog 36:= .inr ⟨by decide,_,Tryz.func36,by kernel_rfl,by kernel_rfl⟩
theorem QMf:GOk Tryz.prog g_f36:=Qak _ (gA (gC Qiy Qiu (gC Qrh Qqr (gC QC4 QBB (gC QUs QT9 (gC QUr QT8 (gC QMx QKB (gC QUq QT7 gN))))))))
theorem QAc (x1:ByteArray)(x6:Int)(y4:Endpoint)(y5_0:ByteArray)(y5_1 y5_2:Int)(y5_4 y5_8:Bool)(y15:List Int)(y20505:List Qao)(y50000:Dice)(h:(decide (0≤x6∧(y20505.length:Int)+x6≤10∧x1.size≤1000)&&dOk y50000)=true):Qbe x1 x6 y4 y5_0 y5_1 y5_2 y5_4 y5_8 y15 y20505 y50000=Qbv x1 x6 y4 y5_0 y5_1 y5_2 y5_4 y5_8 y15 y20505 y50000:=by
 obtain ⟨h,hd⟩:=Bool.and_eq_true_iff.1 h
 obtain ⟨h0,h1,h2⟩:=of_decide_eq_true h
 clear h
 obtain ⟨n,rfl⟩:=Int.eq_ofNat_of_zero_le h0
 have key: ∀ (n:Nat) (y20505:List Qao) (y50000:Dice),y20505.length+n≤10→dOk y50000=true→Qbe x1 (n:Int) y4 y5_0 y5_1 y5_2 y5_4 y5_8 y15 y20505 y50000=Qbv x1 (n:Int) y4 y5_0 y5_1 y5_2 y5_4 y5_8 y15 y20505 y50000:=by
  intro n
  induction n with
  | zero=>
   intro y20505 y50000 _ _
   rw [Qkq]
   simp only [QfR,Qbv,show igt ((0:Nat):Int) 0=false from rfl,Qae,Int.toNat_natCast,idsZ,List.append_nil]
  | succ n ih=>
   intro y20505 y50000 hl hd
   rw [Qkq]
   have e2:isub .i64 ((n+1:Nat):Int) 1=(n:Int):=(Qbg (by omega)).trans (by omega)
   have k1:=QuK hd
   have k2:=Qal (n:=3) k1
   have k3:=QaY (l:=[5,7]) k2
   have k4: ∀ a,dOk (sizeN (dofN (dnext (keyN y50000) 3) [5,7]) a)=true:=fun a=>Qoj k3
   have c1:Qav (keyN y50000) 3=true:=QaQ k1 (by omega)
   have c2:ofOk (dnext (keyN y50000) 3) [5,7]=true:=Qcs k2 (by decide) (by decide)
   have c3: ∀ a,dOk1 (dofN (dnext (keyN y50000) 3) [5,7]) a=true:=fun a=>k3
   have c4: ∀ a,Qav (sizeN (dofN (dnext (keyN y50000) 3) [5,7]) a) 20=true:=fun a=>QaQ (k4 a) (by omega)
   have c5: ∀ a,oneOk (dnext (sizeN (dofN (dnext (keyN y50000) 3) [5,7]) a) 20) 9=true:=fun a=>Qcr (Qal (k4 a)) (by omega) (by omega)
   have c6:Qav (dnext (keyN y50000) 3) 20=true:=QaQ k2 (by omega)
   have c7:oneOk (dnext (dnext (keyN y50000) 3) 20) 9=true:=Qcr (Qal k2) (by omega) (by omega)
   have c8: ∀ a k i,chnOk (dnext (dnext (sizeN (dofN (dnext (keyN y50000) 3) [5,7]) a) 20) 9) x1 k i=true:=fun a k i=>Bool.and_eq_true_iff.2 ⟨Qal (Qal (k4 a)),decide_eq_true h2⟩
   have c9: ∀ k i,chnOk (dnext (dnext (dnext (keyN y50000) 3) 20) 9) x1 k i=true:=fun k i=>Bool.and_eq_true_iff.2 ⟨Qal (Qal k2),decide_eq_true h2⟩
   have ca: ∀ v,cApp y20505 [v] 48=true:=fun v=>cAppN (by omega) (by simp only [List.length_singleton]; omega)
   have cb: ∀ d:Dice,iadd .i64 100 (dval d 20)=100+dval d 20:=fun d=>by
    have b:=QaP (d:=d) (n:=20) (by omega)
    exact QaV (by omega)
   simp only [QfR,show igt ((n+1:Nat):Int) 0=true from decide_eq_true (by omega),Qab,hd,e2,c1,c2,c3,c4,c5,c6,c7,c8,c9,ca,cb]
   have hi: ∀ v d,dOk d=true→Qbe x1 (n:Int) y4 y5_0 y5_1 y5_2 y5_4 y5_8 y15 (y20505++[v]) d=Qbv x1 (n:Int) y4 y5_0 y5_1 y5_2 y5_4 y5_8 y15 (y20505++[v]) d:=fun v d hd=>ih _ _ (by simp only [List.length_append,List.length_singleton]; omega) hd
   have hz:=hi (idV y50000 x1) (iD6 y50000 x1) (Qxe hd)
   have goal2:Qbv x1 (n:Int) y4 y5_0 y5_1 y5_2 y5_4 y5_8 y15 (y20505++[idV y50000 x1]) (iD6 y50000 x1)=Qbv x1 ((n+1:Nat):Int) y4 y5_0 y5_1 y5_2 y5_4 y5_8 y15 y20505 y50000:=by
    simp only [Qbv,Int.toNat_natCast,idsZ,List.append_assoc,List.singleton_append]
   refine Eq.trans ?_ (hz.trans goal2)
   simp only [idV,iD6,iCh,iId,iKey,iD3,iB,iD2,iA,iD4,iD5]
   cases igt (dval (keyN y50000) 3) 0 with
   | true=>
    simp only [Qab,cond_true]
    cases done (dnext (sizeN (dofN (dnext (keyN y50000) 3) [5,7]) (dof (dnext (keyN y50000) 3) [5,7])) 20) 9 <;> rfl
   | false=>
    simp only [Qae,cond_false]
    cases done (dnext (dnext (keyN y50000) 3) 20) 9 <;> rfl
 exact key n _ _ (by omega) hd
theorem Qul: ∀ S l p,g_f36.L 0 (fgt Qcu S)=some (true,l)→pickA l=some p→loopF (Qai g_f36 Qcu Qdl) S=some p:=
 QaB (s:=QfJ) ⟨by decide,by decide⟩ (by kernel_rfl) fun x y hok p hp=>by
 simp only [Qap,Qam] at hp
 exact (QAc x.2.1 x.2.2.2.2.1 y.1 y.2.1.1 y.2.1.2.1 y.2.1.2.2.1 y.2.1.2.2.2.2.1 y.2.1.2.2.2.2.2.2.2.2.1 y.2.2.1 y.2.2.2.2.2.2.2.1 y.2.2.2.2.2.2.2.2.1 (by simpa using hok)).trans hp
theorem QLK:Qi5.lok g_f36:=by
 repeat (first | exact trivial | exact Qul | refine ⟨?_, ?_⟩)
theorem s_f36 (d:Dice)(nm:ByteArray)(h:epOk d nm=true):r_f36 d nm=some (.t Qad (epV d nm),[.box (.t Qaq (epN d nm))]):=by
 unfold epV
 simp only [epOk,Bool.and_eq_true,decide_eq_true_eq] at h
 obtain ⟨h,hn⟩:=h
 have m0:=Qbo (d:=d) (l:=[1,1,2,3]) (by decide)
 simp only [List.mem_cons,List.not_mem_nil,or_false] at m0
 have k1:=QaY (l:=[1,1,2,3]) h
 have k2:=Qrp k1
 have k3:=Qal (n:=2) k2
 have k4:=Qal (n:=2) k3
 have e0:isub .i64 5 (dof d [1,1,2,3])=5 - eL0 d:=Qbg (by omega)
 have b4:=QaP (d:=eD4 d) (n:=5 - eL0 d) (by show 0<5 - dof d [1,1,2,3]; omega)
 have e1:iadd .i64 (dof d [1,1,2,3]) (dval (eD4 d) (5 - eL0 d))=eL0 d+dval (eD4 d) (5 - eL0 d):=QaV (by show _∧_; have:eL0 d=dof d [1,1,2,3]:=rfl; omega)
 have k5:=Qal (n:=5 - eL0 d) k4
 have k6:=Qal (n:=3) k5
 have k6':=QaY (l:=[3,4,2]) k6
 have k7:dOk (eD7 d)=true:=by
  unfold eD7
  cases eB d
  ·exact k6
  ·exact k6'
 have k8:=QaY (l:=[1,2,1,3,0]) k7
 have m7:=Qbo (d:=eD7 d) (l:=[1,2,1,3,0]) (by decide)
 simp only [List.mem_cons,List.not_mem_nil,or_false] at m7
 obtain ⟨k9,_⟩:=Qw2 (dof (eD7 d) [1,2,1,3,0]).toNat nm (eD8 d) k8
 have k10:=Qal (n:=5) k9
 have c1:ofOk d [1,1,2,3]=true:=Qcs h (by decide) (by decide)
 have c3:oneOk (suiN (dofN d [1,1,2,3])) 2=true:=Qcr k2 (by omega) (by omega)
 have c4:oneOk (dnext (suiN (dofN d [1,1,2,3])) 2) 2=true:=Qcr k3 (by omega) (by omega)
 have c5:Qav (eD4 d) (5 - eL0 d)=true:=QaQ k4 (by show 5 - dof d [1,1,2,3]≤_; omega)
 have c6:Qav (eD5 d) 3=true:=QaQ k5 (by omega)
 have c7:ofOk (eD6 d) [3,4,2]=true:=Qcs k6 (by decide) (by decide)
 have c8:ofOk (eD7 d) [1,2,1,3,0]=true:=Qcs k7 (by decide) (by decide)
 have k8':dOk (dofN (eD7 d) [1,2,1,3,0])=true:=k8
 have e5:idsZ (dof (eD7 d) [1,2,1,3,0]).toNat nm (dofN (eD7 d) [1,2,1,3,0])=eIdz d nm:=rfl
 have c9:(decide ((0:Int)≤dof (eD7 d) [1,2,1,3,0]∧(([]:List Qao).length:Int)+dof (eD7 d) [1,2,1,3,0]≤10∧nm.size≤1000)&&true)=true:=by
  rw [Bool.and_true]
  exact decide_eq_true ⟨by omega,by simp only [List.length_nil]; omega,hn⟩
 have c10:Qav (eIdz d nm).2 5=true:=QaQ k9 (by omega)
 have b10:=QaP (d:=(eIdz d nm).2) (n:=5) (by omega)
 have c11:cIx [[1,2],[1,2],[1],[2,11],([]:List Int)] (dval (eIdz d nm).2 5)=true:=decide_eq_true (by simp only [List.length_cons,List.length_nil]; omega)
 have c12:Qav (dnext (eIdz d nm).2 5) 3=true:=QaQ k10 (by omega)
 have b12:=QaP (d:=dnext (eIdz d nm).2 5) (n:=3) (by omega)
 have c13:cIx [[1,2,3,4],[2,3,4],([3,4]:List Int)] (dval (dnext (eIdz d nm).2 5) 3)=true:=decide_eq_true (by simp only [List.length_cons,List.length_nil]; omega)
 simp only [r_f36,c1,k1,c3,c4,e0,c5,c6,e1,c7,Qab]
 cases hb:eB d with
 | true=>
  have e7:dofN (eD6 d) [3,4,2]=eD7 d:=by unfold eD7; rw [hb]; rfl
  have e8:eLst d=1:=by unfold eLst; rw [hb]; rfl
  have e9:eMst d=dof (eD6 d) [3,4,2]:=by unfold eMst; rw [hb]; rfl
  refine Eq.trans (congrArg (fun b=>br b _ _) hb) ?_
  simp only [Qab,e7,c8,k8',e5,Qab,c10,c11,c12,c13]
  refine Eq.trans (congrArg (fun b=>br b _ _) c9) ?_
  rw [Qab,e8,e9]
  refine Eq.trans (congrArg (fun b=>br b _ _) c13) ?_
  rfl
 | false=>
  have e7:eD6 d=eD7 d:=by unfold eD7; rw [hb]; rfl
  have e8:eLst d=eL0 d:=by unfold eLst; rw [hb]; rfl
  have e9:eMst d=eL0 d+dval (eD4 d) (5 - eL0 d):=by unfold eMst; rw [hb]; rfl
  refine Eq.trans (congrArg (fun b=>br b _ _) hb) ?_
  simp only [Qae,e7,c8,k8',e5,Qab,c10,c11,c12,c13]
  refine Eq.trans (congrArg (fun b=>br b _ _) c9) ?_
  rw [Qab,e8,e9]
  refine Eq.trans (congrArg (fun b=>br b _ _) c13) ?_
  rfl
def QBe:Ent:=specP Qaq (.pr .str .nil) (fun d x=>(epOk d x.1)) (fun d x=>(.t Qad (epV d x.1))) (fun d x=>(epN d x.1))
theorem QUd:Meets Tryz.prog 36 (strip QBe):=Qa7 (R:=runF g_f36 Qi5 QpY false) (mG Tryz.func36 (by kernel_rfl) Tryz.ntmps36 (by kernel_rfl) QMf QLK) rfl fun d x hok=>(e_f36 d x.1).trans (s_f36 d x.1 hok)
end
end Go.Proofs.YtckcgijklnloiaaGreat.K.PE
namespace Go.Proofs.YtckcgijklnloiaaGreat.K
open Go.RowKit
noncomputable section
abbrev sIt:List ByteArray:=[(ByteArray.mk #[98,97,99,107,117,112]),(ByteArray.mk #[100,101,101,100])]
def nm1 (s:ByteArray):Bool:=decide (s.size≤1000)
def edZ:Nat→Int→Int→List Keep→Dice→List Keep×Dice
 | 0,_,_,l,d=>(l,d)
 | m+1,i,k,l,d=>bif ine i k then (bif igt (dval d 3) 0&&ilt (llen l) 3 then edZ m i (k+1) (l++[(i,(k,()))]) (dnext d 3) else edZ m i (k+1) l (dnext d 3)) else edZ m i (k+1) l d
def itZ:Nat→Dice→List Item×Dice
 | 0,d=>([],d)
 | n+1,d=>(itemV (dwdGN d sIt) (dwdG d sIt)::(itZ n (itemN (dwdGN d sIt) (dwdG d sIt))).1,(itZ n (itemN (dwdGN d sIt) (dwdG d sIt))).2)
theorem QC9 {d:Dice}(h:dOk d=true):dOk (dwdGN d sIt)=true:=Qal (n:=2) h
-- loop 0: (x4 : (List ByteArray)) (x16 : (List ByteArray)) (x17 : Int) (x18 : Int) (y2 : Estate) (y20300 : (List Endpoint)) (y20301 : (List Keep)) (y20302 : (List Item)) (y50000 : Dice); out: ('exit', 0) (x4 : (List ByteArray)) (y2 : Estate) (y20300 : (List Endpoint)) (y20301 : (List Keep)) (y20302 : (List Item)) (y50000 : Dice)
-- loop 1: (x4 : (List ByteArray)) (x8 : Int) (x65 : Int) (x66 : Int) (x70 : Int) (x71 : Int) (y2 : Estate) (y20300 : (List Endpoint)) (y20301 : (List Keep)) (y20302 : (List Item)) (y50000 : Dice); out: ('exit', 4) (x4 : (List ByteArray)) (x65 : Int) (x66 : Int) (y2 : Estate) (y20300 : (List Endpoint)) (y20301 : (List Keep)) (y20302 : (List Item)) (y50000 : Dice)
-- loop 2: (x4 : (List ByteArray)) (x65 : Int) (x66 : Int) (y2 : Estate) (y20300 : (List Endpoint)) (y20301 : (List Keep)) (y20302 : (List Item)) (y50000 : Dice); out: ('exit', 2) (y2 : Estate) (y20300 : (List Endpoint)) (y20301 : (List Keep)) (y20302 : (List Item)) (y50000 : Dice)
-- loop 3: (x10 : Int) (y2 : Estate) (y3_1 : (List Keep)) (y20300 : (List Endpoint)) (y20302 : (List Item)) (y50000 : Dice); out: ('exit', 6) (y2 : Estate) (y3_1 : (List Keep)) (y20300 : (List Endpoint)) (y20302 : (List Item)) (y50000 : Dice)
end
end Go.Proofs.YtckcgijklnloiaaGreat.K
namespace Go.Proofs.YtckcgijklnloiaaGreat.K.PE
open Go.RowKit
noncomputable section
abbrev mAll:List ByteArray:=[(ByteArray.mk #[97,112,112]),(ByteArray.mk #[100,98]),(ByteArray.mk #[109,97,105,108]),(ByteArray.mk #[119,101,98])]
def mkZ:List ByteArray→Dice→List Endpoint×Dice
 | [],d=>([],d)
 | s::r,d=>(epV d s::(mkZ r (epN d s)).1,(mkZ r (epN d s)).2)
def edM:Nat→Int→Int→List Keep→Dice→List Keep×Dice
 | 0,_,_,l,d=>(l,d)
 | m+1,i,k,l,d=>bif ine i k then (bif ieq (dval d 3) 0 then edM m i (k+1) (l++[(i,(k,()))]) (dnext d 3) else edM m i (k+1) l (dnext d 3)) else edM m i (k+1) l d
def edN:Nat→Nat→Int→List Keep→Dice→List Keep×Dice
 | 0,_,_,l,d=>(l,d)
 | m+1,n,i,l,d=>edN m n (i+1) (edM n i 0 l d).1 (edM n i 0 l d).2
def mkNm (d:Dice):List ByteArray:=lsl mAll 0 (iadd .i64 2 (dval d 3))
def mkEd (d:Dice):List Keep×Dice:=edN (mkNm d).length (mkNm d).length 0 [] (mkZ (mkNm d) (dnext d 3)).2
def mkIt (d:Dice):List Item×Dice:=itZ (dval (mkEd d).2 3).toNat (dnext (mkEd d).2 3)
def mkX (d:Dice):Estate:=((mkZ (mkNm d) (dnext d 3)).1,((mkEd d).1,((mkIt d).1,())))
def mkXN (d:Dice):Dice:=(mkIt d).2
theorem QKR: ∀ (l:List ByteArray) (d:Dice),dOk d=true→dOk (mkZ l d).2=true
 | [],_,h=>h
 | s::r,d,h=>QKR r (epN d s) (QNn h)
theorem Qsn: ∀ (m:Nat) (i k:Int) (l:List Keep) (d:Dice),dOk d=true→dOk (edM m i k l d).2=true∧(edM m i k l d).1.length≤l.length+m
 | 0,_,_,_,_,h=>⟨h,Nat.le_refl _⟩
 | m+1,i,k,l,d,h=>by
  unfold edM
  cases ine i k with
  | false=>
   have:=Qsn m i (k+1) l d h
   exact ⟨this.1,by have:=this.2; simp only [cond_false]; omega⟩
  | true=>
   cases ieq (dval d 3) 0 with
   | false=>
    have:=Qsn m i (k+1) l (dnext d 3) (Qal h)
    exact ⟨this.1,by have:=this.2; simp only [cond_true,cond_false]; omega⟩
   | true=>
    have:=Qsn m i (k+1) (l++[(i,(k,()))]) (dnext d 3) (Qal h)
    simp only [List.length_append,List.length_singleton] at this
    exact ⟨this.1,by have:=this.2; simp only [cond_true]; omega⟩
theorem QUB: ∀ (m n:Nat) (i:Int) (l:List Keep) (d:Dice),dOk d=true→dOk (edN m n i l d).2=true
 | 0,_,_,_,_,h=>h
 | m+1,n,i,l,d,h=>QUB m n (i+1) _ _ (Qsn n i 0 l d h).1
theorem QlJ (d:Dice):mkNm d=mAll.take 2∨mkNm d=mAll.take 3∨mkNm d=mAll:=by
 have hv:=QaP (d:=d) (n:=3) (by omega)
 have e:iadd .i64 2 (dval d 3)=2+dval d 3:=QaV (by omega)
 unfold mkNm
 rw [e]
 rcases (show dval d 3=0∨dval d 3=1∨dval d 3=2 by omega) with h | h | h <;> rw [h]
 ·exact .inl rfl
 ·exact .inr (.inl rfl)
 ·exact .inr (.inr rfl)
theorem QzT (d:Dice):2≤(mkNm d).length∧(mkNm d).length≤4∧(mkNm d).all nm1=true:=by
 rcases QlJ d with h | h | h <;> rw [h] <;> exact ⟨by decide,by decide,by decide⟩
noncomputable def QRu:List DO:=dT Tryz.f11 5
noncomputable def QRt:List DO:=dT Tryz.f11 17
def Qlf:Fg:=⟨[(0,none),(2,none),(3,none),(4,some (.sl .str)),(5,some tI)],[(2,some Qau),(3,none),(29,none),(57,none),(73,none),(20300,none),(20301,none),(20302,none),(50000,some Qaq)]⟩
noncomputable def Qnc:TC:=(.sq (.sq (.reg (rT Tryz.f11 4)) (.cd (.t 17) .sk (.fg ⟨[(0,none),(2,none),(3,none),(4,some (.sl .str))],[(2,some Qau),(3,some Qau),(29,none),(57,none),(73,none),(20300,none),(20301,none),(20302,none),(50000,some Qaq)]⟩ (.ex 0)))) (.sq (.bk 1 (.dr QRu [(0,[3,29,57,73,20300,20301,20302]),(1,[3,29,57,73,20300,20301,20302]),(2,[50000]),(3,[]),(4,[]),(5,[]),(6,[]),(7,[27,5027,10027,15027,50000]),(8,[]),(9,[2,3,29,57,73,5029,10029,15029,20300,20301,20302]),(10,[3,29,57,73,20300,20301,20302]),(11,[2,3,29,57,73,20300,20301,20302])] (.of [0,1,2,3,4,5,6,7,8,9,10,11]))) (.reg (rT Tryz.f11 6))))
def Qle:Fg:=⟨[(0,none),(2,none),(3,none),(4,some (.sl .str)),(6,some tI),(7,some tI)],[(2,some Qau),(3,none),(29,none),(57,none),(73,none),(20300,none),(20301,none),(20302,none),(50000,some Qaq)]⟩
noncomputable def Qnb:TC:=(.sq (.sq (.reg (rT Tryz.f11 10)) (.cd (.t 40) .sk (.fg ⟨[(0,none),(2,none),(3,none),(4,some (.sl .str)),(6,some tI)],[(2,some Qau),(3,some Qau),(29,none),(57,none),(73,none),(20300,none),(20301,none),(20302,none),(50000,some Qaq)]⟩ (.ex 4)))) (.sq (.bk 5 (.sq (.reg (rT Tryz.f11 11)) (.cd (.t 50) (.reg (rT Tryz.f11 12)) .sk))) (.reg (rT Tryz.f11 13))))
def Qld:Fg:=⟨[(0,none),(2,none),(3,none),(4,some (.sl .str)),(6,some tI)],[(2,some Qau),(3,none),(29,none),(57,none),(73,none),(20300,none),(20301,none),(20302,none),(50000,some Qaq)]⟩
noncomputable def Qna:TC:=(.sq (.sq (.reg (rT Tryz.f11 8)) (.cd (.t 34) .sk (.fg ⟨[(0,none),(2,none),(3,none)],[(2,some Qau),(3,some Qau),(29,none),(57,none),(73,none),(20300,none),(20301,none),(20302,none),(50000,some Qaq)]⟩ (.ex 2)))) (.sq (.bk 3 (.sq (.reg (rT Tryz.f11 9)) (.bk 4 (.nf 3 2 79 20302 (.nf 3 0 49 20300 (.nf 3 1 46 20301 (.lp 1 Qle Qnb))))))) (.reg (rT Tryz.f11 14))))
def Qlc:Fg:=⟨[(0,none),(2,none),(3,none),(8,some tI)],[(2,some Qau),(3,none),(29,none),(57,none),(73,none),(20300,none),(20301,none),(20302,none),(50000,some Qaq)]⟩
noncomputable def Qm9:TC:=(.sq (.sq (.reg (rT Tryz.f11 16)) (.cd (.t 62) .sk (.fg ⟨[(2,none),(3,none)],[(2,some Qau),(3,some Qau),(29,none),(57,none),(73,none),(20300,none),(20301,none),(20302,none),(50000,some Qaq)]⟩ (.ex 6)))) (.sq (.bk 7 (.dr QRt [(0,[3,29,57,73,20300,20301,20302]),(1,[3,29,57,73,20300,20301,20302]),(2,[50000]),(3,[50000]),(4,[]),(5,[70,5070,10070,15070,50000]),(6,[71,5071,10071,15071,50000]),(7,[]),(8,[2,3,29,57,73,5073,10073,15073,20300,20301,20302]),(9,[3,29,57,73,20300,20301,20302]),(10,[2,3,29,57,73,20300,20301,20302])] (.of [0,1,2,3,4,5,6,7,8,9,10]))) (.reg (rT Tryz.f11 18))))
noncomputable def QF7:TC:=(.sq (.reg (rT Tryz.f11 0)) (.sq (.reg (rT Tryz.f11 1)) (.sq (.reg (rT Tryz.f11 2)) (.sq (.sq (.reg (rT Tryz.f11 3)) (.bk 0 (.nf 3 2 79 20302 (.nf 3 1 46 20301 (.nf 3 0 49 20300 (.lp 0 Qlf Qnc)))))) (.sq (.sq (.reg (rT Tryz.f11 7)) (.bk 2 (.nf 3 2 79 20302 (.nf 3 0 49 20300 (.nf 3 1 46 20301 (.lp 2 Qld Qna)))))) (.sq (.sq (.reg (rT Tryz.f11 15)) (.bk 6 (.nf 3 1 46 20301 (.nf 3 0 49 20300 (.nf 3 2 79 20302 (.lp 3 Qlc Qm9)))))) (.sq (.reg (rT Tryz.f11 19)) .rt)))))))
def QTK:List (RV×Option Ty):=[((.c 2 true 3),some Qau)]
abbrev Qtq:Sh:=⟨[(0, .ptr 50000 0),(2, .ptr 2 0),(3, .ptr 3 0),(4, .ty (.sl .str)),(5, .ty tI)],[(2, .box Qau),(3, .bag [.ms 20300, .ms 20301, .ms 20302]),(29, .no),(57, .no),(73, .no),(20300, .arr 49 Qad),(20301, .arr 46 Qah),(20302, .arr 79 QaU),(50000, .box Qaq)]⟩
def QsR (x4:List ByteArray)(x5:Int)(y2:Estate)(y20300:List Endpoint)(y20301:List Keep)(y20302:List Item)(y50000:Dice):VS:=Qtq.st ((),(),(),x4,x5,()) (y2,((),(),(),()),(),(),(),y20300,y20301,y20302,y50000,())
abbrev Qzn:Sh:=⟨[(0, .ptr 50000 0),(2, .ptr 2 0),(3, .ptr 3 0),(4, .ty (.sl .str))],[(2, .box Qau),(3, .bag [.ms 20300, .ms 20301, .ms 20302]),(29, .no),(57, .no),(73, .no),(20300, .arr 49 Qad),(20301, .arr 46 Qah),(20302, .arr 79 QaU),(50000, .box Qaq)]⟩
def QfH (x4:List ByteArray)(y2:Estate)(y20300:List Endpoint)(y20301:List Keep)(y20302:List Item)(y50000:Dice):VS:=Qzn.st ((),(),(),x4,()) (y2,((),(),(),()),(),(),(),y20300,y20301,y20302,y50000,())
abbrev Qtp:Sh:=⟨[(0, .ptr 50000 0),(2, .ptr 2 0),(3, .ptr 3 0),(4, .ty (.sl .str)),(6, .ty tI),(7, .ty tI)],[(2, .box Qau),(3, .bag [.ms 20300, .ms 20301, .ms 20302]),(29, .no),(57, .no),(73, .no),(20300, .arr 49 Qad),(20301, .arr 46 Qah),(20302, .arr 79 QaU),(50000, .box Qaq)]⟩
def QjI (x4:List ByteArray)(x6 x7:Int)(y2:Estate)(y20300:List Endpoint)(y20301:List Keep)(y20302:List Item)(y50000:Dice):VS:=Qtp.st ((),(),(),x4,x6,x7,()) (y2,((),(),(),()),(),(),(),y20300,y20301,y20302,y50000,())
abbrev Qzm:Sh:=⟨[(0, .ptr 50000 0),(2, .ptr 2 0),(3, .ptr 3 0),(4, .ty (.sl .str)),(6, .ty tI)],[(2, .box Qau),(3, .bag [.ms 20300, .ms 20301, .ms 20302]),(29, .no),(57, .no),(73, .no),(20300, .arr 49 Qad),(20301, .arr 46 Qah),(20302, .arr 79 QaU),(50000, .box Qaq)]⟩
def QfG (x4:List ByteArray)(x6:Int)(y2:Estate)(y20300:List Endpoint)(y20301:List Keep)(y20302:List Item)(y50000:Dice):VS:=Qzm.st ((),(),(),x4,x6,()) (y2,((),(),(),()),(),(),(),y20300,y20301,y20302,y50000,())
abbrev Qto:Sh:=⟨[(0, .ptr 50000 0),(2, .ptr 2 0),(3, .ptr 3 0),(4, .ty (.sl .str)),(6, .ty tI)],[(2, .box Qau),(3, .bag [.ms 20300, .ms 20301, .ms 20302]),(29, .no),(57, .no),(73, .no),(20300, .arr 49 Qad),(20301, .arr 46 Qah),(20302, .arr 79 QaU),(50000, .box Qaq)]⟩
def QsQ (x4:List ByteArray)(x6:Int)(y2:Estate)(y20300:List Endpoint)(y20301:List Keep)(y20302:List Item)(y50000:Dice):VS:=Qto.st ((),(),(),x4,x6,()) (y2,((),(),(),()),(),(),(),y20300,y20301,y20302,y50000,())
abbrev Qzl:Sh:=⟨[(0, .ptr 50000 0),(2, .ptr 2 0),(3, .ptr 3 0)],[(2, .box Qau),(3, .bag [.ms 20300, .ms 20301, .ms 20302]),(29, .no),(57, .no),(73, .no),(20300, .arr 49 Qad),(20301, .arr 46 Qah),(20302, .arr 79 QaU),(50000, .box Qaq)]⟩
def QfF (y2:Estate)(y20300:List Endpoint)(y20301:List Keep)(y20302:List Item)(y50000:Dice):VS:=Qzl.st ((),(),(),()) (y2,((),(),(),()),(),(),(),y20300,y20301,y20302,y50000,())
abbrev Qtn:Sh:=⟨[(0, .ptr 50000 0),(2, .ptr 2 0),(3, .ptr 3 0),(8, .ty tI)],[(2, .box Qau),(3, .bag [.ms 20300, .ms 20301, .ms 20302]),(29, .no),(57, .no),(73, .no),(20300, .arr 49 Qad),(20301, .arr 46 Qah),(20302, .arr 79 QaU),(50000, .box Qaq)]⟩
def QsP (x8:Int)(y2:Estate)(y20300:List Endpoint)(y20301:List Keep)(y20302:List Item)(y50000:Dice):VS:=Qtn.st ((),(),(),x8,()) (y2,((),(),(),()),(),(),(),y20300,y20301,y20302,y50000,())
abbrev Qzk:Sh:=⟨[(2, .ptr 2 0),(3, .ptr 3 0)],[(2, .box Qau),(3, .bag [.ms 20300, .ms 20301, .ms 20302]),(29, .no),(57, .no),(73, .no),(20300, .arr 49 Qad),(20301, .arr 46 Qah),(20302, .arr 79 QaU),(50000, .box Qaq)]⟩
def QfE (y2:Estate)(y20300:List Endpoint)(y20301:List Keep)(y20302:List Item)(y50000:Dice):VS:=Qzk.st ((),(),()) (y2,((),(),(),()),(),(),(),y20300,y20301,y20302,y50000,())
def Q0Q:VS→Option (Bool×List (Bool×Exit×VS)):=mkL Qtq (fun x y=>(dOk y.2.2.2.2.2.2.2.2.1&&(decide (0≤x.2.2.2.2.1∧x.2.2.2.2.1≤x.2.2.2.1.length∧x.2.2.2.1.length≤4∧y.2.2.2.2.2.1.length≤x.2.2.2.2.1)&&x.2.2.2.1.all nm1))) (fun x y=>[(true, .exit 0,QfH (x.2.2.2.1) (y.1) (y.2.2.2.2.2.1++(mkZ (x.2.2.2.1.drop x.2.2.2.2.1.toNat) y.2.2.2.2.2.2.2.2.1).1) (y.2.2.2.2.2.2.1) (y.2.2.2.2.2.2.2.1) ((mkZ (x.2.2.2.1.drop x.2.2.2.2.1.toNat) y.2.2.2.2.2.2.2.2.1).2))])
def Q0P:VS→Option (Bool×List (Bool×Exit×VS)):=mkL Qtp (fun x y=>(dOk y.2.2.2.2.2.2.2.2.1&&decide (0≤x.2.2.2.2.2.1∧x.2.2.2.2.2.1≤x.2.2.2.1.length∧x.2.2.2.1.length≤4∧0≤x.2.2.2.2.1∧x.2.2.2.2.1≤4∧y.2.2.2.2.2.2.1.length≤4 * x.2.2.2.2.1+x.2.2.2.2.2.1))) (fun x y=>[(true, .exit 4,QfG (x.2.2.2.1) (x.2.2.2.2.1) (y.1) (y.2.2.2.2.2.1) ((edM (x.2.2.2.1.length - x.2.2.2.2.2.1).toNat x.2.2.2.2.1 x.2.2.2.2.2.1 y.2.2.2.2.2.2.1 y.2.2.2.2.2.2.2.2.1).1) (y.2.2.2.2.2.2.2.1) ((edM (x.2.2.2.1.length - x.2.2.2.2.2.1).toNat x.2.2.2.2.1 x.2.2.2.2.2.1 y.2.2.2.2.2.2.1 y.2.2.2.2.2.2.2.2.1).2))])
def Q0O:VS→Option (Bool×List (Bool×Exit×VS)):=mkL Qto (fun x y=>(dOk y.2.2.2.2.2.2.2.2.1&&decide (0≤x.2.2.2.2.1∧x.2.2.2.2.1≤x.2.2.2.1.length∧x.2.2.2.1.length≤4∧y.2.2.2.2.2.2.1.length≤4 * x.2.2.2.2.1))) (fun x y=>[(true, .exit 2,QfF (y.1) (y.2.2.2.2.2.1) ((edN (x.2.2.2.1.length - x.2.2.2.2.1).toNat x.2.2.2.1.length x.2.2.2.2.1 y.2.2.2.2.2.2.1 y.2.2.2.2.2.2.2.2.1).1) (y.2.2.2.2.2.2.2.1) ((edN (x.2.2.2.1.length - x.2.2.2.2.1).toNat x.2.2.2.1.length x.2.2.2.2.1 y.2.2.2.2.2.2.1 y.2.2.2.2.2.2.2.2.1).2))])
def Q0N:VS→Option (Bool×List (Bool×Exit×VS)):=mkL Qtn (fun x y=>(dOk y.2.2.2.2.2.2.2.2.1&&decide (0≤x.2.2.2.1∧x.2.2.2.1≤3∧y.2.2.2.2.2.2.2.1.length+x.2.2.2.1.toNat≤100))) (fun x y=>[(true, .exit 6,QfE (y.1) (y.2.2.2.2.2.1) (y.2.2.2.2.2.2.1) (y.2.2.2.2.2.2.2.1++(itZ x.2.2.2.1.toNat y.2.2.2.2.2.2.2.2.1).1) ((itZ x.2.2.2.1.toNat y.2.2.2.2.2.2.2.2.1).2))])
def g_f11:G:=⟨TYs,[],76,EL [(35,QgA),(36,QBe),(37,QSW),(38,QSV)],keeps,(Ls [Q0Q,Q0P,Q0O,Q0N]),IL [],RL []⟩
def QOv (x4:List ByteArray)(x5:Int)(y2:Estate)(y20300:List Endpoint)(y20301:List Keep)(y20302:List Item)(y50000:Dice):Option (Exit×VS):=
 let a3:=lgt .str x4 (Int.toNat x5)
 let a1:=epV y50000 a3
 let a2:=((a1.2).1,(((a1.2).2).1,((((a1.2).2).2).1,(((((a1.2).2).2).2).1,((((((a1.2).2).2).2).2).1,(((((((a1.2).2).2).2).2).2).1,((((((((a1.2).2).2).2).2).2).2).1,(((((((((a1.2).2).2).2).2).2).2).2).1,()))))))))
 br (ilt x5 (llen x4)) (br (cIx x4 x5) (br (epOk y50000 a3) (br (cApp y20300 ([(a1.1,a2)]) 144) (some (.normal,QsR x4 (iadd .i64 x5 1) y2 (y20300++([(a1.1,a2)])) y20301 y20302 (epN y50000 a3))) none) none) none) (some (.exit 0,QfH x4 y2 y20300 y20301 y20302 y50000))
noncomputable def QnX (x4:List ByteArray)(x5:Int)(y2:Estate)(y20300:List Endpoint)(y20301:List Keep)(y20302:List Item)(y50000:Dice):Option (Exit×VS):=loopF (Qai g_f11 Qlf Qnc) (QsR x4 x5 y2 y20300 y20301 y20302 y50000)
noncomputable def Quh (x4:List ByteArray)(x5:Int)(y2:Estate)(y20300:List Endpoint)(y20301:List Keep)(y20302:List Item)(y50000:Dice):Option (Exit×VS):=
 let a3:=lgt .str x4 (Int.toNat x5)
 let a1:=epV y50000 a3
 let a2:=((a1.2).1,(((a1.2).2).1,((((a1.2).2).2).1,(((((a1.2).2).2).2).1,((((((a1.2).2).2).2).2).1,(((((((a1.2).2).2).2).2).2).1,((((((((a1.2).2).2).2).2).2).2).1,(((((((((a1.2).2).2).2).2).2).2).2).1,()))))))))
 br (ilt x5 (llen x4)) (br (cIx x4 x5) (br (epOk y50000 a3) (br (cApp y20300 ([(a1.1,a2)]) 144) (QnX x4 (iadd .i64 x5 1) y2 (y20300++([(a1.1,a2)])) y20301 y20302 (epN y50000 a3)) none) none) none) (some (.exit 0,QfH x4 y2 y20300 y20301 y20302 y50000))
def Qn8 (x4:List ByteArray)(x5:Int)(y2:Estate)(y20300:List Endpoint)(y20301:List Keep)(y20302:List Item)(y50000:Dice):Option (Exit×VS):=
 let a1:=mkZ (x4.drop x5.toNat) y50000
 some (.exit 0,QfH (x4) (y2) (y20300++a1.1) (y20301) (y20302) (a1.2))
theorem QRV (x4:List ByteArray)(x5:Int)(y2:Estate)(y20300:List Endpoint)(y20301:List Keep)(y20302:List Item)(y50000:Dice):Qai g_f11 Qlf Qnc (QsR x4 x5 y2 y20300 y20301 y20302 y50000)=QOv x4 x5 y2 y20300 y20301 y20302 y50000:=by kernel_rfl
theorem QBU (x4:List ByteArray)(x5:Int)(y2:Estate)(y20300:List Endpoint)(y20301:List Keep)(y20302:List Item)(y50000:Dice):QnX x4 x5 y2 y20300 y20301 y20302 y50000=Quh x4 x5 y2 y20300 y20301 y20302 y50000:=(Qan _ _).trans (by
 rw [QRV]
 simp only [QOv,Quh,QaA,nxt_n,nxt_r,nxt_e,nxt_0]
 rfl)
def QOu (x4:List ByteArray)(x6 x7:Int)(y2:Estate)(y20300:List Endpoint)(y20301:List Keep)(y20302:List Item)(y50000:Dice):Option (Exit×VS):=
 let a1:=iadd .i64 x7 1
 br (ilt x7 (llen x4)) (br (ine x6 x7) (br (Qav y50000 3) (br (ieq (dval y50000 3) 0) (br (cApp y20301 ([(x6,(x7,()))]) 16) (some (.normal,QjI x4 x6 a1 y2 y20300 (y20301++([(x6,(x7,()))])) y20302 (dnext y50000 3))) none) (some (.normal,QjI x4 x6 a1 y2 y20300 y20301 y20302 (dnext y50000 3)))) none) (some (.normal,QjI x4 x6 a1 y2 y20300 y20301 y20302 y50000))) (some (.exit 4,QfG x4 x6 y2 y20300 y20301 y20302 y50000))
noncomputable def QhZ (x4:List ByteArray)(x6 x7:Int)(y2:Estate)(y20300:List Endpoint)(y20301:List Keep)(y20302:List Item)(y50000:Dice):Option (Exit×VS):=loopF (Qai g_f11 Qle Qnb) (QjI x4 x6 x7 y2 y20300 y20301 y20302 y50000)
noncomputable def Qug (x4:List ByteArray)(x6 x7:Int)(y2:Estate)(y20300:List Endpoint)(y20301:List Keep)(y20302:List Item)(y50000:Dice):Option (Exit×VS):=
 let a1:=iadd .i64 x7 1
 br (ilt x7 (llen x4)) (br (ine x6 x7) (br (Qav y50000 3) (br (ieq (dval y50000 3) 0) (br (cApp y20301 ([(x6,(x7,()))]) 16) (QhZ x4 x6 a1 y2 y20300 (y20301++([(x6,(x7,()))])) y20302 (dnext y50000 3)) none) (QhZ x4 x6 a1 y2 y20300 y20301 y20302 (dnext y50000 3))) none) (QhZ x4 x6 a1 y2 y20300 y20301 y20302 y50000)) (some (.exit 4,QfG x4 x6 y2 y20300 y20301 y20302 y50000))
def Qn7 (x4:List ByteArray)(x6 x7:Int)(y2:Estate)(y20300:List Endpoint)(y20301:List Keep)(y20302:List Item)(y50000:Dice):Option (Exit×VS):=
 let a1:=edM (x4.length - x7).toNat x6 x7 y20301 y50000
 some (.exit 4,QfG (x4) (x6) (y2) (y20300) (a1.1) (y20302) (a1.2))
theorem QRU (x4:List ByteArray)(x6 x7:Int)(y2:Estate)(y20300:List Endpoint)(y20301:List Keep)(y20302:List Item)(y50000:Dice):Qai g_f11 Qle Qnb (QjI x4 x6 x7 y2 y20300 y20301 y20302 y50000)=QOu x4 x6 x7 y2 y20300 y20301 y20302 y50000:=by kernel_rfl
theorem QBT (x4:List ByteArray)(x6 x7:Int)(y2:Estate)(y20300:List Endpoint)(y20301:List Keep)(y20302:List Item)(y50000:Dice):QhZ x4 x6 x7 y2 y20300 y20301 y20302 y50000=Qug x4 x6 x7 y2 y20300 y20301 y20302 y50000:=(Qan _ _).trans (by
 rw [QRU]
 simp only [QOu,Qug,QaA,nxt_n,nxt_r,nxt_e,nxt_0]
 rfl)
def QOt (x4:List ByteArray)(x6:Int)(y2:Estate)(y20300:List Endpoint)(y20301:List Keep)(y20302:List Item)(y50000:Dice):Option (Exit×VS):=
 let a1:=(edM (x4.length - (0:Int)).toNat x6 (0:Int) y20301 y50000)
 br (ilt x6 (llen x4)) (br (dOk y50000&&decide (0≤(0:Int)∧(0:Int)≤x4.length∧x4.length≤4∧0≤x6∧x6≤4∧y20301.length≤4 * x6+(0:Int))) (some (.normal,QsQ (x4) (iadd .i64 (x6) 1) (y2) (y20300) (a1.1) (y20302) (a1.2))) none) (some (.exit 2,QfF y2 y20300 y20301 y20302 y50000))
noncomputable def QnW (x4:List ByteArray)(x6:Int)(y2:Estate)(y20300:List Endpoint)(y20301:List Keep)(y20302:List Item)(y50000:Dice):Option (Exit×VS):=loopF (Qai g_f11 Qld Qna) (QsQ x4 x6 y2 y20300 y20301 y20302 y50000)
noncomputable def Quf (x4:List ByteArray)(x6:Int)(y2:Estate)(y20300:List Endpoint)(y20301:List Keep)(y20302:List Item)(y50000:Dice):Option (Exit×VS):=
 let a1:=(edM (x4.length - (0:Int)).toNat x6 (0:Int) y20301 y50000)
 br (ilt x6 (llen x4)) (br (dOk y50000&&decide (0≤(0:Int)∧(0:Int)≤x4.length∧x4.length≤4∧0≤x6∧x6≤4∧y20301.length≤4 * x6+(0:Int))) (QnW (x4) (iadd .i64 (x6) 1) (y2) (y20300) (a1.1) (y20302) (a1.2)) none) (some (.exit 2,QfF y2 y20300 y20301 y20302 y50000))
def Qn6 (x4:List ByteArray)(x6:Int)(y2:Estate)(y20300:List Endpoint)(y20301:List Keep)(y20302:List Item)(y50000:Dice):Option (Exit×VS):=
 let a1:=edN (x4.length - x6).toNat x4.length x6 y20301 y50000
 some (.exit 2,QfF (y2) (y20300) (a1.1) (y20302) (a1.2))
theorem QRT (x4:List ByteArray)(x6:Int)(y2:Estate)(y20300:List Endpoint)(y20301:List Keep)(y20302:List Item)(y50000:Dice):Qai g_f11 Qld Qna (QsQ x4 x6 y2 y20300 y20301 y20302 y50000)=QOt x4 x6 y2 y20300 y20301 y20302 y50000:=by kernel_rfl
theorem QBS (x4:List ByteArray)(x6:Int)(y2:Estate)(y20300:List Endpoint)(y20301:List Keep)(y20302:List Item)(y50000:Dice):QnW x4 x6 y2 y20300 y20301 y20302 y50000=Quf x4 x6 y2 y20300 y20301 y20302 y50000:=(Qan _ _).trans (by
 rw [QRT]
 simp only [QOt,Quf,QaA,nxt_n,nxt_r,nxt_e,nxt_0]
 rfl)
def QOs (x8:Int)(y2:Estate)(y20300:List Endpoint)(y20301:List Keep)(y20302:List Item)(y50000:Dice):Option (Exit×VS):=
 let a2:=(ByteArray.mk #[98,97,99,107,117,112])
 let a3:=(ByteArray.mk #[100,101,101,100])
 let a5:=(dwdGN y50000 ([a2,a3]))
 let a6:=(dwdG y50000 ([a2,a3]))
 let a1:=itemV a5 a6
 let a4:=((a1.2).1,(((a1.2).2).1,((((a1.2).2).2).1,(((((a1.2).2).2).2).1,()))))
 br (igt x8 0) (br (wdGOk y50000 ([a2,a3])) (br (dOkS a5 a6) (br (cApp y20302 ([(a1.1,a4)]) 64) (some (.normal,QsP (isub .i64 x8 1) y2 y20300 y20301 (y20302++([(a1.1,a4)])) (itemN a5 a6))) none) none) none) (some (.exit 6,QfE y2 y20300 y20301 y20302 y50000))
noncomputable def QnV (x8:Int)(y2:Estate)(y20300:List Endpoint)(y20301:List Keep)(y20302:List Item)(y50000:Dice):Option (Exit×VS):=loopF (Qai g_f11 Qlc Qm9) (QsP x8 y2 y20300 y20301 y20302 y50000)
noncomputable def Que (x8:Int)(y2:Estate)(y20300:List Endpoint)(y20301:List Keep)(y20302:List Item)(y50000:Dice):Option (Exit×VS):=
 let a2:=(ByteArray.mk #[98,97,99,107,117,112])
 let a3:=(ByteArray.mk #[100,101,101,100])
 let a5:=(dwdGN y50000 ([a2,a3]))
 let a6:=(dwdG y50000 ([a2,a3]))
 let a1:=itemV a5 a6
 let a4:=((a1.2).1,(((a1.2).2).1,((((a1.2).2).2).1,(((((a1.2).2).2).2).1,()))))
 br (igt x8 0) (br (wdGOk y50000 ([a2,a3])) (br (dOkS a5 a6) (br (cApp y20302 ([(a1.1,a4)]) 64) (QnV (isub .i64 x8 1) y2 y20300 y20301 (y20302++([(a1.1,a4)])) (itemN a5 a6)) none) none) none) (some (.exit 6,QfE y2 y20300 y20301 y20302 y50000))
def Qn5 (x8:Int)(y2:Estate)(y20300:List Endpoint)(y20301:List Keep)(y20302:List Item)(y50000:Dice):Option (Exit×VS):=some (.exit 6,QfE (y2) (y20300) (y20301) (y20302++(itZ x8.toNat y50000).1) ((itZ x8.toNat y50000).2))
theorem QRS (x8:Int)(y2:Estate)(y20300:List Endpoint)(y20301:List Keep)(y20302:List Item)(y50000:Dice):Qai g_f11 Qlc Qm9 (QsP x8 y2 y20300 y20301 y20302 y50000)=QOs x8 y2 y20300 y20301 y20302 y50000:=by kernel_rfl
theorem QBR (x8:Int)(y2:Estate)(y20300:List Endpoint)(y20301:List Keep)(y20302:List Item)(y50000:Dice):QnV x8 y2 y20300 y20301 y20302 y50000=Que x8 y2 y20300 y20301 y20302 y50000:=(Qan _ _).trans (by
 rw [QRS]
 simp only [QOs,Que,QaA,nxt_n,nxt_r,nxt_e,nxt_0]
 rfl)
def r_f11 (d0:Dice):Option (V×List VO):=
 let a7:=(ByteArray.mk #[97,112,112])
 let a9:=(ByteArray.mk #[100,98])
 let a5:=(ByteArray.mk #[109,97,105,108])
 let a8:=(ByteArray.mk #[119,101,98])
 let a1:=(lsl ([a7,a9,a5,a8]) 0 (iadd .i64 2 (dval d0 3)))
 let a4:=(mkZ (a1.drop (0:Int).toNat) (dnext d0 3))
 let a2:=(edN (a1.length - (0:Int)).toNat a1.length (0:Int) ([]:List Keep) (a4.2))
 let a3:=dval (a2.2) 3
 let a6:=itZ a3.toNat (dnext (a2.2) 3)
 br (Qav d0 3) (br (cSl ([a7,a9,a5,a8]) 0 (iadd .i64 2 (dval d0 3)) ((List.length ([a7,a9,a5,a8]):Nat):Int)) (br (dOk (dnext d0 3)&&(decide (0≤(0:Int)∧(0:Int)≤a1.length∧a1.length≤4∧([]:List Endpoint).length≤(0:Int))&&a1.all nm1)) (br (dOk (a4.2)&&decide (0≤(0:Int)∧(0:Int)≤a1.length∧a1.length≤4∧([]:List Keep).length≤4 * (0:Int))) (br (Qav (a2.2) 3) (br (dOk (dnext (a2.2) 3)&&decide (0≤a3∧a3≤3∧([]:List Item).length+a3.toNat≤100)) (some (.t Qau ((([]:List Endpoint)++a4.1),((a2.1),((([]:List Item)++a6.1),()))),[.box (.t Qaq (a6.2))])) none) none) none) none) none) none
theorem e_f11 (d0:Dice):runF g_f11 QF7 QTK false [.ptr 50000 0] [.box (.t Qaq d0)]=r_f11 d0:=by kernel_rfl
theorem en_f11:Qag Tryz.prog 11:= .inr ⟨by decide,_,Tryz.func11,by kernel_rfl,by kernel_rfl⟩
theorem gk_f11:GOk Tryz.prog g_f11:=Qak _ (gA (gC Qiy Qiu (gC QUw QUd (gC en_f37 ms_f37 (gC en_f38 ms_f38 gN)))))
theorem QXU (x4:List ByteArray)(x5:Int)(y2:Estate)(y20300:List Endpoint)(y20301:List Keep)(y20302:List Item)(y50000:Dice)(h:(dOk y50000&&(decide (0≤x5∧x5≤x4.length∧x4.length≤4∧y20300.length≤x5)&&x4.all nm1))=true):QnX x4 x5 y2 y20300 y20301 y20302 y50000=Qn8 x4 x5 y2 y20300 y20301 y20302 y50000:=by
 simp only [Bool.and_eq_true,decide_eq_true_eq] at h
 obtain ⟨hd,⟨h0,h1,h2,hl⟩,ha⟩:=h
 obtain ⟨k,rfl⟩:=Int.eq_ofNat_of_zero_le h0
 clear h0
 revert y20300 y50000
 refine Qat x4 (fun k=> ∀ (y20300:List Endpoint) (y50000:Dice),dOk y50000=true→(y20300.length:Int)≤(k:Int)→QnX x4 (k:Int) y2 y20300 y20301 y20302 y50000=Qn8 x4 (k:Int) y2 y20300 y20301 y20302 y50000) ?_ ?_ k (by omega)
 ·intro y20300 y50000 _ _
  rw [QBU]
  simp only [Quh,Qn8,llen,Qar,Nat.lt_irrefl,decide_false,Qae,Int.toNat_natCast,List.drop_length,mkZ,List.append_nil]
 ·intro k hk ih y20300 y50000 hd hl
  rw [QBU]
  have c1:epOk y50000 x4[k]=true:=Bool.and_eq_true_iff.2 ⟨hd,List.all_eq_true.1 ha _ (List.getElem_mem hk)⟩
  simp only [Quh,llen,Qar,Qax,hk,decide_true,Qab,Int.toNat_natCast,add1 (show k<4611686018427387904 by omega),QaC (y:= .str) hk,c1]
  refine brY (cAppN (by omega) (by simp only [List.length_singleton]; omega)) ?_
  refine Eq.trans (ih (y20300++[epV y50000 x4[k]]) (epN y50000 x4[k]) (QNn hd) (by simp only [List.length_append,List.length_singleton]; omega)) ?_
  simp only [Qn8,Int.toNat_natCast,List.drop_eq_getElem_cons hk,mkZ,List.append_assoc,List.singleton_append]
theorem QXT (x4:List ByteArray)(x6 x7:Int)(y2:Estate)(y20300:List Endpoint)(y20301:List Keep)(y20302:List Item)(y50000:Dice)(h:(dOk y50000&&decide (0≤x7∧x7≤x4.length∧x4.length≤4∧0≤x6∧x6≤4∧y20301.length≤4 * x6+x7))=true):QhZ x4 x6 x7 y2 y20300 y20301 y20302 y50000=Qn7 x4 x6 x7 y2 y20300 y20301 y20302 y50000:=by
 simp only [Bool.and_eq_true,decide_eq_true_eq] at h
 obtain ⟨hd,h0,h1,h2,h3,h4,hl⟩:=h
 have key: ∀ (m:Nat) (x7:Int) (y20301:List Keep) (y50000:Dice),x7+m=x4.length→0≤x7→dOk y50000=true→(y20301.length:Int)≤4 * x6+x7→QhZ x4 x6 x7 y2 y20300 y20301 y20302 y50000=Qn7 x4 x6 x7 y2 y20300 y20301 y20302 y50000:=by
  intro m
  induction m with
  | zero=>
   intro x7 y20301 y50000 e _ _ _
   rw [QBT]
   have e1:x7=(x4.length:Int):=by omega
   subst e1
   simp only [Qug,Qn7,llen,Qar,Nat.lt_irrefl,decide_false,Qae,Int.sub_self,Int.toNat_zero,edM]
  | succ m ih=>
   intro x7 y20301 y50000 e h0 hd hl
   rw [QBT]
   have c1:Qav y50000 3=true:=QaQ hd (by omega)
   have c2:cApp y20301 [(x6,(x7,()))] 16=true:=cAppN (by omega) (by simp only [List.length_singleton]; omega)
   have e1:iadd .i64 x7 1=x7+1:=QaV (by omega)
   have e2:((x4.length:Int) - x7).toNat=m+1:=by omega
   have e3:((x4.length:Int) - (x7+1)).toNat=m:=by omega
   simp only [Qug,show ilt x7 (llen x4)=true from decide_eq_true (by simp only [llen]; omega),Qab,c1,c2,e1]
   rw [ih (x7+1) y20301 y50000 (by omega) (by omega) hd (by omega),ih (x7+1) y20301 (dnext y50000 3) (by omega) (by omega) (Qal hd) (by omega),ih (x7+1) (y20301++[(x6,(x7,()))]) (dnext y50000 3) (by omega) (by omega) (Qal hd) (by simp only [List.length_append,List.length_singleton]; omega)]
   simp only [Qn7,e2,e3,edM]
   cases ine x6 x7 <;> cases ieq (dval y50000 3) 0 <;> rfl
 exact key ((x4.length:Int) - x7).toNat x7 y20301 y50000 (by omega) h0 hd hl
theorem QXS (x4:List ByteArray)(x6:Int)(y2:Estate)(y20300:List Endpoint)(y20301:List Keep)(y20302:List Item)(y50000:Dice)(h:(dOk y50000&&decide (0≤x6∧x6≤x4.length∧x4.length≤4∧y20301.length≤4 * x6))=true):QnW x4 x6 y2 y20300 y20301 y20302 y50000=Qn6 x4 x6 y2 y20300 y20301 y20302 y50000:=by
 simp only [Bool.and_eq_true,decide_eq_true_eq] at h
 obtain ⟨hd,h0,h1,h2,hl⟩:=h
 have key: ∀ (m:Nat) (x6:Int) (y20301:List Keep) (y50000:Dice),x6+m=x4.length→0≤x6→dOk y50000=true→(y20301.length:Int)≤4 * x6→QnW x4 x6 y2 y20300 y20301 y20302 y50000=Qn6 x4 x6 y2 y20300 y20301 y20302 y50000:=by
  intro m
  induction m with
  | zero=>
   intro x6 y20301 y50000 e _ _ _
   rw [QBS]
   have e1:x6=(x4.length:Int):=by omega
   subst e1
   simp only [Quf,Qn6,llen,Qar,Nat.lt_irrefl,decide_false,Qae,Int.sub_self,Int.toNat_zero,edN]
  | succ m ih=>
   intro x6 y20301 y50000 e h0 hd hl
   rw [QBS]
   have e1:iadd .i64 x6 1=x6+1:=QaV (by omega)
   have e2:((x4.length:Int) - x6).toNat=m+1:=by omega
   have e3:((x4.length:Int) - (x6+1)).toNat=m:=by omega
   have e4:((x4.length:Int) - 0).toNat=x4.length:=by omega
   have hz:=Qsn x4.length x6 0 y20301 y50000 hd
   simp only [Quf,show ilt x6 (llen x4)=true from decide_eq_true (by simp only [llen]; omega),Qab,e1,e4,hd,Bool.true_and]
   refine brY (decide_eq_true (by omega)) ?_
   rw [ih (x6+1) _ _ (by omega) (by omega) hz.1 (by omega)]
   simp only [Qn6,e2,e3,edN]
 exact key ((x4.length:Int) - x6).toNat x6 y20301 y50000 (by omega) h0 hd hl
theorem QXR (x8:Int)(y2:Estate)(y20300:List Endpoint)(y20301:List Keep)(y20302:List Item)(y50000:Dice)(h:(dOk y50000&&decide (0≤x8∧x8≤3∧y20302.length+x8.toNat≤100))=true):QnV x8 y2 y20300 y20301 y20302 y50000=Qn5 x8 y2 y20300 y20301 y20302 y50000:=by
 simp only [Bool.and_eq_true,decide_eq_true_eq] at h
 obtain ⟨hd,h0,h1,hl⟩:=h
 obtain ⟨n,rfl⟩:=Int.eq_ofNat_of_zero_le h0
 rw [Int.toNat_natCast] at hl
 have key: ∀ (n:Nat) (y20302:List Item) (y50000:Dice),dOk y50000=true→y20302.length+n≤100→QnV (n:Int) y2 y20300 y20301 y20302 y50000=Qn5 (n:Int) y2 y20300 y20301 y20302 y50000:=by
  intro n
  induction n with
  | zero=>
   intro y20302 y50000 _ _
   rw [QBR]
   simp only [Que,Qn5,show igt ((0:Nat):Int) 0=false from rfl,Qae,Int.toNat_natCast,itZ,List.append_nil]
  | succ n ih=>
   intro y20302 y50000 hd hl
   rw [QBR]
   have e2:isub .i64 ((n+1:Nat):Int) 1=(n:Int):=(Qbg (by omega)).trans (by omega)
   have c1:wdGOk y50000 sIt=true:=by simp [wdGOk,hd]
   have c2:dOkS (dwdGN y50000 sIt) (dwdG y50000 sIt)=true:=QC9 hd
   have c3: ∀ v,cApp y20302 [v] 64=true:=fun v=>cAppN (by omega) (by simp only [List.length_singleton]; omega)
   simp only [Que,show igt ((n+1:Nat):Int) 0=true from decide_eq_true (by omega),Qab,e2,c1,c2,c3]
   refine Eq.trans (ih _ _ (QRx (s:=dwdG y50000 sIt) (QC9 hd)) (by simp only [List.length_append,List.length_singleton]; omega)) ?_
   simp only [Qn5,Int.toNat_natCast,itZ,List.append_assoc,List.singleton_append]
 exact key n y20302 y50000 hd (by omega)
theorem QPR: ∀ S l p,g_f11.L 0 (fgt Qlf S)=some (true,l)→pickA l=some p→loopF (Qai g_f11 Qlf Qnc) S=some p:=
 QaB (s:=Qtq) ⟨by decide,by decide⟩ (by kernel_rfl) fun x y hok p hp=>by
 simp only [Qap,Qam] at hp
 exact (QXU x.2.2.2.1 x.2.2.2.2.1 y.1 y.2.2.2.2.2.1 y.2.2.2.2.2.2.1 y.2.2.2.2.2.2.2.1 y.2.2.2.2.2.2.2.2.1 (by simpa using hok)).trans hp
theorem QPQ: ∀ S l p,g_f11.L 1 (fgt Qle S)=some (true,l)→pickA l=some p→loopF (Qai g_f11 Qle Qnb) S=some p:=
 QaB (s:=Qtp) ⟨by decide,by decide⟩ (by kernel_rfl) fun x y hok p hp=>by
 simp only [Qap,Qam] at hp
 exact (QXT x.2.2.2.1 x.2.2.2.2.1 x.2.2.2.2.2.1 y.1 y.2.2.2.2.2.1 y.2.2.2.2.2.2.1 y.2.2.2.2.2.2.2.1 y.2.2.2.2.2.2.2.2.1 (by simpa using hok)).trans hp
theorem QPP: ∀ S l p,g_f11.L 2 (fgt Qld S)=some (true,l)→pickA l=some p→loopF (Qai g_f11 Qld Qna) S=some p:=
 QaB (s:=Qto) ⟨by decide,by decide⟩ (by kernel_rfl) fun x y hok p hp=>by
 simp only [Qap,Qam] at hp
 exact (QXS x.2.2.2.1 x.2.2.2.2.1 y.1 y.2.2.2.2.2.1 y.2.2.2.2.2.2.1 y.2.2.2.2.2.2.2.1 y.2.2.2.2.2.2.2.2.1 (by simpa using hok)).trans hp
theorem QPO: ∀ S l p,g_f11.L 3 (fgt Qlc S)=some (true,l)→pickA l=some p→loopF (Qai g_f11 Qlc Qm9) S=some p:=
 QaB (s:=Qtn) ⟨by decide,by decide⟩ (by kernel_rfl) fun x y hok p hp=>by
 simp only [Qap,Qam] at hp
 exact (QXR x.2.2.2.1 y.1 y.2.2.2.2.2.1 y.2.2.2.2.2.2.1 y.2.2.2.2.2.2.2.1 y.2.2.2.2.2.2.2.2.1 (by simpa using hok)).trans hp
theorem lk_f11:QF7.lok g_f11:=by
 repeat (first | exact trivial | exact QPR | exact QPQ | exact QPP | exact QPO | refine ⟨?_, ?_⟩)
set_option maxRecDepth 100000 in
theorem s_f11 (d:Dice)(h:dOk d=true):r_f11 d=some (.t Qau (mkX d),[.box (.t Qaq (mkXN d))]):=by
 have hv:=QaP (d:=d) (n:=3) (by omega)
 have e:iadd .i64 2 (dval d 3)=2+dval d 3:=QaV (by omega)
 have c1:Qav d 3=true:=QaQ h (by omega)
 have hn:=QzT d
 have hd:=Qal (n:=3) h
 have hz:=QKR (mkNm d) (dnext d 3) hd
 have hy1:dOk (mkEd d).2=true:=QUB (mkNm d).length (mkNm d).length 0 [] _ hz
 have hv3:=QaP (d:=(mkEd d).2) (n:=3) (by omega)
 have e4:(((mkNm d).length:Int) - 0).toNat=(mkNm d).length:=by omega
 simp only [r_f11,show lsl mAll 0 (iadd .i64 2 (dval d 3))=mkNm d from rfl,List.nil_append,Int.toNat_zero,List.drop_zero,e4]
 simp only [show edN (mkNm d).length (mkNm d).length 0 [] (mkZ (mkNm d) (dnext d 3)).2=mkEd d from rfl]
 refine brY c1 (brY (decide_eq_true (by rw [e]; refine ⟨by omega,by omega, ?_, ?_⟩ <;> simp <;> omega)) (brY ?_ (brY ?_ (brY (QaQ hy1 (by omega)) (brY ?_ rfl)))))
 ·rw [hd,hn.2.2,Bool.and_true,Bool.true_and]
  exact decide_eq_true (by simp only [List.length_nil]; omega)
 ·rw [hz,Bool.true_and]
  exact decide_eq_true (by simp only [List.length_nil]; omega)
 ·rw [Qal hy1,Bool.true_and]
  exact decide_eq_true (by simp only [List.length_nil]; omega)
def QS0:Ent:=specP Qaq .nil (fun d x=>(dOk d)) (fun d x=>(.t Qau (mkX d))) (fun d x=>(mkXN d))
theorem ms_f11:Meets Tryz.prog 11 (strip QS0):=Qa7 (R:=runF g_f11 QF7 QTK false) (mG Tryz.func11 (by kernel_rfl) Tryz.ntmps11 (by kernel_rfl) gk_f11 lk_f11) rfl fun d x hok=>(e_f11 d).trans (s_f11 d hok)
end
end Go.Proofs.YtckcgijklnloiaaGreat.K.PE
