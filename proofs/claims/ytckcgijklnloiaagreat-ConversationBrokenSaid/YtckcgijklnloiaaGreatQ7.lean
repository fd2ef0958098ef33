import Derived.Test.YtckcgijklnloiaaGreatQ6
import Derived.Test.YtckcgijklnloiaaGreatQ3
import Derived.Shelf.Small.Strs
import Derived.Ground.NamesProg
set_option linter.unusedSimpArgs false
set_option linter.unusedVariables false
namespace Go.Proofs
open Go.Shelf
def Tryz.lays137_ren:Go.Shelf.Ren:=⟨fun | 137=>179 | 217=>208 | 266=>229 | n=>n,fun | 9=>9 | 5=>5 | 3=>3 | n=>n,fun | n=>n⟩
theorem Tryz.lays137:Go.Proofs.Lays.n137 Tryz.prog Tryz.lays137_ren:={
 mixed:=by kernel_rfl
 f137:=Tryz.func179.trans (congrArg some (by kernel_rfl))
 f217:=Tryz.func208.trans (congrArg some (by kernel_rfl))
 f266:=Tryz.func229.trans (congrArg some (by kernel_rfl))
 t3:=Tryz.underlying3
 a3:=Tryz.isAgg3
 z3:=Tryz.sizeOf3
 v3:=Tryz.zeroValue3
 t5:=Tryz.underlying5
 a5:=Tryz.isAgg5
 z5:=Tryz.sizeOf5
 v5:=Tryz.zeroValue5
 t9:=Tryz.underlying9
 a9:=Tryz.isAgg9
 z9:=Tryz.sizeOf9
 v9:=Tryz.zeroValue9}
end Go.Proofs
namespace Go.Proofs.YtckcgijklnloiaaGreat.K
open Go.RowKit Go.Shelf
noncomputable section
def ixB (s:ByteArray)(c:Int):Int:=Lib.indexByte s.data.toList c.toNat.toUInt8
def QGN:Ent:=spec (.pr .str (.pr (.int .u8) .nil)) (fun x=>true) (fun x=>(.t tI (ixB x.1 x.2.1)))
theorem QZF:Qag Tryz.prog 179:= .inr ⟨by decide,_,Tryz.func179,by kernel_rfl,by kernel_rfl⟩
theorem QVz:Meets Tryz.prog 179 (strip QGN):=QzX fun x hok X w σ vs hfin hc=>by
 obtain ⟨s,c,u⟩:=x
 simp only [Ty.canon,V.ds,V.d,Ty.d,Cs,C] at hc
 obtain ⟨v1,r1,rfl,⟨rfl,_⟩,v2,r2,rfl,⟨rfl,_⟩,rfl⟩:=hc
 refine (Any.strings_IndexByte Tryz.lays137 s c w).mono ?_
 rintro e w' ⟨rfl,rfl⟩
 refine ⟨_,rfl, ?_,Below.refl _ _⟩
 simp only [V.d,Ty.d,C]
 exact ⟨rfl,rfl⟩
def QiW (c:Int)(o:ByteArray):Bool:=(ige c 97&&ile c 122)||((ige c 65&&ile c 90)||((ige c 48&&ile c 57)||ige (ixB o c) 0))
noncomputable def Qyh:TC:=(.sq (.reg (rT Tryz.f154 0)) (.sq (.reg (rT Tryz.f154 1)) .rt))
def QIp:List (RV×Option Ty):=[((.t 4),some .bool)]
def QCw:G:=⟨TYs,[],33,EL [(179,QGN)],keeps,(fun _ _=>none),IL [],RL []⟩
def QtS (p0:Int)(p1:ByteArray):Option (V×List VO):=br (ige p0 48) (br (ile p0 57) (some (.t .bool true,[])) (some (.t .bool (ige (ixB p1 p0) 0),[]))) (some (.t .bool (ige (ixB p1 p0) 0),[]))
def QtT (p0:Int)(p1:ByteArray):Option (V×List VO):=br (ige p0 65) (br (ile p0 90) (some (.t .bool true,[])) (QtS p0 p1)) (QtS p0 p1)
def QJL (p0:Int)(p1:ByteArray):Option (V×List VO):=br (ige p0 97) (br (ile p0 122) (some (.t .bool true,[])) (QtT p0 p1)) (QtT p0 p1)
theorem e_f154 (p0:Int)(p1:ByteArray):runF QCw Qyh QIp false [.t (.int .u8) p0, .t .str p1] []=QJL p0 p1:=by kernel_rfl
theorem QZR:Qag Tryz.prog 154:= .inr ⟨by decide,_,Tryz.func154,by kernel_rfl,by kernel_rfl⟩
theorem QYL:GOk Tryz.prog QCw:=Qak _ (gA (gC QZF QVz gN))
theorem QW4:Qyh.lok QCw:=by repeat (first | exact trivial | refine ⟨?_, ?_⟩)
theorem brO {a b r:Bool}{X:Option (V×List VO)}(h:X=some (.t .bool r,[])):br a (br b (some (.t .bool true,[])) X) X=some (.t .bool ((a&&b)||r),[]):=by
 subst h
 cases a <;> cases b <;> rfl
theorem s_f154 (c:Int)(o:ByteArray):QJL c o=some (.t .bool (QiW c o),[]):=by
 simp only [QJL,QtT,QtS]
 exact brO (brO (brO rfl))
def QGZ:Ent:=spec (.pr (.int .u8) (.pr .str .nil)) (fun x=>true) (fun x=>(.t .bool (QiW x.1 x.2.1)))
theorem QVL:Meets Tryz.prog 154 (strip QGZ):=Qaf (R:=runF QCw Qyh QIp false) (mG Tryz.func154 (by kernel_rfl) Tryz.ntmps154 (by kernel_rfl) QYL QW4) fun x _=>(e_f154 x.1 x.2.1).trans (s_f154 x.1 x.2.1)
def wordC (c:Int):Bool:= !(ilt c 97||igt c 122)||(!(ilt c 65||igt c 90)||(!(ilt c 48||igt c 57)||(ieq c 45||(ieq c 95||ieq c 46))))
def wordF (s:ByteArray):Bool:=(QaI s).all wordC&&decide (1≤s.size∧s.size≤32)
set_option maxRecDepth 100000 in
theorem QXD:((List.range 256).all fun n=>QiW (n:Int) (ByteArray.mk #[45,95,46]) == wordC (n:Int))=true:=by kernel_rfl
theorem QPW {s:ByteArray}{c:Int}(h:c ∈ QaI s):QiW c (ByteArray.mk #[45,95,46])=wordC c:=by
 obtain ⟨b,_,rfl⟩:=List.mem_map.1 h
 have:=List.all_eq_true.1 QXD b.toNat (by rw [List.mem_range]; exact b.toNat_lt)
 exact eq_of_beq this
def Qhy:Fg:=⟨[(0,some .str),(6,some (.sl (.int .u8))),(7,some tI),(8,some tI)],[]⟩
noncomputable def Qjz:TC:=(.sq (.reg (rT Tryz.f114 2)) (.sq (.cd (.t 9) .sk (.fg ⟨[(0,some .str)],[]⟩ (.ex 0))) (.sq (.bk 1 (.sq (.reg (rT Tryz.f114 3)) (.sq (.reg (rT Tryz.f114 4)) (.cd (.t 14) (.sq (.reg (rT Tryz.f114 5)) (.fg ⟨[(2,some .bool)],[]⟩ .rt)) .sk)))) (.reg (rT Tryz.f114 6)))))
noncomputable def QyH:TC:=(.sq (.reg (rT Tryz.f114 0)) (.sq (.sq (.reg (rT Tryz.f114 1)) (.bk 0 (.lp 0 Qhy Qjz))) (.sq (.reg (rT Tryz.f114 7)) .rt)))
def QIP:List (RV×Option Ty):=[((.t 2),some .bool)]
abbrev QpP:Sh:=⟨[(0, .ty .str),(6, .ty (.sl (.int .u8))),(7, .ty tI),(8, .ty tI)],[]⟩
def QoX (x0:ByteArray)(x6:List Int)(x7 x8:Int):VS:=QpP.st (x0,x6,x7,x8,()) ()
abbrev Qtu:Sh:=⟨[(2, .ty .bool)],[]⟩
def Qdw (x2:Bool):VS:=Qtu.st (x2,()) ()
abbrev QvT:Sh:=⟨[(0, .ty .str)],[]⟩
def QeE (x0:ByteArray):VS:=QvT.st (x0,()) ()
def QSs:VS→Option (Bool×List (Bool×Exit×VS)):=mkL QpP (fun x y=>(rngG x.2.1 x.2.2.1 x.2.2.2.1&&samB x.2.1 (QaI x.1))) (fun x y=>[((!((x.2.1.drop x.2.2.2.1.toNat).all wordC)), .ret,Qdw (false)),(true, .exit 0,QeE (x.1))])
def QmD:G:=⟨TYs,[],24,EL [(154,QGZ),(30120144,Qa6)],keeps,(Ls [QSs]),IL [],RL []⟩
def QDK (x0:ByteArray)(x6:List Int)(x7 x8:Int):Option (Exit×VS):=br (ilt x8 x7) (br (cIx x6 x8) (br (!(QiW (lgt (.int .u8) x6 (Int.toNat x8)) (ByteArray.mk #[45,95,46]))) (some (.ret,Qdw false)) (some (.normal,QoX x0 x6 x7 (iadd .i64 x8 1)))) none) (some (.exit 0,QeE x0))
noncomputable def Qkm (x0:ByteArray)(x6:List Int)(x7 x8:Int):Option (Exit×VS):=loopF (Qai QmD Qhy Qjz) (QoX x0 x6 x7 x8)
noncomputable def QnM (x0:ByteArray)(x6:List Int)(x7 x8:Int):Option (Exit×VS):=br (ilt x8 x7) (br (cIx x6 x8) (br (!(QiW (lgt (.int .u8) x6 (Int.toNat x8)) (ByteArray.mk #[45,95,46]))) (some (.ret,Qdw false)) (Qkm x0 x6 x7 (iadd .i64 x8 1))) none) (some (.exit 0,QeE x0))
def QkQ (x0:ByteArray)(x6:List Int)(x7 x8:Int):Option (Exit×VS):=br (!((x6.drop x8.toNat).all wordC)) (some (.ret,Qdw (false)))<|some (.exit 0,QeE (x0))
theorem QN9 (x0:ByteArray)(x6:List Int)(x7 x8:Int):Qai QmD Qhy Qjz (QoX x0 x6 x7 x8)=QDK x0 x6 x7 x8:=by kernel_rfl
theorem QwS (x0:ByteArray)(x6:List Int)(x7 x8:Int):Qkm x0 x6 x7 x8=QnM x0 x6 x7 x8:=(Qan _ _).trans (by
 rw [QN9]
 simp only [QDK,QnM,QaA,nxt_n,nxt_r,nxt_e,nxt_0]
 rfl)
def QJ3 (p0:ByteArray):Option (V×List VO):=br (Qbi p0) (br (rngG (QaI p0) (llen (QaI p0)) (0:Int)&&samB (QaI p0) (QaI p0)) (br (!(((QaI p0).drop (0:Int).toNat).all wordC)) (some (.t .bool (false),[])) (br (ige (slen (p0)) 1) (some (.t .bool (ile (slen (p0)) 32),[])) (some (.t .bool false,[])))) none) none
theorem e_f114 (p0:ByteArray):runF QmD QyH QIP false [.t .str p0] []=QJ3 p0:=by kernel_rfl
theorem Q0b:Qag Tryz.prog 114:= .inr ⟨by decide,_,Tryz.func114,by kernel_rfl,by kernel_rfl⟩
theorem QZb:GOk Tryz.prog QmD:=Qak _ (gA (gC QZR QVL (gC Qbw Qbu gN)))
theorem QQq (x0:ByteArray)(x6:List Int)(x7 x8:Int)(h:(rngG x6 x7 x8&&samB x6 (QaI x0))=true):Qkm x0 x6 x7 x8=QkQ x0 x6 x7 x8:=by
 simp only [Bool.and_eq_true] at h
 obtain ⟨h,hs⟩:=h
 have hs:=Qzo hs
 obtain ⟨rfl,h3,k,rfl,hk⟩:=QI1 h
 clear h
 refine Qat x6 (fun k=>Qkm x0 x6 (x6.length:Int) (k:Int)=QkQ x0 x6 (x6.length:Int) (k:Int)) ?_ ?_ k hk
 ·rw [QwS]
  simp [QnM,QkQ,Qar,Qae]
 ·intro k hk ih
  rw [QwS]
  have hw:QiW x6[k] (ByteArray.mk #[45,95,46])=wordC x6[k]:=QPW (s:=x0) (by rw [← hs]; exact List.getElem_mem hk)
  simp only [QnM,Qar,Qax,hk,decide_true,Qab,Int.toNat_natCast,add1G (show k<9223372036854775807 by omega),QaC (y:= .int .u8) hk,ih,hw]
  simp only [QkQ,Int.toNat_natCast,List.drop_eq_getElem_cons hk,List.all_cons]
  cases wordC x6[k] <;> rfl
theorem QLt: ∀ S l p,QmD.L 0 (fgt Qhy S)=some (true,l)→pickA l=some p→loopF (Qai QmD Qhy Qjz) S=some p:=
 QaB (s:=QpP) ⟨by decide,by decide⟩ (by kernel_rfl) fun x y hok p hp=>by
 simp only [Qap,Qam] at hp
 exact (QQq x.1 x.2.1 x.2.2.1 x.2.2.2.1 (by simpa using hok)).trans hp
theorem QXu:QyH.lok QmD:=by
 repeat (first | exact trivial | exact QLt | refine ⟨?_, ?_⟩)
theorem s_f114 (s:ByteArray)(h:nameG s=true):QJ3 s=some (.t .bool (wordF s),[]):=by
 simp only [nameG,decide_eq_true_eq] at h
 have hl:=QdL s
 simp only [QJ3,show Qbi s=true from decide_eq_true (by omega),QI2 (show (QaI s).length≤9223372036854775807 by omega),QpW,Bool.and_self,Qab,Int.toNat_zero,List.drop_zero,wordF]
 cases (QaI s).all wordC with
 | false=>rfl
 | true=>
  simp only [Bool.not_true,Qae,Bool.true_and]
  refine QaE (fun g=> ?_) (fun g=> ?_)
  ·simp only [ige,slen,decide_eq_true_eq] at g
   apply Qvi
   rw [Bool.eq_iff_iff]
   simp only [ile,slen,decide_eq_true_eq]
   omega
  ·simp only [ige,slen,decide_eq_false_iff_not] at g
   apply Qvi
   rw [eq_comm,decide_eq_false_iff_not]
   omega
def QHm:Ent:=spec (.pr .str .nil) (fun x=>(nameG x.1)) (fun x=>(.t .bool (wordF x.1)))
theorem QV5:Meets Tryz.prog 114 (strip QHm):=Qaf (R:=runF QmD QyH QIP false) (mG Tryz.func114 (by kernel_rfl) Tryz.ntmps114 (by kernel_rfl) QZb QXu) fun x hok=>(e_f114 x.1).trans (s_f114 x.1 hok)
def Qbs {α:Type}(l:List α):Bool:=decide (l.length≤100000)
def ascUp (l:List Int)(k:Nat):Bool:=(List.range' k (l.length - k)).all fun j=>decide (j=0)||ilt (l.getD (j - 1) 0) (l.getD j 0)
def ascF (l:List Int):Bool:=ascUp l 0
theorem QOy (l:List Int):ascUp l l.length=true:=by
 unfold ascUp
 rw [Nat.sub_self]
 rfl
theorem QFa {l:List Int}{k:Nat}(hk:k<l.length):ascUp l k=((decide (k=0)||ilt (l.getD (k - 1) 0) l[k])&&ascUp l (k+1)):=by
 have:l.length - k=(l.length - (k+1))+1:=by omega
 unfold ascUp
 rw [this,List.range'_succ,List.all_cons]
 simp only [List.getD_eq_getElem?_getD,List.getElem?_eq_getElem hk,Option.getD_some]
theorem asc_br {β:Type}{l:List Int}{k:Nat}(hk:k<l.length)(hb:k<4611686018427387904)(bad ok:Option β):
  br (igt (k:Int) 0) (br (cIx l (isub .i64 (k:Int) 1)) (br (ige (lgt tI l (Int.toNat (isub .i64 (k:Int) 1))) l[k]) bad ok) none) ok=br (decide (k=0)||ilt (l.getD (k - 1) 0) l[k]) ok bad:=by
 by_cases h0:k=0
 ·subst h0
  rw [show igt ((0:Nat):Int) 0=false from rfl,Qae,decide_eq_true rfl,Bool.true_or,Qab]
 ·have e:isub .i64 (k:Int) 1=((k - 1:Nat):Int):=by rw [Qbg (by omega)]; omega
  rw [show igt (k:Int) 0=true from decide_eq_true (by omega),Qab,e,Int.toNat_natCast,Qax,decide_eq_true (show k - 1<l.length by omega),Qab,decide_eq_false h0,Bool.false_or,Quu]
  show br (!ilt (l.getD (k - 1) 0) l[k]) bad ok=_
  cases ilt (l.getD (k - 1) 0) l[k] <;> rfl
noncomputable def QNc:List DO:=dT Tryz.f116 4
def Qhw:Fg:=⟨[(0,some (.sl tI)),(5,some tI),(6,some tI)],[]⟩
noncomputable def Qjx:TC:=(.sq (.reg (rT Tryz.f116 2)) (.sq (.cd (.t 7) .sk (.fg ⟨[],[]⟩ (.ex 0))) (.sq (.bk 1 (.sq (.reg (rT Tryz.f116 3)) (.sq (.dr QNc [(0,[]),(1,[]),(2,[]),(3,[]),(4,[]),(5,[]),(6,[]),(7,[]),(8,[]),(9,[]),(10,[]),(11,[]),(12,[]),(13,[])] (.of [0,1,2,3,4,5,6,7,8,9,10,11,12,13])) (.cd (.t 22) (.sq (.reg (rT Tryz.f116 5)) (.fg ⟨[(2,some .bool)],[]⟩ .rt)) .sk)))) (.reg (rT Tryz.f116 6)))))
noncomputable def QyF:TC:=(.sq (.reg (rT Tryz.f116 0)) (.sq (.sq (.reg (rT Tryz.f116 1)) (.bk 0 (.lp 0 Qhw Qjx))) (.sq (.reg (rT Tryz.f116 7)) .rt)))
def QIN:List (RV×Option Ty):=[((.t 2),some .bool)]
abbrev QpN:Sh:=⟨[(0, .ty (.sl tI)),(5, .ty tI),(6, .ty tI)],[]⟩
def QjJ (x0:List Int)(x5 x6:Int):VS:=QpN.st (x0,x5,x6,()) ()
abbrev Qts:Sh:=⟨[(2, .ty .bool)],[]⟩
def Qdv (x2:Bool):VS:=Qts.st (x2,()) ()
abbrev QvR:Sh:=⟨[],[]⟩
def QeC  : VS:=QvR.st () ()
def QSq:VS→Option (Bool×List (Bool×Exit×VS)):=mkL QpN (fun x y=>(rngOk x.1 x.2.1 x.2.2.1)) (fun x y=>[((!ascUp x.1 x.2.2.1.toNat), .ret,Qdv (false)),(true, .exit 0,QeC)])
def QmB:G:=⟨TYs,[],24,EL [],keeps,(Ls [QSq]),IL [],RL []⟩
def QDI (x0:List Int)(x5 x6:Int):Option (Exit×VS):=br (ilt x6 x5) (br (igt x6 0) (br (cIx x0 (isub .i64 x6 1)) (br (cIx x0 x6) (br (ige (lgt tI x0 (Int.toNat (isub .i64 x6 1))) (lgt tI x0 (Int.toNat x6))) (some (.ret,Qdv false)) (some (.normal,QjJ x0 x5 (iadd .i64 x6 1)))) none) none) (some (.normal,QjJ x0 x5 (iadd .i64 x6 1)))) (some (.exit 0,QeC))
noncomputable def Qg1 (x0:List Int)(x5 x6:Int):Option (Exit×VS):=loopF (Qai QmB Qhw Qjx) (QjJ x0 x5 x6)
noncomputable def QnK (x0:List Int)(x5 x6:Int):Option (Exit×VS):=br (ilt x6 x5) (br (igt x6 0) (br (cIx x0 (isub .i64 x6 1)) (br (cIx x0 x6) (br (ige (lgt tI x0 (Int.toNat (isub .i64 x6 1))) (lgt tI x0 (Int.toNat x6))) (some (.ret,Qdv false)) (Qg1 x0 x5 (iadd .i64 x6 1))) none) none) (Qg1 x0 x5 (iadd .i64 x6 1))) (some (.exit 0,QeC))
def QkO (x0:List Int)(x5 x6:Int):Option (Exit×VS):=br (!ascUp x0 x6.toNat) (some (.ret,Qdv (false)))<|some (.exit 0,QeC)
theorem QN7 (x0:List Int)(x5 x6:Int):Qai QmB Qhw Qjx (QjJ x0 x5 x6)=QDI x0 x5 x6:=by kernel_rfl
theorem QwQ (x0:List Int)(x5 x6:Int):Qg1 x0 x5 x6=QnK x0 x5 x6:=(Qan _ _).trans (by
 rw [QN7]
 simp only [QDI,QnK,QaA,nxt_n,nxt_r,nxt_e,nxt_0]
 rfl)
def QJ1 (p0:List Int):Option (V×List VO):=br (rngOk p0 (llen p0) (0:Int)) (br (!ascUp p0 (0:Int).toNat) (some (.t .bool (false),[])) (some (.t .bool true,[]))) none
theorem e_f116 (p0:List Int):runF QmB QyF QIN false [.t (.sl tI) p0] []=QJ1 p0:=by kernel_rfl
theorem QZ9:Qag Tryz.prog 116:= .inr ⟨by decide,_,Tryz.func116,by kernel_rfl,by kernel_rfl⟩
theorem QY9:GOk Tryz.prog QmB:=Qak _ (fun p hp=>by cases hp)
theorem QQo (x0:List Int)(x5 x6:Int)(h:(rngOk x0 x5 x6)=true):Qg1 x0 x5 x6=QkO x0 x5 x6:=by
 obtain ⟨rfl,h3,k,rfl,hk⟩:=rng_k h
 clear h
 refine Qat x0 (fun k=>Qg1 x0 (x0.length:Int) (k:Int)=QkO x0 (x0.length:Int) (k:Int)) ?_ ?_ k hk
 ·rw [QwQ]
  simp only [QnK,QkO,Qar,Nat.lt_irrefl,decide_false,Qae,Int.toNat_natCast,QOy,Bool.not_true]
 ·intro k hk ih
  rw [QwQ]
  simp only [QnK,Qar,Qax,hk,decide_true,Qab,Int.toNat_natCast,add1 (show k<4611686018427387904 by omega),QaC (y:=tI) hk,ih,asc_br hk (show k<4611686018427387904 by omega)]
  simp only [QkO,Int.toNat_natCast,QFa hk]
  cases decide (k=0)||ilt (x0.getD (k - 1) 0) x0[k] <;> rfl
theorem QLr: ∀ S l p,QmB.L 0 (fgt Qhw S)=some (true,l)→pickA l=some p→loopF (Qai QmB Qhw Qjx) S=some p:=
 QaB (s:=QpN) ⟨by decide,by decide⟩ (by kernel_rfl) fun x y hok p hp=>by
 simp only [Qap,Qam] at hp
 exact (QQo x.1 x.2.1 x.2.2.1 (by simpa using hok)).trans hp
theorem QXs:QyF.lok QmB:=by
 repeat (first | exact trivial | exact QLr | refine ⟨?_, ?_⟩)
theorem s_f116 (l:List Int)(h:Qbs l=true):QJ1 l=some (.t .bool (ascF l),[]):=by
 simp only [Qbs,decide_eq_true_eq] at h
 simp only [QJ1,rng_0 h,Qab,Int.toNat_zero]
 unfold ascF
 cases ascUp l 0 <;> rfl
def QHk:Ent:=spec (.pr (.sl tI) .nil) (fun x=>(Qbs x.1)) (fun x=>(.t .bool (ascF x.1)))
theorem QV3:Meets Tryz.prog 116 (strip QHk):=Qaf (R:=runF QmB QyF QIN false) (mG Tryz.func116 (by kernel_rfl) Tryz.ntmps116 (by kernel_rfl) QY9 QXs) fun x hok=>(e_f116 x.1).trans (s_f116 x.1 hok)
def hashF (a:Int):Bool:=ieq (kindF a) 1
noncomputable def QyC:TC:=(.sq (.reg (rT Tryz.f122 0)) (.sq (.reg (rT Tryz.f122 1)) .rt))
def QIK:List (RV×Option Ty):=[((.t 2),some .bool)]
def QCK:G:=⟨TYs,[],6,EL [(155,QsU)],keeps,(fun _ _=>none),IL [],RL []⟩
def QT1 (p0:Int):Option (V×List VO):=some (.t .bool (ieq (kindF p0) 1),[])
theorem e_f122 (p0:Int):runF QCK QyC QIK false [.t tI p0] []=QT1 p0:=by kernel_rfl
theorem QZ7:Qag Tryz.prog 122:= .inr ⟨by decide,_,Tryz.func122,by kernel_rfl,by kernel_rfl⟩
theorem QY6:GOk Tryz.prog QCK:=Qak _ (gA (gC QAE QzK gN))
theorem QXp:QyC.lok QCK:=by repeat (first | exact trivial | refine ⟨?_, ?_⟩)
theorem s_f122 (a:Int):QT1 a=some (.t .bool (hashF a),[]):=rfl
def QHi:Ent:=spec (.pr tI .nil) (fun x=>true) (fun x=>(.t .bool (hashF x.1)))
theorem QV1:Meets Tryz.prog 122 (strip QHi):=Qaf (R:=runF QCK QyC QIK false) (mG Tryz.func122 (by kernel_rfl) Tryz.ntmps122 (by kernel_rfl) QY6 QXp) fun x _=>(e_f122 x.1).trans (s_f122 x.1)
def Qgf (l:List Int)(k:Nat):Bool:=(List.range' k (l.length - k)).all fun j=>ieq (QaH (l.getD j 0)).2 0&& !hasF (l.take j) (l.getD j 0)
def suitF (l:List Int):Bool:=Qgf l 0
theorem QDZ (l:List Int):Qgf l l.length=true:=by
 unfold Qgf
 rw [Nat.sub_self]
 rfl
theorem QyQ {l:List Int}{k:Nat}(hk:k<l.length):Qgf l k=((ieq (QaH l[k]).2 0&& !hasF (l.take k) l[k])&&Qgf l (k+1)):=by
 have:l.length - k=(l.length - (k+1))+1:=by omega
 unfold Qgf
 rw [this,List.range'_succ,List.all_cons]
 simp only [List.getD_eq_getElem?_getD,List.getElem?_eq_getElem hk,Option.getD_some]
theorem QPz (l:List Int)(k:Nat):lsl l 0 (k:Int)=l.take k:=by
 simp [lsl]
theorem QRB {l:List Int}{k:Nat}(hk:k≤l.length):cSl l 0 (k:Int) ((List.length l:Nat):Int)=true:=by
 simp only [cSl,decide_eq_true_eq]
 omega
def Qhx:Fg:=⟨[(0,some (.sl tI)),(7,some (.sl tI)),(8,some tI),(9,some tI)],[]⟩
noncomputable def Qjy:TC:=(.sq (.reg (rT Tryz.f115 2)) (.sq (.cd (.t 10) .sk (.fg ⟨[],[]⟩ (.ex 0))) (.sq (.bk 1 (.sq (.reg (rT Tryz.f115 3)) (.sq (.reg (rT Tryz.f115 4)) (.sq (.reg (rT Tryz.f115 5)) (.cd (.t 27) (.sq (.reg (rT Tryz.f115 6)) (.fg ⟨[(2,some .bool)],[]⟩ .rt)) .sk))))) (.reg (rT Tryz.f115 7)))))
noncomputable def QyG:TC:=(.sq (.reg (rT Tryz.f115 0)) (.sq (.sq (.reg (rT Tryz.f115 1)) (.bk 0 (.lp 0 Qhx Qjy))) (.sq (.reg (rT Tryz.f115 8)) .rt)))
def QIO:List (RV×Option Ty):=[((.t 2),some .bool)]
abbrev QpO:Sh:=⟨[(0, .ty (.sl tI)),(7, .ty (.sl tI)),(8, .ty tI),(9, .ty tI)],[]⟩
def QoW (x0 x7:List Int)(x8 x9:Int):VS:=QpO.st (x0,x7,x8,x9,()) ()
abbrev Qtt:Sh:=⟨[(2, .ty .bool)],[]⟩
def QbP (x2:Bool):VS:=Qtt.st (x2,()) ()
abbrev QvS:Sh:=⟨[],[]⟩
def QeD  : VS:=QvS.st () ()
def QSr:VS→Option (Bool×List (Bool×Exit×VS)):=mkL QpO (fun x y=>(rngOk x.2.1 x.2.2.1 x.2.2.2.1&&samB x.1 x.2.1)) (fun x y=>[((!Qgf x.2.1 x.2.2.2.1.toNat), .ret,QbP (false)),(true, .exit 0,QeD)])
def QmC:G:=⟨TYs,[],29,EL [(85,Qvb),(101,Qlv)],keeps,(Ls [QSr]),IL [],RL []⟩
def QDJ (x0 x7:List Int)(x8 x9:Int):Option (Exit×VS):=
 let a1:=lgt tI x7 (Int.toNat x9)
 br (ilt x9 x8) (br (cIx x7 x9) (br (ine ((QaH a1).2) 0) (some (.ret,QbP false)) (br (cSl x0 0 x9 ((List.length x0:Nat):Int)) (br (Qa2 (lsl x0 0 x9) a1) (br (hasF (lsl x0 0 x9) a1) (some (.ret,QbP false)) (some (.normal,QoW x0 x7 x8 (iadd .i64 x9 1)))) none) none)) none) (some (.exit 0,QeD))
noncomputable def Qkl (x0 x7:List Int)(x8 x9:Int):Option (Exit×VS):=loopF (Qai QmC Qhx Qjy) (QoW x0 x7 x8 x9)
noncomputable def QnL (x0 x7:List Int)(x8 x9:Int):Option (Exit×VS):=
 let a1:=lgt tI x7 (Int.toNat x9)
 br (ilt x9 x8) (br (cIx x7 x9) (br (ine ((QaH a1).2) 0) (some (.ret,QbP false)) (br (cSl x0 0 x9 ((List.length x0:Nat):Int)) (br (Qa2 (lsl x0 0 x9) a1) (br (hasF (lsl x0 0 x9) a1) (some (.ret,QbP false)) (Qkl x0 x7 x8 (iadd .i64 x9 1))) none) none)) none) (some (.exit 0,QeD))
def QkP (x0 x7:List Int)(x8 x9:Int):Option (Exit×VS):=br (!Qgf x7 x9.toNat) (some (.ret,QbP (false)))<|some (.exit 0,QeD)
theorem QN8 (x0 x7:List Int)(x8 x9:Int):Qai QmC Qhx Qjy (QoW x0 x7 x8 x9)=QDJ x0 x7 x8 x9:=by kernel_rfl
theorem QwR (x0 x7:List Int)(x8 x9:Int):Qkl x0 x7 x8 x9=QnL x0 x7 x8 x9:=(Qan _ _).trans (by
 rw [QN8]
 simp only [QDJ,QnL,QaA,nxt_n,nxt_r,nxt_e,nxt_0]
 rfl)
def QJ2 (p0:List Int):Option (V×List VO):=br (rngOk p0 (llen p0) (0:Int)&&samB p0 p0) (br (!Qgf p0 (0:Int).toNat) (some (.t .bool (false),[])) (some (.t .bool true,[]))) none
theorem e_f115 (p0:List Int):runF QmC QyG QIO false [.t (.sl tI) p0] []=QJ2 p0:=by kernel_rfl
theorem Q0a:Qag Tryz.prog 115:= .inr ⟨by decide,_,Tryz.func115,by kernel_rfl,by kernel_rfl⟩
theorem QZa:GOk Tryz.prog QmC:=Qak _ (gA (gC QC3 QBA (gC Qrm Qqw gN)))
theorem QQp (x0 x7:List Int)(x8 x9:Int)(h:(rngOk x7 x8 x9&&samB x0 x7)=true):Qkl x0 x7 x8 x9=QkP x0 x7 x8 x9:=by
 simp only [Bool.and_eq_true] at h
 obtain ⟨h0,hs⟩:=h
 have hs:=Qzo hs
 subst hs
 obtain ⟨rfl,h3,k,rfl,hk⟩:=rng_k h0
 clear h0
 refine Qat x0 (fun k=>Qkl x0 x0 (x0.length:Int) (k:Int)=QkP x0 x0 (x0.length:Int) (k:Int)) ?_ ?_ k hk
 ·rw [QwR]
  simp only [QnL,QkP,Qar,Nat.lt_irrefl,decide_false,Qae,Int.toNat_natCast,QDZ,Bool.not_true]
 ·intro k hk ih
  rw [QwR]
  have hi:Qa2 (x0.take k) x0[k]=true:=decide_eq_true (by rw [List.length_take]; omega)
  simp only [QnL,Qar,Qax,hk,decide_true,Qab,Int.toNat_natCast,add1 (show k<4611686018427387904 by omega),QaC (y:=tI) hk,ih,QPz,QRB (show k≤x0.length by omega),hi,QAj]
  simp only [QkP,Int.toNat_natCast,QyQ hk]
  cases ieq (QaH x0[k]).2 0 <;> cases hasF (x0.take k) x0[k] <;> rfl
theorem QLs: ∀ S l p,QmC.L 0 (fgt Qhx S)=some (true,l)→pickA l=some p→loopF (Qai QmC Qhx Qjy) S=some p:=
 QaB (s:=QpO) ⟨by decide,by decide⟩ (by kernel_rfl) fun x y hok p hp=>by
 simp only [Qap,Qam] at hp
 exact (QQp x.1 x.2.1 x.2.2.1 x.2.2.2.1 (by simpa using hok)).trans hp
theorem QXt:QyG.lok QmC:=by
 repeat (first | exact trivial | exact QLs | refine ⟨?_, ?_⟩)
theorem s_f115 (l:List Int)(h:Qbs l=true):QJ2 l=some (.t .bool (suitF l),[]):=by
 simp only [Qbs,decide_eq_true_eq] at h
 simp only [QJ2,rng_0 h,QpW,Bool.and_self,Qab,Int.toNat_zero]
 unfold suitF
 cases Qgf l 0 <;> rfl
def QHl:Ent:=spec (.pr (.sl tI) .nil) (fun x=>(Qbs x.1)) (fun x=>(.t .bool (suitF x.1)))
theorem QV4:Meets Tryz.prog 115 (strip QHl):=Qaf (R:=runF QmC QyG QIO false) (mG Tryz.func115 (by kernel_rfl) Tryz.ntmps115 (by kernel_rfl) QZa QXt) fun x hok=>(e_f115 x.1).trans (s_f115 x.1 hok)
def nKey (n:Int):Bool:= !keyI n
noncomputable def QiF:TC:=(.sq (.reg (rT Tryz.f119 0)) (.sq (.reg (rT Tryz.f119 1)) .rt))
def Qp4:List (RV×Option Ty):=[((.t 3),some .bool)]
def Qh7:G:=⟨TYs,[],8,EL [(121,QsX)],keeps,(fun _ _=>none),IL [],RL []⟩
def QlG (p0:Int):Option (V×List VO):=some (.t .bool (!(keyI p0)),[.box (.c (.func (.func 121) #[] #[]))])
theorem QEW (p0:Int):runF Qh7 QiF Qp4 false [.t tI p0, .ptr 50000 0] [.box (.c (.func (.func 121) ⟨[]⟩ ⟨[]⟩))]=QlG p0:=by kernel_rfl
theorem QAK:Qag Tryz.prog 119:= .inr ⟨by decide,_,Tryz.func119,by kernel_rfl,by kernel_rfl⟩
theorem QAs:GOk Tryz.prog Qh7:=Qak _ (gA (gC QAI QzO gN))
theorem Qz9:QiF.lok Qh7:=by repeat (first | exact trivial | refine ⟨?_, ?_⟩)
theorem QEe (n:Int):QlG n=some (.t .bool (nKey n),[.box (.c (.func (.func 121) #[] #[]))]):=by
 simp only [QlG]
 rfl
def Qo6:Ent:=specB [.ty tI, .ptr 50000 0] [.bc 121] (fun x y=>true) (fun x y=>(.t .bool (nKey x.1))) (fun x y=>[.box (.c (.func (.func 121) #[] #[]))])
theorem QzQ:Meets Tryz.prog 119 (strip Qo6):=QcM (QaN (R:=runF Qh7 QiF Qp4 false) (mG Tryz.func119 (by kernel_rfl) Tryz.ntmps119 (by kernel_rfl) QAs Qz9) fun x y _=>(QEW x.1).trans (QEe x.1))
def ixKey (l:List Int):Int:=match fstG nKey l with | some k=>(k:Int) | none=> -1
def Qbn:Fg:=⟨[(0,some (.sl tI)),(1,none),(7,some tI),(8,some tI)],[(50000,none)]⟩
noncomputable def QbI:TC:=(.sq (.reg (rT Tryz.f128 2)) (.sq (.cd (.t 9) .sk (.fg ⟨[],[(50000,none)]⟩ (.ex 0))) (.sq (.bk 1 (.sq (.reg (rT Tryz.f128 3)) (.sq (.reg (rT Tryz.f128 4)) (.cd (.t 16) (.sq (.reg (rT Tryz.f128 5)) (.fg ⟨[(4,some tI)],[(50000,none)]⟩ .rt)) .sk)))) (.reg (rT Tryz.f128 6)))))
noncomputable def QdN:TC:=(.sq (.reg (rT Tryz.f128 0)) (.sq (.sq (.reg (rT Tryz.f128 1)) (.bk 0 (.lp 0 Qbn QbI))) (.sq (.reg (rT Tryz.f128 7)) .rt)))
def QgO:List (RV×Option Ty):=[((.t 4),some tI)]
abbrev QcD:Sh:=⟨[(0, .ty (.sl tI)),(1, .fn 119 [(50000,0)]),(7, .ty tI),(8, .ty tI)],[(50000, .bc 121)]⟩
def QcB (x0:List Int)(x7 x8:Int):VS:=QcD.st (x0,(),x7,x8,()) ((),())
abbrev QgJ:Sh:=⟨[(4, .ty tI)],[(50000, .bc 121)]⟩
def Qbc (x4:Int):VS:=QgJ.st (x4,()) ((),())
abbrev Qiq:Sh:=⟨[],[(50000, .bc 121)]⟩
def Qbk  : VS:=Qiq.st () ((),())
def QmV:VS→Option (Bool×List (Bool×Exit×VS)):=mkL QcD (fun x y=>(rngOk x.1 x.2.2.1 x.2.2.2.1)) (fun x y=>[(((fstG nKey (x.1.drop x.2.2.2.1.toNat)).isSome), .ret,Qbc (x.2.2.2.1+((fstG nKey (x.1.drop x.2.2.2.1.toNat)).getD 0:Nat))),(true, .exit 0,Qbk)])
def Qa4:G:=⟨TYs,[],19,EL [(119,Qo6)],keeps,(Ls [QmV]),IL [],RL []⟩
def Qgq (x0:List Int)(x7 x8:Int):Option (Exit×VS):=br (ilt x8 x7) (br (cIx x0 x8) (br (nKey (lgt tI x0 (Int.toNat x8))) (some (.ret,Qbc x8)) (some (.normal,QcB x0 x7 (iadd .i64 x8 1)))) none) (some (.exit 0,Qbk))
noncomputable def QbS (x0:List Int)(x7 x8:Int):Option (Exit×VS):=loopF (Qai Qa4 Qbn QbI) (QcB x0 x7 x8)
noncomputable def Qb5 (x0:List Int)(x7 x8:Int):Option (Exit×VS):=br (ilt x8 x7) (br (cIx x0 x8) (br (nKey (lgt tI x0 (Int.toNat x8))) (some (.ret,Qbc x8)) (QbS x0 x7 (iadd .i64 x8 1))) none) (some (.exit 0,Qbk))
def QbU (x0:List Int)(x7 x8:Int):Option (Exit×VS):=
 let a1:=fstG nKey (x0.drop x8.toNat)
 br (a1.isSome) (some (.ret,Qbc (x8+(a1.getD 0:Nat))))<|some (.exit 0,Qbk)
theorem QlX (x0:List Int)(x7 x8:Int):Qai Qa4 Qbn QbI (QcB x0 x7 x8)=Qgq x0 x7 x8:=by kernel_rfl
theorem Qfk (x0:List Int)(x7 x8:Int):QbS x0 x7 x8=Qb5 x0 x7 x8:=(Qan _ _).trans (by
 rw [QlX]
 simp only [Qgq,Qb5,QaA,nxt_n,nxt_r,nxt_e,nxt_0]
 rfl)
def Qe6 (p0:List Int):Option (V×List VO):=
 let a1:=(fstG nKey (p0.drop (0:Int).toNat))
 br (rngOk p0 (llen p0) (0:Int)) (br (a1.isSome) (some (.t tI ((0:Int)+(a1.getD 0:Nat)),[.box (.c (.func (.func 121) #[] #[]))])) (some (.t tI (-1),[.box (.c (.func (.func 121) #[] #[]))]))) none
theorem QrT (p0:List Int):runF Qa4 QdN QgO false [.t (.sl tI) p0, .fn 119 [(.ptr 50000 0)]] [.box (.c (.func (.func 121) ⟨[]⟩ ⟨[]⟩))]=Qe6 p0:=by kernel_rfl
theorem Qrj:Qag Tryz.prog 128:= .inr ⟨by decide,_,Tryz.func128,by kernel_rfl,by kernel_rfl⟩
theorem Qq0:GOk Tryz.prog Qa4:=Qak _ (gA (gC QAK QzQ gN))
theorem QmS (x0:List Int)(x7 x8:Int)(h:(rngOk x0 x7 x8)=true):QbS x0 x7 x8=QbU x0 x7 x8:=by
 obtain ⟨rfl,h3,k,rfl,hk⟩:=rng_k h
 clear h
 refine Qat x0 (fun k=>QbS x0 (x0.length:Int) (k:Int)=QbU x0 (x0.length:Int) (k:Int)) ?_ ?_ k hk
 ·rw [Qfk]
  simp [Qb5,QbU,Qar,Qae,fstG]
 ·intro k hk ih
  rw [Qfk]
  simp only [Qb5,Qar,Qax,hk,decide_true,Qab,Int.toNat_natCast,add1 (show k<4611686018427387904 by omega),ih,QaC (y:=tI) hk]
  simp only [QbU,Int.toNat_natCast,List.drop_eq_getElem_cons hk,fstG]
  cases h:nKey x0[k] with
  | true=>simp [Qab]
  | false=>
   simp only [Qae,Bool.false_eq_true,if_false]
   cases hq:fstG nKey (x0.drop (k+1)) with
   | none=>rfl
   | some j=>
    simp only [Option.map_some,Option.isSome_some,Option.getD_some,Qab]
    congr 3
    omega
theorem QlN: ∀ S l p,Qa4.L 0 (fgt Qbn S)=some (true,l)→pickA l=some p→loopF (Qai Qa4 Qbn QbI) S=some p:=
 QaB (s:=QcD) ⟨by decide,by decide⟩ (by kernel_rfl) fun x y hok p hp=>by
 simp only [Qap,Qam] at hp
 exact (QmS x.1 x.2.2.1 x.2.2.2.1 (by simpa using hok)).trans hp
theorem QqJ:QdN.lok Qa4:=by
 repeat (first | exact trivial | exact QlN | refine ⟨?_, ?_⟩)
theorem QrL (l:List Int)(h:Qbs l=true):Qe6 l=some (.t tI (ixKey l),[.box (.c (.func (.func 121) #[] #[]))]):=by
 simp only [Qbs,decide_eq_true_eq] at h
 simp only [Qe6,rng_0 h,Qab,Int.toNat_zero,List.drop_zero,ixKey]
 cases fstG nKey l <;> simp [Qab,Qae]
def QgC:Ent:=specB [.ty (.sl tI), .fn 119 [(50000,0)]] [.bc 121] (fun x y=>(Qbs x.1)) (fun x y=>(.t tI (ixKey x.1))) (fun x y=>[.box (.c (.func (.func 121) #[] #[]))])
theorem Qqt:Meets Tryz.prog 128 (strip QgC):=QcM (QaN (R:=runF Qa4 QdN QgO false) (mG Tryz.func128 (by kernel_rfl) Tryz.ntmps128 (by kernel_rfl) Qq0 QqJ) fun x y hok=>(QrT x.1).trans (QrL x.1 hok))
def QrC (l:List Int):Bool:= !l.all keyI
noncomputable def QdP:TC:=(.sq (.reg (rT Tryz.f120 0)) (.sq (.reg (rT Tryz.f120 1)) .rt))
def QgQ:List (RV×Option Ty):=[((.t 4),some .bool)]
def QcT:G:=⟨TYs,[],9,EL [(128,QgC)],keeps,(fun _ _=>none),IL [],RL []⟩
def Qe8 (p0:List Int):Option (V×List VO):=br (Qbs p0) (some (.t .bool (ige (ixKey p0) 0),[.box (.c (.func (.func 121) #[] #[]))])) none
theorem QrV (p0:List Int):runF QcT QdP QgQ false [.t (.sl tI) p0, .fn 119 [(.ptr 50000 0)]] [.box (.c (.func (.func 121) ⟨[]⟩ ⟨[]⟩))]=Qe8 p0:=by kernel_rfl
theorem Qrl:Qag Tryz.prog 120:= .inr ⟨by decide,_,Tryz.func120,by kernel_rfl,by kernel_rfl⟩
theorem Qq2:GOk Tryz.prog QcT:=Qak _ (gA (gC Qrj Qqt gN))
theorem QqL:QdP.lok QcT:=by repeat (first | exact trivial | refine ⟨?_, ?_⟩)
theorem QrN (l:List Int)(h:Qbs l=true):Qe8 l=some (.t .bool (QrC l),[.box (.c (.func (.func 121) #[] #[]))]):=by
 simp only [Qe8,h,Qab]
 have e:ige (ixKey l) 0=QrC l:=by
  have e2:QrC l=l.any nKey:=by
   unfold QrC
   rw [List.not_all_eq_any_not]
   rfl
  rw [e2]
  unfold ixKey
  cases hq:fstG nKey l with
  | none=>rw [QbY.1 hq]; rfl
  | some k=>
   rw [← QbE,hq]
   simp only [ige,Option.isSome_some,decide_eq_true_eq]
   omega
 rw [e]
def QgE:Ent:=specB [.ty (.sl tI), .fn 119 [(50000,0)]] [.bc 121] (fun x y=>(Qbs x.1)) (fun x y=>(.t .bool (QrC x.1))) (fun x y=>[.box (.c (.func (.func 121) #[] #[]))])
theorem Qqv:Meets Tryz.prog 120 (strip QgE):=QcM (QaN (R:=runF QcT QdP QgQ false) (mG Tryz.func120 (by kernel_rfl) Tryz.ntmps120 (by kernel_rfl) Qq2 QqL) fun x y hok=>(QrV x.1).trans (QrN x.1 hok))
noncomputable def QiH:TC:=(.sq (.reg (rT Tryz.f118 0)) (.sq (.reg (rT Tryz.f118 1)) .rt))
def Qp6:List (RV×Option Ty):=[((.t 2),none)]
def Qh9:G:=⟨TYs,[],4,EL [],keeps,(fun _ _=>none),IL [],RL []⟩
def Qsd  : Option (V×List VO):=some (.fn 119 [(.ptr 50000 0)],[.box (.c (.func (.func 121) #[] #[]))])
theorem QEY  : runF Qh9 QiH Qp6 true [.c (.func (.func 121) ⟨[]⟩ ⟨[]⟩)] []=Qsd  :=by kernel_rfl
theorem QAM:Qag Tryz.prog 118:= .inr ⟨by decide,_,Tryz.func118,by kernel_rfl,by kernel_rfl⟩
theorem QAu:GOk Tryz.prog Qh9:=Qak _ (fun p hp=>by cases hp)
theorem QAb:QiH.lok Qh9:=by repeat (first | exact trivial | refine ⟨?_, ?_⟩)
theorem QEg:Qsd=some (.fn 119 [.ptr 50000 0],[.box (.c (.func (.func 121) #[] #[]))]):=rfl
def Qo8:Ent:=specB [.cf 121] [] (fun x y=>true) (fun x y=>(.fn 119 [(.ptr 50000 0)])) (fun x y=>[.box (.c (.func (.func 121) #[] #[]))])
theorem QzS:Meets Tryz.prog 118 (strip Qo8):=QcM (QaN (R:=runF Qh9 QiH Qp6 true) (mG Tryz.func118 (by kernel_rfl) Tryz.ntmps118 (by kernel_rfl) QAu QAb) fun x y _=>(QEY ).trans (QEg ))
def nHash (n:Int):Bool:= !hashF n
noncomputable def QiE:TC:=(.sq (.reg (rT Tryz.f119 0)) (.sq (.reg (rT Tryz.f119 1)) .rt))
def Qp3:List (RV×Option Ty):=[((.t 3),some .bool)]
def Qh6:G:=⟨TYs,[],8,EL [(122,QHi)],keeps,(fun _ _=>none),IL [],RL []⟩
def QlF (p0:Int):Option (V×List VO):=some (.t .bool (!(hashF p0)),[.box (.c (.func (.func 122) #[] #[]))])
theorem QEV (p0:Int):runF Qh6 QiE Qp3 false [.t tI p0, .ptr 50000 0] [.box (.c (.func (.func 122) ⟨[]⟩ ⟨[]⟩))]=QlF p0:=by kernel_rfl
theorem QAJ:Qag Tryz.prog 119:= .inr ⟨by decide,_,Tryz.func119,by kernel_rfl,by kernel_rfl⟩
theorem QAr:GOk Tryz.prog Qh6:=Qak _ (gA (gC QZ7 QV1 gN))
theorem Qz8:QiE.lok Qh6:=by repeat (first | exact trivial | refine ⟨?_, ?_⟩)
theorem QEd (n:Int):QlF n=some (.t .bool (nHash n),[.box (.c (.func (.func 122) #[] #[]))]):=by
 simp only [QlF]
 rfl
def Qo5:Ent:=specB [.ty tI, .ptr 50000 0] [.bc 122] (fun x y=>true) (fun x y=>(.t .bool (nHash x.1))) (fun x y=>[.box (.c (.func (.func 122) #[] #[]))])
theorem QzP:Meets Tryz.prog 119 (strip Qo5):=QcM (QaN (R:=runF Qh6 QiE Qp3 false) (mG Tryz.func119 (by kernel_rfl) Tryz.ntmps119 (by kernel_rfl) QAr Qz8) fun x y _=>(QEV x.1).trans (QEd x.1))
def Qsk (l:List Int):Int:=match fstG nHash l with | some k=>(k:Int) | none=> -1
def Qbm:Fg:=⟨[(0,some (.sl tI)),(1,none),(7,some tI),(8,some tI)],[(50000,none)]⟩
noncomputable def QbH:TC:=(.sq (.reg (rT Tryz.f128 2)) (.sq (.cd (.t 9) .sk (.fg ⟨[],[(50000,none)]⟩ (.ex 0))) (.sq (.bk 1 (.sq (.reg (rT Tryz.f128 3)) (.sq (.reg (rT Tryz.f128 4)) (.cd (.t 16) (.sq (.reg (rT Tryz.f128 5)) (.fg ⟨[(4,some tI)],[(50000,none)]⟩ .rt)) .sk)))) (.reg (rT Tryz.f128 6)))))
noncomputable def QdM:TC:=(.sq (.reg (rT Tryz.f128 0)) (.sq (.sq (.reg (rT Tryz.f128 1)) (.bk 0 (.lp 0 Qbm QbH))) (.sq (.reg (rT Tryz.f128 7)) .rt)))
def QgN:List (RV×Option Ty):=[((.t 4),some tI)]
abbrev QcC:Sh:=⟨[(0, .ty (.sl tI)),(1, .fn 119 [(50000,0)]),(7, .ty tI),(8, .ty tI)],[(50000, .bc 122)]⟩
def QcA (x0:List Int)(x7 x8:Int):VS:=QcC.st (x0,(),x7,x8,()) ((),())
abbrev QgI:Sh:=⟨[(4, .ty tI)],[(50000, .bc 122)]⟩
def Qbb (x4:Int):VS:=QgI.st (x4,()) ((),())
abbrev Qip:Sh:=⟨[],[(50000, .bc 122)]⟩
def Qbj  : VS:=Qip.st () ((),())
def QmU:VS→Option (Bool×List (Bool×Exit×VS)):=mkL QcC (fun x y=>(rngOk x.1 x.2.2.1 x.2.2.2.1)) (fun x y=>[(((fstG nHash (x.1.drop x.2.2.2.1.toNat)).isSome), .ret,Qbb (x.2.2.2.1+((fstG nHash (x.1.drop x.2.2.2.1.toNat)).getD 0:Nat))),(true, .exit 0,Qbj)])
def Qa3:G:=⟨TYs,[],19,EL [(119,Qo5)],keeps,(Ls [QmU]),IL [],RL []⟩
def Qgp (x0:List Int)(x7 x8:Int):Option (Exit×VS):=br (ilt x8 x7) (br (cIx x0 x8) (br (nHash (lgt tI x0 (Int.toNat x8))) (some (.ret,Qbb x8)) (some (.normal,QcA x0 x7 (iadd .i64 x8 1)))) none) (some (.exit 0,Qbj))
noncomputable def QbR (x0:List Int)(x7 x8:Int):Option (Exit×VS):=loopF (Qai Qa3 Qbm QbH) (QcA x0 x7 x8)
noncomputable def Qb4 (x0:List Int)(x7 x8:Int):Option (Exit×VS):=br (ilt x8 x7) (br (cIx x0 x8) (br (nHash (lgt tI x0 (Int.toNat x8))) (some (.ret,Qbb x8)) (QbR x0 x7 (iadd .i64 x8 1))) none) (some (.exit 0,Qbj))
def QbT (x0:List Int)(x7 x8:Int):Option (Exit×VS):=
 let a1:=fstG nHash (x0.drop x8.toNat)
 br (a1.isSome) (some (.ret,Qbb (x8+(a1.getD 0:Nat))))<|some (.exit 0,Qbj)
theorem QlW (x0:List Int)(x7 x8:Int):Qai Qa3 Qbm QbH (QcA x0 x7 x8)=Qgp x0 x7 x8:=by kernel_rfl
theorem Qfj (x0:List Int)(x7 x8:Int):QbR x0 x7 x8=Qb4 x0 x7 x8:=(Qan _ _).trans (by
 rw [QlW]
 simp only [Qgp,Qb4,QaA,nxt_n,nxt_r,nxt_e,nxt_0]
 rfl)
def Qe5 (p0:List Int):Option (V×List VO):=
 let a1:=(fstG nHash (p0.drop (0:Int).toNat))
 br (rngOk p0 (llen p0) (0:Int)) (br (a1.isSome) (some (.t tI ((0:Int)+(a1.getD 0:Nat)),[.box (.c (.func (.func 122) #[] #[]))])) (some (.t tI (-1),[.box (.c (.func (.func 122) #[] #[]))]))) none
theorem QrS (p0:List Int):runF Qa3 QdM QgN false [.t (.sl tI) p0, .fn 119 [(.ptr 50000 0)]] [.box (.c (.func (.func 122) ⟨[]⟩ ⟨[]⟩))]=Qe5 p0:=by kernel_rfl
theorem Qri:Qag Tryz.prog 128:= .inr ⟨by decide,_,Tryz.func128,by kernel_rfl,by kernel_rfl⟩
theorem QqZ:GOk Tryz.prog Qa3:=Qak _ (gA (gC QAJ QzP gN))
theorem QmR (x0:List Int)(x7 x8:Int)(h:(rngOk x0 x7 x8)=true):QbR x0 x7 x8=QbT x0 x7 x8:=by
 obtain ⟨rfl,h3,k,rfl,hk⟩:=rng_k h
 clear h
 refine Qat x0 (fun k=>QbR x0 (x0.length:Int) (k:Int)=QbT x0 (x0.length:Int) (k:Int)) ?_ ?_ k hk
 ·rw [Qfj]
  simp [Qb4,QbT,Qar,Qae,fstG]
 ·intro k hk ih
  rw [Qfj]
  simp only [Qb4,Qar,Qax,hk,decide_true,Qab,Int.toNat_natCast,add1 (show k<4611686018427387904 by omega),ih,QaC (y:=tI) hk]
  simp only [QbT,Int.toNat_natCast,List.drop_eq_getElem_cons hk,fstG]
  cases h:nHash x0[k] with
  | true=>simp [Qab]
  | false=>
   simp only [Qae,Bool.false_eq_true,if_false]
   cases hq:fstG nHash (x0.drop (k+1)) with
   | none=>rfl
   | some j=>
    simp only [Option.map_some,Option.isSome_some,Option.getD_some,Qab]
    congr 3
    omega
theorem QlM: ∀ S l p,Qa3.L 0 (fgt Qbm S)=some (true,l)→pickA l=some p→loopF (Qai Qa3 Qbm QbH) S=some p:=
 QaB (s:=QcC) ⟨by decide,by decide⟩ (by kernel_rfl) fun x y hok p hp=>by
 simp only [Qap,Qam] at hp
 exact (QmR x.1 x.2.2.1 x.2.2.2.1 (by simpa using hok)).trans hp
theorem QqI:QdM.lok Qa3:=by
 repeat (first | exact trivial | exact QlM | refine ⟨?_, ?_⟩)
theorem QrK (l:List Int)(h:Qbs l=true):Qe5 l=some (.t tI (Qsk l),[.box (.c (.func (.func 122) #[] #[]))]):=by
 simp only [Qbs,decide_eq_true_eq] at h
 simp only [Qe5,rng_0 h,Qab,Int.toNat_zero,List.drop_zero,Qsk]
 cases fstG nHash l <;> simp [Qab,Qae]
def QgB:Ent:=specB [.ty (.sl tI), .fn 119 [(50000,0)]] [.bc 122] (fun x y=>(Qbs x.1)) (fun x y=>(.t tI (Qsk x.1))) (fun x y=>[.box (.c (.func (.func 122) #[] #[]))])
theorem Qqs:Meets Tryz.prog 128 (strip QgB):=QcM (QaN (R:=runF Qa3 QdM QgN false) (mG Tryz.func128 (by kernel_rfl) Tryz.ntmps128 (by kernel_rfl) QqZ QqI) fun x y hok=>(QrS x.1).trans (QrK x.1 hok))
def Qi1 (l:List Int):Bool:= !l.all hashF
noncomputable def QdO:TC:=(.sq (.reg (rT Tryz.f120 0)) (.sq (.reg (rT Tryz.f120 1)) .rt))
def QgP:List (RV×Option Ty):=[((.t 4),some .bool)]
def QcS:G:=⟨TYs,[],9,EL [(128,QgB)],keeps,(fun _ _=>none),IL [],RL []⟩
def Qe7 (p0:List Int):Option (V×List VO):=br (Qbs p0) (some (.t .bool (ige (Qsk p0) 0),[.box (.c (.func (.func 122) #[] #[]))])) none
theorem QrU (p0:List Int):runF QcS QdO QgP false [.t (.sl tI) p0, .fn 119 [(.ptr 50000 0)]] [.box (.c (.func (.func 122) ⟨[]⟩ ⟨[]⟩))]=Qe7 p0:=by kernel_rfl
theorem Qrk:Qag Tryz.prog 120:= .inr ⟨by decide,_,Tryz.func120,by kernel_rfl,by kernel_rfl⟩
theorem Qq1:GOk Tryz.prog QcS:=Qak _ (gA (gC Qri Qqs gN))
theorem QqK:QdO.lok QcS:=by repeat (first | exact trivial | refine ⟨?_, ?_⟩)
theorem QrM (l:List Int)(h:Qbs l=true):Qe7 l=some (.t .bool (Qi1 l),[.box (.c (.func (.func 122) #[] #[]))]):=by
 simp only [Qe7,h,Qab]
 have e:ige (Qsk l) 0=Qi1 l:=by
  have e2:Qi1 l=l.any nHash:=by
   unfold Qi1
   rw [List.not_all_eq_any_not]
   rfl
  rw [e2]
  unfold Qsk
  cases hq:fstG nHash l with
  | none=>rw [QbY.1 hq]; rfl
  | some k=>
   rw [← QbE,hq]
   simp only [ige,Option.isSome_some,decide_eq_true_eq]
   omega
 rw [e]
def QgD:Ent:=specB [.ty (.sl tI), .fn 119 [(50000,0)]] [.bc 122] (fun x y=>(Qbs x.1)) (fun x y=>(.t .bool (Qi1 x.1))) (fun x y=>[.box (.c (.func (.func 122) #[] #[]))])
theorem Qqu:Meets Tryz.prog 120 (strip QgD):=QcM (QaN (R:=runF QcS QdO QgP false) (mG Tryz.func120 (by kernel_rfl) Tryz.ntmps120 (by kernel_rfl) Qq1 QqK) fun x y hok=>(QrU x.1).trans (QrM x.1 hok))
noncomputable def QiG:TC:=(.sq (.reg (rT Tryz.f118 0)) (.sq (.reg (rT Tryz.f118 1)) .rt))
def Qp5:List (RV×Option Ty):=[((.t 2),none)]
def Qh8:G:=⟨TYs,[],4,EL [],keeps,(fun _ _=>none),IL [],RL []⟩
def Qsc  : Option (V×List VO):=some (.fn 119 [(.ptr 50000 0)],[.box (.c (.func (.func 122) #[] #[]))])
theorem QEX  : runF Qh8 QiG Qp5 true [.c (.func (.func 122) ⟨[]⟩ ⟨[]⟩)] []=Qsc  :=by kernel_rfl
theorem QAL:Qag Tryz.prog 118:= .inr ⟨by decide,_,Tryz.func118,by kernel_rfl,by kernel_rfl⟩
theorem QAt:GOk Tryz.prog Qh8:=Qak _ (fun p hp=>by cases hp)
theorem QAa:QiG.lok Qh8:=by repeat (first | exact trivial | refine ⟨?_, ?_⟩)
theorem QEf:Qsc=some (.fn 119 [.ptr 50000 0],[.box (.c (.func (.func 122) #[] #[]))]):=rfl
def Qo7:Ent:=specB [.cf 122] [] (fun x y=>true) (fun x y=>(.fn 119 [(.ptr 50000 0)])) (fun x y=>[.box (.c (.func (.func 122) #[] #[]))])
theorem QzR:Meets Tryz.prog 118 (strip Qo7):=QcM (QaN (R:=runF Qh8 QiG Qp5 true) (mG Tryz.func118 (by kernel_rfl) Tryz.ntmps118 (by kernel_rfl) QAt QAa) fun x y _=>(QEX ).trans (QEf ))
end
end Go.Proofs.YtckcgijklnloiaaGreat.K
namespace Go.Proofs.YtckcgijklnloiaaGreat.K
open Go.RowKit
noncomputable section
theorem QyP {c:Int}(h:ieq (QaH c).2 0=true):1≤c∧c≤16:=by
 unfold QaH at h
 split at h
 ·simp [ieq] at h
 ·omega
theorem Qlu {l:List Int}(h:suitF l=true): ∀ (k:Nat) (hk:k<l.length),(1≤l[k]∧l[k]≤16)∧ ¬ l[k] ∈ l.take k:=by
 intro k hk
 simp only [suitF,Qgf,List.all_eq_true,List.mem_range'_1,Bool.and_eq_true,Bool.not_eq_true'] at h
 obtain ⟨h1,h2⟩:=h k ⟨by omega,by omega⟩
 simp only [List.getD_eq_getElem?_getD,List.getElem?_eq_getElem hk,Option.getD_some] at h1 h2
 refine ⟨QyP h1,fun hm=> ?_⟩
 simp only [hasF] at h2
 rw [List.contains_iff_mem.2 hm] at h2
 cases h2
theorem QrZ {l:List Int}(h:suitF l=true):l.Nodup:=by
 have h2:=Qlu h
 rw [List.nodup_iff_pairwise_ne,List.pairwise_iff_getElem]
 intro i j hi hj hij he
 refine (h2 j hj).2 ?_
 rw [← he]
 exact List.mem_iff_getElem.2 ⟨i,by rw [List.length_take]; omega,by rw [List.getElem_take]⟩
theorem QOP {l:List Int}(h:suitF l=true):l.length≤16:=by
 have h1:=QrZ h
 have h2:=Qlu h
 have h3:l ⊆ [1,2,3,4,5,6,7,8,9,10,11,12,13,14,15,16]:=by
  intro x hx
  obtain ⟨k,hk,rfl⟩:=List.mem_iff_getElem.1 hx
  have:=(h2 k hk).1
  simp only [List.mem_cons,List.not_mem_nil,or_false]
  omega
 exact h1.length_le_of_subset h3
abbrev QaJ (e:Endpoint):List Int:=e.2.2.2.1
abbrev eIds (e:Endpoint):List Qao:=e.2.2.2.2.2.1
abbrev eAnch (e:Endpoint):List Int:=e.2.2.2.2.2.2.1
abbrev eHash (e:Endpoint):List Int:=e.2.2.2.2.2.2.2.1
def idOk (x:Qao):Bool:=Qis x.1 x.2.1 x.2.2.1
def idLen (x:Qao):Bool:=QaZ x.2.2.1
def Qa8 (e:Endpoint):Bool:=nameG e.1&&decide ((QaJ e).length≤100000∧(eIds e).length≤100000∧(eAnch e).length≤100000∧(eHash e).length≤100000)&&(eIds e).all idLen
def QaS (e:Endpoint):Bool:=
 wordF e.1&&(!ilt e.2.1 1&&(!igt e.2.1 e.2.2.1&&(!igt e.2.2.1 4&&(suitF (QaJ e)&&(!igt (llen (eIds e)) 4&&(!igt (llen (eAnch e)) 16&&(ascF (eAnch e)&&(ascF (eHash e)&&((eIds e).all idOk&&((eAnch e).all keyI&&(eHash e).all hashF))))))))))
def Qe2 (e:Endpoint):Int:=bif QaS e then 0 else 19
theorem QNt (e:Endpoint):ieq (Qe2 e) 0=QaS e:=by
 unfold Qe2
 cases QaS e <;> rfl
theorem Qxh (e:Endpoint):ine (Qe2 e) 0= !QaS e:=by
 unfold Qe2
 cases QaS e <;> rfl
noncomputable def QRl:List DO:=dT Tryz.f76 12
def Qk3:Fg:=⟨[(1,none),(56,some (.sl Qaw)),(57,some tI),(58,some tI)],[(1,some Qad)]⟩
noncomputable def QmY:TC:=(.sq (.reg (rT Tryz.f76 6)) (.sq (.cd (.t 59) .sk (.fg ⟨[(1,none)],[(1,some Qad)]⟩ (.ex 0))) (.sq (.bk 1 (.sq (.reg (rT Tryz.f76 7)) (.sq (.reg (rT Tryz.f76 8)) (.cd (.t 69) (.sq (.reg (rT Tryz.f76 9)) (.fg ⟨[(2,some tI)],[]⟩ .rt)) .sk)))) (.reg (rT Tryz.f76 10)))))
noncomputable def QFE:TC:=(.sq (.reg (rT Tryz.f76 0)) (.sq (.sq (.reg (rT Tryz.f76 1)) (.cd (.t 32) (.sq (.reg (rT Tryz.f76 2)) .rt) .sk)) (.sq (.sq (.reg (rT Tryz.f76 3)) (.cd (.t 54) (.sq (.reg (rT Tryz.f76 4)) .rt) .sk)) (.sq (.sq (.reg (rT Tryz.f76 5)) (.bk 0 (.lp 0 Qk3 QmY))) (.sq (.reg (rT Tryz.f76 11)) (.sq (.sq (.dr QRl [(0,[1]),(1,[1]),(2,[]),(3,[74,5074,10074,15074]),(4,[74,75,5074,5075,10074,10075,15074,15075]),(5,[]),(6,[1]),(7,[1]),(8,[]),(9,[80,5080,10080,15080]),(10,[80,81,5080,5081,10080,10081,15080,15081]),(11,[])] (.of [0,1,2,3,4,5,6,7,8,9,10,11])) (.cd (.t 82) (.sq (.reg (rT Tryz.f76 13)) .rt) .sk)) (.sq (.reg (rT Tryz.f76 14)) .rt)))))))
def QTh:List (RV×Option Ty):=[((.t 2),some tI)]
abbrev Qs3:Sh:=⟨[(1, .ptr 1 0),(56, .ty (.sl Qaw)),(57, .ty tI),(58, .ty tI)],[(1, .box Qad)]⟩
def QsH (x56:List Qao)(x57 x58:Int)(y1:Endpoint):VS:=Qs3.st ((),x56,x57,x58,()) (y1,())
abbrev Qvl:Sh:=⟨[(2, .ty tI)],[]⟩
def Qd9 (x2:Int):VS:=Qvl.st (x2,()) ()
abbrev Qy8:Sh:=⟨[(1, .ptr 1 0)],[(1, .box Qad)]⟩
def Qfs (y1:Endpoint):VS:=Qy8.st ((),()) (y1,())
def Q0D:VS→Option (Bool×List (Bool×Exit×VS)):=mkL Qs3 (fun x y=>(rngOk x.2.1 x.2.2.1 x.2.2.2.1&&x.2.1.all idLen)) (fun x y=>[((!(x.2.1.drop x.2.2.2.1.toNat).all idOk), .ret,Qd9 (19)),(true, .exit 0,Qfs (y.1))])
def g_f76:G:=⟨TYs,[],83,EL [(114,QHm),(115,QHl),(116,QHk),(117,QHj),(118,Qo7),(118,Qo8),(120,QgD),(120,QgE)],keeps,(Ls [Q0D]),IL [],RL []⟩
def QOg (x56:List Qao)(x57 x58:Int)(y1:Endpoint):Option (Exit×VS):=
 let a1:=lgt Qaw x56 (Int.toNat x58)
 br (ilt x58 x57) (br (cIx x56 x58) (br (Qpc (a1.1) ((a1.2).1) (((a1.2).2).1)) (br (!(Qis (a1.1) ((a1.2).1) (((a1.2).2).1))) (some (.ret,Qd9 19)) (some (.normal,QsH x56 x57 (iadd .i64 x58 1) y1))) none) none) (some (.exit 0,Qfs y1))
noncomputable def QnQ (x56:List Qao)(x57 x58:Int)(y1:Endpoint):Option (Exit×VS):=loopF (Qai g_f76 Qk3 QmY) (QsH x56 x57 x58 y1)
noncomputable def Qt2 (x56:List Qao)(x57 x58:Int)(y1:Endpoint):Option (Exit×VS):=
 let a1:=lgt Qaw x56 (Int.toNat x58)
 br (ilt x58 x57) (br (cIx x56 x58) (br (Qpc (a1.1) ((a1.2).1) (((a1.2).2).1)) (br (!(Qis (a1.1) ((a1.2).1) (((a1.2).2).1))) (some (.ret,Qd9 19)) (QnQ x56 x57 (iadd .i64 x58 1) y1)) none) none) (some (.exit 0,Qfs y1))
def QnZ (x56:List Qao)(x57 x58:Int)(y1:Endpoint):Option (Exit×VS):=br (!(x56.drop x58.toNat).all idOk) (some (.ret,Qd9 (19)))<|some (.exit 0,Qfs (y1))
theorem QRG (x56:List Qao)(x57 x58:Int)(y1:Endpoint):Qai g_f76 Qk3 QmY (QsH x56 x57 x58 y1)=QOg x56 x57 x58 y1:=by kernel_rfl
theorem QBI (x56:List Qao)(x57 x58:Int)(y1:Endpoint):QnQ x56 x57 x58 y1=Qt2 x56 x57 x58 y1:=(Qan _ _).trans (by
 rw [QRG]
 simp only [QOg,Qt2,QaA,nxt_n,nxt_r,nxt_e,nxt_0]
 rfl)
def r_f76 (p0:Endpoint):Option (V×List VO):=
 let a1:=(((((((p0).2).2).2).2).2).2)
 br (nameG p0.1) (br (!(wordF p0.1)) (some (.t tI 19,[])) (br (ilt p0.2.1 1) (some (.t tI 19,[])) (br (igt p0.2.1 p0.2.2.1) (some (.t tI 19,[])) (br (igt p0.2.2.1 4) (some (.t tI 19,[])) (br (Qbs p0.2.2.2.1) (br (!(suitF p0.2.2.2.1)) (some (.t tI 19,[])) (br (igt (llen p0.2.2.2.2.2.1) 4) (some (.t tI 19,[])) (br (igt (llen p0.2.2.2.2.2.2.1) 16) (some (.t tI 19,[])) (br (Qbs p0.2.2.2.2.2.2.1) (br (!(ascF p0.2.2.2.2.2.2.1)) (some (.t tI 19,[])) (br (Qbs p0.2.2.2.2.2.2.2.1) (br (!(ascF p0.2.2.2.2.2.2.2.1)) (some (.t tI 19,[])) (br (rngOk p0.2.2.2.2.2.1 (llen p0.2.2.2.2.2.1) (0:Int)&&p0.2.2.2.2.2.1.all idLen) (br (!(p0.2.2.2.2.2.1.drop (0:Int).toNat).all idOk) (some (.t tI (19),[])) (br (Qbs (a1.1)) (br (QrC (a1.1)) (some (.t tI 19,[])) (br (Qbs ((a1.2).1)) (br (Qi1 ((a1.2).1)) (some (.t tI 19,[])) (some (.t tI 0,[]))) none)) none)) none)) none)) none)))) none))))) none
theorem e_f76 (p0:Endpoint):runF g_f76 QFE QTh false [.t Qad p0] []=r_f76 p0:=by kernel_rfl
theorem QMw:Qag Tryz.prog 76:= .inr ⟨by decide,_,Tryz.func76,by kernel_rfl,by kernel_rfl⟩
theorem gk_f76:GOk Tryz.prog g_f76:=Qak _ (gA (gC Q0b QV5 (gC Q0a QV4 (gC QZ9 QV3 (gC QZ8 QV2 (gC QAL QzR (gC QAM QzS (gC Qrk Qqu (gC Qrl Qqv gN)))))))))
theorem QXG (x56:List Qao)(x57 x58:Int)(y1:Endpoint)(h:(rngOk x56 x57 x58&&x56.all idLen)=true):QnQ x56 x57 x58 y1=QnZ x56 x57 x58 y1:=by
 simp only [Bool.and_eq_true,List.all_eq_true] at h
 obtain ⟨h0,hc⟩:=h
 obtain ⟨rfl,h3,k,rfl,hk⟩:=rng_k h0
 clear h0
 refine Qat x56 (fun k=>QnQ x56 (x56.length:Int) (k:Int) y1=QnZ x56 (x56.length:Int) (k:Int) y1) ?_ ?_ k hk
 ·rw [QBI]
  simp only [Qt2,QnZ,Qar,Nat.lt_irrefl,decide_false,Qae,Int.toNat_natCast,List.drop_length,List.all_nil,Bool.not_true]
 ·intro k hk ih
  rw [QBI]
  have hx:Qpc x56[k].1 x56[k].2.1 x56[k].2.2.1=true:=hc x56[k] (List.getElem_mem hk)
  simp only [Qt2,Qar,Qax,hk,decide_true,Qab,Int.toNat_natCast,add1 (show k<4611686018427387904 by omega),QaC (y:=Qaw) hk,hx,ih]
  simp only [QnZ,Int.toNat_natCast,List.drop_eq_getElem_cons hk,List.all_cons,idOk]
  cases Qis x56[k].1 x56[k].2.1 x56[k].2.2.1 <;> rfl
theorem QPD: ∀ S l p,g_f76.L 0 (fgt Qk3 S)=some (true,l)→pickA l=some p→loopF (Qai g_f76 Qk3 QmY) S=some p:=
 QaB (s:=Qs3) ⟨by decide,by decide⟩ (by kernel_rfl) fun x y hok p hp=>by
 simp only [Qap,Qam] at hp
 exact (QXG x.2.1 x.2.2.1 x.2.2.2.1 y.1 (by simpa using hok)).trans hp
theorem lk_f76:QFE.lok g_f76:=by
 repeat (first | exact trivial | exact QPD | refine ⟨?_, ?_⟩)
theorem s_f76 (e:Endpoint)(h:Qa8 e=true):r_f76 e=some (.t tI (Qe2 e),[]):=by
 simp only [Qa8,Bool.and_eq_true,decide_eq_true_eq] at h
 obtain ⟨⟨h1,h2,h3,h4,h5⟩,h6⟩:=h
 have q2:Qbs (QaJ e)=true:=decide_eq_true h2
 have q4:Qbs (eAnch e)=true:=decide_eq_true h4
 have q5:Qbs (eHash e)=true:=decide_eq_true h5
 unfold Qe2
 simp only [r_f76,h1,q2,q4,q5,rng_0 h3,h6,Bool.and_self,Qab,Int.toNat_zero,List.drop_zero,QrC,Qi1]
 refine br9 (fun g=>by simp only [Bool.not_eq_true'] at g; simp [QaS,g]) fun g1=>br9 (fun g=>by simp [QaS,g]) fun g2=>br9 (fun g=>by simp [QaS,g]) fun g3=>br9 (fun g=>by simp [QaS,g]) fun g4=>br9 (fun g=>by simp only [Bool.not_eq_true'] at g; simp [QaS,g]) fun g5=>br9 (fun g=>by simp [QaS,g]) fun g6=>br9 (fun g=>by simp [QaS,g]) fun g7=>br9 (fun g=>by simp only [Bool.not_eq_true'] at g; simp [QaS,g]) fun g8=>br9 (fun g=>by simp only [Bool.not_eq_true'] at g; simp [QaS,g]) fun g9=>br9 (fun g=>by simp only [Bool.not_eq_true'] at g; simp [QaS,g]) fun g10=>br9 (fun g=>by simp only [Bool.not_eq_true'] at g; simp [QaS,g]) fun g11=>br9 (fun g=>by simp only [Bool.not_eq_true'] at g; simp [QaS,g]) fun g12=> ?_
 simp only [Bool.not_eq_false'] at g1 g5 g8 g9 g10 g11 g12
 have:QaS e=true:=by
  simp only [QaS,g1,g2,g3,g4,g5,g6,g7,g8,g9,g10,g11,g12,Bool.not_false,Bool.and_self]
 rw [this]
 rfl
def QBa:Ent:=spec (.pr Qad .nil) (fun x=>(Qa8 x.1)) (fun x=>(.t tI (Qe2 x.1)))
theorem QKA:Meets Tryz.prog 76 (strip QBa):=Qaf (R:=runF g_f76 QFE QTh false) (mG Tryz.func76 (by kernel_rfl) Tryz.ntmps76 (by kernel_rfl) gk_f76 lk_f76) fun x hok=>(e_f76 x.1).trans (s_f76 x.1 hok)
end
end Go.Proofs.YtckcgijklnloiaaGreat.K
namespace Go.Proofs.YtckcgijklnloiaaGreat.K
open Go.RowKit
def coeO (b:Ty):VO→VO
 | .box (.ag [.t b' x])=>if b'=b∧b'.row=false then .box (.t b' x) else .box (.ag [.t b' x])
 | o=>o
def coeOs:List Ty→List VO→List VO
 | b::bs,o::os=>coeO b o::coeOs bs os
 | _,os=>os
def Qgg (l:List SV)(bs:List Ty)(ok:SVt l→boxT bs→Bool)(F:SVt l→boxT bs→V):Ent:=fun args objs=>specH l bs ok F args (coeOs bs objs)
section
variable {P:Program}{X:Nat→Nat→Prop}{w:World}{σ:Pl}
theorem Q0o {b:Ty}{o:VO}{k:Nat}(h:OAt X w σ k o):OAt X w σ k (coeO b o):=by
 unfold coeO
 split
 ·rename_i b' x
  split
  ·rename_i hq
   obtain ⟨g,ty,vs,h1,h2,h3,h4⟩:=h
   refine ⟨g,ty,vs,h1,h2, ?_,h4⟩
   have e1:(V.ag [.t b' x]).d.cells=[b'.d x]:=rfl
   have e2:(V.t b' x).d.cells=[b'.d x]:=by
    show (b'.d x).cells=_
    rw [Ty.d_cells,Ty.d_one b' x hq.2]
   rw [e2, ← e1]
   exact h3
  ·exact h
 ·exact h
theorem Q0n {b:Ty}{o:VO}(h:o≠ .no):coeO b o≠ .no:=by
 unfold coeO
 split
 ·split <;> simp
 ·exact h
theorem Qlh: ∀ (bs:List Ty) (os:List VO),(coeOs bs os).length=os.length
 | [],os=>rfl
 | b::bs,[]=>rfl
 | b::bs,o::os=>by rw [coeOs,List.length_cons,List.length_cons,Qlh bs os]
theorem QDe: ∀ (bs:List Ty) (os:List VO) (j:Nat) (o:VO),(coeOs bs os)[j]? = some o→ ∃ o',os[j]? = some o'∧(o=o'∨ ∃ b,o=coeO b o')
 | [],os,j,o,h=>⟨o,h, .inl rfl⟩
 | b::bs,[],j,o,h=>⟨o,h, .inl rfl⟩
 | b::bs,o1::os,0,o,h=>by
  simp only [coeOs,List.getElem?_cons_zero,Option.some.injEq] at h
  exact ⟨o1,rfl, .inr ⟨b,h.symm⟩⟩
 | b::bs,o1::os,j+1,o,h=>by
  simp only [coeOs,List.getElem?_cons_succ] at h
  obtain ⟨o',h1,h2⟩:=QDe bs os j o h
  exact ⟨o',by rw [List.getElem?_cons_succ]; exact h1,h2⟩
theorem Qct {f:FuncId}{l:List SV}{bs:List Ty}{ok:SVt l→boxT bs→Bool}{F:SVt l→boxT bs→V}(hM:Meets P f (strip (specH l bs ok F))):Meets P f (strip (Qgg l bs ok F)):=by
 intro args objs r os hF X w σ vs hfin hl hc
 have:=hM args (coeOs bs objs) r os hF X w σ vs hfin ⟨fun j o hj=>by
  obtain ⟨o',h1,h2⟩:=QDe bs objs j o hj
  obtain ⟨g1,g2⟩:=hl.at_ j o' h1
  rcases h2 with rfl | ⟨b,rfl⟩
  ·exact ⟨g1,g2⟩
  ·exact ⟨Q0o g1,Q0n g2⟩,fun i j b hij hi hj=>hl.apart i j b hij (by rwa [Qlh] at hi) (by rwa [Qlh] at hj)⟩ hc
 rw [Qlh] at this
 exact this
end
end Go.Proofs.YtckcgijklnloiaaGreat.K
namespace Go.Proofs.YtckcgijklnloiaaGreat.K
open Go.RowKit
noncomputable section
theorem Qrt {l:List Qaa}(h:QaZ l=true){k:Nat}(hk:k<l.length):QaG l[k]=true:=by
 simp only [QaZ,Bool.and_eq_true,List.all_eq_true] at h
 exact h.2 _ (List.getElem_mem hk)
theorem Qrs {l:List Qaa}(h:QaZ l=true):l.length≤100000:=by
 simp only [QaZ,Bool.and_eq_true,decide_eq_true_eq] at h
 exact h.1
abbrev cAt (l:List Qaa)(k:Nat):Qaa:=l.getD k zCert
theorem Q0q {l:List Qaa}{k:Nat}(hk:k<l.length):cAt l k=l[k]:=by
 simp only [cAt,List.getD_eq_getElem?_getD,List.getElem?_eq_getElem hk,Option.getD_some]
theorem QNy {l:List Qaa}(h:QaZ l=true){k:Nat}(hk:k<l.length):QaG (cAt l k)=true:=by
 rw [Q0q hk]
 exact Qrt h hk
def pathF (l:List Qaa)(i:Int):Bool:= !ilt i 0&&(!ige i (llen l)&&(ieq i 0||((cAt l i.toNat).2.2.2.2.2.2.2.2.1&&ige (cAt l i.toNat).2.2.2.2.2.2.2.2.2.1 (i - 1))))
def Qqi (l:List Qaa)(_i:Int):Bool:=decide (l.length≤100000)
theorem QKf (l:List Qaa)(i:Int)(h:Qqi l i=true):br (ilt i 0) (some (V.t .bool false,([]:List VO))) (br (ige i (llen l)) (some (V.t .bool false,[])) (br (ieq i 0) (some (V.t .bool true,[])) (br (cIx l i) (br (lgt Qac l (Int.toNat i)).2.2.2.2.2.2.2.2.1 (br (cIx l i) (some (V.t .bool (ige (lgt Qac l (Int.toNat i)).2.2.2.2.2.2.2.2.2.1 (isub .i64 i 1)),[])) none) (some (V.t .bool false,[]))) none)))=some (V.t .bool (pathF l i),[]):=by
 simp only [Qqi,decide_eq_true_eq] at h
 unfold pathF
 cases hi:ilt i 0 with
 | true=>rfl
 | false=>
  have hn:=of_decide_eq_false hi
  rw [Qae,Bool.not_false,Bool.true_and]
  cases h1:ige i (llen l) with
  | true=>rfl
  | false=>
   have h2:=of_decide_eq_false h1
   rw [Qae,Bool.not_false,Bool.true_and]
   cases h0:ieq i 0 with
   | true=>rfl
   | false=>
    have hl:llen l≤100000:=by simp only [llen]; omega
    have hc:cIx l i=true:=decide_eq_true ⟨by omega,by simp only [llen] at h2; omega⟩
    rw [Qae,Bool.false_or,hc,Qab,Qbg (by omega)]
    exact brA rfl
noncomputable def Qyq:TC:=(.sq (.reg (rT Tryz.f140 0)) (.sq (.sq (.reg (rT Tryz.f140 1)) (.cd (.t 12) (.sq (.reg (rT Tryz.f140 2)) .rt) .sk)) (.sq (.reg (rT Tryz.f140 3)) .rt)))
def QIy:List (RV×Option Ty):=[((.t 4),some .bool)]
def QCD:G:=⟨TYs,[],32,EL [],keeps,(fun _ _=>none),IL [],RL []⟩
def QJS (p0:List Qaa)(p1:Int):Option (V×List VO):=
 let a1:=(((((((((lgt Qac p0 (Int.toNat p1)).2).2).2).2).2).2).2).2)
 br (ilt p1 0) (some (.t .bool false,[])) (br (ige p1 (llen p0)) (some (.t .bool false,[])) (br (ieq p1 0) (some (.t .bool true,[])) (br (cIx p0 p1) (br (a1.1) (br (cIx p0 p1) (some (.t .bool (ige ((a1.2).1) (isub .i64 p1 1)),[])) none) (some (.t .bool false,[]))) none)))
theorem e_f140 (p0:List Qaa)(p1:Int):runF QCD Qyq QIy false [.t (.sl Qac) p0, .t tI p1] []=QJS p0 p1:=by kernel_rfl
theorem QZY:Qag Tryz.prog 140:= .inr ⟨by decide,_,Tryz.func140,by kernel_rfl,by kernel_rfl⟩
theorem QYU:GOk Tryz.prog QCD:=Qak _ (fun p hp=>by cases hp)
theorem QXd:Qyq.lok QCD:=by repeat (first | exact trivial | refine ⟨?_, ?_⟩)
theorem s_f140 (l:List Qaa)(i:Int)(h:Qqi l i=true):QJS l i=some (.t .bool (pathF l i),[]):=by
 simp only [QJS]
 exact QKf l i h
def QG7:Ent:=spec (.pr (.sl Qac) (.pr tI .nil)) (fun x=>(Qqi x.1 x.2.1)) (fun x=>(.t .bool (pathF x.1 x.2.1)))
theorem QVS:Meets Tryz.prog 140 (strip QG7):=Qaf (R:=runF QCD Qyq QIy false) (mG Tryz.func140 (by kernel_rfl) Tryz.ntmps140 (by kernel_rfl) QYU QXd) fun x hok=>(e_f140 x.1 x.2.1).trans (s_f140 x.1 x.2.1 hok)
def Qty (l:List Qaa)(k:Nat):Int:=if k+1<l.length then (cAt l (k+1)).2.2.2.2.1 else (cSeal (cAt l k)).1
def QgM (l:List Qaa)(i:Int):Int:=Qty l i.toNat
def QhQ (l:List Qaa)(i:Int):Bool:=decide (0≤i∧i<l.length∧l.length≤100000)
theorem add1N {k:Nat}(h:k<4611686018427387904):Int.toNat (iadd .i64 (k:Int) 1)=k+1:=by rw [add1 h]; rfl
noncomputable def Qyo:TC:=(.sq (.reg (rT Tryz.f142 0)) (.sq (.sq (.reg (rT Tryz.f142 1)) (.cd (.t 9) (.sq (.reg (rT Tryz.f142 2)) .rt) .sk)) (.sq (.reg (rT Tryz.f142 3)) .rt)))
def QIw:List (RV×Option Ty):=[((.t 4),some tI)]
def QCB:G:=⟨TYs,[],22,EL [],keeps,(fun _ _=>none),IL [],RL []⟩
def QJQ (p0:List Qaa)(p1:Int):Option (V×List VO):=
 let a1:=iadd .i64 p1 1
 br (ilt a1 (llen p0)) (br (cIx p0 a1) (some (.t tI ((((((lgt Qac p0 (Int.toNat a1)).2).2).2).2).1),[])) none) (br (cIx p0 p1) (some (.t tI ((((((((((((((lgt Qac p0 (Int.toNat p1)).2).2).2).2).2).2).2).2).2).2).2).1).1),[])) none)
theorem e_f142 (p0:List Qaa)(p1:Int):runF QCB Qyo QIw false [.t (.sl Qac) p0, .t tI p1] []=QJQ p0 p1:=by kernel_rfl
theorem QZW:Qag Tryz.prog 142:= .inr ⟨by decide,_,Tryz.func142,by kernel_rfl,by kernel_rfl⟩
theorem QYS:GOk Tryz.prog QCB:=Qak _ (fun p hp=>by cases hp)
theorem QXb:Qyo.lok QCB:=by repeat (first | exact trivial | refine ⟨?_, ?_⟩)
theorem s_f142 (l:List Qaa)(i:Int)(h:QhQ l i=true):QJQ l i=some (.t tI (QgM l i),[]):=by
 simp only [QhQ,decide_eq_true_eq] at h
 obtain ⟨h1,h2,h3⟩:=h
 obtain ⟨k,rfl⟩:=Int.eq_ofNat_of_zero_le h1
 simp only [QJQ,add1N (show k<4611686018427387904 by omega),add1 (show k<4611686018427387904 by omega),Qax,Int.toNat_natCast]
 unfold QgM Qty
 rw [Int.toNat_natCast]
 by_cases hk:k+1<l.length
 ·rw [show ilt ((k+1:Nat):Int) (llen l)=true from decide_eq_true (by simp only [llen]; omega),Qab,decide_eq_true hk,Qab,if_pos hk]
 ·rw [show ilt ((k+1:Nat):Int) (llen l)=false from decide_eq_false (by simp only [llen]; omega),Qae,decide_eq_true (show k<l.length by omega),Qab,if_neg hk]
def QG5:Ent:=spec (.pr (.sl Qac) (.pr tI .nil)) (fun x=>(QhQ x.1 x.2.1)) (fun x=>(.t tI (QgM x.1 x.2.1)))
theorem QVQ:Meets Tryz.prog 142 (strip QG5):=Qaf (R:=runF QCB Qyo QIw false) (mG Tryz.func142 (by kernel_rfl) Tryz.ntmps142 (by kernel_rfl) QYS QXb) fun x hok=>(e_f142 x.1 x.2.1).trans (s_f142 x.1 x.2.1 hok)
def QAw (l:List Qaa)(e:Int)(k:Nat):Bool:=
 bif ieq e 11 then decide (k+1<l.length)&&sne (cAt l k).2.1 (cAt l (k+1)).2.2.1
 else bif ieq e 15 then !pathF l k else !Qlx (cAt l k) (Qty l k)
def Qix (l:List Qaa)(e:Int)(k:Nat):Bool:=(List.range' k (l.length - k)).any (QAw l e)
def Qd0 (l:List Qaa)(e:Int):Bool:=Qix l e 0
theorem QEI (l:List Qaa)(e:Int):Qix l e l.length=false:=by
 unfold Qix
 rw [Nat.sub_self]
 rfl
theorem QAx {l:List Qaa}{e:Int}{k:Nat}(hk:k<l.length):Qix l e k=(QAw l e k||Qix l e (k+1)):=by
 have:l.length - k=(l.length - (k+1))+1:=by omega
 unfold Qix
 rw [this,List.range'_succ,List.any_cons]
def Qq8 (l:List Qaa)(_e:Int):Bool:=QaZ l
noncomputable def QNh:List DO:=dT Tryz.f100 7
noncomputable def QNg:List DO:=dT Tryz.f100 10
def QhC:Fg:=⟨[(0,some (.sl Qac)),(1,some tI),(8,some tI),(9,some tI)],[]⟩
noncomputable def QjD:TC:=(.sq (.reg (rT Tryz.f100 2)) (.sq (.cd (.t 10) .sk (.fg ⟨[],[]⟩ (.ex 0))) (.sq (.bk 1 (.sq (.reg (rT Tryz.f100 3)) (.sq (.reg (rT Tryz.f100 4)) (.sq (.sq (.reg (rT Tryz.f100 5)) (.bk 2 (.sq (.reg (rT Tryz.f100 6)) (.cd (.t 22) (.dr QNh [(0,[]),(1,[]),(2,[]),(3,[]),(4,[]),(5,[]),(6,[]),(7,[]),(8,[]),(9,[]),(10,[]),(11,[]),(12,[]),(13,[]),(14,[]),(15,[]),(16,[]),(17,[]),(18,[]),(19,[])] (.of [0,1,2,3,4,5,6,7,8,9,10,11,12,13,14,15,16,17,18,19])) (.sq (.reg (rT Tryz.f100 8)) (.cd (.t 43) (.reg (rT Tryz.f100 9)) (.dr QNg [(0,[]),(1,[]),(2,[]),(3,[]),(4,[]),(5,[]),(6,[]),(7,[]),(8,[]),(9,[])] (.of [0,1,2,3,4,5,6,7,8,9])))))))) (.sq (.reg (rT Tryz.f100 11)) (.cd (.t 49) (.sq (.reg (rT Tryz.f100 12)) (.fg ⟨[(4,some .bool)],[]⟩ .rt)) .sk)))))) (.reg (rT Tryz.f100 13)))))
noncomputable def QyO:TC:=(.sq (.reg (rT Tryz.f100 0)) (.sq (.sq (.reg (rT Tryz.f100 1)) (.bk 0 (.lp 0 QhC QjD))) (.sq (.reg (rT Tryz.f100 14)) .rt)))
def QIW:List (RV×Option Ty):=[((.t 4),some .bool)]
abbrev QpT:Sh:=⟨[(0, .ty (.sl Qac)),(1, .ty tI),(8, .ty tI),(9, .ty tI)],[]⟩
def Qfg (x0:List Qaa)(x1 x8 x9:Int):VS:=QpT.st (x0,x1,x8,x9,()) ()
abbrev Qtw:Sh:=⟨[(4, .ty .bool)],[]⟩
def Qbd (x4:Bool):VS:=Qtw.st (x4,()) ()
abbrev QvX:Sh:=⟨[],[]⟩
def QeH  : VS:=QvX.st () ()
def QSw:VS→Option (Bool×List (Bool×Exit×VS)):=mkL QpT (fun x y=>(decide (x.2.2.1=x.1.length∧0≤x.2.2.2.1∧x.2.2.2.1≤x.2.2.1)&&QaZ x.1)) (fun x y=>[((Qix x.1 x.2.1 x.2.2.2.1.toNat), .ret,Qbd (true)),(true, .exit 0,QeH)])
def QmF:G:=⟨TYs,[],51,EL [(140,QG7),(141,QG6),(142,QG5)],keeps,(Ls [QSw]),IL [],RL []⟩
def QDN (x0:List Qaa)(x1 x8 x9:Int):Option (Exit×VS):=
 let a1:=iadd .i64 x9 1
 let a2:=lgt Qac x0 (Int.toNat x9)
 br (ilt x9 x8) (br (ieq x1 11) (br (ilt a1 (llen x0)) (br (cIx x0 x9) (br (cIx x0 a1) (br (sne ((a2.2).1) ((((lgt Qac x0 (Int.toNat a1)).2).2).1)) (some (.ret,Qbd true)) (some (.normal,Qfg x0 x1 x8 a1))) none) none) (some (.normal,Qfg x0 x1 x8 a1))) (br (ieq x1 15) (br (Qqi x0 x9) (br (!(pathF x0 x9)) (some (.ret,Qbd true)) (some (.normal,Qfg x0 x1 x8 a1))) none) (br (cIx x0 x9) (br (QhQ x0 x9) (br (QbW a2 (QgM x0 x9)) (br (!(Qlx a2 (QgM x0 x9))) (some (.ret,Qbd true)) (some (.normal,Qfg x0 x1 x8 a1))) none) none) none))) (some (.exit 0,QeH))
noncomputable def QdU (x0:List Qaa)(x1 x8 x9:Int):Option (Exit×VS):=loopF (Qai QmF QhC QjD) (Qfg x0 x1 x8 x9)
noncomputable def QnP (x0:List Qaa)(x1 x8 x9:Int):Option (Exit×VS):=
 let a1:=iadd .i64 x9 1
 let a2:=lgt Qac x0 (Int.toNat x9)
 br (ilt x9 x8) (br (ieq x1 11) (br (ilt a1 (llen x0)) (br (cIx x0 x9) (br (cIx x0 a1) (br (sne ((a2.2).1) ((((lgt Qac x0 (Int.toNat a1)).2).2).1)) (some (.ret,Qbd true)) (QdU x0 x1 x8 a1)) none) none) (QdU x0 x1 x8 a1)) (br (ieq x1 15) (br (Qqi x0 x9) (br (!(pathF x0 x9)) (some (.ret,Qbd true)) (QdU x0 x1 x8 a1)) none) (br (cIx x0 x9) (br (QhQ x0 x9) (br (QbW a2 (QgM x0 x9)) (br (!(Qlx a2 (QgM x0 x9))) (some (.ret,Qbd true)) (QdU x0 x1 x8 a1)) none) none) none))) (some (.exit 0,QeH))
def QkU (x0:List Qaa)(x1 x8 x9:Int):Option (Exit×VS):=br (Qix x0 x1 x9.toNat) (some (.ret,Qbd (true)))<|some (.exit 0,QeH)
theorem QOd (x0:List Qaa)(x1 x8 x9:Int):Qai QmF QhC QjD (Qfg x0 x1 x8 x9)=QDN x0 x1 x8 x9:=by kernel_rfl
theorem QwW (x0:List Qaa)(x1 x8 x9:Int):QdU x0 x1 x8 x9=QnP x0 x1 x8 x9:=(Qan _ _).trans (by
 rw [QOd]
 simp only [QDN,QnP,QaA,nxt_n,nxt_r,nxt_e,nxt_0]
 rfl)
def QJ8 (p0:List Qaa)(p1:Int):Option (V×List VO):=br (decide ((llen p0)=p0.length∧0≤(0:Int)∧(0:Int)≤(llen p0))&&QaZ p0) (br (Qix p0 p1 (0:Int).toNat) (some (.t .bool (true),[])) (some (.t .bool false,[]))) none
theorem e_f100 (p0:List Qaa)(p1:Int):runF QmF QyO QIW false [.t (.sl Qac) p0, .t tI p1] []=QJ8 p0 p1:=by kernel_rfl
theorem Q0h:Qag Tryz.prog 100:= .inr ⟨by decide,_,Tryz.func100,by kernel_rfl,by kernel_rfl⟩
theorem QZi:GOk Tryz.prog QmF:=Qak _ (gA (gC QZY QVS (gC QZX QVR (gC QZW QVQ gN))))
theorem QQu (x0:List Qaa)(x1 x8 x9:Int)(h:(decide (x8=x0.length∧0≤x9∧x9≤x8)&&QaZ x0)=true):QdU x0 x1 x8 x9=QkU x0 x1 x8 x9:=by
 simp only [Bool.and_eq_true,decide_eq_true_eq] at h
 obtain ⟨⟨rfl,h0,h1⟩,hc⟩:=h
 obtain ⟨k,rfl⟩:=Int.eq_ofNat_of_zero_le h0
 have hl:=Qrs hc
 refine Qat x0 (fun k=>QdU x0 x1 (x0.length:Int) (k:Int)=QkU x0 x1 (x0.length:Int) (k:Int)) ?_ ?_ k (by omega)
 ·rw [QwW]
  simp only [QnP,QkU,Qar,Nat.lt_irrefl,decide_false,Qae,Int.toNat_natCast,QEI]
 ·intro k hk ih
  rw [QwW]
  have hx:=Qrt hc hk
  have hs:QhQ x0 (k:Int)=true:=decide_eq_true (by omega)
  have hp:Qqi x0 (k:Int)=true:=decide_eq_true hl
  simp only [QnP,Qar,Qax,hk,decide_true,Qab,Int.toNat_natCast,add1N (show k<4611686018427387904 by omega),add1 (show k<4611686018427387904 by omega),hs,hp,ih,show lgt Qac x0 k=cAt x0 k from rfl,show ∀ q,QbW (cAt x0 k) q=true from fun q=>QNy hc hk,QgM]
  simp only [QkU,Int.toNat_natCast,QAx hk,QAw]
  cases h1:ieq x1 11 with
  | true=>
   rw [Qab,cond_true]
   by_cases hk2:k+1<x0.length
   ·rw [decide_eq_true hk2,Qab,Qab,Bool.true_and]
    show br (sne (cAt x0 k).2.1 (cAt x0 (k+1)).2.2.1) _ _=_
    cases sne (cAt x0 k).2.1 (cAt x0 (k+1)).2.2.1 <;> rfl
   ·rw [decide_eq_false hk2,Qae,Bool.false_and,Bool.false_or]
  | false=>
   rw [Qae,cond_false]
   cases h2:ieq x1 15 with
   | true=>
    rw [Qab,cond_true]
    cases pathF x0 (k:Int) <;> rfl
   | false=>
    rw [Qae,cond_false]
    cases Qlx (cAt x0 k) (Qty x0 k) <;> rfl
theorem QLx: ∀ S l p,QmF.L 0 (fgt QhC S)=some (true,l)→pickA l=some p→loopF (Qai QmF QhC QjD) S=some p:=
 QaB (s:=QpT) ⟨by decide,by decide⟩ (by kernel_rfl) fun x y hok p hp=>by
 simp only [Qap,Qam] at hp
 exact (QQu x.1 x.2.1 x.2.2.1 x.2.2.2.1 (by simpa using hok)).trans hp
theorem QXB:QyO.lok QmF:=by
 repeat (first | exact trivial | exact QLx | refine ⟨?_, ?_⟩)
theorem s_f100 (l:List Qaa)(e:Int)(h:Qq8 l e=true):QJ8 l e=some (.t .bool (Qd0 l e),[]):=by
 have h:QaZ l=true:=h
 simp only [QJ8,h,Bool.and_true,Int.toNat_zero]
 rw [decide_eq_true ⟨trivial,Int.le_refl 0,by simp only [llen]; omega⟩,Qab]
 unfold Qd0
 cases Qix l e 0 <;> rfl
def QHs:Ent:=spec (.pr (.sl Qac) (.pr tI .nil)) (fun x=>(Qq8 x.1 x.2.1)) (fun x=>(.t .bool (Qd0 x.1 x.2.1)))
theorem QWb:Meets Tryz.prog 100 (strip QHs):=Qaf (R:=runF QmF QyO QIW false) (mG Tryz.func100 (by kernel_rfl) Tryz.ntmps100 (by kernel_rfl) QZi QXB) fun x hok=>(e_f100 x.1 x.2.1).trans (s_f100 x.1 x.2.1 hok)
def heldF (c:Qaa)(h:List Int)(d e:Int):Bool:=bif ieq e 13 then ilt d c.2.2.2.2.2.2.1||ige d c.2.2.2.2.2.2.2.1 else !hasF h c.2.2.2.2.2.1.1
def Qmd (_c:Qaa)(h:List Int)(_d _e:Int):Bool:=decide (h.length≤100000)
noncomputable def QFp:TC:=(.sq (.reg (rT Tryz.f99 0)) (.sq (.sq (.reg (rT Tryz.f99 1)) (.cd (.t 10) (.sq (.reg (rT Tryz.f99 2)) .rt) .sk)) (.sq (.reg (rT Tryz.f99 3)) .rt)))
def QS2:List (RV×Option Ty):=[((.t 8),some .bool)]
def g_f99:G:=⟨TYs,[],27,EL [(101,Qlv)],keeps,(fun _ _=>none),IL [],RL []⟩
def r_f99 (p0:Qaa)(p1:List Int)(p2 p3:Int):Option (V×List VO):=br (ieq p3 13) (br (ilt p2 p0.2.2.2.2.2.2.1) (some (.t .bool true,[])) (some (.t .bool (ige p2 p0.2.2.2.2.2.2.2.1),[]))) (br (Qa2 p1 p0.2.2.2.2.2.1.1) (some (.t .bool (!(hasF p1 p0.2.2.2.2.2.1.1)),[])) none)
theorem e_f99 (p0:Qaa)(p1:List Int)(p2 p3:Int):runF g_f99 QFp QS2 false [.t Qac p0, .t (.sl tI) p1, .t tI p2, .t tI p3] []=r_f99 p0 p1 p2 p3:=by kernel_rfl
theorem en_f99:Qag Tryz.prog 99:= .inr ⟨by decide,_,Tryz.func99,by kernel_rfl,by kernel_rfl⟩
theorem gk_f99:GOk Tryz.prog g_f99:=Qak _ (gA (gC Qrm Qqw gN))
theorem lk_f99:QFp.lok g_f99:=by repeat (first | exact trivial | refine ⟨?_, ?_⟩)
theorem s_f99 (c:Qaa)(h:List Int)(d e:Int)(hok:Qmd c h d e=true):r_f99 c h d e=some (.t .bool (heldF c h d e),[]):=by
 simp only [r_f99,show ∀ v,Qa2 h v=true from fun _=>hok,Qab]
 unfold heldF
 cases ieq e 13 with
 | false=>rfl
 | true=>
  rw [Qab,cond_true]
  cases ilt d c.2.2.2.2.2.2.1 <;> rfl
def QSC:Ent:=spec (.pr Qac (.pr (.sl tI) (.pr tI (.pr tI .nil)))) (fun x=>(Qmd x.1 x.2.1 x.2.2.1 x.2.2.2.1)) (fun x=>(.t .bool (heldF x.1 x.2.1 x.2.2.1 x.2.2.2.1)))
theorem ms_f99:Meets Tryz.prog 99 (strip QSC):=Qaf (R:=runF g_f99 QFp QS2 false) (mG Tryz.func99 (by kernel_rfl) Tryz.ntmps99 (by kernel_rfl) gk_f99 lk_f99) fun x hok=>(e_f99 x.1 x.2.1 x.2.2.1 x.2.2.2.1).trans (s_f99 x.1 x.2.1 x.2.2.1 x.2.2.2.1 hok)
def badC (c:Qaa):Bool:= !QaD c
noncomputable def QFt:TC:=(.sq (.reg (rT Tryz.f95 0)) (.sq (.reg (rT Tryz.f95 1)) .rt))
def QS6:List (RV×Option Ty):=[((.t 2),some .bool)]
def g_f95:G:=⟨TYs,[],6,EL [(96,QGe)],keeps,(fun _ _=>none),IL [],RL []⟩
def r_f95 (p0:Qaa):Option (V×List VO):=br (QaG p0) (some (.t .bool (ine (Qfl p0) 0),[])) none
theorem e_f95 (p0:Qaa):runF g_f95 QFt QS6 false [.t Qac p0] []=r_f95 p0:=by kernel_rfl
theorem en_f95:Qag Tryz.prog 95:= .inr ⟨by decide,_,Tryz.func95,by kernel_rfl,by kernel_rfl⟩
theorem gk_f95:GOk Tryz.prog g_f95:=Qak _ (gA (gC QUo QT5 gN))
theorem lk_f95:QFt.lok g_f95:=by repeat (first | exact trivial | refine ⟨?_, ?_⟩)
theorem s_f95 (c:Qaa)(h:QaG c=true):r_f95 c=some (.t .bool (badC c),[]):=by
 simp only [r_f95,h,Qab,QhE]
 rfl
def QSF:Ent:=spec (.pr Qac .nil) (fun x=>(QaG x.1)) (fun x=>(.t .bool (badC x.1)))
theorem ms_f95:Meets Tryz.prog 95 (strip QSF):=Qaf (R:=runF g_f95 QFt QS6 false) (mG Tryz.func95 (by kernel_rfl) Tryz.ntmps95 (by kernel_rfl) gk_f95 lk_f95) fun x hok=>(e_f95 x.1).trans (s_f95 x.1 hok)
def okBad (l:List Qaa):Bool:=QaZ l
theorem QKk {l:List Qaa}(h:okBad l=true):l.length≤100000:=Qrs h
def ixBad (l:List Qaa):Int:=match fstG badC l with | some k=>(k:Int) | none=> -1
def Qc6:Fg:=⟨[(0,some (.sl Qac)),(1,none),(7,some tI),(8,some tI)],[]⟩
noncomputable def Qd6:TC:=(.sq (.reg (rT Tryz.f137 2)) (.sq (.cd (.t 9) .sk (.fg ⟨[],[]⟩ (.ex 0))) (.sq (.bk 1 (.sq (.reg (rT Tryz.f137 3)) (.sq (.reg (rT Tryz.f137 4)) (.cd (.t 16) (.sq (.reg (rT Tryz.f137 5)) (.fg ⟨[(4,some tI)],[]⟩ .rt)) .sk)))) (.reg (rT Tryz.f137 6)))))
noncomputable def Qlr:TC:=(.sq (.reg (rT Tryz.f137 0)) (.sq (.sq (.reg (rT Tryz.f137 1)) (.bk 0 (.lp 0 Qc6 Qd6))) (.sq (.reg (rT Tryz.f137 7)) .rt)))
def Qr8:List (RV×Option Ty):=[((.t 4),some tI)]
abbrev QgG:Sh:=⟨[(0, .ty (.sl Qac)),(1, .cf 95),(7, .ty tI),(8, .ty tI)],[]⟩
def Qgt (x0:List Qaa)(x7 x8:Int):VS:=QgG.st (x0,(),x7,x8,()) ()
abbrev QmO:Sh:=⟨[(4, .ty tI)],[]⟩
def Qb1 (x4:Int):VS:=QmO.st (x4,()) ()
abbrev QpF:Sh:=⟨[],[]⟩
def Qcn  : VS:=QpF.st () ()
def QA0:VS→Option (Bool×List (Bool×Exit×VS)):=mkL QgG (fun x y=>(rngOk x.1 x.2.2.1 x.2.2.2.1&&okBad x.1)) (fun x y=>[(((fstG badC (x.1.drop x.2.2.2.1.toNat)).isSome), .ret,Qb1 (x.2.2.2.1+((fstG badC (x.1.drop x.2.2.2.1.toNat)).getD 0:Nat))),(true, .exit 0,Qcn)])
def Qc1:G:=⟨TYs,[],19,EL [(95,QSF)],keeps,(Ls [QA0]),IL [],RL []⟩
def Qrz (x0:List Qaa)(x7 x8:Int):Option (Exit×VS):=
 let a1:=lgt Qac x0 (Int.toNat x8)
 br (ilt x8 x7) (br (cIx x0 x8) (br (QaG a1) (br (badC a1) (some (.ret,Qb1 x8)) (some (.normal,Qgt x0 x7 (iadd .i64 x8 1)))) none) none) (some (.exit 0,Qcn))
noncomputable def QeP (x0:List Qaa)(x7 x8:Int):Option (Exit×VS):=loopF (Qai Qc1 Qc6 Qd6) (Qgt x0 x7 x8)
noncomputable def QfT (x0:List Qaa)(x7 x8:Int):Option (Exit×VS):=
 let a1:=lgt Qac x0 (Int.toNat x8)
 br (ilt x8 x7) (br (cIx x0 x8) (br (QaG a1) (br (badC a1) (some (.ret,Qb1 x8)) (QeP x0 x7 (iadd .i64 x8 1))) none) none) (some (.exit 0,Qcn))
def QeT (x0:List Qaa)(x7 x8:Int):Option (Exit×VS):=
 let a1:=fstG badC (x0.drop x8.toNat)
 br (a1.isSome) (some (.ret,Qb1 (x8+(a1.getD 0:Nat))))<|some (.exit 0,Qcn)
theorem Qxl (x0:List Qaa)(x7 x8:Int):Qai Qc1 Qc6 Qd6 (Qgt x0 x7 x8)=Qrz x0 x7 x8:=by kernel_rfl
theorem Ql9 (x0:List Qaa)(x7 x8:Int):QeP x0 x7 x8=QfT x0 x7 x8:=(Qan _ _).trans (by
 rw [Qxl]
 simp only [Qrz,QfT,QaA,nxt_n,nxt_r,nxt_e,nxt_0]
 rfl)
def Qqf (p0:List Qaa):Option (V×List VO):=
 let a1:=(fstG badC (p0.drop (0:Int).toNat))
 br (rngOk p0 (llen p0) (0:Int)&&okBad p0) (br (a1.isSome) (some (.t tI ((0:Int)+(a1.getD 0:Nat)),[])) (some (.t tI (-1),[]))) none
theorem QMY (p0:List Qaa):runF Qc1 Qlr Qr8 false [.t (.sl Qac) p0, .c (.func (.func 95) ⟨[]⟩ ⟨[]⟩)] []=Qqf p0:=by kernel_rfl
theorem QEN:Qag Tryz.prog 137:= .inr ⟨by decide,_,Tryz.func137,by kernel_rfl,by kernel_rfl⟩
theorem QEE:GOk Tryz.prog Qc1:=Qak _ (gA (gC en_f95 ms_f95 gN))
theorem QAe (x0:List Qaa)(x7 x8:Int)(h:(rngOk x0 x7 x8&&okBad x0)=true):QeP x0 x7 x8=QeT x0 x7 x8:=by
 simp only [Bool.and_eq_true] at h
 obtain ⟨h0,hc⟩:=h
 obtain ⟨rfl,h3,k,rfl,hk⟩:=rng_k h0
 clear h0
 refine Qat x0 (fun k=>QeP x0 (x0.length:Int) (k:Int)=QeT x0 (x0.length:Int) (k:Int)) ?_ ?_ k hk
 ·rw [Ql9]
  simp [QfT,QeT,Qar,Qae,fstG]
 ·intro k hk ih
  rw [Ql9]
  have hx:=Qrt hc hk
  simp only [QfT,Qar,Qax,hk,decide_true,Qab,Int.toNat_natCast,add1 (show k<4611686018427387904 by omega),ih,QaC (y:=Qac) hk,hx]
  simp only [QeT,Int.toNat_natCast,List.drop_eq_getElem_cons hk,fstG]
  cases h:(badC x0[k]) with
  | true=>simp [Qab]
  | false=>
   simp only [Qae,Bool.false_eq_true,if_false]
   cases hq:fstG badC (x0.drop (k+1)) with
   | none=>rfl
   | some j=>
    simp only [Option.map_some,Option.isSome_some,Option.getD_some,Qab]
    congr 3
    omega
theorem Qwo: ∀ S l p,Qc1.L 0 (fgt Qc6 S)=some (true,l)→pickA l=some p→loopF (Qai Qc1 Qc6 Qd6) S=some p:=
 QaB (s:=QgG) ⟨by decide,by decide⟩ (by kernel_rfl) fun x y hok p hp=>by
 simp only [Qap,Qam] at hp
 exact (QAe x.1 x.2.2.1 x.2.2.2.1 (by simpa using hok)).trans hp
theorem QEt:Qlr.lok Qc1:=by
 repeat (first | exact trivial | exact Qwo | refine ⟨?_, ?_⟩)
theorem QHD (l:List Qaa)(h:okBad l=true):Qqf l=some (.t tI (ixBad l),[]):=by
 have hl:=QKk h
 simp only [Qqf,rng_0 hl,h,Bool.and_self,Qab,Int.toNat_zero,List.drop_zero,ixBad]
 cases fstG badC l <;> simp [Qab,Qae]
def Qr3:Ent:=specH [.ty (.sl Qac), .cf 95] [] (fun x d=>(okBad x.1)) (fun x d=>(.t tI (ixBad x.1)))
theorem QEm:Meets Tryz.prog 137 (strip Qr3):=(QaO (R:=runF Qc1 Qlr Qr8 false) (mG Tryz.func137 (by kernel_rfl) Tryz.ntmps137 (by kernel_rfl) QEE QEt) fun x d hok=>(QMY x.1).trans (QHD x.1 hok))
def QrD (l:List Qaa):Bool:=l.any badC
noncomputable def Qop:TC:=(.sq (.reg (rT Tryz.f94 0)) (.sq (.reg (rT Tryz.f94 1)) .rt))
def Qv0:List (RV×Option Ty):=[((.t 4),some .bool)]
def Qoc:G:=⟨TYs,[],9,EL [(137,Qr3)],keeps,(fun _ _=>none),IL [],RL []⟩
def QtE (p0:List Qaa):Option (V×List VO):=br (okBad p0) (some (.t .bool (ige (ixBad p0) 0),[])) none
theorem QQ8 (p0:List Qaa):runF Qoc Qop Qv0 false [.t (.sl Qac) p0, .c (.func (.func 95) ⟨[]⟩ ⟨[]⟩)] []=QtE p0:=by kernel_rfl
theorem QMq:Qag Tryz.prog 94:= .inr ⟨by decide,_,Tryz.func94,by kernel_rfl,by kernel_rfl⟩
theorem QL8:GOk Tryz.prog Qoc:=Qak _ (gA (gC QEN QEm gN))
theorem QLD:Qop.lok Qoc:=by repeat (first | exact trivial | refine ⟨?_, ?_⟩)
theorem QO2 (l:List Qaa)(h:okBad l=true):QtE l=some (.t .bool (QrD l),[]):=by
 simp only [QtE,h,Qab]
 have e:ige (ixBad l) 0=QrD l:=by
  unfold ixBad QrD
  cases hq:fstG badC l with
  | none=>rw [QbY.1 hq]; rfl
  | some k=>
   rw [← QbE,hq]
   simp only [ige,Option.isSome_some,decide_eq_true_eq]
   omega
 rw [e]
def Qu7:Ent:=specH [.ty (.sl Qac), .cf 95] [] (fun x d=>(okBad x.1)) (fun x d=>(.t .bool (QrD x.1)))
theorem QKu:Meets Tryz.prog 94 (strip Qu7):=(QaO (R:=runF Qoc Qop Qv0 false) (mG Tryz.func94 (by kernel_rfl) Tryz.ntmps94 (by kernel_rfl) QL8 QLD) fun x d hok=>(QQ8 x.1).trans (QO2 x.1 hok))
noncomputable def QFq:TC:=(.sq (.reg (rT Tryz.f98 0)) (.sq (.reg (rT Tryz.f98 1)) .rt))
def QS3:List (RV×Option Ty):=[((.t 5),some .bool)]
def g_f98:G:=⟨TYs,[],11,EL [(99,QSC)],keeps,(fun _ _=>none),IL [],RL []⟩
def r_f98 (p0:Qaa)(d0:List Int)(d1 d2:Int):Option (V×List VO):=br (Qmd p0 d0 d1 d2) (some (.t .bool (heldF p0 d0 d1 d2),[.box (.t (.sl tI) d0), .box (.t tI d1), .box (.t tI d2)])) none
theorem e_f98 (p0:Qaa)(d0:List Int)(d1 d2:Int):runF g_f98 QFq QS3 false [.t Qac p0, .ptr 50000 0, .ptr 50001 0, .ptr 50002 0] [.box (.t (.sl tI) d0), .box (.t tI d1), .box (.t tI d2)]=r_f98 p0 d0 d1 d2:=by kernel_rfl
theorem en_f98:Qag Tryz.prog 98:= .inr ⟨by decide,_,Tryz.func98,by kernel_rfl,by kernel_rfl⟩
theorem gk_f98:GOk Tryz.prog g_f98:=Qak _ (gA (gC en_f99 ms_f99 gN))
theorem lk_f98:QFq.lok g_f98:=by repeat (first | exact trivial | refine ⟨?_, ?_⟩)
theorem s_f98 (c:Qaa)(h:List Int)(d e:Int)(hok:Qmd c h d e=true):r_f98 c h d e=some (.t .bool (heldF c h d e),[.box (.t (.sl tI) h), .box (.t tI d), .box (.t tI e)]):=by
 simp only [r_f98,hok,Qab]
def QSD:Ent:=Qgg [.ty Qac, .ptr 50000 0, .ptr 50001 0, .ptr 50002 0] [(.sl tI),tI,tI] (fun x d=>(Qmd x.1 d.1 d.2.1 d.2.2.1)) (fun x d=>(.t .bool (heldF x.1 d.1 d.2.1 d.2.2.1)))
theorem ms_f98:Meets Tryz.prog 98 (strip QSD):=Qct (QaO (R:=runF g_f98 QFq QS3 false) (mG Tryz.func98 (by kernel_rfl) Tryz.ntmps98 (by kernel_rfl) gk_f98 lk_f98) fun x d hok=>(e_f98 x.1 d.1 d.2.1 d.2.2.1).trans (s_f98 x.1 d.1 d.2.1 d.2.2.1 hok))
def Qdi (l:List Qaa)(h:List Int)(_d _e:Int):Bool:=decide (l.length≤100000∧h.length≤100000)
theorem QEh {l:List Qaa}{h:List Int}{d e:Int}(hq:Qdi l h d e=true):l.length≤100000:=(of_decide_eq_true hq).1
def Qsj (l:List Qaa)(d0:List Int)(d1:Int)(d2:Int):Int:=match fstG (fun c=>heldF c d0 d1 d2) l with | some k=>(k:Int) | none=> -1
def Qc5:Fg:=⟨[(0,some (.sl Qac)),(1,none),(7,some tI),(8,some tI)],[(50000,some (.sl tI)),(50001,some tI),(50002,some tI)]⟩
noncomputable def Qd5:TC:=(.sq (.reg (rT Tryz.f137 2)) (.sq (.cd (.t 9) .sk (.fg ⟨[],[(50000,some (.sl tI)),(50001,some tI),(50002,some tI)]⟩ (.ex 0))) (.sq (.bk 1 (.sq (.reg (rT Tryz.f137 3)) (.sq (.reg (rT Tryz.f137 4)) (.cd (.t 16) (.sq (.reg (rT Tryz.f137 5)) (.fg ⟨[(4,some tI)],[(50000,some (.sl tI)),(50001,some tI),(50002,some tI)]⟩ .rt)) .sk)))) (.reg (rT Tryz.f137 6)))))
noncomputable def Qlq:TC:=(.sq (.reg (rT Tryz.f137 0)) (.sq (.sq (.reg (rT Tryz.f137 1)) (.bk 0 (.lp 0 Qc5 Qd5))) (.sq (.reg (rT Tryz.f137 7)) .rt)))
def Qr7:List (RV×Option Ty):=[((.t 4),some tI)]
abbrev QgF:Sh:=⟨[(0, .ty (.sl Qac)),(1, .fn 98 [(50000,0),(50001,0),(50002,0)]),(7, .ty tI),(8, .ty tI)],[(50000, .box (.sl tI)),(50001, .box tI),(50002, .box tI)]⟩
def Qgs (x0:List Qaa)(x7 x8:Int)(y50000:List Int)(y50001 y50002:Int):VS:=QgF.st (x0,(),x7,x8,()) (y50000,y50001,y50002,())
abbrev QmN:Sh:=⟨[(4, .ty tI)],[(50000, .box (.sl tI)),(50001, .box tI),(50002, .box tI)]⟩
def Qb0 (x4:Int)(y50000:List Int)(y50001 y50002:Int):VS:=QmN.st (x4,()) (y50000,y50001,y50002,())
abbrev QpE:Sh:=⟨[],[(50000, .box (.sl tI)),(50001, .box tI),(50002, .box tI)]⟩
def Qcm (y50000:List Int)(y50001 y50002:Int):VS:=QpE.st () (y50000,y50001,y50002,())
def QAZ:VS→Option (Bool×List (Bool×Exit×VS)):=mkL QgF (fun x y=>(rngOk x.1 x.2.2.1 x.2.2.2.1&&Qdi x.1 y.1 y.2.1 y.2.2.1)) (fun x y=>[(((fstG (fun c=>heldF c y.1 y.2.1 y.2.2.1) (x.1.drop x.2.2.2.1.toNat)).isSome), .ret,Qb0 (x.2.2.2.1+((fstG (fun c=>heldF c y.1 y.2.1 y.2.2.1) (x.1.drop x.2.2.2.1.toNat)).getD 0:Nat)) (y.1) (y.2.1) (y.2.2.1)),(true, .exit 0,Qcm (y.1) (y.2.1) (y.2.2.1))])
def Qc0:G:=⟨TYs,[],19,EL [(98,QSD)],keeps,(Ls [QAZ]),IL [],RL []⟩
def Qry (x0:List Qaa)(x7 x8:Int)(y50000:List Int)(y50001 y50002:Int):Option (Exit×VS):=
 let a1:=lgt Qac x0 (Int.toNat x8)
 br (ilt x8 x7) (br (cIx x0 x8) (br (Qmd a1 y50000 y50001 y50002) (br (heldF a1 y50000 y50001 y50002) (some (.ret,Qb0 x8 y50000 y50001 y50002)) (some (.normal,Qgs x0 x7 (iadd .i64 x8 1) y50000 y50001 y50002))) none) none) (some (.exit 0,Qcm y50000 y50001 y50002))
noncomputable def QeO (x0:List Qaa)(x7 x8:Int)(y50000:List Int)(y50001 y50002:Int):Option (Exit×VS):=loopF (Qai Qc0 Qc5 Qd5) (Qgs x0 x7 x8 y50000 y50001 y50002)
noncomputable def QfS (x0:List Qaa)(x7 x8:Int)(y50000:List Int)(y50001 y50002:Int):Option (Exit×VS):=
 let a1:=lgt Qac x0 (Int.toNat x8)
 br (ilt x8 x7) (br (cIx x0 x8) (br (Qmd a1 y50000 y50001 y50002) (br (heldF a1 y50000 y50001 y50002) (some (.ret,Qb0 x8 y50000 y50001 y50002)) (QeO x0 x7 (iadd .i64 x8 1) y50000 y50001 y50002)) none) none) (some (.exit 0,Qcm y50000 y50001 y50002))
def QeS (x0:List Qaa)(x7 x8:Int)(y50000:List Int)(y50001 y50002:Int):Option (Exit×VS):=br ((fstG (fun c=>heldF c y50000 y50001 y50002) (x0.drop x8.toNat)).isSome) (some (.ret,Qb0 (x8+((fstG (fun c=>heldF c y50000 y50001 y50002) (x0.drop x8.toNat)).getD 0:Nat)) (y50000) (y50001) (y50002)))<|some (.exit 0,Qcm (y50000) (y50001) (y50002))
theorem Qxk (x0:List Qaa)(x7 x8:Int)(y50000:List Int)(y50001 y50002:Int):Qai Qc0 Qc5 Qd5 (Qgs x0 x7 x8 y50000 y50001 y50002)=Qry x0 x7 x8 y50000 y50001 y50002:=by kernel_rfl
theorem Ql8 (x0:List Qaa)(x7 x8:Int)(y50000:List Int)(y50001 y50002:Int):QeO x0 x7 x8 y50000 y50001 y50002=QfS x0 x7 x8 y50000 y50001 y50002:=(Qan _ _).trans (by
 rw [Qxk]
 simp only [Qry,QfS,QaA,nxt_n,nxt_r,nxt_e,nxt_0]
 rfl)
def Qqe (p0:List Qaa)(d0:List Int)(d1 d2:Int):Option (V×List VO):=
 let a1:=(p0.drop (0:Int).toNat)
 br (rngOk p0 (llen p0) (0:Int)&&Qdi p0 d0 d1 d2) (br ((fstG (fun c=>heldF c d0 d1 d2) a1).isSome) (some (.t tI ((0:Int)+((fstG (fun c=>heldF c d0 d1 d2) a1).getD 0:Nat)),[.box (.t (.sl tI) (d0)), .box (.t tI (d1)), .box (.t tI (d2))])) (some (.t tI (-1),[.box (.t (.sl tI) (d0)), .box (.t tI (d1)), .box (.t tI (d2))]))) none
theorem QMX (p0:List Qaa)(d0:List Int)(d1 d2:Int):runF Qc0 Qlq Qr7 false [.t (.sl Qac) p0, .fn 98 [(.ptr 50000 0),(.ptr 50001 0),(.ptr 50002 0)]] [.box (.t (.sl tI) d0), .box (.t tI d1), .box (.t tI d2)]=Qqe p0 d0 d1 d2:=by kernel_rfl
theorem QEM:Qag Tryz.prog 137:= .inr ⟨by decide,_,Tryz.func137,by kernel_rfl,by kernel_rfl⟩
theorem QED:GOk Tryz.prog Qc0:=Qak _ (gA (gC en_f98 ms_f98 gN))
theorem QAd (x0:List Qaa)(x7 x8:Int)(y50000:List Int)(y50001 y50002:Int)(h:(rngOk x0 x7 x8&&Qdi x0 y50000 y50001 y50002)=true):QeO x0 x7 x8 y50000 y50001 y50002=QeS x0 x7 x8 y50000 y50001 y50002:=by
 simp only [Bool.and_eq_true] at h
 obtain ⟨h0,hc⟩:=h
 obtain ⟨rfl,h3,k,rfl,hk⟩:=rng_k h0
 clear h0
 refine Qat x0 (fun k=>QeO x0 (x0.length:Int) (k:Int) y50000 y50001 y50002=QeS x0 (x0.length:Int) (k:Int) y50000 y50001 y50002) ?_ ?_ k hk
 ·rw [Ql8]
  simp [QfS,QeS,Qar,Qae,fstG]
 ·intro k hk ih
  rw [Ql8]
  have hx:=show Qmd x0[k] y50000 y50001 y50002=true from decide_eq_true (of_decide_eq_true hc).2
  simp only [QfS,Qar,Qax,hk,decide_true,Qab,Int.toNat_natCast,add1 (show k<4611686018427387904 by omega),ih,QaC (y:=Qac) hk,hx]
  simp only [QeS,Int.toNat_natCast,List.drop_eq_getElem_cons hk,fstG]
  cases h:(heldF x0[k] y50000 y50001 y50002) with
  | true=>simp [Qab]
  | false=>
   simp only [Qae,Bool.false_eq_true,if_false]
   cases hq:fstG (fun c=>heldF c y50000 y50001 y50002) (x0.drop (k+1)) with
   | none=>rfl
   | some j=>
    simp only [Option.map_some,Option.isSome_some,Option.getD_some,Qab]
    congr 3
    omega
theorem Qwn: ∀ S l p,Qc0.L 0 (fgt Qc5 S)=some (true,l)→pickA l=some p→loopF (Qai Qc0 Qc5 Qd5) S=some p:=
 QaB (s:=QgF) ⟨by decide,by decide⟩ (by kernel_rfl) fun x y hok p hp=>by
 simp only [Qap,Qam] at hp
 exact (QAd x.1 x.2.2.1 x.2.2.2.1 y.1 y.2.1 y.2.2.1 (by simpa using hok)).trans hp
theorem QEs:Qlq.lok Qc0:=by
 repeat (first | exact trivial | exact Qwn | refine ⟨?_, ?_⟩)
theorem QHC (l:List Qaa)(d0:List Int)(d1 d2:Int)(h:Qdi l d0 d1 d2=true):Qqe l d0 d1 d2=some (.t tI (Qsj l d0 d1 d2),[.box (.t (.sl tI) d0), .box (.t tI d1), .box (.t tI d2)]):=by
 have hl:=QEh h
 simp only [Qqe,rng_0 hl,h,Bool.and_self,Qab,Int.toNat_zero,List.drop_zero,Qsj]
 cases fstG (fun c=>heldF c d0 d1 d2) l <;> simp [Qab,Qae]
def Qr2:Ent:=Qgg [.ty (.sl Qac), .fn 98 [(50000,0),(50001,0),(50002,0)]] [(.sl tI),tI,tI] (fun x d=>(Qdi x.1 d.1 d.2.1 d.2.2.1)) (fun x d=>(.t tI (Qsj x.1 d.1 d.2.1 d.2.2.1)))
theorem QEl:Meets Tryz.prog 137 (strip Qr2):=Qct (QaO (R:=runF Qc0 Qlq Qr7 false) (mG Tryz.func137 (by kernel_rfl) Tryz.ntmps137 (by kernel_rfl) QED QEs) fun x d hok=>(QMX x.1 d.1 d.2.1 d.2.2.1).trans (QHC x.1 d.1 d.2.1 d.2.2.1 hok))
def QcN (l:List Qaa)(d0:List Int)(d1:Int)(d2:Int):Bool:=l.any (fun c=>heldF c d0 d1 d2)
noncomputable def Qoo:TC:=(.sq (.reg (rT Tryz.f94 0)) (.sq (.reg (rT Tryz.f94 1)) .rt))
def QvZ:List (RV×Option Ty):=[((.t 4),some .bool)]
def Qob:G:=⟨TYs,[],9,EL [(137,Qr2)],keeps,(fun _ _=>none),IL [],RL []⟩
def QtD (p0:List Qaa)(d0:List Int)(d1 d2:Int):Option (V×List VO):=br (Qdi p0 d0 d1 d2) (some (.t .bool (ige (Qsj p0 d0 d1 d2) 0),[.box (.t (.sl tI) d0), .box (.t tI d1), .box (.t tI d2)])) none
theorem QQ7 (p0:List Qaa)(d0:List Int)(d1 d2:Int):runF Qob Qoo QvZ false [.t (.sl Qac) p0, .fn 98 [(.ptr 50000 0),(.ptr 50001 0),(.ptr 50002 0)]] [.box (.t (.sl tI) d0), .box (.t tI d1), .box (.t tI d2)]=QtD p0 d0 d1 d2:=by kernel_rfl
theorem QMp:Qag Tryz.prog 94:= .inr ⟨by decide,_,Tryz.func94,by kernel_rfl,by kernel_rfl⟩
theorem QL7:GOk Tryz.prog Qob:=Qak _ (gA (gC QEM QEl gN))
theorem QLC:Qoo.lok Qob:=by repeat (first | exact trivial | refine ⟨?_, ?_⟩)
theorem QO1 (l:List Qaa)(d0:List Int)(d1 d2:Int)(h:Qdi l d0 d1 d2=true):QtD l d0 d1 d2=some (.t .bool (QcN l d0 d1 d2),[.box (.t (.sl tI) d0), .box (.t tI d1), .box (.t tI d2)]):=by
 simp only [QtD,h,Qab]
 have e:ige (Qsj l d0 d1 d2) 0=QcN l d0 d1 d2:=by
  unfold Qsj QcN
  cases hq:fstG (fun c=>heldF c d0 d1 d2) l with
  | none=>rw [QbY.1 hq]; rfl
  | some k=>
   rw [← QbE,hq]
   simp only [ige,Option.isSome_some,decide_eq_true_eq]
   omega
 rw [e]
def Qu6:Ent:=Qgg [.ty (.sl Qac), .fn 98 [(50000,0),(50001,0),(50002,0)]] [(.sl tI),tI,tI] (fun x d=>(Qdi x.1 d.1 d.2.1 d.2.2.1)) (fun x d=>(.t .bool (QcN x.1 d.1 d.2.1 d.2.2.1)))
theorem QKt:Meets Tryz.prog 94 (strip Qu6):=Qct (QaO (R:=runF Qob Qoo QvZ false) (mG Tryz.func94 (by kernel_rfl) Tryz.ntmps94 (by kernel_rfl) QL7 QLC) fun x d hok=>(QQ7 x.1 d.1 d.2.1 d.2.2.1).trans (QO1 x.1 d.1 d.2.1 d.2.2.1 hok))
end
end Go.Proofs.YtckcgijklnloiaaGreat.K
namespace Go.Proofs.YtckcgijklnloiaaGreat.K
open Go.RowKit
noncomputable section
abbrev lastC (l:List Qaa):Qaa:=cAt l (l.length - 1)
def chkCh (l:List Qaa)(a h:List Int)(d:Int)(n:ByteArray):Int:=
 if l.length=0 then 4 else if 8<l.length then 3 else
 bif QrD l then 9 else bif !hasS (QaF (cAt l 0)) n then 14 else bif QcN l h d 13 then 13 else bif QcN l h d 7 then 7 else
 bif Qd0 l 11 then 11 else bif Qd0 l 15 then 15 else bif Qd0 l 10 then 10 else bif !hasF a (cSeal (lastC l)).1 then 12 else 0
def QiY (l:List Qaa)(a h:List Int)(_d:Int)(_n:ByteArray):Bool:=QaZ l&&decide (a.length≤100000∧h.length≤100000)
def heldZ (l:List Qaa)(h:List Int)(d:Int)(k:Nat):Option Int:=(([13,7]:List Int).drop k).find? fun e=>QcN l h d e
def failZ (l:List Qaa)(k:Nat):Option Int:=(([11,15,10]:List Int).drop k).find? fun e=>Qd0 l e
theorem QKq {l:List Qaa}(h:QaZ l=true){k:Nat}(hk:k<l.length):(QaF (cAt l k)).length≤100000:=Qxi (QNy h hk)
abbrev Trip:Type:=Int×Int×Int×Unit
def Qk6:Fg:=⟨[(0,some (.sl Qac)),(1,some (.sl tI)),(7,none),(8,none),(34,some Qah),(35,some tI)],[(7,some (.sl tI)),(8,some tI)]⟩
noncomputable def Qm1:TC:=(.sq (.reg (rT Tryz.f57 10)) (.sq (.cd (.t 36) .sk (.fg ⟨[(0,some (.sl Qac)),(1,some (.sl tI))],[]⟩ (.ex 1))) (.sq (.bk 2 (.sq (.reg (rT Tryz.f57 11)) (.sq (.reg (rT Tryz.f57 12)) (.cd (.t 40) (.sq (.reg (rT Tryz.f57 13)) (.fg ⟨[(10,some tI)],[]⟩ .rt)) .sk)))) (.reg (rT Tryz.f57 14)))))
def Qw6:Fg:=⟨[(0,some (.sl Qac)),(1,some (.sl tI)),(43,some (.pr tI (.pr tI (.pr tI .nil)))),(44,some tI)],[]⟩
noncomputable def QA5:TC:=(.sq (.reg (rT Tryz.f57 16)) (.sq (.cd (.t 45) .sk (.fg ⟨[(0,some (.sl Qac)),(1,some (.sl tI))],[]⟩ (.ex 3))) (.sq (.bk 4 (.sq (.reg (rT Tryz.f57 17)) (.sq (.reg (rT Tryz.f57 18)) (.cd (.t 49) (.sq (.reg (rT Tryz.f57 19)) (.fg ⟨[(10,some tI)],[]⟩ .rt)) .sk)))) (.reg (rT Tryz.f57 20)))))
noncomputable def QFK:TC:=(.sq (.reg (rT Tryz.f57 0)) (.sq (.bk 0 (.sq (.reg (rT Tryz.f57 1)) (.cd (.t 15) (.sq (.reg (rT Tryz.f57 2)) .rt) (.sq (.reg (rT Tryz.f57 3)) (.cd (.t 19) (.sq (.reg (rT Tryz.f57 4)) .rt) (.sq (.reg (rT Tryz.f57 5)) (.cd (.t 23) (.sq (.reg (rT Tryz.f57 6)) .rt) (.sq (.reg (rT Tryz.f57 7)) (.cd (.t 26) (.sq (.reg (rT Tryz.f57 8)) .rt) .sk))))))))) (.sq (.sq (.reg (rT Tryz.f57 9)) (.bk 1 (.lp 0 Qk6 Qm1))) (.sq (.sq (.reg (rT Tryz.f57 15)) (.bk 3 (.lp 1 Qw6 QA5))) (.sq (.sq (.reg (rT Tryz.f57 21)) (.cd (.t 62) (.sq (.reg (rT Tryz.f57 22)) .rt) .sk)) (.sq (.reg (rT Tryz.f57 23)) .rt))))))
def QTn:List (RV×Option Ty):=[((.t 10),some tI)]
abbrev Qs6:Sh:=⟨[(0, .ty (.sl Qac)),(1, .ty (.sl tI)),(7, .ptr 7 0),(8, .ptr 8 0),(34, .ty Qah),(35, .ty tI)],[(7, .box (.sl tI)),(8, .box tI)]⟩
def QsJ (x0:List Qaa)(x1:List Int)(x34:Keep)(x35:Int)(y7:List Int)(y8:Int):VS:=Qs6.st (x0,x1,(),(),x34,x35,()) (y7,y8,())
abbrev Qvm:Sh:=⟨[(10, .ty tI)],[]⟩
def Qea (x10:Int):VS:=Qvm.st (x10,()) ()
abbrev Qzb:Sh:=⟨[(0, .ty (.sl Qac)),(1, .ty (.sl tI))],[]⟩
def Qfv (x0:List Qaa)(x1:List Int):VS:=Qzb.st (x0,x1,()) ()
abbrev QHA:Sh:=⟨[(0, .ty (.sl Qac)),(1, .ty (.sl tI)),(43, .ty (.pr tI (.pr tI (.pr tI .nil)))),(44, .ty tI)],[]⟩
def QGc (x0:List Qaa)(x1:List Int)(x43:(Int×(Int×(Int×Unit))))(x44:Int):VS:=QHA.st (x0,x1,x43,x44,()) ()
abbrev QD7:Sh:=⟨[(10, .ty tI)],[]⟩
def QhG (x10:Int):VS:=QD7.st (x10,()) ()
abbrev QHz:Sh:=⟨[(0, .ty (.sl Qac)),(1, .ty (.sl tI))],[]⟩
def QjE (x0:List Qaa)(x1:List Int):VS:=QHz.st (x0,x1,()) ()
def Q0G:VS→Option (Bool×List (Bool×Exit×VS)):=mkL Qs6 (fun x y=>(x.2.2.2.2.1 == ((13,(7,())):Keep)&&decide (0≤x.2.2.2.2.2.1∧x.2.2.2.2.2.1≤2)&&Qdi x.1 y.1 y.2.1 0)) (fun x y=>[(((heldZ x.1 y.1 y.2.1 x.2.2.2.2.2.1.toNat).isSome), .ret,Qea ((heldZ x.1 y.1 y.2.1 x.2.2.2.2.2.1.toNat).getD 0)),(true, .exit 1,Qfv (x.1) (x.2.1))])
def L_f95:VS→Option (Bool×List (Bool×Exit×VS)):=mkL QHA (fun x y=>(x.2.2.1 == ((11,(15,(10,()))):Trip)&&decide (0≤x.2.2.2.1∧x.2.2.2.1≤3)&&QaZ x.1)) (fun x y=>[(((failZ x.1 x.2.2.2.1.toNat).isSome), .ret,QhG ((failZ x.1 x.2.2.2.1.toNat).getD 0)),(true, .exit 3,QjE (x.1) (x.2.1))])
def g_f57:G:=⟨TYs,[],63,EL [(94,Qu6),(94,Qu7),(97,QSE),(100,QHs),(101,Qlv),(1002562,Qgz),(1002594,Qgy)],keeps,(Ls [Q0G,L_f95]),IL [],RL []⟩
def QOj (x0:List Qaa)(x1:List Int)(x34:Keep)(x35:Int)(y7:List Int)(y8:Int):Option (Exit×VS):=
 let a1:=QbA tI 2 x34 x35
 br (ilt x35 2) (br (arrOk tI 2 x34 x35) (br (Qdi x0 y7 y8 a1) (br (QcN x0 y7 y8 a1) (some (.ret,Qea a1)) (some (.normal,QsJ x0 x1 x34 (iadd .i64 x35 1) y7 y8))) none) none) (some (.exit 1,Qfv x0 x1))
noncomputable def QhX (x0:List Qaa)(x1:List Int)(x34:Keep)(x35:Int)(y7:List Int)(y8:Int):Option (Exit×VS):=loopF (Qai g_f57 Qk6 Qm1) (QsJ x0 x1 x34 x35 y7 y8)
noncomputable def Qt5 (x0:List Qaa)(x1:List Int)(x34:Keep)(x35:Int)(y7:List Int)(y8:Int):Option (Exit×VS):=
 let a1:=QbA tI 2 x34 x35
 br (ilt x35 2) (br (arrOk tI 2 x34 x35) (br (Qdi x0 y7 y8 a1) (br (QcN x0 y7 y8 a1) (some (.ret,Qea a1)) (QhX x0 x1 x34 (iadd .i64 x35 1) y7 y8)) none) none) (some (.exit 1,Qfv x0 x1))
def Qh2 (x0:List Qaa)(x1:List Int)(x34:Keep)(x35:Int)(y7:List Int)(y8:Int):Option (Exit×VS):=
 let a1:=heldZ x0 y7 y8 x35.toNat
 br (a1.isSome) (some (.ret,Qea (a1.getD 0)))<|some (.exit 1,Qfv (x0) (x1))
theorem QRJ (x0:List Qaa)(x1:List Int)(x34:Keep)(x35:Int)(y7:List Int)(y8:Int):Qai g_f57 Qk6 Qm1 (QsJ x0 x1 x34 x35 y7 y8)=QOj x0 x1 x34 x35 y7 y8:=by kernel_rfl
theorem Quo (x0:List Qaa)(x1:List Int)(x34:Keep)(x35:Int)(y7:List Int)(y8:Int):QhX x0 x1 x34 x35 y7 y8=Qt5 x0 x1 x34 x35 y7 y8:=(Qan _ _).trans (by
 rw [QRJ]
 simp only [QOj,Qt5,QaA,nxt_n,nxt_r,nxt_e,nxt_0]
 rfl)
def b_f95 (x0:List Qaa)(x1:List Int)(x43:(Int×(Int×(Int×Unit))))(x44:Int):Option (Exit×VS):=
 let a1:=QbA tI 3 x43 x44
 br (ilt x44 3) (br (arrOk tI 3 x43 x44) (br (Qq8 x0 a1) (br (Qd0 x0 a1) (some (.ret,QhG a1)) (some (.normal,QGc x0 x1 x43 (iadd .i64 x44 1)))) none) none) (some (.exit 3,QjE x0 x1))
noncomputable def Qqy (x0:List Qaa)(x1:List Int)(x43:(Int×(Int×(Int×Unit))))(x44:Int):Option (Exit×VS):=loopF (Qai g_f57 Qw6 QA5) (QGc x0 x1 x43 x44)
noncomputable def n_f95 (x0:List Qaa)(x1:List Int)(x43:(Int×(Int×(Int×Unit))))(x44:Int):Option (Exit×VS):=
 let a1:=QbA tI 3 x43 x44
 br (ilt x44 3) (br (arrOk tI 3 x43 x44) (br (Qq8 x0 a1) (br (Qd0 x0 a1) (some (.ret,QhG a1)) (Qqy x0 x1 x43 (iadd .i64 x44 1))) none) none) (some (.exit 3,QjE x0 x1))
def Qmc (x0:List Qaa)(x1:List Int)(x43:(Int×(Int×(Int×Unit))))(x44:Int):Option (Exit×VS):=br ((failZ x0 x44.toNat).isSome) (some (.ret,QhG ((failZ x0 x44.toNat).getD 0)))<|some (.exit 3,QjE (x0) (x1))
theorem be_f95 (x0:List Qaa)(x1:List Int)(x43:(Int×(Int×(Int×Unit))))(x44:Int):Qai g_f57 Qw6 QA5 (QGc x0 x1 x43 x44)=b_f95 x0 x1 x43 x44:=by kernel_rfl
theorem QBF (x0:List Qaa)(x1:List Int)(x43:(Int×(Int×(Int×Unit))))(x44:Int):Qqy x0 x1 x43 x44=n_f95 x0 x1 x43 x44:=(Qan _ _).trans (by
 rw [be_f95]
 simp only [b_f95,n_f95,QaA,nxt_n,nxt_r,nxt_e,nxt_0]
 rfl)
def r_f57 (p0:List Qaa)(p1 p2:List Int)(p3:Int)(p4:ByteArray):Option (V×List VO):=
 let a1:=((((((((((((((lgt Qac (p0) (Int.toNat (isub .i64 (llen (p0)) 1))).2).2).2).2).2).2).2).2).2).2).2).1).1)
 let a2:=((((((((((((lgt Qac p0 (Int.toNat 0)).2).2).2).2).2).2).2).2).2).2).1)
 let a3:=(heldZ p0 p2 p3 (0:Int).toNat)
 let a4:=(failZ (p0) (0:Int).toNat)
 br (ieq (llen p0) 0) (some (.t tI 4,[])) (br (igt (llen p0) 8) (some (.t tI 3,[])) (br (okBad p0) (br (QrD p0) (some (.t tI 9,[])) (br (cIx p0 0) (br (QkV a2 p4) (br (!(hasS a2 p4)) (some (.t tI 14,[])) (br ((13,(7,())) == ((13,(7,())):Keep)&&decide (0≤(0:Int)∧(0:Int)≤2)&&Qdi p0 p2 p3 0) (br (a3.isSome) (some (.t tI (a3.getD 0),[])) (br ((11,(15,(10,()))) == ((11,(15,(10,()))):Trip)&&decide (0≤(0:Int)∧(0:Int)≤3)&&QaZ (p0)) (br (a4.isSome) (some (.t tI (a4.getD 0),[])) (br (cIx (p0) (isub .i64 (llen (p0)) 1)) (br (Qa2 (p1) a1) (br (!(hasF (p1) a1)) (some (.t tI 12,[])) (some (.t tI 0,[]))) none) none)) none)) none)) none) none)) none))
theorem e_f57 (p0:List Qaa)(p1 p2:List Int)(p3:Int)(p4:ByteArray):runF g_f57 QFK QTn false [.t (.sl Qac) p0, .t (.sl tI) p1, .t (.sl tI) p2, .t tI p3, .t .str p4] []=r_f57 p0 p1 p2 p3 p4:=by kernel_rfl
theorem en_f57:Qag Tryz.prog 57:= .inr ⟨by decide,_,Tryz.func57,by kernel_rfl,by kernel_rfl⟩
theorem gk_f57:GOk Tryz.prog g_f57:=Qak _ (gA (gC QMp QKt (gC QMq QKu (gC en_f97 ms_f97 (gC Q0h QWb (gC Qrm Qqw (gC Qrg Qqq (gC Qrf Qqp gN))))))))
theorem QXJ (x0:List Qaa)(x1:List Int)(x34:Keep)(x35:Int)(y7:List Int)(y8:Int)(h:(x34 == ((13,(7,())):Keep)&&decide (0≤x35∧x35≤2)&&Qdi x0 y7 y8 0)=true):QhX x0 x1 x34 x35 y7 y8=Qh2 x0 x1 x34 x35 y7 y8:=by
 simp only [Bool.and_eq_true,decide_eq_true_eq,beq_iff_eq] at h
 obtain ⟨⟨rfl,h1,h2⟩,hc⟩:=h
 have hc: ∀ e,Qdi x0 y7 y8 e=true:=fun e=>hc
 obtain ⟨k,rfl⟩:=Int.eq_ofNat_of_zero_le h1
 have k2:QhX x0 x1 (13,(7,())) ((2:Nat):Int) y7 y8=Qh2 x0 x1 (13,(7,())) ((2:Nat):Int) y7 y8:=by
  rw [Quo]
  rfl
 have k1:QhX x0 x1 (13,(7,())) ((1:Nat):Int) y7 y8=Qh2 x0 x1 (13,(7,())) ((1:Nat):Int) y7 y8:=by
  rw [Quo]
  simp only [Qt5,hc,show ilt ((1:Nat):Int) 2=true from rfl,show arrOk tI 2 ((13,(7,())):Keep) ((1:Nat):Int)=true from rfl,show QbA tI 2 ((13,(7,())):Keep) ((1:Nat):Int)=7 from rfl,Qab,show iadd .i64 ((1:Nat):Int) 1=((2:Nat):Int) from rfl,k2]
  simp only [Qh2,heldZ,Int.toNat_natCast,List.drop_succ_cons,List.drop_zero,List.drop_nil,List.find?_cons,List.find?_nil]
  cases QcN x0 y7 y8 7 <;> rfl
 have k0:QhX x0 x1 (13,(7,())) ((0:Nat):Int) y7 y8=Qh2 x0 x1 (13,(7,())) ((0:Nat):Int) y7 y8:=by
  rw [Quo]
  simp only [Qt5,hc,show ilt ((0:Nat):Int) 2=true from rfl,show arrOk tI 2 ((13,(7,())):Keep) ((0:Nat):Int)=true from rfl,show QbA tI 2 ((13,(7,())):Keep) ((0:Nat):Int)=13 from rfl,Qab,show iadd .i64 ((0:Nat):Int) 1=((1:Nat):Int) from rfl,k1]
  simp only [Qh2,heldZ,Int.toNat_natCast,List.drop_succ_cons,List.drop_zero,List.drop_nil,List.find?_cons,List.find?_nil]
  cases QcN x0 y7 y8 13 <;> rfl
 have:k=0∨k=1∨k=2:=by omega
 rcases this with rfl | rfl | rfl
 ·exact k0
 ·exact k1
 ·exact k2
theorem l_f95 (x0:List Qaa)(x1:List Int)(x43:(Int×(Int×(Int×Unit))))(x44:Int)(h:(x43 == ((11,(15,(10,()))):Trip)&&decide (0≤x44∧x44≤3)&&QaZ x0)=true):Qqy x0 x1 x43 x44=Qmc x0 x1 x43 x44:=by
 simp only [Bool.and_eq_true,decide_eq_true_eq,beq_iff_eq] at h
 obtain ⟨⟨rfl,h1,h2⟩,hc⟩:=h
 have hc: ∀ e,Qq8 x0 e=true:=fun e=>hc
 obtain ⟨k,rfl⟩:=Int.eq_ofNat_of_zero_le h1
 have k3:Qqy x0 x1 (11,(15,(10,()))) ((3:Nat):Int)=Qmc x0 x1 (11,(15,(10,()))) ((3:Nat):Int):=by
  rw [QBF]
  rfl
 have k2:Qqy x0 x1 (11,(15,(10,()))) ((2:Nat):Int)=Qmc x0 x1 (11,(15,(10,()))) ((2:Nat):Int):=by
  rw [QBF]
  simp only [n_f95,hc,show ilt ((2:Nat):Int) 3=true from rfl,show arrOk tI 3 ((11,(15,(10,()))):Trip) ((2:Nat):Int)=true from rfl,show QbA tI 3 ((11,(15,(10,()))):Trip) ((2:Nat):Int)=10 from rfl,Qab,show iadd .i64 ((2:Nat):Int) 1=((3:Nat):Int) from rfl,k3]
  simp only [Qmc,failZ,Int.toNat_natCast,List.drop_succ_cons,List.drop_zero,List.drop_nil,List.find?_cons,List.find?_nil]
  cases Qd0 x0 10 <;> rfl
 have k1:Qqy x0 x1 (11,(15,(10,()))) ((1:Nat):Int)=Qmc x0 x1 (11,(15,(10,()))) ((1:Nat):Int):=by
  rw [QBF]
  simp only [n_f95,hc,show ilt ((1:Nat):Int) 3=true from rfl,show arrOk tI 3 ((11,(15,(10,()))):Trip) ((1:Nat):Int)=true from rfl,show QbA tI 3 ((11,(15,(10,()))):Trip) ((1:Nat):Int)=15 from rfl,Qab,show iadd .i64 ((1:Nat):Int) 1=((2:Nat):Int) from rfl,k2]
  simp only [Qmc,failZ,Int.toNat_natCast,List.drop_succ_cons,List.drop_zero,List.drop_nil,List.find?_cons,List.find?_nil]
  cases Qd0 x0 15 <;> rfl
 have k0:Qqy x0 x1 (11,(15,(10,()))) ((0:Nat):Int)=Qmc x0 x1 (11,(15,(10,()))) ((0:Nat):Int):=by
  rw [QBF]
  simp only [n_f95,hc,show ilt ((0:Nat):Int) 3=true from rfl,show arrOk tI 3 ((11,(15,(10,()))):Trip) ((0:Nat):Int)=true from rfl,show QbA tI 3 ((11,(15,(10,()))):Trip) ((0:Nat):Int)=11 from rfl,Qab,show iadd .i64 ((0:Nat):Int) 1=((1:Nat):Int) from rfl,k1]
  simp only [Qmc,failZ,Int.toNat_natCast,List.drop_succ_cons,List.drop_zero,List.drop_nil,List.find?_cons,List.find?_nil]
  cases Qd0 x0 11 <;> rfl
 have:k=0∨k=1∨k=2∨k=3:=by omega
 rcases this with rfl | rfl | rfl | rfl
 ·exact k0
 ·exact k1
 ·exact k2
 ·exact k3
theorem QPG: ∀ S l p,g_f57.L 0 (fgt Qk6 S)=some (true,l)→pickA l=some p→loopF (Qai g_f57 Qk6 Qm1) S=some p:=
 QaB (s:=Qs6) ⟨by decide,by decide⟩ (by kernel_rfl) fun x y hok p hp=>by
 simp only [Qap,Qam] at hp
 exact (QXJ x.1 x.2.1 x.2.2.2.2.1 x.2.2.2.2.2.1 y.1 y.2.1 (by simpa using hok)).trans hp
theorem lo_f95: ∀ S l p,g_f57.L 1 (fgt Qw6 S)=some (true,l)→pickA l=some p→loopF (Qai g_f57 Qw6 QA5) S=some p:=
 QaB (s:=QHA) ⟨by decide,by decide⟩ (by kernel_rfl) fun x y hok p hp=>by
 simp only [Qap,Qam] at hp
 exact (l_f95 x.1 x.2.1 x.2.2.1 x.2.2.2.1 (by simpa using hok)).trans hp
theorem lk_f57:QFK.lok g_f57:=by
 repeat (first | exact trivial | exact QPG | exact lo_f95 | refine ⟨?_, ?_⟩)
theorem s_f57 (l:List Qaa)(a h:List Int)(d:Int)(n:ByteArray)(hok:QiY l a h d n=true):r_f57 l a h d n=some (.t tI (chkCh l a h d n),[]):=by
 simp only [QiY,Bool.and_eq_true,decide_eq_true_eq] at hok
 obtain ⟨hc,ha,hh⟩:=hok
 have hl:=Qrs hc
 unfold chkCh
 by_cases h0:l.length=0
 ·simp only [r_f57,show ieq (llen l) 0=true from beq_iff_eq.2 (by simp only [llen]; omega),Qab,if_pos h0]
 by_cases h8:8<l.length
 ·simp only [r_f57,show ieq (llen l) 0=false from beq_eq_false_iff_ne.2 (by simp only [llen]; omega),Qae,show igt (llen l) 8=true from decide_eq_true (by simp only [llen]; omega),Qab,if_neg h0,if_pos h8]
 have c1: ∀ e,Qdi l h d e=true:=fun e=>decide_eq_true ⟨hl,hh⟩
 have c2:cIx l 0=true:=by simp only [cIx,decide_eq_true_eq]; omega
 have c3:QkV (QaF (cAt l 0)) n=true:=by
  have:=QKq hc (show 0<l.length by omega)
  exact decide_eq_true (by omega)
 have c4:isub .i64 (llen l) 1=((l.length - 1:Nat):Int):=by rw [Qbg (by simp only [llen]; omega)]; simp only [llen]; omega
 have c5:cIx l ((l.length - 1:Nat):Int)=true:=by simp only [cIx,decide_eq_true_eq]; omega
 have c6: ∀ v,Qa2 a v=true:=fun v=>decide_eq_true ha
 have d1:decide ((0:Int)≤0∧(0:Int)≤2)=true:=rfl
 have d2:decide ((0:Int)≤0∧(0:Int)≤3)=true:=rfl
 simp only [r_f57,show ieq (llen l) 0=false from beq_eq_false_iff_ne.2 (by simp only [llen]; omega),Qae,show igt (llen l) 8=false from decide_eq_false (by simp only [llen]; omega),if_neg h0,if_neg h8,show okBad l=true from hc,hc,c1,c2,c4,c5,c6,d1,d2,Qab,Int.toNat_natCast,Int.toNat_zero,show lgt Qac l 0=cAt l 0 from rfl,show lgt Qac l (l.length - 1)=lastC l from rfl,beq_self_eq_true,Bool.and_self]
 rw [show (QkV (cAt l 0).2.2.2.2.2.2.2.2.2.2.1 n)=true from c3,Qab]
 cases QrD l with
 | true=>rfl
 | false=>
  rw [Qae,cond_false]
  cases hasS (QaF (cAt l 0)) n with
  | false=>rfl
  | true=>
   rw [Bool.not_true,Qae,cond_false]
   simp only [heldZ,failZ,List.drop_zero,List.find?_cons,List.find?_nil]
   cases QcN l h d 13 with
   | true=>rfl
   | false=>
    rw [cond_false]
    cases QcN l h d 7 with
    | true=>rfl
    | false=>
     rw [cond_false]
     simp only [Option.isSome_none,Qae]
     cases Qd0 l 11 with
     | true=>rfl
     | false=>
      rw [cond_false]
      cases Qd0 l 15 with
      | true=>rfl
      | false=>
       rw [cond_false]
       cases Qd0 l 10 with
       | true=>rfl
       | false=>
        simp only [Option.isSome_none,Qae,cond_false]
        cases hasF a (cSeal (lastC l)).1 <;> rfl
def QSN:Ent:=spec (.pr (.sl Qac) (.pr (.sl tI) (.pr (.sl tI) (.pr tI (.pr .str .nil))))) (fun x=>(QiY x.1 x.2.1 x.2.2.1 x.2.2.2.1 x.2.2.2.2.1)) (fun x=>(.t tI (chkCh x.1 x.2.1 x.2.2.1 x.2.2.2.1 x.2.2.2.2.1)))
theorem ms_f57:Meets Tryz.prog 57 (strip QSN):=Qaf (R:=runF g_f57 QFK QTn false) (mG Tryz.func57 (by kernel_rfl) Tryz.ntmps57 (by kernel_rfl) gk_f57 lk_f57) fun x hok=>(e_f57 x.1 x.2.1 x.2.2.1 x.2.2.2.1 x.2.2.2.2.1).trans (s_f57 x.1 x.2.1 x.2.2.1 x.2.2.2.1 x.2.2.2.2.1 hok)
end
end Go.Proofs.YtckcgijklnloiaaGreat.K
namespace Go.Proofs.YtckcgijklnloiaaGreat.K
open Go.RowKit
noncomputable section
def idAlg (x:Qao)(s:Suite):Bool:=ieq s.2.2.2.1.1 0||ieq x.1.1 s.2.2.2.1.1
noncomputable def QFu:TC:=(.sq (.reg (rT Tryz.f93 0)) (.sq (.reg (rT Tryz.f93 1)) .rt))
def QS7:List (RV×Option Ty):=[((.t 3),some .bool)]
def g_f93:G:=⟨TYs,[],17,EL [],keeps,(fun _ _=>none),IL [],RL []⟩
def r_f93 (p0:Qao)(d0:Suite):Option (V×List VO):=br (ieq d0.2.2.2.1.1 0) (some (.t .bool true,[.box (.t Qay d0)])) (some (.t .bool (ieq p0.1.1 d0.2.2.2.1.1),[.box (.t Qay d0)]))
theorem e_f93 (p0:Qao)(d0:Suite):runF g_f93 QFu QS7 false [.t Qaw p0, .ptr 50000 0] [.box (.t Qay d0)]=r_f93 p0 d0:=by kernel_rfl
theorem en_f93:Qag Tryz.prog 93:= .inr ⟨by decide,_,Tryz.func93,by kernel_rfl,by kernel_rfl⟩
theorem gk_f93:GOk Tryz.prog g_f93:=Qak _ (fun p hp=>by cases hp)
theorem lk_f93:QFu.lok g_f93:=by repeat (first | exact trivial | refine ⟨?_, ?_⟩)
theorem s_f93 (x:Qao)(s:Suite):r_f93 x s=some (.t .bool (idAlg x s),[.box (.t Qay s)]):=by
 simp only [r_f93]
 unfold idAlg
 cases ieq s.2.2.2.1.1 0 <;> rfl
def QSG:Ent:=Qgg [.ty Qaw, .ptr 50000 0] [Qay] (fun x d=>true) (fun x d=>(.t .bool (idAlg x.1 d.1)))
theorem ms_f93:Meets Tryz.prog 93 (strip QSG):=Qct (QaO (R:=runF g_f93 QFu QS7 false) (mG Tryz.func93 (by kernel_rfl) Tryz.ntmps93 (by kernel_rfl) gk_f93 lk_f93) fun x d _=>(e_f93 x.1 d.1).trans (s_f93 x.1 d.1))
def okAlg (l:List Qao)(_s:Suite):Bool:=decide (l.length≤100000)
def ixAlg (l:List Qao)(s:Suite):Int:=match fstG (fun x=>idAlg x s) l with | some k=>(k:Int) | none=> -1
def QdX:Fg:=⟨[(0,some (.sl Qaw)),(1,none),(7,some tI),(8,some tI)],[(50000,some Qay)]⟩
noncomputable def Qfn:TC:=(.sq (.reg (rT Tryz.f92 2)) (.sq (.cd (.t 9) .sk (.fg ⟨[],[(50000,some Qay)]⟩ (.ex 0))) (.sq (.bk 1 (.sq (.reg (rT Tryz.f92 3)) (.sq (.reg (rT Tryz.f92 4)) (.cd (.t 16) (.sq (.reg (rT Tryz.f92 5)) (.fg ⟨[(4,some tI)],[(50000,some Qay)]⟩ .rt)) .sk)))) (.reg (rT Tryz.f92 6)))))
noncomputable def Qoq:TC:=(.sq (.reg (rT Tryz.f92 0)) (.sq (.sq (.reg (rT Tryz.f92 1)) (.bk 0 (.lp 0 QdX Qfn))) (.sq (.reg (rT Tryz.f92 7)) .rt)))
def Qv1:List (RV×Option Ty):=[((.t 4),some tI)]
abbrev QiM:Sh:=⟨[(0, .ty (.sl Qaw)),(1, .fn 93 [(50000,0)]),(7, .ty tI),(8, .ty tI)],[(50000, .box Qay)]⟩
def QiI (x0:List Qao)(x7 x8:Int)(y50000:Suite):VS:=QiM.st (x0,(),x7,x8,()) (y50000,())
abbrev Qpd:Sh:=⟨[(4, .ty tI)],[(50000, .box Qay)]⟩
def Qcj (x4:Int)(y50000:Suite):VS:=Qpd.st (x4,()) (y50000,())
abbrev QrH:Sh:=⟨[],[(50000, .box Qay)]⟩
def QcO (y50000:Suite):VS:=QrH.st () (y50000,())
def QFb:VS→Option (Bool×List (Bool×Exit×VS)):=mkL QiM (fun x y=>(rngOk x.1 x.2.2.1 x.2.2.2.1)) (fun x y=>[(((fstG (fun x=>idAlg x y.1) (x.1.drop x.2.2.2.1.toNat)).isSome), .ret,Qcj (x.2.2.2.1+((fstG (fun x=>idAlg x y.1) (x.1.drop x.2.2.2.1.toNat)).getD 0:Nat)) (y.1)),(true, .exit 0,QcO (y.1))])
def QeX:G:=⟨TYs,[],19,EL [(93,QSG)],keeps,(Ls [QFb]),IL [],RL []⟩
def Qsu (x0:List Qao)(x7 x8:Int)(y50000:Suite):Option (Exit×VS):=br (ilt x8 x7) (br (cIx x0 x8) (br (idAlg (lgt Qaw x0 (Int.toNat x8)) y50000) (some (.ret,Qcj x8 y50000)) (some (.normal,QiI x0 x7 (iadd .i64 x8 1) y50000))) none) (some (.exit 0,QcO y50000))
noncomputable def QfX (x0:List Qao)(x7 x8:Int)(y50000:Suite):Option (Exit×VS):=loopF (Qai QeX QdX Qfn) (QiI x0 x7 x8 y50000)
noncomputable def QhR (x0:List Qao)(x7 x8:Int)(y50000:Suite):Option (Exit×VS):=br (ilt x8 x7) (br (cIx x0 x8) (br (idAlg (lgt Qaw x0 (Int.toNat x8)) y50000) (some (.ret,Qcj x8 y50000)) (QfX x0 x7 (iadd .i64 x8 1) y50000)) none) (some (.exit 0,QcO y50000))
def Qf1 (x0:List Qao)(x7 x8:Int)(y50000:Suite):Option (Exit×VS):=br ((fstG (fun x=>idAlg x y50000) (x0.drop x8.toNat)).isSome) (some (.ret,Qcj (x8+((fstG (fun x=>idAlg x y50000) (x0.drop x8.toNat)).getD 0:Nat)) (y50000)))<|some (.exit 0,QcO (y50000))
theorem QAV (x0:List Qao)(x7 x8:Int)(y50000:Suite):Qai QeX QdX Qfn (QiI x0 x7 x8 y50000)=Qsu x0 x7 x8 y50000:=by kernel_rfl
theorem QqE (x0:List Qao)(x7 x8:Int)(y50000:Suite):QfX x0 x7 x8 y50000=QhR x0 x7 x8 y50000:=(Qan _ _).trans (by
 rw [QAV]
 simp only [Qsu,QhR,QaA,nxt_n,nxt_r,nxt_e,nxt_0]
 rfl)
def QtF (p0:List Qao)(d0:Suite):Option (V×List VO):=
 let a1:=(p0.drop (0:Int).toNat)
 br (rngOk p0 (llen p0) (0:Int)) (br ((fstG (fun x=>idAlg x d0) a1).isSome) (some (.t tI ((0:Int)+((fstG (fun x=>idAlg x d0) a1).getD 0:Nat)),[.box (.t Qay (d0))])) (some (.t tI (-1),[.box (.t Qay (d0))]))) none
theorem QQ9 (p0:List Qao)(d0:Suite):runF QeX Qoq Qv1 false [.t (.sl Qaw) p0, .fn 93 [(.ptr 50000 0)]] [.box (.t Qay d0)]=QtF p0 d0:=by kernel_rfl
theorem QMr:Qag Tryz.prog 92:= .inr ⟨by decide,_,Tryz.func92,by kernel_rfl,by kernel_rfl⟩
theorem QL9:GOk Tryz.prog QeX:=Qak _ (gA (gC en_f93 ms_f93 gN))
theorem QEx (x0:List Qao)(x7 x8:Int)(y50000:Suite)(h:(rngOk x0 x7 x8)=true):QfX x0 x7 x8 y50000=Qf1 x0 x7 x8 y50000:=by
 obtain ⟨rfl,h3,k,rfl,hk⟩:=rng_k h
 clear h
 refine Qat x0 (fun k=>QfX x0 (x0.length:Int) (k:Int) y50000=Qf1 x0 (x0.length:Int) (k:Int) y50000) ?_ ?_ k hk
 ·rw [QqE]
  simp [QhR,Qf1,Qar,Qae,fstG]
 ·intro k hk ih
  rw [QqE]
  simp only [QhR,Qar,Qax,hk,decide_true,Qab,Int.toNat_natCast,add1 (show k<4611686018427387904 by omega),ih,QaC (y:=Qaw) hk]
  simp only [Qf1,Int.toNat_natCast,List.drop_eq_getElem_cons hk,fstG]
  cases h:(idAlg x0[k] y50000) with
  | true=>simp [Qab]
  | false=>
   simp only [Qae,Bool.false_eq_true,if_false]
   cases hq:fstG (fun x=>idAlg x y50000) (x0.drop (k+1)) with
   | none=>rfl
   | some j=>
    simp only [Option.map_some,Option.isSome_some,Option.getD_some,Qab]
    congr 3
    omega
theorem Qz1: ∀ S l p,QeX.L 0 (fgt QdX S)=some (true,l)→pickA l=some p→loopF (Qai QeX QdX Qfn) S=some p:=
 QaB (s:=QiM) ⟨by decide,by decide⟩ (by kernel_rfl) fun x y hok p hp=>by
 simp only [Qap,Qam] at hp
 exact (QEx x.1 x.2.2.1 x.2.2.2.1 y.1 (by simpa using hok)).trans hp
theorem QLE:Qoq.lok QeX:=by
 repeat (first | exact trivial | exact Qz1 | refine ⟨?_, ?_⟩)
theorem QO3 (l:List Qao)(s:Suite)(h:okAlg l s=true):QtF l s=some (.t tI (ixAlg l s),[.box (.t Qay s)]):=by
 have hl:l.length≤100000:=of_decide_eq_true h
 simp only [QtF,rng_0 hl,Qab,Int.toNat_zero,List.drop_zero,ixAlg]
 cases fstG (fun x=>idAlg x s) l <;> simp [Qab,Qae]
def Qu8:Ent:=Qgg [.ty (.sl Qaw), .fn 93 [(50000,0)]] [Qay] (fun x d=>(okAlg x.1 d.1)) (fun x d=>(.t tI (ixAlg x.1 d.1)))
theorem QKv:Meets Tryz.prog 92 (strip Qu8):=Qct (QaO (R:=runF QeX Qoq Qv1 false) (mG Tryz.func92 (by kernel_rfl) Tryz.ntmps92 (by kernel_rfl) QL9 QLE) fun x d hok=>(QQ9 x.1 d.1).trans (QO3 x.1 d.1 hok))
def Qbl (e:Endpoint)(c:Int):Int×Bool:=bif ine (QaH c).2 0 then (-1,false) else (ixAlg (eIds e) (QaH c).1,ige (ixAlg (eIds e) (QaH c).1) 0)
def idnOk (e:Endpoint)(_c:Int):Bool:=decide ((eIds e).length≤100000)
noncomputable def QFL:TC:=(.sq (.reg (rT Tryz.f56 0)) (.sq (.reg (rT Tryz.f56 1)) (.sq (.sq (.reg (rT Tryz.f56 2)) (.cd (.t 15) (.sq (.reg (rT Tryz.f56 3)) .rt) .sk)) (.sq (.reg (rT Tryz.f56 4)) (.sq (.reg (rT Tryz.f56 5)) .rt)))))
def QTo:List (RV×Option Ty):=[((.t 4),some tI),((.t 5),some .bool)]
def g_f56:G:=⟨TYs,[],23,EL [(85,Qvb),(92,Qu8)],keeps,(fun _ _=>none),IL [],RL []⟩
def r_f56 (p0:Endpoint)(p1:Int):Option (V×List VO):=
 let a1:=ixAlg p0.2.2.2.2.2.1 ((QaH p1).1)
 br (ine ((QaH p1).2) 0) (some (.tu [(.t tI (-1)),(.t .bool false)],[])) (br (okAlg p0.2.2.2.2.2.1 ((QaH p1).1)) (some (.tu [(.t tI a1),(.t .bool (ige a1 0))],[])) none)
theorem e_f56 (p0:Endpoint)(p1:Int):runF g_f56 QFL QTo false [.t Qad p0, .t tI p1] []=r_f56 p0 p1:=by kernel_rfl
theorem QMy:Qag Tryz.prog 56:= .inr ⟨by decide,_,Tryz.func56,by kernel_rfl,by kernel_rfl⟩
theorem gk_f56:GOk Tryz.prog g_f56:=Qak _ (gA (gC QC3 QBA (gC QMr QKv gN)))
theorem lk_f56:QFL.lok g_f56:=by repeat (first | exact trivial | refine ⟨?_, ?_⟩)
theorem s_f56 (e:Endpoint)(c:Int)(h:idnOk e c=true):r_f56 e c=some (.tu [.t tI (Qbl e c).1, .t .bool (Qbl e c).2],[]):=by
 have hk:okAlg (eIds e) (QaH c).1=true:=h
 simp only [r_f56,hk,Qab]
 unfold Qbl
 cases ine (QaH c).2 0 <;> rfl
def QBc:Ent:=spec (.pr Qad (.pr tI .nil)) (fun x=>(idnOk x.1 x.2.1)) (fun x=>(.tu [(.t tI ((Qbl x.1 x.2.1).1)),(.t .bool ((Qbl x.1 x.2.1).2))]))
theorem QKC:Meets Tryz.prog 56 (strip QBc):=Qaf (R:=runF g_f56 QFL QTo false) (mG Tryz.func56 (by kernel_rfl) Tryz.ntmps56 (by kernel_rfl) gk_f56 lk_f56) fun x hok=>(e_f56 x.1 x.2.1).trans (s_f56 x.1 x.2.1 hok)
def lenEE (e:Endpoint)(o:List Int):Bool:=decide ((eIds e).length≤100000∧(QaJ e).length≤100000∧o.length≤100000)
def posE (e:Endpoint)(o:List Int)(v c:Int):Bool:=
 ieq (QaH c).2 0&&(ige v (QaH c).1.2.2.2.2.2.2.1&&(ige (QaH c).1.2.2.2.2.2.2.2.1 v&&(hasF o c&&(hasF (QaJ e) c&&(Qbl e c).2))))
abbrev tkE (t:Talk):Endpoint:=t.1
abbrev tkV (t:Talk):Int:=t.2.1
abbrev tkO (t:Talk):List Int:=t.2.2.1
def possF (t:Talk)(c:Int):Bool:=posE (tkE t) (tkO t) (tkV t) c
def QeJ (t:Talk)(_c:Int):Bool:=lenEE (tkE t) (tkO t)
noncomputable def QFv:TC:=(.sq (.reg (rT Tryz.f90 0)) (.sq (.reg (rT Tryz.f90 1)) (.sq (.sq (.reg (rT Tryz.f90 2)) (.cd (.t 44) (.sq (.reg (rT Tryz.f90 3)) .rt) .sk)) (.sq (.reg (rT Tryz.f90 4)) (.sq (.reg (rT Tryz.f90 5)) .rt)))))
def QS8:List (RV×Option Ty):=[((.t 4),some .bool)]
def g_f90:G:=⟨TYs,[],53,EL [(56,QBc),(85,Qvb),(101,Qlv)],keeps,(fun _ _=>none),IL [],RL []⟩
def r_f90 (p0:Talk)(p1:Int):Option (V×List VO):=
 let a1:=((((((((QaH p1).1).2).2).2).2).2).2)
 br (ine ((QaH p1).2) 0) (some (.t .bool false,[])) (br (ilt p0.2.1 (a1.1)) (some (.t .bool false,[])) (br (igt p0.2.1 ((a1.2).1)) (some (.t .bool false,[])) (br (Qa2 p0.2.2.1 p1) (br (!(hasF p0.2.2.1 p1)) (some (.t .bool false,[])) (br (Qa2 p0.1.2.2.2.1 p1) (br (!(hasF p0.1.2.2.2.1 p1)) (some (.t .bool false,[])) (br (idnOk p0.1 p1) (some (.t .bool ((Qbl p0.1 p1).2),[])) none)) none)) none)))
theorem e_f90 (p0:Talk)(p1:Int):runF g_f90 QFv QS8 false [.t Qfe p0, .t tI p1] []=r_f90 p0 p1:=by kernel_rfl
theorem QUp:Qag Tryz.prog 90:= .inr ⟨by decide,_,Tryz.func90,by kernel_rfl,by kernel_rfl⟩
theorem gk_f90:GOk Tryz.prog g_f90:=Qak _ (gA (gC QMy QKC (gC QC3 QBA (gC Qrm Qqw gN))))
theorem lk_f90:QFv.lok g_f90:=by repeat (first | exact trivial | refine ⟨?_, ?_⟩)
theorem QQz (a b:Int):ine a b= !ieq a b:=rfl
theorem QQA (a b:Int):ilt a b= !ige a b:=by simp only [ilt,ige]; by_cases h:a<b <;> simp [h] <;> omega
theorem s_f90 (t:Talk)(c:Int)(h:QeJ t c=true):r_f90 t c=some (.t .bool (possF t c),[]):=by
 simp only [QeJ,lenEE,decide_eq_true_eq] at h
 have c1:Qa2 t.2.2.1 c=true:=decide_eq_true h.2.2
 have c2:Qa2 t.1.2.2.2.1 c=true:=decide_eq_true h.2.1
 have c3:idnOk t.1 c=true:=decide_eq_true h.1
 simp only [r_f90,c1,c2,c3,Qab,QQz,QQA]
 show _=some (V.t .bool (posE t.1 t.2.2.1 t.2.1 c),[])
 unfold posE
 cases ieq (QaH c).2 0 with
 | false=>rfl
 | true=>
  cases ige t.2.1 (QaH c).1.2.2.2.2.2.2.1 with
  | false=>rfl
  | true=>
   cases ige (QaH c).1.2.2.2.2.2.2.2.1 t.2.1 with
   | false=>rfl
   | true=>
    cases hasF t.2.2.1 c with
    | false=>rfl
    | true=>cases hasF t.1.2.2.2.1 c <;> rfl
def QGf:Ent:=spec (.pr Qfe (.pr tI .nil)) (fun x=>(QeJ x.1 x.2.1)) (fun x=>(.t .bool (possF x.1 x.2.1)))
theorem QT6:Meets Tryz.prog 90 (strip QGf):=Qaf (R:=runF g_f90 QFv QS8 false) (mG Tryz.func90 (by kernel_rfl) Tryz.ntmps90 (by kernel_rfl) gk_f90 lk_f90) fun x hok=>(e_f90 x.1 x.2.1).trans (s_f90 x.1 x.2.1 hok)
def QeK (t:Talk):List Int:=tkO t
def QgL (t:Talk):List Int:=QaJ (tkE t)
noncomputable def Qyz:TC:=(.sq (.reg (rT Tryz.f126 0)) (.sq (.reg (rT Tryz.f126 1)) .rt))
def QIH:List (RV×Option Ty):=[((.t 2),some (.sl tI))]
def QCI:G:=⟨TYs,[],5,EL [],keeps,(fun _ _=>none),IL [],RL []⟩
def QTZ (p0:Talk):Option (V×List VO):=some (.t (.sl tI) p0.2.2.1,[])
theorem e_f126 (p0:Talk):runF QCI Qyz QIH false [.t Qfe p0] []=QTZ p0:=by kernel_rfl
theorem QZ6:Qag Tryz.prog 126:= .inr ⟨by decide,_,Tryz.func126,by kernel_rfl,by kernel_rfl⟩
theorem QY3:GOk Tryz.prog QCI:=Qak _ (fun p hp=>by cases hp)
theorem QXm:Qyz.lok QCI:=by repeat (first | exact trivial | refine ⟨?_, ?_⟩)
theorem s_f126 (t:Talk):QTZ t=some (.t (.sl tI) (QeK t),[]):=rfl
def QHh:Ent:=spec (.pr Qfe .nil) (fun x=>true) (fun x=>(.t (.sl tI) (QeK x.1)))
theorem QV0:Meets Tryz.prog 126 (strip QHh):=Qaf (R:=runF QCI Qyz QIH false) (mG Tryz.func126 (by kernel_rfl) Tryz.ntmps126 (by kernel_rfl) QY3 QXm) fun x _=>(e_f126 x.1).trans (s_f126 x.1)
noncomputable def Qyy:TC:=(.sq (.reg (rT Tryz.f127 0)) (.sq (.reg (rT Tryz.f127 1)) .rt))
def QIG:List (RV×Option Ty):=[((.t 2),some (.sl tI))]
def QCH:G:=⟨TYs,[],6,EL [],keeps,(fun _ _=>none),IL [],RL []⟩
def QTY (p0:Talk):Option (V×List VO):=some (.t (.sl tI) p0.1.2.2.2.1,[])
theorem e_f127 (p0:Talk):runF QCH Qyy QIG false [.t Qfe p0] []=QTY p0:=by kernel_rfl
theorem QZ5:Qag Tryz.prog 127:= .inr ⟨by decide,_,Tryz.func127,by kernel_rfl,by kernel_rfl⟩
theorem QY2:GOk Tryz.prog QCH:=Qak _ (fun p hp=>by cases hp)
theorem QXl:Qyy.lok QCH:=by repeat (first | exact trivial | refine ⟨?_, ?_⟩)
theorem s_f127 (t:Talk):QTY t=some (.t (.sl tI) (QgL t),[]):=rfl
def QHg:Ent:=spec (.pr Qfe .nil) (fun x=>true) (fun x=>(.t (.sl tI) (QgL x.1)))
theorem QVZ:Meets Tryz.prog 127 (strip QHg):=Qaf (R:=runF QCH Qyy QIG false) (mG Tryz.func127 (by kernel_rfl) Tryz.ntmps127 (by kernel_rfl) QY2 QXl) fun x _=>(e_f127 x.1).trans (s_f127 x.1)
def Qgi (c s:Endpoint):Bool:=QaS c&&QaS s
def QbX (c s:Endpoint):Bool:=Qa8 c&&Qa8 s
noncomputable def QFA:TC:=(.sq (.reg (rT Tryz.f82 0)) (.sq (.reg (rT Tryz.f82 1)) .rt))
def QTd:List (RV×Option Ty):=[((.t 4),some .bool)]
def g_f82:G:=⟨TYs,[],13,EL [(76,QBa)],keeps,(fun _ _=>none),IL [],RL []⟩
def r_f82 (p0 p1:Endpoint):Option (V×List VO):=br (Qa8 p0) (br (ieq (Qe2 p0) 0) (br (Qa8 p1) (some (.t .bool (ieq (Qe2 p1) 0),[])) none) (some (.t .bool false,[]))) none
theorem e_f82 (p0 p1:Endpoint):runF g_f82 QFA QTd false [.t Qad p0, .t Qad p1] []=r_f82 p0 p1:=by kernel_rfl
theorem QMu:Qag Tryz.prog 82:= .inr ⟨by decide,_,Tryz.func82,by kernel_rfl,by kernel_rfl⟩
theorem gk_f82:GOk Tryz.prog g_f82:=Qak _ (gA (gC QMw QKA gN))
theorem lk_f82:QFA.lok g_f82:=by repeat (first | exact trivial | refine ⟨?_, ?_⟩)
theorem s_f82 (c s:Endpoint)(h:QbX c s=true):r_f82 c s=some (.t .bool (Qgi c s),[]):=by
 simp only [QbX,Bool.and_eq_true] at h
 simp only [r_f82,h.1,h.2,Qab,QNt]
 unfold Qgi
 cases QaS c <;> rfl
def QA9:Ent:=spec (.pr Qad (.pr Qad .nil)) (fun x=>(QbX x.1 x.2.1)) (fun x=>(.t .bool (Qgi x.1 x.2.1)))
theorem QKy:Meets Tryz.prog 82 (strip QA9):=Qaf (R:=runF g_f82 QFA QTd false) (mG Tryz.func82 (by kernel_rfl) Tryz.ntmps82 (by kernel_rfl) gk_f82 lk_f82) fun x hok=>(e_f82 x.1 x.2.1).trans (s_f82 x.1 x.2.1 hok)
end
end Go.Proofs.YtckcgijklnloiaaGreat.K
