import Derived.Test.YtckcgijklnloiaaGreatQ10
import Derived.Test.YtckcgijklnloiaaGreatQ8
set_option linter.unusedSimpArgs false
set_option linter.unusedVariables false
noncomputable section
namespace Go.Proofs.YtckcgijklnloiaaGreat.K
open Go.RowKit
noncomputable section
theorem brF {c v:Bool}{X:OV}(h:X=some (.t .bool v,[])):br c (some (.t .bool false,[])) X=some (.t .bool (!c&&v),[]):=by
 subst h
 cases c<;>rfl
def Gz (a b:List ByteArray)(k:Nat):Bool:=(List.range' k (a.length-k)).all fun j=> !sne (a.getD j ByteArray.empty) (b.getD j ByteArray.empty)
def Ep (a b:Qf):Bool:=
 !ine a.1 b.1&&(!sne a.2.1 b.2.1&&(!sne a.2.2.1 b.2.2.1&&(!(!(and (ieq a.2.2.2.1.1 b.2.2.2.1.1) (and (ieq a.2.2.2.1.2.1 b.2.2.2.1.2.1) true)))&&(!ine a.2.2.2.2.1 b.2.2.2.2.1&&(!(!(and (ieq a.2.2.2.2.2.1.1 b.2.2.2.2.2.1.1) (and (ieq a.2.2.2.2.2.1.2.1 b.2.2.2.2.2.1.2.1) true)))&&
 (!ine a.2.2.2.2.2.2.1 b.2.2.2.2.2.2.1&&(!ine a.2.2.2.2.2.2.2.1 b.2.2.2.2.2.2.2.1&&(!I4 a.2.2.2.2.2.2.2.2.1 b.2.2.2.2.2.2.2.2.1&&(!ine a.2.2.2.2.2.2.2.2.2.1 b.2.2.2.2.2.2.2.2.2.1&&(!(!(and (ieq a.2.2.2.2.2.2.2.2.2.2.2.1.1 b.2.2.2.2.2.2.2.2.2.2.2.1.1) (and (ieq a.2.2.2.2.2.2.2.2.2.2.2.1.2.1 b.2.2.2.2.2.2.2.2.2.2.2.1.2.1) true)))&&
 (!ine (Qc (QO a)) (Qc (QO b))&&Gz (QO a) (QO b) 0)))))))))))
def Qef (a _b:Qf):Bool:=decide ((QO a).length<=100000)
abbrev Qeg:Sh:=⟨[(2,.ptr 2 0),(3,.ptr 3 0),(92,.ty tI),(93,.ty tI)],[(2,.box QE),(3,.box QE)]⟩
abbrev Qls:Sh:=⟨[(4,.ty .bool)],[]⟩
abbrev IF:Sh:=⟨[],[]⟩
def Qlt:Fg:=Qeg.f
def QuW:TC:=aF Tryz.f228 [(58,pL 0 Qlt),(933,.fg IF.f),(7474,pD [(0,[2]),(1,[2]),(2,[]),(3,[]),(4,[]),(5,[3]),(6,[3]),(7,[]),(8,[]),(9,[]),(10,[])] (.of [0,1,2,3,4,5,6,7,8,9,10])),(29901,.fg Qls.f)]
def QuX:TC:=lb 0 QuW
def QuY (x92 x93:Int)(y2 y3:Qf):VS:=Qeg.st ((),(),x92,x93,()) (y2,y3,())
def IG (x4:Bool):VS:=Qls.st (x4,()) ()
def Qlu  : VS:=IF.st () ()
def QLd:VS->Option (Bool×List (Bool×Exit×VS)):=mkL Qeg (fun x y=>(decide (x.2.2.1=(QO y.1).length/\0<=x.2.2.2.1/\x.2.2.2.1<=x.2.2.1/\(QO y.1).length=(QO y.2.1).length/\x.2.2.1<=100000))) (fun x y=>[((!Gz (QO y.1) (QO y.2.1) x.2.2.2.1.toNat),.ret,IG (false)),(true,.exit 0,Qlu)])
def Qlv:G:=gG 108 [] (Ls [QLd])
def Qeh (x92 x93:Int)(y2 y3:Qf):OX:=QB (QD Qlv Qlt QuX) (QuY x92 x93 y2 y3)
def Qah (kk:Int->Int->Qf->Qf->OX)(x92 x93:Int)(y2 y3:Qf):OX:=br (ilt x93 x92) (br (cIx y2.2.2.2.2.2.2.2.2.2.2.1 x93) (br (cIx y3.2.2.2.2.2.2.2.2.2.2.1 x93) (br (sne (lgt .str y2.2.2.2.2.2.2.2.2.2.2.1 (Int.toNat x93)) (lgt .str y3.2.2.2.2.2.2.2.2.2.2.1 (Int.toNat x93))) (some (.ret,IG false)) (kk x92 (Qk .i64 x93 1) y2 y3)) none) none) (some (.exit 0,Qlu))
def Qei (x92 x93:Int)(y2 y3:Qf):OX:=br (!Gz (QO y2) (QO y3) x93.toNat) (some (.ret,IG (false)))<|some (.exit 0,Qlu)
theorem QuZ (x92 x93:Int)(y2 y3:Qf):Qeh x92 x93 y2 y3=Qah Qeh x92 x93 y2 y3:=lnT (x:=Qah (fun x92 x93 y2 y3=>some (.normal,QuY x92 x93 y2 y3)) x92 x93 y2 y3) (by simp only [Qah,nxA];rfl)
def Qu0 (p0 p1:Qf):OV:=
 let a1:=Qc p0.2.2.2.2.2.2.2.2.2.2.1
 br (ine p0.1 p1.1) (some (.t .bool false,[])) (br (sne p0.2.1 p1.2.1) (some (.t .bool false,[])) (br (sne p0.2.2.1 p1.2.2.1) (some (.t .bool false,[])) (br (!(and (ieq p0.2.2.2.1.1 p1.2.2.2.1.1) (and (ieq p0.2.2.2.1.2.1 p1.2.2.2.1.2.1) true))) (some (.t .bool false,[])) (br (ine p0.2.2.2.2.1 p1.2.2.2.2.1) (some (.t .bool false,[])) (br (!(and (ieq p0.2.2.2.2.2.1.1 p1.2.2.2.2.2.1.1) (and (ieq p0.2.2.2.2.2.1.2.1 p1.2.2.2.2.2.1.2.1) true))) (some (.t .bool false,[])) (br (ine p0.2.2.2.2.2.2.1 p1.2.2.2.2.2.2.1) (some (.t .bool false,[])) (br (ine p0.2.2.2.2.2.2.2.1 p1.2.2.2.2.2.2.2.1) (some (.t .bool false,[])) (br (I4 p0.2.2.2.2.2.2.2.2.1 p1.2.2.2.2.2.2.2.2.1) (some (.t .bool false,[])) (br (ine p0.2.2.2.2.2.2.2.2.2.1 p1.2.2.2.2.2.2.2.2.2.1) (some (.t .bool false,[])) (br (!(and (ieq p0.2.2.2.2.2.2.2.2.2.2.2.1.1 p1.2.2.2.2.2.2.2.2.2.2.2.1.1) (and (ieq p0.2.2.2.2.2.2.2.2.2.2.2.1.2.1 p1.2.2.2.2.2.2.2.2.2.2.2.1.2.1) true))) (some (.t .bool false,[])) (br (ine a1 (Qc p1.2.2.2.2.2.2.2.2.2.2.1)) (some (.t .bool false,[])) (br (decide (a1=(QO p0).length/\0<=(0:Int)/\(0:Int)<=a1/\(QO p0).length=(QO p1).length/\a1<=100000)) (br (!Gz (QO p0) (QO p1) (0:Int).toNat) (some (.t .bool (false),[])) (some (.t .bool true,[]))) none))))))))))))
theorem QLe (x92 x93:Int)(y2 y3:Qf)(h:(decide (x92=(QO y2).length/\0<=x93/\x93<=x92/\(QO y2).length=(QO y3).length/\x92<=100000))=true):Qeh x92 x93 y2 y3=Qei x92 x93 y2 y3:=by
 obtain ⟨rfl,h0,h1,h2,h3⟩:=Bv h
 obtain ⟨k,rfl⟩:=Bm h0
 refine QW (QO y2) (fun k=>Qeh ((QO y2).length:Int) (k:Int) y2 y3=Qei ((QO y2).length:Int) (k:Int) y2 y3) ?_ ?_ k (by omega)
 ·rw [QuZ]
  simp only [Qah,Qei,QC,BI,BQ,Qi,Bb,Gz,DA]
  rfl
 ·intro k hk ih
  rw [QuZ]
  have hk2:k<(QO y3).length:=by omega
  have e1:cIx (QO y2) (k:Int)=true:=by rw [QS];exact Bd hk
  have e2:cIx (QO y3) (k:Int)=true:=by rw [QS];exact Bd hk2
  have hs:Gz (QO y2) (QO y3) k=(!sne ((QO y2).getD k ByteArray.empty) ((QO y3).getD k ByteArray.empty)&&Gz (QO y2) (QO y3) (k+1)):=by
   have:(QO y2).length-k=((QO y2).length-(k+1))+1:=by omega
   unfold Gz
   rw [this,Dd,BV]
  simp only [Qah,QC,hk,Bu,Qe,Bb,QU (show k<4611686018427387904 by omega),ih]
  refine brY e1 (brY e2 ?_)
  simp only [Qei,Bb,hs]
  show br (sne ((QO y2).getD k ByteArray.empty) ((QO y3).getD k ByteArray.empty)) _ _=_
  cases sne ((QO y2).getD k ByteArray.empty) ((QO y3).getD k ByteArray.empty)<;>rfl
theorem QLf:LO Qlv Qlt QuX 0:=QN (s:=Qeg) fun x y h _ q=>by simp only [QJ,QK] at q;exact (QLe x.2.2.1 x.2.2.2.1 y.1 y.2.1 h).trans q
theorem s_f228 (a b:Qf)(h:Qef a b=true):Qu0 a b=some (.t .bool (Ep a b),[]):=by
 have h:(QO a).length<=100000:=Bv h
 unfold Qu0
 refine brF (brF (brF (brF (brF (brF (brF (brF (brF (brF (brF ?_))))))))))
 refine Jp (fun g=> ?_) (fun g=> ?_)
 ·have g:ine (Qc (QO a)) (Qc (QO b))=true:=g
  rw [g]
  rfl
 ·have g:ine (Qc (QO a)) (Qc (QO b))=false:=g
  rw [g]
  have gl:(QO a).length=(QO b).length:=by
   simp only [ine,Qc,bne_eq_false_iff_eq] at g
   omega
  refine brY (Bd ⟨rfl,B3 _,by simp only [Qc];omega,gl,by show ((QO a).length:Int)<=100000;omega⟩) ?_
  rw [Bt]
  cases Gz (QO a) (QO b) 0<;>rfl
def Qu1:Ent:=Qq (.pr QE (.pr QE .nil)) (fun x=>(Qef x.1 x.2.1)) (fun x=>(.t .bool (Ep x.1 x.2.1)))
theorem QLg:EM 228 Qu1:=mS (lk:=lkL (lkc QLf lkn)) Qlv QuW [((.t 4),some .bool)] false (gB gN) fun m=>Qu m fun x hok=>kT (s_f228 x.1 x.2.1 hok)
def GA (a b:List Qf)(k:Nat):Bool:=(List.range' k (a.length-k)).all fun j=>Ep (cAt a j) (cAt b j)
def Fl (a b:QA):Bool:= !(!(and (ieq a.1.1 b.1.1) (and (ieq a.1.2.1 b.1.2.1) true)))&&(!ine a.2.1 b.2.1&&(!ine (Qc a.2.2.1) (Qc b.2.2.1)&&GA a.2.2.1 b.2.2.1 0))
def Qlw (a b:QA):Bool:=Jz a&&Jz b
abbrev Qej:Sh:=⟨[(2,.ptr 2 0),(3,.ptr 3 0),(29,.ty tI),(30,.ty tI)],[(2,.box Q1),(3,.box Q1)]⟩
def Qlx:Fg:=Qej.f
def Qu2:TC:=aF Tryz.f206 [(58,pL 0 Qlx),(933,.fg IF.f),(7474,pD [(0,[2]),(1,[2]),(2,[]),(3,[]),(4,[]),(5,[3]),(6,[3]),(7,[]),(8,[]),(9,[]),(10,[]),(11,[])] (.of [0,1,2,3,4,5,6,7,8,9,10,11])),(29901,.fg Qls.f)]
def Qu3:TC:=lb 0 Qu2
def Qu4 (x29 x30:Int)(y2 y3:QA):VS:=Qej.st ((),(),x29,x30,()) (y2,y3,())
def Qly  : VS:=IF.st () ()
def QLh:VS->Option (Bool×List (Bool×Exit×VS)):=mkL Qej (fun x y=>(decide (x.2.2.1=y.1.2.2.1.length/\0<=x.2.2.2.1/\x.2.2.2.1<=x.2.2.1/\y.1.2.2.1.length=y.2.1.2.2.1.length/\x.2.2.1<=100000)&&(Jf y.1.2.2.1&&Jf y.2.1.2.2.1))) (fun x y=>[((!GA y.1.2.2.1 y.2.1.2.2.1 x.2.2.2.1.toNat),.ret,IG (false)),(true,.exit 0,Qly)])
def Qlz:G:=gG 46 [(228,Qu1)] (Ls [QLh])
def Qek (x29 x30:Int)(y2 y3:QA):OX:=QB (QD Qlz Qlx Qu3) (Qu4 x29 x30 y2 y3)
def Qai (kk:Int->Int->QA->QA->OX)(x29 x30:Int)(y2 y3:QA):OX:=
 let a1:=lgt QE y2.2.2.1 (Int.toNat x30)
 let a2:=lgt QE y3.2.2.1 (Int.toNat x30)
 br (ilt x30 x29) (br (cIx y2.2.2.1 x30) (br (cIx y3.2.2.1 x30) (br (Qef a1 a2) (br (!(Ep a1 a2)) (some (.ret,IG false)) (kk x29 (Qk .i64 x30 1) y2 y3)) none) none) none) (some (.exit 0,Qly))
def Qel (x29 x30:Int)(y2 y3:QA):OX:=br (!GA y2.2.2.1 y3.2.2.1 x30.toNat) (some (.ret,IG (false)))<|some (.exit 0,Qly)
theorem Qu5 (x29 x30:Int)(y2 y3:QA):Qek x29 x30 y2 y3=Qai Qek x29 x30 y2 y3:=lnT (x:=Qai (fun x29 x30 y2 y3=>some (.normal,Qu4 x29 x30 y2 y3)) x29 x30 y2 y3) (by simp only [Qai,nxA];rfl)
def Qu6 (p0 p1:QA):OV:=
 let a1:=Qc p0.2.2.1
 br (!(and (ieq p0.1.1 p1.1.1) (and (ieq p0.1.2.1 p1.1.2.1) true))) (some (.t .bool false,[])) (br (ine p0.2.1 p1.2.1) (some (.t .bool false,[])) (br (ine a1 (Qc p1.2.2.1)) (some (.t .bool false,[])) (br (decide (a1=p0.2.2.1.length/\0<=(0:Int)/\(0:Int)<=a1/\p0.2.2.1.length=p1.2.2.1.length/\a1<=100000)&&(Jf p0.2.2.1&&Jf p1.2.2.1)) (br (!GA p0.2.2.1 p1.2.2.1 (0:Int).toNat) (some (.t .bool (false),[])) (some (.t .bool true,[]))) none)))
theorem QLi (x29 x30:Int)(y2 y3:QA)(h:(decide (x29=y2.2.2.1.length/\0<=x30/\x30<=x29/\y2.2.2.1.length=y3.2.2.1.length/\x29<=100000)&&(Jf y2.2.2.1&&Jf y3.2.2.1))=true):Qek x29 x30 y2 y3=Qel x29 x30 y2 y3:=by
 simp only [Bc,Ba] at h
 obtain ⟨⟨rfl,h0,h1,h2,h3⟩,hc,hc2⟩:=h
 obtain ⟨k,rfl⟩:=Bm h0
 refine QW y2.2.2.1 (fun k=>Qek (y2.2.2.1.length:Int) (k:Int) y2 y3=Qel (y2.2.2.1.length:Int) (k:Int) y2 y3) ?_ ?_ k (by omega)
 ·rw [Qu5]
  simp only [Qai,Qel,QC,BI,BQ,Qi,Bb,GA,DA]
  rfl
 ·intro k hk ih
  rw [Qu5]
  have hk2:k<y3.2.2.1.length:=by omega
  have hs:GA y2.2.2.1 y3.2.2.1 k=(Ep (cAt y2.2.2.1 k) (cAt y3.2.2.1 k)&&GA y2.2.2.1 y3.2.2.1 (k+1)):=by
   have:y2.2.2.1.length-k=(y2.2.2.1.length-(k+1))+1:=by omega
   unfold GA
   rw [this,Dd,BV]
  have hq:Qef (cAt y2.2.2.1 k) (cAt y3.2.2.1 k)=true:=by
   rw [Qnj hk]
   exact Bd (Qip (Qa3 hc hk))
  simp only [Qai,QC,QS,hk,hk2,Bu,Qe,Bb,QU (show k<4611686018427387904 by omega),ih]
  refine brY hq ?_
  simp only [Qel,Bb,hs]
  show br (!Ep (cAt y2.2.2.1 k) (cAt y3.2.2.1 k)) _ _=_
  cases Ep (cAt y2.2.2.1 k) (cAt y3.2.2.1 k)<;>rfl
theorem QLj:LO Qlz Qlx Qu3 0:=QN (s:=Qej) fun x y h _ q=>by simp only [QJ,QK] at q;exact (QLi x.2.2.1 x.2.2.2.1 y.1 y.2.1 h).trans q
theorem s_f206 (a b:QA)(h:Qlw a b=true):Qu6 a b=some (.t .bool (Fl a b),[]):=by
 obtain ⟨ha,hb⟩:=Bf.1 h
 have ha:Jf a.2.2.1=true:=ha
 have hb:Jf b.2.2.1=true:=hb
 have hl:=U8 ha
 unfold Qu6
 refine brF (brF ?_)
 refine Jp (fun g=> ?_) (fun g=> ?_)
 ·rw [g]
  rfl
 ·rw [g]
  have gl:a.2.2.1.length=b.2.2.1.length:=by
   simp only [ine,Qc,bne_eq_false_iff_eq] at g
   omega
  refine brY ?_ ?_
  ·rw [ha,hb,Bd ⟨rfl,B3 _,by simp only [Qc];omega,gl,by simp only [Qc];omega⟩]
   rfl
  ·rw [Bt]
   cases GA a.2.2.1 b.2.2.1 0<;>rfl
def Qu7:Ent:=Qq (.pr Q1 (.pr Q1 .nil)) (fun x=>(Qlw x.1 x.2.1)) (fun x=>(.t .bool (Fl x.1 x.2.1)))
theorem QLk:EM 206 Qu7:=mS (lk:=lkL (lkc QLj lkn)) Qlz Qu2 [((.t 4),some .bool)] false (gB (gD QLg gN)) fun m=>Qu m fun x hok=>kT (s_f206 x.1 x.2.1 hok)
def Yb (l:List Int)(n:Int):Int:=match Qx (fun y=>ieq y n) l with|some k=>(k:Int)|none=> -1
abbrev Qem:Sh:=⟨[(1,.ty tI),(7,.ty (.sl tI)),(8,.ty tI),(9,.ty tI)],[]⟩
abbrev Qu8:Sh:=⟨[(4,.ty tI)],[]⟩
def QlA:Fg:=Qem.f
def Qu9:TC:=aF Tryz.f173 [(26,pL 0 QlA),(421,.fg IF.f),(13517,.fg Qu8.f)]
def Qva:TC:=lb 0 Qu9
def Qvb (x1:Int)(x7:List Int)(x8 x9:Int):VS:=Qem.st (x1,x7,x8,x9,()) ()
def QlB (x4:Int):VS:=Qu8.st (x4,()) ()
def QlC  : VS:=IF.st () ()
def QLl:VS->Option (Bool×List (Bool×Exit×VS)):=mkL Qem (fun x y=>(Qz x.2.1 x.2.2.1 x.2.2.2.1)) (fun x y=>[(((Qx (fun y=>ieq y x.1) (x.2.1.drop x.2.2.2.1.toNat)).isSome),.ret,QlB (x.2.2.2.1+((Qx (fun y=>ieq y x.1) (x.2.1.drop x.2.2.2.1.toNat)).getD 0:Nat))),(true,.exit 0,QlC)])
def QlD:G:=gG 19 [] (Ls [QLl])
def Qen (x1:Int)(x7:List Int)(x8 x9:Int):OX:=QB (QD QlD QlA Qva) (Qvb x1 x7 x8 x9)
def Qaj (kk:Int->List Int->Int->Int->OX)(x1:Int)(x7:List Int)(x8 x9:Int):OX:=br (ilt x9 x8) (br (cIx x7 x9) (br (ieq (lgt tI x7 (Int.toNat x9)) x1) (some (.ret,QlB x9)) (kk x1 x7 x8 (Qk .i64 x9 1))) none) (some (.exit 0,QlC))
def Qeo (x1:Int)(x7:List Int)(x8 x9:Int):OX:=br ((Qx (fun y=>ieq y x1) (x7.drop x9.toNat)).isSome) (some (.ret,QlB (x9+((Qx (fun y=>ieq y x1) (x7.drop x9.toNat)).getD 0:Nat))))<|some (.exit 0,QlC)
theorem Qvc (x1:Int)(x7:List Int)(x8 x9:Int):Qen x1 x7 x8 x9=Qaj Qen x1 x7 x8 x9:=lnT (x:=Qaj (fun x1 x7 x8 x9=>some (.normal,Qvb x1 x7 x8 x9)) x1 x7 x8 x9) (by simp only [Qaj,nxA];rfl)
def Qvd (p0:List Int)(p1:Int):OV:=
 let a1:=(p0.drop (0:Int).toNat)
 br (Qz p0 (Qc p0) (0:Int)) (br ((Qx (fun y=>ieq y p1) a1).isSome) (some (.t tI ((0:Int)+((Qx (fun y=>ieq y p1) a1).getD 0:Nat)),[])) (some (.t tI (-1),[]))) none
theorem QLm (x1:Int)(x7:List Int)(x8 x9:Int)(h:(Qz x7 x8 x9)=true):Qen x1 x7 x8 x9=Qeo x1 x7 x8 x9:=by
 obtain ⟨rfl,h3,k,rfl,hk⟩:=Js h
 clear h
 refine QW x7 (fun k=>Qen x1 x7 (x7.length:Int) (k:Int)=Qeo x1 x7 (x7.length:Int) (k:Int)) ?_ ?_ k hk
 ·rw [Qvc]
  simp [Qaj,Qeo,QC,Qi,Qx]
 ·intro k hk ih
  rw [Qvc]
  simp only [Qaj,QC,QS,hk,Bu,Qe,Bb,QU (show k<4611686018427387904 by omega),ih,QX (y:=tI) hk]
  simp only [Qeo,Bb,Bi hk,Qx]
  cases h:(ieq x7[k] x1) with
  |true=>simp [Qe]
  |false=>
   simp only [Qi,BW,Ds]
   cases hq:Qx (fun y=>ieq y x1) (x7.drop (k+1)) with
   |none=>rfl
   |some j=>
    simp only [B6,B1,BK,Qe]
    congr 3
    omega
theorem QLn:LO QlD QlA Qva 0:=QN (s:=Qem) fun x y h _ q=>by simp only [QJ,QK] at q;exact (QLm x.1 x.2.1 x.2.2.1 x.2.2.2.1 h).trans q
theorem s_f173 (l:List Int)(n:Int)(h:Q9 l n=true):Qvd l n=some (.t tI (Yb l n),[]):=by
 have hl:l.length<=100000:=Bv h
 simp only [Qvd,Jy hl,Qe,Bt,Bx,Yb]
 cases Qx (fun y=>ieq y n) l<;>simp [Qe,Qi]
def QlE:Ent:=Qq (.pr (.sl tI) (.pr tI .nil)) (fun x=>(Q9 x.1 x.2.1)) (fun x=>(.t tI (Yb x.1 x.2.1)))
theorem Qve:EM 173 QlE:=mS (lk:=lkL (lkc QLn lkn)) QlD Qu9 [((.t 4),some tI)] false (gB gN) fun m=>Qu m fun x hok=>kT (s_f173 x.1 x.2.1 hok)
def IH (b:Bool):Int:=bif b then 1 else 0
def QLo:TC:=aF Tryz.f207 []
def g_f207:G:=gG 4 [] (fun _ _=>none)
def Qvf (p0:Bool):OV:=br (p0) (some (.t tI 1,[])) (some (.t tI 0,[]))
theorem s_f207 (b:Bool):Qvf b=some (.t tI (IH b),[]):=by
 simp only [Qvf]
 cases b<;>rfl
def Qvg:Ent:=Qq (.pr .bool .nil) (fun x=>true) (fun x=>(.t tI (IH x.1)))
theorem QLp:EM 207 Qvg:=mS g_f207 QLo [((.t 2),some tI)] false (gB gN) fun m=>Qu m fun x _=>kT (s_f207 x.1)
def GB (e:Endpoint)(k:Int):Int×Bool:=bif ieq k 3 then (e.2.2.1,true) else bif ieq k 4 then (e.2.1,true) else bif ieq k 11 then (IH e.2.2.2.2.2.2.2.2.1,true) else bif ieq k 12 then (IH e.2.2.2.2.1,true) else (0,false)
def QLq:TC:=aF Tryz.f174 []
def g_f174:G:=gG 25 [(207,Qvg)] (fun _ _=>none)
def Qvh (p0:Endpoint)(p1:Int):OV:=br (ieq p1 3) (some (.tu [(.t tI p0.2.2.1),(.t .bool true)],[])) (br (ieq p1 4) (some (.tu [(.t tI p0.2.1),(.t .bool true)],[])) (br (ieq p1 11) (some (.tu [(.t tI (IH p0.2.2.2.2.2.2.2.2.1)),(.t .bool true)],[])) (br (ieq p1 12) (some (.tu [(.t tI (IH p0.2.2.2.2.1)),(.t .bool true)],[])) (some (.tu [(.t tI 0),(.t .bool false)],[])))))
theorem s_f174 (e:Endpoint)(k:Int):Qvh e k=some (.tu [.t tI (GB e k).1,.t .bool (GB e k).2],[]):=by
 simp only [Qvh]
 unfold GB
 cases ieq k 3<;>cases ieq k 4<;>cases ieq k 11<;>cases ieq k 12<;>rfl
def Qvi:Ent:=Qq (.pr Qj (.pr tI .nil)) (fun x=>true) (fun x=>(.tu [(.t tI ((GB x.1 x.2.1).1)),(.t .bool ((GB x.1 x.2.1).2))]))
theorem QLr:EM 174 Qvi:=mS g_f174 QLq [((.t 4),some tI),((.t 5),some .bool)] false (gB (gD QLp gN)) fun m=>Qu m fun x _=>kT (s_f174 x.1 x.2.1)
def Yc (e:Endpoint)(k:Int):List Int×Bool×Bool:=
 bif ieq k 1||ieq k 2 then (QI e,ieq k 1,true) else bif ieq k 7||ieq k 8 then (Jh e,ieq k 7,true) else bif ieq k 9||ieq k 10 then (Jj e,ieq k 9,true) else ([],false,false)
def QLs:TC:=aF Tryz.f172 []
def g_f172:G:=gG 29 [] (fun _ _=>none)
def QlF (p0:Endpoint)(p1:Int):OV:=br (ieq p1 9) (br (ieq p1 9) (some (.tu [(.t (.sl tI) p0.2.2.2.2.2.2.2.1),(.t .bool (ieq p1 9)),(.t .bool true)],[])) (some (.tu [(.t (.sl tI) ([]:List Int)),(.t .bool false),(.t .bool false)],[]))) (br (ieq p1 10) (some (.tu [(.t (.sl tI) p0.2.2.2.2.2.2.2.1),(.t .bool (ieq p1 9)),(.t .bool true)],[])) (some (.tu [(.t (.sl tI) ([]:List Int)),(.t .bool false),(.t .bool false)],[])))
def QlG (p0:Endpoint)(p1:Int):OV:=br (ieq p1 7) (br (ieq p1 7) (some (.tu [(.t (.sl tI) p0.2.2.2.2.2.2.1),(.t .bool (ieq p1 7)),(.t .bool true)],[])) (QlF p0 p1)) (br (ieq p1 8) (some (.tu [(.t (.sl tI) p0.2.2.2.2.2.2.1),(.t .bool (ieq p1 7)),(.t .bool true)],[])) (QlF p0 p1))
def Qvj (p0:Endpoint)(p1:Int):OV:=br (ieq p1 1) (br (ieq p1 1) (some (.tu [(.t (.sl tI) p0.2.2.2.1),(.t .bool (ieq p1 1)),(.t .bool true)],[])) (QlG p0 p1)) (br (ieq p1 2) (some (.tu [(.t (.sl tI) p0.2.2.2.1),(.t .bool (ieq p1 1)),(.t .bool true)],[])) (QlG p0 p1))
theorem s_f172 (e:Endpoint)(k:Int):Qvj e k=some (.tu [.t (.sl tI) (Yc e k).1,.t .bool (Yc e k).2.1,.t .bool (Yc e k).2.2],[]):=by
 simp only [Qvj,QlG,QlF]
 unfold Yc
 cases ieq k 1<;>cases ieq k 2<;>cases ieq k 7<;>cases ieq k 8<;>cases ieq k 9<;>cases ieq k 10<;>rfl
def Qvk:Ent:=Qq (.pr Qj (.pr tI .nil)) (fun x=>true) (fun x=>(.tu [(.t (.sl tI) ((Yc x.1 x.2.1).1)),(.t .bool (((Yc x.1 x.2.1).2).1)),(.t .bool (((Yc x.1 x.2.1).2).2))]))
theorem QLt:EM 172 Qvk:=mS g_f172 QLs [((.t 4),some (.sl tI)),((.t 5),some .bool),((.t 6),some .bool)] false (gB gN) fun m=>Qu m fun x _=>kT (s_f172 x.1 x.2.1)
end
end Go.Proofs.YtckcgijklnloiaaGreat.K
noncomputable section
namespace Go.Proofs.YtckcgijklnloiaaGreat.K
open Go.RowKit
noncomputable section
theorem Ei {y:Ty}{l:List y.T}{a:Int}(h0:0<=a)(h1:a<=l.length):(lsl l 0 a).length=a.toNat:=by
 simp only [lsl,B5,Dk,Bt]
 omega
theorem Ej {y:Ty}{l:List y.T}{a:Int}(h0:0<=a)(h1:a<=l.length):(lsl l a (l.length:Int)).length=l.length-a.toNat:=by
 simp only [lsl,B5,Dk,Bb]
 omega
def Fh (l:List Int)(a n:Int):List Int:=((([]:List Int)++(lsl l 0 a))++([n]))++(lsl l a ((List.length l:Nat):Int))
def Qk5 (l:List Int)(a _n:Int):Bool:=decide (0<=a/\a<=l.length/\l.length<=100000)
theorem QKu {l:List Int}{a n:Int}(h0:0<=a)(h1:a<=l.length):(Fh l a n).length=l.length+1:=by
 have e1:=Ei (y:=tI) (l:=l) h0 h1
 have e2:=Ej (y:=tI) (l:=l) h0 h1
 unfold Fh
 simp only [Bj,Bw,Bh]
 omega
def QY9:TC:=aF Tryz.f176 []
def g_f176:G:=gG 21 [] (fun _ _=>none)
def QKv (p0:List Int)(p1 p2:Int):OV:=
 let a1:=(List.length p0:Nat)
 br (cSl p0 0 p1 (a1:Int)) (br (Qr ([]:List Int) (lsl p0 0 p1) 8) (br (Qr (([]:List Int)++(lsl p0 0 p1)) ([p2]) 8) (br (cSl p0 p1 (a1:Int) (a1:Int)) (br (Qr ((([]:List Int)++(lsl p0 0 p1))++([p2])) (lsl p0 p1 (a1:Int)) 8) (some (.t (.sl tI) (((([]:List Int)++(lsl p0 0 p1))++([p2]))++(lsl p0 p1 (a1:Int))),[])) none) none) none) none) none
theorem s_f176 (l:List Int)(a n:Int)(h:Qk5 l a n=true):QKv l a n=some (.t (.sl tI) (Fh l a n),[]):=by
 obtain ⟨h0,h1,h2⟩:=Bv h
 have e1:=Ei (y:=tI) (l:=l) h0 h1
 have e2:=Ej (y:=tI) (l:=l) h0 h1
 simp only [QKv]
 refine brY (Bd ⟨by omega,by omega,by omega,by omega⟩) (brY (Q7 (by decide) (by simp only [Bw];omega)) (brY (Q7 (by decide) (by simp only [Bj,Bw,Bh];omega)) (brY (Bd ⟨by omega,by omega,by omega,by omega⟩) (brY (Q7 (by decide) (by simp only [Bj,Bw,Bh];omega)) rfl))))
def Quf:Ent:=Qq (.pr (.sl tI) (.pr tI (.pr tI .nil))) (fun x=>(Qk5 x.1 x.2.1 x.2.2.1)) (fun x=>(.t (.sl tI) (Fh x.1 x.2.1 x.2.2.1)))
theorem QKw:EM 176 Quf:=mS g_f176 QY9 [((.t 6),some (.sl tI))] false (gB gN) fun m=>Qu m fun x hok=>kT (s_f176 x.1 x.2.1 x.2.2.1 hok)
def woF (l:List Int)(a:Int):List Int:=(([]:List Int)++(lsl l 0 a))++(lsl l (Qk .i64 a 1) ((List.length l:Nat):Int))
def Ek (l:List Int)(a:Int):Bool:=decide (0<=a/\a<l.length/\l.length<=100000)
theorem Qug {l:List Int}{a:Int}(h:Ek l a=true):(woF l a).length+1=l.length:=by
 obtain ⟨h0,h1,h2⟩:=Bv h
 have e0:Qk .i64 a 1=a+1:=JK (by omega)
 have e1:=Ei (y:=tI) (l:=l) (a:=a) h0 (by omega)
 have e2:=Ej (y:=tI) (l:=l) (a:=a+1) (by omega) (by omega)
 unfold woF
 rw [e0]
 simp only [Bj,Bw]
 omega
def QZa:TC:=aF Tryz.f177 []
def g_f177:G:=gG 16 [] (fun _ _=>none)
def QKx (p0:List Int)(p1:Int):OV:=
 let a1:=(List.length p0:Nat)
 let a2:=(lsl p0 (Qk .i64 p1 1) (a1:Int))
 br (cSl p0 0 p1 (a1:Int)) (br (Qr ([]:List Int) (lsl p0 0 p1) 8) (br (cSl p0 (Qk .i64 p1 1) (a1:Int) (a1:Int)) (br (Qr (([]:List Int)++(lsl p0 0 p1)) a2 8) (some (.t (.sl tI) ((([]:List Int)++(lsl p0 0 p1))++a2),[])) none) none) none) none
theorem s_f177 (l:List Int)(a:Int)(h:Ek l a=true):QKx l a=some (.t (.sl tI) (woF l a),[]):=by
 obtain ⟨h0,h1,h2⟩:=Bv h
 have e0:Qk .i64 a 1=a+1:=JK (by omega)
 have e1:=Ei (y:=tI) (l:=l) (a:=a) h0 (by omega)
 have e2:=Ej (y:=tI) (l:=l) (a:=a+1) (by omega) (by omega)
 unfold woF
 simp only [QKx,e0]
 refine brY (Bd ⟨by omega,by omega,by omega,by omega⟩) (brY (Q7 (by decide) (by simp only [Bw];omega)) (brY (Bd ⟨by omega,by omega,by omega,by omega⟩) (brY (Q7 (by decide) (by simp only [Bj,Bw];omega)) rfl)))
def QKy:Ent:=Qq (.pr (.sl tI) (.pr tI .nil)) (fun x=>(Ek x.1 x.2.1)) (fun x=>(.t (.sl tI) (woF x.1 x.2.1)))
theorem QZb:EM 177 QKy:=mS g_f177 QZa [((.t 4),some (.sl tI))] false (gB gN) fun m=>Qu m fun x hok=>kT (s_f177 x.1 x.2.1 hok)
def Uw (n:Int):List Int->Nat
 | []=>0
 |x::r=>bif ilt x n then Uw n r+1 else 0
theorem Quh (n:Int): ∀ l:List Int,Uw n l<=l.length
 | []=>BS _
 |x::r=>by
  have:=Quh n r
  unfold Uw
  cases ilt x n<;>simp only [BZ,BM,Bp]<;>omega
def Iy (l:List Int)(n:Int):List Int:=Fh l (Uw n l) n
abbrev QdT:Sh:=⟨[(0,.ty (.sl tI)),(1,.ty tI),(5,.ty tI)],[]⟩
def Qui:Fg:=QdT.f
def QKz:TC:=aF Tryz.f178 [(28,pL 0 Qui),(451,.fg QdT.f)]
def QKA:TC:=lb 0 QKz
def Qaa (x0:List Int)(x1 x5:Int):VS:=QdT.st (x0,x1,x5,()) ()
def QZc:VS->Option (Bool×List (Bool×Exit×VS)):=mkL QdT (fun x y=>(decide (0<=x.2.2.1/\x.2.2.1<=x.1.length/\x.1.length<=100000))) (fun x y=>[(true,.exit 0,Qaa (x.1) (x.2.1) (x.2.2.1+Uw x.2.1 (x.1.drop x.2.2.1.toNat)))])
def Quj:G:=gG 24 [(176,Quf)] (Ls [QZc])
def Qk6 (x0:List Int)(x1 x5:Int):OX:=QB (QD Quj Qui QKA) (Qaa x0 x1 x5)
def QdU (kk:List Int->Int->Int->OX)(x0:List Int)(x1 x5:Int):OX:=br (ilt x5 (Qc x0)) (br (cIx x0 x5) (br (ilt (lgt tI x0 (Int.toNat x5)) x1) (kk x0 x1 (Qk .i64 x5 1)) (some (.exit 0,Qaa x0 x1 x5))) none) (some (.exit 0,Qaa x0 x1 x5))
def Qk7 (x0:List Int)(x1 x5:Int):OX:=some (.exit 0,Qaa (x0) (x1) (x5+Uw x1 (x0.drop x5.toNat)))
theorem QKB (x0:List Int)(x1 x5:Int):Qk6 x0 x1 x5=QdU Qk6 x0 x1 x5:=lnT (x:=QdU (fun x0 x1 x5=>some (.normal,Qaa x0 x1 x5)) x0 x1 x5) (by simp only [QdU,nxA];rfl)
def QKC (p0:List Int)(p1:Int):OV:=
 let a1:=(p0.drop (0:Int).toNat)
 br (decide (0<=(0:Int)/\(0:Int)<=p0.length/\p0.length<=100000)) (br (Qk5 (p0) ((0:Int)+Uw p1 a1) (p1)) (some (.t (.sl tI) (Fh (p0) ((0:Int)+Uw p1 a1) (p1)),[])) none) none
theorem QZd (x0:List Int)(x1 x5:Int)(h:(decide (0<=x5/\x5<=x0.length/\x0.length<=100000))=true):Qk6 x0 x1 x5=Qk7 x0 x1 x5:=by
 obtain ⟨h0,h1,h2⟩:=Bv h
 obtain ⟨k,rfl⟩:=Bm h0
 refine QW x0 (fun k=>Qk6 x0 x1 (k:Int)=Qk7 x0 x1 (k:Int)) ?_ ?_ k (by omega)
 ·rw [QKB]
  simp only [QdU,Qk7,Qc,QC,BI,BQ,Qi,Bb,BE,Uw,Int.natCast_zero,Int.add_zero]
 ·intro k hk ih
  rw [QKB]
  simp only [QdU,Qc,QC,QS,hk,Bu,Qe,Bb,QU (show k<4611686018427387904 by omega),ih,QX (y:=tI) hk]
  simp only [Qk7,Bb,Bi hk,Uw]
  cases ilt x0[k] x1 with
  |false=>simp only [Qi,BM,Int.natCast_zero,Int.add_zero]
  |true=>simp only [Qe,BZ,Int.natCast_add,Int.natCast_one,show (k:Int)+1+(Uw x1 (x0.drop (k+1)):Int)=k+(Uw x1 (x0.drop (k+1))+1) by omega]
theorem QZe:LO Quj Qui QKA 0:=QN (s:=QdT) fun x y h _ q=>by simp only [QJ,QK] at q;exact (QZd x.1 x.2.1 x.2.2.1 h).trans q
theorem s_f178 (l:List Int)(n:Int)(h:Q9 l n=true):QKC l n=some (.t (.sl tI) (Iy l n),[]):=by
 have hl:l.length<=100000:=Bv h
 have hz:=Quh n l
 simp only [QKC,Bt,Bx,Int.zero_add]
 exact brY (Bd ⟨by omega,by omega,hl⟩) (brY (Bd ⟨by omega,by omega,hl⟩) rfl)
def QKD:Ent:=Qq (.pr (.sl tI) (.pr tI .nil)) (fun x=>(Q9 x.1 x.2.1)) (fun x=>(.t (.sl tI) (Iy x.1 x.2.1)))
theorem QZf:EM 178 QKD:=mS (lk:=lkL (lkc QZe lkn)) Quj QKz [((.t 4),some (.sl tI))] false (gB (gD QKw gN)) fun m=>Qu m fun x hok=>kT (s_f178 x.1 x.2.1 hok)
def Wv (id:Int):List QA->Int->Int×Int->Int×Int
 | [],_,p=>p
 |x::r,i,p=>Wv id r (i+1) (bif ieq x.2.1 id then (p.1+1,bif ieq p.1 0 then i else p.2) else p)
def Ze (e:Endpoint)(id:Int):Int×Int:=Wv id (QH e) 0 (0, -1)
theorem Quk (id:Int): ∀ (l:List QA) (i:Int) (p:Int×Int),0<=i->0<=p.1->(0<p.1->0<=p.2/\p.2<i)->0<=(Wv id l i p).1/\(0<(Wv id l i p).1->0<=(Wv id l i p).2/\(Wv id l i p).2<i+l.length)
 | [],i,p,h0,h1,h2=>⟨h1,fun h=>by have:=h2 h;simp only [Wv,Bw];omega⟩
 |x::r,i,p,h0,h1,h2=>by
  unfold Wv
  have e:i+((x::r).length:Int)=i+1+r.length:=by simp only [Bp];omega
  rw [e]
  cases hq:ieq x.2.1 id with
  |false=>exact Quk id r (i+1) p (by omega) h1 (fun h=>by have:=h2 h;omega)
  |true=>
   refine Quk id r (i+1) _ (by omega) (by simp only [BZ];omega) (fun _=> ?_)
   simp only [BZ]
   cases hz:ieq p.1 0 with
   |true=>simp only [BZ];omega
   |false=>
    have:0<p.1:=by simp only [XF,Bq] at hz;omega
    have:=h2 this
    simp only [BM]
    omega
abbrev Qk8:Sh:=⟨[(1,.ty tI),(6,.ty tI),(7,.ty tI),(11,.ty (.sl Q1)),(12,.ty tI),(13,.ty tI)],[]⟩
abbrev QKE:Sh:=⟨[(6,.ty tI),(7,.ty tI)],[]⟩
def Qul:Fg:=Qk8.f
def QKF:TC:=aF Tryz.f175 [(58,pL 0 Qul),(933,.fg QKE.f)]
def QKG:TC:=lb 0 QKF
def QKH (x1 x6 x7:Int)(x11:List QA)(x12 x13:Int):VS:=Qk8.st (x1,x6,x7,x11,x12,x13,()) ()
def Qum (x6 x7:Int):VS:=QKE.st (x6,x7,()) ()
def QZg:VS->Option (Bool×List (Bool×Exit×VS)):=mkL Qk8 (fun x y=>(Qz x.2.2.2.1 x.2.2.2.2.1 x.2.2.2.2.2.1&&decide (0<=x.2.1/\x.2.1<=x.2.2.2.2.2.1))) (fun x y=>[(true,.exit 0,Qum ((Wv x.1 (x.2.2.2.1.drop x.2.2.2.2.2.1.toNat) x.2.2.2.2.2.1 (x.2.1,x.2.2.1)).1) ((Wv x.1 (x.2.2.2.1.drop x.2.2.2.2.2.1.toNat) x.2.2.2.2.2.1 (x.2.1,x.2.2.1)).2))])
def Qun:G:=gG 30 [] (Ls [QZg])
def Qk9 (x1 x6 x7:Int)(x11:List QA)(x12 x13:Int):OX:=QB (QD Qun Qul QKG) (QKH x1 x6 x7 x11 x12 x13)
def QdV (kk:Int->Int->Int->List QA->Int->Int->OX)(x1 x6 x7:Int)(x11:List QA)(x12 x13:Int):OX:=
 let a1:=Qk .i64 x13 1
 br (ilt x13 x12) (br (cIx x11 x13) (br (ieq (((lgt Q1 x11 (Int.toNat x13)).2).1) x1) (br (ieq x6 0) (kk x1 (Qk .i64 x6 1) x13 x11 x12 a1) (kk x1 (Qk .i64 x6 1) x7 x11 x12 a1)) (kk x1 x6 x7 x11 x12 a1)) none) (some (.exit 0,Qum x6 x7))
def Qla (x1 x6 x7:Int)(x11:List QA)(x12 x13:Int):OX:=
 let a1:=(Wv x1 (x11.drop x13.toNat) x13 (x6,x7))
 some (.exit 0,Qum (a1.1) (a1.2))
theorem QKI (x1 x6 x7:Int)(x11:List QA)(x12 x13:Int):Qk9 x1 x6 x7 x11 x12 x13=QdV Qk9 x1 x6 x7 x11 x12 x13:=lnT (x:=QdV (fun x1 x6 x7 x11 x12 x13=>some (.normal,QKH x1 x6 x7 x11 x12 x13)) x1 x6 x7 x11 x12 x13) (by simp only [QdV,nxA];rfl)
def QKJ (p0:Endpoint)(p1:Int):OV:=
 let a1:=(Wv p1 (p0.2.2.2.2.2.1.drop (0:Int).toNat) (0:Int) ((0:Int),(-1)))
 br (Qz p0.2.2.2.2.2.1 (Qc p0.2.2.2.2.2.1) (0:Int)&&decide (0<=(0:Int)/\(0:Int)<=(0:Int))) (some (.tu [(.t tI (a1.1)),(.t tI (a1.2))],[])) none
theorem QZh (x1 x6 x7:Int)(x11:List QA)(x12 x13:Int)(h:(Qz x11 x12 x13&&decide (0<=x6/\x6<=x13))=true):Qk9 x1 x6 x7 x11 x12 x13=Qla x1 x6 x7 x11 x12 x13:=by
 simp only [Bc,Ba] at h
 obtain ⟨h,g0,g1⟩:=h
 obtain ⟨rfl,h3,k,rfl,hk⟩:=Js h
 clear h
 revert x6 x7
 refine QW x11 (fun k=> ∀ x6 x7:Int,0<=x6->x6<=(k:Int)->Qk9 x1 x6 x7 x11 (x11.length:Int) (k:Int)=Qla x1 x6 x7 x11 (x11.length:Int) (k:Int)) ?_ ?_ k hk
 ·intro x6 x7 _ _
  rw [QKI]
  simp only [QdV,Qla,QC,BI,BQ,Qi,Bb,BE,Wv]
 ·intro k hk ih x6 x7 g0 g1
  rw [QKI]
  have e1:Qk .i64 x6 1=x6+1:=JK (by omega)
  simp only [QdV,QC,QS,hk,Bu,Qe,Bb,QU (show k<4611686018427387904 by omega),e1,QX (y:=Q1) hk]
  rw [ih (x6+1) (k:Int) (by omega) (by omega),ih (x6+1) x7 (by omega) (by omega),ih x6 x7 g0 (by omega)]
  simp only [Qla,Bb,Bi hk,Wv,Int.natCast_add,Int.natCast_one]
  cases ieq x11[k].2.1 x1<;>cases ieq x6 0<;>rfl
theorem QZi:LO Qun Qul QKG 0:=QN (s:=Qk8) fun x y h _ q=>by simp only [QJ,QK] at q;exact (QZh x.1 x.2.1 x.2.2.1 x.2.2.2.1 x.2.2.2.2.1 x.2.2.2.2.2.1 h).trans q
theorem s_f175 (e:Endpoint)(id:Int)(h:JT e id=true):QKJ e id=some (.tu [.t tI (Ze e id).1,.t tI (Ze e id).2],[]):=by
 have hl:(QH e).length<=100000:=Bv h
 simp only [QKJ,Bt,Bx]
 refine brY ?_ rfl
 rw [Jy hl,BB]
 exact Bd ⟨B3 _,B3 _⟩
def Quo:Ent:=Qq (.pr Qj (.pr tI .nil)) (fun x=>(JT x.1 x.2.1)) (fun x=>(.tu [(.t tI ((Ze x.1 x.2.1).1)),(.t tI ((Ze x.1 x.2.1).2))]))
theorem QKK:EM 175 Quo:=mS (lk:=lkL (lkc QZi lkn)) Qun QKF [((.t 4),some tI),((.t 5),some tI)] false (gB gN) fun m=>Qu m fun x hok=>kT (s_f175 x.1 x.2.1 hok)
def Qab:QA:=((0,(0,())),(0,(([]:List Qf),())))
abbrev Ji (c:Qy):Int:=c.2.1
abbrev Jw (c:Qy):Int:=c.2.2.1
abbrev YP (c:Qy):Int:=c.2.2.2.1
abbrev YB (c:Qy):QA:=c.2.2.2.2.1
def fmC (c:Qy):Bool:=bif ieq (Ji c) 1 then Fl (YB c) Qab else bif ieq (Ji c) 5 then ieq (Jw c) 0 else ige (Ji c) 1&&(ile (Ji c) 12&&(Fl (YB c) Qab&&ieq (YP c) 0))
def Qup (c:Qy):Bool:=Jz (YB c)
def QZj:TC:=aF Tryz.f171 []
def g_f171:G:=gG 34 [(206,Qu7)] (fun _ _=>none)
def QKL (p0:Qy):OV:=
 let a1:=(Fl p0.2.2.2.2.1 ((0,(0,())),(0,(([]:List Qf),()))))
 br (Qlw p0.2.2.2.2.1 ((0,(0,())),(0,(([]:List Qf),())))) (br (ieq p0.2.1 1) (some (.t .bool a1,[])) (br (ieq p0.2.1 5) (some (.t .bool (ieq p0.2.2.1 0),[])) (br (ige p0.2.1 1) (br (ile p0.2.1 12) (br a1 (some (.t .bool (ieq p0.2.2.2.1 0),[])) (some (.t .bool false,[]))) (some (.t .bool false,[]))) (some (.t .bool false,[]))))) none
theorem s_f171 (c:Qy)(h:Qup c=true):QKL c=some (.t .bool (fmC c),[]):=by
 have h:Jz (YB c)=true:=h
 simp only [QKL]
 refine brY (Bf.2 ⟨h,(show Jz Qab=true from rfl)⟩) ?_
 unfold fmC
 show br (ieq (Ji c) 1) (some (V.t .bool (Fl (YB c) Qab),([]:List VO))) (br (ieq (Ji c) 5) (some (V.t .bool (ieq (Jw c) 0),([]:List VO))) (br (ige (Ji c) 1) (br (ile (Ji c) 12) (br (Fl (YB c) Qab) (some (V.t .bool (ieq (YP c) 0),([]:List VO))) (some (V.t .bool false,([]:List VO)))) (some (V.t .bool false,([]:List VO)))) (some (V.t .bool false,([]:List VO)))))=_
 cases ieq (Ji c) 1<;>cases ieq (Ji c) 5<;>cases ige (Ji c) 1<;>cases ile (Ji c) 12<;>cases Fl (YB c) Qab<;>rfl
def QKM:Ent:=Qq (.pr J5 .nil) (fun x=>(Qup x.1)) (fun x=>(.t .bool (fmC x.1)))
theorem QZk:EM 171 QKM:=mS g_f171 QZj [((.t 2),some .bool)] false (gB (gD QLk gN)) fun m=>Qu m fun x hok=>kT (s_f171 x.1 hok)
end
end Go.Proofs.YtckcgijklnloiaaGreat.K
noncomputable section
namespace Go.Proofs.YtckcgijklnloiaaGreat.K
open Go.RowKit
noncomputable section
def Yo (n:Nat)(e:Endpoint):Bool:=(JB e.1&&decide ((QI e).length<=n/\(QH e).length<=n/\(Jh e).length<=n/\(Jj e).length<=n))&&(QH e).all Jz
theorem Qmx {n:Nat}{e:Endpoint}(h:Yo n e=true):JB e.1=true/\((QI e).length<=n/\(QH e).length<=n/\(Jh e).length<=n/\(Jj e).length<=n)/\(QH e).all Jz=true:=by
 simp only [Yo,Bc,Ba] at h
 exact ⟨h.1.1,h.1.2,h.2⟩
theorem Qmy {n:Nat}{e:Endpoint}(h:Yo n e=true)(hn:n<=100000):Q2 e=true:=by
 obtain ⟨h1,⟨h2,h3,h4,h5⟩,h6⟩:=Qmx h
 unfold Q2
 simp only [Bc,Ba]
 exact ⟨⟨h1,by omega,by omega,by omega,by omega⟩,h6⟩
theorem Qmz {n m:Nat}{e:Endpoint}(h:Yo n e=true)(hn:n<=m):Yo m e=true:=by
 obtain ⟨h1,⟨h2,h3,h4,h5⟩,h6⟩:=Qmx h
 unfold Yo
 simp only [Bc,Ba]
 exact ⟨⟨h1,by omega,by omega,by omega,by omega⟩,h6⟩
def IX (e:Endpoint)(c:Qy):Int:=bif ieq (Ji c) 6 then (bif ieq (Ze e (Jw c)).1 0 then 41 else bif igt (Ze e (Jw c)).1 1 then 5 else 0) else 0
def IY (e:Endpoint)(c:Qy):Int:=bif ieq (Ji c) 5 then (bif igt (Ze e (YB c).2.1).1 0 then 41 else IX e c) else IX e c
def Et (e:Endpoint)(c:Qy):Int:=bif (GB e (Ji c)).2 then (bif ieq (GB e (Ji c)).1 (Jw c) then 41 else IY e c) else IY e c
def W9 (e:Endpoint)(c:Qy):Int:=bif (Yc e (Ji c)).2.2 then (bif Qe8 (ige (Yb (Yc e (Ji c)).1 (Jw c)) 0) (Yc e (Ji c)).2.1 then 41 else Et e c) else Et e c
def QaL (e:Endpoint)(c:Qy):Int:=bif ine (Jw c) 0 then (bif ine (Jw c) 1 then 2 else W9 e c) else W9 e c
def ZY (e:Endpoint)(c:Qy):Int:=
 bif ine (Zp e) 0 then 19 else bif !fmC c then 40 else
 bif ieq (Ji c) 1 then (bif ilt (YP c) 0 then 2 else bif igt (YP c) (Qc (QI e)) then 2 else W9 e c) else
 bif ieq (Ji c) 5 then (bif ilt (YP c) 0 then 2 else bif igt (YP c) (Qc (QH e)) then 2 else W9 e c) else
 bif ieq (Ji c) 11 then QaL e c else bif ieq (Ji c) 12 then QaL e c else W9 e c
def QmA (e:Endpoint)(c:Qy):Bool:=Q2 e&&Jz (YB c)
def QMW:TC:=aF Tryz.f148 []
def g_f148:G:=gG 118 [(58,EP),(171,QKM),(172,Qvk),(173,QlE),(174,Qvi),(175,Quo)] (fun _ _=>none)
def QeY (p0:Endpoint)(p1:Qy):OV:=br (ieq p1.2.1 6) (br (JT p0 p1.2.2.1) (br (ieq ((Ze p0 p1.2.2.1).1) 0) (some (.t tI 41,[])) (br (igt ((Ze p0 p1.2.2.1).1) 1) (some (.t tI 5,[])) (some (.t tI 0,[])))) none) (some (.t tI 0,[]))
def QeZ (p0:Endpoint)(p1:Qy):OV:=br (ieq p1.2.1 5) (br (JT p0 p1.2.2.2.2.1.2.1) (br (igt ((Ze p0 p1.2.2.2.2.1.2.1).1) 0) (some (.t tI 41,[])) (QeY p0 p1)) none) (QeY p0 p1)
def Qe0 (p0:Endpoint)(p1:Qy):OV:=br ((GB p0 p1.2.1).2) (br (ieq ((GB p0 p1.2.1).1) p1.2.2.1) (some (.t tI 41,[])) (QeZ p0 p1)) (QeZ p0 p1)
def GD (p0:Endpoint)(p1:Qy):OV:=
 let a1:=Yc p0 p1.2.1
 br ((a1.2).2) (br (Q9 (a1.1) p1.2.2.1) (br (Qe8 (ige (Yb (a1.1) p1.2.2.1) 0) ((a1.2).1)) (some (.t tI 41,[])) (Qe0 p0 p1)) none) (Qe0 p0 p1)
def QaM (p0:Endpoint)(p1:Qy):OV:=br (ine p1.2.2.1 0) (br (ine p1.2.2.1 1) (some (.t tI 2,[])) (GD p0 p1)) (GD p0 p1)
def QwM (p0:Endpoint)(p1:Qy):OV:=br (Q2 p0) (br (ine (Zp p0) 0) (some (.t tI 19,[])) (br (Qup p1) (br (!(fmC p1)) (some (.t tI 40,[])) (br (ieq p1.2.1 1) (br (ilt p1.2.2.2.1 0) (some (.t tI 2,[])) (br (igt p1.2.2.2.1 (Qc p0.2.2.2.1)) (some (.t tI 2,[])) (GD p0 p1))) (br (ieq p1.2.1 5) (br (ilt p1.2.2.2.1 0) (some (.t tI 2,[])) (br (igt p1.2.2.2.1 (Qc p0.2.2.2.2.2.1)) (some (.t tI 2,[])) (GD p0 p1))) (br (ieq p1.2.1 11) (br (ieq p1.2.1 11) (QaM p0 p1) (GD p0 p1)) (br (ieq p1.2.1 12) (QaM p0 p1) (GD p0 p1)))))) none)) none
theorem brC {c:Bool}{x y:Int}{A B:OV}(h1:A=some (.t tI x,[]))(h2:B=some (.t tI y,[])):br c A B=some (.t tI (bif c then x else y),[]):=by
 subst h1 h2
 cases c<;>rfl
theorem s_f148 (e:Endpoint)(c:Qy)(h:QmA e c=true):QwM e c=some (.t tI (ZY e c),[]):=by
 obtain ⟨h1,h2⟩:=Bf.1 h
 have hb:=(Z1 h1).2
 have hk: ∀ n,JT e n=true:=fun n=>Bd hb.2.1
 have hl: ∀ k n,Q9 (Yc e k).1 n=true:=fun k n=>by
  have:(Yc e k).1.length<=100000:=by
   unfold Yc
   cases ieq k 1||ieq k 2 with
   |true=>exact hb.1
   |false=>
    cases ieq k 7||ieq k 8 with
    |true=>exact hb.2.2.1
    |false=>
     cases ieq k 9||ieq k 10 with
     |true=>exact hb.2.2.2.1
     |false=>exact B2 _
  exact Bd this
 have g4:QeY e c=some (.t tI (IX e c),[]):=by
  unfold QeY IX
  exact brC (brY (hk _) (brC rfl (brC rfl rfl))) rfl
 have g3:QeZ e c=some (.t tI (IY e c),[]):=by
  unfold QeZ IY
  exact brC (brY (hk _) (brC rfl g4)) g4
 have g2:Qe0 e c=some (.t tI (Et e c),[]):=by
  unfold Qe0 Et
  exact brC (brC rfl g3) g3
 have g1:GD e c=some (.t tI (W9 e c),[]):=by
  unfold GD W9
  exact brC (brY (hl _ _) (brC rfl g2)) g2
 have g5:QaM e c=some (.t tI (QaL e c),[]):=by
  unfold QaM QaL
  exact brC (brC rfl g1) g1
 unfold QwM ZY
 refine brY h1 (brC rfl (brY h2 (brC rfl (brC (brC rfl (brC rfl g1)) (brC (brC rfl (brC rfl g1)) ?_)))))
 cases h11:ieq (Ji c) 11 with
 |true=>exact g5
 |false=>exact (brC g5 g1:br (ieq (Ji c) 12) (QaM e c) (GD e c)=some (.t tI (bif ieq (Ji c) 12 then QaL e c else W9 e c),[]))
def QwN:Ent:=Qq (.pr Qj (.pr J5 .nil)) (fun x=>(QmA x.1 x.2.1)) (fun x=>(.t tI (ZY x.1 x.2.1)))
theorem QMX:EM 148 QwN:=mS g_f148 QMW [((.t 4),some tI)] false (gB (gD OR (gD QZk (gD QLt (gD Qve (gD QLr (gD QKK gN))))))) fun m=>Qu m fun x hok=>kT (s_f148 x.1 x.2.1 hok)
theorem XZ {b:Bool}{x y:Int}(hx:x≠0)(h:(bif b then x else y)=0):b=false/\y=0:=by
 cases b with
 |true=>exact absurd h hx
 |false=>exact ⟨rfl,h⟩
theorem QMY {b:Bool}(h:Qe8 b false=false):b=true:=by
 cases b with
 |true=>rfl
 |false=>exact absurd h (by decide)
theorem plc_in {l:List Int}{n:Int}(h:ige (Yb l n) 0=true)(hl:l.length<=100000):Ek l (Yb l n)=true:=by
 unfold Yb at h ⊢
 cases hq:Qx (fun y=>ieq y n) l with
 |none=>rw [hq] at h;exact absurd (show ige (-1) 0=true from h) (by decide)
 |some k=>
  obtain ⟨hk,_⟩:=OA hq
  exact Bd ⟨by show (0:Int)<=(k:Int);omega,by show (k:Int)<(l.length:Int);omega,hl⟩
theorem alw_1 {e:Endpoint}{c:Qy}(h:ZY e c=0)(hk:Ji c=1):0<=YP c/\YP c<=(QI e).length:=by
 unfold ZY at h
 obtain ⟨h1,h⟩:=XZ (by decide) h
 obtain ⟨h2,h⟩:=XZ (by decide) h
 rw [hk] at h
 simp only [show ieq (1:Int) 1=true from rfl,BZ] at h
 obtain ⟨h3,h⟩:=XZ (by decide) h
 obtain ⟨h4,_⟩:=XZ (by decide) h
 simp only [ilt,igt,Qc,Bq] at h3 h4
 omega
theorem alw_5 {e:Endpoint}{c:Qy}(h:ZY e c=0)(hk:Ji c=5):0<=YP c/\YP c<=(QH e).length:=by
 unfold ZY at h
 obtain ⟨h1,h⟩:=XZ (by decide) h
 obtain ⟨h2,h⟩:=XZ (by decide) h
 rw [hk] at h
 simp only [show ieq (5:Int) 1=false from rfl,show ieq (5:Int) 5=true from rfl,BZ,BM] at h
 obtain ⟨h3,h⟩:=XZ (by decide) h
 obtain ⟨h4,_⟩:=XZ (by decide) h
 simp only [ilt,igt,Qc,Bq] at h3 h4
 omega
theorem IZ {e:Endpoint}{c:Qy}(h:ZY e c=0){k:Int}(hk:Ji c=k)(hd:k=2∨k=8∨k=10)(hl:(Yc e k).1.length<=100000):Ek (Yc e k).1 (Yb (Yc e k).1 (Jw c))=true:=by
 unfold ZY at h
 obtain ⟨h1,h⟩:=XZ (by decide) h
 obtain ⟨h2,h⟩:=XZ (by decide) h
 rw [hk] at h
 have h:W9 e c=0:=by rcases hd with rfl|rfl|rfl<;>exact h
 unfold W9 at h
 rw [hk] at h
 have h5:(Yc e k).2.2=true/\(Yc e k).2.1=false:=by rcases hd with rfl|rfl|rfl<;>exact ⟨rfl,rfl⟩
 rw [h5.1,h5.2] at h
 obtain ⟨h6,_⟩:=XZ (by decide) (show (bif Qe8 (ige (Yb (Yc e k).1 (Jw c)) 0) false then 41 else Et e c)=0 from h)
 exact plc_in (QMY h6) hl
theorem alw_6 {e:Endpoint}{c:Qy}(h:ZY e c=0)(hk:Ji c=6):0<=(Ze e (Jw c)).2/\(Ze e (Jw c)).2<(QH e).length:=by
 unfold ZY at h
 obtain ⟨h1,h⟩:=XZ (by decide) h
 obtain ⟨h2,h⟩:=XZ (by decide) h
 rw [hk] at h
 have h:W9 e c=0:=h
 unfold W9 at h
 rw [hk] at h
 have h:Et e c=0:=h
 unfold Et at h
 rw [hk] at h
 have h:IY e c=0:=h
 unfold IY at h
 rw [hk] at h
 have h:IX e c=0:=h
 unfold IX at h
 rw [hk] at h
 obtain ⟨h3,_⟩:=XZ (by decide) (show (bif ieq (Ze e (Jw c)).1 0 then 41 else bif igt (Ze e (Jw c)).1 1 then 5 else 0)=0 from h)
 have:=Quk (Jw c) (QH e) 0 (0, -1) (B3 _) (B3 _) (fun h=>absurd h (by decide))
 have h4:0<(Ze e (Jw c)).1:=by
  simp only [XF,Bq] at h3
  have:=this.1
  unfold Ze at h3 ⊢
  omega
 have h5:=this.2 h4
 rw [Int.zero_add] at h5
 exact h5
end
end Go.Proofs.YtckcgijklnloiaaGreat.K
noncomputable section
namespace Go.Proofs.YtckcgijklnloiaaGreat.K
open Go.RowKit
noncomputable section
def suE (e:Endpoint)(l:List Int):Endpoint:=(e.1,(e.2.1,(e.2.2.1,(l,e.2.2.2.2))))
def idE (e:Endpoint)(l:List QA):Endpoint:=(e.1,(e.2.1,(e.2.2.1,(e.2.2.2.1,(e.2.2.2.2.1,(l,e.2.2.2.2.2.2))))))
def anE (e:Endpoint)(l:List Int):Endpoint:=(e.1,(e.2.1,(e.2.2.1,(e.2.2.2.1,(e.2.2.2.2.1,(e.2.2.2.2.2.1,(l,e.2.2.2.2.2.2.2)))))))
def hsE (e:Endpoint)(l:List Int):Endpoint:=(e.1,(e.2.1,(e.2.2.1,(e.2.2.2.1,(e.2.2.2.2.1,(e.2.2.2.2.2.1,(e.2.2.2.2.2.2.1,(l,e.2.2.2.2.2.2.2.2))))))))
def adI (e:Endpoint)(c:Qy):List QA:=((([]:List QA)++(lsl (QH e) 0 (YP c)))++([YB c]))++(lsl (QH e) (YP c) ((List.length (QH e):Nat):Int))
def drI (e:Endpoint)(c:Qy):List QA:=(([]:List QA)++(lsl (QH e) 0 (Ze e (Jw c)).2))++(lsl (QH e) (Qk .i64 (Ze e (Jw c)).2 1) ((List.length (QH e):Nat):Int))
def Uq (e:Endpoint)(c:Qy):Endpoint:=
 bif ieq (Ji c) 1 then suE e (Fh (QI e) (YP c) (Jw c)) else bif ieq (Ji c) 2 then suE e (woF (QI e) (Yb (QI e) (Jw c))) else
 bif ieq (Ji c) 3 then (e.1,(e.2.1,(Jw c,e.2.2.2))) else bif ieq (Ji c) 4 then (e.1,(Jw c,e.2.2)) else
 bif ieq (Ji c) 5 then idE e (adI e c) else bif ieq (Ji c) 6 then idE e (drI e c) else
 bif ieq (Ji c) 7 then anE e (Iy (Jh e) (Jw c)) else bif ieq (Ji c) 8 then anE e (woF (Jh e) (Yb (Jh e) (Jw c))) else
 bif ieq (Ji c) 9 then hsE e (Iy (Jj e) (Jw c)) else bif ieq (Ji c) 10 then hsE e (woF (Jj e) (Yb (Jj e) (Jw c))) else
 bif ieq (Ji c) 11 then (e.1,(e.2.1,(e.2.2.1,(e.2.2.2.1,(e.2.2.2.2.1,(e.2.2.2.2.2.1,(e.2.2.2.2.2.2.1,(e.2.2.2.2.2.2.2.1,(ieq (Jw c) 1,()))))))))) else
 bif ieq (Ji c) 12 then (e.1,(e.2.1,(e.2.2.1,(e.2.2.2.1,(ieq (Jw c) 1,e.2.2.2.2.2))))) else e
def Qh2 (e:Endpoint)(c:Qy):Bool:=(Q2 e&&Jz (YB c))&&ieq (ZY e c) 0
def QSa:TC:=aF Tryz.f149 [(942,pD [(0,[2]),(1,[2]),(2,[2]),(3,[2]),(4,[3]),(5,[3]),(6,[]),(7,[]),(8,[5,52,58,65,80,87]),(9,[4,5,52,58,65,80,87])] (.of [0,1,2,3,4,5,6,7,8,9])),(3866622,pD [(0,[2]),(1,[2]),(2,[2]),(3,[2]),(4,[3]),(5,[3]),(6,[]),(7,[]),(8,[5,52,58,65,80,87]),(9,[4,5,52,58,65,80,87])] (.of [0,1,2,3,4,5,6,7,8,9])),(61865982,pD [(0,[2]),(1,[2]),(2,[2]),(3,[2]),(4,[3]),(5,[3]),(6,[]),(7,[]),(8,[5,52,58,65,80,87]),(9,[4,5,52,58,65,80,87])] (.of [0,1,2,3,4,5,6,7,8,9]))]
def g_f149:G:=gG 140 [(55,QqU),(91,QqQ),(173,QlE),(175,Quo),(176,Quf),(177,QKy),(178,QKD)] (fun _ _=>none)
def QDt (p0:Endpoint)(p1:Qy):OV:=
 let a2:=(((Zi p0).2).2)
 let a1:=((a2.2).2)
 let a3:=((((E3 p1.2.2.2.2.1).1).1,((((E3 p1.2.2.2.2.1).1).2).1,())),(((E3 p1.2.2.2.2.1).2).1,((((E3 p1.2.2.2.2.1).2).2).1,())))
 let a4:=(List.length ((a1.2).1):Nat)
 let a5:=((Ze p0 p1.2.2.1).2)
 let a6:=lsl ((a1.2).1) 0 p1.2.2.2.1
 let a7:=(((a1.2).2).2)
 let a8:=(lsl ((a1.2).1) (Qk .i64 a5 1) (a4:Int))
 let a9:=lsl ((a1.2).1) 0 a5
 let a10:=(lsl ((a1.2).1) p1.2.2.2.1 (a4:Int))
 let a11:=(((a1.2).2).1,(a7.1,((a7.2).1,())))
 let a12:=Q9 p0.2.2.2.2.2.2.2.1 p1.2.2.1
 let a13:=Q9 p0.2.2.2.2.2.2.1 p1.2.2.1
 let a14:=Yb p0.2.2.2.2.2.2.2.1 p1.2.2.1
 let a15:=Yb p0.2.2.2.2.2.2.1 p1.2.2.1
 let a16:=Yb p0.2.2.2.1 p1.2.2.1
 br (Q2 p0) (br (ieq p1.2.1 1) (br (Qk5 p0.2.2.2.1 p1.2.2.2.1 p1.2.2.1) (some (.t Qj ((Zi p0).1,(((Zi p0).2).1,(a2.1,((Fh p0.2.2.2.1 p1.2.2.2.1 p1.2.2.1),(a2.2).2)))),[])) none) (br (ieq p1.2.1 2) (br (Q9 p0.2.2.2.1 p1.2.2.1) (br (Ek p0.2.2.2.1 a16) (some (.t Qj ((Zi p0).1,(((Zi p0).2).1,(a2.1,((woF p0.2.2.2.1 a16),(a2.2).2)))),[])) none) none) (br (ieq p1.2.1 3) (some (.t Qj ((Zi p0).1,(((Zi p0).2).1,(p1.2.2.1,a2.2))),[])) (br (ieq p1.2.1 4) (some (.t Qj ((Zi p0).1,(p1.2.2.1,((Zi p0).2).2)),[])) (br (ieq p1.2.1 5) (br (cSl ((a1.2).1) 0 p1.2.2.2.1 (a4:Int)) (br (Qr ([]:List QA) a6 48) (br (Jz p1.2.2.2.2.1) (br (Qr (([]:List QA)++a6) ([a3]) 48) (br (cSl ((a1.2).1) p1.2.2.2.1 (a4:Int) (a4:Int)) (br (Qr ((([]:List QA)++a6)++([a3])) a10 48) (some (.t Qj ((Zi p0).1,(((Zi p0).2).1,(a2.1,((a2.2).1,(a1.1,((((([]:List QA)++a6)++([a3]))++a10),a11)))))),[])) none) none) none) none) none) none) (br (ieq p1.2.1 6) (br (JT p0 p1.2.2.1) (br (cSl ((a1.2).1) 0 a5 (a4:Int)) (br (Qr ([]:List QA) a9 48) (br (cSl ((a1.2).1) (Qk .i64 a5 1) (a4:Int) (a4:Int)) (br (Qr (([]:List QA)++a9) a8 48) (some (.t Qj ((Zi p0).1,(((Zi p0).2).1,(a2.1,((a2.2).1,(a1.1,(((([]:List QA)++a9)++a8),a11)))))),[])) none) none) none) none) none) (br (ieq p1.2.1 7) (br a13 (some (.t Qj ((Zi p0).1,(((Zi p0).2).1,(a2.1,((a2.2).1,(a1.1,((a1.2).1,((Iy p0.2.2.2.2.2.2.1 p1.2.2.1),((a1.2).2).2))))))),[])) none) (br (ieq p1.2.1 8) (br a13 (br (Ek p0.2.2.2.2.2.2.1 a15) (some (.t Qj ((Zi p0).1,(((Zi p0).2).1,(a2.1,((a2.2).1,(a1.1,((a1.2).1,((woF p0.2.2.2.2.2.2.1 a15),((a1.2).2).2))))))),[])) none) none) (br (ieq p1.2.1 9) (br a12 (some (.t Qj ((Zi p0).1,(((Zi p0).2).1,(a2.1,((a2.2).1,(a1.1,((a1.2).1,(((a1.2).2).1,((Iy p0.2.2.2.2.2.2.2.1 p1.2.2.1),a7.2)))))))),[])) none) (br (ieq p1.2.1 10) (br a12 (br (Ek p0.2.2.2.2.2.2.2.1 a14) (some (.t Qj ((Zi p0).1,(((Zi p0).2).1,(a2.1,((a2.2).1,(a1.1,((a1.2).1,(((a1.2).2).1,((woF p0.2.2.2.2.2.2.2.1 a14),a7.2)))))))),[])) none) none) (br (ieq p1.2.1 11) (some (.t Qj ((Zi p0).1,(((Zi p0).2).1,(a2.1,((a2.2).1,(a1.1,((a1.2).1,(((a1.2).2).1,(a7.1,((ieq p1.2.2.1 1),(a7.2).2))))))))),[])) (br (ieq p1.2.1 12) (some (.t Qj ((Zi p0).1,(((Zi p0).2).1,(a2.1,((a2.2).1,((ieq p1.2.2.1 1),a1.2))))),[])) (some (.t Qj (Zi p0),[])))))))))))))) none
theorem brE {c:Bool}{x y:Endpoint}{A B:OV}(h1:c=true->A=some (.t Qj x,[]))(h2:B=some (.t Qj y,[])):br c A B=some (.t Qj (bif c then x else y),[]):=by
 cases c with
 |true=>exact h1 rfl
 |false=>exact h2
theorem Qcd {l1 l2:List QA}(h1:l1.length<=300000)(h2:l2.length<=300000):Qr l1 l2 48=true:=Q7 (by decide) (by omega)
theorem WL {a b:Int}(h:ieq a b=true):a=b:=by
 simpa [XF] using h
theorem s_f149 (e:Endpoint)(c:Qy)(h:Qh2 e c=true):QDt e c=some (.t Qj (Uq e c),[]):=by
 obtain ⟨h,hz⟩:=Bf.1 h
 obtain ⟨h1,h2⟩:=Bf.1 h
 have hz:ZY e c=0:=WL hz
 obtain ⟨b1,b2,b3,b4,b5⟩:=(Z1 h1).2
 unfold QDt Uq
 refine brY h1 (brE (fun g=> ?_) (brE (fun g=> ?_) (brE (fun _=>rfl) (brE (fun _=>rfl) (brE (fun g=> ?_) (brE (fun g=> ?_) (brE (fun _=> ?_) (brE (fun g=> ?_) (brE (fun _=> ?_) (brE (fun g=> ?_) (brE (fun _=>rfl) (brE (fun _=>rfl) rfl))))))))))))
 ·obtain ⟨p1,p2⟩:=alw_1 hz (WL g)
  exact brY (Bd ⟨p1,p2,b1⟩) rfl
 ·exact brY (Bd b1) (brY (IZ hz (WL g) (.inl rfl) b1) rfl)
 ·obtain ⟨p1,p2⟩:=alw_5 hz (WL g)
  have e1:=Ei (y:=Q1) (l:=QH e) p1 p2
  have e2:=Ej (y:=Q1) (l:=QH e) p1 p2
  have a1:(lsl (QH e) 0 (YP c)).length<=300000:=by omega
  have a2:(lsl (QH e) (YP c) ((List.length (QH e):Nat):Int)).length<=300000:=by omega
  have a3:(([]:List QA)++lsl (QH e) 0 (YP c)).length<=300000:=a1
  have a4:((([]:List QA)++lsl (QH e) 0 (YP c))++[YB c]).length<=300000:=by
   rw [Bj,BO,Bh]
   omega
  exact brY (Bd ⟨B3 0,p1,p2,B3 _⟩) (brY (Qcd (show 0<=300000 by decide) a1) (brY h2 (brY (Qcd a3 (show 1<=300000 by decide)) (brY (Bd ⟨p1,p2,B3 _,B3 _⟩) (brY (Qcd a4 a2) rfl)))))
 ·obtain ⟨p1,p2⟩:=alw_6 hz (WL g)
  have e0:Qk .i64 (Ze e (Jw c)).2 1=(Ze e (Jw c)).2+1:=JK (by omega)
  have e1:=Ei (y:=Q1) (l:=QH e) p1 (by omega)
  have e2:=Ej (y:=Q1) (l:=QH e) (a:=(Ze e (Jw c)).2+1) (by omega) (by omega)
  have a1:(lsl (QH e) 0 (Ze e (Jw c)).2).length<=300000:=by omega
  have a2:(lsl (QH e) (Qk .i64 (Ze e (Jw c)).2 1) ((List.length (QH e):Nat):Int)).length<=300000:=by rw [e0];omega
  have a3:(([]:List QA)++lsl (QH e) 0 (Ze e (Jw c)).2).length<=300000:=a1
  have q:cSl (QH e) (Qk .i64 (Ze e (Jw c)).2 1) ((List.length (QH e):Nat):Int) ((List.length (QH e):Nat):Int)=true:=by
   rw [e0]
   exact Bd ⟨by omega,by omega,B3 _,B3 _⟩
  exact brY (Bd b2) (brY (Bd ⟨B3 0,p1,(show (Ze e (Jw c)).2<=((QH e).length:Int) by omega),B3 _⟩) (brY (Qcd (show 0<=300000 by decide) a1) (brY q (brY (Qcd a3 a2) rfl))))
 ·exact brY (Bd b3) rfl
 ·exact brY (Bd b3) (brY (IZ hz (WL g) (.inr (.inl rfl)) b3) rfl)
 ·exact brY (Bd b4) rfl
 ·exact brY (Bd b4) (brY (IZ hz (WL g) (.inr (.inr rfl)) b4) rfl)
def QDu:Ent:=Qq (.pr Qj (.pr J5 .nil)) (fun x=>(Qh2 x.1 x.2.1)) (fun x=>(.t Qj (Uq x.1 x.2.1)))
theorem QSb:EM 149 QDu:=mS g_f149 QSa [((.c 4 true 9),some Qj)] false (gB (gD QEP (gD QEK (gD Qve (gD QKK (gD QKw (gD QZb (gD QZf gN)))))))) fun m=>Qu m fun x hok=>kT (s_f149 x.1 x.2.1 hok)
theorem QDv {l:List Int}{n:Int}:(Iy l n).length=l.length+1:=by
 have:=Quh n l
 exact QKu (by omega) (by omega)
theorem Qh3 {p:QA->Bool}{l:List QA}(h:l.all p=true)(a b:Int):(lsl l a b).all p=true:=by
 rw [Bg] at h ⊢
 exact fun x hx=>h x (List.mem_of_mem_drop (Du hx))
theorem QDw {n:Nat}{e:Endpoint}{c:Qy}(h:Yo n e=true)(hn:n<=90000)(hi:Jz (YB c)=true)(hz:ZY e c=0):Yo (n+1) (Uq e c)=true:=by
 obtain ⟨h1,⟨h2,h3,h4,h5⟩,h6⟩:=Qmx h
 have hm:=Qmz h (DP n)
 have mk: ∀ x:Endpoint,x.1=e.1->(QI x).length<=n+1->(QH x).length<=n+1->(Jh x).length<=n+1->(Jj x).length<=n+1->(QH x).all Jz=true->Yo (n+1) x=true:=fun x g0 g1 g2 g3 g4 g5=>by
  unfold Yo
  rw [g0]
  simp only [Bc,Ba]
  exact ⟨⟨h1,g1,g2,g3,g4⟩,g5⟩
 unfold Uq
 cases g1:ieq (Ji c) 1 with
 |true=>
  obtain ⟨p1,p2⟩:=alw_1 hz (WL g1)
  have:=QKu (l:=QI e) (n:=Jw c) p1 p2
  exact mk _ rfl (by show (Fh (QI e) (YP c) (Jw c)).length<=n+1;omega) (by show (QH e).length<=n+1;omega) (by show (Jh e).length<=n+1;omega) (by show (Jj e).length<=n+1;omega) h6
 |false=>
  cases g2:ieq (Ji c) 2 with
  |true=>
   have:=Qug (IZ hz (WL g2) (.inl rfl) (show (QI e).length<=100000 by omega))
   have this:(woF (QI e) (Yb (QI e) (Jw c))).length+1=(QI e).length:=this
   exact mk _ rfl (by show (woF (QI e) (Yb (QI e) (Jw c))).length<=n+1;omega) (by show (QH e).length<=n+1;omega) (by show (Jh e).length<=n+1;omega) (by show (Jj e).length<=n+1;omega) h6
  |false=>
   cases ieq (Ji c) 3 with
   |true=>exact hm
   |false=>
    cases ieq (Ji c) 4 with
    |true=>exact hm
    |false=>
     cases g5:ieq (Ji c) 5 with
     |true=>
      obtain ⟨p1,p2⟩:=alw_5 hz (WL g5)
      have e1:=Ei (y:=Q1) (l:=QH e) p1 p2
      have e2:=Ej (y:=Q1) (l:=QH e) p1 p2
      have hal:(adI e c).length=(QH e).length+1:=by
       unfold adI
       rw [Bj,Bj,BO,Bh]
       omega
      refine mk _ rfl (by show (QI e).length<=n+1;omega) (by show (adI e c).length<=n+1;omega) (by show (Jh e).length<=n+1;omega) (by show (Jj e).length<=n+1;omega) ?_
      show (adI e c).all Jz=true
      unfold adI
      rw [DR,DR,BO,Qh3 h6,Qh3 h6]
      simp only [BV,Dw,hi,BX]
     |false=>
      cases g6:ieq (Ji c) 6 with
      |true=>
       obtain ⟨p1,p2⟩:=alw_6 hz (WL g6)
       have e0:Qk .i64 (Ze e (Jw c)).2 1=(Ze e (Jw c)).2+1:=JK (by omega)
       have e1:=Ei (y:=Q1) (l:=QH e) p1 (by omega)
       have e2:=Ej (y:=Q1) (l:=QH e) (a:=(Ze e (Jw c)).2+1) (by omega) (by omega)
       have hal:(drI e c).length<=(QH e).length:=by
        unfold drI
        rw [e0,Bj,BO]
        omega
       refine mk _ rfl (by show (QI e).length<=n+1;omega) (by show (drI e c).length<=n+1;omega) (by show (Jh e).length<=n+1;omega) (by show (Jj e).length<=n+1;omega) ?_
       show (drI e c).all Jz=true
       unfold drI
       rw [DR,BO,Qh3 h6,Qh3 h6]
       rfl
      |false=>
       have fin: ∀ l m:List Int,l.length<=n+1->m.length<=n+1->Yo (n+1) (anE e l)=true/\Yo (n+1) (hsE e m)=true:=fun l m hl hm=>⟨mk _ rfl (by show (QI e).length<=n+1;omega) (by show (QH e).length<=n+1;omega) hl (by show (Jj e).length<=n+1;omega) h6,mk _ rfl (by show (QI e).length<=n+1;omega) (by show (QH e).length<=n+1;omega) (by show (Jh e).length<=n+1;omega) hm h6⟩
       cases ieq (Ji c) 7 with
       |true=>exact (fin _ [] (by rw [QDv];omega) (B2 _)).1
       |false=>
        cases g8:ieq (Ji c) 8 with
        |true=>
         have:=Qug (IZ hz (WL g8) (.inr (.inl rfl)) (show (Jh e).length<=100000 by omega))
         have this:(woF (Jh e) (Yb (Jh e) (Jw c))).length+1=(Jh e).length:=this
         exact (fin _ [] (by omega) (B2 _)).1
        |false=>
         cases ieq (Ji c) 9 with
         |true=>exact (fin [] _ (B2 _) (by rw [QDv];omega)).2
         |false=>
          cases g10:ieq (Ji c) 10 with
          |true=>
           have:=Qug (IZ hz (WL g10) (.inr (.inr rfl)) (show (Jj e).length<=100000 by omega))
           have this:(woF (Jj e) (Yb (Jj e) (Jw c))).length+1=(Jj e).length:=this
           exact (fin [] _ (B2 _) (by omega)).2
          |false=>
           cases ieq (Ji c) 11 with
           |true=>exact hm
           |false=>
            cases ieq (Ji c) 12 with
            |true=>exact hm
            |false=>exact hm
def YH (e:Endpoint)(c:Qy):Endpoint×Int:=bif ine (ZY e c) 0 then (zEp,ZY e c) else bif ine (Zp (Uq e c)) 0 then (zEp,18) else (Uq e c,0)
def Qh4 (e:Endpoint)(c:Qy):Bool:=Yo 80000 e&&Jz (YB c)
def QSc:TC:=aF Tryz.f107 []
def g_f107:G:=gG 23 [(58,EP),(148,QwN),(149,QDu)] (fun _ _=>none)
def QDx (p0:Endpoint)(p1:Qy):OV:=br (QmA p0 p1) (br (ine (ZY p0 p1) 0) (some (.tu [(.t Qj ((ByteArray.mk #[]),(0,(0,(([]:List Int),(false,(([]:List QA),(([]:List Int),(([]:List Int),(false,())))))))))),(.t tI (ZY p0 p1))],[])) (br (Qh2 p0 p1) (br (Q2 (Uq p0 p1)) (br (ine (Zp (Uq p0 p1)) 0) (some (.tu [(.t Qj ((ByteArray.mk #[]),(0,(0,(([]:List Int),(false,(([]:List QA),(([]:List Int),(([]:List Int),(false,())))))))))),(.t tI 18)],[])) (some (.tu [(.t Qj (Uq p0 p1)),(.t tI 0)],[]))) none) none)) none
theorem s_f107 (e:Endpoint)(c:Qy)(h:Qh4 e c=true):QDx e c=some (.tu [.t Qj (YH e c).1,.t tI (YH e c).2],[]):=by
 obtain ⟨hb,hi⟩:=Bf.1 h
 have hl:=Qmy hb (by decide)
 unfold QDx YH
 refine brY (Bf.2 ⟨hl,hi⟩) ?_
 cases hz:ine (ZY e c) 0 with
 |true=>rfl
 |false=>
  have hz0:ZY e c=0:=GS hz
  have hq:Qh2 e c=true:=Bf.2 ⟨Bf.2 ⟨hl,hi⟩,by rw [hz0];rfl⟩
  rw [Qi]
  refine brY hq (brY (Qmy (QDw hb (by decide) hi hz0) (by decide)) ?_)
  cases ine (Zp (Uq e c)) 0<;>rfl
def QDy:Ent:=Qq (.pr Qj (.pr J5 .nil)) (fun x=>(Qh4 x.1 x.2.1)) (fun x=>(.tu [(.t Qj ((YH x.1 x.2.1).1)),(.t tI ((YH x.1 x.2.1).2))]))
theorem QSd:EM 107 QDy:=mS g_f107 QSc [((.c 4 true 9),some Qj),((.t 5),some tI)] false (gB (gD OR (gD QMX (gD QSb gN)))) fun m=>Qu m fun x hok=>kT (s_f107 x.1 x.2.1 hok)
theorem QSe {n:Nat}{e:Endpoint}{c:Qy}(h:Yo n e=true)(hn:n<=80000)(hi:Jz (YB c)=true)(hz:(YH e c).2=0):Yo (n+1) (YH e c).1=true:=by
 unfold YH at hz ⊢
 cases h1:ine (ZY e c) 0 with
 |true=>
  rw [h1] at hz
  have:ZY e c=0:=hz
  rw [this] at h1
  exact absurd h1 (by decide)
 |false=>
  cases h2:ine (Zp (Uq e c)) 0 with
  |true=>
   rw [h1,h2] at hz
   exact absurd (show (18:Int)=0 from hz) (by decide)
  |false=>exact QDw h (by omega) hi (GS h1)
end
end Go.Proofs.YtckcgijklnloiaaGreat.K
noncomputable section
namespace Go.Proofs.YtckcgijklnloiaaGreat.K
open Go.RowKit
noncomputable section
def Qjw (l:List Int)(n:Int)(k:Nat):Bool:= !ilt (l.getD k 0) 0&&(!ige (l.getD k 0) n&&(decide (k=0)|| !ige (l.getD (k-1) 0) (l.getD k 0)))
def UO (l:List Int)(n:Int)(k:Nat):Bool:=(List.range' k (l.length-k)).all (Qjw l n)
theorem QVp (l:List Int)(n:Int):UO l n l.length=true:=by
 unfold UO
 rw [DA]
 rfl
theorem QVq {l:List Int}{n:Int}{k:Nat}(hk:k<l.length):UO l n k=(Qjw l n k&&UO l n (k+1)):=by
 have:l.length-k=(l.length-(k+1))+1:=by omega
 unfold UO
 rw [this,Dd,BV]
def G1 (l:List Int)(n:Int):Bool:=UO l n 0
theorem vs_in {l:List Int}{n:Int}(h:G1 l n=true): ∀ x∈l,0<=x/\x<n:=fun x hx=>by
 obtain ⟨k,hk⟩:=DC.1 hx
 obtain ⟨hk1,rfl⟩:=BL.1 hk
 unfold G1 UO at h
 rw [Bg] at h
 have:=h k (by rw [List.mem_range'];exact ⟨k,by omega,by omega⟩)
 unfold Qjw at this
 rw [show l.getD k 0=l[k] by simp only [Bo,Bl hk1,BK]] at this
 simp only [Bc,By,ilt,ige,Bq] at this
 omega
theorem QVr {β:Type}(a b c u:Bool)(R E:Option β):br a R (br b R (br c R (br (!u) R E)))=br (!((!a&&(!b&& !c))&&u)) R E:=by
 cases a<;>cases b<;>cases c<;>rfl
theorem QVs {β:Type}(a b u:Bool)(R E:Option β):br a R (br b R (br (!u) R E))=br (!((!a&&(!b&&true))&&u)) R E:=by
 cases a<;>cases b<;>rfl
abbrev Qjx:Sh:=⟨[(0,.ty (.sl tI)),(1,.ty tI),(7,.ty (.sl tI)),(8,.ty tI),(9,.ty tI)],[]⟩
abbrev QHc:Sh:=⟨[(4,.ty .bool)],[]⟩
abbrev QHd:Sh:=⟨[],[]⟩
def Qsl:Fg:=Qjx.f
def QHe:TC:=aF Tryz.f62 [(26,pL 0 Qsl),(421,.fg QHd.f),(13517,.fg QHc.f)]
def QHf:TC:=lb 0 QHe
def QHg (x0:List Int)(x1:Int)(x7:List Int)(x8 x9:Int):VS:=Qjx.st (x0,x1,x7,x8,x9,()) ()
def Qc6 (x4:Bool):VS:=QHc.st (x4,()) ()
def Qsm  : VS:=QHd.st () ()
def QVt:VS->Option (Bool×List (Bool×Exit×VS)):=mkL Qjx (fun x y=>(Qz x.2.2.1 x.2.2.2.1 x.2.2.2.2.1&&x.2.2.1==x.1)) (fun x y=>[((!UO x.2.2.1 x.2.1 x.2.2.2.2.1.toNat),.ret,Qc6 (false)),(true,.exit 0,Qsm)])
def Qsn:G:=gG 35 [] (Ls [QVt])
def Qjy (x0:List Int)(x1:Int)(x7:List Int)(x8 x9:Int):OX:=QB (QD Qsn Qsl QHf) (QHg x0 x1 x7 x8 x9)
def Qc7 (kk:List Int->Int->List Int->Int->Int->OX)(x0:List Int)(x1:Int)(x7:List Int)(x8 x9:Int):OX:=
 let a1:=lgt tI x7 (Int.toNat x9)
 br (ilt x9 x8) (br (cIx x7 x9) (br (ilt a1 0) (some (.ret,Qc6 false)) (br (ige a1 x1) (some (.ret,Qc6 false)) (br (igt x9 0) (br (cIx x0 (QT .i64 x9 1)) (br (ige (lgt tI x0 (Int.toNat (QT .i64 x9 1))) a1) (some (.ret,Qc6 false)) (kk x0 x1 x7 x8 (Qk .i64 x9 1))) none) (kk x0 x1 x7 x8 (Qk .i64 x9 1))))) none) (some (.exit 0,Qsm))
def Qjz (x0:List Int)(x1:Int)(x7:List Int)(x8 x9:Int):OX:=br (!UO x7 x1 x9.toNat) (some (.ret,Qc6 (false)))<|some (.exit 0,Qsm)
theorem QHh (x0:List Int)(x1:Int)(x7:List Int)(x8 x9:Int):Qjy x0 x1 x7 x8 x9=Qc7 Qjy x0 x1 x7 x8 x9:=lnT (x:=Qc7 (fun x0 x1 x7 x8 x9=>some (.normal,QHg x0 x1 x7 x8 x9)) x0 x1 x7 x8 x9) (by simp only [Qc7,nxA];rfl)
def r_f62 (p0:List Int)(p1:Int):OV:=br (Qz p0 (Qc p0) (0:Int)&&p0==p0) (br (!UO p0 p1 (0:Int).toNat) (some (.t .bool (false),[])) (some (.t .bool true,[]))) none
theorem QVu (x0:List Int)(x1:Int)(x7:List Int)(x8 x9:Int)(h:(Qz x7 x8 x9&&x7==x0)=true):Qjy x0 x1 x7 x8 x9=Qjz x0 x1 x7 x8 x9:=by
 simp only [Bc,Db] at h
 obtain ⟨h0,rfl⟩:=h
 obtain ⟨rfl,h3,k,rfl,hk⟩:=Js h0
 clear h0
 refine QW x7 (fun k=>Qjy x7 x1 x7 (x7.length:Int) (k:Int)=Qjz x7 x1 x7 (x7.length:Int) (k:Int)) ?_ ?_ k hk
 ·rw [QHh]
  simp only [Qc7,Qjz,QC,BI,BQ,Qi,Bb,QVp,BC]
 ·intro k hk ih
  rw [QHh]
  simp only [Qc7,QC,QS,hk,Bu,Qe,Bb,QU (show k<4611686018427387904 by omega),ih]
  simp only [Qjz,Bb,QVq hk]
  by_cases hk0:k=0
  ·subst hk0
   rw [show igt ((0:Nat):Int) 0=false from rfl]
   simp only [Qi]
   exact QVs ..
  ·by_cases h9:k<100000
   ·rw [show igt (k:Int) 0=true from Bd (by omega),Qc9 h9 hk0]
    simp only [Qe,QS,show k-1<x7.length by omega,Bu,Bb]
    unfold Qjw
    rw [show decide (k=0)=false from Bn hk0,Di]
    exact QVr ..
   ·exact absurd h3 (by omega)
theorem QVv:LO Qsn Qsl QHf 0:=QN (s:=Qjx) fun x y h _ q=>by simp only [QJ,QK] at q;exact (QVu x.1 x.2.1 x.2.2.1 x.2.2.2.1 x.2.2.2.2.1 h).trans q
theorem s_f62 (l:List Int)(n:Int)(h:Q9 l n=true):r_f62 l n=some (.t .bool (G1 l n),[]):=by
 have hl:l.length<=100000:=Bv h
 simp only [r_f62,Jy hl,BB,Bt]
 refine brY (beq_self_eq_true l) ?_
 unfold G1
 cases UO l n 0<;>rfl
def QHi:Ent:=Qq (.pr (.sl tI) (.pr tI .nil)) (fun x=>(Q9 x.1 x.2.1)) (fun x=>(.t .bool (G1 x.1 x.2.1)))
theorem ms_f62:EM 62 QHi:=mS (lk:=lkL (lkc QVv lkn)) Qsn QHe [((.t 4),some .bool)] false (gB gN) fun m=>Qu m fun x hok=>kT (s_f62 x.1 x.2.1 hok)
abbrev zX:Estate:=(([]:List Endpoint),(([]:List Qb),(([]:List Qs),())))
def Z2 (n:Nat)(x:Estate):Bool:=(QZ x).all (Yo n)&&(decide ((QZ x).length<=1000/\(Jg x).length<=1000)&&(Yw (Yj x)&&(Yj x).all E4))
theorem QjA {n:Nat}{x:Estate}(h:Z2 n x=true):(QZ x).all (Yo n)=true/\((QZ x).length<=1000/\(Jg x).length<=1000)/\Yw (Yj x)=true/\(Yj x).all E4=true:=by
 simp only [Z2,Bc,Ba] at h
 exact ⟨h.1,h.2.1,h.2.2.1,h.2.2.2⟩
theorem Qso {n:Nat}{x:Estate}(h:Z2 n x=true)(hn:n<=90000):Ja x=true/\QcA x=true:=by
 obtain ⟨h1,⟨h2,h3⟩,h4,h5⟩:=QjA h
 have:Ja x=true:=by
  unfold Ja
  simp only [Bc,Ba]
  exact ⟨⟨by omega,by omega⟩,Bg.2 fun e he=>Qmy (Bg.1 h1 e he) (by omega),h4⟩
 exact ⟨this,Bf.2 ⟨this,h5⟩⟩
def XP (x:Estate)(c:Qy):Estate×Int:=
 bif ilt c.1 0 then (zX,40) else bif ige c.1 (Qc (QZ x)) then (zX,40) else
 bif ine (YH (ZD (QZ x) c.1.toNat) c).2 0 then (zX,(YH (ZD (QZ x) c.1.toNat) c).2) else (((QZ x).set c.1.toNat (YH (ZD (QZ x) c.1.toNat) c).1,(Jg x,(Yj x,()))),0)
def Qc8 (x:Estate)(c:Qy):Bool:=Z2 80000 x&&Jz (YB c)
theorem QHj {p:Endpoint->Bool}{l:List Endpoint}(h:l.all p=true){k:Nat}(hk:k<l.length):p (ZD l k)=true:=by
 rw [show ZD l k=l[k] by simp only [ZD,Bo,Bl hk,BK]]
 exact Bg.1 h _ (BA hk)
def tc_f63:TC:=aF Tryz.f63 [(14,pD [(0,[2]),(1,[2]),(2,[3]),(3,[3]),(4,[]),(5,[]),(6,[3]),(7,[]),(8,[]),(9,[]),(10,[]),(11,[6,5006,10006,15006]),(12,[6]),(13,[])] (.of [0,1,2,3,4,5,6,7,8,9,10,11,12,13]))]
def g_f63:G:=gG 45 [(19,Qq0),(107,QDy)] (fun _ _=>none)
def r_f63 (p0:Estate)(p1:Qy):OV:=
 let a1:=lgt Qj p0.1 (Int.toNat p1.1)
 br (ilt p1.1 0) (some (.tu [(.t QF (([]:List Endpoint),(([]:List Qb),(([]:List Qs),())))),(.t tI 40)],[])) (br (ige p1.1 (Qc p0.1)) (some (.tu [(.t QF (([]:List Endpoint),(([]:List Qb),(([]:List Qs),())))),(.t tI 40)],[])) (br (cIx p0.1 p1.1) (br (Qh4 a1 p1) (br (ine ((YH a1 p1).2) 0) (some (.tu [(.t QF (([]:List Endpoint),(([]:List Qb),(([]:List Qs),())))),(.t tI ((YH a1 p1).2))],[])) (br (QcA p0) (br (cIx ((YZ p0).1) p1.1) (br (cLd ((YZ p0).1) (Int.toNat p1.1)) (some (.tu [(.t QF ((List.set ((YZ p0).1) (Int.toNat p1.1) ((YH a1 p1).1)),(((YZ p0).2).1,((((YZ p0).2).2).1,())))),(.t tI 0)],[])) none) none) none)) none) none))
theorem s_f63 (x:Estate)(c:Qy)(h:Qc8 x c=true):r_f63 x c=some (.tu [.t QF (XP x c).1,.t tI (XP x c).2],[]):=by
 obtain ⟨hb,hi⟩:=Bf.1 h
 obtain ⟨_,hcp⟩:=Qso hb (by decide)
 unfold r_f63 XP
 cases h1:ilt c.1 0 with
 |true=>rfl
 |false=>
  cases h2:ige c.1 (Qc (QZ x)) with
  |true=>rfl
  |false=>
   simp only [ilt,ige,Qc,Bq] at h1 h2
   have hix:cIx (QZ x) c.1=true:=Bd ⟨by omega,by omega⟩
   have hk:c.1.toNat<(QZ x).length:=by omega
   have ha:Qh4 (ZD (QZ x) c.1.toNat) c=true:=Bf.2 ⟨QHj (QjA hb).1 hk,hi⟩
   rw [Qi,Qi]
   refine brY hix (brY ha ?_)
   cases h3:ine (YH (ZD (QZ x) c.1.toNat) c).2 0 with
   |true=>rfl
   |false=>
    rw [Qi]
    exact brY hcp (brY hix (brY (Bd hk) rfl))
def QHk:Ent:=Qq (.pr QF (.pr J5 .nil)) (fun x=>(Qc8 x.1 x.2.1)) (fun x=>(.tu [(.t QF ((XP x.1 x.2.1).1)),(.t tI ((XP x.1 x.2.1).2))]))
theorem ms_f63:EM 63 QHk:=mS g_f63 tc_f63 [((.c 4 true 3),some QF),((.t 5),some tI)] false (gB (gD QEW (gD QSd gN))) fun m=>Qu m fun x hok=>kT (s_f63 x.1 x.2.1 hok)
end
end Go.Proofs.YtckcgijklnloiaaGreat.K
noncomputable section
namespace Go.Proofs.YtckcgijklnloiaaGreat.K
open Go.RowKit
noncomputable section
theorem Qy7 {n m:Nat}{x:Estate}(h:Z2 n x=true)(hn:n<=m):Z2 m x=true:=by
 obtain ⟨h1,h2,h3,h4⟩:=QjA h
 unfold Z2
 simp only [Bc,Ba]
 exact ⟨Bg.2 fun e he=>Qmz (Bg.1 h1 e he) hn,h2,h3,h4⟩
theorem Fz (n:Nat):Z2 n zX=true:=rfl
theorem Qy8 {n:Nat}{x:Estate}{c:Qy}(h:Z2 n x=true)(hn:n<=80000)(hi:Jz (YB c)=true):Z2 (n+1) (XP x c).1=true:=by
 unfold XP
 cases h1:ilt c.1 0 with
 |true=>exact Fz _
 |false=>
  cases h2:ige c.1 (Qc (QZ x)) with
  |true=>exact Fz _
  |false=>
   cases h3:ine (YH (ZD (QZ x) c.1.toNat) c).2 0 with
   |true=>exact Fz _
   |false=>
    simp only [ilt,ige,Qc,Bq] at h1 h2
    have hk:c.1.toNat<(QZ x).length:=by omega
    obtain ⟨g1,g2,g3,g4⟩:=QjA h
    have ha:=QSe (QHj g1 hk) hn hi (GS h3)
    show Z2 (n+1) ((QZ x).set c.1.toNat (YH (ZD (QZ x) c.1.toNat) c).1,(Jg x,(Yj x,())))=true
    unfold Z2
    simp only [Bc,Ba]
    refine ⟨Bg.2 fun e he=> ?_,⟨?_,g2.2⟩,g3,g4⟩
    ·rcases List.mem_or_eq_of_mem_set he with he|rfl
     ·exact Qmz (Bg.1 g1 e he) (DP n)
     ·exact ha
    ·show ((QZ x).set c.1.toNat (YH (ZD (QZ x) c.1.toNat) c).1).length<=1000
     rw [List.length_set]
     exact g2.1
def WG (c:Qy):Bool:=Jz (YB c)
def ED (l:List Qy)(s:List Int):Bool:=s.all fun i=>cIx l i
def GI (l:List Qy)(i:Int):Qy:=lgt J5 l i.toNat
def Xe (l:List Qy):List Int->Estate->Estate×Int
 | [],x=>(x,0)
 |i::s,x=>bif ine (XP x (GI l i)).2 0 then (zX,(XP x (GI l i)).2) else Xe l s (XP x (GI l i)).1
theorem ch_at {l:List Qy}(h:l.all WG=true){i:Int}(hi:cIx l i=true):Jz (YB (GI l i))=true:=by
 have hk:i.toNat<l.length:=by
  have:=Bv hi
  omega
 unfold GI
 rw [QX (y:=J5) hk]
 exact Bg.1 h _ (BA hk)
theorem Qy9 {l:List Qy}(hl:l.all WG=true): ∀ (s:List Int) (n:Nat) (x:Estate),ED l s=true->Z2 n x=true->n+s.length<=80000->Z2 (n+s.length) (Xe l s x).1=true
 | [],n,x,_,h,_=>h
 |i::s,n,x,hs,h,hn=>by
  obtain ⟨h1,h2⟩:=Bf.1 (show (cIx l i&&ED l s)=true from hs)
  rw [Bp] at hn ⊢
  unfold Xe
  cases ine (XP x (GI l i)).2 0 with
  |true=>exact Fz _
  |false=>
   rw [show n+(s.length+1)=n+1+s.length by omega]
   exact Qy9 hl s (n+1) _ h2 (Qy8 h (by omega) (ch_at hl h1)) (by omega)
def FA (x:Estate)(l:List Qy)(s:List Int):Estate×Int:=
 bif ine (YM x) 0 then (zX,31) else bif igt (Qc l) 24 then (zX,3) else bif !G1 s (Qc l) then (zX,46) else
 bif ine (Xe l s x).2 0 then (zX,(Xe l s x).2) else ((Xe l s x).1,0)
def Ok (x:Estate)(l:List Qy)(s:List Int):Bool:=Z2 1000 x&&(l.all WG&&decide (s.length<=20000))
theorem QOV {x:Estate}{l:List Qy}{s:List Int}(h:Ok x l s=true):Z2 30000 (FA x l s).1=true:=by
 obtain ⟨h1,h2⟩:=Bf.1 h
 obtain ⟨h2,h3⟩:=Bf.1 h2
 have h3:=Bv h3
 unfold FA
 cases ine (YM x) 0 with
 |true=>exact Fz _
 |false=>cases igt (Qc l) 24 with
  |true=>exact Fz _
  |false=>cases hv:G1 s (Qc l) with
   |false=>exact Fz _
   |true=>cases ine (Xe l s x).2 0 with
    |true=>exact Fz _
    |false=>
     have hs:ED l s=true:=Bg.2 fun i hi=>by
      have:=vs_in hv i hi
      simp only [Qc] at this
      exact Bd ⟨by omega,by omega⟩
     exact Qy7 (Qy9 h2 s 1000 x hs h1 (by omega)) (by omega)
abbrev QfV:Sh:=⟨[(1,.ty (.sl J5)),(6,.ptr 6 0),(8,.ptr 8 0),(29,.ty (.sl tI)),(30,.ty tI),(31,.ty tI)],[(6,.box QF),(8,.box QF),(28,.no),(5028,.no),(10028,.no),(15028,.no)]⟩
abbrev Qza:Sh:=⟨[(6,.ptr 6 0),(7,.ty tI)],[(6,.box QF),(28,.no),(5028,.no),(10028,.no),(15028,.no)]⟩
abbrev Qzb:Sh:=⟨[(6,.ptr 6 0),(8,.ptr 8 0)],[(6,.box QF),(8,.box QF),(28,.no),(5028,.no),(10028,.no),(15028,.no)]⟩
def QnJ:Fg:=QfV.f
def Qzc:TC:=aF Tryz.f24 [(506,.fz [28,5028,10028]),(506,pL 0 QnJ),(8101,.fg Qzb.f),(64818,pD [(0,[8,28,5028,10028,15028]),(1,[]),(2,[]),(3,[]),(4,[]),(5,[6,8,28,41,5028,5041,10028,10041,15028,15041]),(6,[]),(7,[]),(8,[]),(9,[11,5011,10011,15011]),(10,[11]),(11,[])] (.one 0 (.one 1 (.one 2 (.one 3 (.one 4 (.alt 5 (.of [6,7,8,9,10,11]) (.of [9,5,6,7,8,10,11])))))))),(1037109,.fg Qza.f)]
def Qzd:TC:=lb 0 Qzc
def Qze (x1:List Qy)(x29:List Int)(x30 x31:Int)(y6 y8:Estate):VS:=QfV.st (x1,(),(),x29,x30,x31,()) (y6,y8,(),(),(),(),())
def QnK (x7:Int)(y6:Estate):VS:=Qza.st ((),x7,()) (y6,(),(),(),(),())
def QnL (y6 y8:Estate):VS:=Qzb.st ((),(),()) (y6,y8,(),(),(),(),())
def QOW:VS->Option (Bool×List (Bool×Exit×VS)):=mkL QfV (fun x y=>(Qz x.2.2.2.1 x.2.2.2.2.1 x.2.2.2.2.2.1&&(decide (x.2.2.2.1.length<=20000)&&(Z2 (1000+x.2.2.2.2.2.1.toNat) y.2.1&&(x.1.all WG&&ED x.1 x.2.2.2.1))))) (fun x y=>[((ine (Xe x.1 (x.2.2.2.1.drop x.2.2.2.2.2.1.toNat) y.2.1).2 0),.ret,QnK ((Xe x.1 (x.2.2.2.1.drop x.2.2.2.2.2.1.toNat) y.2.1).2) (zX)),(true,.exit 0,QnL (y.1) ((Xe x.1 (x.2.2.2.1.drop x.2.2.2.2.2.1.toNat) y.2.1).1))])
def QnM:G:=gG 51 [(19,Qq0),(61,Qdh),(62,QHi),(63,QHk)] (Ls [QOW])
def QfW (x1:List Qy)(x29:List Int)(x30 x31:Int)(y6 y8:Estate):OX:=QB (QD QnM QnJ Qzd) (Qze x1 x29 x30 x31 y6 y8)
def Ol (kk:List Qy->List Int->Int->Int->Estate->Estate->OX)(x1:List Qy)(x29:List Int)(x30 x31:Int)(y6 y8:Estate):OX:=
 let a1:=lgt J5 x1 (Int.toNat (lgt tI x29 (Int.toNat x31)))
 br (Qc8 y8 a1) (br (ine ((XP y8 a1).2) 0) (some (.ret,QnK ((XP y8 a1).2) (([]:List Endpoint),(([]:List Qb),(([]:List Qs),()))))) (kk x1 x29 x30 (Qk .i64 x31 1) y6 ((XP y8 a1).1))) none
def Om (kk:List Qy->List Int->Int->Int->Estate->Estate->OX)(x1:List Qy)(x29:List Int)(x30 x31:Int)(y6 y8:Estate):OX:=br (ilt x31 x30) (br (cIx x29 x31) (br (cIx x1 (lgt tI x29 (Int.toNat x31))) (frk (Ol kk x1 x29 x30 x31 y6 y8) (Ol kk x1 x29 x30 x31 y6 y8)) none) none) (some (.exit 0,QnL y6 y8))
def QfX (x1:List Qy)(x29:List Int)(x30 x31:Int)(y6 y8:Estate):OX:=
 let a1:=Xe x1 (x29.drop x31.toNat) y8
 br (ine a1.2 0) (some (.ret,QnK (a1.2) (zX)))<|some (.exit 0,QnL (y6) (a1.1))
theorem Qzf (x1:List Qy)(x29:List Int)(x30 x31:Int)(y6 y8:Estate):QfW x1 x29 x30 x31 y6 y8=Om QfW x1 x29 x30 x31 y6 y8:=lnT (x:=Om (fun x1 x29 x30 x31 y6 y8=>some (.normal,Qze x1 x29 x30 x31 y6 y8)) x1 x29 x30 x31 y6 y8) (by
 first
 |(simp only [Jt,Om,Ol,Jt,Xy,X7,X8,X9,Wa]
   rfl)
 |(simp only [Jt,Om,Ol,Jt]
   try generalize ((Qc8 y8 (lgt J5 x1 (Int.toNat (lgt tI x29 (Int.toNat x31))))))=cq0
   try generalize (cIx x1 (lgt tI x29 (Int.toNat x31)))=cq1
   try generalize (cIx x29 x31)=cq2
   simp only [brN,Jt,Bool.and_assoc,Bool.and_comm,Bool.and_left_comm,BX,Bool.and_self_left,Xy,X7,X8,X9,Wa]
   try rfl))
def r_f24 (p0:Estate)(p1:List Qy)(p2:List Int):OV:=
 let a1:=(Xe p1 (p2.drop (0:Int).toNat) ((YZ p0).1,(((YZ p0).2).1,((((YZ p0).2).2).1,()))))
 br (Ja p0) (br (ine (YM p0) 0) (some (.tu [(.t QF (([]:List Endpoint),(([]:List Qb),(([]:List Qs),())))),(.t tI 31)],[])) (br (igt (Qc p1) 24) (some (.tu [(.t QF (([]:List Endpoint),(([]:List Qb),(([]:List Qs),())))),(.t tI 3)],[])) (br (Q9 p2 (Qc p1)) (br (!(G1 p2 (Qc p1))) (some (.tu [(.t QF (([]:List Endpoint),(([]:List Qb),(([]:List Qs),())))),(.t tI 46)],[])) (br (QcA p0) (br (Qz p2 (Qc p2) (0:Int)&&(decide (p2.length<=20000)&&(Z2 (1000+(0:Int).toNat) ((YZ p0).1,(((YZ p0).2).1,((((YZ p0).2).2).1,())))&&(p1.all WG&&ED p1 p2)))) (br (ine a1.2 0) (some (.tu [(.t QF (zX)),(.t tI (a1.2))],[])) (some (.tu [(.t QF (a1.1)),(.t tI 0)],[]))) none) none)) none))) none
theorem QOX (x1:List Qy)(x29:List Int)(x30 x31:Int)(y6 y8:Estate)(h:(Qz x29 x30 x31&&(decide (x29.length<=20000)&&(Z2 (1000+x31.toNat) y8&&(x1.all WG&&ED x1 x29))))=true):QfW x1 x29 x30 x31 y6 y8=QfX x1 x29 x30 x31 y6 y8:=by
 simp only [Bc,Ba] at h
 obtain ⟨h,g0,g1,g2,g3⟩:=h
 obtain ⟨rfl,h3,k,rfl,hk⟩:=Js h
 clear h
 rw [Bb] at g1
 revert y8
 refine QW x29 (fun k=> ∀ y8:Estate,Z2 (1000+k) y8=true->QfW x1 x29 (x29.length:Int) (k:Int) y6 y8=QfX x1 x29 (x29.length:Int) (k:Int) y6 y8) ?_ ?_ k hk
 ·intro y8 _
  rw [Qzf]
  simp only [Om,Ol,Jt,QfX,QC,BI,BQ,Qi,Bb,BE,Xe]
  rfl
 ·intro k hk ih y8 g1
  have hi:cIx x1 x29[k]=true:=Bg.1 g3 _ (BA hk)
  have hid:=ch_at g2 hi
  have ho:Qc8 y8 (GI x1 x29[k])=true:=Bf.2 ⟨Qy7 g1 (by omega),hid⟩
  have ih:=ih _ (Qy8 (n:=1000+k) g1 (by omega) hid)
  unfold GI at ho ih
  rw [Qzf]
  simp only [Om,Ol,Jt,QC,QS,hk,Bu,Qe,Bb,QU (show k<4611686018427387904 by omega),QX (y:=tI) hk,hi,Jt,ho,ih]
  simp only [QfX,Bb,Bi hk,Xe,Int.natCast_add,Int.natCast_one,GI]
  have e3:((k:Int)+1).toNat=k+1:=by omega
  rw [e3]
  cases hz:ine (XP y8 (lgt J5 x1 x29[k].toNat)).2 0 with
  |true=>simp only [BZ,Qe,hz]
  |false=>simp only [BM,Qi]
theorem QOY:LO QnM QnJ Qzd 0:=QN (s:=QfV) fun x y h _ q=>by simp only [QJ,QK] at q;exact (QOX x.1 x.2.2.2.1 x.2.2.2.2.1 x.2.2.2.2.2.1 y.1 y.2.1 h).trans q
theorem s_f24 (x:Estate)(l:List Qy)(s:List Int)(h:Ok x l s=true):r_f24 x l s=some (.tu [.t QF (FA x l s).1,.t tI (FA x l s).2],[]):=by
 obtain ⟨h1,h2⟩:=Bf.1 h
 obtain ⟨h2,h3⟩:=Bf.1 h2
 have h3:=Bv h3
 obtain ⟨hl,hc⟩:=Qso h1 (by decide)
 have hx:Q9 s (Qc l)=true:=Bd (by omega)
 unfold r_f24 FA
 refine brY hl ?_
 cases ine (YM x) 0 with
 |true=>rfl
 |false=>
  rw [Qi]
  cases igt (Qc l) 24 with
  |true=>rfl
  |false=>
   rw [Qi]
   refine brY hx ?_
   cases hv:G1 s (Qc l) with
   |false=>rfl
   |true=>
    have hs:ED l s=true:=Bg.2 fun i hi=>by
     have:=vs_in hv i hi
     simp only [Qc] at this
     exact Bd ⟨by omega,by omega⟩
    rw [show (!true)=false from rfl,Qi]
    refine brY hc (brY ?_ ?_)
    ·exact Bf.2 ⟨Jy (by omega),Bf.2 ⟨Bd h3,Bf.2 ⟨h1,Bf.2 ⟨h2,hs⟩⟩⟩⟩
    ·show br (ine (Xe l s x).2 0) _ _=_
     cases ine (Xe l s x).2 0<;>rfl
def Qzg:Ent:=Qq (.pr QF (.pr (.sl J5) (.pr (.sl tI) .nil))) (fun x=>(Ok x.1 x.2.1 x.2.2.1)) (fun x=>(.tu [(.t QF ((FA x.1 x.2.1 x.2.2.1).1)),(.t tI ((FA x.1 x.2.1 x.2.2.1).2))]))
theorem ms_f24:EM 24 Qzg:=mS (lk:=lkL (lkc QOY lkn)) QnM Qzc [((.c 6 true 3),some QF),((.t 7),some tI)] false (gB (gD QEW (gD QjZ (gD ms_f62 (gD ms_f63 gN))))) fun m=>Qu m fun x hok=>kT (s_f24 x.1 x.2.1 x.2.2.1 hok)
end
end Go.Proofs.YtckcgijklnloiaaGreat.K
noncomputable section
namespace Go.Proofs.YtckcgijklnloiaaGreat.K
open Go.RowKit
noncomputable section
abbrev ecV:Qb:=(7,(256,()))
def QGy:TC:=aF Tryz.f60 []
def QGz:List (RV×Option Ty):=[((.c 0 true 2),some Qh)]
def g_f60:G:=gG 2 [] (fun _ _=>none)
def r_f60  : OV:=some (.t Qh (7,(256,())),[])
theorem e_f60  : JR g_f60 QGy QGz false [] []=r_f60  :=by kernel_rfl
theorem s_f60:r_f60=some (.t Qh ecV,[]):=rfl
def QGA:Ent:=Qq .nil (fun x=>true) (fun x=>(.t Qh ecV))
theorem ms_f60:EM 60 QGA:=mS g_f60 QGy QGz false (gB gN) fun m=>Qu m fun x _=>(e_f60 ).trans (s_f60)
def WO:Nat->Int->List Int×Qd->List Int×Qd
 |0,_,p=>p
 |k+1,i,p=>WO k (i+1) (bif ieq (Ql p.2 2) 0 then (p.1++[i],Qg p.2 2) else (p.1,Qg p.2 2))
theorem QGB: ∀ (k:Nat) (i:Int) (p:List Int×Qd),(WO k i p).1.length<=p.1.length+k
 |0,_,p=>BS _
 |k+1,i,p=>by
  unfold WO
  refine B4 (QGB k (i+1) _) ?_
  cases ieq (Ql p.2 2) 0 with
  |true=>simp only [BZ,Bj,Bh];omega
  |false=>simp only [BM];omega
theorem QGC: ∀ (k:Nat) (i:Int) (p:List Int×Qd),dOk p.2=true->dOk (WO k i p).2=true
 |0,_,p,h=>h
 |k+1,i,p,h=>by
  unfold WO
  refine QGC k (i+1) _ ?_
  cases ieq (Ql p.2 2) 0<;>exact QG (n:=2) h
def FZ (d:Qd)(n:Int):List Int:=(WO n.toNat 0 ([],d)).1
def Qc1 (d:Qd)(n:Int):Qd:=(WO n.toNat 0 ([],d)).2
def Qjm (d:Qd)(n:Int):Bool:=dOk d&&decide (0<=n/\n<=10000)
abbrev Qjn:Sh:=⟨[(0,.ptr 50000 0),(1,.ty tI),(5,.ms 5),(6,.ty tI)],[(5,.arr 3 tI),(18,.no),(50000,.box QM)]⟩
abbrev QGD:Sh:=⟨[(5,.ms 5)],[(5,.arr 3 tI),(18,.no),(50000,.box QM)]⟩
def QrS:Fg:=Qjn.f
def QGE:TC:=aF Tryz.f25 [(58,.nw 5 3),(58,pL 0 QrS),(931,.fg QGD.f)]
def QGF:TC:=lb 0 QGE
def QGG (x1 x6:Int)(y5:List Int)(Qa:Qd):VS:=Qjn.st ((),x1,(),x6,()) (y5,(),Qa,())
def QrT (y5:List Int)(Qa:Qd):VS:=QGD.st ((),()) (y5,(),Qa,())
def QUO:VS->Option (Bool×List (Bool×Exit×VS)):=mkL Qjn (fun x y=>(dOk y.2.2.1&&decide (0<=x.2.2.2.1/\x.2.2.2.1<=x.2.1/\x.2.1<=10000/\(y.1.length:Int)<=x.2.2.2.1))) (fun x y=>[(true,.exit 0,QrT ((WO (x.2.1-x.2.2.2.1).toNat x.2.2.2.1 (y.1,y.2.2.1)).1) ((WO (x.2.1-x.2.2.2.1).toNat x.2.2.2.1 (y.1,y.2.2.1)).2))])
def QrU:G:=gG 20 [(35,Wj)] (Ls [QUO])
def QrV (x1 x6:Int)(y5:List Int)(Qa:Qd):OX:=QB (QD QrU QrS QGF) (QGG x1 x6 y5 Qa)
def Qc2 (kk:Int->Int->List Int->Qd->OX)(x1 x6:Int)(y5:List Int)(Qa:Qd):OX:=br (ilt x6 x1) (br (QL Qa 2) (br (ieq (Ql Qa 2) 0) (br (Qr y5 ([x6]) 8) (kk x1 (Qk .i64 x6 1) (y5++([x6])) (Qg Qa 2)) none) (kk x1 (Qk .i64 x6 1) y5 (Qg Qa 2))) none) (some (.exit 0,QrT y5 Qa))
def QrW (x1 x6:Int)(y5:List Int)(Qa:Qd):OX:=
 let a1:=(WO (x1-x6).toNat x6 (y5,Qa))
 some (.exit 0,QrT (a1.1) (a1.2))
theorem QGH (x1 x6:Int)(y5:List Int)(Qa:Qd):QrV x1 x6 y5 Qa=Qc2 QrV x1 x6 y5 Qa:=lnT (x:=Qc2 (fun x1 x6 y5 Qa=>some (.normal,QGG x1 x6 y5 Qa)) x1 x6 y5 Qa) (by simp only [Qc2,nxA];rfl)
def r_f25 (d0:Qd)(p1:Int):OV:=
 let a1:=(WO (p1-(0:Int)).toNat (0:Int) (([]:List Int),d0))
 br (dOk d0&&decide (0<=(0:Int)/\(0:Int)<=p1/\p1<=10000/\(([]:List Int).length:Int)<=(0:Int))) (some (.t (.sl tI) (a1.1),[.box (.t QM (a1.2))])) none
theorem QUP (x1 x6:Int)(y5:List Int)(Qa:Qd)(h:(dOk Qa&&decide (0<=x6/\x6<=x1/\x1<=10000/\(y5.length:Int)<=x6))=true):QrV x1 x6 y5 Qa=QrW x1 x6 y5 Qa:=by
 simp only [Bc,Ba] at h
 obtain ⟨g0,g1,g2,g3,g4⟩:=h
 obtain ⟨m,hm⟩: ∃ m:Nat,(x1-x6).toNat=m:=⟨_,rfl⟩
 induction m generalizing x6 y5 Qa with
 |zero=>
  have:ilt x6 x1=false:=Bn (by omega)
  rw [QGH]
  simp only [Qc2,QrW,this,Qi,hm,WO]
 |succ m ih=>
  have e0:ilt x6 x1=true:=Bd (by omega)
  have e1:Qk .i64 x6 1=x6+1:=JK (by omega)
  have e2:QL Qa 2=true:=Bf.2 ⟨g0,by decide⟩
  have e3:Qr y5 [x6] 8=true:=Q7 (by decide) (by simp only [Bh];omega)
  rw [QGH]
  simp only [Qc2,e0,e1,e2,e3,Qe]
  rw [ih (x6+1) (y5++[x6]) (Qg Qa 2) (QG g0) (by omega) (by omega) (by simp only [Bj,Bh];omega) (by omega),ih (x6+1) y5 (Qg Qa 2) (QG g0) (by omega) (by omega) (by omega) (by omega)]
  have e4:(x1-(x6+1)).toNat=m:=by omega
  simp only [QrW,hm,e4,WO]
  cases ieq (Ql Qa 2) 0<;>rfl
theorem QUQ:LO QrU QrS QGF 0:=QN (s:=Qjn) fun x y h _ q=>by simp only [QJ,QK] at q;exact (QUP x.2.1 x.2.2.2.1 y.1 y.2.2.1 h).trans q
theorem s_f25 (d:Qd)(n:Int)(h:Qjm d n=true):r_f25 d n=some (.t (.sl tI) (FZ d n),[.box (.t QM (Qc1 d n))]):=by
 obtain ⟨h1,h2⟩:=Bf.1 h
 have h2:=Bv h2
 unfold r_f25 FZ Qc1
 refine Eq.trans (brY (Bf.2 ⟨h1,Bd ⟨by omega,by omega,by omega,by simp⟩⟩) rfl) ?_
 rw [show n-0=n by omega]
def QGI:Ent:=Y8 QM (.pr tI .nil) (fun d x=>(Qjm d x.1)) (fun d x=>(.t (.sl tI) (FZ d x.1))) (fun d x=>(Qc1 d x.1))
theorem ms_f25:EM 25 QGI:=mS (lk:=lkL (lkc QUQ lkn)) QrU QGE [((.t 4),some (.sl tI))] false (gB (gD WI gN)) fun m=>X6 m rfl fun d x hok=>kT (s_f25 d x.1 hok)
abbrev zId:QA:=((0,(0,())),(0,(([]:List Qf),())))
def mvC (i k n a:Int)(x:QA):Qy:=(i,(k,(n,(a,(x,())))))
abbrev MP:=List Qy×Qd
def mv1 (b:Bool)(i:Int)(e:Endpoint)(p:MP):MP:=bif b then (bif !QY (QI e) 12 then (p.1++[mvC i 1 12 (Ql p.2 2) zId],Qg p.2 2) else p) else p
def mv2 (b:Bool)(i:Int)(p:MP):MP:=bif b then (bif ieq i 0 then (p.1++[mvC i 7 2 0 zId],p.2) else p) else p
def mv3 (b:Bool)(i:Int)(e:Endpoint)(p:MP):MP:=bif b then (bif ieq i 1 then (p.1++[mvC i 5 0 (Qc (QH e)) (JE e.1 ecV 201 (dof p.2 [2,1]) 901)],Qt p.2 [2,1]) else p) else p
def mv4 (b:Bool)(i:Int)(e:Endpoint)(p:MP):MP:=bif b then (bif QY (QI e) 2 then (bif igt (Ql p.2 4) 0 then (p.1++[mvC i 2 2 0 zId],Qg p.2 4) else (p.1,Qg p.2 4)) else p) else p
def mv5 (b:Bool)(i:Int)(e:Endpoint)(p:MP):MP:=bif b then (bif ilt e.2.2.1 4 then (p.1++[mvC i 3 4 0 zId,mvC i 1 14 0 zId],p.2) else p) else p
def mvS (b6 b7 b8:Bool)(i:Int)(e:Endpoint)(p:MP):MP:=mv5 b8 i e (mv4 b6 i e (mv3 b7 i e (mv2 b7 i (mv1 b6 i e p))))
def mvZ (b6 b7 b8:Bool):List Endpoint->Int->MP->MP
 | [],_,p=>p
 |e::r,i,p=>mvZ b6 b7 b8 r (i+1) (mvS b6 b7 b8 i e p)
def mvE (e:Endpoint):Bool:=Q2 e&&(decide (e.1.size<=1000)&&([2,1].all fun a=>Jz (JE e.1 ecV 201 a 901)))
def mvI (n:Nat)(p:MP):Prop:=p.1.length<=n/\p.1.all WG=true/\dOk p.2=true
theorem Gk {n m:Nat}{p:MP}(h:mvI n p)(hn:n<=m):mvI m p:=⟨B4 h.1 hn,h.2⟩
theorem Qjo {n:Nat}{p:MP}(h:mvI n p){c:Qy}(hc:WG c=true){d:Qd}(hd:dOk d=true):mvI (n+1) (p.1++[c],d):=
 ⟨by simp only [Bj,Bh];have:=h.1;omega,by rw [DR,h.2.1];simp only [BV,Dw,hc,B8],hd⟩
theorem zC (i k n a:Int):WG (mvC i k n a zId)=true:=rfl
section
variable {b b6 b7 b8:Bool}{i:Int}{e:Endpoint}{n:Nat}{p:MP}
theorem mv1_I (h:mvI n p):mvI (n+1) (mv1 b i e p):=by
 unfold mv1
 cases b with
 |false=>exact Gk h (DP n)
 |true=>cases !QY (QI e) 12 with
  |false=>exact Gk h (DP n)
  |true=>exact Qjo h (zC ..) (QG h.2.2)
theorem mv2_I (h:mvI n p):mvI (n+1) (mv2 b i p):=by
 unfold mv2
 cases b with
 |false=>exact Gk h (DP n)
 |true=>cases ieq i 0 with
  |false=>exact Gk h (DP n)
  |true=>exact Qjo h (zC ..) h.2.2
theorem mv3_I (he:mvE e=true)(h:mvI n p):mvI (n+1) (mv3 b i e p):=by
 unfold mv3
 cases b with
 |false=>exact Gk h (DP n)
 |true=>cases ieq i 1 with
  |false=>exact Gk h (DP n)
  |true=>
   simp only [mvE,Bc] at he
   exact Qjo h (c:=mvC i 5 0 (Qc (QH e)) (JE e.1 ecV 201 (dof p.2 [2,1]) 901)) (show Jz _=true from Bg.1 he.2.2 _ (Z0 (by decide))) (JH (l:=[2,1]) h.2.2)
theorem mv4_I (h:mvI n p):mvI (n+1) (mv4 b i e p):=by
 unfold mv4
 cases b with
 |false=>exact Gk h (DP n)
 |true=>cases QY (QI e) 2 with
  |false=>exact Gk h (DP n)
  |true=>cases igt (Ql p.2 4) 0 with
   |false=>exact ⟨Nat.le_succ_of_le h.1,h.2.1,QG (n:=4) h.2.2⟩
   |true=>exact Qjo h (zC ..) (QG h.2.2)
theorem mv5_I (h:mvI n p):mvI (n+2) (mv5 b i e p):=by
 unfold mv5
 cases b with
 |false=>exact Gk h (by omega)
 |true=>cases ilt e.2.2.1 4 with
  |false=>exact Gk h (by omega)
  |true=>exact ⟨by simp only [BZ,Bj,Bp,Bw];have:=h.1;omega,by simp only [BZ];rw [DR,h.2.1];rfl,h.2.2⟩
theorem mvS_I (he:mvE e=true)(h:mvI n p):mvI (n+6) (mvS b6 b7 b8 i e p):=mv5_I (mv4_I (mv3_I he (mv2_I (mv1_I h))))
end
theorem mvZ_I {b6 b7 b8:Bool}: ∀ {r:List Endpoint} {i:Int} {n:Nat} {p:MP},r.all mvE=true->mvI n p->mvI (n+6*r.length) (mvZ b6 b7 b8 r i p)
 | [],_,_,_,_,h=>h
 |e::r,i,n,p,hr,h=>by
  rw [BV,Bc] at hr
  unfold mvZ
  rw [Bp,show n+6*(r.length+1)=n+6+6*r.length by omega]
  exact mvZ_I hr.2 (mvS_I hr.1 h)
def swF (l:List Qy)(i:Int):List Qy:=(l.set i.toNat (lgt J5 l (i+1).toNat)).set (i+1).toNat (lgt J5 l i.toNat)
def swZ:Nat->MP->MP
 |0,p=>p
 |k+1,p=>bif igt (Qc p.1) 1 then swZ k (swF p.1 (Ql p.2 ((p.1.length:Int)-1)),Qg p.2 ((p.1.length:Int)-1)) else p
theorem QGJ {p:Qy->Bool}{l:List Qy}{k:Nat}{x:Qy}(h:l.all p=true)(hx:p x=true):(l.set k x).all p=true:=
 Bg.2 fun y hy=>(List.mem_or_eq_of_mem_set hy).elim (Bg.1 h y) fun e=>e▸hx
theorem QGK {p:Qy->Bool}{l:List Qy}{k:Nat}(h:l.all p=true)(hk:k<l.length):p (lgt J5 l k)=true:=by
 rw [QX (y:=J5) hk]
 exact Bg.1 h _ (BA hk)
theorem swZ_I {n:Nat}: ∀ (k:Nat) {p:MP},mvI n p->mvI n (swZ k p)
 |0,_,h=>h
 |k+1,p,h=>by
  unfold swZ
  cases hg:igt (Qc p.1) 1 with
  |false=>exact h
  |true=>
   have hl:(1:Int)<p.1.length:=Bv hg
   have hd:=JA (d:=p.2) (n:=(p.1.length:Int)-1) (by omega)
   refine swZ_I k ⟨?_, ?_,QG (n:=(p.1.length:Int)-1) h.2.2⟩
   ·simp only [swF,List.length_set]
    exact h.1
   ·exact QGJ (QGJ h.2.1 (QGK h.2.1 (by omega))) (QGK h.2.1 (by omega))
def mvB (d:Qd)(x:Estate):MP:=mvZ (igt (Ql d 3) 0) (ieq (Ql (Qg d 3) 3) 0) (ieq (Ql (Qg (Qg d 3) 3) 4) 0) (QZ x) 0 ([],Qg (Qg (Qg d 3) 3) 4)
def mvF (d:Qd)(x:Estate):MP:=swZ (Ql (mvB d x).2 4).toNat ((mvB d x).1.take 7,Qg (mvB d x).2 4)
def mvV (d:Qd)(x:Estate):List Qy:=(mvF d x).1
def mvN (d:Qd)(x:Estate):Qd:=(mvF d x).2
def G0 (d:Qd)(x:Estate):Bool:=dOk d&&(decide ((QZ x).length<=1000)&&(QZ x).all mvE)
abbrev Qjp:Sh:=⟨[(0,.ptr 50000 0),(5,.ms 5),(6,.ty .bool),(7,.ty .bool),(8,.ty .bool),(23,.ty (.sl Qj)),(24,.ty tI),(25,.ty tI)],[(5,.arr 116 J5),(43,.no),(53,.no),(73,.no),(89,.no),(102,.no),(50000,.box QM)]⟩
abbrev VA:Sh:=⟨[(0,.ptr 50000 0),(5,.ms 5)],[(5,.arr 116 J5),(43,.no),(53,.no),(73,.no),(89,.no),(102,.no),(50000,.box QM)]⟩
abbrev Qjq:Sh:=⟨[(0,.ptr 50000 0),(5,.ms 5),(11,.ty tI)],[(5,.arr 116 J5),(43,.no),(53,.no),(73,.no),(89,.no),(102,.no),(50000,.box QM)]⟩
abbrev QGL:Sh:=⟨[(5,.ms 5)],[(5,.arr 116 J5),(43,.no),(53,.no),(73,.no),(89,.no),(102,.no),(50000,.box QM)]⟩
def QrX:Fg:=Qjp.f
def QrY:Fg:=VA.f
def QrZ:Fg:=Qjq.f
def Qjr:TC:=aF Tryz.f23 [(122,.nw 5 116),(122,pL 0 QrX),(1957,.fg VA.f),(250682,pD [(0,[5,43,53,73,89,102]),(1,[]),(2,[10]),(3,[10]),(4,[]),(5,[50000]),(6,[]),(7,[66,5066,10066,15066,50000]),(8,[]),(9,[10]),(10,[10]),(11,[]),(12,[]),(13,[]),(14,[5,43,53,73,89,102,5073,10073,15073]),(15,[5,43,53,73,89,102])] (.of [0,1,2,3,4,5,6,9,10,11,7,8,12,13,14,15])),(124,pL 1 QrY),(248,.mv [(5,2000000)]),(1987,.fg VA.f),(506,pL 2 QrZ),(8099,.fg QGL.f),(16201,pD [(0,[5,43,53,73,89,102]),(1,[]),(2,[5,43,53,73,89,102]),(3,[]),(4,[]),(5,[5,43,53,73,89,102]),(6,[]),(7,[]),(8,[5,43,53,73,89,102]),(9,[5,43,53,73,89,102]),(10,[5,43,53,73,89,102]),(11,[]),(12,[5,43,53,73,89,102]),(13,[5,43,53,73,89,102]),(14,[5,43,53,73,89,102]),(15,[5,43,53,73,89,102]),(16,[5,43,53,73,89,102]),(17,[5,43,53,73,89,102])] (.one 0 (.one 1 (.one 3 (.one 4 (.one 5 (.one 6 (.one 7 (.one 8 (.one 9 (.one 10 (.one 11 (.one 12 (.one 13 (.one 14 (.alt 2 (.of [15,16,17]) (.of [15,2,16,17])))))))))))))))))]
def QGM:TC:=lb 0 Qjr
def QGN:TC:=lb 1 Qjr
def QGO:TC:=lb 2 Qjr
def QGP (x6 x7 x8:Bool)(x23:List Endpoint)(x24 x25:Int)(y5:List Qy)(Qa:Qd):VS:=Qjp.st ((),(),x6,x7,x8,x23,x24,x25,()) (y5,(),(),(),(),(),Qa,())
def F0 (y5:List Qy)(Qa:Qd):VS:=VA.st ((),(),()) (y5,(),(),(),(),(),Qa,())
def QGQ (x11:Int)(y5:List Qy)(Qa:Qd):VS:=Qjq.st ((),(),x11,()) (y5,(),(),(),(),(),Qa,())
def Qjs (y5:List Qy)(Qa:Qd):VS:=QGL.st ((),()) (y5,(),(),(),(),(),Qa,())
def QUR:VS->Option (Bool×List (Bool×Exit×VS)):=mkL Qjp (fun x y=>(Qz x.2.2.2.2.2.1 x.2.2.2.2.2.2.1 x.2.2.2.2.2.2.2.1&&(decide (x.2.2.2.2.2.1.length<=1000)&&(x.2.2.2.2.2.1.all mvE&&(decide (y.1.length<=6*x.2.2.2.2.2.2.2.1.toNat)&&(y.1.all WG&&dOk y.2.2.2.2.2.2.1)))))) (fun x y=>[(true,.exit 0,F0 ((mvZ x.2.2.1 x.2.2.2.1 x.2.2.2.2.1 (x.2.2.2.2.2.1.drop x.2.2.2.2.2.2.2.1.toNat) x.2.2.2.2.2.2.2.1 (y.1,y.2.2.2.2.2.2.1)).1) ((mvZ x.2.2.1 x.2.2.2.1 x.2.2.2.2.1 (x.2.2.2.2.2.1.drop x.2.2.2.2.2.2.2.1.toNat) x.2.2.2.2.2.2.2.1 (y.1,y.2.2.2.2.2.2.1)).2))])
def QUS:VS->Option (Bool×List (Bool×Exit×VS)):=mkL VA (fun x y=>(decide (y.1.length<=100000))) (fun x y=>[(true,.exit 2,F0 (y.1.take 7) (y.2.2.2.2.2.2.1))])
def QUT:VS->Option (Bool×List (Bool×Exit×VS)):=mkL Qjq (fun x y=>(decide (y.1.length<=100000/\0<=x.2.2.1/\x.2.2.1<=100)&&dOk y.2.2.2.2.2.2.1)) (fun x y=>[(true,.exit 4,Qjs ((swZ x.2.2.1.toNat (y.1,y.2.2.2.2.2.2.1)).1) ((swZ x.2.2.1.toNat (y.1,y.2.2.2.2.2.2.1)).2))])
def E8:G:=gG 145 [(16,QIX),(35,Wj),(45,Ge),(47,QtA),(60,QGA)] (Ls [QUR,QUS,QUT])
def VB (x6 x7 x8:Bool)(x23:List Endpoint)(x24 x25:Int)(y5:List Qy)(Qa:Qd):OX:=QB (QD E8 QrX QGM) (QGP x6 x7 x8 x23 x24 x25 y5 Qa)
def Qr0 (kk:Bool->Bool->Bool->List Endpoint->Int->Int->List Qy->Qd->OX)(x6 x7 x8:Bool)(x23:List Endpoint)(x24 x25:Int)(y5:List Qy)(Qa:Qd):OX:=
 let a1:=(((y5++([(x25,(1,(12,((Ql Qa 2),(((0,(0,())),(0,(([]:List Qf),()))),())))))]))++([(x25,(7,(2,(0,(((0,(0,())),(0,(([]:List Qf),()))),())))))]))++([(x25,(5,(0,((Qc (((((((lgt Qj x23 (Int.toNat x25)).2).2).2).2).2).1)),(((((JE ((lgt Qj x23 (Int.toNat x25)).1) ecV 201 (dof (Qg Qa 2) ([2,1])) 901).1).1,((((JE ((lgt Qj x23 (Int.toNat x25)).1) ecV 201 (dof (Qg Qa 2) ([2,1])) 901).1).2).1,())),(((JE ((lgt Qj x23 (Int.toNat x25)).1) ecV 201 (dof (Qg Qa 2) ([2,1])) 901).2).1,((((JE ((lgt Qj x23 (Int.toNat x25)).1) ecV 201 (dof (Qg Qa 2) ([2,1])) 901).2).2).1,()))),())))))]))
 let a2:=(Qt (Qg Qa 2) ([2,1]))
 let a3:=Qk .i64 x25 1
 br (x8) (br (ilt ((((lgt Qj x23 (Int.toNat x25)).2).2).1) 4) (br (Qr a1 ([(x25,(3,(4,(0,(((0,(0,())),(0,(([]:List Qf),()))),()))))),(x25,(1,(14,(0,(((0,(0,())),(0,(([]:List Qf),()))),())))))]) 80) (kk x6 x7 x8 x23 x24 a3 (a1++([(x25,(3,(4,(0,(((0,(0,())),(0,(([]:List Qf),()))),()))))),(x25,(1,(14,(0,(((0,(0,())),(0,(([]:List Qf),()))),())))))])) a2) none) (kk x6 x7 x8 x23 x24 a3 a1 a2)) (kk x6 x7 x8 x23 x24 a3 a1 a2)
def Qr1 (kk:Bool->Bool->Bool->List Endpoint->Int->Int->List Qy->Qd->OX)(x6 x7 x8:Bool)(x23:List Endpoint)(x24 x25:Int)(y5:List Qy)(Qa:Qd):OX:=
 let a1:=((y5++([(x25,(1,(12,((Ql Qa 2),(((0,(0,())),(0,(([]:List Qf),()))),())))))]))++([(x25,(7,(2,(0,(((0,(0,())),(0,(([]:List Qf),()))),())))))]))
 let a2:=Qk .i64 x25 1
 let a3:=Qg Qa 2
 br (x8) (br (ilt ((((lgt Qj x23 (Int.toNat x25)).2).2).1) 4) (br (Qr a1 ([(x25,(3,(4,(0,(((0,(0,())),(0,(([]:List Qf),()))),()))))),(x25,(1,(14,(0,(((0,(0,())),(0,(([]:List Qf),()))),())))))]) 80) (kk x6 x7 x8 x23 x24 a2 (a1++([(x25,(3,(4,(0,(((0,(0,())),(0,(([]:List Qf),()))),()))))),(x25,(1,(14,(0,(((0,(0,())),(0,(([]:List Qf),()))),())))))])) a3) none) (kk x6 x7 x8 x23 x24 a2 a1 a3)) (kk x6 x7 x8 x23 x24 a2 a1 a3)
def Qr2 (kk:Bool->Bool->Bool->List Endpoint->Int->Int->List Qy->Qd->OX)(x6 x7 x8:Bool)(x23:List Endpoint)(x24 x25:Int)(y5:List Qy)(Qa:Qd):OX:=
 let a1:=((y5++([(x25,(1,(12,((Ql Qa 2),(((0,(0,())),(0,(([]:List Qf),()))),())))))]))++([(x25,(7,(2,(0,(((0,(0,())),(0,(([]:List Qf),()))),())))))]))
 let a2:=(a1++([(x25,(2,(2,(0,(((0,(0,())),(0,(([]:List Qf),()))),())))))]))
 let a3:=(((lgt Qj x23 (Int.toNat x25)).2).2)
 let a4:=Qg (Qg Qa 2) 4
 let a5:=Qk .i64 x25 1
 br (x6) (br (Q9 ((a3.2).1) 2) (br (QY ((a3.2).1) 2) (br (QL (Qg Qa 2) 4) (br (igt (Ql (Qg Qa 2) 4) 0) (br (Qr a1 ([(x25,(2,(2,(0,(((0,(0,())),(0,(([]:List Qf),()))),())))))]) 80) (br (x8) (br (ilt (a3.1) 4) (br (Qr a2 ([(x25,(3,(4,(0,(((0,(0,())),(0,(([]:List Qf),()))),()))))),(x25,(1,(14,(0,(((0,(0,())),(0,(([]:List Qf),()))),())))))]) 80) (kk x6 x7 x8 x23 x24 a5 (a2++([(x25,(3,(4,(0,(((0,(0,())),(0,(([]:List Qf),()))),()))))),(x25,(1,(14,(0,(((0,(0,())),(0,(([]:List Qf),()))),())))))])) a4) none) (kk x6 x7 x8 x23 x24 a5 a2 a4)) (kk x6 x7 x8 x23 x24 a5 a2 a4)) none) (br (x8) (br (ilt (a3.1) 4) (br (Qr a1 ([(x25,(3,(4,(0,(((0,(0,())),(0,(([]:List Qf),()))),()))))),(x25,(1,(14,(0,(((0,(0,())),(0,(([]:List Qf),()))),())))))]) 80) (kk x6 x7 x8 x23 x24 a5 (a1++([(x25,(3,(4,(0,(((0,(0,())),(0,(([]:List Qf),()))),()))))),(x25,(1,(14,(0,(((0,(0,())),(0,(([]:List Qf),()))),())))))])) a4) none) (kk x6 x7 x8 x23 x24 a5 a1 a4)) (kk x6 x7 x8 x23 x24 a5 a1 a4))) none) (Qr1 kk x6 x7 x8 x23 x24 x25 y5 Qa)) none) (Qr1 kk x6 x7 x8 x23 x24 x25 y5 Qa)
def Qr3 (kk:Bool->Bool->Bool->List Endpoint->Int->Int->List Qy->Qd->OX)(x6 x7 x8:Bool)(x23:List Endpoint)(x24 x25:Int)(y5:List Qy)(Qa:Qd):OX:=
 let a1:=((y5++([(x25,(1,(12,((Ql Qa 2),(((0,(0,())),(0,(([]:List Qf),()))),())))))]))++([(x25,(5,(0,((Qc (((((((lgt Qj x23 (Int.toNat x25)).2).2).2).2).2).1)),(((((JE ((lgt Qj x23 (Int.toNat x25)).1) ecV 201 (dof (Qg Qa 2) ([2,1])) 901).1).1,((((JE ((lgt Qj x23 (Int.toNat x25)).1) ecV 201 (dof (Qg Qa 2) ([2,1])) 901).1).2).1,())),(((JE ((lgt Qj x23 (Int.toNat x25)).1) ecV 201 (dof (Qg Qa 2) ([2,1])) 901).2).1,((((JE ((lgt Qj x23 (Int.toNat x25)).1) ecV 201 (dof (Qg Qa 2) ([2,1])) 901).2).2).1,()))),())))))]))
 let a2:=(Qt (Qg Qa 2) ([2,1]))
 let a3:=Qk .i64 x25 1
 br (x8) (br (ilt ((((lgt Qj x23 (Int.toNat x25)).2).2).1) 4) (br (Qr a1 ([(x25,(3,(4,(0,(((0,(0,())),(0,(([]:List Qf),()))),()))))),(x25,(1,(14,(0,(((0,(0,())),(0,(([]:List Qf),()))),())))))]) 80) (kk x6 x7 x8 x23 x24 a3 (a1++([(x25,(3,(4,(0,(((0,(0,())),(0,(([]:List Qf),()))),()))))),(x25,(1,(14,(0,(((0,(0,())),(0,(([]:List Qf),()))),())))))])) a2) none) (kk x6 x7 x8 x23 x24 a3 a1 a2)) (kk x6 x7 x8 x23 x24 a3 a1 a2)
def Qr4 (kk:Bool->Bool->Bool->List Endpoint->Int->Int->List Qy->Qd->OX)(x6 x7 x8:Bool)(x23:List Endpoint)(x24 x25:Int)(y5:List Qy)(Qa:Qd):OX:=
 let a1:=(y5++([(x25,(1,(12,((Ql Qa 2),(((0,(0,())),(0,(([]:List Qf),()))),())))))]))
 let a2:=Qk .i64 x25 1
 let a3:=Qg Qa 2
 br (x8) (br (ilt ((((lgt Qj x23 (Int.toNat x25)).2).2).1) 4) (br (Qr a1 ([(x25,(3,(4,(0,(((0,(0,())),(0,(([]:List Qf),()))),()))))),(x25,(1,(14,(0,(((0,(0,())),(0,(([]:List Qf),()))),())))))]) 80) (kk x6 x7 x8 x23 x24 a2 (a1++([(x25,(3,(4,(0,(((0,(0,())),(0,(([]:List Qf),()))),()))))),(x25,(1,(14,(0,(((0,(0,())),(0,(([]:List Qf),()))),())))))])) a3) none) (kk x6 x7 x8 x23 x24 a2 a1 a3)) (kk x6 x7 x8 x23 x24 a2 a1 a3)
def Qr5 (kk:Bool->Bool->Bool->List Endpoint->Int->Int->List Qy->Qd->OX)(x6 x7 x8:Bool)(x23:List Endpoint)(x24 x25:Int)(y5:List Qy)(Qa:Qd):OX:=
 let a1:=(y5++([(x25,(1,(12,((Ql Qa 2),(((0,(0,())),(0,(([]:List Qf),()))),())))))]))
 let a2:=(a1++([(x25,(2,(2,(0,(((0,(0,())),(0,(([]:List Qf),()))),())))))]))
 let a3:=(((lgt Qj x23 (Int.toNat x25)).2).2)
 let a4:=Qg (Qg Qa 2) 4
 let a5:=Qk .i64 x25 1
 br (x6) (br (Q9 ((a3.2).1) 2) (br (QY ((a3.2).1) 2) (br (QL (Qg Qa 2) 4) (br (igt (Ql (Qg Qa 2) 4) 0) (br (Qr a1 ([(x25,(2,(2,(0,(((0,(0,())),(0,(([]:List Qf),()))),())))))]) 80) (br (x8) (br (ilt (a3.1) 4) (br (Qr a2 ([(x25,(3,(4,(0,(((0,(0,())),(0,(([]:List Qf),()))),()))))),(x25,(1,(14,(0,(((0,(0,())),(0,(([]:List Qf),()))),())))))]) 80) (kk x6 x7 x8 x23 x24 a5 (a2++([(x25,(3,(4,(0,(((0,(0,())),(0,(([]:List Qf),()))),()))))),(x25,(1,(14,(0,(((0,(0,())),(0,(([]:List Qf),()))),())))))])) a4) none) (kk x6 x7 x8 x23 x24 a5 a2 a4)) (kk x6 x7 x8 x23 x24 a5 a2 a4)) none) (br (x8) (br (ilt (a3.1) 4) (br (Qr a1 ([(x25,(3,(4,(0,(((0,(0,())),(0,(([]:List Qf),()))),()))))),(x25,(1,(14,(0,(((0,(0,())),(0,(([]:List Qf),()))),())))))]) 80) (kk x6 x7 x8 x23 x24 a5 (a1++([(x25,(3,(4,(0,(((0,(0,())),(0,(([]:List Qf),()))),()))))),(x25,(1,(14,(0,(((0,(0,())),(0,(([]:List Qf),()))),())))))])) a4) none) (kk x6 x7 x8 x23 x24 a5 a1 a4)) (kk x6 x7 x8 x23 x24 a5 a1 a4))) none) (Qr4 kk x6 x7 x8 x23 x24 x25 y5 Qa)) none) (Qr4 kk x6 x7 x8 x23 x24 x25 y5 Qa)
def Qr6 (kk:Bool->Bool->Bool->List Endpoint->Int->Int->List Qy->Qd->OX)(x6 x7 x8:Bool)(x23:List Endpoint)(x24 x25:Int)(y5:List Qy)(Qa:Qd):OX:=
 let a2:=lgt Qj x23 (Int.toNat x25)
 let a7:=(((a2.2).2).2)
 let a5:=(JE (a2.1) ecV 201 (dof (Qg Qa 2) ([2,1])) 901)
 let a1:=((y5++([(x25,(1,(12,((Ql Qa 2),(((0,(0,())),(0,(([]:List Qf),()))),())))))]))++([(x25,(5,(0,((Qc (((a7.2).2).1)),((((a5.1).1,(((a5.1).2).1,())),((a5.2).1,(((a5.2).2).1,()))),())))))]))
 let a3:=(a1++([(x25,(2,(2,(0,(((0,(0,())),(0,(([]:List Qf),()))),())))))]))
 let a4:=(Qt (Qg Qa 2) ([2,1]))
 let a6:=Qk .i64 x25 1
 br (x7) (br (ieq x25 1) (br (Jc (Qg Qa 2) ([2,1])) (br (Gr (a2.1) ecV 201 (dof (Qg Qa 2) ([2,1])) 901) (br (Qr (y5++([(x25,(1,(12,((Ql Qa 2),(((0,(0,())),(0,(([]:List Qf),()))),())))))])) ([(x25,(5,(0,((Qc (((a7.2).2).1)),((((a5.1).1,(((a5.1).2).1,())),((a5.2).1,(((a5.2).2).1,()))),())))))]) 80) (br (x6) (br (Q9 (a7.1) 2) (br (QY (a7.1) 2) (br (QL a4 4) (br (igt (Ql a4 4) 0) (br (Qr a1 ([(x25,(2,(2,(0,(((0,(0,())),(0,(([]:List Qf),()))),())))))]) 80) (br (x8) (br (ilt (((a2.2).2).1) 4) (br (Qr a3 ([(x25,(3,(4,(0,(((0,(0,())),(0,(([]:List Qf),()))),()))))),(x25,(1,(14,(0,(((0,(0,())),(0,(([]:List Qf),()))),())))))]) 80) (kk x6 x7 x8 x23 x24 a6 (a3++([(x25,(3,(4,(0,(((0,(0,())),(0,(([]:List Qf),()))),()))))),(x25,(1,(14,(0,(((0,(0,())),(0,(([]:List Qf),()))),())))))])) (Qg a4 4)) none) (kk x6 x7 x8 x23 x24 a6 a3 (Qg a4 4))) (kk x6 x7 x8 x23 x24 a6 a3 (Qg a4 4))) none) (br (x8) (br (ilt (((a2.2).2).1) 4) (br (Qr a1 ([(x25,(3,(4,(0,(((0,(0,())),(0,(([]:List Qf),()))),()))))),(x25,(1,(14,(0,(((0,(0,())),(0,(([]:List Qf),()))),())))))]) 80) (kk x6 x7 x8 x23 x24 a6 (a1++([(x25,(3,(4,(0,(((0,(0,())),(0,(([]:List Qf),()))),()))))),(x25,(1,(14,(0,(((0,(0,())),(0,(([]:List Qf),()))),())))))])) (Qg a4 4)) none) (kk x6 x7 x8 x23 x24 a6 a1 (Qg a4 4))) (kk x6 x7 x8 x23 x24 a6 a1 (Qg a4 4)))) none) (Qr3 kk x6 x7 x8 x23 x24 x25 y5 Qa)) none) (Qr3 kk x6 x7 x8 x23 x24 x25 y5 Qa)) none) none) none) (Qr5 kk x6 x7 x8 x23 x24 x25 y5 Qa)) (Qr5 kk x6 x7 x8 x23 x24 x25 y5 Qa)
def Qr7 (kk:Bool->Bool->Bool->List Endpoint->Int->Int->List Qy->Qd->OX)(x6 x7 x8:Bool)(x23:List Endpoint)(x24 x25:Int)(y5:List Qy)(Qa:Qd):OX:=
 let a1:=((y5++([(x25,(7,(2,(0,(((0,(0,())),(0,(([]:List Qf),()))),())))))]))++([(x25,(5,(0,((Qc (((((((lgt Qj x23 (Int.toNat x25)).2).2).2).2).2).1)),(((((JE ((lgt Qj x23 (Int.toNat x25)).1) ecV 201 (dof Qa ([2,1])) 901).1).1,((((JE ((lgt Qj x23 (Int.toNat x25)).1) ecV 201 (dof Qa ([2,1])) 901).1).2).1,())),(((JE ((lgt Qj x23 (Int.toNat x25)).1) ecV 201 (dof Qa ([2,1])) 901).2).1,((((JE ((lgt Qj x23 (Int.toNat x25)).1) ecV 201 (dof Qa ([2,1])) 901).2).2).1,()))),())))))]))
 let a2:=(Qt Qa ([2,1]))
 let a3:=Qk .i64 x25 1
 br (x8) (br (ilt ((((lgt Qj x23 (Int.toNat x25)).2).2).1) 4) (br (Qr a1 ([(x25,(3,(4,(0,(((0,(0,())),(0,(([]:List Qf),()))),()))))),(x25,(1,(14,(0,(((0,(0,())),(0,(([]:List Qf),()))),())))))]) 80) (kk x6 x7 x8 x23 x24 a3 (a1++([(x25,(3,(4,(0,(((0,(0,())),(0,(([]:List Qf),()))),()))))),(x25,(1,(14,(0,(((0,(0,())),(0,(([]:List Qf),()))),())))))])) a2) none) (kk x6 x7 x8 x23 x24 a3 a1 a2)) (kk x6 x7 x8 x23 x24 a3 a1 a2)
def Qr8 (kk:Bool->Bool->Bool->List Endpoint->Int->Int->List Qy->Qd->OX)(x6 x7 x8:Bool)(x23:List Endpoint)(x24 x25:Int)(y5:List Qy)(Qa:Qd):OX:=
 let a1:=(y5++([(x25,(7,(2,(0,(((0,(0,())),(0,(([]:List Qf),()))),())))))]))
 let a2:=Qk .i64 x25 1
 br (x8) (br (ilt ((((lgt Qj x23 (Int.toNat x25)).2).2).1) 4) (br (Qr a1 ([(x25,(3,(4,(0,(((0,(0,())),(0,(([]:List Qf),()))),()))))),(x25,(1,(14,(0,(((0,(0,())),(0,(([]:List Qf),()))),())))))]) 80) (kk x6 x7 x8 x23 x24 a2 (a1++([(x25,(3,(4,(0,(((0,(0,())),(0,(([]:List Qf),()))),()))))),(x25,(1,(14,(0,(((0,(0,())),(0,(([]:List Qf),()))),())))))])) Qa) none) (kk x6 x7 x8 x23 x24 a2 a1 Qa)) (kk x6 x7 x8 x23 x24 a2 a1 Qa)
def Qr9 (kk:Bool->Bool->Bool->List Endpoint->Int->Int->List Qy->Qd->OX)(x6 x7 x8:Bool)(x23:List Endpoint)(x24 x25:Int)(y5:List Qy)(Qa:Qd):OX:=
 let a1:=(y5++([(x25,(7,(2,(0,(((0,(0,())),(0,(([]:List Qf),()))),())))))]))
 let a2:=(a1++([(x25,(2,(2,(0,(((0,(0,())),(0,(([]:List Qf),()))),())))))]))
 let a3:=(((lgt Qj x23 (Int.toNat x25)).2).2)
 let a4:=Qk .i64 x25 1
 let a5:=Qg Qa 4
 br (x6) (br (Q9 ((a3.2).1) 2) (br (QY ((a3.2).1) 2) (br (QL Qa 4) (br (igt (Ql Qa 4) 0) (br (Qr a1 ([(x25,(2,(2,(0,(((0,(0,())),(0,(([]:List Qf),()))),())))))]) 80) (br (x8) (br (ilt (a3.1) 4) (br (Qr a2 ([(x25,(3,(4,(0,(((0,(0,())),(0,(([]:List Qf),()))),()))))),(x25,(1,(14,(0,(((0,(0,())),(0,(([]:List Qf),()))),())))))]) 80) (kk x6 x7 x8 x23 x24 a4 (a2++([(x25,(3,(4,(0,(((0,(0,())),(0,(([]:List Qf),()))),()))))),(x25,(1,(14,(0,(((0,(0,())),(0,(([]:List Qf),()))),())))))])) a5) none) (kk x6 x7 x8 x23 x24 a4 a2 a5)) (kk x6 x7 x8 x23 x24 a4 a2 a5)) none) (br (x8) (br (ilt (a3.1) 4) (br (Qr a1 ([(x25,(3,(4,(0,(((0,(0,())),(0,(([]:List Qf),()))),()))))),(x25,(1,(14,(0,(((0,(0,())),(0,(([]:List Qf),()))),())))))]) 80) (kk x6 x7 x8 x23 x24 a4 (a1++([(x25,(3,(4,(0,(((0,(0,())),(0,(([]:List Qf),()))),()))))),(x25,(1,(14,(0,(((0,(0,())),(0,(([]:List Qf),()))),())))))])) a5) none) (kk x6 x7 x8 x23 x24 a4 a1 a5)) (kk x6 x7 x8 x23 x24 a4 a1 a5))) none) (Qr8 kk x6 x7 x8 x23 x24 x25 y5 Qa)) none) (Qr8 kk x6 x7 x8 x23 x24 x25 y5 Qa)
def Qsa (kk:Bool->Bool->Bool->List Endpoint->Int->Int->List Qy->Qd->OX)(x6 x7 x8:Bool)(x23:List Endpoint)(x24 x25:Int)(y5:List Qy)(Qa:Qd):OX:=
 let a1:=(y5++([(x25,(5,(0,((Qc (((((((lgt Qj x23 (Int.toNat x25)).2).2).2).2).2).1)),(((((JE ((lgt Qj x23 (Int.toNat x25)).1) ecV 201 (dof Qa ([2,1])) 901).1).1,((((JE ((lgt Qj x23 (Int.toNat x25)).1) ecV 201 (dof Qa ([2,1])) 901).1).2).1,())),(((JE ((lgt Qj x23 (Int.toNat x25)).1) ecV 201 (dof Qa ([2,1])) 901).2).1,((((JE ((lgt Qj x23 (Int.toNat x25)).1) ecV 201 (dof Qa ([2,1])) 901).2).2).1,()))),())))))]))
 let a2:=(Qt Qa ([2,1]))
 let a3:=Qk .i64 x25 1
 br (x8) (br (ilt ((((lgt Qj x23 (Int.toNat x25)).2).2).1) 4) (br (Qr a1 ([(x25,(3,(4,(0,(((0,(0,())),(0,(([]:List Qf),()))),()))))),(x25,(1,(14,(0,(((0,(0,())),(0,(([]:List Qf),()))),())))))]) 80) (kk x6 x7 x8 x23 x24 a3 (a1++([(x25,(3,(4,(0,(((0,(0,())),(0,(([]:List Qf),()))),()))))),(x25,(1,(14,(0,(((0,(0,())),(0,(([]:List Qf),()))),())))))])) a2) none) (kk x6 x7 x8 x23 x24 a3 a1 a2)) (kk x6 x7 x8 x23 x24 a3 a1 a2)
def Qsb (kk:Bool->Bool->Bool->List Endpoint->Int->Int->List Qy->Qd->OX)(x6 x7 x8:Bool)(x23:List Endpoint)(x24 x25:Int)(y5:List Qy)(Qa:Qd):OX:=
 let a1:=Qk .i64 x25 1
 br (x8) (br (ilt ((((lgt Qj x23 (Int.toNat x25)).2).2).1) 4) (br (Qr y5 ([(x25,(3,(4,(0,(((0,(0,())),(0,(([]:List Qf),()))),()))))),(x25,(1,(14,(0,(((0,(0,())),(0,(([]:List Qf),()))),())))))]) 80) (kk x6 x7 x8 x23 x24 a1 (y5++([(x25,(3,(4,(0,(((0,(0,())),(0,(([]:List Qf),()))),()))))),(x25,(1,(14,(0,(((0,(0,())),(0,(([]:List Qf),()))),())))))])) Qa) none) (kk x6 x7 x8 x23 x24 a1 y5 Qa)) (kk x6 x7 x8 x23 x24 a1 y5 Qa)
def Qsc (kk:Bool->Bool->Bool->List Endpoint->Int->Int->List Qy->Qd->OX)(x6 x7 x8:Bool)(x23:List Endpoint)(x24 x25:Int)(y5:List Qy)(Qa:Qd):OX:=
 let a1:=(y5++([(x25,(2,(2,(0,(((0,(0,())),(0,(([]:List Qf),()))),())))))]))
 let a2:=(((lgt Qj x23 (Int.toNat x25)).2).2)
 let a3:=Qk .i64 x25 1
 let a4:=Qg Qa 4
 br (x6) (br (Q9 ((a2.2).1) 2) (br (QY ((a2.2).1) 2) (br (QL Qa 4) (br (igt (Ql Qa 4) 0) (br (Qr y5 ([(x25,(2,(2,(0,(((0,(0,())),(0,(([]:List Qf),()))),())))))]) 80) (br (x8) (br (ilt (a2.1) 4) (br (Qr a1 ([(x25,(3,(4,(0,(((0,(0,())),(0,(([]:List Qf),()))),()))))),(x25,(1,(14,(0,(((0,(0,())),(0,(([]:List Qf),()))),())))))]) 80) (kk x6 x7 x8 x23 x24 a3 (a1++([(x25,(3,(4,(0,(((0,(0,())),(0,(([]:List Qf),()))),()))))),(x25,(1,(14,(0,(((0,(0,())),(0,(([]:List Qf),()))),())))))])) a4) none) (kk x6 x7 x8 x23 x24 a3 a1 a4)) (kk x6 x7 x8 x23 x24 a3 a1 a4)) none) (br (x8) (br (ilt (a2.1) 4) (br (Qr y5 ([(x25,(3,(4,(0,(((0,(0,())),(0,(([]:List Qf),()))),()))))),(x25,(1,(14,(0,(((0,(0,())),(0,(([]:List Qf),()))),())))))]) 80) (kk x6 x7 x8 x23 x24 a3 (y5++([(x25,(3,(4,(0,(((0,(0,())),(0,(([]:List Qf),()))),()))))),(x25,(1,(14,(0,(((0,(0,())),(0,(([]:List Qf),()))),())))))])) a4) none) (kk x6 x7 x8 x23 x24 a3 y5 a4)) (kk x6 x7 x8 x23 x24 a3 y5 a4))) none) (Qsb kk x6 x7 x8 x23 x24 x25 y5 Qa)) none) (Qsb kk x6 x7 x8 x23 x24 x25 y5 Qa)
def Qsd (kk:Bool->Bool->Bool->List Endpoint->Int->Int->List Qy->Qd->OX)(x6 x7 x8:Bool)(x23:List Endpoint)(x24 x25:Int)(y5:List Qy)(Qa:Qd):OX:=
 let a4:=lgt Qj x23 (Int.toNat x25)
 let a1:=((Qc ((((((a4.2).2).2).2).2).1)),(((((JE (a4.1) ecV 201 (dof Qa ([2,1])) 901).1).1,((((JE (a4.1) ecV 201 (dof Qa ([2,1])) 901).1).2).1,())),(((JE (a4.1) ecV 201 (dof Qa ([2,1])) 901).2).1,((((JE (a4.1) ecV 201 (dof Qa ([2,1])) 901).2).2).1,()))),()))
 let a5:=(y5++([(x25,(5,(0,a1)))]))
 let a2:=(a5++([(x25,(2,(2,(0,(((0,(0,())),(0,(([]:List Qf),()))),())))))]))
 let a3:=(Qg (Qt Qa ([2,1])) 4)
 let a6:=Qk .i64 x25 1
 br (x7) (br (ieq x25 1) (br (Jc Qa ([2,1])) (br (Gr (a4.1) ecV 201 (dof Qa ([2,1])) 901) (br (Qr y5 ([(x25,(5,(0,a1)))]) 80) (br (x6) (br (Q9 ((((a4.2).2).2).1) 2) (br (QY ((((a4.2).2).2).1) 2) (br (QL (Qt Qa ([2,1])) 4) (br (igt (Ql (Qt Qa ([2,1])) 4) 0) (br (Qr a5 ([(x25,(2,(2,(0,(((0,(0,())),(0,(([]:List Qf),()))),())))))]) 80) (br (x8) (br (ilt (((a4.2).2).1) 4) (br (Qr a2 ([(x25,(3,(4,(0,(((0,(0,())),(0,(([]:List Qf),()))),()))))),(x25,(1,(14,(0,(((0,(0,())),(0,(([]:List Qf),()))),())))))]) 80) (kk x6 x7 x8 x23 x24 a6 (a2++([(x25,(3,(4,(0,(((0,(0,())),(0,(([]:List Qf),()))),()))))),(x25,(1,(14,(0,(((0,(0,())),(0,(([]:List Qf),()))),())))))])) a3) none) (kk x6 x7 x8 x23 x24 a6 a2 a3)) (kk x6 x7 x8 x23 x24 a6 a2 a3)) none) (br (x8) (br (ilt (((a4.2).2).1) 4) (br (Qr a5 ([(x25,(3,(4,(0,(((0,(0,())),(0,(([]:List Qf),()))),()))))),(x25,(1,(14,(0,(((0,(0,())),(0,(([]:List Qf),()))),())))))]) 80) (kk x6 x7 x8 x23 x24 a6 (a5++([(x25,(3,(4,(0,(((0,(0,())),(0,(([]:List Qf),()))),()))))),(x25,(1,(14,(0,(((0,(0,())),(0,(([]:List Qf),()))),())))))])) a3) none) (kk x6 x7 x8 x23 x24 a6 a5 a3)) (kk x6 x7 x8 x23 x24 a6 a5 a3))) none) (Qsa kk x6 x7 x8 x23 x24 x25 y5 Qa)) none) (Qsa kk x6 x7 x8 x23 x24 x25 y5 Qa)) none) none) none) (Qsc kk x6 x7 x8 x23 x24 x25 y5 Qa)) (Qsc kk x6 x7 x8 x23 x24 x25 y5 Qa)
def Qse (kk:Bool->Bool->Bool->List Endpoint->Int->Int->List Qy->Qd->OX)(x6 x7 x8:Bool)(x23:List Endpoint)(x24 x25:Int)(y5:List Qy)(Qa:Qd):OX:=
 let a2:=lgt Qj x23 (Int.toNat x25)
 let a7:=(((a2.2).2).2)
 let a5:=(JE (a2.1) ecV 201 (dof Qa ([2,1])) 901)
 let a1:=((y5++([(x25,(7,(2,(0,(((0,(0,())),(0,(([]:List Qf),()))),())))))]))++([(x25,(5,(0,((Qc (((a7.2).2).1)),((((a5.1).1,(((a5.1).2).1,())),((a5.2).1,(((a5.2).2).1,()))),())))))]))
 let a3:=(a1++([(x25,(2,(2,(0,(((0,(0,())),(0,(([]:List Qf),()))),())))))]))
 let a4:=(Qg (Qt Qa ([2,1])) 4)
 let a6:=Qk .i64 x25 1
 br (x7) (br (ieq x25 0) (br (Qr y5 ([(x25,(7,(2,(0,(((0,(0,())),(0,(([]:List Qf),()))),())))))]) 80) (br (x7) (br (ieq x25 1) (br (Jc Qa ([2,1])) (br (Gr (a2.1) ecV 201 (dof Qa ([2,1])) 901) (br (Qr (y5++([(x25,(7,(2,(0,(((0,(0,())),(0,(([]:List Qf),()))),())))))])) ([(x25,(5,(0,((Qc (((a7.2).2).1)),((((a5.1).1,(((a5.1).2).1,())),((a5.2).1,(((a5.2).2).1,()))),())))))]) 80) (br (x6) (br (Q9 (a7.1) 2) (br (QY (a7.1) 2) (br (QL (Qt Qa ([2,1])) 4) (br (igt (Ql (Qt Qa ([2,1])) 4) 0) (br (Qr a1 ([(x25,(2,(2,(0,(((0,(0,())),(0,(([]:List Qf),()))),())))))]) 80) (br (x8) (br (ilt (((a2.2).2).1) 4) (br (Qr a3 ([(x25,(3,(4,(0,(((0,(0,())),(0,(([]:List Qf),()))),()))))),(x25,(1,(14,(0,(((0,(0,())),(0,(([]:List Qf),()))),())))))]) 80) (kk x6 x7 x8 x23 x24 a6 (a3++([(x25,(3,(4,(0,(((0,(0,())),(0,(([]:List Qf),()))),()))))),(x25,(1,(14,(0,(((0,(0,())),(0,(([]:List Qf),()))),())))))])) a4) none) (kk x6 x7 x8 x23 x24 a6 a3 a4)) (kk x6 x7 x8 x23 x24 a6 a3 a4)) none) (br (x8) (br (ilt (((a2.2).2).1) 4) (br (Qr a1 ([(x25,(3,(4,(0,(((0,(0,())),(0,(([]:List Qf),()))),()))))),(x25,(1,(14,(0,(((0,(0,())),(0,(([]:List Qf),()))),())))))]) 80) (kk x6 x7 x8 x23 x24 a6 (a1++([(x25,(3,(4,(0,(((0,(0,())),(0,(([]:List Qf),()))),()))))),(x25,(1,(14,(0,(((0,(0,())),(0,(([]:List Qf),()))),())))))])) a4) none) (kk x6 x7 x8 x23 x24 a6 a1 a4)) (kk x6 x7 x8 x23 x24 a6 a1 a4))) none) (Qr7 kk x6 x7 x8 x23 x24 x25 y5 Qa)) none) (Qr7 kk x6 x7 x8 x23 x24 x25 y5 Qa)) none) none) none) (Qr9 kk x6 x7 x8 x23 x24 x25 y5 Qa)) (Qr9 kk x6 x7 x8 x23 x24 x25 y5 Qa)) none) (Qsd kk x6 x7 x8 x23 x24 x25 y5 Qa)) (Qsd kk x6 x7 x8 x23 x24 x25 y5 Qa)
def Qc3 (kk:Bool->Bool->Bool->List Endpoint->Int->Int->List Qy->Qd->OX)(x6 x7 x8:Bool)(x23:List Endpoint)(x24 x25:Int)(y5:List Qy)(Qa:Qd):OX:=
 let a6:=(y5++([(x25,(1,(12,((Ql Qa 2),(((0,(0,())),(0,(([]:List Qf),()))),())))))]))
 let a2:=lgt Qj x23 (Int.toNat x25)
 let a5:=(JE (a2.1) ecV 201 (dof (Qg Qa 2) ([2,1])) 901)
 let a1:=((a6++([(x25,(7,(2,(0,(((0,(0,())),(0,(([]:List Qf),()))),())))))]))++([(x25,(5,(0,((Qc ((((((a2.2).2).2).2).2).1)),((((a5.1).1,(((a5.1).2).1,())),((a5.2).1,(((a5.2).2).1,()))),())))))]))
 let a3:=(a1++([(x25,(2,(2,(0,(((0,(0,())),(0,(([]:List Qf),()))),())))))]))
 let a4:=(Qt (Qg Qa 2) ([2,1]))
 let a7:=Qk .i64 x25 1
 let a8:=((((a2.2).2).2).1)
 br (ilt x25 x24) (br (cIx x23 x25) (br (x6) (br (Q9 a8 12) (br (!(QY a8 12)) (br (QL Qa 2) (br (Qr y5 ([(x25,(1,(12,((Ql Qa 2),(((0,(0,())),(0,(([]:List Qf),()))),())))))]) 80) (br (x7) (br (ieq x25 0) (br (Qr a6 ([(x25,(7,(2,(0,(((0,(0,())),(0,(([]:List Qf),()))),())))))]) 80) (br (x7) (br (ieq x25 1) (br (Jc (Qg Qa 2) ([2,1])) (br (Gr (a2.1) ecV 201 (dof (Qg Qa 2) ([2,1])) 901) (br (Qr (a6++([(x25,(7,(2,(0,(((0,(0,())),(0,(([]:List Qf),()))),())))))])) ([(x25,(5,(0,((Qc ((((((a2.2).2).2).2).2).1)),((((a5.1).1,(((a5.1).2).1,())),((a5.2).1,(((a5.2).2).1,()))),())))))]) 80) (br (x6) (br (Q9 a8 2) (br (QY a8 2) (br (QL a4 4) (br (igt (Ql a4 4) 0) (br (Qr a1 ([(x25,(2,(2,(0,(((0,(0,())),(0,(([]:List Qf),()))),())))))]) 80) (br (x8) (br (ilt (((a2.2).2).1) 4) (br (Qr a3 ([(x25,(3,(4,(0,(((0,(0,())),(0,(([]:List Qf),()))),()))))),(x25,(1,(14,(0,(((0,(0,())),(0,(([]:List Qf),()))),())))))]) 80) (kk x6 x7 x8 x23 x24 a7 (a3++([(x25,(3,(4,(0,(((0,(0,())),(0,(([]:List Qf),()))),()))))),(x25,(1,(14,(0,(((0,(0,())),(0,(([]:List Qf),()))),())))))])) (Qg a4 4)) none) (kk x6 x7 x8 x23 x24 a7 a3 (Qg a4 4))) (kk x6 x7 x8 x23 x24 a7 a3 (Qg a4 4))) none) (br (x8) (br (ilt (((a2.2).2).1) 4) (br (Qr a1 ([(x25,(3,(4,(0,(((0,(0,())),(0,(([]:List Qf),()))),()))))),(x25,(1,(14,(0,(((0,(0,())),(0,(([]:List Qf),()))),())))))]) 80) (kk x6 x7 x8 x23 x24 a7 (a1++([(x25,(3,(4,(0,(((0,(0,())),(0,(([]:List Qf),()))),()))))),(x25,(1,(14,(0,(((0,(0,())),(0,(([]:List Qf),()))),())))))])) (Qg a4 4)) none) (kk x6 x7 x8 x23 x24 a7 a1 (Qg a4 4))) (kk x6 x7 x8 x23 x24 a7 a1 (Qg a4 4)))) none) (Qr0 kk x6 x7 x8 x23 x24 x25 y5 Qa)) none) (Qr0 kk x6 x7 x8 x23 x24 x25 y5 Qa)) none) none) none) (Qr2 kk x6 x7 x8 x23 x24 x25 y5 Qa)) (Qr2 kk x6 x7 x8 x23 x24 x25 y5 Qa)) none) (Qr6 kk x6 x7 x8 x23 x24 x25 y5 Qa)) (Qr6 kk x6 x7 x8 x23 x24 x25 y5 Qa)) none) none) (Qse kk x6 x7 x8 x23 x24 x25 y5 Qa)) none) (Qse kk x6 x7 x8 x23 x24 x25 y5 Qa)) none) (some (.exit 0,F0 y5 Qa))
def Qjt (x6 x7 x8:Bool)(x23:List Endpoint)(x24 x25:Int)(y5:List Qy)(Qa:Qd):OX:=
 let a1:=(mvZ x6 x7 x8 (x23.drop x25.toNat) x25 (y5,Qa))
 some (.exit 0,F0 (a1.1) (a1.2))
theorem QGR (x6 x7 x8:Bool)(x23:List Endpoint)(x24 x25:Int)(y5:List Qy)(Qa:Qd):VB x6 x7 x8 x23 x24 x25 y5 Qa=Qc3 VB x6 x7 x8 x23 x24 x25 y5 Qa:=lnT (x:=Qc3 (fun x6 x7 x8 x23 x24 x25 y5 Qa=>some (.normal,QGP x6 x7 x8 x23 x24 x25 y5 Qa)) x6 x7 x8 x23 x24 x25 y5 Qa) (by simp only [Qc3,Qr0,Qr2,Qr1,Qr6,Qr3,Qr5,Qr4,Qse,Qr7,Qr9,Qr8,Qsd,Qsa,Qsc,Qsb,nxA];rfl)
def Qsf (y5:List Qy)(Qa:Qd):OX:=QB (QD E8 QrY QGN) (F0 y5 Qa)
def VC (kk:List Qy->Qd->OX)(y5:List Qy)(Qa:Qd):OX:=
 let a1:=Int.toNat (QT .i64 (Qc y5) 1)-Int.toNat 0
 br (igt (Qc y5) 7) (br (cWn y5 0 (QT .i64 (Qc y5) 1)) (br (decide (a1<=(y5).length)) (kk ((y5).take a1++[]) Qa) none) none) (some (.exit 2,F0 y5 Qa))
def Qju (y5:List Qy)(Qa:Qd):OX:=some (.exit 2,F0 (y5.take 7) (Qa))
theorem QGS (y5:List Qy)(Qa:Qd):Qsf y5 Qa=VC Qsf y5 Qa:=lnT (x:=VC (fun y5 Qa=>some (.normal,F0 y5 Qa)) y5 Qa) (by simp only [VC,nxA];rfl)
def Qsg (x11:Int)(y5:List Qy)(Qa:Qd):OX:=QB (QD E8 QrZ QGO) (QGQ x11 y5 Qa)
def E9 (kk:Int->List Qy->Qd->OX)(x11:Int)(y5:List Qy)(Qa:Qd):OX:=
 let a1:=Ql Qa (QT .i64 (Qc y5) 1)
 let a2:=Int.toNat (Qk .i64 a1 1)
 let a3:=Int.toNat a1
 let a4:=lgt J5 y5 a2
 br (cLd y5 a3) (br (cIx (List.set y5 a3 a4) (Qk .i64 a1 1)) (br (cLd (List.set y5 a3 a4) a2) (kk (QT .i64 x11 1) (List.set (List.set y5 a3 a4) a2 (lgt J5 y5 a3)) (Qg Qa (QT .i64 (Qc y5) 1))) none) none) none
def Ia (kk:Int->List Qy->Qd->OX)(x11:Int)(y5:List Qy)(Qa:Qd):OX:=
 let a1:=Ql Qa (QT .i64 (Qc y5) 1)
 br (igt x11 0) (br (igt (Qc y5) 1) (br (QL Qa (QT .i64 (Qc y5) 1)) (br (cIx y5 (Qk .i64 a1 1)) (br (cLd y5 (Int.toNat (Qk .i64 a1 1))) (br (cIx y5 a1) (br (cLd y5 (Int.toNat a1)) (br (cIx y5 a1) (frk (E9 kk x11 y5 Qa) (E9 kk x11 y5 Qa)) none) none) none) none) none) none) (some (.exit 4,Qjs y5 Qa))) (some (.exit 4,Qjs y5 Qa))
def Qjv (x11:Int)(y5:List Qy)(Qa:Qd):OX:=
 let a1:=(swZ x11.toNat (y5,Qa))
 some (.exit 4,Qjs (a1.1) (a1.2))
theorem QGT (x11:Int)(y5:List Qy)(Qa:Qd):Qsg x11 y5 Qa=Ia Qsg x11 y5 Qa:=lnT (x:=Ia (fun x11 y5 Qa=>some (.normal,QGQ x11 y5 Qa)) x11 y5 Qa) (by
 first
 |(simp only [Jt,Ia,E9,Jt,Xy,X7,X8,X9,Wa]
   rfl)
 |(simp only [Jt,Ia,E9,Jt]
   try generalize (cLd (List.set y5 (Int.toNat (Ql Qa (QT .i64 (Qc y5) 1))) (lgt J5 y5 (Int.toNat (Qk .i64 (Ql Qa (QT .i64 (Qc y5) 1)) 1)))) (Int.toNat (Qk .i64 (Ql Qa (QT .i64 (Qc y5) 1)) 1)))=cq0
   try generalize (cIx (List.set y5 (Int.toNat (Ql Qa (QT .i64 (Qc y5) 1))) (lgt J5 y5 (Int.toNat (Qk .i64 (Ql Qa (QT .i64 (Qc y5) 1)) 1)))) (Qk .i64 (Ql Qa (QT .i64 (Qc y5) 1)) 1))=cq1
   try generalize (cLd y5 (Int.toNat (Ql Qa (QT .i64 (Qc y5) 1))))=cq2
   try generalize (cIx y5 (Ql Qa (QT .i64 (Qc y5) 1)))=cq3
   try generalize (cLd y5 (Int.toNat (Qk .i64 (Ql Qa (QT .i64 (Qc y5) 1)) 1)))=cq4
   try generalize (cIx y5 (Qk .i64 (Ql Qa (QT .i64 (Qc y5) 1)) 1))=cq5
   try generalize ((QL Qa (QT .i64 (Qc y5) 1)))=cq6
   simp only [brN,Jt,Bool.and_assoc,Bool.and_comm,Bool.and_left_comm,BX,Bool.and_self_left,Xy,X7,X8,X9,Wa]
   try rfl))
def r_f23 (d0:Qd)(p1:Estate):OV:=
 let a1:=(mvZ (igt (Ql d0 3) 0) (ieq (Ql (Qg d0 3) 3) 0) (ieq (Ql (Qg (Qg d0 3) 3) 4) 0) (p1.1.drop (0:Int).toNat) (0:Int) (([]:List Qy),(Qg (Qg (Qg d0 3) 3) 4)))
 let a2:=(swZ (Ql (a1.2) 4).toNat (((a1.1).take 7),(Qg (a1.2) 4)))
 br (QL d0 3) (br (QL (Qg d0 3) 3) (br (QL (Qg (Qg d0 3) 3) 4) (br (Qz p1.1 (Qc p1.1) (0:Int)&&(decide (p1.1.length<=1000)&&(p1.1.all mvE&&(decide (([]:List Qy).length<=6*(0:Int).toNat)&&(([]:List Qy).all WG&&dOk (Qg (Qg (Qg d0 3) 3) 4)))))) (br (decide ((a1.1).length<=100000)) (br (QL (a1.2) 4) (br (decide (((a1.1).take 7).length<=100000/\0<=(Ql (a1.2) 4)/\(Ql (a1.2) 4)<=100)&&dOk (Qg (a1.2) 4)) (some (.t (.sl J5) (a2.1),[.box (.t QM (a2.2))])) none) none) none) none) none) none) none
section
variable {β:Type}
def ms1 (b:Bool)(i:Int)(e:Endpoint)(k:List Qy->Qd->Option β)(y:List Qy)(d:Qd):Option β:=
 br b (br (Q9 e.2.2.2.1 12) (br (!QY e.2.2.2.1 12) (br (QL d 2) (br (Qr y [mvC i 1 12 (Ql d 2) zId] 80) (k (y++[mvC i 1 12 (Ql d 2) zId]) (Qg d 2)) none) none) (k y d)) none) (k y d)
def ms2 (b:Bool)(i:Int)(k:List Qy->Qd->Option β)(y:List Qy)(d:Qd):Option β:=
 br b (br (ieq i 0) (br (Qr y [mvC i 7 2 0 zId] 80) (k (y++[mvC i 7 2 0 zId]) d) none) (k y d)) (k y d)
def ms3 (b:Bool)(i:Int)(e:Endpoint)(k:List Qy->Qd->Option β)(y:List Qy)(d:Qd):Option β:=
 br b (br (ieq i 1) (br (Jc d [2,1]) (br (Gr e.1 ecV 201 (dof d [2,1]) 901) (br (Qr y [mvC i 5 0 (Qc (QH e)) (JE e.1 ecV 201 (dof d [2,1]) 901)] 80) (k (y++[mvC i 5 0 (Qc (QH e)) (JE e.1 ecV 201 (dof d [2,1]) 901)]) (Qt d [2,1])) none) none) none) (k y d)) (k y d)
def ms4 (b:Bool)(i:Int)(e:Endpoint)(k:List Qy->Qd->Option β)(y:List Qy)(d:Qd):Option β:=
 br b (br (Q9 e.2.2.2.1 2) (br (QY e.2.2.2.1 2) (br (QL d 4) (br (igt (Ql d 4) 0) (br (Qr y [mvC i 2 2 0 zId] 80) (k (y++[mvC i 2 2 0 zId]) (Qg d 4)) none) (k y (Qg d 4))) none) (k y d)) none) (k y d)
def ms5 (b:Bool)(i:Int)(e:Endpoint)(k:List Qy->Qd->Option β)(y:List Qy)(d:Qd):Option β:=
 br b (br (ilt e.2.2.1 4) (br (Qr y [mvC i 3 4 0 zId,mvC i 1 14 0 zId] 80) (k (y++[mvC i 3 4 0 zId,mvC i 1 14 0 zId]) d) none) (k y d)) (k y d)
variable {b:Bool}{i:Int}{e:Endpoint}{n:Nat}{k:List Qy->Qd->Option β}{y:List Qy}{d:Qd}
theorem QGU {e:Endpoint}{n:Int}(h:Q2 e=true):Q9 (QI e) n=true:=by
 unfold Q2 at h
 simp only [Bc,Ba] at h
 exact Bd h.1.2.1
theorem mvc {l:List Qy}(h:mvI n (y,d))(hn:n<=100000)(hl:l.length<=100):Qr y l 80=true:=Q7 (by decide) (by have:y.length<=n:=h.1;omega)
theorem nx_of (h:mvI n (y,d)){m:Int}(hm:m<4611686018427387904):QL d m=true:=Bf.2 ⟨h.2.2,Bd hm⟩
theorem ms1_eq (he:mvE e=true)(h:mvI n (y,d))(hn:n<=100000):ms1 b i e k y d=k (mv1 b i e (y,d)).1 (mv1 b i e (y,d)).2:=by
 simp only [mvE,Bc] at he
 unfold ms1 mv1
 cases b with
 |false=>rfl
 |true=>
  refine brY rfl (brY (QGU he.1) ?_)
  show br (!QY (QI e) 12) _ _=_
  cases !QY (QI e) 12 with
  |false=>rfl
  |true=>exact brY rfl<|brY (nx_of h (by decide)) (brY (mvc h hn (by simp)) rfl)
theorem ms2_eq (h:mvI n (y,d))(hn:n<=100000):ms2 b i k y d=k (mv2 b i (y,d)).1 (mv2 b i (y,d)).2:=by
 unfold ms2 mv2
 cases b with
 |false=>rfl
 |true=>cases ieq i 0 with
  |false=>rfl
  |true=>exact brY rfl (brY rfl (brY (mvc h hn (by simp)) rfl))
theorem ms3_eq (he:mvE e=true)(h:mvI n (y,d))(hn:n<=100000):ms3 b i e k y d=k (mv3 b i e (y,d)).1 (mv3 b i e (y,d)).2:=by
 simp only [mvE,Bc] at he
 unfold ms3 mv3
 cases b with
 |false=>rfl
 |true=>cases ieq i 1 with
  |false=>rfl
  |true=>exact brY rfl<|brY rfl<|brY (Bf.2 ⟨h.2.2,by decide⟩) (brY he.2.1 (brY (mvc h hn (by simp)) rfl))
theorem ms4_eq (he:mvE e=true)(h:mvI n (y,d))(hn:n<=100000):ms4 b i e k y d=k (mv4 b i e (y,d)).1 (mv4 b i e (y,d)).2:=by
 simp only [mvE,Bc] at he
 unfold ms4 mv4
 cases b with
 |false=>rfl
 |true=>
  refine brY rfl (brY (QGU he.1) ?_)
  show br (QY (QI e) 2) _ _=_
  cases QY (QI e) 2 with
  |false=>rfl
  |true=>
   refine brY rfl (brY (nx_of h (by decide)) ?_)
   show br (igt (Ql d 4) 0) _ _=_
   cases hz:igt (Ql d 4) 0 with
   |false=>simp only [Qi,BZ,BM,hz]
   |true=>
    simp only [Qe,BZ,hz]
    exact brY (mvc h hn (by simp)) rfl
theorem ms5_eq (h:mvI n (y,d))(hn:n<=100000):ms5 b i e k y d=k (mv5 b i e (y,d)).1 (mv5 b i e (y,d)).2:=by
 unfold ms5 mv5
 cases b with
 |false=>rfl
 |true=>cases ilt e.2.2.1 4 with
  |false=>rfl
  |true=>exact brY rfl (brY rfl (brY (mvc h hn (by simp)) rfl))
theorem ms_eq {b6 b7 b8:Bool}(he:mvE e=true)(h:mvI n (y,d))(hn:n<=90000):ms1 b6 i e (ms2 b7 i (ms3 b7 i e (ms4 b6 i e (ms5 b8 i e k)))) y d=k (mvS b6 b7 b8 i e (y,d)).1 (mvS b6 b7 b8 i e (y,d)).2:=by
 have h1:=mv1_I (b:=b6) (i:=i) (e:=e) h
 have h2:=mv2_I (b:=b7) (i:=i) h1
 have h3:=mv3_I (b:=b7) (i:=i) he h2
 have h4:=mv4_I (b:=b6) (i:=i) (e:=e) h3
 exact (ms1_eq he h (by omega)).trans<|(ms2_eq (y:=(mv1 b6 i e (y,d)).1) (d:=(mv1 b6 i e (y,d)).2) h1 (by omega)).trans<|(ms3_eq (y:=(mv2 b7 i (mv1 b6 i e (y,d))).1) (d:=(mv2 b7 i (mv1 b6 i e (y,d))).2) he h2 (by omega)).trans<|(ms4_eq (y:=(mv3 b7 i e (mv2 b7 i (mv1 b6 i e (y,d)))).1) (d:=(mv3 b7 i e (mv2 b7 i (mv1 b6 i e (y,d)))).2) he h3 (by omega)).trans<|ms5_eq (y:=(mv4 b6 i e (mv3 b7 i e (mv2 b7 i (mv1 b6 i e (y,d))))).1) (d:=(mv4 b6 i e (mv3 b7 i e (mv2 b7 i (mv1 b6 i e (y,d))))).2) h4 (by omega)
end
theorem QUU (x6 x7 x8:Bool)(x23:List Endpoint)(x24 x25:Int)(y5:List Qy)(Qa:Qd)(h:(Qz x23 x24 x25&&(decide (x23.length<=1000)&&(x23.all mvE&&(decide (y5.length<=6*x25.toNat)&&(y5.all WG&&dOk Qa)))))=true):VB x6 x7 x8 x23 x24 x25 y5 Qa=Qjt x6 x7 x8 x23 x24 x25 y5 Qa:=by
 simp only [Bc,Ba] at h
 obtain ⟨h,g0,g1,g2,g3,g4⟩:=h
 obtain ⟨rfl,h3,k,rfl,hk⟩:=Js h
 clear h
 rw [Bb] at g2
 have hI:mvI (6*k) (y5,Qa):=⟨g2,g3,g4⟩
 clear g2 g3 g4
 revert y5 Qa
 refine QW x23 (fun k=> ∀ (y5:List Qy) (Qa:Qd),mvI (6*k) (y5,Qa)->VB x6 x7 x8 x23 (x23.length:Int) (k:Int) y5 Qa=Qjt x6 x7 x8 x23 (x23.length:Int) (k:Int) y5 Qa) ?_ ?_ k hk
 ·intro y5 Qa _
  rw [QGR]
  simp only [Qc3,Qjt,QC,BI,BQ,Qi,Bb,BE,mvZ]
 ·intro k hk ih y5 Qa hI
  have he:mvE x23[k]=true:=Bg.1 g1 _ (BA hk)
  rw [QGR]
  have hc:cIx x23 (k:Int)=true:=by rw [QS];exact Bd hk
  have hl:ilt (k:Int) (x23.length:Int)=true:=by rw [QC];exact Bd hk
  refine Eq.trans (show Qc3 VB x6 x7 x8 x23 (x23.length:Int) (k:Int) y5 Qa=br (ilt (k:Int) (x23.length:Int)) (br (cIx x23 (k:Int)) (ms1 x6 (k:Int) (lgt Qj x23 (Int.toNat (k:Int))) (ms2 x7 (k:Int) (ms3 x7 (k:Int) (lgt Qj x23 (Int.toNat (k:Int))) (ms4 x6 (k:Int) (lgt Qj x23 (Int.toNat (k:Int))) (ms5 x8 (k:Int) (lgt Qj x23 (Int.toNat (k:Int))) (fun y d=>VB x6 x7 x8 x23 (x23.length:Int) (Qk .i64 (k:Int) 1) y d))))) y5 Qa) none) (some (.exit 0,_)) from rfl) ?_
  rw [hl,hc,Qe,Qe,Bb,QX (y:=Qj) hk,ms_eq he hI (by omega),QU (show k<4611686018427387904 by omega)]
  have hs:=mvS_I (b6:=x6) (b7:=x7) (b8:=x8) (i:=(k:Int)) he hI
  rw [ih (mvS x6 x7 x8 (k:Int) x23[k] (y5,Qa)).1 (mvS x6 x7 x8 (k:Int) x23[k] (y5,Qa)).2 hs]
  simp only [Qjt,Bb,Bi hk,mvZ,Int.natCast_add,Int.natCast_one,show ((k:Int)+1).toNat=k+1 by omega]
theorem QUV (y5:List Qy)(Qa:Qd)(h:(decide (y5.length<=100000))=true):Qsf y5 Qa=Qju y5 Qa:=by
 replace h:=Bv h
 obtain ⟨m,hm⟩: ∃ m:Nat,y5.length=m:=⟨_,rfl⟩
 induction m generalizing y5 with
 |zero=>
  have:igt (Qc y5) 7=false:=Bn (by simp only [Qc];omega)
  rw [QGS]
  simp only [VC,Qju,this,Qi]
  rw [DK (by omega)]
 |succ m ih=>
  rw [QGS]
  by_cases h7:7<y5.length
  ·have e0:igt (Qc y5) 7=true:=Bd (by simp only [Qc];omega)
   have e1:QT .i64 (Qc y5) 1=((m:Nat):Int):=by
    have:QT .i64 (Qc y5) 1=(y5.length:Int)-1:=Zu (by simp only [Qc];omega)
    rw [this,hm]
    omega
   have e2:cWn y5 0 (m:Int)=true:=Bd ⟨by omega,by omega,by omega⟩
   have e3:(Int.toNat (m:Int)-Int.toNat 0)=m:=by omega
   have e4:decide (m<=y5.length)=true:=Bd (by omega)
   simp only [VC,e0,e1,e2,e3,e4,Qe,BG]
   rw [ih (y5.take m) (by rw [B5];omega) (by rw [B5];omega)]
   simp only [Qju]
   rw [List.take_take,show min 7 m=7 by omega]
  ·have:igt (Qc y5) 7=false:=Bn (by simp only [Qc];omega)
   simp only [VC,Qju,this,Qi]
   rw [DK (by omega)]
theorem QUW (x11:Int)(y5:List Qy)(Qa:Qd)(h:(decide (y5.length<=100000/\0<=x11/\x11<=100)&&dOk Qa)=true):Qsg x11 y5 Qa=Qjv x11 y5 Qa:=by
 simp only [Bc,Ba] at h
 obtain ⟨⟨g0,g1,g2⟩,g3⟩:=h
 obtain ⟨m,hm⟩: ∃ m:Nat,x11.toNat=m:=⟨_,rfl⟩
 induction m generalizing x11 y5 Qa with
 |zero=>
  have:igt x11 0=false:=Bn (by omega)
  rw [QGT]
  simp only [Ia,E9,Jt,Qjv,this,Qi,hm,swZ]
 |succ m ih=>
  have e0:igt x11 0=true:=Bd (by omega)
  rw [QGT]
  cases hg:igt (Qc y5) 1 with
  |false=>simp only [Ia,E9,Jt,Qjv,e0,hg,Qe,Qi,hm,swZ,BM]
  |true=>
   have hl:(1:Int)<y5.length:=Bv hg
   have e1:QT .i64 (Qc y5) 1=(y5.length:Int)-1:=Zu (by simp only [Qc];omega)
   have hd:=JA (d:=Qa) (n:=(y5.length:Int)-1) (by omega)
   have e2:QL Qa ((y5.length:Int)-1)=true:=Bf.2 ⟨g3,Bd (by omega)⟩
   have e5:QT .i64 x11 1=x11-1:=Zu (by omega)
   generalize hv:Ql Qa ((y5.length:Int)-1)=v at hd
   have e3:Qk .i64 v 1=v+1:=JK (by omega)
   have c1: ∀ z:List Qy,z.length=y5.length->cIx z (v+1)=true:=fun z hz=>Bd ⟨by omega,by omega⟩
   have c2: ∀ z:List Qy,z.length=y5.length->cIx z v=true:=fun z hz=>Bd ⟨by omega,by omega⟩
   have c3: ∀ z:List Qy,z.length=y5.length->cLd z v.toNat=true:=fun z hz=>Bd (by omega)
   have c4: ∀ z:List Qy,z.length=y5.length->cLd z (v+1).toNat=true:=fun z hz=>Bd (by omega)
   simp only [Ia,E9,Jt,e0,hg,e1,e2,hv,e3,e5,Qe,c1 _ rfl,c2 _ rfl,c3 _ rfl,c4 _ rfl,Jt,c1 (y5.set _ _) List.length_set,c4 (y5.set _ _) List.length_set]
   rw [ih (x11-1) _ (Qg Qa ((y5.length:Int)-1)) (QG g3) (by simp only [List.length_set];omega) (by omega) (by omega) (by omega)]
   simp only [Qjv,hm,show (x11-1).toNat=m by omega,swZ,hg,BZ,hv,swF]
theorem QUX:LO E8 QrX QGM 0:=QN (s:=Qjp) fun x y h _ q=>by simp only [QJ,QK] at q;exact (QUU x.2.2.1 x.2.2.2.1 x.2.2.2.2.1 x.2.2.2.2.2.1 x.2.2.2.2.2.2.1 x.2.2.2.2.2.2.2.1 y.1 y.2.2.2.2.2.2.1 h).trans q
theorem QUY:LO E8 QrY QGN 1:=QN (s:=VA) fun x y h _ q=>by simp only [QJ,QK] at q;exact (QUV y.1 y.2.2.2.2.2.2.1 h).trans q
theorem QUZ:LO E8 QrZ QGO 2:=QN (s:=Qjq) fun x y h _ q=>by simp only [QJ,QK] at q;exact (QUW x.2.2.1 y.1 y.2.2.2.2.2.2.1 h).trans q
theorem mvB_I {d:Qd}{x:Estate}(h:G0 d x=true):mvI (6*(QZ x).length) (mvB d x):=by
 simp only [G0,Bc,Ba] at h
 have:=mvZ_I (b6:=igt (Ql d 3) 0) (b7:=ieq (Ql (Qg d 3) 3) 0) (b8:=ieq (Ql (Qg (Qg d 3) 3) 4) 0) (i:=0) (n:=0) (p:=([],Qg (Qg (Qg d 3) 3) 4)) h.2.2 ⟨BS 0,rfl,QG (n:=4) (QG (n:=3) (QG (n:=3) h.1))⟩
 rw [Nat.zero_add] at this
 exact this
theorem mvF_I {d:Qd}{x:Estate}(h:G0 d x=true):mvI 7 (mvF d x):=by
 have h1:=mvB_I h
 refine swZ_I _ ⟨by simp only [B5];omega,Bg.2 fun c hc=>Bg.1 h1.2.1 c (Du hc),QG (n:=4) h1.2.2⟩
theorem s_f23 (d:Qd)(x:Estate)(h:G0 d x=true):r_f23 d x=some (.t (.sl J5) (mvV d x),[.box (.t QM (mvN d x))]):=by
 have hB:=mvB_I h
 simp only [G0,Bc,Ba] at h
 obtain ⟨h1,h2,h3⟩:=h
 have n1:QL d 3=true:=Bf.2 ⟨h1,by decide⟩
 have n2:QL (Qg d 3) 3=true:=Bf.2 ⟨QG h1,by decide⟩
 have n3:QL (Qg (Qg d 3) 3) 4=true:=Bf.2 ⟨QG (QG h1),by decide⟩
 have n4:QL (mvB d x).2 4=true:=Bf.2 ⟨hB.2.2,by decide⟩
 have hd:=JA (d:=(mvB d x).2) (n:=4) (by omega)
 have h6:(mvB d x).1.length<=6000:=by have:=hB.1;omega
 unfold r_f23
 refine brY n1 (brY n2 (brY n3 (brY ?_ (brY ?_ (brY n4 (brY ?_ rfl))))))
 ·exact Bf.2 ⟨Jy (by show (QZ x).length<=_;omega),Bf.2 ⟨Bd h2,Bf.2 ⟨h3,Bf.2 ⟨rfl,Bf.2 ⟨rfl,QG (n:=4) (QG (n:=3) (QG (n:=3) h1))⟩⟩⟩⟩⟩
 ·exact Bd (show (mvB d x).1.length<=100000 by omega)
 ·exact Bf.2 ⟨Bd ⟨show ((mvB d x).1.take 7).length<=100000 by rw [B5];omega,hd.1,show Ql (mvB d x).2 4<=100 by omega⟩,QG hB.2.2⟩
def QGV:Ent:=Y8 QM (.pr QF .nil) (fun d x=>(G0 d x.1)) (fun d x=>(.t (.sl J5) (mvV d x.1))) (fun d x=>(mvN d x.1))
theorem ms_f23:EM 23 QGV:=mS (lk:=lkL (lkc QUX (lkc QUY (lkc QUZ lkn)))) E8 Qjr [((.t 4),some (.sl J5))] false (gB (gD ms_f16 (gD WI (gD GM (gD QI1 (gD ms_f60 gN)))))) fun m=>X6 m rfl fun d x hok=>kT (s_f23 d x.1 hok)
end
end Go.Proofs.YtckcgijklnloiaaGreat.K
