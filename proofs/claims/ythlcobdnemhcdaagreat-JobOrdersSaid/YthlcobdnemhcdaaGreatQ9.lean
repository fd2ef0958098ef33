import Derived.Test.YthlcobdnemhcdaaGreatQ8
import Derived.Test.YthlcobdnemhcdaaGreatQ6
import Derived.Test.YthlcobdnemhcdaaGreatQ7
import Derived.Test.YthlcobdnemhcdaaGreatQ3
set_option linter.unusedSimpArgs false
set_option linter.unusedVariables false
noncomputable section
namespace Go.Proofs.YthlcobdnemhcdaaGreat.K
open Go.RowKit
noncomputable section
theorem UY (a:Int):ine a a=false:=by simp [ine]
theorem UZ (a:Int):ieq a a=true:=by simp [ieq]
theorem Qru (a:Bool):FP a a=true:=by cases a<;>rfl
theorem sne_s (a:ByteArray):sne a a=false:=by simp [sne]
theorem seq_s (a:ByteArray):seq a a=true:=by simp [seq]
def Yl {α:Type}(a b:List α)(i:Int):Bool:= @decide (a=b/\a.length<=100000/\0<=i/\i<=a.length) (Classical.propDecidable _)
def ZC {α:Type}(a b:α):Bool:= @decide (a=b) (Classical.propDecidable _)
theorem Ym {α:Type}(a:α):ZC a a=true:= @Be _ (Classical.propDecidable _) rfl
theorem YL {α:Type}{a b:α}(h:ZC a b=true):a=b:= @BC _ (Classical.propDecidable _) h
theorem QbK {α:Type}{a b:List α}{i:Int}(h:Yl a b i=true):a=b/\a.length<=100000/\0<=i/\i<=a.length:= @BC _ (Classical.propDecidable _) h
theorem QbL {α:Type}{a:List α}(h:a.length<=100000):Yl a a 0=true:= @Be _ (Classical.propDecidable _) ⟨rfl,h,Dp 0,by omega⟩
def QbM (_ _:List ByteArray):Bool:=true
def QbN (a b:List ByteArray):Bool:=ZC a b&&decide (a.length<=100000)
abbrev QbO:Sh:=⟨[(0,.ty (.sl .str)),(1,.ty (.sl .str)),(5,.ty tI)],[]⟩
abbrev Ol:Sh:=⟨[(4,.ty .bool)],[]⟩
abbrev U0:Sh:=⟨[],[]⟩
def Qij:Fg:=QbO.f
def Qrv:TC:=aF Tryz.f237 [(58,pL 0 Qij),(931,.fg U0.f),(1864,pD [(0,[]),(1,[]),(2,[]),(3,[]),(4,[]),(5,[]),(6,[]),(7,[]),(8,[])] (.of [0,1,2,3,4,5,6,7,8])),(7461,.fg Ol.f)]
def Qrw:TC:=lb 0 Qrv
def Qrx (x0 x1:List ByteArray)(x5:Int):VS:=QbO.st (x0,x1,x5,()) ()
def Yn (x4:Bool):VS:=Ol.st (x4,()) ()
def Qik  : VS:=U0.st () ()
def QCs:VS->Option (Bool×List (Bool×Exit×VS)):=mkL QbO (fun x y=>(Yl x.1 x.2.1 x.2.2.1)) (fun x y=>[((false),.ret,Yn (false)),(true,.exit 0,Qik)])
def Qil:G:=gG 26 [] (Ls [QCs])
def QbP (x0 x1:List ByteArray)(x5:Int):OX:=Qx (Qz Qil Qij Qrw) (Qrx x0 x1 x5)
def Om (kk:List ByteArray->List ByteArray->Int->OX)(x0 x1:List ByteArray)(x5:Int):OX:=br (ilt x5 (Qd x0)) (br (cIx x0 x5) (br (cIx x1 x5) (br (sne (lgt .str x0 (Int.toNat x5)) (lgt .str x1 (Int.toNat x5))) (some (.ret,Yn false)) (kk x0 x1 (Qi .i64 x5 1))) none) none) (some (.exit 0,Qik))
def QbQ (x0 x1:List ByteArray)(x5:Int):OX:=br (false) (some (.ret,Yn (false)))<|some (.exit 0,Qik)
theorem Qry (x0 x1:List ByteArray)(x5:Int):QbP x0 x1 x5=Om QbP x0 x1 x5:=lnT (x:=Om (fun x0 x1 x5=>some (.normal,Qrx x0 x1 x5)) x0 x1 x5) (by simp only [Om,nxA];rfl)
def Qrz (p0 p1:List ByteArray):OV:=br (ine (Qd p0) (Qd p1)) (some (.t .bool false,[])) (br (Yl p0 p1 (0:Int)) (br (false) (some (.t .bool (false),[])) (some (.t .bool true,[]))) none)
theorem QCt (x0 x1:List ByteArray)(x5:Int)(h:(Yl x0 x1 x5)=true):QbP x0 x1 x5=QbQ x0 x1 x5:=by
 obtain ⟨rfl,h2,h3,h4⟩:=QbK h
 obtain ⟨k,rfl⟩:=Br h3
 refine QX x0 (fun k=>QbP x0 x0 (k:Int)=QbQ x0 x0 (k:Int)) ?_ ?_ k (by omega)
 ·rw [Qry]
  simp only [Om,QbQ,QA,Qd,BS,BV,Ql]
 ·intro k hk ih
  rw [Qry]
  simp only [Om,QA,Qd,QM,hk,Bx,Qg,Bd,QW (show k<4611686018427387904 by omega),sne_s,Ql,ih,QbQ]
theorem QCu:LO Qil Qij Qrw 0:=QI (s:=QbO) fun x y h _ q=>by simp only [QG,QH] at q;exact (QCt x.1 x.2.1 x.2.2.1 h).trans q
theorem s_f237 (a b:List ByteArray)(h:QbN a b=true):Qrz a b=some (.t .bool (QbM a b),[]):=by
 obtain ⟨h1,h2⟩:=Bh.1 h
 obtain rfl:=YL h1
 unfold Qrz
 rw [UY,Ql]
 refine brY (QbL (BC h2)) rfl
def QrA:Ent:=Qn (.pr (.sl .str) (.pr (.sl .str) .nil)) (fun x=>(QbN x.1 x.2.1)) (fun x=>(.t .bool (QbM x.1 x.2.1)))
theorem QCv:EM 237 QrA:=mS (lk:=lkL (lkc QCu lkn)) Qil Qrv [((.t 4),some .bool)] false (gB gN) fun m=>Qt m fun x hok=>kT (s_f237 x.1 x.2.1 hok)
def Ec (_ _:List Int):Bool:=true
def GS (a b:List Int):Bool:=ZC a b&&decide (a.length<=100000)
abbrev QbR:Sh:=⟨[(0,.ty (.sl tI)),(1,.ty (.sl tI)),(5,.ty tI)],[]⟩
def Qim:Fg:=QbR.f
def QrB:TC:=aF Tryz.f97 [(58,pL 0 Qim),(931,.fg U0.f),(1864,pD [(0,[]),(1,[]),(2,[]),(3,[]),(4,[]),(5,[]),(6,[]),(7,[]),(8,[])] (.of [0,1,2,3,4,5,6,7,8])),(7461,.fg Ol.f)]
def QrC:TC:=lb 0 QrB
def QrD (x0 x1:List Int)(x5:Int):VS:=QbR.st (x0,x1,x5,()) ()
def Qin  : VS:=U0.st () ()
def QCw:VS->Option (Bool×List (Bool×Exit×VS)):=mkL QbR (fun x y=>(Yl x.1 x.2.1 x.2.2.1)) (fun x y=>[((false),.ret,Yn (false)),(true,.exit 0,Qin)])
def Qio:G:=gG 26 [] (Ls [QCw])
def QbS (x0 x1:List Int)(x5:Int):OX:=Qx (Qz Qio Qim QrC) (QrD x0 x1 x5)
def On (kk:List Int->List Int->Int->OX)(x0 x1:List Int)(x5:Int):OX:=br (ilt x5 (Qd x0)) (br (cIx x0 x5) (br (cIx x1 x5) (br (ine (lgt tI x0 (Int.toNat x5)) (lgt tI x1 (Int.toNat x5))) (some (.ret,Yn false)) (kk x0 x1 (Qi .i64 x5 1))) none) none) (some (.exit 0,Qin))
def QbT (x0 x1:List Int)(x5:Int):OX:=br (false) (some (.ret,Yn (false)))<|some (.exit 0,Qin)
theorem QrE (x0 x1:List Int)(x5:Int):QbS x0 x1 x5=On QbS x0 x1 x5:=lnT (x:=On (fun x0 x1 x5=>some (.normal,QrD x0 x1 x5)) x0 x1 x5) (by simp only [On,nxA];rfl)
def r_f97 (p0 p1:List Int):OV:=br (ine (Qd p0) (Qd p1)) (some (.t .bool false,[])) (br (Yl p0 p1 (0:Int)) (br (false) (some (.t .bool (false),[])) (some (.t .bool true,[]))) none)
theorem QCx (x0 x1:List Int)(x5:Int)(h:(Yl x0 x1 x5)=true):QbS x0 x1 x5=QbT x0 x1 x5:=by
 obtain ⟨rfl,h2,h3,h4⟩:=QbK h
 obtain ⟨k,rfl⟩:=Br h3
 refine QX x0 (fun k=>QbS x0 x0 (k:Int)=QbT x0 x0 (k:Int)) ?_ ?_ k (by omega)
 ·rw [QrE]
  simp only [On,QbT,QA,Qd,BS,BV,Ql]
 ·intro k hk ih
  rw [QrE]
  simp only [On,QA,Qd,QM,hk,Bx,Qg,Bd,QW (show k<4611686018427387904 by omega),UY,Ql,ih,QbT]
theorem QCy:LO Qio Qim QrC 0:=QI (s:=QbR) fun x y h _ q=>by simp only [QG,QH] at q;exact (QCx x.1 x.2.1 x.2.2.1 h).trans q
theorem s_f97 (a b:List Int)(h:GS a b=true):r_f97 a b=some (.t .bool (Ec a b),[]):=by
 obtain ⟨h1,h2⟩:=Bh.1 h
 obtain rfl:=YL h1
 unfold r_f97
 rw [UY,Ql]
 refine brY (QbL (BC h2)) rfl
def QrF:Ent:=Qn (.pr (.sl tI) (.pr (.sl tI) .nil)) (fun x=>(GS x.1 x.2.1)) (fun x=>(.t .bool (Ec x.1 x.2.1)))
theorem ms_f97:EM 97 QrF:=mS (lk:=lkL (lkc QCy lkn)) Qio QrB [((.t 4),some .bool)] false (gB gN) fun m=>Qt m fun x hok=>kT (s_f97 x.1 x.2.1 hok)
def QbU (_ _:Certificate):Bool:=true
def QbV (a b:Certificate):Bool:=ZC a b&&decide ((QN a).length<=100000)
def QCz:TC:=aF Tryz.f204 []
def g_f204:G:=gG 87 [(237,QrA)] (fun _ _=>none)
def QrG (p0 p1:Certificate):OV:=br (ieq p0.1 p1.1) (br (seq p0.2.1 p1.2.1) (br (seq p0.2.2.1 p1.2.2.1) (br (and (ieq p0.2.2.2.1.1 p1.2.2.2.1.1) (and (ieq p0.2.2.2.1.2.1 p1.2.2.2.1.2.1) true)) (br (ieq p0.2.2.2.2.1 p1.2.2.2.2.1) (br (and (ieq p0.2.2.2.2.2.1.1 p1.2.2.2.2.2.1.1) (and (ieq p0.2.2.2.2.2.1.2.1 p1.2.2.2.2.2.1.2.1) true)) (br (ieq p0.2.2.2.2.2.2.1 p1.2.2.2.2.2.2.1) (br (ieq p0.2.2.2.2.2.2.2.1 p1.2.2.2.2.2.2.2.1) (br (FP p0.2.2.2.2.2.2.2.2.1 p1.2.2.2.2.2.2.2.2.1) (br (ieq p0.2.2.2.2.2.2.2.2.2.1 p1.2.2.2.2.2.2.2.2.2.1) (br (QbN p0.2.2.2.2.2.2.2.2.2.2.1 p1.2.2.2.2.2.2.2.2.2.2.1) (br (QbM p0.2.2.2.2.2.2.2.2.2.2.1 p1.2.2.2.2.2.2.2.2.2.2.1) (some (.t .bool (and (ieq p0.2.2.2.2.2.2.2.2.2.2.2.1.1 p1.2.2.2.2.2.2.2.2.2.2.2.1.1) (and (ieq p0.2.2.2.2.2.2.2.2.2.2.2.1.2.1 p1.2.2.2.2.2.2.2.2.2.2.2.1.2.1) true)),[])) (some (.t .bool false,[]))) none) (some (.t .bool false,[]))) (some (.t .bool false,[]))) (some (.t .bool false,[]))) (some (.t .bool false,[]))) (some (.t .bool false,[]))) (some (.t .bool false,[]))) (some (.t .bool false,[]))) (some (.t .bool false,[]))) (some (.t .bool false,[]))) (some (.t .bool false,[]))
theorem s_f204 (a b:Certificate)(h:QbV a b=true):QrG a b=some (.t .bool (QbU a b),[]):=by
 obtain ⟨h1,h2⟩:=Bh.1 h
 obtain rfl:=YL h1
 have hq:QbN (QN a) (QN a)=true:=Bh.2 ⟨Ym _,h2⟩
 unfold QrG
 simp only [UZ,seq_s,Qru,Qg,and,QbM]
 refine brY hq ?_
 rfl
def QrH:Ent:=Qn (.pr QT (.pr QT .nil)) (fun x=>(QbV x.1 x.2.1)) (fun x=>(.t .bool (QbU x.1 x.2.1)))
theorem QCA:EM 204 QrH:=mS g_f204 QCz [((.t 4),some .bool)] false (gB (gD QCv gN)) fun m=>Qt m fun x hok=>kT (s_f204 x.1 x.2.1 hok)
def QbW (_ _:List Certificate):Bool:=true
def QbX (a b:List Certificate):Bool:=ZC a b&&JZ a
abbrev QbY:Sh:=⟨[(0,.ty (.sl QT)),(1,.ty (.sl QT)),(5,.ty tI)],[]⟩
def Qip:Fg:=QbY.f
def QrI:TC:=aF Tryz.f153 [(58,pL 0 Qip),(931,.fg U0.f),(1864,pD [(0,[]),(1,[]),(2,[]),(3,[]),(4,[]),(5,[]),(6,[]),(7,[]),(8,[]),(9,[])] (.of [0,1,2,3,4,5,6,7,8,9])),(7461,.fg Ol.f)]
def QrJ:TC:=lb 0 QrI
def QrK (x0 x1:List Certificate)(x5:Int):VS:=QbY.st (x0,x1,x5,()) ()
def Qiq  : VS:=U0.st () ()
def QCB:VS->Option (Bool×List (Bool×Exit×VS)):=mkL QbY (fun x y=>(Yl x.1 x.2.1 x.2.2.1&&JZ x.1)) (fun x y=>[((false),.ret,Yn (false)),(true,.exit 0,Qiq)])
def Qir:G:=gG 27 [(204,QrH)] (Ls [QCB])
def QbZ (x0 x1:List Certificate)(x5:Int):OX:=Qx (Qz Qir Qip QrJ) (QrK x0 x1 x5)
def Oo (kk:List Certificate->List Certificate->Int->OX)(x0 x1:List Certificate)(x5:Int):OX:=
 let a1:=lgt QT x0 (Int.toNat x5)
 let a2:=lgt QT x1 (Int.toNat x5)
 br (ilt x5 (Qd x0)) (br (cIx x0 x5) (br (cIx x1 x5) (br (QbV a1 a2) (br (!(QbU a1 a2)) (some (.ret,Yn false)) (kk x0 x1 (Qi .i64 x5 1))) none) none) none) (some (.exit 0,Qiq))
def Qb0 (x0 x1:List Certificate)(x5:Int):OX:=br (false) (some (.ret,Yn (false)))<|some (.exit 0,Qiq)
theorem QrL (x0 x1:List Certificate)(x5:Int):QbZ x0 x1 x5=Oo QbZ x0 x1 x5:=lnT (x:=Oo (fun x0 x1 x5=>some (.normal,QrK x0 x1 x5)) x0 x1 x5) (by simp only [Oo,nxA];rfl)
def QrM (p0 p1:List Certificate):OV:=br (ine (Qd p0) (Qd p1)) (some (.t .bool false,[])) (br (Yl p0 p1 (0:Int)&&JZ p0) (br (false) (some (.t .bool (false),[])) (some (.t .bool true,[]))) none)
theorem QCC (x0 x1:List Certificate)(x5:Int)(h:(Yl x0 x1 x5&&JZ x0)=true):QbZ x0 x1 x5=Qb0 x0 x1 x5:=by
 obtain ⟨h,hc⟩:=Bh.1 h
 obtain ⟨rfl,h2,h3,h4⟩:=QbK h
 obtain ⟨k,rfl⟩:=Br h3
 refine QX x0 (fun k=>QbZ x0 x0 (k:Int)=Qb0 x0 x0 (k:Int)) ?_ ?_ k (by omega)
 ·rw [QrL]
  simp only [Oo,Qb0,QA,Qd,BS,BV,Ql]
 ·intro k hk ih
  rw [QrL]
  have hq:QbV x0[k] x0[k]=true:=Bh.2 ⟨Ym _,Be (QeH (QlI hc hk))⟩
  simp only [Oo,QA,Qd,QM,hk,Bx,Qg,Bd,QW (show k<4611686018427387904 by omega),QP (y:=QT) hk,hq,QbU,BI,Ql,ih,Qb0]
theorem QCD:LO Qir Qip QrJ 0:=QI (s:=QbY) fun x y h _ q=>by simp only [QG,QH] at q;exact (QCC x.1 x.2.1 x.2.2.1 h).trans q
theorem s_f153 (a b:List Certificate)(h:QbX a b=true):QrM a b=some (.t .bool (QbW a b),[]):=by
 obtain ⟨h1,h2⟩:=Bh.1 h
 obtain rfl:=YL h1
 unfold QrM
 rw [UY,Ql]
 refine brY ?_ rfl
 rw [h2,QbL (QeM h2)]
 rfl
def QrN:Ent:=Qn (.pr (.sl QT) (.pr (.sl QT) .nil)) (fun x=>(QbX x.1 x.2.1)) (fun x=>(.t .bool (QbW x.1 x.2.1)))
theorem QCE:EM 153 QrN:=mS (lk:=lkL (lkc QCD lkn)) Qir QrI [((.t 4),some .bool)] false (gB (gD QCA gN)) fun m=>Qt m fun x hok=>kT (s_f153 x.1 x.2.1 hok)
def Qb1 (_ _:List Identity):Bool:=true
def Qb2 (a b:List Identity):Bool:=ZC a b&&(decide (a.length<=100000)&&a.all ZD)
abbrev Qb3:Sh:=⟨[(0,.ty (.sl Jd)),(1,.ty (.sl Jd)),(5,.ty tI)],[]⟩
def Qis:Fg:=Qb3.f
def QrO:TC:=aF Tryz.f98 [(58,pL 0 Qis),(931,.fg U0.f),(1864,pD [(0,[]),(1,[]),(2,[]),(3,[]),(4,[]),(5,[]),(6,[]),(7,[]),(8,[]),(9,[]),(10,[]),(11,[]),(12,[]),(13,[]),(14,[]),(15,[]),(16,[]),(17,[]),(18,[]),(19,[]),(20,[]),(21,[]),(22,[]),(23,[]),(24,[]),(25,[]),(26,[]),(27,[]),(28,[]),(29,[]),(30,[]),(31,[]),(32,[]),(33,[]),(34,[]),(35,[]),(36,[]),(37,[])] (.of [0,1,2,3,4,5,6,7,8,9,10,11,12,13,14,15,16,17,18,19,20,21,22,23,24,25,26,27,28,29,30,31,32,33,34,35,36,37])),(7461,.fg Ol.f)]
def QrP:TC:=lb 0 QrO
def QrQ (x0 x1:List Identity)(x5:Int):VS:=Qb3.st (x0,x1,x5,()) ()
def Qit  : VS:=U0.st () ()
def QCF:VS->Option (Bool×List (Bool×Exit×VS)):=mkL Qb3 (fun x y=>(Yl x.1 x.2.1 x.2.2.1&&x.1.all ZD)) (fun x y=>[((false),.ret,Yn (false)),(true,.exit 0,Qit)])
def Qiu:G:=gG 55 [(153,QrN)] (Ls [QCF])
def Qb4 (x0 x1:List Identity)(x5:Int):OX:=Qx (Qz Qiu Qis QrP) (QrQ x0 x1 x5)
def Oq (kk:List Identity->List Identity->Int->OX)(x0 x1:List Identity)(x5:Int):OX:=
 let a1:=lgt Jd x0 (Int.toNat x5)
 let a2:=lgt Jd x1 (Int.toNat x5)
 br (ilt x5 (Qd x0)) (br (cIx x0 x5) (br (cIx x1 x5) (br (!(and (ieq ((a1.1).1) ((a2.1).1)) (and (ieq (((a1.1).2).1) (((a2.1).2).1)) true))) (some (.ret,Yn false)) (br (cIx x0 x5) (br (cIx x1 x5) (br (ine ((a1.2).1) ((a2.2).1)) (some (.ret,Yn false)) (br (cIx x0 x5) (br (cIx x1 x5) (br (QbX (((a1.2).2).1) (((a2.2).2).1)) (br (!(QbW (((a1.2).2).1) (((a2.2).2).1))) (some (.ret,Yn false)) (kk x0 x1 (Qi .i64 x5 1))) none) none) none)) none) none)) none) none) (some (.exit 0,Qit))
def Qb5 (x0 x1:List Identity)(x5:Int):OX:=br (false) (some (.ret,Yn (false)))<|some (.exit 0,Qit)
theorem QrR (x0 x1:List Identity)(x5:Int):Qb4 x0 x1 x5=Oq Qb4 x0 x1 x5:=lnT (x:=Oq (fun x0 x1 x5=>some (.normal,QrQ x0 x1 x5)) x0 x1 x5) (by simp only [Oq,nxA];rfl)
def r_f98 (p0 p1:List Identity):OV:=br (ine (Qd p0) (Qd p1)) (some (.t .bool false,[])) (br (Yl p0 p1 (0:Int)&&p0.all ZD) (br (false) (some (.t .bool (false),[])) (some (.t .bool true,[]))) none)
theorem QCG (x0 x1:List Identity)(x5:Int)(h:(Yl x0 x1 x5&&x0.all ZD)=true):Qb4 x0 x1 x5=Qb5 x0 x1 x5:=by
 obtain ⟨h,hc⟩:=Bh.1 h
 obtain ⟨rfl,h2,h3,h4⟩:=QbK h
 obtain ⟨k,rfl⟩:=Br h3
 refine QX x0 (fun k=>Qb4 x0 x0 (k:Int)=Qb5 x0 x0 (k:Int)) ?_ ?_ k (by omega)
 ·rw [QrR]
  simp only [Oq,Qb5,QA,Qd,BS,BV,Ql]
 ·intro k hk ih
  rw [QrR]
  have hq:QbX x0[k].2.2.1 x0[k].2.2.1=true:=Bh.2 ⟨Ym _,Bg.1 hc _ (Bu hk)⟩
  simp only [Oq,QA,Qd,QM,hk,Bx,Qg,Bd,QW (show k<4611686018427387904 by omega),QP (y:=Jd) hk,hq,QbW,UZ,UY,and,BI,Ql,ih,Qb5]
theorem QCH:LO Qiu Qis QrP 0:=QI (s:=Qb3) fun x y h _ q=>by simp only [QG,QH] at q;exact (QCG x.1 x.2.1 x.2.2.1 h).trans q
theorem s_f98 (a b:List Identity)(h:Qb2 a b=true):r_f98 a b=some (.t .bool (Qb1 a b),[]):=by
 obtain ⟨h1,h2⟩:=Bh.1 h
 obtain rfl:=YL h1
 obtain ⟨h2,h3⟩:=Bh.1 h2
 unfold r_f98
 rw [UY,Ql]
 refine brY ?_ rfl
 rw [h3,QbL (BC h2)]
 rfl
def QrS:Ent:=Qn (.pr (.sl Jd) (.pr (.sl Jd) .nil)) (fun x=>(Qb2 x.1 x.2.1)) (fun x=>(.t .bool (Qb1 x.1 x.2.1)))
theorem ms_f98:EM 98 QrS:=mS (lk:=lkL (lkc QCH lkn)) Qiu QrO [((.t 4),some .bool)] false (gB (gD QCE gN)) fun m=>Qt m fun x hok=>kT (s_f98 x.1 x.2.1 hok)
def Qb6 (_ _:Endpoint):Bool:=true
def Qb7 (a b:Endpoint):Bool:=ZC a b&&Jy a
def tc_f56:TC:=aF Tryz.f56 []
def g_f56:G:=gG 66 [(97,QrF),(98,QrS)] (fun _ _=>none)
def r_f56 (p0 p1:Endpoint):OV:=br (seq p0.1 p1.1) (br (ieq p0.2.1 p1.2.1) (br (ieq p0.2.2.1 p1.2.2.1) (br (GS p0.2.2.2.1 p1.2.2.2.1) (br (Ec p0.2.2.2.1 p1.2.2.2.1) (br (FP p0.2.2.2.2.1 p1.2.2.2.2.1) (br (Qb2 p0.2.2.2.2.2.1 p1.2.2.2.2.2.1) (br (Qb1 p0.2.2.2.2.2.1 p1.2.2.2.2.2.1) (br (GS p0.2.2.2.2.2.2.1 p1.2.2.2.2.2.2.1) (br (Ec p0.2.2.2.2.2.2.1 p1.2.2.2.2.2.2.1) (br (GS p0.2.2.2.2.2.2.2.1 p1.2.2.2.2.2.2.2.1) (br (Ec p0.2.2.2.2.2.2.2.1 p1.2.2.2.2.2.2.2.1) (some (.t .bool (FP p0.2.2.2.2.2.2.2.2.1 p1.2.2.2.2.2.2.2.2.1),[])) (some (.t .bool false,[]))) none) (some (.t .bool false,[]))) none) (some (.t .bool false,[]))) none) (some (.t .bool false,[]))) (some (.t .bool false,[]))) none) (some (.t .bool false,[]))) (some (.t .bool false,[]))) (some (.t .bool false,[]))
theorem s_f56 (a b:Endpoint)(h:Qb7 a b=true):r_f56 a b=some (.t .bool (Qb6 a b),[]):=by
 obtain ⟨h1,h2⟩:=Bh.1 h
 obtain rfl:=YL h1
 simp only [Jy,Bc,Ba] at h2
 obtain ⟨⟨_,g1,g2,g3,g4⟩,g5⟩:=h2
 have hI: ∀ {l:List Int},l.length<=100000->GS l l=true:=fun h=>Bh.2 ⟨Ym _,Be h⟩
 have hq:Qb2 (Xb a) (Xb a)=true:=Bh.2 ⟨Ym _,Bh.2 ⟨Be g2,g5⟩⟩
 unfold r_f56
 simp only [UZ,seq_s,Qru,Qg,Ec,Qb1,GS,Ym,By]
 refine brY (Be g1) (brY hq (brY (Be g3) (brY (Be g4) rfl)))
def QrT:Ent:=Qn (.pr QE (.pr QE .nil)) (fun x=>(Qb7 x.1 x.2.1)) (fun x=>(.t .bool (Qb6 x.1 x.2.1)))
theorem ms_f56:EM 56 QrT:=mS g_f56 tc_f56 [((.t 4),some .bool)] false (gB (gD ms_f97 (gD ms_f98 gN))) fun m=>Qt m fun x hok=>kT (s_f56 x.1 x.2.1 hok)
end
end Go.Proofs.YthlcobdnemhcdaaGreat.K
noncomputable section
namespace Go.Proofs.YthlcobdnemhcdaaGreat.K
open Go.RowKit
noncomputable section
def Qee (_ _:Item):Bool:=true
def Qef (a b:Item):Bool:=ZC a b&&Xw a
abbrev Qeg:Sh:=⟨[(2,.ptr 2 0),(3,.ptr 3 0),(43,.ty tI),(44,.ty tI)],[(2,.box Qq),(3,.box Qq)]⟩
abbrev Vh:Sh:=⟨[(4,.ty .bool)],[]⟩
abbrev Qeh:Sh:=⟨[],[]⟩
def Qk9:Fg:=Qeg.f
def Qv5:TC:=aF Tryz.f57 [(58,pL 0 Qk9),(933,.fg Qeh.f),(7474,pD [(0,[2]),(1,[2]),(2,[]),(3,[]),(4,[]),(5,[3]),(6,[3]),(7,[]),(8,[]),(9,[]),(10,[])] (.of [0,1,2,3,4,5,6,7,8,9,10])),(29901,.fg Vh.f)]
def Qv6:TC:=lb 0 Qv5
def Qv7 (x43 x44:Int)(y2 y3:Item):VS:=Qeg.st ((),(),x43,x44,()) (y2,y3,())
def Xk (x4:Bool):VS:=Vh.st (x4,()) ()
def Qla  : VS:=Qeh.st () ()
def QHV:VS->Option (Bool×List (Bool×Exit×VS)):=mkL Qeg (fun x y=>(ZC y.1 y.2.1&&decide (x.2.2.1=y.1.2.2.2.1.length/\0<=x.2.2.2.1/\x.2.2.2.1<=x.2.2.1/\x.2.2.1<=1000))) (fun x y=>[((false),.ret,Xk (false)),(true,.exit 0,Qla)])
def Qlb:G:=gG 59 [] (Ls [QHV])
def Qei (x43 x44:Int)(y2 y3:Item):OX:=Qx (Qz Qlb Qk9 Qv6) (Qv7 x43 x44 y2 y3)
def Vi (kk:Int->Int->Item->Item->OX)(x43 x44:Int)(y2 y3:Item):OX:=
 let a1:=lgt Q6 y2.2.2.2.1 (Int.toNat x44)
 let a2:=lgt Q6 y3.2.2.2.1 (Int.toNat x44)
 br (ilt x44 x43) (br (cIx y2.2.2.2.1 x44) (br (cIx y3.2.2.2.1 x44) (br (!(and (ieq ((a1.1).1) ((a2.1).1)) (and (ieq (((a1.1).2).1) (((a2.1).2).1)) (and (ieq ((a1.2).1) ((a2.2).1)) true)))) (some (.ret,Xk false)) (kk x43 (Qi .i64 x44 1) y2 y3)) none) none) (some (.exit 0,Qla))
def Qej (x43 x44:Int)(y2 y3:Item):OX:=br (false) (some (.ret,Xk (false)))<|some (.exit 0,Qla)
theorem Qv8 (x43 x44:Int)(y2 y3:Item):Qei x43 x44 y2 y3=Vi Qei x43 x44 y2 y3:=lnT (x:=Vi (fun x43 x44 y2 y3=>some (.normal,Qv7 x43 x44 y2 y3)) x43 x44 y2 y3) (by simp only [Vi,nxA];rfl)
def r_f57 (p0 p1:Item):OV:=
 let a1:=Qd p0.2.2.2.1
 br (sne p0.1 p1.1) (some (.t .bool false,[])) (br (ine p0.2.1 p1.2.1) (some (.t .bool false,[])) (br (ine p0.2.2.1 p1.2.2.1) (some (.t .bool false,[])) (br (ine p0.2.2.2.2.1 p1.2.2.2.2.1) (some (.t .bool false,[])) (br (ine a1 (Qd p1.2.2.2.1)) (some (.t .bool false,[])) (br (ZC p0 p1&&decide (a1=p0.2.2.2.1.length/\0<=(0:Int)/\(0:Int)<=a1/\a1<=1000)) (br (false) (some (.t .bool (false),[])) (some (.t .bool true,[]))) none)))))
theorem QHW (x43 x44:Int)(y2 y3:Item)(h:(ZC y2 y3&&decide (x43=y2.2.2.2.1.length/\0<=x44/\x44<=x43/\x43<=1000))=true):Qei x43 x44 y2 y3=Qej x43 x44 y2 y3:=by
 obtain ⟨h,hc⟩:=Bh.1 h
 obtain rfl:=YL h
 obtain ⟨rfl,h2,h3,h4⟩:=BC hc
 obtain ⟨k,rfl⟩:=Br h2
 refine QX y2.2.2.2.1 (fun k=>Qei (y2.2.2.2.1.length:Int) (k:Int) y2 y2=Qej (y2.2.2.2.1.length:Int) (k:Int) y2 y2) ?_ ?_ k (by omega)
 ·rw [Qv8]
  simp only [Vi,Qej,QA,Qd,BS,BV,Ql]
 ·intro k hk ih
  rw [Qv8]
  simp only [Vi,QA,Qd,QM,hk,Bx,Qg,Bd,QW (show k<4611686018427387904 by omega),QP (y:=Q6) hk,UZ,and,BI,Ql,ih,Qej]
theorem QHX:LO Qlb Qk9 Qv6 0:=QI (s:=Qeg) fun x y h _ q=>by simp only [QG,QH] at q;exact (QHW x.2.2.1 x.2.2.2.1 y.1 y.2.1 h).trans q
theorem s_f57 (a b:Item)(h:Qef a b=true):r_f57 a b=some (.t .bool (Qee a b),[]):=by
 obtain ⟨h1,h2⟩:=Bh.1 h
 obtain rfl:=YL h1
 have h2:a.2.2.2.1.length<=1000:=BC h2
 unfold r_f57
 simp only [UY,sne_s,Ql]
 refine brY ?_ rfl
 rw [Ym,By]
 refine Be ?_
 simp [Qd]
 omega
def Qv9:Ent:=Qn (.pr Qq (.pr Qq .nil)) (fun x=>(Qef x.1 x.2.1)) (fun x=>(.t .bool (Qee x.1 x.2.1)))
theorem ms_f57:EM 57 Qv9:=mS (lk:=lkL (lkc QHX lkn)) Qlb Qv5 [((.t 4),some .bool)] false (gB gN) fun m=>Qt m fun x hok=>kT (s_f57 x.1 x.2.1 hok)
def Qek (_ _:Estate):Bool:=true
def EY (a b:Estate):Bool:=ZC a b&&Zs a
def Qlc (n i:Int)(a b:Estate):Bool:=ZC a b&&((JQ a).all Jy&&decide (n=(JQ a).length/\0<=i/\i<=n/\n<=100000))
def Qld (n i:Int)(a b:Estate):Bool:=ZC a b&&decide (n=(ZW a).length/\0<=i/\i<=n/\n<=100000)
def Qle (n i:Int)(a b:Estate):Bool:=ZC a b&&((Ji a).all Xw&&decide (n=(Ji a).length/\0<=i/\i<=n/\n<=100000))
abbrev Qel:Sh:=⟨[(2,.ptr 2 0),(3,.ptr 3 0),(35,.ty tI),(36,.ty tI)],[(2,.box Qo),(3,.box Qo)]⟩
abbrev Qlf:Sh:=⟨[(2,.ptr 2 0),(3,.ptr 3 0)],[(2,.box Qo),(3,.box Qo)]⟩
abbrev Qem:Sh:=⟨[(2,.ptr 2 0),(3,.ptr 3 0),(54,.ty tI),(55,.ty tI)],[(2,.box Qo),(3,.box Qo)]⟩
abbrev Qen:Sh:=⟨[(2,.ptr 2 0),(3,.ptr 3 0),(72,.ty tI),(73,.ty tI)],[(2,.box Qo),(3,.box Qo)]⟩
def Qlg:Fg:=Qel.f
def Qlh:Fg:=Qem.f
def Qli:Fg:=Qen.f
def Qeo:TC:=aF Tryz.f14 [(58,pL 0 Qlg),(933,.fg Qlf.f),(7474,pD [(0,[2]),(1,[2]),(2,[]),(3,[]),(4,[]),(5,[3]),(6,[3]),(7,[]),(8,[]),(9,[]),(10,[]),(11,[])] (.of [0,1,2,3,4,5,6,7,8,9,10,11])),(29901,.fg Vh.f),(122,pL 1 Qlh),(1957,.fg Qlf.f),(15666,pD [(0,[2]),(1,[2]),(2,[]),(3,[]),(4,[]),(5,[3]),(6,[3]),(7,[]),(8,[]),(9,[]),(10,[])] (.of [0,1,2,3,4,5,6,7,8,9,10])),(62669,.fg Vh.f),(250,pL 2 Qli),(4005,.fg Qeh.f),(32050,pD [(0,[2]),(1,[2]),(2,[]),(3,[]),(4,[]),(5,[3]),(6,[3]),(7,[]),(8,[]),(9,[]),(10,[]),(11,[])] (.of [0,1,2,3,4,5,6,7,8,9,10,11])),(128205,.fg Vh.f)]
def Qwa:TC:=lb 0 Qeo
def Qwb:TC:=lb 1 Qeo
def Qwc:TC:=lb 2 Qeo
def Qwd (x35 x36:Int)(y2 y3:Estate):VS:=Qel.st ((),(),x35,x36,()) (y2,y3,())
def EZ (y2 y3:Estate):VS:=Qlf.st ((),(),()) (y2,y3,())
def Qwe (x54 x55:Int)(y2 y3:Estate):VS:=Qem.st ((),(),x54,x55,()) (y2,y3,())
def Qwf (x72 x73:Int)(y2 y3:Estate):VS:=Qen.st ((),(),x72,x73,()) (y2,y3,())
def Qlj  : VS:=Qeh.st () ()
def QHY:VS->Option (Bool×List (Bool×Exit×VS)):=mkL Qel (fun x y=>(Qlc x.2.2.1 x.2.2.2.1 y.1 y.2.1)) (fun x y=>[((false),.ret,Xk (false)),(true,.exit 0,EZ (y.1) (y.2.1))])
def QHZ:VS->Option (Bool×List (Bool×Exit×VS)):=mkL Qem (fun x y=>(Qld x.2.2.1 x.2.2.2.1 y.1 y.2.1)) (fun x y=>[((false),.ret,Xk (false)),(true,.exit 2,EZ (y.1) (y.2.1))])
def QH0:VS->Option (Bool×List (Bool×Exit×VS)):=mkL Qen (fun x y=>(Qle x.2.2.1 x.2.2.2.1 y.1 y.2.1)) (fun x y=>[((false),.ret,Xk (false)),(true,.exit 4,Qlj)])
def Fm:G:=gG 89 [(56,QrT),(57,Qv9)] (Ls [QHY,QHZ,QH0])
def Qep (x35 x36:Int)(y2 y3:Estate):OX:=Qx (Qz Fm Qlg Qwa) (Qwd x35 x36 y2 y3)
def Vj (kk:Int->Int->Estate->Estate->OX)(x35 x36:Int)(y2 y3:Estate):OX:=
 let a1:=Int.toNat x36
 let a2:=lgt QE y2.1 a1
 let a3:=lgt QE y3.1 a1
 br (ilt x36 x35) (br (cIx y2.1 x36) (br (cIx y3.1 x36) (br (Qb7 a2 a3) (br (!(Qb6 a2 a3)) (some (.ret,Xk false)) (kk x35 (Qi .i64 x36 1) y2 y3)) none) none) none) (some (.exit 0,EZ y2 y3))
def Qeq (x35 x36:Int)(y2 y3:Estate):OX:=br (false) (some (.ret,Xk (false)))<|some (.exit 0,EZ (y2) (y3))
theorem Qwg (x35 x36:Int)(y2 y3:Estate):Qep x35 x36 y2 y3=Vj Qep x35 x36 y2 y3:=lnT (x:=Vj (fun x35 x36 y2 y3=>some (.normal,Qwd x35 x36 y2 y3)) x35 x36 y2 y3) (by simp only [Vj,nxA];rfl)
def Qer (x54 x55:Int)(y2 y3:Estate):OX:=Qx (Qz Fm Qlh Qwb) (Qwe x54 x55 y2 y3)
def Vk (kk:Int->Int->Estate->Estate->OX)(x54 x55:Int)(y2 y3:Estate):OX:=
 let a1:=Int.toNat x55
 br (ilt x55 x54) (br (cIx y2.2.1 x55) (br (cIx y3.2.1 x55) (br (!(and (ieq ((lgt Qk y2.2.1 a1).1) ((lgt Qk y3.2.1 a1).1)) (and (ieq (((lgt Qk y2.2.1 a1).2).1) (((lgt Qk y3.2.1 a1).2).1)) true))) (some (.ret,Xk false)) (kk x54 (Qi .i64 x55 1) y2 y3)) none) none) (some (.exit 2,EZ y2 y3))
def Qes (x54 x55:Int)(y2 y3:Estate):OX:=br (false) (some (.ret,Xk (false)))<|some (.exit 2,EZ (y2) (y3))
theorem Qwh (x54 x55:Int)(y2 y3:Estate):Qer x54 x55 y2 y3=Vk Qer x54 x55 y2 y3:=lnT (x:=Vk (fun x54 x55 y2 y3=>some (.normal,Qwe x54 x55 y2 y3)) x54 x55 y2 y3) (by simp only [Vk,nxA];rfl)
def Qet (x72 x73:Int)(y2 y3:Estate):OX:=Qx (Qz Fm Qli Qwc) (Qwf x72 x73 y2 y3)
def Vl (kk:Int->Int->Estate->Estate->OX)(x72 x73:Int)(y2 y3:Estate):OX:=
 let a1:=Int.toNat x73
 let a2:=lgt Qq y2.2.2.1 a1
 let a3:=lgt Qq y3.2.2.1 a1
 br (ilt x73 x72) (br (cIx y2.2.2.1 x73) (br (cIx y3.2.2.1 x73) (br (Qef a2 a3) (br (!(Qee a2 a3)) (some (.ret,Xk false)) (kk x72 (Qi .i64 x73 1) y2 y3)) none) none) none) (some (.exit 4,Qlj))
def Qeu (x72 x73:Int)(y2 y3:Estate):OX:=br (false) (some (.ret,Xk (false)))<|some (.exit 4,Qlj)
theorem Qwi (x72 x73:Int)(y2 y3:Estate):Qet x72 x73 y2 y3=Vl Qet x72 x73 y2 y3:=lnT (x:=Vl (fun x72 x73 y2 y3=>some (.normal,Qwf x72 x73 y2 y3)) x72 x73 y2 y3) (by simp only [Vl,nxA];rfl)
def r_f14 (p0 p1:Estate):OV:=br (ine (Qd p0.1) (Qd p1.1)) (some (.t .bool false,[])) (br (ine (Qd p0.2.1) (Qd p1.2.1)) (some (.t .bool false,[])) (br (ine (Qd p0.2.2.1) (Qd p1.2.2.1)) (some (.t .bool false,[])) (br (Qlc (Qd p0.1) (0:Int) p0 p1) (br (false) (some (.t .bool (false),[])) (br (Qld (Qd (((p0).2).1)) (0:Int) (p0) (p1)) (br (false) (some (.t .bool (false),[])) (br (Qle (Qd ((((p0).2).2).1)) (0:Int) (p0) (p1)) (br (false) (some (.t .bool (false),[])) (some (.t .bool true,[]))) none)) none)) none)))
theorem QH1 (x35 x36:Int)(y2 y3:Estate)(h:(Qlc x35 x36 y2 y3)=true):Qep x35 x36 y2 y3=Qeq x35 x36 y2 y3:=by
 obtain ⟨h,hc⟩:=Bh.1 h
 obtain rfl:=YL h
 obtain ⟨ha,hn⟩:=Bh.1 hc
 obtain ⟨rfl,h2,h3,h4⟩:=BC hn
 obtain ⟨k,rfl⟩:=Br h2
 refine QX (JQ y2) (fun k=>Qep ((JQ y2).length:Int) (k:Int) y2 y2=Qeq ((JQ y2).length:Int) (k:Int) y2 y2) ?_ ?_ k (by omega)
 ·rw [Qwg]
  simp only [Vj,Qeq,QA,Qd,BS,BV,Ql]
 ·intro k hk ih
  rw [Qwg]
  have hk0:k<y2.1.length:=hk
  have hq:Qb7 y2.1[k] y2.1[k]=true:=Bh.2 ⟨Ym _,Bg.1 ha _ (Bu hk0)⟩
  simp only [Vj,QA,Qd,QM,hk,hk0,Bx,Qg,Bd,QW (show k<4611686018427387904 by omega),QP (y:=QE) hk0,hq,Qb6,BI,Ql,ih,Qeq]
theorem QH2 (x54 x55:Int)(y2 y3:Estate)(h:(Qld x54 x55 y2 y3)=true):Qer x54 x55 y2 y3=Qes x54 x55 y2 y3:=by
 obtain ⟨h,hc⟩:=Bh.1 h
 obtain rfl:=YL h
 obtain ⟨rfl,h2,h3,h4⟩:=BC hc
 obtain ⟨k,rfl⟩:=Br h2
 refine QX (ZW y2) (fun k=>Qer ((ZW y2).length:Int) (k:Int) y2 y2=Qes ((ZW y2).length:Int) (k:Int) y2 y2) ?_ ?_ k (by omega)
 ·rw [Qwh]
  simp only [Vk,Qes,QA,Qd,BS,BV,Ql]
 ·intro k hk ih
  rw [Qwh]
  have hk0:k<y2.2.1.length:=hk
  simp only [Vk,QA,Qd,QM,hk,hk0,Bx,Qg,Bd,QW (show k<4611686018427387904 by omega),QP (y:=Qk) hk0,UZ,and,BI,Ql,ih,Qes]
theorem QH3 (x72 x73:Int)(y2 y3:Estate)(h:(Qle x72 x73 y2 y3)=true):Qet x72 x73 y2 y3=Qeu x72 x73 y2 y3:=by
 obtain ⟨h,hc⟩:=Bh.1 h
 obtain rfl:=YL h
 obtain ⟨ha,hn⟩:=Bh.1 hc
 obtain ⟨rfl,h2,h3,h4⟩:=BC hn
 obtain ⟨k,rfl⟩:=Br h2
 refine QX (Ji y2) (fun k=>Qet ((Ji y2).length:Int) (k:Int) y2 y2=Qeu ((Ji y2).length:Int) (k:Int) y2 y2) ?_ ?_ k (by omega)
 ·rw [Qwi]
  simp only [Vl,Qeu,QA,Qd,BS,BV,Ql]
 ·intro k hk ih
  rw [Qwi]
  have hk0:k<y2.2.2.1.length:=hk
  have hq:Qef y2.2.2.1[k] y2.2.2.1[k]=true:=Bh.2 ⟨Ym _,Bg.1 ha _ (Bu hk0)⟩
  simp only [Vl,QA,Qd,QM,hk,hk0,Bx,Qg,Bd,QW (show k<4611686018427387904 by omega),QP (y:=Qq) hk0,hq,Qee,BI,Ql,ih,Qeu]
theorem QH4:LO Fm Qlg Qwa 0:=QI (s:=Qel) fun x y h _ q=>by simp only [QG,QH] at q;exact (QH1 x.2.2.1 x.2.2.2.1 y.1 y.2.1 h).trans q
theorem QH5:LO Fm Qlh Qwb 1:=QI (s:=Qem) fun x y h _ q=>by simp only [QG,QH] at q;exact (QH2 x.2.2.1 x.2.2.2.1 y.1 y.2.1 h).trans q
theorem QH6:LO Fm Qli Qwc 2:=QI (s:=Qen) fun x y h _ q=>by simp only [QG,QH] at q;exact (QH3 x.2.2.1 x.2.2.2.1 y.1 y.2.1 h).trans q
theorem s_f14 (a b:Estate)(h:EY a b=true):r_f14 a b=some (.t .bool (Qek a b),[]):=by
 obtain ⟨h1,h2⟩:=Bh.1 h
 obtain rfl:=YL h1
 obtain ⟨h2,h3⟩:=Bh.1 h2
 have hi:=O6 (QaX h2)
 simp only [ZH,Bc,Ba] at h2
 obtain ⟨⟨g1,g2⟩,g3,_⟩:=h2
 unfold r_f14
 simp only [UY,Ql]
 refine brY ?_ (brY ?_ (brY ?_ rfl))
 ·refine Bh.2 ⟨Ym _,Bh.2 ⟨g3,Be ⟨rfl,Dp 0,Int.natCast_nonneg _, ?_⟩⟩⟩
  show ((JQ a).length:Int)<=100000
  omega
 ·refine Bh.2 ⟨Ym _,Be ⟨rfl,Dp 0,Int.natCast_nonneg _, ?_⟩⟩
  show ((ZW a).length:Int)<=100000
  omega
 ·refine Bh.2 ⟨Ym _,Bh.2 ⟨h3,Be ⟨rfl,Dp 0,Int.natCast_nonneg _, ?_⟩⟩⟩
  show ((Ji a).length:Int)<=100000
  omega
def Qwj:Ent:=Qn (.pr Qo (.pr Qo .nil)) (fun x=>(EY x.1 x.2.1)) (fun x=>(.t .bool (Qek x.1 x.2.1)))
theorem ms_f14:EM 14 Qwj:=mS (lk:=lkL (lkc QH4 (lkc QH5 (lkc QH6 lkn)))) Fm Qeo [((.t 4),some .bool)] false (gB (gD ms_f56 (gD ms_f57 gN))) fun m=>Qt m fun x hok=>kT (s_f14 x.1 x.2.1 hok)
theorem Qwk (a:Estate)(h:Zs a=true):EY a a=true:=Bh.2 ⟨Ym _,h⟩
end
end Go.Proofs.YthlcobdnemhcdaaGreat.K
noncomputable section
namespace Go.Proofs.YthlcobdnemhcdaaGreat.K
open Go.RowKit Go.Conc
theorem rd_to {X:Nat->Nat->Prop}{w:World}{σ:Pl}{y:Ty}{x:y.T}{u:Value}(h:Rd X w y x u):C X w σ (V.t y x).d u:=
 C.ext0 (X:=X) (X':=X) ⟨Bv _,fun b q hb hn=>⟨hn,rfl⟩⟩ _ _ (fun k hk=>by rw [show (V.t y x).d=y.d x from rfl,Ty.refs_d] at hk;cases hk) h
theorem Qns {X:Nat->Nat->Prop}{w:World}{σ:Pl}: ∀ {l:List Job} {vs:List Value},Cs X w σ (l.flatMap JC.cells) vs->vs=cJ l
 | [],vs,h=>by simpa [Cs,cJ] using h
 |x::l,vs,h=>by
  have h:Cs X w σ (D.v (.int .i64 x.1)::D.v (.int .i64 x.2.1.1.1)::D.v (.int .i64 x.2.1.1.2.1)::D.v (.int .i64 x.2.1.2.1)::l.flatMap JC.cells) vs:=h
  simp only [Cs] at h
  obtain ⟨u0,r0,rfl,c0,u1,r1,rfl,c1,u2,r2,rfl,c2,u3,r3,rfl,c3,h2⟩:=h
  simp only [C] at c0 c1 c2 c3
  rw [Qns h2,c0.1,c1.1,c2.1,c3.1]
  rfl
def QfN:Ent:=Qn (.pr Qo (.pr QF (.pr (.sl JC) .nil))) (fun x=>(FV x.1 x.2.1 x.2.2.1)) (fun x=>(.tu [(.t Qo ((JD x.1 x.2.1 x.2.2.1).1)),(.t tI (((JD x.1 x.2.1 x.2.2.1).2).1)),(.t tI (((JD x.1 x.2.1 x.2.2.1).2).2))]))
theorem en_f12:QV Tryz.prog 12:= .inr ⟨by decide,_,Tryz.func12,by kernel_rfl,by kernel_rfl⟩
theorem ms_f12:Qp Tryz.prog 12 (Qr QfN):=by
 unfold QfN
 refine QaQ (fun z hok X w σ vs hfin hc=> ?_)
 obtain ⟨e,y,l,u⟩:=z
 have hc:Cs X w σ [(V.t Qo e).d,(V.t QF y).d,(V.t (.sl JC) l).d] vs:=hc
 simp only [Cs] at hc
 obtain ⟨ev,r0,rfl,c0,pv,r1,rfl,c1,lv,r2,rfl,c2,rfl⟩:=hc
 obtain ⟨a0,a1,a2,rfl,oa0,oa1,oa2⟩:=Qca c0
 obtain ⟨p0,p1,rfl,op0,op1⟩:=QCL c1
 have c2:C X w σ (D.sl l.length (l.flatMap JC.cells)) lv:=c2
 simp only [C] at c2
 obtain ⟨A,c,rfl,g1,g2,g3,g4⟩:=c2
 refine (Qtr (X0:=X) (l:=l) (n:=l.length) rfl (by simp only [maxLen] at g2;omega) hfin (Or c0 (fun _ _ _ h=>h)) (Or c1 (fun _ _ _ h=>h)) oa0 oa1 oa2 op0 op1 ?_ hok).mono ?_
 ·intro hp
  obtain ⟨b,off,vs,rfl,k1,k2⟩:=g4 hp
  rw [Qns k1] at k2
  exact ⟨b,off,rfl,k2.lt,fun j v hv=>k2.at_ j v hv⟩
 ·rintro en w' ⟨v,rfl,h1,hb⟩
  refine ⟨_,rfl, ?_,hb⟩
  show C X w' σ (.tu [(V.t Qo (JD e y l).1).d,.v (.int .i64 (JD e y l).2.1),.v (.int .i64 (JD e y l).2.2)]) _
  simp only [C,Cs]
  exact ⟨_,rfl,v,_,rfl,rd_to h1,_,_,rfl,⟨rfl,rfl⟩,_,_,rfl,⟨rfl,rfl⟩,rfl⟩
def zE:Estate:=([],([],([],())))
def zY:Policy:=([],([],()))
def zJ:Job:=(0,(((0,(0,())),(0,())),()))
def zEv:Value:= .agg #[.slice none 0 0,.slice none 0 0,.slice none 0 0]
def zYv:Value:= .agg #[.slice none 0 0,.slice none 0 0]
def zJv:Value:= .agg #[.int .i64 0,.int .i64 0,.int .i64 0,.int .i64 0]
theorem Iq {X:Nat->Nat->Prop}{w:World}{σ:Pl}:C X w σ (D.sl 0 []) (.slice none 0 0):=by
 simp only [C]
 exact ⟨none,0,rfl,Bv _,BZ _,fun _=>trivial,fun h=>absurd h (BS _)⟩
theorem QfO {X:Nat->Nat->Prop}{w:World}:Rd X w Qo zE zEv:=by
 unfold Rd
 simp only [V.d]
 rw [Ty.d_row Qo _ rfl]
 simp only [C]
 exact ⟨_,rfl,_,_,rfl,Iq,_,_,rfl,Iq,_,_,rfl,Iq,rfl⟩
theorem QfP {X:Nat->Nat->Prop}{w:World}:Rd X w QF zY zYv:=by
 unfold Rd
 simp only [V.d]
 rw [Ty.d_row QF _ rfl]
 simp only [C]
 exact ⟨_,rfl,_,_,rfl,Iq,_,_,rfl,Iq,rfl⟩
theorem rd_zJ {X:Nat->Nat->Prop}{w:World}:Rd X w JC zJ zJv:=by
 unfold Rd
 simp only [V.d]
 rw [Ty.d_row JC _ rfl]
 simp only [C]
 exact ⟨[.int .i64 0,.int .i64 0,.int .i64 0,.int .i64 0],rfl,_,_,rfl,⟨rfl,rfl⟩,_,_,rfl,⟨rfl,rfl⟩,_,_,rfl,⟨rfl,rfl⟩,_,_,rfl,⟨rfl,rfl⟩,rfl⟩
theorem due_0 (w:World):Calls Tryz.prog 19 #[zEv,zYv] w fun en w'=> ∃ A c,en= .returned (.tuple #[.slice A 0 c,.int .i64 0])/\Below w.heap.size w w':=by
 have hF:Qr QpB [.t Qo zE,.t QF zY] []=some (.tu [.t (.sl tI) [],.t tI 0],[]):=by kernel_rfl
 refine (Wr (by decide) (ms_f19 _ _ _ _ hF (fun _ _=>False) w QO [zEv,zYv] (fun _ _ h=>h.elim) Qc1 ⟨zEv,_,rfl,QfO,zYv,_,rfl,QfP,rfl⟩)).mono ?_
 rintro en w' ⟨r,X',σ',rfl,h1,h2⟩
 have h1:C X' w' σ' (.tu [(V.t (.sl tI) []).d,.v (.int .i64 0)]) r:=h1
 simp only [C,Cs] at h1
 obtain ⟨vs,rfl,u1,us,rfl,c1,u2,us2,rfl,⟨rfl,_⟩,rfl⟩:=h1
 have c1:C X' w' σ' (D.sl 0 []) u1:=c1
 simp only [C] at c1
 obtain ⟨A,c,rfl,_⟩:=c1
 exact ⟨A,c,rfl,Qc2 h2⟩
theorem Qyx (w:World):Calls Tryz.prog 15 #[zEv,zYv,zJv] w fun en w'=>en= .returned (.int .i64 52)/\Below w.heap.size w w':=by
 have hF:Qr Qhd [.t Qo zE,.t QF zY,.t JC zJ] []=some (.t tI 52,[]):=by kernel_rfl
 refine (Wr (by decide) (Qpq.2 _ _ _ _ hF (fun _ _=>False) w QO [zEv,zYv,zJv] (fun _ _ h=>h.elim) Qc1 ⟨zEv,_,rfl,QfO,zYv,_,rfl,QfP,zJv,_,rfl,rd_zJ,rfl⟩)).mono ?_
 rintro en w' ⟨r,X',σ',rfl,h1,h2⟩
 have h1:C X' w' σ' (.v (.int .i64 52)) r:=h1
 simp only [C] at h1
 obtain ⟨rfl,_⟩:=h1
 exact ⟨rfl,Qc2 h2⟩
def Ir:Array Value:=madeCells #[.int .i64 0,.int .i64 0,.int .i64 0,.int .i64 0] 244
def Fu:List Job:=List.replicate 61 zJ
theorem Qnt: ∀ n:Nat,cJ (List.replicate n zJ)=List.replicate (n*4) (.int .i64 0)
 |0=>rfl
 |n+1=>by
  rw [List.replicate_succ,show (n+1)*4=n*4+1+1+1+1 by omega]
  show Value.int .i64 0::Value.int .i64 0::Value.int .i64 0::Value.int .i64 0::cJ (List.replicate n zJ)=_
  rw [Qnt n]
  rfl
theorem cJ_z {j:Nat}{v:Value}(h:(cJ Fu)[j]? = some v):Ir[j]? = some v:=by
 unfold Fu at h
 rw [Qnt] at h
 obtain ⟨hj,h⟩:=BB.1 h
 rw [List.getElem_replicate] at h
 rw [List.length_replicate] at hj
 subst h
 have h4:j % 4=0∨j % 4=1∨j % 4=2∨j % 4=3:=by omega
 have h5:(#[Value.int .i64 0,.int .i64 0,.int .i64 0,.int .i64 0]:Array Value)[j % 4]! = Value.int .i64 0:=by
  rcases h4 with h4|h4|h4|h4<;>rw [h4]<;>rfl
 have hj:j<244:=hj
 have hr:(Array.range 244)[j]? = some j:=by simp [hj]
 unfold Ir madeCells
 rw [Array.getElem?_map,hr]
 exact congrArg some h5
theorem Qnu:Fu.length=61:=List.length_replicate
theorem make_z (W:World):(Instr.makeSlice 34 (.int .i64 61) (.int .i64 61)).run Tryz.prog W= .ok (.slice (some ⟨W.heap.size,0,none⟩) 61 61) (W.alloc (.cells Ir 47)):=by
 have hi:(Tryz.prog.info? 47).map (fun i=>(i.zero,i.size,decide (i.bytes<=1000)))=some (some (.agg #[.int .i64 0,.int .i64 0,.int .i64 0,.int .i64 0]),4,true):=by kernel_rfl
 obtain ⟨inf,hi,hq⟩:=Bf.1 hi
 simp only [Bk,Ba] at hq
 have h:=run_makeSlice (P:=Tryz.prog) (w:=W) 34 47 inf _ (by kernel_rfl) hi hq.1 .i64 .i64 61 61 (by decide) (by decide) (by rw [hq.2.1];decide) (by omega) (by decide)
 rw [hq.2.1] at h
 exact h
theorem all_z:JD zE zY Fu=(zE,0,3):=by
 unfold JD
 rw [show igt (Qd Fu) 60=true from Be (by simp only [Qd,Qnu];decide)]
 rfl
set_option maxRecDepth 20000 in
theorem Qyy (w:World):Calls Tryz.prog 9 #[] w fun en w'=>en= .returned (.bool true)/\Below w.heap.size w w':=by
 refine WN.calls Tryz.func9 rfl ?_
 simp only [Tryz.ntmps9,Dt,Bp,BD,Nat.reduceAdd,Nat.reduceSub,Array.replicate_succ,
   Array.replicate_zero,List.push_toArray,List.append_toArray,BT,Dl]
 refine WN.seq (WN.of ?_)
 go_wp2_with fail
 refine WN.seq (WN.of ?_)
 go_wp2_with fail
 refine (due_0 _).mono ?_
 rintro en w1 ⟨A,c,rfl,b1⟩
 go_wp2_with fail
 have hmk:=make_z
 refine WN.seq (WN.of ?_)
 go_wp2_with fail
 refine (Qtr (X0:=fun _ _=>False) (l:=Fu) (e:=zE) (y:=zY) Qnu (by decide) (fun _ _ h=>h.elim) QfO QfP rfl rfl rfl rfl rfl (fun _=>⟨_,0,rfl,by rw [World.size_alloc];omega,fun j v hj=> ?_⟩) (by kernel_rfl)).mono ?_
 ·rw [DJ]
  exact ((Go.Proofs.YthlcobdnemhcdaaGreat.Blk.new w1 47 Ir).cell j).trans (cJ_z hj)
 rintro en w2 ⟨v,rfl,hv,b2⟩
 rw [all_z] at hv ⊢
 obtain ⟨x0,x1,x2,rfl,ox0,ox1,ox2⟩:=Qca hv
 have sx0:=fun a m W=>run_store Tryz.prog W a x0 m ox0
 have sx1:=fun a m W=>run_store Tryz.prog W a x1 m ox1
 have sx2:=fun a m W=>run_store Tryz.prog W a x2 m ox2
 clear hmk
 go_wp2_with fail
 clear sx0 sx1 sx2
 refine WN.seq (WN.of ?_)
 go_wp2_with fail
 refine (Qyx _).mono ?_
 rintro en w3 ⟨rfl,b3⟩
 go_wp2_with fail
 have c1:=b1.alloc b1.size (.cells Ir 47)
 have c2:=Uh c1 b2 c1.size
 have c3:=c2.alloc c2.size (.cells #[x0,x1,x2] 29)
 have c4:=Uh c3 b3 c3.size
 refine WN.of ?_
 go_wp2_with fail
 go_ret
 exact ⟨rfl,c4⟩
def Qae:Bool:=true
def QfQ:Ent:=Qn .nil (fun x=>true) (fun x=>(.t .bool Qae))
theorem en_f9:QV Tryz.prog 9:= .inr ⟨by decide,_,Tryz.func9,by kernel_rfl,by kernel_rfl⟩
theorem ms_f9:Qp Tryz.prog 9 (Qr QfQ):=by
 unfold QfQ
 refine QaQ (fun z hok X w σ vs hfin hc=> ?_)
 have hc:Cs X w σ [] vs:=hc
 simp only [Cs] at hc
 subst hc
 refine (Qyy w).mono ?_
 rintro en w' ⟨rfl,hb⟩
 refine ⟨_,rfl, ?_,hb⟩
 show C X w' σ (.v (.bool true)) _
 simp only [C]
 exact ⟨trivial,rfl⟩
end Go.Proofs.YthlcobdnemhcdaaGreat.K
noncomputable section
namespace Go.Proofs.YthlcobdnemhcdaaGreat.K.SO
open Go.RowKit
noncomputable section
theorem Qng: ∀ (n:Nat) (day:Int) (d:Dice),(Zf n day d).1.length=n
 |0,_,_=>rfl
 |n+1,day,d=>by
  have:=Qng n (Qi .i64 (Qi .i64 day 1) (dof (Qe d 6) [5,30,0,100])) (Qs (Qe d 6) [5,30,0,100])
  simp only [Zf,Bp,this]
theorem QfF (d:Dice)(s:ByteArray):1<=(Xm d s).2.2.2.1.length/\(Xm d s).2.2.2.1.length<=3:=by
 have hv:=Jm (d:=Qe (Qe (Qe d 2) 4) 20) (n:=3) (by omega)
 have e:(Xm d s).2.2.2.1.length=(Qi .i64 1 (Qj (Qe (Qe (Qe d 2) 4) 20) 3)).toNat:=Qng _ _ _
 rw [e,JL (by omega)]
 omega
theorem Qnh: ∀ (n:Nat) (d:Dice) (i:Item),i∈(itZ n d).1->1<=i.2.2.2.1.length/\i.2.2.2.1.length<=3
 |0,_,i,h=>by cases h
 |n+1,d,i,h=>by
  simp only [itZ,BJ] at h
  rcases h with rfl|h
  ·exact QfF _ _
  ·exact Qnh n _ i h
theorem Qym (n:Nat)(d:Dice):(itZ n d).1.all Xw=true:=Bg.2 fun i hi=>Be (by have:=Qnh n d i hi;omega)
def V6:List Keep:=[(3,(0,())),(4,(0,())),(2,(0,())),(17,(256,()))]
def jbD (n:Int)(d:Dice):Job:=(Qj d n,(((lgt Qk V6 (Qj (Qe d n) 4).toNat).1,((lgt Qk V6 (Qj (Qe d n) 4).toNat).2.1,())),(Qj (Qe (Qe d n) 4) 250,())),())
def jbN (n:Int)(d:Dice):Dice:=Qe (Qe (Qe d n) 4) 250
def jbZ (n:Int):Nat->Dice->List Job×Dice
 |0,d=>([],d)
 |k+1,d=>(jbD n d::(jbZ n k (jbN n d)).1,(jbZ n k (jbN n d)).2)
def jD1 (d:Dice):Dice:=Qe (Zj d) 3
def Z0 (d:Dice):List Item×Dice:=itZ (Qi .i64 1 (Qj (Zj d) 3)).toNat (jD1 d)
def jE (d:Dice):Estate:=((Jh d).1,((Jh d).2.1,((Z0 d).1,())))
def jD2 (d:Dice):Dice:=GR (Z0 d).2
def jB (d:Dice):Bool:=ieq (Qj (jD2 d) 2) 0
def jD3 (d:Dice):Dice:=Qs (Qs (Qe (jD2 d) 2) [2,1,5]) [30,60,200]
def jR (d:Dice):Rule:=(false,(dof (Qe (jD2 d) 2) [2,1,5],(0,(0,(dof (Qs (Qe (jD2 d) 2) [2,1,5]) [30,60,200],(40001,()))))))
def jP (d:Dice):Policy:=(bif jB d then (ZP (Z0 d).2).1++[jR d] else (ZP (Z0 d).2).1,((ZP (Z0 d).2).2.1,()))
def jD4 (d:Dice):Dice:=bif jB d then jD3 d else Qe (jD2 d) 2
def jL (d:Dice):List Job×Dice:=jbZ (Qd (Z0 d).1) (Qj (jD4 d) 4).toNat (Qe (jD4 d) 4)
def Uy (d:Dice):Estate×Policy×List Job:=(jE d,jP d,(jL d).1)
def V7 (d:Dice):Dice:=(jL d).2
abbrev V8:Sh:=⟨[(0,.ptr 50000 0),(2,.ptr 2 0),(3,.ptr 3 0),(5,.ptr 5 0),(6,.ty tI)],[(2,.box Qo),(3,.box QF),(5,.bag [.ms 11,.ty (.sl Qk),.ms 20502]),(11,.arr 111 QE),(28,.no),(31,.no),(45,.no),(5011,.arr 62 Qq),(5031,.no),(10011,.no),(10031,.no),(15011,.no),(15031,.no),(20502,.arr 62 Qq),(50000,.box QB)]⟩
abbrev Qyn:Sh:=⟨[(0,.ptr 50000 0),(2,.ptr 2 0),(3,.ptr 3 0),(5,.ptr 5 0)],[(2,.box Qo),(3,.box QF),(5,.bag [.ms 11,.ty (.sl Qk),.ms 20502]),(11,.arr 111 QE),(28,.no),(31,.no),(45,.no),(5011,.arr 62 Qq),(5031,.no),(10011,.no),(10031,.no),(15011,.no),(15031,.no),(20502,.arr 62 Qq),(50000,.box QB)]⟩
abbrev V9:Sh:=⟨[(0,.ptr 50000 0),(2,.ptr 2 0),(3,.ptr 3 0),(5,.ptr 5 0),(7,.ptr 7 0),(8,.ms 8),(9,.ty tI)],[(2,.box Qo),(3,.box QF),(5,.bag [.ty (.sl QE),.ty (.sl Qk),.ms 20502]),(7,.bag [.ms 31,.ty (.sl Qk)]),(8,.arr 47 JC),(11,.no),(28,.no),(31,.arr 66 QY),(45,.no),(73,.no),(5011,.no),(5031,.no),(10011,.no),(10031,.no),(15011,.no),(15031,.no),(20502,.arr 62 Qq),(50000,.box QB)]⟩
abbrev Qyo:Sh:=⟨[(2,.ptr 2 0),(3,.ptr 3 0),(5,.ptr 5 0),(7,.ptr 7 0),(8,.ms 8)],[(2,.box Qo),(3,.box QF),(5,.bag [.ty (.sl QE),.ty (.sl Qk),.ms 20502]),(7,.bag [.ms 31,.ty (.sl Qk)]),(8,.arr 47 JC),(11,.no),(28,.no),(31,.arr 66 QY),(45,.no),(73,.no),(5011,.no),(5031,.no),(10011,.no),(10031,.no),(15011,.no),(15031,.no),(20502,.arr 62 Qq),(50000,.box QB)]⟩
def QfG:Fg:=V8.f
def QfH:Fg:=V9.f
def QfI:TC:=aF Tryz.f10 [(122,.nf 5 2 62 20502),(122,pL 0 QfG),(1955,.fg ⟨[(0,none),(2,none),(3,none),(5,none)],[(2,some Qo),(3,some QF),(5,some Qo),(11,none),(28,none),(31,none),(45,none),(5011,none),(5031,none),(10011,none),(10031,none),(15011,none),(15031,none),(20502,none),(50000,some QB)]⟩),(1956,pD [(0,[5,11,28,5011,10011,15011,20502]),(1,[5,11,28,5011,10011,15011,20502]),(2,[50000]),(3,[50000]),(4,[]),(5,[25,5025,10025,15025,50000]),(6,[26,5026,10026,15026,50000]),(7,[]),(8,[2,5,11,28,5011,5028,10011,10028,15011,15028,20502]),(9,[5,11,28,5011,10011,15011,20502]),(10,[2,5,11,28,5011,10011,15011,20502])] (.of [0,1,2,3,4,5,6,7,8,9,10])),(506,pD [(0,[7,31,45,5031,10031,15031]),(1,[7,31,45,5031,10031,15031]),(2,[50000]),(3,[]),(4,[39,5039,10039,15039,50000]),(5,[50000]),(6,[]),(7,[42,5042,10042,15042,50000]),(8,[]),(9,[]),(10,[3,7,31,45,5031,5045,10031,10045,15031,15045]),(11,[7,31,45,5031,10031,15031]),(12,[3,7,31,45,5031,10031,15031])] (.of [0,1,2,3,5,6,4,7,8,9,10,11,12])),(2042,.fz [11,5011,5031]),(2042,.nw 8 47),(2042,pL 1 QfH),(32675,.fg ⟨[(2,none),(3,none),(5,none),(7,none),(8,none)],[(2,some Qo),(3,some QF),(5,some Qo),(7,some QF),(8,none),(11,none),(28,none),(31,none),(45,none),(73,none),(5011,none),(5031,none),(10011,none),(10031,none),(15011,none),(15031,none),(20502,none),(50000,some QB)]⟩),(32676,pD [(0,[8,73]),(1,[50000]),(2,[5,11,28,5011,10011,15011,20502]),(3,[5,11,28,5011,10011,15011,20502]),(4,[11,28,5011,10011,15011,20502]),(5,[58,5058,10058,15058,50000]),(6,[]),(7,[]),(8,[]),(9,[]),(10,[]),(11,[50000]),(12,[65,5065,10065,15065,50000]),(13,[]),(14,[]),(15,[50000]),(16,[69,5069,10069,15069,50000]),(17,[]),(18,[]),(19,[]),(20,[8,73,5073,10073,15073]),(21,[8,73])] (.of [0,1,2,3,4,6,7,8,9,10,11,15,5,12,13,14,16,17,18,19,20,21])),(1022,pD [(0,[5,11,28,5011,10011,15011,20502]),(1,[7,31,45,5031,10031,15031]),(2,[8,73]),(3,[2,5,11,28,5011,10011,15011,20502]),(4,[3,7,31,45,5031,10031,15031]),(5,[8,73])] (.of [0,1,2,3,4,5]))]
def Qni:TC:=lb 0 QfI
def Qnj:TC:=lb 1 QfI
def Qnk (x6:Int)(y2:Estate)(y3:Policy)(y5_1:List Keep)(y11:List Endpoint)(J9 QL:List Item)(Qa:Dice):VS:=V8.st ((),(),(),(),x6,()) (y2,y3,((),y5_1,(),()),y11,(),(),(),J9,(),(),(),(),(),QL,Qa,())
def QfJ (y2:Estate)(y3:Policy)(y5_1:List Keep)(y11:List Endpoint)(J9 QL:List Item)(Qa:Dice):VS:=Qyn.st ((),(),(),(),()) (y2,y3,((),y5_1,(),()),y11,(),(),(),J9,(),(),(),(),(),QL,Qa,())
def Qnl (x9:Int)(y2:Estate)(y3:Policy)(y5_0:List Endpoint)(y5_1 y7_1:List Keep)(y8:List Job)(y31:List Rule)(QL:List Item)(Qa:Dice):VS:=V9.st ((),(),(),(),(),(),x9,()) (y2,y3,(y5_0,y5_1,(),()),((),y7_1,()),y8,(),(),y31,(),(),(),(),(),(),(),(),QL,Qa,())
def QfK (y2:Estate)(y3:Policy)(y5_0:List Endpoint)(y5_1 y7_1:List Keep)(y8:List Job)(y31:List Rule)(QL:List Item)(Qa:Dice):VS:=Qyo.st ((),(),(),(),(),()) (y2,y3,(y5_0,y5_1,(),()),((),y7_1,()),y8,(),(),y31,(),(),(),(),(),(),(),(),QL,Qa,())
def Qyp:VS->Option (Bool×List (Bool×Exit×VS)):=mkL V8 (fun x y=>(dOk y.2.2.2.2.2.2.2.2.2.2.2.2.2.2.1&&decide (0<=x.2.2.2.2.1/\x.2.2.2.2.1<=3/\y.2.2.2.2.2.2.2.2.2.2.2.2.2.1.length+x.2.2.2.2.1.toNat<=100))) (fun x y=>[(true,.exit 0,QfJ (y.1) (y.2.1) (y.2.2.1.2.1) (y.2.2.2.1) (y.2.2.2.2.2.2.2.1) (y.2.2.2.2.2.2.2.2.2.2.2.2.2.1++(itZ x.2.2.2.2.1.toNat y.2.2.2.2.2.2.2.2.2.2.2.2.2.2.1).1) ((itZ x.2.2.2.2.1.toNat y.2.2.2.2.2.2.2.2.2.2.2.2.2.2.1).2))])
def Qyq:VS->Option (Bool×List (Bool×Exit×VS)):=mkL V9 (fun x y=>(dOk y.2.2.2.2.2.2.2.2.2.2.2.2.2.2.2.2.2.1&&decide (1<=y.2.2.2.2.2.2.2.2.2.2.2.2.2.2.2.2.1.length/\y.2.2.2.2.2.2.2.2.2.2.2.2.2.2.2.2.1.length<=100/\0<=x.2.2.2.2.2.2.1/\x.2.2.2.2.2.2.1<=3/\y.2.2.2.2.1.length+x.2.2.2.2.2.2.1.toNat<=100))) (fun x y=>[(true,.exit 2,QfK (y.1) (y.2.1) (y.2.2.1.1) (y.2.2.1.2.1) (y.2.2.2.1.2.1) (y.2.2.2.2.1++(jbZ (Qd y.2.2.2.2.2.2.2.2.2.2.2.2.2.2.2.2.1) x.2.2.2.2.2.2.1.toNat y.2.2.2.2.2.2.2.2.2.2.2.2.2.2.2.2.2.1).1) (y.2.2.2.2.2.2.2.1) (y.2.2.2.2.2.2.2.2.2.2.2.2.2.2.2.2.1) ((jbZ (Qd y.2.2.2.2.2.2.2.2.2.2.2.2.2.2.2.2.1) x.2.2.2.2.2.2.1.toNat y.2.2.2.2.2.2.2.2.2.2.2.2.2.2.2.2.2.1).2))])
def Im:G:=gG 77 [(31,QnG),(32,Ut),(47,Qbi),(48,VP),(49,Qc0),(50,ET)] (Ls [Qyp,Qyq])
def Qaa (x6:Int)(y2:Estate)(y3:Policy)(y5_1:List Keep)(y11:List Endpoint)(J9 QL:List Item)(Qa:Dice):OX:=Qx (Qz Im QfG Qni) (Qnk x6 y2 y3 y5_1 y11 J9 QL Qa)
def Io (kk:Int->Estate->Policy->List Keep->List Endpoint->List Item->List Item->Dice->OX)(x6:Int)(y2:Estate)(y3:Policy)(y5_1:List Keep)(y11:List Endpoint)(J9 QL:List Item)(Qa:Dice):OX:=
 let a2:=(ByteArray.mk #[98,97,99,107,117,112])
 let a3:=(ByteArray.mk #[100,101,101,100])
 let a5:=(Yr Qa ([a2,a3]))
 let a6:=(J7 Qa ([a2,a3]))
 let a1:=Xm a5 a6
 let a4:=((a1.2).1,(((a1.2).2).1,((((a1.2).2).2).1,(((((a1.2).2).2).2).1,()))))
 br (igt x6 0) (br (YO Qa ([a2,a3])) (br (WA a5 a6) (br (Qw QL ([(a1.1,a4)]) 64) (kk (QD .i64 x6 1) y2 y3 y5_1 y11 J9 (QL++([(a1.1,a4)])) (XS a5 a6)) none) none) none) (some (.exit 0,QfJ y2 y3 y5_1 y11 J9 QL Qa))
def Qab (x6:Int)(y2:Estate)(y3:Policy)(y5_1:List Keep)(y11:List Endpoint)(J9 QL:List Item)(Qa:Dice):OX:=some (.exit 0,QfJ (y2) (y3) (y5_1) (y11) (J9) (QL++(itZ x6.toNat Qa).1) ((itZ x6.toNat Qa).2))
theorem Qnm (x6:Int)(y2:Estate)(y3:Policy)(y5_1:List Keep)(y11:List Endpoint)(J9 QL:List Item)(Qa:Dice):Qaa x6 y2 y3 y5_1 y11 J9 QL Qa=Io Qaa x6 y2 y3 y5_1 y11 J9 QL Qa:=lnT (x:=Io (fun x6 y2 y3 y5_1 y11 J9 QL Qa=>some (.normal,Qnk x6 y2 y3 y5_1 y11 J9 QL Qa)) x6 y2 y3 y5_1 y11 J9 QL Qa) (by simp only [Io,nxA];rfl)
def Qac (x9:Int)(y2:Estate)(y3:Policy)(y5_0:List Endpoint)(y5_1 y7_1:List Keep)(y8:List Job)(y31:List Rule)(QL:List Item)(Qa:Dice):OX:=Qx (Qz Im QfH Qnj) (Qnl x9 y2 y3 y5_0 y5_1 y7_1 y8 y31 QL Qa)
def Ip (kk:Int->Estate->Policy->List Endpoint->List Keep->List Keep->List Job->List Rule->List Item->Dice->OX)(x9:Int)(y2:Estate)(y3:Policy)(y5_0:List Endpoint)(y5_1 y7_1:List Keep)(y8:List Job)(y31:List Rule)(QL:List Item)(Qa:Dice):OX:=
 let a2:=Qe Qa (Qd QL)
 let a1:=(lgt Qk ([(3,(0,())),(4,(0,())),(2,(0,())),(17,(256,()))]) (Int.toNat (Qj a2 4)))
 let a3:=((Qj Qa (Qd QL)),(((a1.1,((a1.2).1,())),((Qj (Qe a2 4) 250),())),()))
 br (igt x9 0) (br (QC Qa (Qd QL)) (br (QC a2 4) (br (cIx ([(3,(0,())),(4,(0,())),(2,(0,())),(17,(256,()))]) (Qj a2 4)) (br (QC (Qe a2 4) 250) (br (Qw y8 ([a3]) 32) (kk (QD .i64 x9 1) y2 y3 y5_0 y5_1 y7_1 (y8++([a3])) y31 QL (Qe (Qe a2 4) 250)) none) none) none) none) none) (some (.exit 2,QfK y2 y3 y5_0 y5_1 y7_1 y8 y31 QL Qa))
def Qad (x9:Int)(y2:Estate)(y3:Policy)(y5_0:List Endpoint)(y5_1 y7_1:List Keep)(y8:List Job)(y31:List Rule)(QL:List Item)(Qa:Dice):OX:=
 let a1:=jbZ (Qd QL) x9.toNat Qa
 some (.exit 2,QfK (y2) (y3) (y5_0) (y5_1) (y7_1) (y8++a1.1) (y31) (QL) (a1.2))
theorem Qnn (x9:Int)(y2:Estate)(y3:Policy)(y5_0:List Endpoint)(y5_1 y7_1:List Keep)(y8:List Job)(y31:List Rule)(QL:List Item)(Qa:Dice):Qac x9 y2 y3 y5_0 y5_1 y7_1 y8 y31 QL Qa=Ip Qac x9 y2 y3 y5_0 y5_1 y7_1 y8 y31 QL Qa:=lnT (x:=Ip (fun x9 y2 y3 y5_0 y5_1 y7_1 y8 y31 QL Qa=>some (.normal,Qnl x9 y2 y3 y5_0 y5_1 y7_1 y8 y31 QL Qa)) x9 y2 y3 y5_0 y5_1 y7_1 y8 y31 QL Qa) (by simp only [Ip,nxA];rfl)
def r_f10 (d0:Dice):OV:=
 let a5:=Qi .i64 1 (Qj (Zj d0) 3)
 let a1:=itZ a5.toNat (Qe (Zj d0) 3)
 let a3:=Qe (GR (a1.2)) 2
 let a2:=(Qs (Qs a3 ([2,1,5])) ([30,60,200]))
 let a4:=(Qd (([]:List Item)++a1.1))
 let a6:=(dof (Qs a3 ([2,1,5])) ([30,60,200]))
 let a7:=jbZ a4 (Qj a2 4).toNat (Qe a2 4)
 let a8:=jbZ a4 (Qj a3 4).toNat (Qe a3 4)
 let a9:=((ZP (a1.2)).1)
 br (dOk d0) (br (QC (Zj d0) 3) (br (dOk (Qe (Zj d0) 3)&&decide (0<=a5/\a5<=3/\([]:List Item).length+a5.toNat<=100)) (br (dOk (a1.2)) (br (QC (GR (a1.2)) 2) (br (ieq (Qj (GR (a1.2)) 2) 0) (br (Q0 a3 ([2,1,5])) (br (Q0 (Qs a3 ([2,1,5])) ([30,60,200])) (br (Qw a9 ([(false,((dof a3 ([2,1,5])),(0,(0,(a6,(40001,()))))))]) 48) (br (QC a2 4) (br (dOk (Qe a2 4)&&decide (1<=(([]:List Item)++a1.1).length/\(([]:List Item)++a1.1).length<=100/\0<=(Qj a2 4)/\(Qj a2 4)<=3/\([]:List Job).length+(Qj a2 4).toNat<=100)) (some (.tu [(.ag [(.t (.sl QE) ((Jh d0).1)),(.t (.sl Qk) (((Jh d0).2).1)),(.ms 50001)]),(.ag [(.ms 50002),(.t (.sl Qk) (((ZP (a1.2)).2).1))]),(.ms 50003)],[.box (.t QB (a7.2)),.arr 62 Qq (([]:List Item)++a1.1),.arr 66 QY (a9++([(false,((dof a3 ([2,1,5])),(0,(0,(a6,(40001,()))))))])),.arr 47 JC (([]:List Job)++a7.1)])) none) none) none) none) none) (br (QC a3 4) (br (dOk (Qe a3 4)&&decide (1<=(([]:List Item)++a1.1).length/\(([]:List Item)++a1.1).length<=100/\0<=(Qj a3 4)/\(Qj a3 4)<=3/\([]:List Job).length+(Qj a3 4).toNat<=100)) (some (.tu [(.ag [(.t (.sl QE) ((Jh d0).1)),(.t (.sl Qk) (((Jh d0).2).1)),(.ms 50001)]),(.ag [(.ms 50002),(.t (.sl Qk) (((ZP (a1.2)).2).1))]),(.ms 50003)],[.box (.t QB (a8.2)),.arr 62 Qq (([]:List Item)++a1.1),.arr 66 QY a9,.arr 47 JC (([]:List Job)++a8.1)])) none) none)) none) none) none) none) none
theorem Qyr (x6:Int)(y2:Estate)(y3:Policy)(y5_1:List Keep)(y11:List Endpoint)(J9 QL:List Item)(Qa:Dice)(h:(dOk Qa&&decide (0<=x6/\x6<=3/\QL.length+x6.toNat<=100))=true):Qaa x6 y2 y3 y5_1 y11 J9 QL Qa=Qab x6 y2 y3 y5_1 y11 J9 QL Qa:=by
 simp only [Bc,Ba] at h
 obtain ⟨hd,h0,h1,hl⟩:=h
 obtain ⟨n,rfl⟩:=Br h0
 rw [Bd] at hl
 have key: ∀ (n:Nat) (QL:List Item) (Qa:Dice),dOk Qa=true->QL.length+n<=100->Qaa (n:Int) y2 y3 y5_1 y11 J9 QL Qa=Qab (n:Int) y2 y3 y5_1 y11 J9 QL Qa:=by
  intro n
  induction n with
  |zero=>
   intro QL Qa _ _
   rw [Qnm]
   simp only [Io,Qab,show igt ((0:Nat):Int) 0=false from rfl,Ql,Bd,itZ,BP]
  |succ n ih=>
   intro QL Qa hd hl
   rw [Qnm]
   have e2:QD .i64 ((n+1:Nat):Int) 1=(n:Int):=(Ze (by omega)).trans (by omega)
   have c1:YO Qa sIt=true:=by simp [YO,hd]
   have c2:WA (Yr Qa sIt) (J7 Qa sIt)=true:=GI hd
   have c3: ∀ v,Qw QL [v] 64=true:=fun v=>Jr (by omega) (by simp only [Bl];omega)
   simp only [Io,show igt ((n+1:Nat):Int) 0=true from Be (by omega),Qg,e2,c1,c2,c3]
   refine Eq.trans (ih _ _ (VM (s:=J7 Qa sIt) (GI hd)) (by simp only [Bm,Bl];omega)) ?_
   simp only [Qab,Bd,itZ,BN,BM]
 exact key n QL Qa hd (by omega)
theorem Qys (x9:Int)(y2:Estate)(y3:Policy)(y5_0:List Endpoint)(y5_1 y7_1:List Keep)(y8:List Job)(y31:List Rule)(QL:List Item)(Qa:Dice)(h:(dOk Qa&&decide (1<=QL.length/\QL.length<=100/\0<=x9/\x9<=3/\y8.length+x9.toNat<=100))=true):Qac x9 y2 y3 y5_0 y5_1 y7_1 y8 y31 QL Qa=Qad x9 y2 y3 y5_0 y5_1 y7_1 y8 y31 QL Qa:=by
 simp only [Bc,Ba] at h
 obtain ⟨hd,i1,i2,h0,h1,hl⟩:=h
 obtain ⟨n,rfl⟩:=Br h0
 rw [Bd] at hl
 have key: ∀ (n:Nat) (y8:List Job) (Qa:Dice),dOk Qa=true->y8.length+n<=100->Qac (n:Int) y2 y3 y5_0 y5_1 y7_1 y8 y31 QL Qa=Qad (n:Int) y2 y3 y5_0 y5_1 y7_1 y8 y31 QL Qa:=by
  intro n
  induction n with
  |zero=>
   intro y8 Qa _ _
   rw [Qnn]
   simp only [Ip,Qad,show igt ((0:Nat):Int) 0=false from rfl,Ql,Bd,jbZ,BP]
  |succ n ih=>
   intro y8 Qa hd hl
   rw [Qnn]
   have e2:QD .i64 ((n+1:Nat):Int) 1=(n:Int):=(Ze (by omega)).trans (by omega)
   have k2:=QS (n:=Qd QL) hd
   have c1:QC Qa (Qd QL)=true:=ZX hd (by simp only [Qd];omega)
   have c2:QC (Qe Qa (Qd QL)) 4=true:=ZX k2 (by omega)
   have hv:=Jm (d:=Qe Qa (Qd QL)) (n:=4) (by omega)
   have c3:cIx V6 (Qj (Qe Qa (Qd QL)) 4)=true:=by
    have:V6.length=4:=rfl
    simp only [cIx,Ba]
    omega
   have k3:=QS (n:=4) k2
   have c4:QC (Qe (Qe Qa (Qd QL)) 4) 250=true:=ZX k3 (by omega)
   have c5: ∀ v,Qw y8 [v] 32=true:=fun v=>Jr (by omega) (by simp only [Bl];omega)
   simp only [Ip,show igt ((n+1:Nat):Int) 0=true from Be (by omega),Qg,e2,c1,c2,c4,c5]
   refine brY c3 ?_
   refine Eq.trans (ih _ _ (QS k3) (by simp only [Bm,Bl];omega)) ?_
   simp only [Qad,Bd,jbZ,BN,BM]
   rfl
 exact key n y8 Qa hd (by omega)
theorem Qyt:LO Im QfG Qni 0:=QI (s:=V8) fun x y h _ q=>by simp only [QG,QH] at q;exact (Qyr x.2.2.2.2.1 y.1 y.2.1 y.2.2.1.2.1 y.2.2.2.1 y.2.2.2.2.2.2.2.1 y.2.2.2.2.2.2.2.2.2.2.2.2.2.1 y.2.2.2.2.2.2.2.2.2.2.2.2.2.2.1 h).trans q
theorem Qyu:LO Im QfH Qnj 1:=QI (s:=V9) fun x y h _ q=>by simp only [QG,QH] at q;exact (Qys x.2.2.2.2.2.2.1 y.1 y.2.1 y.2.2.1.1 y.2.2.1.2.1 y.2.2.2.1.2.1 y.2.2.2.2.1 y.2.2.2.2.2.2.2.1 y.2.2.2.2.2.2.2.2.2.2.2.2.2.2.2.2.1 y.2.2.2.2.2.2.2.2.2.2.2.2.2.2.2.2.2.1 h).trans q
theorem QfL: ∀ (n:Nat) (d:Dice),dOk d=true->dOk (itZ n d).2=true
 |0,_,h=>h
 |n+1,d,h=>QfL n _ (VM (s:=J7 d sIt) (GI h))
theorem Qyv {d:Dice}(hd:dOk d=true):dOk (Zj d)=true:=QfL _ _ (QS (Qbf (Q7 d).length (Q7 d).length 0 [] _ (Qbe (Q7 d) 0 (Qe d 2) (QS (n:=2) hd)) (BZ _)).1)
theorem Qno (d:Dice):1<=(Qi .i64 1 (Qj (Zj d) 3)).toNat/\(Qi .i64 1 (Qj (Zj d) 3)).toNat<=3/\0<=Qi .i64 1 (Qj (Zj d) 3)/\Qi .i64 1 (Qj (Zj d) 3)<=3:=by
 have hv:=Jm (d:=Zj d) (n:=3) (by omega)
 rw [JL (by omega)]
 omega
theorem Qnp (d:Dice):(Z0 d).1.length=(Qi .i64 1 (Qj (Zj d) 3)).toNat:=(QeA _ _).2.2
theorem Qnq (d:Dice):(ZP d).1.length<=6/\(ZP d).2.1.length<=2:=by
 have h1:=Jm (d:=d) (n:=7) (by omega)
 have h2:=Jm (d:=(Ok d).2) (n:=3) (by omega)
 constructor
 ·rw [show (ZP d).1.length=(Qj d 7).toNat from (Qrs _ _).1];omega
 ·rw [show (ZP d).2.1.length=(Qj (Ok d).2 3).toNat from (Qrt _ _).1];omega
theorem s_f10 (d:Dice)(h:dOk d=true):r_f10 d=some (.tu [.ag [.t (.sl QE) (jE d).1,.t (.sl Qk) (jE d).2.1,.ms 50001],.ag [.ms 50002,.t (.sl Qk) (jP d).2.1],.ms 50003],[.box (.t QB (V7 d)),.arr 62 Qq (jE d).2.2.1,.arr 66 QY (jP d).1,.arr 47 JC (jL d).1]):=by
 have k1:=Qyv h
 have c1:QC (Zj d) 3=true:=ZX k1 (by omega)
 have k2:dOk (jD1 d)=true:=QS k1
 have k3:dOk (Z0 d).2=true:=QfL _ _ k2
 have hn:=Qno d
 have hm:=Qnp d
 have hp:=Qnq (Z0 d).2
 have k4:dOk (jD2 d)=true:=QCp k3
 have k5:=QS (n:=2) k4
 have k6:=Y4 (l:=[2,1,5]) k5
 have k7:dOk (jD3 d)=true:=Y4 (l:=[30,60,200]) k6
 have hv: ∀ x,0<=Qj x 4/\Qj x 4<4:=fun x=>Jm (d:=x) (n:=4) (by omega)
 have cl: ∀ x,dOk x=true->(dOk (Qe x 4)&&decide (1<=(Z0 d).1.length/\(Z0 d).1.length<=100/\0<=Qj x 4/\Qj x 4<=3/\([]:List Job).length+(Qj x 4).toNat<=100))=true:=fun x hx=>by
  have:=hv x
  rw [QS hx,Be (by simp only [BD];omega)]
  rfl
 simp only [r_f10,BT]
 refine brY h (brY c1 (brY ?_ (brY k3 (brY (ZX k4 (by omega)) ?_))))
 ·refine Bh.2 ⟨k2,Be ⟨hn.2.2.1,hn.2.2.2, ?_⟩⟩
  simp only [BD]
  omega
 ·show br (jB d) _ _=_
  cases hb:jB d with
  |true=>
   rw [Qg]
   refine brY (Qd1 k5 (by decide) (by decide)) (brY (Qd1 k6 (by decide) (by decide)) (brY ?_ (brY (ZX k7 (by omega)) (brY (cl _ k7) ?_))))
   ·exact Jr (by omega) (by simp only [Bl];show (ZP (Z0 d).2).1.length+1<=_;omega)
   ·unfold V7 jP jL jD4
    rw [hb]
    rfl
  |false=>
   rw [Ql]
   refine brY (ZX k5 (by omega)) (brY (cl _ k5) ?_)
   unfold V7 jP jL jD4
   rw [hb]
   rfl
def Qnr:Ent:=YY [.ptr 50000 0] [.box QB] (fun x y=>(dOk y.1)) (fun x y=>(.tu [(.ag [(.t (.sl QE) (((Uy y.1).1).1)),(.t (.sl Qk) ((((Uy y.1).1).2).1)),(.ms 50001)]),(.ag [(.ms 50002),(.t (.sl Qk) (((((Uy y.1).2).1).2).1))]),(.ms 50003)])) (fun x y=>[.box (.t QB (V7 y.1)),.arr 62 Qq (((((Uy y.1).1).2).2).1),.arr 66 QY ((((Uy y.1).2).1).1),.arr 47 JC (((Uy y.1).2).2)])
theorem ms_f10:EM 10 Qnr:=mS (lk:=lkL (lkc Qyt (lkc Qyu lkn))) Im QfI [((.c 2 true 3),none),((.c 3 true 2),none),((.t 4),none)] true (gB (gD ms_f31 (gD Gj (gC Qqb Qqc (gD Qff (gD Qjr (gD Ve gN))))))) fun m=>Xs m fun x y hok=>kT (s_f10 y.1 hok)
theorem QfM (d:Dice):Zs (jE d)=true:=by
 have h:=(snd_ok d).2
 have hi:=QeA (Qi .i64 1 (Qj (Zj d) 3)).toNat (jD1 d)
 have hn:=Qno d
 simp only [ZH,Bc] at h
 refine Bh.2 ⟨?_,Qym _ _⟩
 unfold ZH
 refine Bh.2 ⟨h.1,Bh.2 ⟨h.2.1, ?_⟩⟩
 refine Bh.2 ⟨Be ?_,hi.2.1⟩
 show (Z0 d).1.length<=100000
 rw [Qnp]
 omega
theorem jP_len (d:Dice):JG (jP d)=true:=by
 have hp:=Qnq (Z0 d).2
 unfold JG Q2 jP
 refine Bh.2 ⟨Be ?_,Be ?_⟩
 ·cases jB d with
  |true=>simp only [Db,Bm,Bl];omega
  |false=>simp only [B3];omega
 ·show (ZP (Z0 d).2).2.1.length<=100000
  omega
theorem Qyw (d:Dice)(l:List Job):FV (jE d) (jP d) l=true:=Bh.2 ⟨QfM d,jP_len d⟩
end
end Go.Proofs.YthlcobdnemhcdaaGreat.K.SO
noncomputable section
namespace Go.Proofs.YthlcobdnemhcdaaGreat.K.SO
open Go.RowKit
noncomputable section
theorem Qti {e:Estate}{y:Policy}{j:Job}(hc:Zs e=true)(h0:apE e y j=0)(hl:Zb e y=true):Zs (apF e y j).1=true:=by
 have h1:=Qa5 hl h0
 obtain ⟨g1,g2,g3,g4,g5,g6⟩:=ap_ok h0
 refine Bh.2 ⟨(Bh.1 h1).1, ?_⟩
 rw [g6]
 have ho:=(Qsj g1).1
 have hk:j.1.toNat<(Ji e).length:=by omega
 refine Bg.2 fun z hz=> ?_
 have hz:z∈(Ji e).set j.1.toNat (Eg (Zk e j.1.toNat) j.2.1.1 j.2.1.2.1):=hz
 rcases List.mem_or_eq_of_mem_set hz with hz|rfl
 ·exact Bg.1 (Bh.1 hc).2 z hz
 ·have hi:=Zh.1 (Qsk ho (QDc hk))
  have h8:=hi.2.2.2.1.2
  refine Be ?_
  simp only [Eg,Bm,Bl]
  omega
theorem Qtj {y:Policy}: ∀ {l:List Job} {e:Estate} {n:Int},Zs e=true->Zb e y=true->Zs (JU y l e n).1=true
 | [],e,n,h,_=>h
 |j::l,e,n,h,hl=>by
  unfold JU
  cases hq:ieq (apE e y j) 0 with
  |true=>
   have h0:apE e y j=0:=eq_of_beq hq
   rw [Db]
   exact Qtj (Qti h h0 hl) (Qa5 hl h0)
  |false=>exact h
theorem Qtk (n:Int): ∀ (k:Nat) (d:Dice),(jbZ n k d).1.length=k
 |0,_=>rfl
 |k+1,d=>by
  have:=Qtk n k (jbN n d)
  simp only [jbZ,Bp,this]
theorem jL_len (d:Dice):(jL d).1.length<=3:=by
 have hv:=Jm (d:=jD4 d) (n:=4) (by omega)
 have:(jL d).1.length=(Qj (jD4 d) 4).toNat:=Qtk _ _ _
 omega
theorem allJ_Z {e:Estate}{y:Policy}{l:List Job}(h:l.length<=60):JD e y l=JU y l e 0:=by
 unfold JD
 rw [show igt (Qd l) 60=false from Bt (by simp only [Qd];omega)]
 rfl
def QcO (l:List Job)(k n f:Int)(p:Policy)(x y:Estate):Bool:=ZC (JU p (l.drop k.toNat) y k) (x,n,f)&&(Zb y p&&Zs y)
def ordL (_:List Int):Bool:=true
abbrev QcP:Sh:=⟨[(4,.ptr 4 0),(5,.ty (.sl JC)),(6,.ptr 6 0),(7,.ty tI),(8,.ty tI),(9,.ptr 9 0),(34,.ty (.sl JC)),(35,.ty tI),(36,.ty tI)],[(4,.box QF),(6,.box Qo),(9,.box Qo),(21,.no),(5021,.no),(10021,.no),(15021,.no)]⟩
abbrev Qtl:Sh:=⟨[(2,.ty .bool)],[]⟩
abbrev QEU:Sh:=⟨[(5,.ty (.sl JC)),(6,.ptr 6 0),(7,.ty tI),(8,.ty tI),(9,.ptr 9 0)],[(6,.box Qo),(9,.box Qo),(21,.no),(5021,.no),(10021,.no),(15021,.no)]⟩
def Qjd:Fg:=QcP.f
def QcQ:TC:=aF Tryz.f3 [(506,pL 0 Qjd),(8101,.fg ⟨[(5,none),(6,none),(7,some tI),(8,some tI),(9,none)],[(6,some Qo),(9,some Qo),(21,none),(5021,none),(10021,none),(15021,none)]⟩),(1037109,.fg Qtl.f)]
def Qtm:TC:=lb 0 QcQ
def rv_f3:List (RV×Option Ty):=[((.t 2),some .bool)]
def Qtn (x5:List Job)(x7 x8:Int)(x34:List Job)(x35 x36:Int)(y4:Policy)(y6 y9:Estate):VS:=QcP.st ((),x5,(),x7,x8,(),x34,x35,x36,()) (y4,y6,y9,(),(),(),(),())
def G1 (x2:Bool):VS:=Qtl.st (x2,()) ()
def Qje (x5:List Job)(x7 x8:Int)(y6 y9:Estate):VS:=QEU.st (x5,(),x7,x8,(),()) (y6,y9,(),(),(),(),())
def L_f3_0:VS->Option (Bool×List (Bool×Exit×VS)):=mkL QcP (fun x y=>(Qy x.2.2.2.2.2.2.1 x.2.2.2.2.2.2.2.1 x.2.2.2.2.2.2.2.2.1&&QcO x.2.2.2.2.2.2.1 x.2.2.2.2.2.2.2.2.1 x.2.2.2.1 x.2.2.2.2.1 y.1 y.2.1 y.2.2.1)) (fun x y=>[((ine x.2.2.2.2.1 0),.ret,G1 (true)),(true,.exit 0,Qje (x.2.1) (x.2.2.2.1) (x.2.2.2.2.1) (y.2.1) (y.2.1))])
def Ex:G:=gG 92 [(8,sp_f8),(9,QfQ),(10,Qnr),(11,Qvz),(12,QfN),(13,IU),(14,Qwj),(15,Qhd)] (Ls [L_f3_0])
def QcR (x5:List Job)(x7 x8:Int)(x34:List Job)(x35 x36:Int)(y4:Policy)(y6 y9:Estate):OX:=Qx (Qz Ex Qjd Qtm) (Qtn x5 x7 x8 x34 x35 x36 y4 y6 y9)
def OH (kk:List Job->Int->Int->List Job->Int->Int->Policy->Estate->Estate->OX)(x5:List Job)(x7 x8:Int)(x34:List Job)(x35 x36:Int)(y4:Policy)(y6 y9:Estate):OX:=
 let a1:=lgt JC x34 (Int.toNat x36)
 let a2:=apF y9 y4 a1
 br (ilt x36 x35) (br (cIx x34 x36) (br (GF y9 y4 a1) (br (ine (a2.2) 0) (br (ieq x7 x36) (br (ieq x8 (a2.2)) (br (EY y6 y9) (br (Qek y6 y9) (br (GF y9 y4 a1) (br (ieq (apE y9 y4 a1) (a2.2)) (some (.ret,G1 Qae)) (some (.ret,G1 false))) none) (some (.ret,G1 false))) none) (some (.ret,G1 false))) (some (.ret,G1 false))) (kk x5 x7 x8 x34 x35 (Qi .i64 x36 1) y4 y6 (a2.1))) none) none) (some (.exit 0,Qje x5 x7 x8 y6 y9))
def QcS (x5:List Job)(x7 x8:Int)(x34:List Job)(x35 x36:Int)(y4:Policy)(y6 y9:Estate):OX:=br (ine x8 0) (some (.ret,G1 (true)))<|some (.exit 0,Qje (x5) (x7) (x8) (y6) (y6))
theorem Qto (x5:List Job)(x7 x8:Int)(x34:List Job)(x35 x36:Int)(y4:Policy)(y6 y9:Estate):QcR x5 x7 x8 x34 x35 x36 y4 y6 y9=OH QcR x5 x7 x8 x34 x35 x36 y4 y6 y9:=lnT (x:=OH (fun x5 x7 x8 x34 x35 x36 y4 y6 y9=>some (.normal,Qtn x5 x7 x8 x34 x35 x36 y4 y6 y9)) x5 x7 x8 x34 x35 x36 y4 y6 y9) (by simp only [OH,nxA];rfl)
def Qjf (p0:List Int):OV:=
 let a2:=Uy (Fh p0)
 let a3:=((a2.1).1,(((a2.1).2).1,((((a2.1).2).2).1,())))
 let a4:=(((a2.2).1).1,((((a2.2).1).2).1,()))
 let a1:=JD a3 a4 ((a2.2).2)
 br (!(Fe p0)) (some (.t .bool Qae,[])) (br (dOk (Fh p0)) (br (FV a3 a4 ((a2.2).2)) (br (Qy ((a2.2).2) (Qd ((a2.2).2)) (0:Int)&&QcO ((a2.2).2) (0:Int) ((a1.2).1) ((a1.2).2) a4 (a1.1) a3) (br (ine ((a1.2).2) 0) (some (.t .bool (true),[])) (br (ieq ((a1.2).2) 0) (br (ieq ((a1.2).1) (Qd ((a2.2).2))) (br (EY (a1.1) (a1.1)) (br (Qek (a1.1) (a1.1)) (some (.t .bool Qae,[])) (some (.t .bool false,[]))) none) (some (.t .bool false,[]))) (some (.t .bool false,[])))) none) none) none)
theorem e_f3 (p0:List Int):QK Ex QcQ rv_f3 false [.t (.sl tI) p0] []=Qjf p0:=by kernel_rfl
theorem gk_f3:GOk Tryz.prog Ex:=Jg _ (gA (gD ms_f8 (gC en_f9 ms_f9 (gD ms_f10 (gD ms_f11 (gC en_f12 ms_f12 (gD Qhc (gD ms_f14 (gD Qpq gN)))))))))
theorem l_f3_0 (x5:List Job)(x7 x8:Int)(x34:List Job)(x35 x36:Int)(y4:Policy)(y6 y9:Estate)(h:(Qy x34 x35 x36&&QcO x34 x36 x7 x8 y4 y6 y9)=true):QcR x5 x7 x8 x34 x35 x36 y4 y6 y9=QcS x5 x7 x8 x34 x35 x36 y4 y6 y9:=by
 obtain ⟨h0,hj⟩:=Bh.1 h
 obtain ⟨hz0,hl0⟩:=Bh.1 hj
 obtain ⟨hl,hc⟩:=Bh.1 hl0
 have hz:=YL hz0
 obtain ⟨rfl,h3,k,rfl,hk⟩:=JE h0
 rw [Bd] at hz
 clear h h0 hj hz0 hl0
 revert y9
 refine QX x34 (fun k=> ∀ y9:Estate,Zb y9 y4=true->Zs y9=true->JU y4 (x34.drop k) y9 (k:Int)=(y6,x7,x8)->QcR x5 x7 x8 x34 (x34.length:Int) (k:Int) y4 y6 y9=QcS x5 x7 x8 x34 (x34.length:Int) (k:Int) y4 y6 y9) ?_ ?_ k hk
 ·intro y9 _ _ hz
  rw [B6] at hz
  simp only [JU,Bk] at hz
  obtain ⟨rfl,rfl,rfl⟩:=hz
  rw [Qto]
  simp only [OH,QcS,QA,BS,BV,Ql]
  rfl
 ·intro k hk ih y9 hl hc hz
  rw [Qto]
  have hd:JU y4 (x34.drop k) y9 (k:Int)=bif ieq (apE y9 y4 x34[k]) 0 then JU y4 (x34.drop (k+1)) (apF y9 y4 x34[k]).1 ((k:Int)+1) else (y9,(k:Int),apE y9 y4 x34[k]):=by
   rw [Bj hk]
   rfl
  rw [hd,apE_ne] at hz
  simp only [OH,QA,QM,hk,Bx,Qg,Bd,QW (show k<4611686018427387904 by omega),QP (y:=JC) hk]
  refine brY hl ?_
  cases hq:ine (apF y9 y4 x34[k]).2 0 with
  |true=>
   rw [hq] at hz
   simp only [BI,B3,Bk] at hz
   obtain ⟨rfl,rfl,rfl⟩:=hz
   rw [Qg]
   refine brY (UZ _) (brY (UZ _) (brY (Qwk _ hc) (brY rfl (brY hl (brY (UZ _) ?_)))))
   simp only [QcS]
   rw [show ine (apE y9 y4 x34[k]) 0=true from hq]
   rfl
  |false=>
   rw [hq] at hz
   have h0:apE y9 y4 x34[k]=0:=by simpa [ine,apE] using hq
   rw [Ql]
   have e:((k+1:Nat):Int)=(k:Int)+1:=by omega
   refine (ih _ (Qa5 hl h0) (Qti hc h0 hl) (by rw [e];exact hz)).trans rfl
theorem QEV:LO Ex Qjd Qtm 0:=QI (s:=QcP) fun x y h _ q=>by simp only [QG,QH] at q;exact (l_f3_0 x.2.1 x.2.2.2.1 x.2.2.2.2.1 x.2.2.2.2.2.2.1 x.2.2.2.2.2.2.2.1 x.2.2.2.2.2.2.2.2.1 y.1 y.2.1 y.2.2.1 h).trans q
theorem lk_f3:QcQ.lok Ex:=by
 repeat (first|exact trivial|exact QEV|refine ⟨?_, ?_⟩)
theorem s_f3 (p0:List Int):Qjf p0=some (.t .bool (ordL p0),[]):=by
 unfold Qjf
 refine Q8 (fun _=>rfl) (fun k1=> ?_)
 have k1:Fe p0=true:=by simpa using k1
 have hd:=QHr k1
 generalize Fh p0=d at hd ⊢
 have hl:=jL_len d
 have ha:=Qyw d (jL d).1
 have hj:=QpC ha
 have eZ:=allJ_Z (e:=jE d) (y:=jP d) (l:=(jL d).1) (by omega)
 have hc:=Qtj (l:=(jL d).1) (n:=0) (QfM d) hj
 have hE:=QfM d
 rw [show Uy d=(jE d,jP d,(jL d).1) from rfl]
 generalize jE d=e at ha hj eZ hc hE ⊢
 generalize jP d=y at ha hj eZ hc ⊢
 generalize (jL d).1=l at ha eZ hc hl ⊢
 change br (dOk d) (br (FV e y l) (br (Qy l (Qd l) 0&&QcO l 0 (JD e y l).2.1 (JD e y l).2.2 y (JD e y l).1 e)
  (br (ine (JD e y l).2.2 0) (some (V.t .bool true,[])) (br (ieq (JD e y l).2.2 0) (br (ieq (JD e y l).2.1 (Qd l)) (br (EY (JD e y l).1 (JD e y l).1)
   (br true (some (V.t .bool true,[])) (some (V.t .bool false,[]))) none) (some (V.t .bool false,[]))) (some (V.t .bool false,[])))) none) none) none=_
 rw [eZ]
 refine brY hd (brY ha (brY ?_ ?_))
 ·rw [JF (by omega),By]
  exact Bh.2 ⟨Ym _,Bh.2 ⟨hj,hE⟩⟩
 ·refine Q8 (fun _=>rfl) (fun h=> ?_)
  obtain ⟨g1,g2⟩:=QpD h
  refine brY (by rw [g2];rfl) (brY ?_ (brY (Qwk _ hc) rfl))
  rw [g1]
  simp [ieq,Qd]
def sp_f3:Ent:=Qn (.pr (.sl tI) .nil) (fun x=>true) (fun x=>(.t .bool (ordL x.1)))
theorem ms_f3:Qp Tryz.prog 3 (Qr sp_f3):=Qt (R:=QK Ex QcQ rv_f3 false) (mG Tryz.func3 (by kernel_rfl) Tryz.ntmps3 (by kernel_rfl) gk_f3 lk_f3) fun x _=>(e_f3 x.1).trans (s_f3 x.1)
end
end Go.Proofs.YthlcobdnemhcdaaGreat.K.SO
namespace Go.Proofs.YthlcobdnemhcdaaGreat.K
open Go.RowKit SO
theorem walkJobOrders (z0:(List Int))(W:World)(v0:Value)(c0:C noX W (fun _=> .no) (V.t (.sl tI) z0).d v0)(w0:Ty.wf (.sl tI) z0):
  Calls Tryz.prog 3 #[v0] W fun r w'=>r= .returned (.bool true)/\Below W.heap.size W w':=
 QzI (by decide) ms_f3 (args:=[.t (.sl tI) z0]) (QgT (x:=(z0,())) rfl (rfl)) (by simp only [V.ds,Cs];exact ⟨_,_,rfl,c0,rfl⟩)
end Go.Proofs.YthlcobdnemhcdaaGreat.K
