import Derived.Test.YtmjnnemhoeolgaaGreatQ5
import Derived.Test.YtmjnnemhoeolgaaGreatQ4
import Derived.Test.YtmjnnemhoeolgaaGreatQ3
import Derived.RangeFuncCalls
import Derived.RangeFuncBound
import Derived.Shelf.RegionOpen
import Derived.OwnWalkIn
import Derived.TacticsInMore
import Derived.LoopNIn
import Derived.LoopIn
set_option linter.unusedSimpArgs false
set_option linter.unusedVariables false
noncomputable section
namespace Go.Proofs.YtmjnnemhoeolgaaGreat.K
open Go.RowKit
noncomputable section
def okPos (l:List Int)(t:Talk):Bool:=decide (l.length<=100000)&&Gr (tkE t) (tkO t)
abbrev QyT:Sh:=⟨[(0,.ty (.sl tI)),(1,.bf 135 Oz),(7,.ty tI),(8,.ty tI)],[]⟩
abbrev QyU:Sh:=⟨[(4,.ty tI)],[]⟩
def QyV (x4:Int):VS:=QyU.st (x4,()) ()
abbrev QyW:Sh:=⟨[],[]⟩
def QyX  : VS:=QyW.st () ()
def QyY:VS->Option (Bool×List (Bool×Exit×VS)):=mkL QyT (fun x y=>(QB x.1 x.2.2.1 x.2.2.2.1&&okPos x.1 x.2.1)) (fun x y=>[(((QA (UB x.2.1) (x.1.drop x.2.2.2.1.toNat)).isSome),.ret,QyV (x.2.2.2.1+((QA (UB x.2.1) (x.1.drop x.2.2.2.1.toNat)).getD 0:Nat))),(true,.exit 0,QyX)])
def QyZ:G:=gG 19 [(135,Qhc)] (Ls [QyY])
theorem QGR:GOk Tryz.prog QyZ:=J8 _ (gA (gD Qqs gN))
abbrev zK:Keep:=(0,(0,()))
theorem QfC {e:Endpoint}(h:Jo e=true):Jk e.1=true/\(JC e).length<=100000/\(JO e).length<=100000/\(XZ e).length<=100000/\(WS e).length<=100000/\(JO e).all X6=true:=by
 simp only [Jo,Bc,Ba] at h
 exact ⟨h.1.1,h.1.2.1,h.1.2.2.1,h.1.2.2.2.1,h.1.2.2.2.2,h.2⟩
theorem Qy0 {e:Endpoint}{c:Int}(h:(Zg e c).2=true): ∃ k,(Zg e c).1=((k:Nat):Int)/\k<(JO e).length:=by
 unfold Zg Gq at h ⊢
 cases hi:ine (QL c).2 0 with
 |true=>rw [hi] at h;cases h
 |false=>
  rw [hi] at h
  cases hq:QA (fun x=>Z3 x (QL c).1) (JO e) with
  |none=>rw [hq] at h;cases h
  |some k=>exact ⟨k,rfl,(Qf5 hq).1⟩
theorem eEta (p1:Endpoint):(p1.1,(p1.2.1,(p1.2.2.1,(p1.2.2.2.1,(p1.2.2.2.2.1,(p1.2.2.2.2.2.1,(p1.2.2.2.2.2.2.1,(p1.2.2.2.2.2.2.2.1,(p1.2.2.2.2.2.2.2.2.1,())))))))))=p1:=rfl
-- loop 0: (x2 : Int) (x4 : (List Int)) (x12 : Int) (x13 : (List Int)) (x14 : Int) (y5 : Endpoint) (y6 : Endpoint) (y10 : Keep); out: ('ret',) (x11 : Int) (y10 : Keep); ('exit', 0) (y10 : Keep)
theorem QaA {c:Endpoint}(h:QW c=true):1<=c.2.1/\c.2.1<=c.2.2.1/\c.2.2.1<=4:=by
 simp only [QW,Bc,Br] at h
 obtain ⟨_,h1,h2,h3,_⟩:=h
 have h1:=Dx h1
 have h2:=Dx h2
 have h3:=Dx h3
 omega
def usesL (e:Endpoint)(c:Int):List Keep:=
 [bif ieq (QL c).1.2.2.1.2.1 0 then ((QL c).1.2.2.1.1,((lgt JT (JO e) (Zg e c).1.toNat).1.2.1,())) else (QL c).1.2.2.1,(lgt JT (JO e) (Zg e c).1.toNat).1,(QL c).1.2.2.2.2.1,(QL c).1.2.2.2.2.2.1]
def Jb (e:Endpoint)(o:Keep):List Keep×Int:=
 bif !QW e then ([],19) else bif ine (QL o.2.1).2 0 then ([],(QL o.2.1).2) else bif !(Zg e o.2.1).2 then ([],4) else (usesL e o.2.1,0)
def QfD (e:Endpoint)(_o:Keep):Bool:=Jo e
def outLI (p:List Keep×Int):OV:=some (.tu [.t (.sl Qe) p.1,.t tI p.2],[])
theorem Qy1 {e:Endpoint}{c:Int}(h:(Zg e c).2=true):cIx (JO e) (Zg e c).1=true:=by
 obtain ⟨k,hk,hl⟩:=Qy0 h
 rw [hk,QS]
 exact Be hl
def tc_f96:TC:=aF Tryz.f96 []
def g_f96:G:=gG 57 [(46,Qbv),(124,OB),(136,Qhb)] (fun _ _=>none)
def r_f96 (p0:Endpoint)(p1:Keep):OV:=
 let a1:=((lgt JT p0.2.2.2.2.2.1 (Int.toNat ((Zg p0 p1.2.1).1))).1)
 let a2:=((((QL p1.2.1).1).2).2)
 let a3:=(((((a2.2).2).2).1).1,((((((a2.2).2).2).1).2).1,()))
 let a4:=((((a2.2).2).1).1,(((((a2.2).2).1).2).1,()))
 let a5:=((a1.2).1,())
 br (Jo p0) (br (ine (YQ p0) 0) (some (.tu [(.t (.sl Qe) ([]:List Keep)),(.t tI (YQ p0))],[])) (br (ine ((QL p1.2.1).2) 0) (some (.tu [(.t (.sl Qe) ([]:List Keep)),(.t tI ((QL p1.2.1).2))],[])) (br (F8 p0 p1.2.1) (br (!((Zg p0 p1.2.1).2)) (some (.tu [(.t (.sl Qe) ([]:List Keep)),(.t tI 4)],[])) (br (cIx p0.2.2.2.2.2.1 ((Zg p0 p1.2.1).1)) (br (ieq (((a2.1).2).1) 0) (some (.tu [(.t (.sl Qe) ([((a2.1).1,a5),(a1.1,a5),a4,a3])),(.t tI 0)],[])) (some (.tu [(.t (.sl Qe) ([((a2.1).1,(((a2.1).2).1,())),(a1.1,a5),a4,a3])),(.t tI 0)],[]))) none)) none))) none
theorem s_f96 (e:Endpoint)(o:Keep)(h:QfD e o=true):r_f96 e o=some (.tu [.t (.sl Qe) (Jb e o).1,.t tI (Jb e o).2],[]):=by
 have hr:Jo e=true:=h
 have hid: ∀ x,F8 e x=true:=fun x=>Be (QfC hr).2.2.1
 simp only [r_f96,hr,hid,Qd,QpJ]
 show _=outLI (Jb e o)
 unfold Jb YQ
 cases QW e with
 |false=>rfl
 |true=>
  rw [BM,Qh,Dj]
  cases ine (QL o.2.1).2 0 with
  |true=>rfl
  |false=>
   rw [Qh,Dj]
   cases hi:(Zg e o.2.1).2 with
   |false=>rfl
   |true=>
    rw [BM,Qh,Dj]
    refine Eq.trans (congrArg (fun b=>br b _ _) (Qy1 hi)) ?_
    rw [Qd]
    unfold usesL
    cases ieq (QL o.2.1).1.2.2.1.2.1 0<;>rfl
def QaB:Ent:=Ql (.pr QD (.pr Qe .nil)) (fun x=>(QfD x.1 x.2.1)) (fun x=>(.tu [(.t (.sl Qe) ((Jb x.1 x.2.1).1)),(.t tI ((Jb x.1 x.2.1).2))]))
theorem QnA:EM 96 QaB:=mS g_f96 tc_f96 [((.t 4),some (.sl Qe)),((.t 5),some tI)] false (gB (gD QgO (gD QcO (gD Qqq gN)))) fun m=>Qr m fun x hok=>kT (s_f96 x.1 x.2.1 hok)
end
end Go.Proofs.YtmjnnemhoeolgaaGreat.K
noncomputable section
namespace Go.Proofs.YtmjnnemhoeolgaaGreat.K
open Go.RowKit
noncomputable section
theorem brN {β:Type}{p q:Bool}{X:Option β}:br p (br q X none) none=br (p&&q) X none:=by cases p<;>rfl
def YO (c:Int):Int:=bif ine (QL c).2 0 then 0 else Yy (QL c).1.2.2.2.2.1
def Qzm:TC:=aF Tryz.f162 []
def g_f162:G:=gG 15 [(64,QsY),(65,QjE)] (fun _ _=>none)
def QnO (p0:Int):OV:=br (ine ((QL p0).2) 0) (some (.t tI 0,[])) (some (.t tI (Yy (((((((QL p0).1).2).2).2).2).1)),[]))
theorem s_f162 (c:Int):QnO c=some (.t tI (YO c),[]):=by
 simp only [QnO]
 unfold YO
 cases ine (QL c).2 0<;>rfl
def QnP:Ent:=Ql (.pr tI .nil) (fun x=>true) (fun x=>(.t tI (YO x.1)))
theorem Qzn:EM 162 QnP:=mS g_f162 Qzm [((.t 2),some tI)] false (gB (gD ms_f64 (gD QuF gN))) fun m=>Qr m fun x _=>kT (s_f162 x.1)
def Js (x:Int)(l:List Int):Nat->Nat
 |0=>0
 |k+1=>if ilt (YO (l.getD k 0)) (YO x)=true then Js x l k else k+1
theorem QfP (x:Int)(l:List Int): ∀ k,Js x l k<=k
 |0=>BB _
 |k+1=>by
  unfold Js
  split
  ·exact Nat.le_succ_of_le (QfP x l k)
  ·exact BB _
def Ym (l:List Int)(x:Int):List Int:=(l.take (Js x l l.length)++[x])++l.drop (Js x l l.length)
theorem QnQ (l:List Int)(x:Int):(Ym l x).length=l.length+1:=by
 have:=QfP x l l.length
 simp only [Ym,Bm,B2,Dl,Bp]
 omega
def Uy (l:List Int):List Int:=l.foldl Ym []
def Iw (l:List Int):Bool:=decide (l.length<=1000)
abbrev Ix:Sh:=⟨[(0,.ty (.sl tI)),(3,.ms 3),(4,.ty tI),(5,.ty tI)],[(3,.arr 3 tI),(32,.no),(36,.no),(42,.no),(46,.no)]⟩
abbrev QaP:Sh:=⟨[(0,.ty (.sl tI)),(3,.ms 3),(4,.ty tI)],[(3,.arr 3 tI),(32,.no),(36,.no),(42,.no),(46,.no)]⟩
abbrev QnR:Sh:=⟨[(3,.ms 3)],[(3,.arr 3 tI),(32,.no),(36,.no),(42,.no),(46,.no)]⟩
def QfQ:Fg:=Ix.f
def QfR:Fg:=QaP.f
def QfS:TC:=aF Tryz.f121 [(58,.nw 3 3),(58,pL 1 QfR),(116,.mv [(32,3)]),(931,.fg QnR.f),(7460,pL 0 QfQ),(59680,pD [(0,[]),(1,[]),(2,[]),(3,[3,32,36,42,46]),(4,[]),(5,[]),(6,[3,32,36,42,46]),(7,[3,32,36,42,46]),(8,[]),(9,[]),(10,[]),(11,[]),(12,[]),(13,[]),(14,[]),(15,[])] (.of [0,1,2,3,4,5,6,7,8,9,10,11,12,13,14,15])),(119363,.fg Ix.f),(3731,pD [(0,[32,5032,10032,15032]),(1,[3,32,36,42,46]),(2,[]),(3,[3,32,36,42,46]),(4,[3,32,36,42,46,5036,10036,15036]),(5,[]),(6,[]),(7,[]),(8,[]),(9,[]),(10,[32,36,42,5042,10042,15042]),(11,[3,32,36,42,46]),(12,[]),(13,[3,32,36,42,46]),(14,[3,32,36,42,46,5046,10046,15046]),(15,[32,36,42,46])] (.one 2 (.one 5 (.one 6 (.one 7 (.one 8 (.one 9 (.one 12 (.alt 0 (.one 1 (.one 3 (.alt 4 (.alt 10 (.of [11,13,14,15]) (.one 11 (.alt 10 (.of [13,14,15]) (.of [13,10,14,15])))) (.one 11 (.alt 4 (.alt 10 (.of [13,14,15]) (.of [13,10,14,15])) (.of [13,4,10,14,15])))))) (.alt 1 (.alt 0 (.one 3 (.alt 4 (.alt 10 (.of [11,13,14,15]) (.one 11 (.alt 10 (.of [13,14,15]) (.of [13,10,14,15])))) (.one 11 (.alt 4 (.alt 10 (.of [13,14,15]) (.of [13,10,14,15])) (.of [13,4,10,14,15]))))) (.alt 3 (.alt 0 (.alt 4 (.alt 10 (.of [11,13,14,15]) (.one 11 (.alt 10 (.of [13,14,15]) (.of [13,10,14,15])))) (.one 11 (.alt 4 (.alt 10 (.of [13,14,15]) (.of [13,10,14,15])) (.of [13,4,10,14,15])))) (.one 11 (.alt 0 (.alt 4 (.alt 10 (.of [13,14,15]) (.of [13,10,14,15])) (.of [13,4,10,14,15])) (.of [13,0,4,10,14,15])))) (.one 11 (.alt 0 (.one 3 (.alt 4 (.alt 10 (.of [13,14,15]) (.of [13,10,14,15])) (.of [13,4,10,14,15]))) (.alt 3 (.alt 0 (.alt 4 (.alt 10 (.of [13,14,15]) (.of [13,10,14,15])) (.of [13,4,10,14,15])) (.of [13,0,4,10,14,15])) (.one 13 (.alt 0 (.of [3,4,10,14,15]) (.of [3,0,4,10,14,15])))))))) (.one 11 (.alt 0 (.one 1 (.one 3 (.alt 4 (.alt 10 (.of [13,14,15]) (.of [13,10,14,15])) (.of [13,4,10,14,15])))) (.alt 1 (.alt 0 (.one 3 (.alt 4 (.alt 10 (.of [13,14,15]) (.of [13,10,14,15])) (.of [13,4,10,14,15]))) (.alt 3 (.alt 0 (.alt 4 (.alt 10 (.of [13,14,15]) (.of [13,10,14,15])) (.of [13,4,10,14,15])) (.of [13,0,4,10,14,15])) (.one 13 (.alt 0 (.of [3,4,10,14,15]) (.of [3,0,4,10,14,15]))))) (.one 13 (.alt 0 (.of [1,3,4,10,14,15]) (.one 1 (.alt 0 (.of [3,4,10,14,15]) (.of [3,0,4,10,14,15]))))))))))))))))))]
def QnS:TC:=lb 0 QfS
def QnT:TC:=lb 1 QfS
def FF (x0:List Int)(x4 x5:Int)(y3:List Int):VS:=Ix.st (x0,(),x4,x5,()) (y3,(),(),(),(),())
def QnU (x0:List Int)(x4:Int)(y3:List Int):VS:=QaP.st (x0,(),x4,()) (y3,(),(),(),(),())
def QfT (y3:List Int):VS:=QnR.st ((),()) (y3,(),(),(),(),())
def Qzo:VS->Option (Bool×List (Bool×Exit×VS)):=mkL Ix (fun x y=>(decide (0<=x.2.2.2.1/\x.2.2.2.1<=y.1.length/\y.1.length<=1000)&&cIx x.1 x.2.2.1)) (fun x y=>[(true,.exit 2,FF (x.1) (x.2.2.1) ((Js (lgt tI x.1 x.2.2.1.toNat) y.1 x.2.2.2.1.toNat:Nat):Int) (y.1))])
def Qzp:VS->Option (Bool×List (Bool×Exit×VS)):=mkL QaP (fun x y=>(decide (0<=x.2.2.1/\x.2.2.1<=x.1.length/\x.1.length<=1000/\y.1.length<=x.2.2.1.toNat))) (fun x y=>[(true,.exit 0,QfT ((x.1.drop x.2.2.1.toNat).foldl Ym y.1))])
def Iy:G:=⟨TYs,[32],48,EL [(162,QnP)],YU,(Ls [Qzo,Qzp]),IL [],RL []⟩
def QaQ (x0:List Int)(x4 x5:Int)(y3:List Int):OX:=Qx (Qz Iy QfQ QnS) (FF x0 x4 x5 y3)
def Iz (kk:List Int->Int->Int->List Int->OX)(x0:List Int)(x4 x5:Int)(y3:List Int):OX:=
 let a1:=QT .i64 x5 1
 br (igt x5 0) (br (cIx y3 a1) (br (cLd y3 (Int.toNat a1)) (br (cIx x0 x4) (br (ilt (YO (lgt tI y3 (Int.toNat a1))) (YO (lgt tI x0 (Int.toNat x4)))) (kk x0 x4 a1 y3) (some (.exit 2,FF x0 x4 x5 y3))) none) none) none) (some (.exit 2,FF x0 x4 x5 y3))
def QaR (x0:List Int)(x4 x5:Int)(y3:List Int):OX:=some (.exit 2,FF (x0) (x4) ((Js (lgt tI x0 x4.toNat) y3 x5.toNat:Nat):Int) (y3))
theorem QnV (x0:List Int)(x4 x5:Int)(y3:List Int):QaQ x0 x4 x5 y3=Iz QaQ x0 x4 x5 y3:=lnT (x:=Iz (fun x0 x4 x5 y3=>some (.normal,FF x0 x4 x5 y3)) x0 x4 x5 y3) (by simp only [Iz,nxA];rfl)
def QaS (x0:List Int)(x4:Int)(y3:List Int):OX:=Qx (Qz Iy QfR QnT) (QnU x0 x4 y3)
def FG (kk:List Int->Int->List Int->OX)(x0:List Int)(x4:Int)(y3:List Int):OX:=
 let a1:=((Js (lgt tI x0 x4.toNat) y3 (Qc y3).toNat:Nat):Int)
 let a2:=(wnL tI (y3) (Int.toNat a1) (Int.toNat ((List.length (y3):Nat):Int)-Int.toNat a1))
 let a3:=wnL tI (y3) (Int.toNat 0) (Int.toNat a1-Int.toNat 0)
 let a4:=lgt tI (x0) (Int.toNat (x4))
 br (QC ((([]:List Int)++a3)++([a4])) a2 8) (kk (x0) (Qj .i64 (x4) 1) (((([]:List Int)++a3)++([a4]))++a2)) none
def FH (kk:List Int->Int->List Int->OX)(x0:List Int)(x4:Int)(y3:List Int):OX:=
 let a1:=((Js (lgt tI x0 x4.toNat) y3 (Qc y3).toNat:Nat):Int)
 br (QC (([]:List Int)++(wnL tI (y3) (Int.toNat 0) (Int.toNat a1-Int.toNat 0))) ([(lgt tI (x0) (Int.toNat (x4)))]) 8) (br (cWn (y3) a1 ((List.length (y3):Nat):Int)) (FG kk x0 x4 y3) none) none
def FI (kk:List Int->Int->List Int->OX)(x0:List Int)(x4:Int)(y3:List Int):OX:=br (QC (([]:List Int)++(wnL tI (y3) (Int.toNat 0) (Int.toNat ((Js (lgt tI x0 x4.toNat) y3 (Qc y3).toNat:Nat):Int)-Int.toNat 0))) ([(lgt tI (x0) (Int.toNat (x4)))]) 8) (FG kk x0 x4 y3) none
def FJ (kk:List Int->Int->List Int->OX)(x0:List Int)(x4:Int)(y3:List Int):OX:=frk (FH kk x0 x4 y3) (br (cWn (y3) ((Js (lgt tI x0 x4.toNat) y3 (Qc y3).toNat:Nat):Int) ((List.length (y3):Nat):Int)) (FI kk x0 x4 y3) none)
def FK (kk:List Int->Int->List Int->OX)(x0:List Int)(x4:Int)(y3:List Int):OX:=br (QC ([]:List Int) (wnL tI (y3) (Int.toNat 0) (Int.toNat ((Js (lgt tI x0 x4.toNat) y3 (Qc y3).toNat:Nat):Int)-Int.toNat 0)) 8) (FI kk x0 x4 y3) none
def FL (kk:List Int->Int->List Int->OX)(x0:List Int)(x4:Int)(y3:List Int):OX:=br (cWn (y3) ((Js (lgt tI x0 x4.toNat) y3 (Qc y3).toNat:Nat):Int) ((List.length (y3):Nat):Int)) (FK kk x0 x4 y3) none
def Gj (kk:List Int->Int->List Int->OX)(x0:List Int)(x4:Int)(y3:List Int):OX:=frk (br (QC ([]:List Int) (wnL tI (y3) (Int.toNat 0) (Int.toNat ((Js (lgt tI x0 x4.toNat) y3 (Qc y3).toNat:Nat):Int)-Int.toNat 0)) 8) (FJ kk x0 x4 y3) none) (FL kk x0 x4 y3)
def FM (kk:List Int->Int->List Int->OX)(x0:List Int)(x4:Int)(y3:List Int):OX:=frk (br (QC ([]:List Int) (wnL tI (y3) (Int.toNat 0) (Int.toNat ((Js (lgt tI x0 x4.toNat) y3 (Qc y3).toNat:Nat):Int)-Int.toNat 0)) 8) (frk (FH kk x0 x4 y3) (FJ kk x0 x4 y3)) none) (Gj kk x0 x4 y3)
def FN (kk:List Int->Int->List Int->OX)(x0:List Int)(x4:Int)(y3:List Int):OX:=br (cWn (y3) 0 ((Js (lgt tI x0 x4.toNat) y3 (Qc y3).toNat:Nat):Int)) (FM kk x0 x4 y3) none
def FO (kk:List Int->Int->List Int->OX)(x0:List Int)(x4:Int)(y3:List Int):OX:=frk (Gj kk x0 x4 y3) (FL kk x0 x4 y3)
def FP (kk:List Int->Int->List Int->OX)(x0:List Int)(x4:Int)(y3:List Int):OX:=br (cWn (y3) 0 ((Js (lgt tI x0 x4.toNat) y3 (Qc y3).toNat:Nat):Int)) (Gj kk x0 x4 y3) none
def Gk (kk:List Int->Int->List Int->OX)(x0:List Int)(x4:Int)(y3:List Int):OX:=br (cWn (y3) 0 ((Js (lgt tI x0 x4.toNat) y3 (Qc y3).toNat:Nat):Int)) (FK kk x0 x4 y3) none
def FQ (kk:List Int->Int->List Int->OX)(x0:List Int)(x4:Int)(y3:List Int):OX:=frk (Gk kk x0 x4 y3) (Gk kk x0 x4 y3)
def FR (kk:List Int->Int->List Int->OX)(x0:List Int)(x4:Int)(y3:List Int):OX:=
 let a1:=((Js (lgt tI x0 x4.toNat) y3 (Qc y3).toNat:Nat):Int)
 frk (FP kk x0 x4 y3) (frk (br (cWn (y3) 0 a1) (FO kk x0 x4 y3) none) (br (cWn (y3) a1 ((List.length (y3):Nat):Int)) (FQ kk x0 x4 y3) none))
def FS (kk:List Int->Int->List Int->OX)(x0:List Int)(x4:Int)(y3:List Int):OX:=
 let a1:=((Js (lgt tI x0 x4.toNat) y3 (Qc y3).toNat:Nat):Int)
 br (ilt x4 (Qc x0)) (br (decide (0<=(Qc y3)/\(Qc y3)<=y3.length/\y3.length<=1000)&&cIx x0 x4) (br (cIx (x0) (x4)) (frk (FN kk x0 x4 y3) (frk (frk (FN kk x0 x4 y3) (frk (br (cWn (y3) 0 a1) (frk (FM kk x0 x4 y3) (FO kk x0 x4 y3)) none) (FR kk x0 x4 y3))) (frk (FP kk x0 x4 y3) (frk (FR kk x0 x4 y3) (br (cWn (y3) a1 ((List.length (y3):Nat):Int)) (frk (Gk kk x0 x4 y3) (FQ kk x0 x4 y3)) none))))) none) none) (some (.exit 0,QfT y3))
def QaT (x0:List Int)(x4:Int)(y3:List Int):OX:=some (.exit 0,QfT ((x0.drop x4.toNat).foldl Ym y3))
theorem QnW (x0:List Int)(x4:Int)(y3:List Int):QaS x0 x4 y3=FS QaS x0 x4 y3:=lnT (x:=FS (fun x0 x4 y3=>some (.normal,QnU x0 x4 y3)) x0 x4 y3) (by
 first
 |(simp only [Wh,FS,FN,FM,FH,FG,FJ,FI,Gj,FL,FK,FO,FR,FP,FQ,Gk,Wh,Gb,Fc,Fd,Fe,Ff]
   rfl)
 |(simp only [Wh,FS,FN,FM,FH,FG,FJ,FI,Gj,FL,FK,FO,FR,FP,FQ,Gk,Wh]
   try generalize (QC ((([]:List Int)++(wnL tI (y3) (Int.toNat 0) (Int.toNat (((Js (lgt tI x0 x4.toNat) y3 (Qc y3).toNat:Nat):Int))-Int.toNat 0)))++([(lgt tI (x0) (Int.toNat (x4)))])) (wnL tI (y3) (Int.toNat (((Js (lgt tI x0 x4.toNat) y3 (Qc y3).toNat:Nat):Int))) (Int.toNat ((List.length (y3):Nat):Int)-Int.toNat (((Js (lgt tI x0 x4.toNat) y3 (Qc y3).toNat:Nat):Int)))) 8)=cq0
   try generalize (cWn (y3) (((Js (lgt tI x0 x4.toNat) y3 (Qc y3).toNat:Nat):Int)) ((List.length (y3):Nat):Int))=cq1
   try generalize (QC (([]:List Int)++(wnL tI (y3) (Int.toNat 0) (Int.toNat (((Js (lgt tI x0 x4.toNat) y3 (Qc y3).toNat:Nat):Int))-Int.toNat 0))) ([(lgt tI (x0) (Int.toNat (x4)))]) 8)=cq2
   try generalize (QC ([]:List Int) (wnL tI (y3) (Int.toNat 0) (Int.toNat (((Js (lgt tI x0 x4.toNat) y3 (Qc y3).toNat:Nat):Int))-Int.toNat 0)) 8)=cq3
   try generalize (cWn (y3) 0 (((Js (lgt tI x0 x4.toNat) y3 (Qc y3).toNat:Nat):Int)))=cq4
   try generalize (cIx (x0) (x4))=cq5
   try generalize ((decide (0<=(Qc y3)/\(Qc y3)<=y3.length/\y3.length<=1000)&&cIx x0 x4))=cq6
   simp only [brN,Wh,Bool.and_assoc,Bool.and_comm,Bool.and_left_comm,Dh,Bool.and_self_left,Gb,Fc,Fd,Fe,Ff]
   try rfl))
def r_f121 (p0:List Int):OV:=br (decide (0<=(0:Int)/\(0:Int)<=p0.length/\p0.length<=1000/\([]:List Int).length<=(0:Int).toNat)) (some (.ms 50000,[.arr 3 tI ((p0.drop (0:Int).toNat).foldl Ym ([]:List Int))])) none
theorem Qzq (x0:List Int)(x4 x5:Int)(y3:List Int)(h:(decide (0<=x5/\x5<=y3.length/\y3.length<=1000)&&cIx x0 x4)=true):QaQ x0 x4 x5 y3=QaR x0 x4 x5 y3:=by
 obtain ⟨h,hc⟩:=Bg.1 h
 obtain ⟨h0,h1,h2⟩:=BI h
 obtain ⟨k,rfl⟩:=Bt h0
 have key: ∀ k:Nat,k<=y3.length->QaQ x0 x4 (k:Int) y3=QaR x0 x4 (k:Int) y3:=by
  intro k
  induction k with
  |zero=>
   intro _
   rw [QnV]
   simp only [Iz,QaR,show igt ((0:Nat):Int) 0=false from rfl,Qh,Bd]
   rfl
  |succ k ih=>
   intro hk
   rw [QnV]
   have e1:QT .i64 ((k+1:Nat):Int) 1=(k:Int):=by rw [ZN (by omega)];omega
   have e2:cLd y3 k=true:=Be (by omega)
   simp only [Iz,show igt ((k+1:Nat):Int) 0=true from Be (by omega),Qd,e1,QS,show k<y3.length by omega,BK,Bd,e2,hc,ih (by omega)]
   simp only [QaR,Bd]
   rw [show Js (lgt tI x0 x4.toNat) y3 (k+1)=if ilt (YO (y3.getD k 0)) (YO (lgt tI x0 x4.toNat))=true then Js (lgt tI x0 x4.toNat) y3 k else k+1 from rfl]
   show br (ilt (YO (y3.getD k 0)) (YO (lgt tI x0 x4.toNat))) _ _=_
   cases ilt (YO (y3.getD k 0)) (YO (lgt tI x0 x4.toNat))<;>rfl
 exact key k (by omega)
theorem Qzr (x0:List Int)(x4:Int)(y3:List Int)(h:(decide (0<=x4/\x4<=x0.length/\x0.length<=1000/\y3.length<=x4.toNat))=true):QaS x0 x4 y3=QaT x0 x4 y3:=by
 simp only [Ba] at h
 obtain ⟨h0,h1,h2,h3⟩:=h
 obtain ⟨k,rfl⟩:=Bt h0
 rw [Bd] at h3
 revert y3
 refine Q7 x0 (fun k=> ∀ y3:List Int,y3.length<=k->QaS x0 (k:Int) y3=QaT x0 (k:Int) y3) ?_ ?_ k (by omega)
 ·intro y3 _
  rw [QnW]
  simp only [FS,FN,FM,FH,FG,FJ,FI,Gj,FL,FK,FO,FR,FP,FQ,Gk,Wh,QaT,show ilt (x0.length:Int) (Qc x0)=false from Bn (by simp only [Qc];omega),Qh,Bd,Dd,List.foldl_nil]
 ·intro k hk ih y3 hy
  rw [QnW]
  have hle:=QfP x0[k] y3 y3.length
  obtain ⟨q,hq⟩: ∃ q,q=Js x0[k] y3 y3.length:=⟨_,rfl⟩
  rw [←hq] at hle
  have c0:decide ((0:Int)<=(y3.length:Nat)/\((y3.length:Nat):Int)<=y3.length/\y3.length<=1000)=true:=Be (by omega)
  have c1:cWn y3 0 (q:Int)=true:=Be (by omega)
  have c2:cWn y3 (q:Int) (y3.length:Nat)=true:=Be (by omega)
  have w1:wnL tI y3 0 (q-0)=y3.take q:=by rw [Io (by omega),BG,Nat.sub_zero]
  have w2:wnL tI y3 q (y3.length-q)=y3.drop q:=by rw [Io (by omega),DP (by rw [Dl];omega)]
  have a1:QC ([]:List Int) (y3.take q) 8=true:=JF (by omega) (by simp only [Bw,B2];omega)
  have a2:QC (y3.take q) [x0[k]] 8=true:=JF (by omega) (by simp only [Bp,B2];omega)
  have a3:QC (y3.take q++[x0[k]]) (y3.drop q) 8=true:=JF (by omega) (by simp only [Bm,Bp,B2,Dl];omega)
  simp only [FS,FN,FM,FH,FG,FJ,FI,Gj,FL,FK,FO,FR,FP,FQ,Gk,Wh,show ilt (k:Int) (Qc x0)=true from Be (by simp only [Qc];omega),QS,hk,BK,Di,Qd,Bd,BA,Q3 (show k<4611686018427387904 by omega),Q2 (y:=tI) hk,Qc,c0, ← hq,c1,c2,w1,w2,BY,a1,a2,a3,Wh]
  have e:=ih (Ym y3 x0[k]) (by rw [QnQ];omega)
  simp only [Ym, ← hq] at e
  rw [e]
  simp only [QaT,Bd,Bl hk,Dz,Ym, ← hq]
theorem Qzs:LO Iy QfQ QnS 0:=QI (s:=Ix) fun x y h _ q=>by simp only [QF,QG] at q;exact (Qzq x.1 x.2.2.1 x.2.2.2.1 y.1 h).trans q
theorem Qzt:LO Iy QfR QnT 1:=QI (s:=QaP) fun x y h _ q=>by simp only [QF,QG] at q;exact (Qzr x.1 x.2.2.1 y.1 h).trans q
theorem s_f121 (l:List Int)(h:Iw l=true):r_f121 l=some (.ms 50000,[.arr 3 tI (Uy l)]):=by
 simp only [Iw,Ba] at h
 refine Eq.trans (congrArg (fun b=>br b _ _) (Be ⟨Dq _,by omega,h,by simp⟩)) ?_
 rfl
def QnX:Ent:=Wu (.pr (.sl tI) .nil) (fun x=>(Iw x.1)) (fun x=>(.ms 50000)) (fun x=>[.arr 3 tI (Uy x.1)])
theorem Qzu:EM 121 QnX:=mS (lk:=lkL (lkc Qzt (lkc Qzs lkn))) Iy QfS [((.t 2),none)] true (J8 _ (gA (gD Qzn gN))) fun m=>QeR m fun x hok=>kT (s_f121 x.1 hok)
end
end Go.Proofs.YtmjnnemhoeolgaaGreat.K
noncomputable section
namespace Go.Proofs.YtmjnnemhoeolgaaGreat.K
open Go.RowKit
noncomputable section
theorem ZS {d:Dice}{l:List Int}(h:dOk d=true)(h1:l≠[])(h2:l.length<=100):QM d l=true:=by
 have:0<l.length:=List.length_pos_iff.2 h1
 simp only [QM,h,BH,Ba]
 omega
theorem Za {d:Dice}{n:Int}(h:dOk d=true)(hn:n<=1000000):Qy d n=true:=by
 simp only [Qy,h,BH,Ba]
 omega
theorem Xw {d:Dice}{n:Int}(h:dOk d=true)(h0:0<=n)(hn:n<=1000000):Jy d n=true:=by
 simp only [Jy,Za h hn,BH,Ba]
 omega
abbrev IK (d:Dice):Int:=dof d [5,7,5,6,8,9]
def Zp (d:Dice):Keep:=(IK d,(ZO (Qk d [5,7,5,6,8,9]) (IK d),()))
def Q0 (d:Dice):Dice:=Zd (Qk d [5,7,5,6,8,9]) (IK d)
theorem Qbc {d:Dice}(h:dOk d=true):dOk (Q0 d)=true:=Vv (Q8 h)
def tc_f73:TC:=aF Tryz.f73 []
def g_f73:G:=gG 12 [(26,Wl),(74,Vu)] (fun _ _=>none)
def r_f73 (d0:Dice):OV:=
 let a1:=(dof d0 ([5,7,5,6,8,9]))
 let a2:=(Qk d0 ([5,7,5,6,8,9]))
 br (QM d0 ([5,7,5,6,8,9])) (br (Wm a2 a1) (some (.t Qe (a1,((ZO a2 a1),())),[.box (.t Qs (Zd a2 a1))])) none) none
theorem s_f73 (d:Dice)(h:dOk d=true):r_f73 d=some (.t Qe (Zp d),[.box (.t Qs (Q0 d))]):=by
 have h1:QM d [5,7,5,6,8,9]=true:=ZS h (by decide) (by decide)
 have h2:Wm (Qk d [5,7,5,6,8,9]) (dof d [5,7,5,6,8,9])=true:=Q8 (l:=[5,7,5,6,8,9]) h
 simp only [r_f73,h1,h2,Qd]
 rfl
def Qgd:Ent:=Yg Qs .nil (fun d x=>(dOk d)) (fun d x=>(.t Qe (Zp d))) (fun d x=>(Q0 d))
theorem QoF:EM 73 Qgd:=mS g_f73 tc_f73 [((.c 2 true 2),some Qe)] false (gB (gD Uj (gD Qec gN))) fun m=>YZ m rfl fun d x hok=>kT (s_f73 d hok)
abbrev cD1 (d:Dice):Dice:=Qb d 1000
abbrev cD2 (d:Dice):Dice:=Qk (cD1 d) [3,2,4,1]
abbrev cD3 (d:Dice):Dice:=Qk (cD2 d) [0,5,10]
abbrev cD4 (d:Dice):Dice:=Qk (cD3 d) [1000,100,50,20]
def cD5 (d:Dice)(a:Bool):Dice:=bif a then Qk (cD4 d) [3,0,1] else cD4 d
def Y6 (d:Dice)(a:Bool):Int:=bif a then dof (cD4 d) [3,0,1] else 0
def cNm (d:Dice)(a:Bool)(s:ByteArray):List ByteArray:=bif done (cD5 d a) 3 then [s,Ut s (ByteArray.mk #[120])] else [s]
def XW (d:Dice)(i s:ByteArray)(k:Keep)(id:Int)(a:Bool):Certificate:=
 (Qg d 1000,(i,(s,(k,(id,((dof (cD1 d) [3,2,4,1],(0,())),(dof (cD2 d) [0,5,10],(dof (cD3 d) [1000,100,50,20],(a,(Y6 d a,(cNm d a s,((0,(0,())),()))))))))))))
def Yo (d:Dice)(i s:ByteArray)(k:Keep)(id g:Int)(a:Bool):Certificate:=(YW (XW d i s k id a) g).1
def WO (d:Dice)(_i _s:ByteArray)(_k:Keep)(_id _g:Int)(a:Bool):Dice:=Qb (cD5 d a) 3
def Gm (d:Dice)(i s:ByteArray)(_k:Keep)(_id _g:Int)(_a:Bool):Bool:=dOk d&&decide (i.size<=1000/\s.size<=1000)
theorem QoG {d:Dice}(h:dOk d=true):dOk (cD4 d)=true:=Q8 (Q8 (Q8 (Qv h)))
theorem dOk_c5 {d:Dice}{a:Bool}(h:dOk d=true):dOk (cD5 d a)=true:=by
 cases a
 ·exact QoG h
 ·exact Q8 (l:=[3,0,1]) (QoG h)
theorem QoH {d:Dice}{i s:ByteArray}{k:Keep}{id g:Int}{a:Bool}(h:dOk d=true):dOk (WO d i s k id g a)=true:=Qv (dOk_c5 h)
theorem QoI (a b:ByteArray):(Ut a b).size=a.size+b.size:=by simp [Ut]
theorem Qge {i s:ByteArray}{k:Keep}{id:Int}{a:Bool}{q p:Int}{u v:Keep}{x y:Int}(hi:i.size<=1000)(hs:s.size<=1000){l:List ByteArray}(hl:l.length<=2)(hn: ∀ t∈l,t.size<=1001):
  Jv (q,(i,(s,(k,(id,(u,(x,(y,(a,(p,(l,(v,()))))))))))))=true:=by
 have hg: ∀ t:ByteArray,t.size<=1001->Jk t=true:=fun t ht=>Be (by omega)
 simp only [Jv,Bc]
 refine ⟨hg _ (by omega),hg _ (by omega), ?_⟩
 simp only [Z7,Bc,Bi]
 exact ⟨Be (by show l.length<=_;omega),fun t ht=>hg t (hn t ht)⟩
def QzY:TC:=aF Tryz.f122 [(6,pD [(0,[50000]),(1,[17,5017,10017,15017,50000]),(2,[]),(3,[]),(4,[10]),(5,[]),(6,[50000]),(7,[]),(8,[24,5024,10024,15024,50000]),(9,[]),(10,[50000]),(11,[]),(12,[28,5028,10028,15028,50000]),(13,[50000]),(14,[]),(15,[31,5031,10031,15031,50000]),(16,[]),(17,[]),(18,[15,5015,10015,15015]),(19,[14,15,40,49])] (.one 0 (.one 2 (.one 3 (.one 4 (.one 5 (.one 6 (.one 7 (.one 10 (.one 11 (.one 13 (.one 14 (.one 16 (.alt 1 (.alt 8 (.one 9 (.alt 12 (.alt 15 (.of [17,18,19]) (.of [18,15,17,19])) (.of [18,12,15,17,19]))) (.of [18,8,9,12,15,17,19])) (.of [18,1,8,9,12,15,17,19])))))))))))))))]
def g_f122:G:=⟨TYs,[40],58,EL [(22,Xl),(26,Wl),(37,EU),(68,Qka)],YU,(fun _ _=>none),IL [],RL []⟩
def Qbd (d0:Dice)(p1 p2:ByteArray)(p3:Keep)(p4 p5:Int)(p6:Bool):OV:=
 let a1:=(Qk (Qk (Qb d0 1000) ([3,2,4,1])) ([0,5,10]))
 let a2:=(dof (Qk (Qb d0 1000) ([3,2,4,1])) ([0,5,10]))
 let a3:=(Qk a1 ([1000,100,50,20]))
 let a4:=(dof (Qb d0 1000) ([3,2,4,1]))
 let a5:=(dof a1 ([1000,100,50,20]))
 let a6:=Ut p2 (ByteArray.mk #[120])
 let a7:=Qg d0 1000
 let a8:=(Qk a3 ([3,0,1]))
 let a9:=(dof a3 ([3,0,1]))
 let a10:=cCat p2 (ByteArray.mk #[120])
 let a11:=QC ([p2]) ([a6]) 16
 br (QM a1 ([1000,100,50,20])) (br (p6) (br (QM a3 ([3,0,1])) (br (Jy a8 3) (br (done a8 3) (br a10 (br a11 (br (Ug (a7,(p1,(p2,((p3.1,(p3.2.1,())),(p4,((a4,(0,())),(a2,(a5,(p6,(a9,((([p2])++([a6])),((0,(0,())),())))))))))))) p5) (some (.t QQ ((YW (a7,(p1,(p2,((p3.1,(p3.2.1,())),(p4,((a4,(0,())),(a2,(a5,(p6,(a9,((([p2])++([a6])),((0,(0,())),())))))))))))) p5).1),[.box (.t Qs (Qb a8 3))])) none) none) none) (br (Ug (a7,(p1,(p2,((p3.1,(p3.2.1,())),(p4,((a4,(0,())),(a2,(a5,(p6,(a9,([p2],((0,(0,())),())))))))))))) p5) (some (.t QQ ((YW (a7,(p1,(p2,((p3.1,(p3.2.1,())),(p4,((a4,(0,())),(a2,(a5,(p6,(a9,([p2],((0,(0,())),())))))))))))) p5).1),[.box (.t Qs (Qb a8 3))])) none)) none) none) (br (Jy a3 3) (br (done a3 3) (br a10 (br a11 (br (Ug (a7,(p1,(p2,((p3.1,(p3.2.1,())),(p4,((a4,(0,())),(a2,(a5,(p6,(0,((([p2])++([a6])),((0,(0,())),())))))))))))) p5) (some (.t QQ ((YW (a7,(p1,(p2,((p3.1,(p3.2.1,())),(p4,((a4,(0,())),(a2,(a5,(p6,(0,((([p2])++([a6])),((0,(0,())),())))))))))))) p5).1),[.box (.t Qs (Qb a3 3))])) none) none) none) (br (Ug (a7,(p1,(p2,((p3.1,(p3.2.1,())),(p4,((a4,(0,())),(a2,(a5,(p6,(0,([p2],((0,(0,())),())))))))))))) p5) (some (.t QQ ((YW (a7,(p1,(p2,((p3.1,(p3.2.1,())),(p4,((a4,(0,())),(a2,(a5,(p6,(0,([p2],((0,(0,())),())))))))))))) p5).1),[.box (.t Qs (Qb a3 3))])) none)) none)) none
def Qgf (d0:Dice)(p1 p2:ByteArray)(p3:Keep)(p4 p5:Int)(p6:Bool):OV:=br (QM (Qk (Qb d0 1000) ([3,2,4,1])) ([0,5,10])) (Qbd d0 p1 p2 p3 p4 p5 p6) none
def Qgg (d0:Dice)(p1 p2:ByteArray)(p3:Keep)(p4 p5:Int)(p6:Bool):OV:=br (QM (Qb d0 1000) ([3,2,4,1])) (Qgf d0 p1 p2 p3 p4 p5 p6) none
def QoJ (d0:Dice)(p1 p2:ByteArray)(p3:Keep)(p4 p5:Int)(p6:Bool):OV:=frk (br (Qy d0 1000) (frk (br (QM (Qb d0 1000) ([3,2,4,1])) (frk (br (QM (Qk (Qb d0 1000) ([3,2,4,1])) ([0,5,10])) (frk (Qbd d0 p1 p2 p3 p4 p5 p6) (Qbd d0 p1 p2 p3 p4 p5 p6)) none) (Qgf d0 p1 p2 p3 p4 p5 p6)) none) (Qgg d0 p1 p2 p3 p4 p5 p6)) none) (br (Qy d0 1000) (Qgg d0 p1 p2 p3 p4 p5 p6) none)
theorem s_f122 (d:Dice)(i s:ByteArray)(k:Keep)(id g:Int)(a:Bool)(h:Gm d i s k id g a=true):QoJ d i s k id g a=some (.t QQ (Yo d i s k id g a),[.box (.t Qs (WO d i s k id g a))]):=by
 simp only [Gm,Bc,Ba] at h
 obtain ⟨h,hi,hs⟩:=h
 have h1:Qy d 1000=true:=Za h (by omega)
 have k1:=Qv (n:=1000) h
 have h2:QM (Qb d 1000) [3,2,4,1]=true:=ZS k1 (by decide) (by decide)
 have k2:=Q8 (l:=[3,2,4,1]) k1
 have h3:QM (Qk (Qb d 1000) [3,2,4,1]) [0,5,10]=true:=ZS k2 (by decide) (by decide)
 have k3:=Q8 (l:=[0,5,10]) k2
 have h4:QM (Qk (Qk (Qb d 1000) [3,2,4,1]) [0,5,10]) [1000,100,50,20]=true:=ZS k3 (by decide) (by decide)
 have k4:=Q8 (l:=[1000,100,50,20]) k3
 have h5:QM (Qk (Qk (Qk (Qb d 1000) [3,2,4,1]) [0,5,10]) [1000,100,50,20]) [3,0,1]=true:=ZS k4 (by decide) (by decide)
 have h6:Jy (Qk (Qk (Qk (Qk (Qb d 1000) [3,2,4,1]) [0,5,10]) [1000,100,50,20]) [3,0,1]) 3=true:=Xw (Q8 k4) (by omega) (by omega)
 have h7:Jy (Qk (Qk (Qk (Qb d 1000) [3,2,4,1]) [0,5,10]) [1000,100,50,20]) 3=true:=Xw k4 (by omega) (by omega)
 have c1:cCat s (ByteArray.mk #[120])=true:=Be (by show ((s.size+1:Nat):Int)<=_;omega)
 have c2:QC [s] [Ut s (ByteArray.mk #[120])] 16=true:=by rfl
 have hn1: ∀ t∈[s],t.size<=1001:=fun t ht=>by
  rw [B3] at ht
  subst ht
  omega
 have hn2: ∀ t∈[s]++[Ut s (ByteArray.mk #[120])],t.size<=1001:=fun t ht=>by
  simp only [Bu,B3] at ht
  rcases ht with rfl|rfl
  ·omega
  ·rw [QoI];show s.size+1<=_;omega
 have c3: ∀ (q p x y:Int) (u v:Keep) (kk:Keep),Ug (q,(i,(s,(kk,(id,(u,(x,(y,(a,(p,([s],(v,())))))))))))) g=true:=fun q p x y u v kk=>Qge hi hs (by simp) hn1
 have c4: ∀ (q p x y:Int) (u v:Keep) (kk:Keep),Ug (q,(i,(s,(kk,(id,(u,(x,(y,(a,(p,([s]++[Ut s (ByteArray.mk #[120])],(v,())))))))))))) g=true:=fun q p x y u v kk=>Qge hi hs (by simp) hn2
 simp only [QoJ,Qbd,Qgf,Qgg,Wh,h1,h2,h3,h4,h5,h6,h7,c1,c2,c3,c4,Qd,Wh]
 unfold Yo WO XW cNm cD5 Y6
 cases a with
 |true=>
  rw [Qd]
  simp only [Dn]
  cases done (Qk (Qk (Qk (Qk (Qb d 1000) [3,2,4,1]) [0,5,10]) [1000,100,50,20]) [3,0,1]) 3<;>rfl
 |false=>
  rw [Qh]
  simp only [Dj]
  cases done (Qk (Qk (Qk (Qb d 1000) [3,2,4,1]) [0,5,10]) [1000,100,50,20]) 3<;>rfl
def QoK:Ent:=Yg Qs (.pr .str (.pr .str (.pr Qe (.pr tI (.pr tI (.pr .bool .nil)))))) (fun d x=>(Gm d x.1 x.2.1 x.2.2.1 x.2.2.2.1 x.2.2.2.2.1 x.2.2.2.2.2.1)) (fun d x=>(.t QQ (Yo d x.1 x.2.1 x.2.2.1 x.2.2.2.1 x.2.2.2.2.1 x.2.2.2.2.2.1))) (fun d x=>(WO d x.1 x.2.1 x.2.2.1 x.2.2.2.1 x.2.2.2.2.1 x.2.2.2.2.2.1))
theorem QzZ:EM 122 QoK:=mS g_f122 QzY [((.c 14 true 15),some QQ)] false (J8 _ (gA (gD XI (gD Uj (gD Vt (gD ms_f68 gN)))))) fun m=>YZ m rfl fun d x hok=>kT (s_f122 d x.1 x.2.1 x.2.2.1 x.2.2.2.1 x.2.2.2.2.1 x.2.2.2.2.2.1 hok)
end
end Go.Proofs.YtmjnnemhoeolgaaGreat.K
noncomputable section
namespace Go.Proofs.YtmjnnemhoeolgaaGreat.K
open Go.RowKit
noncomputable section
abbrev Xy:ByteArray:=ByteArray.mk #[114,111,111,116]
abbrev Yp:List ByteArray:=[ByteArray.mk #[99,97],ByteArray.mk #[99,98],ByteArray.mk #[99,99]]
abbrev Up:Type:=List Certificate×Dice×ByteArray×Int
def Xa:Nat->Nat->Up->Up
 |0,_,u=>u
 |m+1,i,(ab,d,iss,g)=>Xa m (i+1) (Yo d iss (Yp.getD i ByteArray.empty) (5,(2048,())) ((11+i:Nat):Int) g true::ab,WO d iss (Yp.getD i ByteArray.empty) (5,(2048,())) ((11+i:Nat):Int) g true,Yp.getD i ByteArray.empty,((11+i:Nat):Int))
def Yq (u:Up):Bool:=dOk u.2.1&&decide (u.2.2.1.size<=1000)
def chU (d:Dice):Up:=Xa (dof d [1,0,2]).toNat 0 ([],Qb (Qk d [1,0,2]) 2,Xy,1+Qg (Qk d [1,0,2]) 2)
def ZV (d:Dice)(nm:ByteArray)(k:Keep)(id:Int):List Certificate:=Yo (chU d).2.1 (chU d).2.2.1 nm k id (chU d).2.2.2 false::(chU d).1
def X8 (d:Dice)(nm:ByteArray)(k:Keep)(id:Int):Dice:=WO (chU d).2.1 (chU d).2.2.1 nm k id (chU d).2.2.2 false
def YS (d:Dice)(nm:ByteArray)(_k:Keep)(_id:Int):Bool:=dOk d&&decide (nm.size<=1000)
theorem Qhu (i:Nat):(Yp.getD i ByteArray.empty).size<=2:=by
 rcases i with _|_|_|i
 ·exact BB 2
 ·exact BB 2
 ·exact BB 2
 ·exact B7 _
theorem Qrd {ab:List Certificate}{d:Dice}{iss:ByteArray}{g:Int}{i:Nat}(h:Yq (ab,d,iss,g)=true):Yq (Yo d iss (Yp.getD i ByteArray.empty) (5,(2048,())) ((11+i:Nat):Int) g true::ab,WO d iss (Yp.getD i ByteArray.empty) (5,(2048,())) ((11+i:Nat):Int) g true,Yp.getD i ByteArray.empty,((11+i:Nat):Int))=true:=by
 simp only [Yq,Bc,Ba] at h ⊢
 exact ⟨QoH h.1,by have:=Qhu i;omega⟩
theorem Oc: ∀ (m i:Nat) (u:Up),Yq u=true->Yq (Xa m i u)=true/\(Xa m i u).1.length=u.1.length+m
 |0,_,u,h=>⟨h,rfl⟩
 |m+1,i,(ab,d,iss,g),h=>by
  have:=Oc m (i+1) _ (Qrd (i:=i) h)
  refine ⟨this.1,this.2.trans ?_⟩
  simp only [Bo]
  omega
theorem cEta (c:Certificate):(c.1,(c.2.1,(c.2.2.1,((c.2.2.2.1.1,(c.2.2.2.1.2.1,())),(c.2.2.2.2.1,((c.2.2.2.2.2.1.1,(c.2.2.2.2.2.1.2.1,())),(c.2.2.2.2.2.2.1,(c.2.2.2.2.2.2.2.1,(c.2.2.2.2.2.2.2.2.1,(c.2.2.2.2.2.2.2.2.2.1,(c.2.2.2.2.2.2.2.2.2.2.1,((c.2.2.2.2.2.2.2.2.2.2.2.1.1,(c.2.2.2.2.2.2.2.2.2.2.2.1.2.1,())),()))))))))))))=c:=rfl
abbrev upQ (n i:Int)(ab:List Certificate)(d:Dice)(iss:ByteArray)(g:Int):Up:=Xa (n-i).toNat i.toNat (ab,d,iss,g)
abbrev Qb1:Sh:=⟨[(0,.ptr 50000 0),(1,.ty .str),(3,.ty tI),(6,.ptr 6 0),(9,.ty tI),(10,.ty tI),(11,.ty .str),(12,.ms 12),(13,.ty tI)],[(6,.box Qe),(12,.arr 149 QQ),(40,.no),(42,.no),(50000,.box Qs)]⟩
abbrev Qre:Sh:=⟨[(0,.ptr 50000 0),(1,.ty .str),(3,.ty tI),(6,.ptr 6 0),(10,.ty tI),(11,.ty .str),(12,.ms 12)],[(6,.box Qe),(12,.arr 149 QQ),(40,.no),(42,.no),(50000,.box Qs)]⟩
def Qhv:Fg:=Qb1.f
def Qrf:TC:=aF Tryz.f75 [(250,.nw 12 149),(250,pL 0 Qhv),(500,.mv [(40,12)]),(4003,.fg Qre.f)]
def Qrg:TC:=lb 0 Qrf
def Qrh (x1:ByteArray)(x3 x9 x10:Int)(x11:ByteArray)(x13:Int)(y6:Keep)(y12:List Certificate)(Qa:Dice):VS:=Qb1.st ((),x1,x3,(),x9,x10,x11,(),x13,()) (y6,y12,(),(),Qa,())
def Qhw (x1:ByteArray)(x3 x10:Int)(x11:ByteArray)(y6:Keep)(y12:List Certificate)(Qa:Dice):VS:=Qre.st ((),x1,x3,(),x10,x11,(),()) (y6,y12,(),(),Qa,())
def QCH:VS->Option (Bool×List (Bool×Exit×VS)):=mkL Qb1 (fun x y=>(decide (0<=x.2.2.2.2.2.2.2.2.1/\x.2.2.2.2.2.2.2.2.1<=x.2.2.2.2.1/\x.2.2.2.2.1<=3/\y.2.1.length<=x.2.2.2.2.2.2.2.2.1)&&Yq (y.2.1,y.2.2.2.2.1,x.2.2.2.2.2.2.1,x.2.2.2.2.2.1))) (fun x y=>[(true,.exit 0,Qhw (x.2.1) (x.2.2.1) ((upQ x.2.2.2.2.1 x.2.2.2.2.2.2.2.2.1 y.2.1 y.2.2.2.2.1 x.2.2.2.2.2.2.1 x.2.2.2.2.2.1).2.2.2) ((upQ x.2.2.2.2.1 x.2.2.2.2.2.2.2.2.1 y.2.1 y.2.2.2.2.1 x.2.2.2.2.2.2.1 x.2.2.2.2.2.1).2.2.1) (y.1) ((upQ x.2.2.2.2.1 x.2.2.2.2.2.2.2.2.1 y.2.1 y.2.2.2.2.1 x.2.2.2.2.2.2.1 x.2.2.2.2.2.1).1) ((upQ x.2.2.2.2.1 x.2.2.2.2.2.2.2.2.1 y.2.1 y.2.2.2.2.1 x.2.2.2.2.2.2.1 x.2.2.2.2.2.1).2.1))])
def Qhx:G:=⟨TYs,[40,53],56,EL [(22,Xl),(26,Wl),(122,QoK)],YU,(Ls [QCH]),IL [],RL []⟩
def Qb2 (x1:ByteArray)(x3 x9 x10:Int)(x11:ByteArray)(x13:Int)(y6:Keep)(y12:List Certificate)(Qa:Dice):OX:=Qx (Qz Qhx Qhv Qrg) (Qrh x1 x3 x9 x10 x11 x13 y6 y12 Qa)
def Od (kk:ByteArray->Int->Int->Int->ByteArray->Int->Keep->List Certificate->Dice->OX)(x1:ByteArray)(x3 x9 x10:Int)(x11:ByteArray)(x13:Int)(y6:Keep)(y12:List Certificate)(Qa:Dice):OX:=
 let a3:=(lgt .str ([(ByteArray.mk #[99,97]),(ByteArray.mk #[99,98]),(ByteArray.mk #[99,99])]) (Int.toNat x13))
 let a4:=Qj .i64 11 x13
 let a1:=(Yo Qa x11 a3 (5,(2048,())) a4 x10 true)
 let a2:=((a1.2).1,(((a1.2).2).1,((((((a1.2).2).2).1).1,((((((a1.2).2).2).1).2).1,())),(((((a1.2).2).2).2).1,((((((((a1.2).2).2).2).2).1).1,((((((((a1.2).2).2).2).2).1).2).1,())),(((((((a1.2).2).2).2).2).2).1,((((((((a1.2).2).2).2).2).2).2).1,(((((((((a1.2).2).2).2).2).2).2).2).1,((((((((((a1.2).2).2).2).2).2).2).2).2).1,(((((((((((a1.2).2).2).2).2).2).2).2).2).2).1,((((((((((((((a1.2).2).2).2).2).2).2).2).2).2).2).1).1,((((((((((((((a1.2).2).2).2).2).2).2).2).2).2).2).1).2).1,())),())))))))))))
 br (ilt x13 x9) (br (cIx ([(ByteArray.mk #[99,97]),(ByteArray.mk #[99,98]),(ByteArray.mk #[99,99])]) x13) (br (Gm Qa x11 a3 (5,(2048,())) a4 x10 true) (br (QC ([(a1.1,a2)]) y12 152) (kk x1 x3 x9 a4 a3 (Qj .i64 x13 1) y6 (([(a1.1,a2)])++y12) (WO Qa x11 a3 (5,(2048,())) a4 x10 true)) none) none) none) (some (.exit 0,Qhw x1 x3 x10 x11 y6 y12 Qa))
def Qb3 (x1:ByteArray)(x3 x9 x10:Int)(x11:ByteArray)(x13:Int)(y6:Keep)(y12:List Certificate)(Qa:Dice):OX:=
 let a1:=upQ x9 x13 y12 Qa x11 x10
 some (.exit 0,Qhw (x1) (x3) (a1.2.2.2) (a1.2.2.1) (y6) (a1.1) (a1.2.1))
theorem Qri (x1:ByteArray)(x3 x9 x10:Int)(x11:ByteArray)(x13:Int)(y6:Keep)(y12:List Certificate)(Qa:Dice):Qb2 x1 x3 x9 x10 x11 x13 y6 y12 Qa=Od Qb2 x1 x3 x9 x10 x11 x13 y6 y12 Qa:=lnT (x:=Od (fun x1 x3 x9 x10 x11 x13 y6 y12 Qa=>some (.normal,Qrh x1 x3 x9 x10 x11 x13 y6 y12 Qa)) x1 x3 x9 x10 x11 x13 y6 y12 Qa) (by simp only [Od,nxA];rfl)
def r_f75 (d0:Dice)(p1:ByteArray)(p2:Keep)(p3:Int):OV:=
 let a4:=(Qk d0 ([1,0,2]))
 let a1:=(upQ (dof d0 ([1,0,2])) (0:Int) ([]:List Certificate) (Qb a4 2) (ByteArray.mk #[114,111,111,116]) (Qj .i64 1 (Qg a4 2)))
 let a2:=Yo (a1.2.1) (a1.2.2.1) (p1) (p2) (p3) (a1.2.2.2) false
 let a3:=((a2.2).1,(((a2.2).2).1,((((((a2.2).2).2).1).1,((((((a2.2).2).2).1).2).1,())),(((((a2.2).2).2).2).1,((((((((a2.2).2).2).2).2).1).1,((((((((a2.2).2).2).2).2).1).2).1,())),(((((((a2.2).2).2).2).2).2).1,((((((((a2.2).2).2).2).2).2).2).1,(((((((((a2.2).2).2).2).2).2).2).2).1,((((((((((a2.2).2).2).2).2).2).2).2).2).1,(((((((((((a2.2).2).2).2).2).2).2).2).2).2).1,((((((((((((((a2.2).2).2).2).2).2).2).2).2).2).2).1).1,((((((((((((((a2.2).2).2).2).2).2).2).2).2).2).2).1).2).1,())),())))))))))))
 br (QM d0 ([1,0,2])) (br (Qy a4 2) (br (decide (0<=(0:Int)/\(0:Int)<=(dof d0 ([1,0,2]))/\(dof d0 ([1,0,2]))<=3/\([]:List Certificate).length<=(0:Int))&&Yq (([]:List Certificate),(Qb a4 2),(ByteArray.mk #[114,111,111,116]),(Qj .i64 1 (Qg a4 2)))) (br (Gm (a1.2.1) (a1.2.2.1) (p1) (p2) (p3) (a1.2.2.2) false) (br (QC ([(a2.1,a3)]) (a1.1) 152) (some (.t (.sl QQ) (([(a2.1,a3)])++(a1.1)),[.box (.t Qs (WO (a1.2.1) (a1.2.2.1) (p1) (p2) (p3) (a1.2.2.2) false))])) none) none) none) none) none
theorem QCI (x1:ByteArray)(x3 x9 x10:Int)(x11:ByteArray)(x13:Int)(y6:Keep)(y12:List Certificate)(Qa:Dice)(h:(decide (0<=x13/\x13<=x9/\x9<=3/\y12.length<=x13)&&Yq (y12,Qa,x11,x10))=true):Qb2 x1 x3 x9 x10 x11 x13 y6 y12 Qa=Qb3 x1 x3 x9 x10 x11 x13 y6 y12 Qa:=by
 obtain ⟨h,hu⟩:=Bg.1 h
 obtain ⟨h0,h1,h2,h3⟩:=BI h
 clear h
 obtain ⟨k,rfl⟩:=Bt h0
 obtain ⟨n,rfl⟩:=Bt (show 0<=x9 by omega)
 have key: ∀ (m k:Nat) (x10:Int) (x11:ByteArray) (y12:List Certificate) (Qa:Dice),m=n-k->k<=n->y12.length<=k->Yq (y12,Qa,x11,x10)=true->Qb2 x1 x3 (n:Int) x10 x11 (k:Int) y6 y12 Qa=Qb3 x1 x3 (n:Int) x10 x11 (k:Int) y6 y12 Qa:=by
  intro m
  induction m with
  |zero=>
   intro k x10 x11 y12 Qa hm h1 h3 hu
   have:k=n:=by omega
   subst this
   rw [Qri]
   simp only [Od,Qb3,show ilt (k:Int) (k:Int)=false from Bn (by omega),Qh,upQ,Int.sub_self,BA,Xa]
  |succ m ih=>
   intro k x10 x11 y12 Qa hm h1 h3 hu
   rw [Qri]
   have hk:k<3:=by omega
   have c1:cIx Yp (k:Int)=true:=by rw [QS];exact Be hk
   have e1:Qj .i64 11 (k:Int)=((11+k:Nat):Int):=(Jn (by omega)).trans (by omega)
   have hu2:=Bg.1 hu
   have hu3:x11.size<=1000:=BI hu2.2
   have c2:Gm Qa x11 (Yp.getD k ByteArray.empty) (5,(2048,())) ((11+k:Nat):Int) x10 true=true:=Bg.2 ⟨hu2.1,Be ⟨hu3,by have:=Qhu k;omega⟩⟩
   have c3: ∀ c:Certificate,QC [c] y12 152=true:=fun c=>JF (by omega) (by simp only [Bp];omega)
   have hg:lgt .str Yp k=Yp.getD k ByteArray.empty:=rfl
   simp only [Od,cEta,show ilt (k:Int) (n:Int)=true from Be (by omega),Qd,c1,e1,Bd,hg,c2,c3,Q3 (show k<4611686018427387904 by omega),BO]
   rw [ih (k+1) _ _ _ _ (by omega) (by omega) (by simp only [Bo];omega) (Qrd hu)]
   have q1:((n:Int)-(k:Int)).toNat=m+1:=by omega
   have q2:((n:Int)-((k+1:Nat):Int)).toNat=m:=by omega
   simp only [Qb3,upQ,q1,q2,Bd,Xa]
 exact key _ k _ _ _ _ rfl (by omega) (by omega) hu
theorem QCJ:LO Qhx Qhv Qrg 0:=QI (s:=Qb1) fun x y h _ q=>by simp only [QF,QG] at q;exact (QCI x.2.1 x.2.2.1 x.2.2.2.2.1 x.2.2.2.2.2.1 x.2.2.2.2.2.2.1 x.2.2.2.2.2.2.2.2.1 y.1 y.2.1 y.2.2.2.2.1 h).trans q
theorem s_f75 (d:Dice)(nm:ByteArray)(k:Keep)(id:Int)(h:YS d nm k id=true):r_f75 d nm k id=some (.t (.sl QQ) (ZV d nm k id),[.box (.t Qs (X8 d nm k id))]):=by
 simp only [YS,Bc,Ba] at h
 obtain ⟨h,hn⟩:=h
 have h1:QM d [1,0,2]=true:=ZS h (by decide) (by decide)
 have k1:=Q8 (l:=[1,0,2]) h
 have h2:Qy (Qk d [1,0,2]) 2=true:=Za k1 (by omega)
 have b2:=Je (d:=Qk d [1,0,2]) (n:=2) (by omega)
 have e2:Qj .i64 1 (Qg (Qk d [1,0,2]) 2)=1+Qg (Qk d [1,0,2]) 2:=Jn (by omega)
 have hm:=J7 (d:=d) (l:=[1,0,2]) (by decide)
 simp only [BD,BQ,De] at hm
 have hu0:Yq ([],Qb (Qk d [1,0,2]) 2,Xy,1+Qg (Qk d [1,0,2]) 2)=true:=Bg.2 ⟨Qv (n:=2) k1,rfl⟩
 obtain ⟨hv,hl⟩:=Oc (dof d [1,0,2]).toNat 0 _ hu0
 have hv2:=Bg.1 hv
 have hv3:(chU d).2.2.1.size<=1000:=BI hv2.2
 have c5:Gm (chU d).2.1 (chU d).2.2.1 nm k id (chU d).2.2.2 false=true:=Bg.2 ⟨hv2.1,Be ⟨hv3,hn⟩⟩
 have hl2:(chU d).1.length<=3:=by
  unfold chU
  rw [hl]
  simp only [Bw]
  omega
 have c6: ∀ c:Certificate,QC [c] (chU d).1 152=true:=fun c=>JF (by omega) (by simp only [Bp];omega)
 have c7:(decide ((0:Int)<=0/\(0:Int)<=dof d [1,0,2]/\dof d [1,0,2]<=3/\(([]:List Certificate).length:Int)<=0)&&Yq ([],Qb (Qk d [1,0,2]) 2,Xy,1+Qg (Qk d [1,0,2]) 2))=true:=Bg.2 ⟨Be ⟨Dq _,by omega,by omega,Dq _⟩,hu0⟩
 have e3:upQ (dof d [1,0,2]) 0 [] (Qb (Qk d [1,0,2]) 2) Xy (1+Qg (Qk d [1,0,2]) 2)=chU d:=by
  unfold upQ chU
  rw [Int.sub_zero,BA]
 simp only [r_f75,h1,h2,e2,Qd,cEta,e3,c5,c6]
 refine Eq.trans (congrArg (fun b=>br b _ _) c7) ?_
 rfl
def Qhy:Ent:=Yg Qs (.pr .str (.pr Qe (.pr tI .nil))) (fun d x=>(YS d x.1 x.2.1 x.2.2.1)) (fun d x=>(.t (.sl QQ) (ZV d x.1 x.2.1 x.2.2.1))) (fun d x=>(X8 d x.1 x.2.1 x.2.2.1))
theorem Qrj:EM 75 Qhy:=mS (lk:=lkL (lkc QCJ lkn)) Qhx Qrf [((.t 8),some (.sl QQ))] false (J8 _ (gA (gD XI (gD Uj (gD QzZ gN))))) fun m=>YZ m rfl fun d x hok=>kT (s_f75 d x.1 x.2.1 x.2.2.1 hok)
end
end Go.Proofs.YtmjnnemhoeolgaaGreat.K
noncomputable section
namespace Go.Proofs.YtmjnnemhoeolgaaGreat.K
open Go.RowKit
noncomputable section
def QlW:Ent:=QgI Qs5
theorem QwY:Qu Tryz.prog 99 (Qq QlW):=QAM Qs6.2
def suZ:Nat->List Int->Dice->List Int×Dice
 |0,l,d=>(l,d)
 |n+1,l,d=>suZ n (bif !Jd l (1+Qg d 16) then l++[1+Qg d 16] else l) (Qb d 16)
def suI (d:Dice):List Int×Dice:=suZ (2+Qg d 9).toNat [] (Qb d 9)
def YF (d:Dice):List Int:=bif done (suI d).2 4 then Uy (suI d).1 else (suI d).1
def ZF (d:Dice):Dice:=Qb (suI d).2 4
theorem QlX: ∀ (n:Nat) (l:List Int) (d:Dice),dOk d=true->dOk (suZ n l d).2=true/\(suZ n l d).1.length<=l.length+n
 |0,l,d,h=>⟨h,BB _⟩
 |n+1,l,d,h=>by
  have:=QlX n (bif !Jd l (1+Qg d 16) then l++[1+Qg d 16] else l) (Qb d 16) (Qv h)
  refine ⟨this.1,B0 this.2 ?_⟩
  cases !Jd l (1+Qg d 16)<;>simp only [Dn,Dj,Bm,Bp]<;>omega
theorem QeJ {d:Dice}(h:dOk d=true):dOk (suI d).2=true/\(suI d).1.length<=10:=by
 have h2:=QlX (2+Qg d 9).toNat [] (Qb d 9) (Qv h)
 have b:=Je (d:=d) (n:=9) (by omega)
 refine ⟨h2.1,B0 h2.2 ?_⟩
 simp only [Bw]
 omega
theorem E6 {d:Dice}(h:dOk d=true):dOk (ZF d)=true:=Qv (n:=4) (QeJ h).1
abbrev VU:Sh:=⟨[(0,.ptr 50000 0),(3,.ms 3),(4,.ty tI)],[(3,.arr 3 tI),(23,.no),(27,.no),(5027,.no),(10027,.no),(15027,.no),(50000,.box Qs)]⟩
abbrev QlY:Sh:=⟨[(0,.ptr 50000 0),(3,.ms 3)],[(3,.arr 3 tI),(23,.no),(27,.no),(5027,.no),(10027,.no),(15027,.no),(50000,.box Qs)]⟩
def QeK:Fg:=VU.f
def QlZ:TC:=aF Tryz.f72 [(58,.nw 3 3),(58,pL 0 QeK),(931,.fg QlY.f)]
def Ql0:TC:=lb 0 QlZ
def Ql1 (x4:Int)(y3:List Int)(Qa:Dice):VS:=VU.st ((),(),x4,()) (y3,(),(),(),(),(),Qa,())
def QeL (y3:List Int)(Qa:Dice):VS:=QlY.st ((),(),()) (y3,(),(),(),(),(),Qa,())
def QwZ:VS->Option (Bool×List (Bool×Exit×VS)):=mkL VU (fun x y=>(decide (0<=x.2.2.1/\(y.1.length:Int)+x.2.2.1<=10)&&dOk y.2.2.2.2.2.2.1)) (fun x y=>[(true,.exit 0,QeL ((suZ x.2.2.1.toNat y.1 y.2.2.2.2.2.2.1).1) ((suZ x.2.2.1.toNat y.1 y.2.2.2.2.2.2.1).2))])
def QeM:G:=⟨TYs,[],29,EL [(22,Xl),(37,EU),(99,QlW),(121,QnX)],(99::YU),(Ls [QwZ]),IL [],RL []⟩
def VV (x4:Int)(y3:List Int)(Qa:Dice):OX:=Qx (Qz QeM QeK Ql0) (Ql1 x4 y3 Qa)
def E7 (kk:Int->List Int->Dice->OX)(x4:Int)(y3:List Int)(Qa:Dice):OX:=
 let a1:=Qj .i64 1 (Qg Qa 16)
 br (igt x4 0) (br (Qy Qa 16) (br (J4 y3 a1) (br (!(Jd y3 a1)) (br (QC y3 ([a1]) 8) (kk (QT .i64 x4 1) (y3++([a1])) (Qb Qa 16)) none) (kk (QT .i64 x4 1) y3 (Qb Qa 16))) none) none) (some (.exit 0,QeL y3 Qa))
def VW (x4:Int)(y3:List Int)(Qa:Dice):OX:=
 let a1:=suZ x4.toNat y3 Qa
 some (.exit 0,QeL (a1.1) (a1.2))
theorem Ql2 (x4:Int)(y3:List Int)(Qa:Dice):VV x4 y3 Qa=E7 VV x4 y3 Qa:=lnT (x:=E7 (fun x4 y3 Qa=>some (.normal,Ql1 x4 y3 Qa)) x4 y3 Qa) (by simp only [E7,nxA];rfl)
def r_f72 (d0:Dice):OV:=
 let a2:=Qj .i64 2 (Qg d0 9)
 let a1:=(suZ a2.toNat ([]:List Int) (Qb d0 9))
 br (Qy d0 9) (br (decide (0<=a2/\(([]:List Int).length:Int)+a2<=10)&&dOk (Qb d0 9)) (br (Jy (a1.2) 4) (br (done (a1.2) 4) (br (Iw (a1.1)) (some (.ms 50001,[.box (.t Qs (Qb (a1.2) 4)),.arr 3 tI (Uy (a1.1))])) none) (some (.ms 50001,[.box (.t Qs (Qb (a1.2) 4)),.arr 3 tI (a1.1)]))) none) none) none
theorem Qw0 (x4:Int)(y3:List Int)(Qa:Dice)(h:(decide (0<=x4/\(y3.length:Int)+x4<=10)&&dOk Qa)=true):VV x4 y3 Qa=VW x4 y3 Qa:=by
 obtain ⟨h,hd⟩:=Bg.1 h
 obtain ⟨h0,h1⟩:=BI h
 clear h
 obtain ⟨n,rfl⟩:=Bt h0
 have key: ∀ (n:Nat) (y3:List Int) (Qa:Dice),y3.length+n<=10->dOk Qa=true->VV (n:Int) y3 Qa=VW (n:Int) y3 Qa:=by
  intro n
  induction n with
  |zero=>
   intro y3 Qa _ _
   rw [Ql2]
   simp only [E7,VW,show igt ((0:Nat):Int) 0=false from rfl,Qh,Bd,suZ]
  |succ n ih=>
   intro y3 Qa hl hd
   rw [Ql2]
   have b:=Je (d:=Qa) (n:=16) (by omega)
   have e1:Qj .i64 1 (Qg Qa 16)=1+Qg Qa 16:=Jn (by omega)
   have e2:QT .i64 ((n+1:Nat):Int) 1=(n:Int):=(ZN (by omega)).trans (by omega)
   have c1:Qy Qa 16=true:=Za hd (by omega)
   have c2: ∀ v,J4 y3 v=true:=fun v=>Be (by omega)
   have c3: ∀ v,QC y3 [v] 8=true:=fun v=>JF (by omega) (by simp only [Bp];omega)
   simp only [E7,show igt ((n+1:Nat):Int) 0=true from Be (by omega),Qd,e1,e2,c1,c2,c3]
   rw [ih y3 (Qb Qa 16) (by omega) (Qv hd),ih (y3++[1+Qg Qa 16]) (Qb Qa 16) (by simp only [Bm,Bp];omega) (Qv hd)]
   simp only [VW,Bd,suZ]
   cases !Jd y3 (1+Qg Qa 16)<;>rfl
 exact key n y3 Qa (by omega) hd
theorem Qw1:LO QeM QeK Ql0 0:=QI (s:=VU) fun x y h _ q=>by simp only [QF,QG] at q;exact (Qw0 x.2.2.1 y.1 y.2.2.2.2.2.2.1 h).trans q
theorem s_f72 (d:Dice)(h:dOk d=true):r_f72 d=some (.ms 50001,[.box (.t Qs (ZF d)),.arr 3 tI (YF d)]):=by
 have b:=Je (d:=d) (n:=9) (by omega)
 have e1:Qj .i64 2 (Qg d 9)=2+Qg d 9:=Jn (by omega)
 have c1:Qy d 9=true:=Za h (by omega)
 obtain ⟨k1,k2⟩:=QeJ h
 have c2:Jy (suI d).2 4=true:=Xw k1 (by omega) (by omega)
 have c3:Iw (suI d).1=true:=Be (by omega)
 have c4:(decide ((0:Int)<=2+Qg d 9/\(([]:List Int).length:Int)+(2+Qg d 9)<=10)&&dOk (Qb d 9))=true:=Bg.2 ⟨Be ⟨by omega,by simp only [Bw];omega⟩,Qv h⟩
 have e2:suZ (2+Qg d 9).toNat [] (Qb d 9)=suI d:=rfl
 simp only [r_f72,c1,e1,Qd,e2,c2,c3]
 refine Eq.trans (congrArg (fun b=>br b _ _) c4) ?_
 rw [Qd]
 unfold YF ZF
 cases done (suI d).2 4<;>rfl
def QeN:Ent:=Wy [.ptr 50000 0] [.box Qs] (fun x y=>(dOk y.1)) (fun x y=>(.ms 50001)) (fun x y=>[.box (.t Qs (ZF y.1)),.arr 3 tI (YF y.1)])
theorem Ql3:EM 72 QeN:=mS (lk:=lkL (lkc Qw1 lkn)) QeM QlZ [((.t 2),none)] true (J8 _ (gA (gD XI (gD Vt (gC Qs6.1 QwY (gD Qzu gN)))))) fun m=>YI m fun x y hok=>kT (s_f72 y.1 hok)
end
end Go.Proofs.YtmjnnemhoeolgaaGreat.K
noncomputable section
namespace Go.Proofs.YtmjnnemhoeolgaaGreat.K
open Go.RowKit
noncomputable section
abbrev iB (d:Dice):Bool:=igt (Qg (Q0 d) 3) 0
abbrev iD2 (d:Dice):Dice:=Qb (Q0 d) 3
abbrev iA (d:Dice):Int:=dof (iD2 d) [5,7]
def Wo (d:Dice):Keep:=bif iB d then (iA d,(ZO (Qk (iD2 d) [5,7]) (iA d),())) else Zp d
def iD3 (d:Dice):Dice:=bif iB d then Zd (Qk (iD2 d) [5,7]) (iA d) else iD2 d
def iId (d:Dice):Int:=100+Qg (iD3 d) 20
abbrev iD4 (d:Dice):Dice:=Qb (iD3 d) 20
abbrev iD5 (d:Dice):Dice:=Qb (iD4 d) 9
def iCh (d:Dice)(nm:ByteArray):List Certificate:=bif !done (iD4 d) 9 then ZV (iD5 d) nm (Wo d) (iId d) else []
def iD6 (d:Dice)(nm:ByteArray):Dice:=bif !done (iD4 d) 9 then X8 (iD5 d) nm (Wo d) (iId d) else iD5 d
def idV (d:Dice)(nm:ByteArray):Identity:=(Wo d,(iId d,(iCh d nm,())))
theorem Qeh {d:Dice}(h:dOk d=true):dOk (iD3 d)=true:=by
 unfold iD3
 cases iB d
 ·exact Qv (n:=3) (Qbc h)
 ·exact Vv (Q8 (l:=[5,7]) (Qv (n:=3) (Qbc h)))
theorem Qv1 {d:Dice}{nm:ByteArray}{k:Keep}{id:Int}(h:dOk d=true):dOk (X8 d nm k id)=true:=by
 have h2:=(Oc (dof d [1,0,2]).toNat 0 _ (Bg.2 ⟨Qv (n:=2) (Q8 (l:=[1,0,2]) h),rfl⟩:Yq ([],Qb (Qk d [1,0,2]) 2,Xy,1+Qg (Qk d [1,0,2]) 2)=true)).1
 exact QoH (Bg.1 h2).1
theorem EX {d:Dice}{nm:ByteArray}(h:dOk d=true):dOk (iD6 d nm)=true:=by
 have h5:dOk (iD5 d)=true:=Qv (n:=9) (Qv (n:=20) (Qeh h))
 unfold iD6
 cases !done (iD4 d) 9
 ·exact h5
 ·exact Qv1 h5
def JJ:Nat->ByteArray->Dice->List Identity×Dice
 |0,_,d=>([],d)
 |n+1,nm,d=>(idV d nm::(JJ n nm (iD6 d nm)).1,(JJ n nm (iD6 d nm)).2)
theorem EY: ∀ (n:Nat) (nm:ByteArray) (d:Dice),dOk d=true->dOk (JJ n nm d).2=true/\(JJ n nm d).1.length=n
 |0,_,d,h=>⟨h,rfl⟩
 |n+1,nm,d,h=>by
  have:=EY n nm (iD6 d nm) (EX h)
  exact ⟨this.1,by simp only [JJ,Bo,this.2]⟩
abbrev eL0 (d:Dice):Int:=dof d [1,1,2,3]
abbrev eD1 (d:Dice):Dice:=Qk d [1,1,2,3]
abbrev eD2 (d:Dice):Dice:=ZF (eD1 d)
abbrev eD3 (d:Dice):Dice:=Qb (eD2 d) 2
abbrev eD4 (d:Dice):Dice:=Qb (eD3 d) 2
abbrev eD5 (d:Dice):Dice:=Qb (eD4 d) (5-eL0 d)
abbrev eD6 (d:Dice):Dice:=Qb (eD5 d) 3
abbrev eB (d:Dice):Bool:=igt (Qg (eD5 d) 3) 0
def YB (d:Dice):Int:=bif eB d then 1 else eL0 d
def YC (d:Dice):Int:=bif eB d then dof (eD6 d) [3,4,2] else eL0 d+Qg (eD4 d) (5-eL0 d)
def eD7 (d:Dice):Dice:=bif eB d then Qk (eD6 d) [3,4,2] else eD6 d
abbrev eD8 (d:Dice):Dice:=Qk (eD7 d) [1,2,1,3,0]
def JY (d:Dice)(nm:ByteArray):List Identity×Dice:=JJ (dof (eD7 d) [1,2,1,3,0]).toNat nm (eD8 d)
abbrev eAn (d:Dice)(nm:ByteArray):List Int:=lgt (.sl tI) [[1,2],[1,2],[1],[2,11],([]:List Int)] (Qg (JY d nm).2 5).toNat
abbrev eD10 (d:Dice)(nm:ByteArray):Dice:=Qb (JY d nm).2 5
abbrev eHs (d:Dice)(nm:ByteArray):List Int:=lgt (.sl tI) [[1,2,3,4],[2,3,4],[3,4]] (Qg (eD10 d nm) 3).toNat
def epV (d:Dice)(nm:ByteArray):Endpoint:=(nm,(YB d,(YC d,(YF (eD1 d),(done (eD2 d) 2,((JY d nm).1,(eAn d nm,(eHs d nm,(done (eD3 d) 2,())))))))))
def epN (d:Dice)(nm:ByteArray):Dice:=Qb (eD10 d nm) 3
def Un (d:Dice)(nm:ByteArray):Bool:=dOk d&&decide (nm.size<=1000)
def Qv2:List DO:=dT Tryz.f45 2
abbrev Wp:Sh:=⟨[(0,.ptr 50000 0),(1,.ty .str),(4,.ptr 4 0),(5,.ptr 5 0),(6,.ty tI)],[(4,.box QD),(5,.bag [.ty .str,.ty tI,.ty tI,.ms 15,.ty .bool,.ms 20505,.nl,.nl,.ty .bool]),(15,.arr 3 tI),(78,.no),(5015,.no),(10015,.no),(15015,.no),(20505,.arr 67 JT),(50000,.box Qs)]⟩
abbrev Qei:Sh:=⟨[(0,.ptr 50000 0),(4,.ptr 4 0),(5,.ptr 5 0)],[(4,.box QD),(5,.bag [.ty .str,.ty tI,.ty tI,.ms 15,.ty .bool,.ms 20505,.nl,.nl,.ty .bool]),(15,.arr 3 tI),(78,.no),(5015,.no),(10015,.no),(15015,.no),(20505,.arr 67 JT),(50000,.box Qs)]⟩
def Uo:Fg:=Wp.f
def Xm:TC:=aF Tryz.f45 [(14,pD [(0,[5,15,78,5015,10015,15015,20505]),(1,[5,15,78,5015,10015,15015,20505]),(2,[50000]),(3,[5,15,78,5015,10015,15015,20505]),(4,[5,15,78,5015,10015,15015,20505]),(5,[15,78,5015,10015,15015,20505]),(6,[27,5027,10027,15027,50000]),(7,[15,78,5015,10015,15015,20505]),(8,[5,15,78,5015,10015,15015,20505]),(9,[4,5,15,78,5015,10015,15015,20505])] (.of [0,1,2,3,4,5,6,7,8,9])),(250,.nf 5 5 67 20505),(250,pL 0 Uo),(4003,.fg ⟨[(0,none),(4,none),(5,none)],[(4,some QD),(5,some QD),(15,none),(78,none),(5015,none),(10015,none),(15015,none),(20505,none),(50000,some Qs)]⟩)]
def G1:TC:=lb 0 Xm
def U3:List (RV×Option Ty):=[((.c 4 true 9),none)]
def Wq (x1:ByteArray)(x6:Int)(y4:Endpoint)(y5_0:ByteArray)(y5_1 y5_2:Int)(y5_4 y5_8:Bool)(y15:List Int)(Qw:List Identity)(Qa:Dice):VS:=Wp.st ((),x1,(),(),x6,()) (y4,(y5_0,y5_1,y5_2,(),y5_4,(),(),(),y5_8,()),y15,(),(),(),(),Qw,Qa,())
def Uq (y4:Endpoint)(y5_0:ByteArray)(y5_1 y5_2:Int)(y5_4 y5_8:Bool)(y15:List Int)(Qw:List Identity)(Qa:Dice):VS:=Qei.st ((),(),(),()) (y4,(y5_0,y5_1,y5_2,(),y5_4,(),(),(),y5_8,()),y15,(),(),(),(),Qw,Qa,())
def Qej:VS->Option (Bool×List (Bool×Exit×VS)):=mkL Wp (fun x y=>(decide (0<=x.2.2.2.2.1/\(y.2.2.2.2.2.2.2.1.length:Int)+x.2.2.2.2.1<=10/\x.2.1.size<=1000)&&dOk y.2.2.2.2.2.2.2.2.1)) (fun x y=>[(true,.exit 0,Uq (y.1) (y.2.1.1) (y.2.1.2.1) (y.2.1.2.2.1) (y.2.1.2.2.2.2.1) (y.2.1.2.2.2.2.2.2.2.2.1) (y.2.2.1) (y.2.2.2.2.2.2.2.1++(JJ x.2.2.2.2.1.toNat x.2.1 y.2.2.2.2.2.2.2.2.1).1) ((JJ x.2.2.2.2.1.toNat x.2.1 y.2.2.2.2.2.2.2.2.1).2))])
def Yd:G:=gG 100 [(22,Xl),(26,Wl),(37,EU),(72,QeN),(73,Qgd),(74,Vu),(75,Qhy)] (Ls [Qej])
def Qk0 (x1:ByteArray)(x6:Int)(y4:Endpoint)(y5_0:ByteArray)(y5_1 y5_2:Int)(y5_4 y5_8:Bool)(y15:List Int)(Qw:List Identity)(Qa:Dice):OX:=
 let a1:=Qb (Q0 Qa) 3
 let a2:=(Zd (Qk a1 ([5,7])) (dof a1 ([5,7])))
 let a3:=((dof a1 ([5,7])),((ZO (Qk a1 ([5,7])) (dof a1 ([5,7]))),()))
 let a4:=Qj .i64 100 (Qg a2 20)
 let a5:=Qj .i64 100 (Qg a1 20)
 let a6:=((Zp Qa).1,(((Zp Qa).2).1,()))
 let a7:=Qb (Qb a2 20) 9
 let a8:=Qb (Qb a1 20) 9
 let a9:=QT .i64 x6 1
 let a10:=((ZV a8 x1 (Zp Qa) a5),())
 let a11:=((ZV a7 x1 a3 a4),())
 br (igt x6 0) (br (dOk Qa) (br (Qy (Q0 Qa) 3) (br (igt (Qg (Q0 Qa) 3) 0) (br (QM a1 ([5,7])) (br (Wm (Qk a1 ([5,7])) (dof a1 ([5,7]))) (br (Qy a2 20) (br (Jy (Qb a2 20) 9) (br (!(done (Qb a2 20) 9)) (br (YS a7 x1 a3 a4) (br (QC Qw ([(a3,(a4,a11))]) 48) (some (.normal,Wq x1 a9 y4 y5_0 y5_1 y5_2 y5_4 y5_8 y15 (Qw++([(a3,(a4,a11))])) (X8 a7 x1 a3 a4))) none) none) (br (QC Qw ([(a3,(a4,(([]:List Certificate),())))]) 48) (some (.normal,Wq x1 a9 y4 y5_0 y5_1 y5_2 y5_4 y5_8 y15 (Qw++([(a3,(a4,(([]:List Certificate),())))])) a7)) none)) none) none) none) none) (br (Qy a1 20) (br (Jy (Qb a1 20) 9) (br (!(done (Qb a1 20) 9)) (br (YS a8 x1 (Zp Qa) a5) (br (QC Qw ([(a6,(a5,a10))]) 48) (some (.normal,Wq x1 a9 y4 y5_0 y5_1 y5_2 y5_4 y5_8 y15 (Qw++([(a6,(a5,a10))])) (X8 a8 x1 (Zp Qa) a5))) none) none) (br (QC Qw ([(a6,(a5,(([]:List Certificate),())))]) 48) (some (.normal,Wq x1 a9 y4 y5_0 y5_1 y5_2 y5_4 y5_8 y15 (Qw++([(a6,(a5,(([]:List Certificate),())))])) a8)) none)) none) none)) none) none) (some (.exit 0,Uq y4 y5_0 y5_1 y5_2 y5_4 y5_8 y15 Qw Qa))
def Ye (x1:ByteArray)(x6:Int)(y4:Endpoint)(y5_0:ByteArray)(y5_1 y5_2:Int)(y5_4 y5_8:Bool)(y15:List Int)(Qw:List Identity)(Qa:Dice):OX:=Qx (Qz Yd Uo G1) (Wq x1 x6 y4 y5_0 y5_1 y5_2 y5_4 y5_8 y15 Qw Qa)
def XJ (x1:ByteArray)(x6:Int)(y4:Endpoint)(y5_0:ByteArray)(y5_1 y5_2:Int)(y5_4 y5_8:Bool)(y15:List Int)(Qw:List Identity)(Qa:Dice):OX:=
 let a1:=Qb (Q0 Qa) 3
 let a2:=(Zd (Qk a1 ([5,7])) (dof a1 ([5,7])))
 let a3:=((dof a1 ([5,7])),((ZO (Qk a1 ([5,7])) (dof a1 ([5,7]))),()))
 let a4:=Qj .i64 100 (Qg a2 20)
 let a5:=Qj .i64 100 (Qg a1 20)
 let a6:=((Zp Qa).1,(((Zp Qa).2).1,()))
 let a7:=Qb (Qb a2 20) 9
 let a8:=Qb (Qb a1 20) 9
 let a9:=QT .i64 x6 1
 let a10:=((ZV a8 x1 (Zp Qa) a5),())
 let a11:=((ZV a7 x1 a3 a4),())
 br (igt x6 0) (br (dOk Qa) (br (Qy (Q0 Qa) 3) (br (igt (Qg (Q0 Qa) 3) 0) (br (QM a1 ([5,7])) (br (Wm (Qk a1 ([5,7])) (dof a1 ([5,7]))) (br (Qy a2 20) (br (Jy (Qb a2 20) 9) (br (!(done (Qb a2 20) 9)) (br (YS a7 x1 a3 a4) (br (QC Qw ([(a3,(a4,a11))]) 48) (Ye x1 a9 y4 y5_0 y5_1 y5_2 y5_4 y5_8 y15 (Qw++([(a3,(a4,a11))])) (X8 a7 x1 a3 a4)) none) none) (br (QC Qw ([(a3,(a4,(([]:List Certificate),())))]) 48) (Ye x1 a9 y4 y5_0 y5_1 y5_2 y5_4 y5_8 y15 (Qw++([(a3,(a4,(([]:List Certificate),())))])) a7) none)) none) none) none) none) (br (Qy a1 20) (br (Jy (Qb a1 20) 9) (br (!(done (Qb a1 20) 9)) (br (YS a8 x1 (Zp Qa) a5) (br (QC Qw ([(a6,(a5,a10))]) 48) (Ye x1 a9 y4 y5_0 y5_1 y5_2 y5_4 y5_8 y15 (Qw++([(a6,(a5,a10))])) (X8 a8 x1 (Zp Qa) a5)) none) none) (br (QC Qw ([(a6,(a5,(([]:List Certificate),())))]) 48) (Ye x1 a9 y4 y5_0 y5_1 y5_2 y5_4 y5_8 y15 (Qw++([(a6,(a5,(([]:List Certificate),())))])) a8) none)) none) none)) none) none) (some (.exit 0,Uq y4 y5_0 y5_1 y5_2 y5_4 y5_8 y15 Qw Qa))
def Z1 (x1:ByteArray)(x6:Int)(y4:Endpoint)(y5_0:ByteArray)(y5_1 y5_2:Int)(y5_4 y5_8:Bool)(y15:List Int)(Qw:List Identity)(Qa:Dice):OX:=
 let a1:=JJ x6.toNat x1 Qa
 some (.exit 0,Uq (y4) (y5_0) (y5_1) (y5_2) (y5_4) (y5_8) (y15) (Qw++a1.1) (a1.2))
theorem Qv3 (x1:ByteArray)(x6:Int)(y4:Endpoint)(y5_0:ByteArray)(y5_1 y5_2:Int)(y5_4 y5_8:Bool)(y15:List Int)(Qw:List Identity)(Qa:Dice):Qz Yd Uo G1 (Wq x1 x6 y4 y5_0 y5_1 y5_2 y5_4 y5_8 y15 Qw Qa)=Qk0 x1 x6 y4 y5_0 y5_1 y5_2 y5_4 y5_8 y15 Qw Qa:=by kernel_rfl
theorem EZ (x1:ByteArray)(x6:Int)(y4:Endpoint)(y5_0:ByteArray)(y5_1 y5_2:Int)(y5_4 y5_8:Bool)(y15:List Int)(Qw:List Identity)(Qa:Dice):Ye x1 x6 y4 y5_0 y5_1 y5_2 y5_4 y5_8 y15 Qw Qa=XJ x1 x6 y4 y5_0 y5_1 y5_2 y5_4 y5_8 y15 Qw Qa:=(Qme _ _).trans (by
 rw [Qv3]
 simp only [Qk0,XJ,Gb,Fc,Fd,Fe,Ff]
 rfl)
def U4 (d0:Dice)(p1:ByteArray):OV:=
 let a4:=(Qk d0 ([1,1,2,3]))
 let a6:=Qb (ZF a4) 2
 let a13:=(dof d0 ([1,1,2,3]))
 let a5:=QT .i64 5 a13
 let a12:=Qb (Qb a6 2) a5
 let a1:=Qb a12 3
 let a7:=(Qk a1 ([3,4,2]))
 let a10:=(dof a7 ([1,2,1,3,0]))
 let a2:=(JJ a10.toNat p1 (Qk a7 ([1,2,1,3,0])))
 let a11:=(dof a1 ([1,2,1,3,0]))
 let a3:=(JJ a11.toNat p1 (Qk a1 ([1,2,1,3,0])))
 let a8:=Qb (a2.2) 5
 let a9:=Qb (a3.2) 5
 br (QM d0 ([1,1,2,3])) (br (dOk a4) (br (Jy (ZF a4) 2) (br (Jy a6 2) (br (Qy (Qb a6 2) a5) (br (Qy a12 3) (br (igt (Qg a12 3) 0) (br (QM a1 ([3,4,2])) (br (QM a7 ([1,2,1,3,0])) (br (decide (0<=a10/\(([]:List Identity).length:Int)+a10<=10/\p1.size<=1000)&&dOk (Qk a7 ([1,2,1,3,0]))) (br (Qy (a2.2) 5) (br (cIx ([[1,2],[1,2],[1],[2,11],([]:List Int)]) (Qg (a2.2) 5)) (br (Qy a8 3) (br (cIx ([[1,2,3,4],[2,3,4],[3,4]]) (Qg a8 3)) (some (.ag [(.t .str (p1)),(.t tI (1:Int)),(.t tI (dof a1 ([3,4,2]))),(.ms 50001),(.t .bool (done (ZF a4) 2)),(.ms 50002),(.t (.sl tI) (lgt (.sl tI) ([[1,2],[1,2],[1],[2,11],([]:List Int)]) (Int.toNat (Qg (a2.2) 5)))),(.t (.sl tI) (lgt (.sl tI) ([[1,2,3,4],[2,3,4],[3,4]]) (Int.toNat (Qg a8 3)))),(.t .bool (done a6 2))],[.box (.t Qs (Qb a8 3)),.arr 3 tI (YF a4),.arr 67 JT (([]:List Identity)++a2.1)])) none) none) none) none) none) none) none) (br (QM a1 ([1,2,1,3,0])) (br (decide (0<=a11/\(([]:List Identity).length:Int)+a11<=10/\p1.size<=1000)&&dOk (Qk a1 ([1,2,1,3,0]))) (br (Qy (a3.2) 5) (br (cIx ([[1,2],[1,2],[1],[2,11],([]:List Int)]) (Qg (a3.2) 5)) (br (Qy a9 3) (br (cIx ([[1,2,3,4],[2,3,4],[3,4]]) (Qg a9 3)) (some (.ag [(.t .str (p1)),(.t tI a13),(.t tI (Qj .i64 a13 (Qg (Qb a6 2) a5))),(.ms 50001),(.t .bool (done (ZF a4) 2)),(.ms 50002),(.t (.sl tI) (lgt (.sl tI) ([[1,2],[1,2],[1],[2,11],([]:List Int)]) (Int.toNat (Qg (a3.2) 5)))),(.t (.sl tI) (lgt (.sl tI) ([[1,2,3,4],[2,3,4],[3,4]]) (Int.toNat (Qg a9 3)))),(.t .bool (done a6 2))],[.box (.t Qs (Qb a9 3)),.arr 3 tI (YF a4),.arr 67 JT (([]:List Identity)++a3.1)])) none) none) none) none) none) none)) none) none) none) none) none) none
theorem Qek (d0:Dice)(p1:ByteArray):Jq Yd Xm U3 true [.ptr 50000 0,.t .str p1] [.box (.t Qs d0)]=U4 d0 p1:=by kernel_rfl
theorem ok_f45:Option.map (trC Tryz.prog) Tryz.f45.body=some Xm.er:=by kernel_rfl
theorem Qv4:Wt Tryz.prog Tryz.f45.results.toList=some (U3.map Prod.fst):=by kernel_rfl
theorem Qk1:JE Tryz.prog 45:= .inr ⟨by decide,_,Tryz.func45,by kernel_rfl,by kernel_rfl⟩
theorem Qel:GOk Tryz.prog Yd:=J8 _ (gA (gD XI (gD Uj (gD Vt (gD Ql3 (gD QoF (gD Qec (gD Qrj gN))))))))
theorem Qem (x1:ByteArray)(x6:Int)(y4:Endpoint)(y5_0:ByteArray)(y5_1 y5_2:Int)(y5_4 y5_8:Bool)(y15:List Int)(Qw:List Identity)(Qa:Dice)(h:(decide (0<=x6/\(Qw.length:Int)+x6<=10/\x1.size<=1000)&&dOk Qa)=true):Ye x1 x6 y4 y5_0 y5_1 y5_2 y5_4 y5_8 y15 Qw Qa=Z1 x1 x6 y4 y5_0 y5_1 y5_2 y5_4 y5_8 y15 Qw Qa:=by
 obtain ⟨h,hd⟩:=Bg.1 h
 obtain ⟨h0,h1,h2⟩:=BI h
 clear h
 obtain ⟨n,rfl⟩:=Bt h0
 have key: ∀ (n:Nat) (Qw:List Identity) (Qa:Dice),Qw.length+n<=10->dOk Qa=true->Ye x1 (n:Int) y4 y5_0 y5_1 y5_2 y5_4 y5_8 y15 Qw Qa=Z1 x1 (n:Int) y4 y5_0 y5_1 y5_2 y5_4 y5_8 y15 Qw Qa:=by
  intro n
  induction n with
  |zero=>
   intro Qw Qa _ _
   rw [EZ]
   simp only [XJ,Z1,show igt ((0:Nat):Int) 0=false from rfl,Qh,Bd,JJ,BR]
  |succ n ih=>
   intro Qw Qa hl hd
   rw [EZ]
   have e2:QT .i64 ((n+1:Nat):Int) 1=(n:Int):=(ZN (by omega)).trans (by omega)
   have k1:=Qbc hd
   have k2:=Qv (n:=3) k1
   have k3:=Q8 (l:=[5,7]) k2
   have k4: ∀ a,dOk (Zd (Qk (Qb (Q0 Qa) 3) [5,7]) a)=true:=fun a=>Vv k3
   have c1:Qy (Q0 Qa) 3=true:=Za k1 (by omega)
   have c2:QM (Qb (Q0 Qa) 3) [5,7]=true:=ZS k2 (by decide) (by decide)
   have c3: ∀ a,Wm (Qk (Qb (Q0 Qa) 3) [5,7]) a=true:=fun a=>k3
   have c4: ∀ a,Qy (Zd (Qk (Qb (Q0 Qa) 3) [5,7]) a) 20=true:=fun a=>Za (k4 a) (by omega)
   have c5: ∀ a,Jy (Qb (Zd (Qk (Qb (Q0 Qa) 3) [5,7]) a) 20) 9=true:=fun a=>Xw (Qv (k4 a)) (by omega) (by omega)
   have c6:Qy (Qb (Q0 Qa) 3) 20=true:=Za k2 (by omega)
   have c7:Jy (Qb (Qb (Q0 Qa) 3) 20) 9=true:=Xw (Qv k2) (by omega) (by omega)
   have c8: ∀ a k i,YS (Qb (Qb (Zd (Qk (Qb (Q0 Qa) 3) [5,7]) a) 20) 9) x1 k i=true:=fun a k i=>Bg.2 ⟨Qv (Qv (k4 a)),Be h2⟩
   have c9: ∀ k i,YS (Qb (Qb (Qb (Q0 Qa) 3) 20) 9) x1 k i=true:=fun k i=>Bg.2 ⟨Qv (Qv k2),Be h2⟩
   have ca: ∀ v,QC Qw [v] 48=true:=fun v=>JF (by omega) (by simp only [Bp];omega)
   have cb: ∀ d:Dice,Qj .i64 100 (Qg d 20)=100+Qg d 20:=fun d=>by
    have b:=Je (d:=d) (n:=20) (by omega)
    exact Jn (by omega)
   simp only [XJ,show igt ((n+1:Nat):Int) 0=true from Be (by omega),Qd,hd,e2,c1,c2,c3,c4,c5,c6,c7,c8,c9,ca,cb]
   have hi: ∀ v d,dOk d=true->Ye x1 (n:Int) y4 y5_0 y5_1 y5_2 y5_4 y5_8 y15 (Qw++[v]) d=Z1 x1 (n:Int) y4 y5_0 y5_1 y5_2 y5_4 y5_8 y15 (Qw++[v]) d:=fun v d hd=>ih _ _ (by simp only [Bm,Bp];omega) hd
   have hz:=hi (idV Qa x1) (iD6 Qa x1) (EX hd)
   have goal2:Z1 x1 (n:Int) y4 y5_0 y5_1 y5_2 y5_4 y5_8 y15 (Qw++[idV Qa x1]) (iD6 Qa x1)=Z1 x1 ((n+1:Nat):Int) y4 y5_0 y5_1 y5_2 y5_4 y5_8 y15 Qw Qa:=by
    simp only [Z1,Bd,JJ,BV,BO]
   refine Eq.trans ?_ (hz.trans goal2)
   simp only [idV,iD6,iCh,iId,Wo,iD3,iB,iD2,iA,iD4,iD5]
   cases igt (Qg (Q0 Qa) 3) 0 with
   |true=>
    simp only [Qd,Dn]
    cases done (Qb (Zd (Qk (Qb (Q0 Qa) 3) [5,7]) (dof (Qb (Q0 Qa) 3) [5,7])) 20) 9<;>rfl
   |false=>
    simp only [Qh,Dj]
    cases done (Qb (Qb (Q0 Qa) 3) 20) 9<;>rfl
 exact key n _ _ (by omega) hd
theorem Qen:LO Yd Uo G1 0:=QI (s:=Wp) fun x y h _ q=>by simp only [QF,QG] at q;exact (Qem x.2.1 x.2.2.2.2.1 y.1 y.2.1.1 y.2.1.2.1 y.2.1.2.2.1 y.2.1.2.2.2.2.1 y.2.1.2.2.2.2.2.2.2.2.1 y.2.2.1 y.2.2.2.2.2.2.2.1 y.2.2.2.2.2.2.2.2.1 h).trans q
theorem Qeo:Xm.lok Yd:=by
 repeat (first|exact trivial|exact Qen|refine ⟨?_, ?_⟩)
theorem Qep (d:Dice)(nm:ByteArray)(h:Un d nm=true):U4 d nm=some (.ag [.t .str nm,.t tI (YB d),.t tI (YC d),.ms 50001,.t .bool (done (eD2 d) 2),.ms 50002,.t (.sl tI) (eAn d nm),.t (.sl tI) (eHs d nm),.t .bool (done (eD3 d) 2)],[.box (.t Qs (epN d nm)),.arr 3 tI (YF (eD1 d)),.arr 67 JT (JY d nm).1]):=by
 simp only [Un,Bc,Ba] at h
 obtain ⟨h,hn⟩:=h
 have m0:=J7 (d:=d) (l:=[1,1,2,3]) (by decide)
 simp only [BD,BQ,De] at m0
 have k1:=Q8 (l:=[1,1,2,3]) h
 have k2:=E6 k1
 have k3:=Qv (n:=2) k2
 have k4:=Qv (n:=2) k3
 have e0:QT .i64 5 (dof d [1,1,2,3])=5-eL0 d:=ZN (by omega)
 have b4:=Je (d:=eD4 d) (n:=5-eL0 d) (by show 0<5-dof d [1,1,2,3];omega)
 have e1:Qj .i64 (dof d [1,1,2,3]) (Qg (eD4 d) (5-eL0 d))=eL0 d+Qg (eD4 d) (5-eL0 d):=Jn (by show _/\_;have:eL0 d=dof d [1,1,2,3]:=rfl;omega)
 have k5:=Qv (n:=5-eL0 d) k4
 have k6:=Qv (n:=3) k5
 have k6':=Q8 (l:=[3,4,2]) k6
 have k7:dOk (eD7 d)=true:=by
  unfold eD7
  cases eB d
  ·exact k6
  ·exact k6'
 have k8:=Q8 (l:=[1,2,1,3,0]) k7
 have m7:=J7 (d:=eD7 d) (l:=[1,2,1,3,0]) (by decide)
 simp only [BD,BQ,De] at m7
 obtain ⟨k9,_⟩:=EY (dof (eD7 d) [1,2,1,3,0]).toNat nm (eD8 d) k8
 have k10:=Qv (n:=5) k9
 have c1:QM d [1,1,2,3]=true:=ZS h (by decide) (by decide)
 have c3:Jy (ZF (Qk d [1,1,2,3])) 2=true:=Xw k2 (by omega) (by omega)
 have c4:Jy (Qb (ZF (Qk d [1,1,2,3])) 2) 2=true:=Xw k3 (by omega) (by omega)
 have c5:Qy (eD4 d) (5-eL0 d)=true:=Za k4 (by show 5-dof d [1,1,2,3]<=_;omega)
 have c6:Qy (eD5 d) 3=true:=Za k5 (by omega)
 have c7:QM (eD6 d) [3,4,2]=true:=ZS k6 (by decide) (by decide)
 have c8:QM (eD7 d) [1,2,1,3,0]=true:=ZS k7 (by decide) (by decide)
 have k8':dOk (Qk (eD7 d) [1,2,1,3,0])=true:=k8
 have e5:JJ (dof (eD7 d) [1,2,1,3,0]).toNat nm (Qk (eD7 d) [1,2,1,3,0])=JY d nm:=rfl
 have c9:(decide ((0:Int)<=dof (eD7 d) [1,2,1,3,0]/\(([]:List Identity).length:Int)+dof (eD7 d) [1,2,1,3,0]<=10/\nm.size<=1000)&&true)=true:=by
  rw [Di]
  exact Be ⟨by omega,by simp only [Bw];omega,hn⟩
 have c10:Qy (JY d nm).2 5=true:=Za k9 (by omega)
 have b10:=Je (d:=(JY d nm).2) (n:=5) (by omega)
 have c11:cIx [[1,2],[1,2],[1],[2,11],([]:List Int)] (Qg (JY d nm).2 5)=true:=Be (by simp only [Bo,Bw];omega)
 have c12:Qy (Qb (JY d nm).2 5) 3=true:=Za k10 (by omega)
 have b12:=Je (d:=Qb (JY d nm).2 5) (n:=3) (by omega)
 have c13:cIx [[1,2,3,4],[2,3,4],([3,4]:List Int)] (Qg (Qb (JY d nm).2 5) 3)=true:=Be (by simp only [Bo,Bw];omega)
 simp only [U4,c1,k1,c3,c4,e0,c5,c6,e1,c7,Qd]
 cases hb:eB d with
 |true=>
  have e7:Qk (eD6 d) [3,4,2]=eD7 d:=by unfold eD7;rw [hb];rfl
  have e8:YB d=1:=by unfold YB;rw [hb];rfl
  have e9:YC d=dof (eD6 d) [3,4,2]:=by unfold YC;rw [hb];rfl
  refine Eq.trans (congrArg (fun b=>br b _ _) hb) ?_
  simp only [Qd,e7,c8,k8',e5,Qd,c10,c11,c12,c13]
  refine Eq.trans (congrArg (fun b=>br b _ _) c9) ?_
  rw [Qd,e8,e9]
  refine Eq.trans (congrArg (fun b=>br b _ _) c13) ?_
  rfl
 |false=>
  have e7:eD6 d=eD7 d:=by unfold eD7;rw [hb];rfl
  have e8:YB d=eL0 d:=by unfold YB;rw [hb];rfl
  have e9:YC d=eL0 d+Qg (eD4 d) (5-eL0 d):=by unfold YC;rw [hb];rfl
  refine Eq.trans (congrArg (fun b=>br b _ _) hb) ?_
  simp only [Qh,e7,c8,k8',e5,Qd,c10,c11,c12,c13]
  refine Eq.trans (congrArg (fun b=>br b _ _) c9) ?_
  rw [Qd,e8,e9]
  refine Eq.trans (congrArg (fun b=>br b _ _) c13) ?_
  rfl
def Vz:Ent:=Wy [.ptr 50000 0,.ty .str] [.box Qs] (fun x y=>(Un y.1 x.2.1)) (fun x y=>(.ag [(.t .str ((epV y.1 x.2.1).1)),(.t tI (((epV y.1 x.2.1).2).1)),(.t tI ((((epV y.1 x.2.1).2).2).1)),(.ms 50001),(.t .bool ((((((epV y.1 x.2.1).2).2).2).2).1)),(.ms 50002),(.t (.sl tI) ((((((((epV y.1 x.2.1).2).2).2).2).2).2).1)),(.t (.sl tI) (((((((((epV y.1 x.2.1).2).2).2).2).2).2).2).1)),(.t .bool ((((((((((epV y.1 x.2.1).2).2).2).2).2).2).2).2).1))])) (fun x y=>[.box (.t Qs (epN y.1 x.2.1)),.arr 3 tI (((((epV y.1 x.2.1).2).2).2).1),.arr 67 JT (((((((epV y.1 x.2.1).2).2).2).2).2).1)])
theorem Qk2:Qu Tryz.prog 45 (Qq Vz):=YI (R:=Jq Yd Xm U3 true) (mG Tryz.func45 (by kernel_rfl) Tryz.ntmps45 (by kernel_rfl) Qel Qeo) fun x y hok=>(Qek y.1 x.2.1).trans (Qep y.1 x.2.1 hok)
end
end Go.Proofs.YtmjnnemhoeolgaaGreat.K
noncomputable section
namespace Go.Proofs.YtmjnnemhoeolgaaGreat.K
open Go.RowKit
noncomputable section
theorem Qxl (l:List Int):(Uy l).length=l.length:=by
 unfold Uy
 have: ∀ (l a:List Int),(l.foldl Ym a).length=a.length+l.length:=by
  intro l
  induction l with
  |nil=>intro a;rfl
  |cons x r ih=>
   intro a
   rw [Dz,ih,QnQ,Bo]
   omega
 rw [this]
 simp
theorem Qxm {d:Dice}(h:dOk d=true):(YF d).length<=10:=by
 have:=(QeJ h).2
 unfold YF
 cases done (suI d).2 4
 ·exact this
 ·rw [Dn,Qxl]
  exact this
theorem Qxn {d:Dice}{nm:ByteArray}(h:dOk d=true):dOk (JY d nm).2=true:=by
 have k4:=Qv (n:=2) (Qv (n:=2) (E6 (Q8 (l:=[1,1,2,3]) h)))
 have k6:=Qv (n:=3) (Qv (n:=5-eL0 d) k4)
 have k7:dOk (eD7 d)=true:=by
  unfold eD7
  cases eB d
  ·exact k6
  ·exact Q8 (l:=[3,4,2]) k6
 exact (EY (dof (eD7 d) [1,2,1,3,0]).toNat nm (eD8 d) (Q8 (l:=[1,2,1,3,0]) k7)).1
theorem Qe3 {d:Dice}{nm:ByteArray}(h:dOk d=true):dOk (epN d nm)=true:=Qv (n:=3) (Qv (n:=5) (Qxn h))
def prZ:List Int->List Int->Dice->List Int×Dice
 | [],s,d=>(s,d)
 |x::r,s,d=>if ilt (Qc s) 16=true then (if Jd s x=true then prZ r s d else if done d 2=true then prZ r (s++[x]) (Qb d 2) else prZ r s (Qb d 2)) else (s,d)
theorem Qxo {d:Dice}{nm:ByteArray}(h:dOk d=true):(JC (epV d nm)).length<=10:=Qxm (Q8 (l:=[1,1,2,3]) h)
end
end Go.Proofs.YtmjnnemhoeolgaaGreat.K
noncomputable section
namespace Go.Proofs.YtmjnnemhoeolgaaGreat.K
open Go.RowKit
noncomputable section
end
end Go.Proofs.YtmjnnemhoeolgaaGreat.K
noncomputable section
namespace Go.Proofs.YtmjnnemhoeolgaaGreat.K
open Go.RowKit
noncomputable section
end
end Go.Proofs.YtmjnnemhoeolgaaGreat.K
noncomputable section
namespace Go.Proofs.YtmjnnemhoeolgaaGreat.K
open Go.RowKit
noncomputable section
def Oq (s:Endpoint)(o:List Int)(v:Int)(k:Nat):List Keep:=((List.range' k (17-k)).filter fun (j:Nat)=>Gs s o v (j:Int)).map fun (j:Nat)=>(v,((j:Int),()))
def Er (s:Endpoint)(o:List Int)(v n:Nat):List Keep:=(List.range' v n).flatMap fun (j:Nat)=>Oq s o (j:Int) 1
abbrev hiC (c s:Endpoint):Int:=imn c.2.2.1 s.2.2.1
abbrev loC (c s:Endpoint):Int:=imx c.2.1 s.2.1
def GA (c s:Endpoint):List Keep:=bif !Gt c s then [] else Er s (JC c) (loC c s).toNat (hiC c s+1-loC c s).toNat
end
end Go.Proofs.YtmjnnemhoeolgaaGreat.K
noncomputable section
namespace Go.Proofs.YtmjnnemhoeolgaaGreat.K
open Go.RowKit
noncomputable section
theorem Qxp (l:List Int):(ZG l).Pairwise (· ≤ ·):=by
 have:=List.pairwise_mergeSort (le:=fun x y:Int=>decide (x<=y)) (fun a b c h1 h2=>by simp only [Ba] at *; omega) (fun a b=>by simp only [Dc,Ba];omega) l
 exact this.imp fun h=>BI h
theorem Qxq {l:List Int}{p:Int->Bool}(hn:l.Nodup)(hr: ∀ x∈l,1<=x/\x<=16)(hp: ∀ x,p x=true->x∈l):(ZG l).filter p=(((List.range' 1 16).filter fun (j:Nat)=>p (j:Int)).map fun (j:Nat)=>(j:Int)):=by
 have hperm:(ZG l).Perm l:=List.mergeSort_perm _ _
 refine List.Perm.eq_of_pairwise (le:=(· ≤ ·)) (fun a b _ _ h1 h2=>by omega) ((Qxp l).filter _) ?_ ?_
 ·rw [List.pairwise_map]
  refine List.Pairwise.filter _ ?_
  refine (List.pairwise_lt_range' (s:=1) (n:=16)).imp fun h=>by omega
 ·refine (List.perm_ext_iff_of_nodup ((hperm.nodup_iff.2 hn).filter _) ?_).2 fun a=> ?_
  ·rw [List.nodup_iff_pairwise_ne,List.pairwise_map]
   refine List.Pairwise.filter _ ?_
   refine (List.pairwise_lt_range' (s:=1) (n:=16)).imp fun h=>by omega
  ·simp only [List.mem_filter,B6,List.mem_range'_1,hperm.mem_iff]
   constructor
   ·rintro ⟨h1,h2⟩
    have:=hr a h1
    exact ⟨a.toNat,⟨by omega,by rw [Int.toNat_of_nonneg (by omega)];exact h2⟩,Int.toNat_of_nonneg (by omega)⟩
   ·rintro ⟨j,⟨_,h2⟩,rfl⟩
    exact ⟨hp _ h2,h2⟩
def rowS (s:Endpoint)(o:List Int)(v:Int)(l:List Int):List Keep:=(l.filter fun j=>Gs s o v j).map fun j=>(v,(j,()))
theorem Qxr {l:List Int}(h:Z2 l=true): ∀ x∈l,1<=x/\x<=16:=by
 intro x hx
 obtain ⟨k,hk,rfl⟩:=List.mem_iff_getElem.1 hx
 exact (QgJ h k hk).1
theorem Qxs {s:Endpoint}{o:List Int}{v:Int}(h:Z2 o=true):rowS s o v (ZG o)=Oq s o v 1:=by
 unfold rowS Oq
 rw [Qxq (p:=fun j=>Gs s o v j) (QpI h) (Qxr h) (fun x hx=>by
  simp only [Gs,Bc] at hx
  exact BC.1 hx.2.2.2.1),DE]
 rfl
theorem Qxt {c:Endpoint}(h:QW c=true):Z2 (JC c)=true:=by
 simp only [QW,Bc] at h
 exact h.2.2.2.2.1
end
end Go.Proofs.YtmjnnemhoeolgaaGreat.K
noncomputable section
namespace Go.Proofs.YtmjnnemhoeolgaaGreat.K
open Go.RowKit Go.Shelf
attribute [local go_sem] Oper.semAt_some
set_option maxRecDepth 100000 in
set_option maxHeartbeats 1000000 in
theorem Qo0 (Bs b0 off c n:Nat)(A:Option Addr)(vs:List Value)(Xf:Nat->Nat->Prop)(w:World)(hreach:n*8<=140737488351232)(hvl:vs.length=n)
  (hBs:w.cell? ⟨Bs,0,none⟩=some (.slice A n c)) (hBl:Bs<w.heap.size)
  (hA:0<n->A=some ⟨b0,off,none⟩/\b0<w.heap.size/\(∀ j,j<vs.length→ ¬ Xf b0 (off+j))∧ ∀ j v,vs[j]? = some v->w.cell? ⟨b0,off+j,none⟩=some v):
  UL Tryz.prog 171 [.pointer (some ⟨Bs,0,none⟩)] (vs.map fun v=> #[v]) Xf w:=by
 intro l J Jx W hJ hJx hK hY h0 hst
 have HA:=Lib.hid hA
 clear hA
 refine callsIn_of_wp (F:=Fw none) Tryz.func171 rfl trivial ?_ rfl
 simp only [Tryz.ntmps171,List.size_toArray,Bo,Bw,Nat.reduceAdd,Nat.reduceSub,Array.replicate_succ,Array.replicate_zero,List.push_toArray,List.append_toArray,BY,Du]
 have hb0:W.cell? ⟨Bs,0,none⟩=some (.slice A n c):=(hst Bs 0 hBl).trans hBs
 gi_wp2
 gi_loopw [7] (fun i wr=> ∃ k:Nat,k<=n/\i= .int .i64 (k:Int)/\J ((vs.drop k).map fun v=> #[v]) wr)
  (fun i _=>n-(intOf i).toNat)
 case atStart=>exact ⟨0,B7 _,rfl,h0⟩
 case round=>
  obtain ⟨k,hk,rfl,hJs⟩:=hrel
  by_cases hlt:k<n
  ·obtain ⟨rfl,hbl,hnx,hcl⟩:=HA.out (by omega)
   have hlt2:k<vs.length:=by omega
   rw [Bl hlt2,Bx] at hJs
   obtain ⟨fn,tmps,assign,body,hy,hR⟩:=hY _ _ wr hJs
   have hcx':wr.cell? ⟨b0,off+k,none⟩=some vs[k]:=((hK _ wr hJs).2 b0 _ hbl (hnx _ hlt2)).trans (hcl _ _ (Bh hlt2))
   clear hnx hcl hY
   gi_wp2
   refine hR.mono ?_
   rintro e W3 (⟨rfl,hJ3⟩|⟨rfl,hJx3⟩)
   ·gi_wp2
    go_roundw
    case rel=>exact ⟨k+1,by omega,by simp,hJ3⟩
    case measure=>simp [intOf];omega
   ·gi_wp2
    refine bodyPost_ret (results_none rfl _ _ _) rfl ?_
    exact ⟨⟨_,rfl⟩,.inr hJx3⟩
  ·obtain rfl:k=n:=by omega
   rw [List.drop_of_length_le (by omega)] at hJs
   gi_wp2
   go_end0
   exact ⟨⟨_,rfl⟩,.inl hJs⟩
def Y7 (l:List Int):Bool:=decide (l.length<=100000)
def XX (l:List Int):List (Int×Unit):=l.map fun x=>(x,())
def Qbg:Itr:=Uk [.ptr 50000 0] [(.sl tI)] (.pr tI .nil) (fun d=>(Y7 d.1)) (fun d=>(XX d.1))
def QAo:TC:=aF Tryz.f134 []
def g_f134:G:=gG 4 [] (fun _ _=>none)
def r_f134 (p0:List Int):OV:=some (.fn 171 [(.ptr 50000 0)],[.box (.t (.sl tI) p0)])
def Qo1:Ent:=Wu (.pr (.sl tI) .nil) (fun _=>true) (fun x=> .fn 171 [.ptr 50000 0]) (fun x=>[.box (.t (.sl tI) x.1)])
theorem QAp:EM 134 Qo1:=mS g_f134 QAo [((.t 2),none)] true (gB gN) fun m=>QeR m fun x _=>by kernel_rfl
theorem Qo2 (l:List Int):l.flatMap tI.cells=l.map fun x=>D.v (.int .i64 x):=by
 induction l with
 |nil=>rfl
 |cons x r ih=>rw [BL,ih,Bx];rfl
theorem QAq:Iters Tryz.prog (171+1000000) Qbg:=by
 refine Iters.strong (enters_of Tryz.func171 (by kernel_rfl) rfl) fun caps objs yr rows h X w σ lb hfin hl hc=> ?_
 unfold Qbg Uk at h
 split at h
 ·rename_i x d hx hd
  simp only [Bb,Bj] at h
  obtain ⟨hok,h⟩:=h
  cases h
  have hcaps:=Fb hx
  subst hcaps
  cases objs with
  |nil=>simp [Zn] at hd
  |cons o os=>
   cases o with
   |box cv=>
    cases os with
    |cons o2 os=>simp [Zn] at hd
    |nil=>
     simp only [Zn] at hd
     split at hd
     ·rename_i l u hl1 _
      simp only [Bb] at hd
      subst hd
      have hlen:l.length<=100000:=BI hok
      have hcv:=SV.rd_mk (s:= .ty (.sl tI)) (v:=cv) (x:=l) (by simpa [Ia,Ty.row] using hl1)
      subst hcv
      obtain ⟨⟨Bs,ty,us,h1,h2,h3,h4⟩,_⟩:=hl.at_ 0 _ rfl
      have h3':Cs X w σ [.sl (List.length l) (List.flatMap tI.cells l)] us:=h3
      obtain ⟨uv,rfl,h5⟩:=h3'.one
      simp only [C] at h5
      obtain ⟨A,c,rfl,g1,g2,g3,g4⟩:=h5
      simp only [Us,SV.mk,V.ds,V.d,Cs,C] at hc
      obtain ⟨p,ps,rfl,⟨b',e1,rfl⟩,rfl⟩:=hc
      have h1:σ 50000= .box Bs:=h1
      rw [h1] at e1
      injection e1 with e1
      subst e1
      have hcell:w.cell? ⟨Bs,0,none⟩=some (.slice A (List.length l) c):=by simp [World.cell?, h2]
      have hBl:=(BX.1 h2).1
      rcases DL (List.length l) with h0|hp
      ·have hl0:l=[]:=Bv h0
       subst hl0
       exact ⟨[],⟨rfl,fun i r v hr=>by simp [XX] at hr⟩,Qo0 Bs 0 0 c 0 A [] _ w (by omega) rfl hcell hBl (fun h=>absurd h (by omega))⟩
      ·obtain ⟨b0,off,vs,rfl,g5,g6⟩:=g4 hp
       have hvl:=g5.len
       rw [Qo2,BN] at hvl
       refine ⟨vs.map fun v=> #[v],⟨by simp [XX,hvl],fun i r v hr hv=> ?_⟩,Qo0 Bs b0 off c (List.length l) _ vs _ w (by omega) hvl hcell hBl (fun _=>⟨rfl,g6.lt,fun j hj hx=>g6.nx j hj hx,fun j v hv=>g6.at_ j v hv⟩)⟩
       rw [Qo2] at g5
       simp only [XX,B9,Bf] at hr hv
       obtain ⟨x,hx,rfl⟩:=hr
       obtain ⟨u,hu,rfl⟩:=hv
       have hd:(l.map fun x=>D.v (.int .i64 x))[i]? = some (.v (.int .i64 x)):=by rw [B9,hx];rfl
       obtain ⟨u2,hu2,hcu⟩:=g5.at_ hd
       rw [hu] at hu2
       injection hu2 with hu2
       subst hu2
       simp only [Ty.canon,V.ds,V.d,Cs]
       refine ⟨_,_,rfl, ?_,rfl⟩
       rw [(C.v hcu).1]
       simp only [Ty.d,C]
       exact ⟨trivial,rfl⟩
     ·cases hd
   |no=>simp [Zn] at hd
   |arr e t l=>simp [Zn] at hd
 ·cases h
end Go.Proofs.YtmjnnemhoeolgaaGreat.K
noncomputable section
namespace Go.Proofs.YtmjnnemhoeolgaaGreat.K
open Go.RowKit
noncomputable section
def idL (l:List Int):List Int:=l
def Ed (l:List Int):List Int:=ZG l
abbrev QbR:Sh:=⟨[(2,.ptr 60000 0)],[(60000,.bag [.ms 20200]),(11,.no),(20200,.arr 3 tI),(50000,.box (.sl tI))]⟩
def UC:Fg:=QbR.f
def QbS:TC:=(.reg (rT Tryz.f201 2))
def QbT:TC:=(.bk 1 (.reg (rT Tryz.f201 3)))
def QB3:TC:=(.sq (.reg (rT Tryz.f201 0)) (.sq (.sq (.reg (rT Tryz.f201 1)) (.bk 0 (.nf 2 0 3 20200 (.rf 0 UC (.t 6) (.pr tI .nil) [7] [2] QbS QbT)))) (.sq (.reg (rT Tryz.f201 4)) .rt)))
def I5 (JW Qa:List Int):VS:=QbR.st ((),()) (((),()),(),JW,Qa,())
def QbU:VS->List (Ty.T (.pr tI .nil))->Option (Bool×List (Bool×Exit×VS)):=mkR QbR (fun zs x y=>(decide (zs.length+y.2.2.1.length<=100000))) (fun zs x y=>[(true,.normal,I5 (y.2.2.1++zs.map (fun z=>z.1)) (y.2.2.2.1))])
def Ee:G:=⟨TYs,[],13,EL [],YU,(Ls [fun _=>none]),IL [(1000171,Qbg)],(RL [⟨(.pr tI .nil),QbU⟩])⟩
def QqN (z:(Int×Unit))(JW Qa:List Int):OX:=br (QC JW ([z.1]) 8) (some (.normal,I5 (JW++([z.1])) Qa)) none
def Qhk (zs:List (Int×Unit))(JW Qa:List Int):OX:=Yx (XD Ee UC (.pr tI .nil) [7] QbS QbT) zs (I5 JW Qa)
def Qhl (z:(Int×Unit))(zs:List (Int×Unit))(JW Qa:List Int):OX:=br (QC JW ([z.1]) 8) (Qhk zs (JW++([z.1])) Qa) none
def Qhm (zs:List (Int×Unit))(JW Qa:List Int):OX:=some (.normal,I5 (JW++zs.map (fun z=>z.1)) (Qa))
theorem QB4 (z:(Int×Unit))(JW Qa:List Int):XD Ee UC (.pr tI .nil) [7] QbS QbT z (I5 JW Qa)=QqN z JW Qa:=by kernel_rfl
theorem QB5 (z:(Int×Unit))(zs:List (Int×Unit))(JW Qa:List Int):Qhk (z::zs) JW Qa=Qhl z zs JW Qa:=(Qmf _ _ _ _).trans (by
 rw [QB4]
 simp only [QqN,Qhl,Gb,Fc,Fd,Fe,Ff]
 rfl)
def QqO (d0:List Int):OV:=br (Y7 d0) (br (decide ((XX d0).length+([]:List Int).length<=100000)) (some (.ms 50001,[.box (.t (.sl tI) (d0)),.arr 3 tI (([]:List Int)++(XX d0).map (fun z=>z.1))])) none) none
theorem QB6 (zs:List (Int×Unit))(JW Qa:List Int)(h:(decide (zs.length+JW.length<=100000))=true):Qhk zs JW Qa=Qhm zs JW Qa:=by
 induction zs generalizing JW with
 |nil=>
  simp only [Qhm,List.map_nil,BR]
  rfl
 |cons z zs ih=>
  rw [QB5]
  have h:=BI h
  rw [Bo] at h
  have c1:QC JW [z.1] 8=true:=JF (by omega) (by simp only [Bp];omega)
  simp only [Qhl,c1,Qd]
  rw [ih (JW++[z.1]) (Be (by simp only [Bm,Bp];omega))]
  simp only [Qhm,Bx,BV,BO]
theorem QB7: ∀ S (rows:List (Ty.T (.pr tI .nil))) l p,Ee.R 0 (fgt UC S) (.pr tI .nil) rows=some (true,l)->ZK l=some p->Yx (XD Ee UC (.pr tI .nil) [7] QbS QbT) rows (fgt UC S)=some p:=by
 intro S rows l p hR hp
 rw [show Ee.R 0 (fgt UC S) (.pr tI .nil) rows=QbU (fgt UC S) rows from RL_at (l:=[⟨(.pr tI .nil),QbU⟩]) (j:=0) (F:=QbU) rfl _ _] at hR
 refine Qmd (s:=QbR) ⟨by decide,by decide⟩ (by kernel_rfl) (fun zs x y hok p hp=> ?_) S rows l p hR hp
 simp only [QF,QG] at hp
 exact (QB6 zs y.2.2.1 y.2.2.2.1 (by first|rfl|simpa using hok)).trans hp
theorem QB8 (l:List Int):(XX l).map (fun z=>z.1)=l:=by
 unfold XX
 rw [DE]
 exact List.map_id _
theorem QB9 (l:List Int)(h:Y7 l=true):QqO l=some (.ms 50001,[.box (.t (.sl tI) l),.arr 3 tI (idL l)]):=by
 have hl:l.length<=100000:=BI h
 have c1:decide ((XX l).length+([]:List Int).length<=100000)=true:=Be (by simp only [XX,BN,Bw];omega)
 simp only [QqO,h,Qd]
 refine Eq.trans (congrArg (fun b=>br b _ _) c1) ?_
 rw [Qd,BY,QB8]
 rfl
def QqP:Ent:=Y2 [.nl,.fn 171 [(50000,0)]] [.box (.sl tI)] (fun x y=>(Y7 y.1)) (fun x y=>(.ms 50001)) (fun x y=>[.box (.t (.sl tI) y.1),.arr 3 tI (idL y.1)])
theorem QCa:EM 201 QqP:=mS (lk:=(by repeat first|exact trivial|exact QB7|constructor)) Ee QB3 [((.t 4),none)] true (J8 _ (fun p hp=>by cases hp) [(1000171,Qbg)] (by
 intro p hp
 simp only [BD,BQ,De] at hp
 rcases hp with rfl
 ·exact QAq)) fun m=>Xn (YI m fun x y hok=>kT (QB9 y.1 hok))
def QCb:TC:=aF Tryz.f169 []
def QCc:G:=gG 5 [(201,QqP)] (fun _ _=>none)
def QqQ (d0:List Int):OV:=br (Y7 d0) (some (.ms 50001,[.box (.t (.sl tI) d0),.arr 3 tI (idL d0)])) none
theorem QCd (l:List Int)(h:Y7 l=true):QqQ l=some (.ms 50001,[.box (.t (.sl tI) l),.arr 3 tI (idL l)]):=by
 simp only [QqQ,h,Qd]
def QqR:Ent:=Y2 [.fn 171 [(50000,0)]] [.box (.sl tI)] (fun x y=>(Y7 y.1)) (fun x y=>(.ms 50001)) (fun x y=>[.box (.t (.sl tI) y.1),.arr 3 tI (idL y.1)])
theorem QCe:EM 169 QqR:=mS QCc QCb [((.t 2),none)] true (gB (gD QCa gN)) fun m=>Xn (YI m fun x y hok=>kT (QCd y.1 hok))
def QCf:TC:=aF Tryz.f133 []
def QCg:G:=gG 9 [(169,QqR),(170,QnY)] (fun _ _=>none)
def QqS (d0:List Int):OV:=br (Y7 d0) (br (V7 (idL d0)) (some (.ms 50001,[.box (.t (.sl tI) d0),.arr 3 tI (ZG (idL d0))])) none) none
theorem QCh (l:List Int)(h:Y7 l=true):QqS l=some (.ms 50001,[.box (.t (.sl tI) l),.arr 3 tI (Ed l)]):=by
 have hl:l.length<=100000:=BI h
 have c1:V7 (idL l)=true:=Be (by show l.length<_;omega)
 simp only [QqS,h,c1,Qd]
 rfl
def QqT:Ent:=Y2 [.fn 171 [(50000,0)]] [.box (.sl tI)] (fun x y=>(Y7 y.1)) (fun x y=>(.ms 50001)) (fun x y=>[.box (.t (.sl tI) y.1),.arr 3 tI (Ed y.1)])
theorem QCi:EM 133 QqT:=mS QCg QCf [((.t 2),none)] true (gB (gD QCe (gC Qzv Qzw gN))) fun m=>Xn (YI m fun x y hok=>kT (QCh y.1 hok))
end
end Go.Proofs.YtmjnnemhoeolgaaGreat.K
noncomputable section
namespace Go.Proofs.YtmjnnemhoeolgaaGreat.K
open Go.RowKit
noncomputable section
def Xc (t:Talk)(v:Int)(l:List Int):List Keep:=(l.filter fun j=>UB t j).map fun j=>(v,(j,()))
theorem QDZ {t:Talk}{v x:Int}{r:List Int}:Xc t v (x::r)=if UB t x=true then (v,(x,()))::Xc t v r else Xc t v r:=by
 unfold Xc
 rw [List.filter_cons]
 split<;>rfl
theorem QD0 (t:Talk)(v:Int)(l:List Int):(Xc t v l).length<=l.length:=by
 unfold Xc
 rw [BN]
 exact List.length_filter_le _ _
def UG (s:Endpoint)(o l:List Int)(v n:Nat):List Keep:=(List.range' v n).flatMap fun (j:Nat)=>Xc (s,((j:Int),(o,()))) (j:Int) l
theorem QD1 {s:Endpoint}{o:List Int}{v n:Nat}(h:Z2 o=true):UG s o (ZG o) v n=Er s o v n:=by
 unfold UG Er
 congr 1
 funext j
 exact Qxs h
abbrev QcC:Sh:=⟨[(2,.ptr 2 0),(3,.ptr 3 0),(5,.ms 5),(6,.ms 18),(7,.ty tI),(8,.ptr 8 0),(38,.ms 18),(39,.ty tI),(40,.ty tI)],[(2,.box QD),(3,.box QD),(5,.arr 54 Qe),(8,.box Oz),(18,.arr 3 tI),(52,.no),(5018,.no),(10018,.no),(15018,.no)]⟩
abbrev Or:Sh:=⟨[(2,.ptr 2 0),(3,.ptr 3 0),(5,.ms 5),(6,.ms 18),(7,.ty tI)],[(2,.box QD),(3,.box QD),(5,.arr 54 Qe),(18,.arr 3 tI),(52,.no),(5018,.no),(10018,.no),(15018,.no)]⟩
abbrev Qsm:Sh:=⟨[(5,.ms 5)],[(5,.arr 54 Qe),(52,.no)]⟩
def Qio:Fg:=QcC.f
def Qip:Fg:=Or.f
def Qiq:TC:=aF Tryz.f95 [(250,.nw 5 54),(250,pL 1 Qip),(4003,.fg Qsm.f),(32038,.nw 5 54),(32038,pL 0 Qio),(512613,.fg Or.f)]
def Qsn:TC:=lb 0 Qiq
def Qso:TC:=lb 1 Qiq
def Qsp (x7 x39 x40:Int)(y2 y3:Endpoint)(y5:List Keep)(y8:Talk)(y18:List Int):VS:=QcC.st ((),(),(),(),x7,(),(),x39,x40,()) (y2,y3,y5,y8,y18,(),(),(),(),())
def Ot (x7:Int)(y2 y3:Endpoint)(y5:List Keep)(y18:List Int):VS:=Or.st ((),(),(),(),x7,()) (y2,y3,y5,y18,(),(),(),(),())
def Qir (y5:List Keep):VS:=Qsm.st ((),()) (y5,(),())
def QD2:VS->Option (Bool×List (Bool×Exit×VS)):=mkL QcC (fun x y=>(decide (x.2.2.2.2.2.2.2.1=(y.2.2.2.2.1.length:Int)/\0<=x.2.2.2.2.2.2.2.2.1/\x.2.2.2.2.2.2.2.2.1<=x.2.2.2.2.2.2.2.1/\y.2.2.2.2.1.length<=16/\(y.2.2.1.length:Int)<=200+x.2.2.2.2.2.2.2.2.1)&&WU y.2.2.2.1 0)) (fun x y=>[(true,.exit 2,Ot (x.2.2.2.2.1) (y.1) (y.2.1) (y.2.2.1++Xc y.2.2.2.1 x.2.2.2.2.1 (y.2.2.2.2.1.drop x.2.2.2.2.2.2.2.2.1.toNat)) (y.2.2.2.2.1))])
def QD3:VS->Option (Bool×List (Bool×Exit×VS)):=mkL Or (fun x y=>(decide (1<=x.2.2.2.2.1/\x.2.2.2.2.1<=5/\hiC y.1 y.2.1<=4/\(y.2.2.1.length:Int)<=16*x.2.2.2.2.1/\y.2.2.2.1.length<=16)&&Gr y.2.1 (JC y.1))) (fun x y=>[(true,.exit 0,Qir (y.2.2.1++UG y.2.1 (JC y.1) y.2.2.2.1 x.2.2.2.2.1.toNat (hiC y.1 y.2.1+1-x.2.2.2.2.1).toNat))])
def Ou:G:=gG 55 [(132,Qqu),(133,QqT),(134,Qo1),(135,Qhc)] (Ls [QD2,QD3])
def Ov (x7 x39 x40:Int)(y2 y3:Endpoint)(y5:List Keep)(y8:Talk)(y18:List Int):OX:=Qx (Qz Ou Qio Qsn) (Qsp x7 x39 x40 y2 y3 y5 y8 y18)
def Ow (kk:Int->Int->Int->Endpoint->Endpoint->List Keep->Talk->List Int->OX)(x7 x39 x40:Int)(y2 y3:Endpoint)(y5:List Keep)(y8:Talk)(y18:List Int):OX:=
 let a1:=lgt tI y18 (Int.toNat x40)
 br (ilt x40 x39) (br (cIx y18 x40) (br (cLd y18 (Int.toNat x40)) (br (WU y8 a1) (br (UB y8 a1) (br (QC y5 ([(x7,(a1,()))]) 16) (kk x7 x39 (Qj .i64 x40 1) y2 y3 (y5++([(x7,(a1,()))])) y8 y18) none) (kk x7 x39 (Qj .i64 x40 1) y2 y3 y5 y8 y18)) none) none) none) (some (.exit 2,Ot x7 y2 y3 y5 y18))
def Ox (x7 x39 x40:Int)(y2 y3:Endpoint)(y5:List Keep)(y8:Talk)(y18:List Int):OX:=some (.exit 2,Ot (x7) (y2) (y3) (y5++Xc y8 x7 (y18.drop x40.toNat)) (y18))
theorem Qsq (x7 x39 x40:Int)(y2 y3:Endpoint)(y5:List Keep)(y8:Talk)(y18:List Int):Ov x7 x39 x40 y2 y3 y5 y8 y18=Ow Ov x7 x39 x40 y2 y3 y5 y8 y18:=lnT (x:=Ow (fun x7 x39 x40 y2 y3 y5 y8 y18=>some (.normal,Qsp x7 x39 x40 y2 y3 y5 y8 y18)) x7 x39 x40 y2 y3 y5 y8 y18) (by simp only [Ow,nxA];rfl)
def QcD (x7:Int)(y2 y3:Endpoint)(y5:List Keep)(y18:List Int):OX:=Qx (Qz Ou Qip Qso) (Ot x7 y2 y3 y5 y18)
def Es (kk:Int->Endpoint->Endpoint->List Keep->List Int->OX)(x7:Int)(y2 y3:Endpoint)(y5:List Keep)(y18:List Int):OX:=
 let a1:=((y3.1,(y3.2.1,(y3.2.2.1,(y3.2.2.2.1,(y3.2.2.2.2.1,(y3.2.2.2.2.2.1,(y3.2.2.2.2.2.2.1,(y3.2.2.2.2.2.2.2.1,(y3.2.2.2.2.2.2.2.2.1,()))))))))),(x7,(y2.2.2.2.1,())))
 br (ile x7 (imn y2.2.2.1 y3.2.2.1)) (br (decide ((Qc y18)=(y18.length:Int)/\0<=(0:Int)/\(0:Int)<=(Qc y18)/\y18.length<=16/\(y5.length:Int)<=200+(0:Int))&&WU a1 0) (kk (Qj .i64 (x7) 1) (y2) (y3) (y5++Xc a1 x7 (y18.drop (0:Int).toNat)) (y18)) none) (some (.exit 0,Qir y5))
def Oy (x7:Int)(y2 y3:Endpoint)(y5:List Keep)(y18:List Int):OX:=some (.exit 0,Qir (y5++UG y3 (JC y2) y18 x7.toNat (hiC y2 y3+1-x7).toNat))
theorem Qsr (x7:Int)(y2 y3:Endpoint)(y5:List Keep)(y18:List Int):QcD x7 y2 y3 y5 y18=Es QcD x7 y2 y3 y5 y18:=lnT (x:=Es (fun x7 y2 y3 y5 y18=>some (.normal,Ot x7 y2 y3 y5 y18)) x7 y2 y3 y5 y18) (by simp only [Es,nxA];rfl)
def r_f95 (p0 p1:Endpoint):OV:=
 let a1:=imx p0.2.1 p1.2.1
 br (WV p0 p1) (br (!(Gt p0 p1)) (some (.t (.sl Qe) ([]:List Keep),[])) (br (Y7 p0.2.2.2.1) (br (decide (1<=a1/\a1<=5/\hiC p0 p1<=4/\(([]:List Keep).length:Int)<=16*a1/\(Ed p0.2.2.2.1).length<=16)&&Gr p1 (JC p0)) (some (.t (.sl Qe) (([]:List Keep)++UG p1 (JC p0) (Ed p0.2.2.2.1) a1.toNat (hiC p0 p1+1-a1).toNat),[])) none) none)) none
theorem QD4 (x7 x39 x40:Int)(y2 y3:Endpoint)(y5:List Keep)(y8:Talk)(y18:List Int)(h:(decide (x39=(y18.length:Int)/\0<=x40/\x40<=x39/\y18.length<=16/\(y5.length:Int)<=200+x40)&&WU y8 0)=true):Ov x7 x39 x40 y2 y3 y5 y8 y18=Ox x7 x39 x40 y2 y3 y5 y8 y18:=by
 obtain ⟨h,hc⟩:=Bg.1 h
 obtain ⟨rfl,h1,h2,h3,h4⟩:=BI h
 clear h
 obtain ⟨k,rfl⟩:=Bt h1
 have key: ∀ k,k<=y18.length→ ∀ y5:List Keep,y5.length<=200+k->Ov x7 (y18.length:Int) (k:Int) y2 y3 y5 y8 y18=Ox x7 (y18.length:Int) (k:Int) y2 y3 y5 y8 y18:=by
  refine Q7 y18 (fun k=> ∀ y5:List Keep,y5.length<=200+k->Ov x7 (y18.length:Int) (k:Int) y2 y3 y5 y8 y18=Ox x7 (y18.length:Int) (k:Int) y2 y3 y5 y8 y18) ?_ ?_
  ·intro y5 _
   rw [Qsq]
   simp only [Ow,Ox,QH,Dg,Dp,Qh,Bd,Dd,Xc,List.filter_nil,List.map_nil,BR]
  ·intro k hk ih y5 hy
   rw [Qsq]
   have c1:cLd y18 k=true:=Be (by omega)
   have c2: ∀ v,WU y8 v=true:=fun v=>hc
   have c3: ∀ v:Keep,QC y5 [v] 16=true:=fun v=>JF (by omega) (by simp only [Bp];omega)
   simp only [Ow,QH,QS,hk,BK,Qd,Bd,Q3 (show k<4611686018427387904 by omega),Q2 (y:=tI) hk,c1,c2,c3]
   rw [ih y5 (by omega),ih (y5++[(x7,(y18[k],()))]) (by simp only [Bm,Bp];omega)]
   simp only [Ox,Bd,Bl hk,QDZ]
   cases UB y8 y18[k] with
   |true=>simp only [Qd,if_true,BV,BO]
   |false=>simp only [Qh,BJ,Dr]
 exact key k (by omega) y5 (by omega)
theorem QD5 (x7:Int)(y2 y3:Endpoint)(y5:List Keep)(y18:List Int)(h:(decide (1<=x7/\x7<=5/\hiC y2 y3<=4/\(y5.length:Int)<=16*x7/\y18.length<=16)&&Gr y3 (JC y2))=true):QcD x7 y2 y3 y5 y18=Oy x7 y2 y3 y5 y18:=by
 obtain ⟨h,hc⟩:=Bg.1 h
 obtain ⟨h0,h1,h2,h3,h4⟩:=BI h
 clear h
 obtain ⟨k,rfl⟩:=Bt (show 0<=x7 by omega)
 have key: ∀ (m k:Nat) (y5:List Keep),m=5-k->1<=k->k<=5->y5.length<=16*k->QcD (k:Int) y2 y3 y5 y18=Oy (k:Int) y2 y3 y5 y18:=by
  intro m
  induction m with
  |zero=>
   intro k y5 hm h0 h1 h3
   have:k=5:=by omega
   subst this
   rw [Qsr]
   have e:(hiC y2 y3+1-((5:Nat):Int)).toNat=0:=by omega
   simp only [Es,Oy,show ile ((5:Nat):Int) (imn y2.2.2.1 y3.2.2.1)=false from Bn (by show ¬ _<=hiC y2 y3;omega),Qh,e,UG,List.range'_zero,List.flatMap_nil,BR]
  |succ m ih=>
   intro k y5 hm h0 h1 h3
   rw [Qsr]
   by_cases hk:(k:Int)<=hiC y2 y3
   ·have e1:(hiC y2 y3+1-(k:Int)).toNat=(hiC y2 y3+1-((k+1:Nat):Int)).toNat+1:=by omega
    have c0:(decide (True/\(0:Int)<=0/\(0:Int)<=Qc y18/\y18.length<=16/\(y5.length:Int)<=200+0)&&WU (y3,((k:Int),(JC y2,()))) 0)=true:=Bg.2 ⟨Be ⟨trivial,by simp only [Qc];omega⟩,hc⟩
    have hr:=QD0 (y3,((k:Int),(JC y2,()))) (k:Int) y18
    have hi:=ih (k+1) (y5++Xc (y3,((k:Int),(JC y2,()))) (k:Int) y18) (by omega) (by omega) (by omega) (by simp only [Bm];omega)
    simp only [Es,show ile (k:Int) (imn y2.2.2.1 y3.2.2.1)=true from Be hk,Qd,Q3 (show k<4611686018427387904 by omega),eEta]
    refine Eq.trans (congrArg (fun b=>br b _ _) c0) ?_
    rw [Qd]
    refine Eq.trans hi ?_
    simp only [Oy,Bd,e1,UG,DI,BL,BV]
   ·have e1:(hiC y2 y3+1-(k:Int)).toNat=0:=by omega
    simp only [Es,show ile (k:Int) (imn y2.2.2.1 y3.2.2.1)=false from Bn hk,Qh,Oy,e1,UG,List.range'_zero,List.flatMap_nil,BR]
 exact key (5-k) k y5 rfl (by omega) (by omega) (by omega)
theorem QD6:LO Ou Qio Qsn 0:=QI (s:=QcC) fun x y h _ q=>by simp only [QF,QG] at q;exact (QD4 x.2.2.2.2.1 x.2.2.2.2.2.2.2.1 x.2.2.2.2.2.2.2.2.1 y.1 y.2.1 y.2.2.1 y.2.2.2.1 y.2.2.2.2.1 h).trans q
theorem QD7:LO Ou Qip Qso 1:=QI (s:=Or) fun x y h _ q=>by simp only [QF,QG] at q;exact (QD5 x.2.2.2.2.1 y.1 y.2.1 y.2.2.1 y.2.2.2.1 h).trans q
theorem s_f95 (c s:Endpoint)(h:WV c s=true):r_f95 c s=some (.t (.sl Qe) (GA c s),[]):=by
 obtain ⟨hc,hs⟩:=Bg.1 h
 have hs':=QfC hs
 have hc':=QfC hc
 have c1:Y7 (JC c)=true:=Be hc'.2.1
 simp only [r_f95,h,c1,Qd]
 unfold GA
 cases hr:Gt c s with
 |false=>rfl
 |true=>
  obtain ⟨hv,hw⟩:=Bg.1 hr
  have v1:=QaA hv
  have v2:=QaA hw
  have hsu:=Qxt hv
  have b1:1<=loC c s/\loC c s<=4:=by simp only [loC,imx];omega
  have b2:hiC c s<=4:=by simp only [hiC,imn];omega
  have b3:(Ed (JC c)).length<=16:=by
   show (ZG (JC c)).length<=16
   rw [show (ZG (JC c)).length=(JC c).length from List.length_mergeSort _]
   exact QAO hsu
  have c0:(decide (1<=loC c s/\loC c s<=5/\hiC c s<=4/\(([]:List Keep).length:Int)<=16*loC c s/\(Ed (JC c)).length<=16)&&Gr s (JC c))=true:=Bg.2 ⟨Be ⟨b1.1,by omega,b2,by simp only [Bw];omega,b3⟩,Be ⟨hs'.2.2.1,hs'.2.1,hc'.2.1⟩⟩
  rw [BM,Qh,Dj]
  refine Eq.trans (congrArg (fun b=>br b _ _) c0) ?_
  rw [Qd, ← QD1 hsu]
  rfl
def Qss:Ent:=Ql (.pr QD (.pr QD .nil)) (fun x=>(WV x.1 x.2.1)) (fun x=>(.t (.sl Qe) (GA x.1 x.2.1)))
theorem ms_f95:EM 95 Qss:=mS (lk:=lkL (lkc QD7 (lkc QD6 lkn))) Ou Qiq [((.t 4),some (.sl Qe))] false (gB (gD QBD (gD QCi (gD QAp (gD Qqs gN))))) fun m=>Qr m fun x hok=>kT (s_f95 x.1 x.2.1 hok)
end
end Go.Proofs.YtmjnnemhoeolgaaGreat.K
noncomputable section
namespace Go.Proofs.YtmjnnemhoeolgaaGreat.K
open Go.RowKit
noncomputable section
end
end Go.Proofs.YtmjnnemhoeolgaaGreat.K
noncomputable section
namespace Go.Proofs.YtmjnnemhoeolgaaGreat.K
open Go.RowKit
noncomputable section
theorem QoL {d:Dice}{i s:ByteArray}{k:Keep}{id g:Int}{a:Bool}(hi:i.size<=1000)(hs:s.size<=1000):Jv (Yo d i s k id g a)=true:=by
 unfold Yo YW
 cases EN (XW d i s k id a) g with
 |true=>rfl
 |false=>
  rw [Dj]
  have:Jv (XW d i s k id a)=true:=by
   refine Qge hi hs ?_ ?_
   ·unfold cNm
    cases done (cD5 d a) 3<;>simp
   ·intro t ht
    unfold cNm at ht
    cases hd:done (cD5 d a) 3 with
    |true=>
     rw [hd] at ht
     simp only [Dn,BD,BQ,De] at ht
     rcases ht with rfl|rfl
     ·omega
     ·rw [QoI];show s.size+1<=_;omega
    |false=>
     rw [hd] at ht
     simp only [Dj,BD,BQ,De] at ht
     subst ht
     omega
  exact this
theorem QoM: ∀ (m i:Nat) (u:Up),u.2.2.1.size<=1000->u.1.all Jv=true->(Xa m i u).1.all Jv=true/\(Xa m i u).2.2.1.size<=1000
 |0,_,u,h,h2=>⟨h2,h⟩
 |m+1,i,(ab,d,iss,g),h,h2=>by
  have hs:=Qhu i
  refine QoM m (i+1) _ (show (Yp.getD i ByteArray.empty).size<=1000 by omega) ?_
  rw [BZ,QoL h (by omega)]
  exact h2
theorem Qz0 {d:Dice}{nm:ByteArray}{k:Keep}{id:Int}(hn:nm.size<=1000)(hd:dOk d=true):Xj (ZV d nm k id)=true:=by
 have hu0:Yq ([],Qb (Qk d [1,0,2]) 2,Xy,1+Qg (Qk d [1,0,2]) 2)=true:=Bg.2 ⟨Qv (n:=2) (Q8 (l:=[1,0,2]) hd),rfl⟩
 have hm:=J7 (d:=d) (l:=[1,0,2]) (by decide)
 simp only [BD,BQ,De] at hm
 obtain ⟨h1,h2⟩:=QoM (dof d [1,0,2]).toNat 0 ([],Qb (Qk d [1,0,2]) 2,Xy,1+Qg (Qk d [1,0,2]) 2) (show Xy.size<=1000 by decide) rfl
 have hl:=(Oc (dof d [1,0,2]).toNat 0 _ hu0).2
 simp only [Bw] at hl
 have hl2:(chU d).1.length<=3:=by
  unfold chU
  omega
 unfold ZV
 simp only [Xj,Bc,BZ,Bo,Ba]
 exact ⟨by omega,QoL h2 hn,h1⟩
theorem id_len {d:Dice}{nm:ByteArray}(hn:nm.size<=1000)(hd:dOk d=true):X6 (idV d nm)=true:=by
 show Xj (iCh d nm)=true
 unfold iCh
 cases !done (iD4 d) 9
 ·rfl
 ·exact Qz0 hn (Qv (n:=9) (Qv (n:=20) (Qeh hd)))
theorem QoN: ∀ (n:Nat) (nm:ByteArray) (d:Dice),nm.size<=1000->dOk d=true->(JJ n nm d).1.all X6=true
 |0,_,_,_,_=>rfl
 |n+1,nm,d,hn,hd=>by
  simp only [JJ,BZ,Bc]
  exact ⟨id_len hn hd,QoN n nm _ hn (EX hd)⟩
theorem Qz1 {d:Dice}{nm:ByteArray}(hn:nm.size<=1000)(hd:dOk d=true):(JY d nm).1.all X6=true/\(JY d nm).1.length<=3:=by
 have k4:=Qv (n:=2) (Qv (n:=2) (E6 (Q8 (l:=[1,1,2,3]) hd)))
 have k6:=Qv (n:=3) (Qv (n:=5-eL0 d) k4)
 have k7:dOk (eD7 d)=true:=by
  unfold eD7
  cases eB d
  ·exact k6
  ·exact Q8 (l:=[3,4,2]) k6
 have k8:=Q8 (l:=[1,2,1,3,0]) k7
 have m7:=J7 (d:=eD7 d) (l:=[1,2,1,3,0]) (by decide)
 simp only [BD,BQ,De] at m7
 refine ⟨QoN _ _ _ hn k8, ?_⟩
 have:=(EY (dof (eD7 d) [1,2,1,3,0]).toNat nm (eD8 d) k8).2
 unfold JY
 omega
theorem QoO {l:List (List Int)}(h: ∀ x∈l,x.length<=4)(k:Nat):(lgt (.sl tI) l k).length<=4:=by
 show (l.getD k []).length<=4
 rw [Bk]
 cases hk:l[k]? with
 |none=>exact B7 _
 |some x=>exact h x (Dk hk)
theorem an_len (d:Dice)(nm:ByteArray):(XZ (epV d nm)).length<=4:=QoO (by simp) _
theorem hs_len (d:Dice)(nm:ByteArray):(WS (epV d nm)).length<=4:=QoO (by simp) _
theorem Qz2 {e:Endpoint}(h1:e.1.size<=1000)(h2:(JC e).length<=1000)(h3:(JO e).length<=1000)(h4:(XZ e).length<=1000)(h5:(WS e).length<=1000)(h6:(JO e).all X6=true):Jo e=true:=by
 simp only [Jo,Bc,Ba]
 exact ⟨⟨Be (by omega),by omega,by omega,by omega,by omega⟩,h6⟩
theorem QoP {d:Dice}{nm:ByteArray}(hn:nm.size<=1000)(hd:dOk d=true):(JO (epV d nm)).all X6=true/\(JO (epV d nm)).length<=3:=Qz1 hn hd
theorem QoQ (d:Dice)(nm:ByteArray):(epV d nm).1=nm:=rfl
attribute [local irreducible] epV epN prZ
end
end Go.Proofs.YtmjnnemhoeolgaaGreat.K
noncomputable section
namespace Go.Proofs.YtmjnnemhoeolgaaGreat.K
open Go.RowKit
noncomputable section
end
end Go.Proofs.YtmjnnemhoeolgaaGreat.K
noncomputable section
namespace Go.Proofs.YtmjnnemhoeolgaaGreat.K
open Go.RowKit
noncomputable section
def XO:Option Int->List Link->Bool
 |_,[]=>true
 |pv,x::r=>JG x.1&&decide (0<=x.2.1/\x.2.1<=40000)&&(match pv with|none=>true|some d=>decide (d<x.2.1))&&XO (some x.2.1) r
theorem QmT (pv:Option Int)(x:Link)(r:List Link):XO pv (x::r)=(JG x.1&&decide (0<=x.2.1/\x.2.1<=40000)&&(match pv with|none=>true|some d=>decide (d<x.2.1))&&XO (some x.2.1) r):=by cases pv<;>rfl
def XP (l:List Link)(k:Nat):Option Int:=if k=0 then none else (l[k-1]?).map fun x:Link=>x.2.1
def Yk (i:Item):Bool:=Q6 i.1&&decide (1<=i.2.1/\i.2.1<=2)&&decide (1<=i.2.2.1/\i.2.2.1<=4)&&decide (1<=i.2.2.2.1.length/\i.2.2.2.1.length<=8)&&XO none i.2.2.2.1&&decide ((i.2.2.2.1.headD ((0,(0,())),(0,()))).2.1<=i.2.2.2.2.1/\i.2.2.2.2.1<=40000)
def WA (i:Item):Int:=if Yk i then 0 else 30
def WB (i:Item):Bool:=Jk i.1
abbrev Qah:Sh:=⟨[(1,.ptr 1 0),(45,.ty (.sl Zi)),(46,.ty tI),(47,.ty tI)],[(1,.box JD)]⟩
abbrev QmU:Sh:=⟨[(2,.ty tI)],[]⟩
abbrev QmV:Sh:=⟨[(1,.ptr 1 0)],[(1,.box JD)]⟩
def Qfd:Fg:=Qah.f
def QmW:TC:=aF Tryz.f49 [(122,pL 0 Qfd),(1957,.fg QmV.f),(15666,pD [(0,[5]),(1,[5]),(2,[]),(3,[]),(4,[]),(5,[5]),(6,[5]),(7,[]),(8,[]),(9,[]),(10,[5]),(11,[5]),(12,[]),(13,[]),(14,[]),(15,[]),(16,[]),(17,[]),(18,[1]),(19,[1]),(20,[]),(21,[]),(22,[]),(23,[]),(24,[]),(25,[5]),(26,[5]),(27,[]),(28,[]),(29,[])] (.of [0,1,2,3,4,5,6,7,8,9,10,11,12,13,14,15,16,17,18,19,20,21,22,23,24,25,26,27,28,29])),(62669,.fg QmU.f),(124,pD [(0,[1]),(1,[1]),(2,[1]),(3,[1]),(4,[]),(5,[]),(6,[]),(7,[]),(8,[]),(9,[1]),(10,[1]),(11,[]),(12,[])] (.of [0,1,2,3,4,5,6,7,8,9,10,11,12]))]
def QmX:TC:=lb 0 QmW
def QmY (x45:List Link)(x46 x47:Int)(y1:Item):VS:=Qah.st ((),x45,x46,x47,()) (y1,())
def Gd (x2:Int):VS:=QmU.st (x2,()) ()
def Qfe (y1:Item):VS:=QmV.st ((),()) (y1,())
def QxN:VS->Option (Bool×List (Bool×Exit×VS)):=mkL Qah (fun x y=>((x.2.1==y.1.2.2.2.1)&&QB x.2.1 x.2.2.1 x.2.2.2.1)) (fun x y=>[((!(XO (XP x.2.1 x.2.2.2.1.toNat) (x.2.1.drop x.2.2.2.1.toNat))),.ret,Gd (30)),(true,.exit 0,Qfe (y.1))])
def Qff:G:=gG 96 [(86,II),(87,EE)] (Ls [QxN])
def Qai (x45:List Link)(x46 x47:Int)(y1:Item):OX:=Qx (Qz Qff Qfd QmX) (QmY x45 x46 x47 y1)
def Ih (kk:List Link->Int->Int->Item->OX)(x45:List Link)(x46 x47:Int)(y1:Item):OX:=
 let a1:=lgt Zi x45 (Int.toNat x47)
 br (ilt x47 x46) (br (cIx x45 x47) (br (!(JG (a1.1))) (some (.ret,Gd 30)) (br (ilt ((a1.2).1) 0) (some (.ret,Gd 30)) (br (igt ((a1.2).1) 40000) (some (.ret,Gd 30)) (br (igt x47 0) (br (cIx y1.2.2.2.1 (QT .i64 x47 1)) (br (ige (((lgt Zi y1.2.2.2.1 (Int.toNat (QT .i64 x47 1))).2).1) ((a1.2).1)) (some (.ret,Gd 30)) (kk x45 x46 (Qj .i64 x47 1) y1)) none) (kk x45 x46 (Qj .i64 x47 1) y1))))) none) (some (.exit 0,Qfe y1))
def Fo (x45:List Link)(x46 x47:Int)(y1:Item):OX:=br (!(XO (XP x45 x47.toNat) (x45.drop x47.toNat))) (some (.ret,Gd (30)))<|some (.exit 0,Qfe (y1))
theorem QmZ (x45:List Link)(x46 x47:Int)(y1:Item):Qai x45 x46 x47 y1=Ih Qai x45 x46 x47 y1:=lnT (x:=Ih (fun x45 x46 x47 y1=>some (.normal,QmY x45 x46 x47 y1)) x45 x46 x47 y1) (by simp only [Ih,nxA];rfl)
def Ii (p0:Item):OV:=
 let a1:=((((p0).2).2).2)
 let a2:=Qc p0.2.2.2.1
 br (ilt p0.2.2.1 1) (some (.t tI 30,[])) (br (igt p0.2.2.1 4) (some (.t tI 30,[])) (br (ilt a2 1) (some (.t tI 30,[])) (br (igt a2 8) (some (.t tI 30,[])) (br ((p0.2.2.2.1==p0.2.2.2.1)&&QB p0.2.2.2.1 a2 (0:Int)) (br (!(XO (XP p0.2.2.2.1 (0:Int).toNat) (p0.2.2.2.1.drop (0:Int).toNat))) (some (.t tI (30),[])) (br (cIx (a1.1) 0) (br (ilt ((a1.2).1) (((lgt Zi (a1.1) (Int.toNat 0)).2).1)) (some (.t tI 30,[])) (br (igt ((a1.2).1) 40000) (some (.t tI 30,[])) (some (.t tI 0,[])))) none)) none))))
def r_f49 (p0:Item):OV:=br (ieq p0.2.1 1) (br (Jk p0.1) (br (!(Q6 p0.1)) (some (.t tI 30,[])) (br (!true) (some (.t tI 30,[])) (Ii p0))) none) (br (Jk p0.1) (br (!(Q6 p0.1)) (some (.t tI 30,[])) (br (!(ieq p0.2.1 2)) (some (.t tI 30,[])) (Ii p0))) none)
theorem QxO (x45:List Link)(x46 x47:Int)(y1:Item)(h:((x45==y1.2.2.2.1)&&QB x45 x46 x47)=true):Qai x45 x46 x47 y1=Fo x45 x46 x47 y1:=by
 simp only [Bc,Db] at h
 obtain ⟨hx,h0⟩:=h
 obtain ⟨rfl,h3,k,rfl,hk⟩:=J5 h0
 clear h0
 refine Q7 x45 (fun k=>Qai x45 (x45.length:Int) (k:Int) y1=Fo x45 (x45.length:Int) (k:Int) y1) ?_ ?_ k hk
 ·rw [QmZ]
  simp [Ih,Fo,QH,Qh,XO]
 ·intro k hk ih
  rw [QmZ]
  have el:Fo x45 (x45.length:Int) (k:Int) y1=br (!(JG x45[k].1&&decide (0<=x45[k].2.1/\x45[k].2.1<=40000)&&(match XP x45 k with|none=>true|some d=>decide (d<x45[k].2.1)))) (some (.ret,Gd 30)) (Fo x45 (x45.length:Int) ((k+1:Nat):Int) y1):=by
   have e1:XP x45 (k+1)=some x45[k].2.1:=by
    unfold XP
    rw [if_neg (by omega),Nat.add_sub_cancel,Bh hk]
    rfl
   simp only [Fo,Bd,e1]
   rw [Bl hk,QmT]
   generalize (JG x45[k].1&&decide (0<=x45[k].2.1/\x45[k].2.1<=40000)&&(match XP x45 k with|none=>true|some d=>decide (d<x45[k].2.1)))=c
   cases c<;>rfl
  rw [el]
  simp only [Ih,QH,QS,hk,BK,Qd,Bd,Q3 (show k<4611686018427387904 by omega),Q2 (y:=Zi) hk,ih, ← hx]
  cases JG x45[k].1 with
  |false=>rfl
  |true=>
   simp only [BM,Qh,BH]
   by_cases c1:x45[k].2.1<0
   ·rw [show ilt x45[k].2.1 0=true from Be c1,Qd,Bn (show ¬ (0<=x45[k].2.1/\x45[k].2.1<=40000) by omega)]
    rfl
   ·rw [show ilt x45[k].2.1 0=false from Bn c1,Qh]
    by_cases c2:40000<x45[k].2.1
    ·rw [show igt x45[k].2.1 40000=true from Be (by omega),Qd,Bn (show ¬ (0<=x45[k].2.1/\x45[k].2.1<=40000) by omega)]
     rfl
    ·rw [show igt x45[k].2.1 40000=false from Bn (by omega),Qh,Be (show 0<=x45[k].2.1/\x45[k].2.1<=40000 by omega)]
     simp only [BH]
     by_cases hk0:k=0
     ·subst hk0
      rfl
     ·have hk1:k-1<x45.length:=by omega
      have e1:QT .i64 (k:Int) 1=((k-1:Nat):Int):=by rw [ZN (by omega)];omega
      have e2:igt (k:Int) 0=true:=by simp only [igt,Ba];omega
      have e3:XP x45 k=some x45[k-1].2.1:=by
       unfold XP
       rw [if_neg hk0,Bh hk1]
       rfl
      rw [e1,e2,e3,Qd]
      simp only [QS,hk1,BK,Qd,Bd,Q2 (y:=Zi) hk1]
      by_cases c3:x45[k-1].2.1<x45[k].2.1
      ·rw [show ige x45[k-1].2.1 x45[k].2.1=false from Bn (by omega),Qh,Be c3]
       rfl
      ·rw [show ige x45[k-1].2.1 x45[k].2.1=true from Be (by omega),Qd,Bn c3]
       rfl
theorem QxP:LO Qff Qfd QmX 0:=QI (s:=Qah) fun x y h _ q=>by simp only [QF,QG] at q;exact (QxO x.2.1 x.2.2.1 x.2.2.2.1 y.1 h).trans q
theorem Y3 {i:Item}:Yk i=true↔Q6 i.1=true/\(1<=i.2.1/\i.2.1<=2)/\(1<=i.2.2.1/\i.2.2.1<=4)/\(1<=i.2.2.2.1.length/\i.2.2.2.1.length<=8)/\XO none i.2.2.2.1=true/\(i.2.2.2.1.headD ((0,(0,())),(0,()))).2.1<=i.2.2.2.2.1/\i.2.2.2.2.1<=40000:=by
 unfold Yk
 simp only [Bc,Ba,and_assoc]
theorem s_f49 (i:Item)(h:WB i=true):r_f49 i=some (.t tI (WA i),[]):=by
 have h:Jk i.1=true:=h
 have bad:(Yk i=true->False)->some (V.t tI 30,([]:List VO))=some (V.t tI (WA i),[]):=fun hq=>by
  cases hi:Yk i with
  |false=>simp [WA,hi]
  |true=>exact (hq hi).elim
 have tail:Q6 i.1=true->(1<=i.2.1/\i.2.1<=2)->Ii i=some (.t tI (WA i),[]):=fun k1 k2=>by
  simp only [Ii]
  refine Q4 (fun g=>bad fun hq=> ?_) (fun g1=>Q4 (fun g=>bad fun hq=> ?_) (fun g2=>Q4 (fun g=>bad fun hq=> ?_) (fun g3=>Q4 (fun g=>bad fun hq=> ?_) (fun g4=> ?_))))
  ·have:=Y3.1 hq;simp only [ilt,Ba] at g;omega
  ·have:=Y3.1 hq;simp only [igt,Ba] at g;omega
  ·have:=Y3.1 hq;simp only [ilt,Qc,Ba] at g;omega
  ·have:=Y3.1 hq;simp only [igt,Qc,Ba] at g;omega
  ·simp only [ilt,igt,Qc,Bq] at g1 g2 g3 g4
   rw [beq_self_eq_true,BH,J6 (by omega),Qd]
   have e0:XP i.2.2.2.1 (0:Int).toNat=none:=rfl
   rw [e0,BA,BG]
   refine Q4 (fun g=>bad fun hq=> ?_) (fun g5=> ?_)
   ·have:=Y3.1 hq
    rw [this.2.2.2.2.1] at g
    cases g
   ·have hl:0<i.2.2.2.1.length:=by omega
    have e1:cIx i.2.2.2.1 0=true:=by simp only [cIx,Ba];omega
    have e2:lgt Zi i.2.2.2.1 0=i.2.2.2.1.headD ((0,(0,())),(0,())):=by
     cases hq:i.2.2.2.1 with
     |nil=>rw [hq] at hl;simp at hl
     |cons a l=>rfl
    rw [e1,Qd,e2]
    refine Q4 (fun g=>bad fun hq=> ?_) (fun g6=>Q4 (fun g=>bad fun hq=> ?_) (fun g7=> ?_))
    ·have:=Y3.1 hq;simp only [ilt,Ba] at g;omega
    ·have:=Y3.1 hq;simp only [igt,Ba] at g;omega
    ·simp only [ilt,igt,Bq] at g6 g7
     have:Yk i=true:=Y3.2 ⟨k1,k2,by omega,by omega,by simpa using g5,by omega,by omega⟩
     simp [WA,this]
 simp only [r_f49,Ii] at tail ⊢
 rw [h]
 simp only [Qd]
 refine Q4 (fun g1=>Q4 (fun g=>bad fun hq=> ?_) (fun g2=> ?_)) (fun g1=>Q4 (fun g=>bad fun hq=> ?_) (fun g2=>Q4 (fun g=>bad fun hq=> ?_) (fun g3=> ?_)))
 ·rw [(Y3.1 hq).1] at g;cases g
 ·simp only [Ui,Ba] at g1
  exact tail (by simpa using g2) (by omega)
 ·rw [(Y3.1 hq).1] at g;cases g
 ·have:=Y3.1 hq
  simp only [Ui,Bq,Br,Ba] at g1 g
  omega
 ·simp only [Ui,Bq,Bool.not_eq_false',Ba] at g1 g3
  exact tail (by simpa using g2) (by omega)
def Qm0:Ent:=Ql (.pr JD .nil) (fun x=>(WB x.1)) (fun x=>(.t tI (WA x.1)))
theorem ms_f49:EM 49 Qm0:=mS (lk:=lkL (lkc QxP lkn)) Qff QmW [((.t 2),some tI)] false (gB (gD Qa8 (gD O1 gN))) fun m=>Qr m fun x hok=>kT (s_f49 x.1 hok)
end
end Go.Proofs.YtmjnnemhoeolgaaGreat.K
noncomputable section
namespace Go.Proofs.YtmjnnemhoeolgaaGreat.K
open Go.RowKit
noncomputable section
abbrev Z0 (l:List Keep)(k:Nat):Keep:=l.getD k zK
def egLt (a b:Keep):Bool:= !igt a.1 b.1&& !(ieq a.1 b.1&&ige a.2.1 b.2.1)
def GQ (n:Int)(x:Keep):Bool:= !ilt x.1 0&&(!ige x.1 n&&(!ilt x.2.1 0&&(!ige x.2.1 n&& !ieq x.1 x.2.1)))
def O5 (n:Int)(l:List Keep)(k:Nat):Bool:=GQ n (Z0 l k)&&(decide (k=0)||egLt (Z0 l (k-1)) (Z0 l k))
def ZD (n:Int)(l:List Keep)(k:Nat):Bool:=(List.range' k (l.length-k)).all (O5 n l)
theorem QGl (n:Int)(l:List Keep):ZD n l l.length=true:=by
 unfold ZD
 rw [Nat.sub_self]
 rfl
theorem QGm {n:Int}{l:List Keep}{k:Nat}(hk:k<l.length):ZD n l k=(O5 n l k&&ZD n l (k+1)):=by
 have:l.length-k=(l.length-(k+1))+1:=by omega
 unfold ZD
 rw [this,DI,BZ]
theorem QGn {β:Type}(c1 c2 c3 c4 c5 u:Bool)(R E:Option β):br c1 R (br c2 R (br c3 R (br c4 R (br c5 R (br (!u) R E)))))=br (!(((!c1&&(!c2&&(!c3&&(!c4&& !c5))))&&true)&&u)) R E:=by
 cases c1<;>cases c2<;>cases c3<;>cases c4<;>cases c5<;>rfl
theorem QGo {β:Type}(c1 c2 c3 c4 c5 a b c u:Bool)(R E:Option β):br c1 R (br c2 R (br c3 R (br c4 R (br c5 R (br a R (br b (br c R (br (!u) R E)) (br (!u) R E)))))))=br (!(((!c1&&(!c2&&(!c3&&(!c4&& !c5))))&&(!a&& !(b&&c)))&&u)) R E:=by
 cases c1<;>cases c2<;>cases c3<;>cases c4<;>cases c5<;>cases a<;>cases b<;>cases c<;>rfl
theorem QuI {k:Nat}(hk:k<100000)(h0:k≠0):QT .i64 (k:Int) 1=((k-1:Nat):Int):=by
 rw [ZN (by omega)]
 omega
def O6 (l:List Keep)(n:Int):Bool:=ZD n l 0&&ile (Qc l) 40
def Qdw (l:List Keep)(_n:Int):Bool:=decide (l.length<=99999)
abbrev Qdx:Sh:=⟨[(0,.ty (.sl Qe)),(1,.ty tI),(7,.ty (.sl Qe)),(8,.ty tI),(9,.ty tI)],[]⟩
abbrev QjH:Sh:=⟨[(4,.ty .bool)],[]⟩
abbrev QuJ:Sh:=⟨[(0,.ty (.sl Qe))],[]⟩
def QjI:Fg:=Qdx.f
def QuK:TC:=aF Tryz.f50 [(26,pL 0 QjI),(421,.fg QuJ.f),(27029,.fg QjH.f),(6758,pD [(0,[]),(1,[]),(2,[]),(3,[]),(4,[]),(5,[]),(6,[]),(7,[]),(8,[]),(9,[6]),(10,[6]),(11,[]),(12,[]),(13,[]),(14,[]),(15,[]),(16,[]),(17,[]),(18,[]),(19,[6]),(20,[6]),(21,[]),(22,[]),(23,[]),(24,[]),(25,[]),(26,[]),(27,[]),(28,[]),(29,[6]),(30,[6]),(31,[]),(32,[]),(33,[]),(34,[])] (.of [0,1,2,3,4,5,6,7,8,9,10,11,12,13,14,15,16,17,18,19,20,21,22,23,24,25,26,27,28,29,30,31,32,33,34])),(27037,.fg QjH.f)]
def QuL:TC:=lb 0 QuK
def QuM (x0:List Keep)(x1:Int)(x7:List Keep)(x8 x9:Int):VS:=Qdx.st (x0,x1,x7,x8,x9,()) ()
def Ud (x4:Bool):VS:=QjH.st (x4,()) ()
def QjJ (x0:List Keep):VS:=QuJ.st (x0,()) ()
def QGp:VS->Option (Bool×List (Bool×Exit×VS)):=mkL Qdx (fun x y=>(x.2.2.1==x.1&&(QB x.2.2.1 x.2.2.2.1 x.2.2.2.2.1&&decide (x.2.2.1.length<=99999)))) (fun x y=>[((!ZD x.2.1 x.2.2.1 x.2.2.2.2.1.toNat),.ret,Ud (false)),(true,.exit 0,QjJ (x.1))])
def QjK:G:=gG 80 [] (Ls [QGp])
def Qdy (x0:List Keep)(x1:Int)(x7:List Keep)(x8 x9:Int):OX:=Qx (Qz QjK QjI QuL) (QuM x0 x1 x7 x8 x9)
def O7 (kk:List Keep->Int->List Keep->Int->Int->OX)(x0:List Keep)(x1:Int)(x7:List Keep)(x8 x9:Int):OX:=
 let a1:=lgt Qe x7 (Int.toNat x9)
 let a2:=lgt Qe x0 (Int.toNat (QT .i64 x9 1))
 let a3:=cIx x0 (QT .i64 x9 1)
 let a4:=Qj .i64 x9 1
 br (ilt x9 x8) (br (cIx x7 x9) (br (ilt (a1.1) 0) (some (.ret,Ud false)) (br (ige (a1.1) x1) (some (.ret,Ud false)) (br (ilt ((a1.2).1) 0) (some (.ret,Ud false)) (br (ige ((a1.2).1) x1) (some (.ret,Ud false)) (br (ieq (a1.1) ((a1.2).1)) (some (.ret,Ud false)) (br (igt x9 0) (br a3 (br (igt (a2.1) (a1.1)) (some (.ret,Ud false)) (br a3 (br (ieq (a2.1) (a1.1)) (br a3 (br (ige ((a2.2).1) ((a1.2).1)) (some (.ret,Ud false)) (kk x0 x1 x7 x8 a4)) none) (kk x0 x1 x7 x8 a4)) none)) none) (kk x0 x1 x7 x8 a4))))))) none) (some (.exit 0,QjJ x0))
def Qdz (x0:List Keep)(x1:Int)(x7:List Keep)(x8 x9:Int):OX:=br (!ZD x1 x7 x9.toNat) (some (.ret,Ud (false)))<|some (.exit 0,QjJ (x0))
theorem QuN (x0:List Keep)(x1:Int)(x7:List Keep)(x8 x9:Int):Qdy x0 x1 x7 x8 x9=O7 Qdy x0 x1 x7 x8 x9:=lnT (x:=O7 (fun x0 x1 x7 x8 x9=>some (.normal,QuM x0 x1 x7 x8 x9)) x0 x1 x7 x8 x9) (by simp only [O7,nxA];rfl)
def r_f50 (p0:List Keep)(p1:Int):OV:=br (p0==p0&&(QB p0 (Qc p0) (0:Int)&&decide (p0.length<=99999))) (br (!ZD p1 p0 (0:Int).toNat) (some (.t .bool (false),[])) (some (.t .bool (ile (Qc (p0)) 40),[]))) none
theorem QGq (x0:List Keep)(x1:Int)(x7:List Keep)(x8 x9:Int)(h:(x7==x0&&(QB x7 x8 x9&&decide (x7.length<=99999)))=true):Qdy x0 x1 x7 x8 x9=Qdz x0 x1 x7 x8 x9:=by
 simp only [Bc,Db,Ba] at h
 obtain ⟨rfl,h0,hl⟩:=h
 obtain ⟨rfl,h3,k,rfl,hk⟩:=J5 h0
 clear h0
 refine Q7 x7 (fun k=>Qdy x7 x1 x7 (x7.length:Int) (k:Int)=Qdz x7 x1 x7 (x7.length:Int) (k:Int)) ?_ ?_ k hk
 ·rw [QuN]
  simp only [O7,Qdz,QH,Dg,Dp,Qh,Bd,QGl,BM]
 ·intro k hk ih
  rw [QuN]
  simp only [O7,QH,QS,hk,BK,Qd,Bd,Q3 (show k<4611686018427387904 by omega),ih]
  simp only [Qdz,Bd,QGm hk]
  by_cases hk0:k=0
  ·subst hk0
   rw [show igt ((0:Nat):Int) 0=false from rfl]
   simp only [Qh]
   exact QGn ..
  ·rw [show igt (k:Int) 0=true from Be (by omega),QuI (by omega) hk0]
   simp only [Qd,QS,show k-1<x7.length by omega,BK,Bd]
   unfold O5
   rw [show decide (k=0)=false from Bn hk0,Dm]
   exact QGo ..
theorem QGr:LO QjK QjI QuL 0:=QI (s:=Qdx) fun x y h _ q=>by simp only [QF,QG] at q;exact (QGq x.1 x.2.1 x.2.2.1 x.2.2.2.1 x.2.2.2.2.1 h).trans q
theorem s_f50 (l:List Keep)(n:Int)(h:Qdw l n=true):r_f50 l n=some (.t .bool (O6 l n),[]):=by
 have hl:l.length<=99999:=BI h
 simp only [r_f50,beq_self_eq_true,BH,J6 (show l.length<=100000 by omega),Be hl,Qd,BA]
 unfold O6
 cases ZD n l 0<;>rfl
def QuO:Ent:=Ql (.pr (.sl Qe) (.pr tI .nil)) (fun x=>(Qdw x.1 x.2.1)) (fun x=>(.t .bool (O6 x.1 x.2.1)))
theorem ms_f50:EM 50 QuO:=mS (lk:=lkL (lkc QGr lkn)) QjK QuK [((.t 4),some .bool)] false (gB gN) fun m=>Qr m fun x hok=>kT (s_f50 x.1 x.2.1 hok)
def Ya (i:Item):Bool:=ine (WA i) 0
theorem QGs (i:Item):Ya i= !Yk i:=by
 unfold Ya WA
 cases Yk i<;>rfl
def tc_f48:TC:=aF Tryz.f48 []
def g_f48:G:=gG 6 [(49,Qm0)] (fun _ _=>none)
def r_f48 (p0:Item):OV:=br (WB p0) (some (.t .bool (ine (WA p0) 0),[])) none
theorem s_f48 (i:Item)(h:WB i=true):r_f48 i=some (.t .bool (Ya i),[]):=by
 simp only [r_f48,h,Qd]
 rfl
def QuP:Ent:=Ql (.pr JD .nil) (fun x=>(WB x.1)) (fun x=>(.t .bool (Ya x.1)))
theorem ms_f48:EM 48 QuP:=mS g_f48 tc_f48 [((.t 2),some .bool)] false (gB (gD ms_f49 gN)) fun m=>Qr m fun x hok=>kT (s_f48 x.1 hok)
def Yb (l:List Item):Bool:=decide (l.length<=100000)&&l.all WB
theorem QGt {l:List Item}(h:Yb l=true){k:Nat}(hk:k<l.length):WB l[k]=true:=by
 simp only [Yb,Bc,Bi] at h
 exact h.2 _ (BE hk)
theorem QGu {l:List Item}(h:Yb l=true):l.length<=100000:=by
 simp only [Yb,Bc,Ba] at h
 exact h.1
def EF (l:List Item):Int:=match QA Ya l with|some k=>(k:Int)|none=> -1
abbrev QdA:Sh:=⟨[(0,.ty (.sl JD)),(1,.cf 48),(7,.ty tI),(8,.ty tI)],[]⟩
abbrev QuQ:Sh:=⟨[(4,.ty tI)],[]⟩
abbrev QuR:Sh:=⟨[],[]⟩
def QjL:Fg:=QdA.f
def QuS:TC:=aF Tryz.f85 [(26,pL 0 QjL),(421,.fg QuR.f),(13517,.fg QuQ.f)]
def QuT:TC:=lb 0 QuS
def QuU (x0:List Item)(x7 x8:Int):VS:=QdA.st (x0,(),x7,x8,()) ()
def QjM (x4:Int):VS:=QuQ.st (x4,()) ()
def QjN  : VS:=QuR.st () ()
def QGv:VS->Option (Bool×List (Bool×Exit×VS)):=mkL QdA (fun x y=>(QB x.1 x.2.2.1 x.2.2.2.1&&Yb x.1)) (fun x y=>[(((QA Ya (x.1.drop x.2.2.2.1.toNat)).isSome),.ret,QjM (x.2.2.2.1+((QA Ya (x.1.drop x.2.2.2.1.toNat)).getD 0:Nat))),(true,.exit 0,QjN)])
def QjO:G:=gG 19 [(48,QuP)] (Ls [QGv])
def QdB (x0:List Item)(x7 x8:Int):OX:=Qx (Qz QjO QjL QuT) (QuU x0 x7 x8)
def O8 (kk:List Item->Int->Int->OX)(x0:List Item)(x7 x8:Int):OX:=
 let a1:=lgt JD x0 (Int.toNat x8)
 br (ilt x8 x7) (br (cIx x0 x8) (br (WB a1) (br (Ya a1) (some (.ret,QjM x8)) (kk x0 x7 (Qj .i64 x8 1))) none) none) (some (.exit 0,QjN))
def QdC (x0:List Item)(x7 x8:Int):OX:=
 let a1:=QA Ya (x0.drop x8.toNat)
 br (a1.isSome) (some (.ret,QjM (x8+(a1.getD 0:Nat))))<|some (.exit 0,QjN)
theorem QuV (x0:List Item)(x7 x8:Int):QdB x0 x7 x8=O8 QdB x0 x7 x8:=lnT (x:=O8 (fun x0 x7 x8=>some (.normal,QuU x0 x7 x8)) x0 x7 x8) (by simp only [O8,nxA];rfl)
def QuW (p0:List Item):OV:=
 let a1:=(QA Ya (p0.drop (0:Int).toNat))
 br (QB p0 (Qc p0) (0:Int)&&Yb p0) (br (a1.isSome) (some (.t tI ((0:Int)+(a1.getD 0:Nat)),[])) (some (.t tI (-1),[]))) none
theorem QGw (x0:List Item)(x7 x8:Int)(h:(QB x0 x7 x8&&Yb x0)=true):QdB x0 x7 x8=QdC x0 x7 x8:=by
 simp only [Bc] at h
 obtain ⟨h0,hc⟩:=h
 obtain ⟨rfl,h3,k,rfl,hk⟩:=J5 h0
 clear h0
 refine Q7 x0 (fun k=>QdB x0 (x0.length:Int) (k:Int)=QdC x0 (x0.length:Int) (k:Int)) ?_ ?_ k hk
 ·rw [QuV]
  simp [O8,QdC,QH,Qh,QA]
 ·intro k hk ih
  rw [QuV]
  have hx:=QGt hc hk
  simp only [O8,QH,QS,hk,BK,Qd,Bd,Q3 (show k<4611686018427387904 by omega),ih,Q2 (y:=JD) hk,hx]
  simp only [QdC,Bd,Bl hk,QA]
  cases h:(Ya x0[k]) with
  |true=>simp [Qd]
  |false=>
   simp only [Qh,BJ,Dr]
   cases hq:QA Ya (x0.drop (k+1)) with
   |none=>rfl
   |some j=>
    simp only [B1,B4,BS,Qd]
    congr 3
    omega
theorem QGx:LO QjO QjL QuT 0:=QI (s:=QdA) fun x y h _ q=>by simp only [QF,QG] at q;exact (QGw x.1 x.2.2.1 x.2.2.2.1 h).trans q
theorem QGy (l:List Item)(h:Yb l=true):QuW l=some (.t tI (EF l),[]):=by
 have hl:=QGu h
 simp only [QuW,J6 hl,h,Dh,Qd,BA,BG,EF]
 cases QA Ya l<;>simp [Qd,Qh]
def QuX:Ent:=Zw [.ty (.sl JD),.cf 48] [] (fun x d=>(Yb x.1)) (fun x d=>(.t tI (EF x.1)))
theorem QGz:EM 85 QuX:=mS (lk:=lkL (lkc QGx lkn)) QjO QuS [((.t 4),some tI)] false (gB (gD ms_f48 gN)) fun m=>Zo m fun x d hok=>kT (QGy x.1 hok)
def GR (l:List Item):Bool:=l.any Ya
def QGA:TC:=aF Tryz.f47 []
def QGB:G:=gG 9 [(85,QuX)] (fun _ _=>none)
def QuY (p0:List Item):OV:=br (Yb p0) (some (.t .bool (ige (EF p0) 0),[])) none
theorem QGC (l:List Item)(h:Yb l=true):QuY l=some (.t .bool (GR l),[]):=by
 simp only [QuY,h,Qd]
 have e:ige (EF l) 0=GR l:=by
  unfold EF GR
  cases hq:QA Ya l with
  |none=>rw [IG.1 hq];rfl
  |some k=>
   rw [←Qa4,hq]
   simp only [ige,B4,Ba]
   omega
 rw [e]
def QuZ:Ent:=Zw [.ty (.sl JD),.cf 48] [] (fun x d=>(Yb x.1)) (fun x d=>(.t .bool (GR x.1)))
theorem QGD:EM 47 QuZ:=mS QGB QGA [((.t 4),some .bool)] false (gB (gD QGz gN)) fun m=>Zo m fun x d hok=>kT (QGC x.1 hok)
abbrev zEp:Endpoint:=Ty.zero QD
abbrev UT (l:List Endpoint)(k:Nat):Endpoint:=l.getD k zEp
def QjP (l m:List Endpoint)(k:Nat):Bool:=QW (UT l k)&&(decide (k=0)||slt (UT m (k-1)).1 (UT l k).1)
def XF (l m:List Endpoint)(k:Nat):Bool:=(List.range' k (l.length-k)).all (QjP l m)
abbrev QdD (l:List Endpoint)(k:Nat):Bool:=XF l l k
theorem QGE (l m:List Endpoint):XF l m l.length=true:=by
 unfold XF
 rw [Nat.sub_self]
 rfl
theorem QGF {l m:List Endpoint}{k:Nat}(hk:k<l.length):XF l m k=(QjP l m k&&XF l m (k+1)):=by
 have:l.length-k=(l.length-(k+1))+1:=by omega
 unfold XF
 rw [this,DI,BZ]
abbrev JL (e:Estate):List Endpoint:=e.1
abbrev JQ (e:Estate):List Keep:=e.2.1
abbrev UU (e:Estate):List Item:=e.2.2.1
def Jw (e:Estate):Bool:=QdD (JL e) 0&&((UU e).all Yk&&(ile (Qc (JL e)) 16&&(ile (Qc (UU e)) 30&&(ZD (Qc (JL e)) (JQ e) 0&&ile (Qc (JQ e)) 40))))
def Ue (e:Estate):Int:=bif Jw e then 0 else 31
theorem QdE (e:Estate):ine (Ue e) 0= !Jw e:=by
 unfold Ue
 cases Jw e<;>rfl
def J3 (e:Estate):Bool:=decide ((JL e).length<=99999/\(JQ e).length<=99999)&&((JL e).all Jo&&Yb (UU e))
theorem QGG (l:List Item):GR l= !l.all Yk:=by
 unfold GR
 rw [List.not_all_eq_any_not]
 congr 1
 funext x
 exact QGs x
theorem Qu0 (a b:Int):ile a b= !igt a b:=by
 simp only [ile,igt, ← decide_not,Int.not_lt]
theorem QGH {β:Type}(v s u:Bool)(R E:Option β):br (!v) R (br (!s) R (br (!u) R E))=br (!((v&&s)&&u)) R E:=by
 cases v<;>cases s<;>rfl
theorem QGI {β:Type}(v u:Bool)(R E:Option β):br (!v) R (br (!u) R E)=br (!((v&&true)&&u)) R E:=by
 cases v<;>rfl
abbrev QdF:Sh:=⟨[(1,.ptr 1 0),(7,.ty (.sl QD)),(8,.ty tI),(9,.ty tI)],[(1,.box QJ)]⟩
abbrev Qu1:Sh:=⟨[(2,.ty tI)],[]⟩
abbrev Qu2:Sh:=⟨[(1,.ptr 1 0)],[(1,.box QJ)]⟩
def QjQ:Fg:=QdF.f
def Qu3:TC:=aF Tryz.f27 [(26,pL 0 QjQ),(421,.fg Qu2.f),(3378,pD [(0,[4]),(1,[]),(2,[]),(3,[]),(4,[]),(5,[]),(6,[]),(7,[1]),(8,[1]),(9,[]),(10,[]),(11,[]),(12,[]),(13,[]),(14,[4]),(15,[4]),(16,[]),(17,[]),(18,[])] (.of [0,1,2,3,4,5,6,7,8,9,10,11,12,13,14,15,16,17,18])),(13517,.fg Qu1.f)]
def Qu4:TC:=lb 0 Qu3
def Qu5 (x7:List Endpoint)(x8 x9:Int)(y1:Estate):VS:=QdF.st ((),x7,x8,x9,()) (y1,())
def QdG (x2:Int):VS:=Qu1.st (x2,()) ()
def QjR (y1:Estate):VS:=Qu2.st ((),()) (y1,())
def QGJ:VS->Option (Bool×List (Bool×Exit×VS)):=mkL QdF (fun x y=>(decide (x.2.1.length=y.1.1.length/\x.2.1.length<=99999)&&(QB x.2.1 x.2.2.1 x.2.2.2.1&&x.2.1.all Jo))) (fun x y=>[((!XF x.2.1 y.1.1 x.2.2.2.1.toNat),.ret,QdG (31)),(true,.exit 0,QjR (y.1))])
def QjS:G:=gG 59 [(46,Qbv),(47,QuZ),(50,QuO)] (Ls [QGJ])
def QdH (x7:List Endpoint)(x8 x9:Int)(y1:Estate):OX:=Qx (Qz QjS QjQ Qu4) (Qu5 x7 x8 x9 y1)
def O9 (kk:List Endpoint->Int->Int->Estate->OX)(x7:List Endpoint)(x8 x9:Int)(y1:Estate):OX:=
 let a1:=lgt QD x7 (Int.toNat x9)
 br (ilt x9 x8) (br (cIx x7 x9) (br (Jo a1) (br (ine (YQ a1) 0) (some (.ret,QdG 31)) (br (igt x9 0) (br (cIx y1.1 (QT .i64 x9 1)) (br (!slt ((lgt QD y1.1 (Int.toNat (QT .i64 x9 1))).1) (a1.1)) (some (.ret,QdG 31)) (kk x7 x8 (Qj .i64 x9 1) y1)) none) (kk x7 x8 (Qj .i64 x9 1) y1))) none) none) (some (.exit 0,QjR y1))
def QdI (x7:List Endpoint)(x8 x9:Int)(y1:Estate):OX:=br (!XF x7 y1.1 x9.toNat) (some (.ret,QdG (31)))<|some (.exit 0,QjR (y1))
theorem Qu6 (x7:List Endpoint)(x8 x9:Int)(y1:Estate):QdH x7 x8 x9 y1=O9 QdH x7 x8 x9 y1:=lnT (x:=O9 (fun x7 x8 x9 y1=>some (.normal,Qu5 x7 x8 x9 y1)) x7 x8 x9 y1) (by simp only [O9,nxA];rfl)
def r_f27 (p0:Estate):OV:=
 let a1:=((((p0).2).2).1)
 let a2:=Qc ((p0).1)
 br (decide (p0.1.length=p0.1.length/\p0.1.length<=99999)&&(QB p0.1 (Qc p0.1) (0:Int)&&p0.1.all Jo)) (br (!XF p0.1 p0.1 (0:Int).toNat) (some (.t tI (31),[])) (br (Yb a1) (br (GR a1) (some (.t tI 31,[])) (br (igt a2 16) (some (.t tI 31,[])) (br (igt (Qc a1) 30) (some (.t tI 31,[])) (br (Qdw (((p0).2).1) a2) (br (!(O6 (((p0).2).1) a2)) (some (.t tI 31,[])) (some (.t tI 0,[]))) none)))) none)) none
theorem QGK (x7:List Endpoint)(x8 x9:Int)(y1:Estate)(h:(decide (x7.length=y1.1.length/\x7.length<=99999)&&(QB x7 x8 x9&&x7.all Jo))=true):QdH x7 x8 x9 y1=QdI x7 x8 x9 y1:=by
 simp only [Bc,Ba,Bi] at h
 obtain ⟨⟨hx,hl⟩,h0,ha⟩:=h
 obtain ⟨rfl,h3,k,rfl,hk⟩:=J5 h0
 clear h0
 refine Q7 x7 (fun k=>QdH x7 (x7.length:Int) (k:Int) y1=QdI x7 (x7.length:Int) (k:Int) y1) ?_ ?_ k hk
 ·rw [Qu6]
  simp only [O9,QdI,QH,Dg,Dp,Qh,Bd,QGE,BM]
 ·intro k hk ih
  rw [Qu6]
  have he:Jo (lgt QD x7 k)=true:=by rw [Q2 (y:=QD) hk];exact ha _ (BE hk)
  simp only [O9,QH,QS,hk,BK,Qd,Bd,Q3 (show k<4611686018427387904 by omega),ih,he,QpJ]
  simp only [QdI,Bd,QGF hk]
  by_cases hk0:k=0
  ·subst hk0
   rw [show igt ((0:Nat):Int) 0=false from rfl]
   simp only [Qh]
   exact QGI ..
  ·rw [show igt (k:Int) 0=true from Be (by omega),QuI (by omega) hk0]
   simp only [Qd,QS,show k-1<y1.1.length by omega,BK,Bd]
   unfold QjP
   rw [show decide (k=0)=false from Bn hk0,Dm]
   exact QGH ..
theorem QGL:LO QjS QjQ Qu4 0:=QI (s:=QdF) fun x y h _ q=>by simp only [QF,QG] at q;exact (QGK x.2.1 x.2.2.1 x.2.2.2.1 y.1 h).trans q
theorem s_f27 (e:Estate)(h:J3 e=true):r_f27 e=some (.t tI (Ue e),[]):=by
 simp only [J3,Bc,Ba] at h
 obtain ⟨⟨h1,h2⟩,h3,h4⟩:=h
 have h5:Qdw (JQ e) (Qc (JL e))=true:=Be h2
 simp only [JL,JQ,UU] at h1 h2 h3 h4 h5
 simp only [r_f27,J6 (show e.1.length<=100000 by omega),Be h1,true_and,BH,h3,h4,h5,Qd,BA,QGG]
 unfold Ue Jw O6
 simp only [JL,JQ,UU,QdD]
 rw [Qu0 (Qc e.1),Qu0 (Qc e.2.2.1)]
 cases XF e.1 e.1 0<;>cases e.2.2.1.all Yk<;>cases igt (Qc e.1) 16<;>cases igt (Qc e.2.2.1) 30<;>cases (ZD (Qc e.1) e.2.1 0&&ile (Qc e.2.1) 40)<;>rfl
def QdJ:Ent:=Ql (.pr QJ .nil) (fun x=>(J3 x.1)) (fun x=>(.t tI (Ue x.1)))
theorem QjT:EM 27 QdJ:=mS (lk:=lkL (lkc QGL lkn)) QjS Qu3 [((.t 2),some tI)] false (gB (gD QgO (gD QGD (gD ms_f50 gN)))) fun m=>Qr m fun x hok=>kT (s_f27 x.1 hok)
end
end Go.Proofs.YtmjnnemhoeolgaaGreat.K
