import Derived.Test.YthlcobdnemhcdaaGreatQ6
import Derived.Test.YthlcobdnemhcdaaGreatQ4
import Derived.Test.YthlcobdnemhcdaaGreatQ3
import Derived.Test.YthlcobdnemhcdaaGreatQ5
import Derived.Conc.LoneCalls
import Derived.RangeFuncCalls
import Derived.RangeFuncBound
import Derived.Shelf.RegionOpen
import Derived.OwnWalkIn
import Derived.TacticsInMore
import Derived.LoopNIn
import Derived.LoopIn
set_option linter.unusedSimpArgs false
set_option linter.unusedVariables false
noncomputable section
namespace Go.Proofs.YthlcobdnemhcdaaGreat.K
open Go.RowKit
def XB (d0:Dice):Rule×Dice:=
 let d1:=Qe d0 3
 let d2:=Qs d1 [14,1,2,5,15,0,16,10,20,7]
 let b2:=done d2 2
 let d3:=Qe d2 2
 let below:=if b2 then dof d3 [2048,256,1024,3072,129] else 0
 let d4:=if b2 then Qs d3 [2048,256,1024,3072,129] else d3
 let b4:=done d4 3
 let d5:=Qe d4 3
 let purpose:=if b4 then Qi .i64 1 (Qj d5 4) else 0
 let d6:=if b4 then Qe d5 4 else d5
 let b6:=done d6 2
 let d7:=Qe d6 2
 let frm:=if b6 then dof d7 [10,30,100,7] else 0
 let d8:=if b6 then Qs d7 [10,30,100,7] else d7
 let b8:=done d8 3
 let d9:=Qe d8 3
 let to:=if b8 then Qi .i64 frm (dof d9 [20,1,200]) else 40001
 let d10:=if b8 then Qs d9 [20,1,200] else d9
 ((done d0 3,(dof d1 [14,1,2,5,15,0,16,10,20,7],(below,(purpose,(frm,(to,())))))),d10)
def Z6:Nat->Dice->List Rule×Dice
 |0,d=>([],d)
 |n+1,d=>((XB d).1::(Z6 n (XB d).2).1,(Z6 n (XB d).2).2)
def Ug (d:Dice):Keep×Dice:=((Qi .i64 1 (Qj d 4),(dof (Qe d 4) [10,100,3000],())),Qs (Qe d 4) [10,100,3000])
def YK:Nat->Dice->List Keep×Dice
 |0,d=>([],d)
 |n+1,d=>((Ug d).1::(YK n (Ug d).2).1,(YK n (Ug d).2).2)
def Ok (d:Dice):List Rule×Dice:=Z6 (Qj d 7).toNat (Qe d 7)
def polK (d:Dice):List Keep×Dice:=YK (Qj (Ok d).2 3).toNat (Qe (Ok d).2 3)
def ZP (d:Dice):Policy:=((Ok d).1,((polK d).1,()))
def GR (d:Dice):Dice:=(polK d).2
theorem Qrp {d:Dice}(h:dOk d=true):dOk (XB d).2=true:=by
 unfold XB
 simp only
 repeat' split
 all_goals (repeat first|exact h|apply QS|apply Y4)
theorem Qrq {n:Nat}: ∀ {d:Dice},dOk d=true->dOk (Z6 n d).2=true:=by
 induction n with
 |zero=>exact fun h=>h
 |succ n ih=>exact fun h=>ih (Qrp h)
theorem Qrr {d:Dice}(h:dOk d=true):dOk (Ug d).2=true:=Y4 (l:=[10,100,3000]) (QS h)
theorem QCo {n:Nat}: ∀ {d:Dice},dOk d=true->dOk (YK n d).2=true:=by
 induction n with
 |zero=>exact fun h=>h
 |succ n ih=>exact fun h=>ih (Qrr h)
theorem QCp {d:Dice}(h:dOk d=true):dOk (GR d)=true:=QCo (QS (Qrq (QS h)))
theorem QCq (d:Dice):XC (XB d).1=true:=by
 have ga: ∀ d:Dice,0<=dof d [14,1,2,5,15,0,16,10,20,7]/\dof d [14,1,2,5,15,0,16,10,20,7]<=22:=fun d=>by
  have h:=UP (d:=d) (l:=[14,1,2,5,15,0,16,10,20,7]) (by decide)
  simp only [BJ,B1,DE] at h
  omega
 have gb: ∀ d:Dice,0<=dof d [2048,256,1024,3072,129]/\dof d [2048,256,1024,3072,129]<=16384:=fun d=>by
  have h:=UP (d:=d) (l:=[2048,256,1024,3072,129]) (by decide)
  simp only [BJ,B1,DE] at h
  omega
 have gf: ∀ d:Dice,0<=dof d [10,30,100,7]/\dof d [10,30,100,7]<=100:=fun d=>by
  have h:=UP (d:=d) (l:=[10,30,100,7]) (by decide)
  simp only [BJ,B1,DE] at h
  omega
 have gt: ∀ d:Dice,1<=dof d [20,1,200]/\dof d [20,1,200]<=200:=fun d=>by
  have h:=UP (d:=d) (l:=[20,1,200]) (by decide)
  simp only [BJ,B1,DE] at h
  omega
 have gp: ∀ d:Dice,1<=Qi .i64 1 (Qj d 4)/\Qi .i64 1 (Qj d 4)<=4:=fun d=>by
  have h:=Jm (d:=d) (n:=4) (by omega)
  rw [JL (by omega)]
  omega
 have gu: ∀ (x:Int) (d:Dice),0<=x->x<=100->Qi .i64 x (dof d [20,1,200])=x+dof d [20,1,200]:=fun x d h1 h2=>by
  have h:=gt d
  exact JL (by omega)
 unfold XC
 rw [Ba]
 unfold XB
 simp only [Estate.Endpoints,Estate.Edges,Estate.Items,Policy.Rules,Policy.Keeps,Keep.Alg,Keep.Bits,Link.Use,Link.Day,Job.Item,Job.Link,Item.Name,Item.Kind,Item.Purpose,Item.Links,Item.Until,Rule.Allow,Rule.Alg,Rule.Below,Rule.Purpose,Rule.From,Rule.To,Exception.Use,Exception.Purpose,Exception.Endpoint,Exception.Days,Exception.Seals,Dice.L,Dice.At,Endpoint.Name,Endpoint.Least,Endpoint.Most,Endpoint.Suites,Endpoint.OwnOrder,Endpoint.Identities,Endpoint.Anchors,Endpoint.Hashes,Endpoint.Fallback,Identity.Key,Identity.KeyId,Identity.Chain,Change.Endpoint,Change.Kind,Change.Number,Change.At,Change.Identity,Rules.p,Rules.l,Rules.o,Rules.day,Method.outcome,Method.uses,Certificate.Serial,Certificate.Issuer,Certificate.Subject,Certificate.Key,Certificate.KeyId,Certificate.Hash,Certificate.From,Certificate.To,Certificate.Authority,Certificate.Path,Certificate.Names,Certificate.Seal,LinkX.day,LinkX.fall,LinkX.falls,Suite.Code,Suite.Name,Suite.Exchange,Suite.Sign,Suite.Cipher,Suite.Mac,Suite.Least,Suite.Most,Row.name,Row.kind,Row.way,Row.sizes,Row.strengths,Talk.server,Talk.version,Talk.suites,Symbol.name,Symbol.kind]
 have pB: ∀ (b:Bool) (e:Dice),(0<=if b=true then dof e [2048,256,1024,3072,129] else 0)/\(if b=true then dof e [2048,256,1024,3072,129] else 0)<=16384:=by
  intro b e
  have h:=gb e
  cases b<;>simp only [BG,if_true,Df]<;>omega
 have pP: ∀ (b:Bool) (e:Dice),(0<=if b=true then Qi .i64 1 (Qj e 4) else 0)/\(if b=true then Qi .i64 1 (Qj e 4) else 0)<=4:=by
  intro b e
  have h:=gp e
  cases b<;>simp only [BG,if_true,Df]<;>omega
 refine ⟨(ga _).1,(ga _).2,(pB _ _).1,(pB _ _).2,(pP _ _).1,(pP _ _).2, ?_⟩
 have key: ∀ (b1 b2:Bool) (e1 e2:Dice),(0<=if b1=true then dof e1 [10,30,100,7] else 0)/\(if b1=true then dof e1 [10,30,100,7] else 0)<(if b2=true then Qi .i64 (if b1=true then dof e1 [10,30,100,7] else 0) (dof e2 [20,1,200]) else 40001)/\(if b2=true then Qi .i64 (if b1=true then dof e1 [10,30,100,7] else 0) (dof e2 [20,1,200]) else 40001)<=40001:=by
  intro b1 b2 e1 e2
  have h1:=gf e1
  have h2:=gt e2
  cases b1<;>cases b2<;>simp only [BG,if_true,Df]
  ·omega
  ·rw [gu _ _ (by omega) (by omega)];omega
  ·omega
  ·rw [gu _ _ (by omega) (by omega)];omega
 exact key _ _ _ _
theorem Qrs: ∀ (n:Nat) (d:Dice),(Z6 n d).1.length=n∧ ∀ r,r∈(Z6 n d).1->XC r=true
 |0,d=>⟨rfl,fun r h=>by cases h⟩
 |n+1,d=>by
  obtain ⟨h1,h2⟩:=Qrs n (XB d).2
  refine ⟨by simp only [Z6,Bp,h1],fun r h=> ?_⟩
  rcases BJ.1 h with rfl|h
  ·exact QCq d
  ·exact h2 r h
theorem QCr (d:Dice):XD (Ug d).1=true:=by
 have h:=UP (d:=Qe d 4) (l:=[10,100,3000]) (by decide)
 simp only [BJ,B1,DE] at h
 have h2:=Jm (d:=d) (n:=4) (by omega)
 have h3:Qi .i64 1 (Qj d 4)=1+Qj d 4:=JL (by omega)
 unfold XD Ug
 rw [Ba]
 simp only [h3]
 omega
theorem Qrt: ∀ (n:Nat) (d:Dice),(YK n d).1.length=n∧ ∀ r,r∈(YK n d).1->XD r=true
 |0,d=>⟨rfl,fun r h=>by cases h⟩
 |n+1,d=>by
  obtain ⟨h1,h2⟩:=Qrt n (Ug d).2
  refine ⟨by simp only [YK,Bp,h1],fun r h=> ?_⟩
  rcases BJ.1 h with rfl|h
  ·exact QCr d
  ·exact h2 r h
end Go.Proofs.YthlcobdnemhcdaaGreat.K
noncomputable section
namespace Go.Proofs.YthlcobdnemhcdaaGreat.K
open Go.RowKit
abbrev Qaf:Sh:=⟨[(0,.ptr 50000 0),(2,.ptr 2 0),(3,.ptr 3 0),(4,.ty tI)],[(2,.box QF),(3,.bag [.ms 20300,.ms 20301]),(50,.no),(68,.no),(20300,.arr 66 QY),(20301,.arr 131 Qk),(50000,.box QB)]⟩
abbrev QyH:Sh:=⟨[(0,.ptr 50000 0),(2,.ptr 2 0),(3,.ptr 3 0)],[(2,.box QF),(3,.bag [.ms 20300,.ms 20301]),(50,.no),(68,.no),(20300,.arr 66 QY),(20301,.arr 131 Qk),(50000,.box QB)]⟩
abbrev Qag:Sh:=⟨[(0,.ptr 50000 0),(2,.ptr 2 0),(3,.ptr 3 0),(6,.ty tI)],[(2,.box QF),(3,.bag [.ms 20300,.ms 20301]),(50,.no),(68,.no),(20300,.arr 66 QY),(20301,.arr 131 Qk),(50000,.box QB)]⟩
abbrev QyI:Sh:=⟨[(2,.ptr 2 0),(3,.ptr 3 0)],[(2,.box QF),(3,.bag [.ms 20300,.ms 20301]),(50,.no),(68,.no),(20300,.arr 66 QY),(20301,.arr 131 Qk),(50000,.box QB)]⟩
def Qf4:Fg:=Qaf.f
def Qf5:Fg:=Qag.f
def Qf6:TC:=aF Tryz.f31 [(58,.nf 3 1 131 20301),(58,.nf 3 0 66 20300),(58,pL 0 Qf4),(931,.fg ⟨[(0,none),(2,none),(3,none)],[(2,some QF),(3,some QF),(50,none),(68,none),(20300,none),(20301,none),(50000,some QB)]⟩),(119418,pD [(0,[5]),(1,[5]),(2,[50000]),(3,[]),(4,[43,5043,10043,15043,50000]),(5,[]),(6,[5]),(7,[5])] (.of [0,1,2,3,4,5,6,7])),(122,.nf 3 0 66 20300),(122,.nf 3 1 131 20301),(122,pL 1 Qf5),(1955,.fg ⟨[(2,none),(3,none)],[(2,some QF),(3,some QF),(50,none),(68,none),(20300,none),(20301,none),(50000,some QB)]⟩),(1956,pD [(0,[3,50,68,20300,20301]),(1,[3,50,68,20300,20301]),(2,[50000]),(3,[61,5061,10061,15061,50000]),(4,[]),(5,[50000]),(6,[]),(7,[65,5065,10065,15065,50000]),(8,[]),(9,[]),(10,[2,3,50,68,5068,10068,15068,20300,20301]),(11,[3,50,68,20300,20301]),(12,[2,3,50,68,20300,20301])] (.of [0,1,2,5,6,3,4,7,8,9,10,11,12]))]
def QnA:TC:=lb 0 Qf6
def QnB:TC:=lb 1 Qf6
def QnC (x4:Int)(y2:Policy)(Qb:List Rule)(Qf:List Keep)(Qa:Dice):VS:=Qaf.st ((),(),(),x4,()) (y2,((),(),()),(),(),Qb,Qf,Qa,())
def Qf7 (y2:Policy)(Qb:List Rule)(Qf:List Keep)(Qa:Dice):VS:=QyH.st ((),(),(),()) (y2,((),(),()),(),(),Qb,Qf,Qa,())
def QnD (x6:Int)(y2:Policy)(Qb:List Rule)(Qf:List Keep)(Qa:Dice):VS:=Qag.st ((),(),(),x6,()) (y2,((),(),()),(),(),Qb,Qf,Qa,())
def Qf8 (y2:Policy)(Qb:List Rule)(Qf:List Keep)(Qa:Dice):VS:=QyI.st ((),(),()) (y2,((),(),()),(),(),Qb,Qf,Qa,())
def QyJ:VS->Option (Bool×List (Bool×Exit×VS)):=mkL Qaf (fun x y=>(dOk y.2.2.2.2.2.2.1&&decide (0<=x.2.2.2.1/\x.2.2.2.1<=100/\y.2.2.2.2.1.length+x.2.2.2.1.toNat<=1000))) (fun x y=>[(true,.exit 0,Qf7 (y.1) (y.2.2.2.2.1++(Z6 x.2.2.2.1.toNat y.2.2.2.2.2.2.1).1) (y.2.2.2.2.2.1) ((Z6 x.2.2.2.1.toNat y.2.2.2.2.2.2.1).2))])
def QyK:VS->Option (Bool×List (Bool×Exit×VS)):=mkL Qag (fun x y=>(dOk y.2.2.2.2.2.2.1&&decide (0<=x.2.2.2.1/\x.2.2.2.1<=100/\y.2.2.2.2.2.1.length+x.2.2.2.1.toNat<=1000))) (fun x y=>[(true,.exit 2,Qf8 (y.1) (y.2.2.2.2.1) (y.2.2.2.2.2.1++(YK x.2.2.2.1.toNat y.2.2.2.2.2.2.1).1) ((YK x.2.2.2.1.toNat y.2.2.2.2.2.2.1).2))])
def Iu:G:=gG 71 [(32,Ut),(35,Qd4),(50,ET)] (Ls [QyJ,QyK])
def Qf9 (x4:Int)(y2:Policy)(Qb:List Rule)(Qf:List Keep)(Qa:Dice):OX:=Qx (Qz Iu Qf4 QnA) (QnC x4 y2 Qb Qf Qa)
def Iv (kk:Int->Policy->List Rule->List Keep->Dice->OX)(x4:Int)(y2:Policy)(Qb:List Rule)(Qf:List Keep)(Qa:Dice):OX:=
 let a21:=(Qs (Qe Qa 3) ([14,1,2,5,15,0,16,10,20,7]))
 let a1:=Qe a21 2
 let a29:=(Qs a1 ([2048,256,1024,3072,129]))
 let a2:=Qe a29 3
 let a3:=(dof (Qe Qa 3) ([14,1,2,5,15,0,16,10,20,7]))
 let a4:=Qe (Qe (Qe a1 3) 4) 2
 let a5:=(dof a1 ([2048,256,1024,3072,129]))
 let a6:=Qe (Qe a2 4) 2
 let a7:=Qe (Qe a1 3) 2
 let a8:=done Qa 3
 let a9:=Qi .i64 1 (Qj (Qe a1 3) 4)
 let a10:=(Qs (Qe a2 2) ([10,30,100,7]))
 let a11:=QD .i64 x4 1
 let a12:=(dof (Qe a2 2) ([10,30,100,7]))
 let a13:=Qi .i64 1 (Qj a2 4)
 let a14:=(Qs a6 ([10,30,100,7]))
 let a15:=(Qs a4 ([10,30,100,7]))
 let a16:=(Qs a7 ([10,30,100,7]))
 let a17:=(dof a6 ([10,30,100,7]))
 let a18:=(dof a4 ([10,30,100,7]))
 let a19:=(dof a7 ([10,30,100,7]))
 let a20:=Qe (Qe a2 2) 3
 let a22:=(Qi .i64 a17 (dof (Qe a14 3) ([20,1,200])))
 let a23:=(Qi .i64 a12 (dof (Qe a10 3) ([20,1,200])))
 let a24:=(Qi .i64 a18 (dof (Qe a15 3) ([20,1,200])))
 let a25:=(Qi .i64 a19 (dof (Qe a16 3) ([20,1,200])))
 let a26:=(Qi .i64 0 (dof (Qe a6 3) ([20,1,200])))
 let a27:=(Qi .i64 0 (dof (Qe a4 3) ([20,1,200])))
 let a28:=(Qi .i64 0 (dof (Qe a7 3) ([20,1,200])))
 let a30:=(Qi .i64 0 (dof a20 ([20,1,200])))
 br (igt x4 0) (br (Q5 Qa 3) (br (Q0 (Qe Qa 3) ([14,1,2,5,15,0,16,10,20,7])) (br (Q5 a21 2) (br (done a21 2) (br (Q0 a1 ([2048,256,1024,3072,129])) (br (Q5 a29 3) (br (done a29 3) (br (QC a2 4) (br (Q5 (Qe a2 4) 2) (br (done (Qe a2 4) 2) (br (Q0 a6 ([10,30,100,7])) (br (Q5 a14 3) (br (done a14 3) (br (Q0 (Qe a14 3) ([20,1,200])) (br (Qw Qb ([(a8,(a3,(a5,(a13,(a17,(a22,()))))))]) 48) (kk a11 y2 (Qb++([(a8,(a3,(a5,(a13,(a17,(a22,()))))))])) Qf (Qs (Qe a14 3) ([20,1,200]))) none) none) (br (Qw Qb ([(a8,(a3,(a5,(a13,(a17,(40001,()))))))]) 48) (kk a11 y2 (Qb++([(a8,(a3,(a5,(a13,(a17,(40001,()))))))])) Qf (Qe a14 3)) none)) none) none) (br (Q5 a6 3) (br (done a6 3) (br (Q0 (Qe a6 3) ([20,1,200])) (br (Qw Qb ([(a8,(a3,(a5,(a13,(0,(a26,()))))))]) 48) (kk a11 y2 (Qb++([(a8,(a3,(a5,(a13,(0,(a26,()))))))])) Qf (Qs (Qe a6 3) ([20,1,200]))) none) none) (br (Qw Qb ([(a8,(a3,(a5,(a13,(0,(40001,()))))))]) 48) (kk a11 y2 (Qb++([(a8,(a3,(a5,(a13,(0,(40001,()))))))])) Qf (Qe a6 3)) none)) none)) none) none) (br (Q5 a2 2) (br (done a2 2) (br (Q0 (Qe a2 2) ([10,30,100,7])) (br (Q5 a10 3) (br (done a10 3) (br (Q0 (Qe a10 3) ([20,1,200])) (br (Qw Qb ([(a8,(a3,(a5,(0,(a12,(a23,()))))))]) 48) (kk a11 y2 (Qb++([(a8,(a3,(a5,(0,(a12,(a23,()))))))])) Qf (Qs (Qe a10 3) ([20,1,200]))) none) none) (br (Qw Qb ([(a8,(a3,(a5,(0,(a12,(40001,()))))))]) 48) (kk a11 y2 (Qb++([(a8,(a3,(a5,(0,(a12,(40001,()))))))])) Qf (Qe a10 3)) none)) none) none) (br (Q5 (Qe a2 2) 3) (br (done (Qe a2 2) 3) (br (Q0 a20 ([20,1,200])) (br (Qw Qb ([(a8,(a3,(a5,(0,(0,(a30,()))))))]) 48) (kk a11 y2 (Qb++([(a8,(a3,(a5,(0,(0,(a30,()))))))])) Qf (Qs a20 ([20,1,200]))) none) none) (br (Qw Qb ([(a8,(a3,(a5,(0,(0,(40001,()))))))]) 48) (kk a11 y2 (Qb++([(a8,(a3,(a5,(0,(0,(40001,()))))))])) Qf a20) none)) none)) none)) none) none) (br (Q5 a1 3) (br (done a1 3) (br (QC (Qe a1 3) 4) (br (Q5 (Qe (Qe a1 3) 4) 2) (br (done (Qe (Qe a1 3) 4) 2) (br (Q0 a4 ([10,30,100,7])) (br (Q5 a15 3) (br (done a15 3) (br (Q0 (Qe a15 3) ([20,1,200])) (br (Qw Qb ([(a8,(a3,(0,(a9,(a18,(a24,()))))))]) 48) (kk a11 y2 (Qb++([(a8,(a3,(0,(a9,(a18,(a24,()))))))])) Qf (Qs (Qe a15 3) ([20,1,200]))) none) none) (br (Qw Qb ([(a8,(a3,(0,(a9,(a18,(40001,()))))))]) 48) (kk a11 y2 (Qb++([(a8,(a3,(0,(a9,(a18,(40001,()))))))])) Qf (Qe a15 3)) none)) none) none) (br (Q5 a4 3) (br (done a4 3) (br (Q0 (Qe a4 3) ([20,1,200])) (br (Qw Qb ([(a8,(a3,(0,(a9,(0,(a27,()))))))]) 48) (kk a11 y2 (Qb++([(a8,(a3,(0,(a9,(0,(a27,()))))))])) Qf (Qs (Qe a4 3) ([20,1,200]))) none) none) (br (Qw Qb ([(a8,(a3,(0,(a9,(0,(40001,()))))))]) 48) (kk a11 y2 (Qb++([(a8,(a3,(0,(a9,(0,(40001,()))))))])) Qf (Qe a4 3)) none)) none)) none) none) (br (Q5 (Qe a1 3) 2) (br (done (Qe a1 3) 2) (br (Q0 a7 ([10,30,100,7])) (br (Q5 a16 3) (br (done a16 3) (br (Q0 (Qe a16 3) ([20,1,200])) (br (Qw Qb ([(a8,(a3,(0,(0,(a19,(a25,()))))))]) 48) (kk a11 y2 (Qb++([(a8,(a3,(0,(0,(a19,(a25,()))))))])) Qf (Qs (Qe a16 3) ([20,1,200]))) none) none) (br (Qw Qb ([(a8,(a3,(0,(0,(a19,(40001,()))))))]) 48) (kk a11 y2 (Qb++([(a8,(a3,(0,(0,(a19,(40001,()))))))])) Qf (Qe a16 3)) none)) none) none) (br (Q5 a7 3) (br (done a7 3) (br (Q0 (Qe a7 3) ([20,1,200])) (br (Qw Qb ([(a8,(a3,(0,(0,(0,(a28,()))))))]) 48) (kk a11 y2 (Qb++([(a8,(a3,(0,(0,(0,(a28,()))))))])) Qf (Qs (Qe a7 3) ([20,1,200]))) none) none) (br (Qw Qb ([(a8,(a3,(0,(0,(0,(40001,()))))))]) 48) (kk a11 y2 (Qb++([(a8,(a3,(0,(0,(0,(40001,()))))))])) Qf (Qe a7 3)) none)) none)) none)) none)) none) none) none) (some (.exit 0,Qf7 y2 Qb Qf Qa))
def Iw (x4:Int)(y2:Policy)(Qb:List Rule)(Qf:List Keep)(Qa:Dice):OX:=
 let a1:=Z6 x4.toNat Qa
 some (.exit 0,Qf7 (y2) (Qb++a1.1) (Qf) (a1.2))
theorem QnE (x4:Int)(y2:Policy)(Qb:List Rule)(Qf:List Keep)(Qa:Dice):Qf9 x4 y2 Qb Qf Qa=Iv Qf9 x4 y2 Qb Qf Qa:=lnT (x:=Iv (fun x4 y2 Qb Qf Qa=>some (.normal,QnC x4 y2 Qb Qf Qa)) x4 y2 Qb Qf Qa) (by simp only [Iv,nxA];rfl)
def Qga (x6:Int)(y2:Policy)(Qb:List Rule)(Qf:List Keep)(Qa:Dice):OX:=Qx (Qz Iu Qf5 QnB) (QnD x6 y2 Qb Qf Qa)
def Ix (kk:Int->Policy->List Rule->List Keep->Dice->OX)(x6:Int)(y2:Policy)(Qb:List Rule)(Qf:List Keep)(Qa:Dice):OX:=
 let a1:=Qe Qa 4
 let a2:=Qi .i64 1 (Qj Qa 4)
 let a3:=(dof a1 ([10,100,3000]))
 br (igt x6 0) (br (QC Qa 4) (br (Q0 a1 ([10,100,3000])) (br (Qw Qf ([(a2,(a3,()))]) 16) (kk (QD .i64 x6 1) y2 Qb (Qf++([(a2,(a3,()))])) (Qs a1 ([10,100,3000]))) none) none) none) (some (.exit 2,Qf8 y2 Qb Qf Qa))
def Iy (x6:Int)(y2:Policy)(Qb:List Rule)(Qf:List Keep)(Qa:Dice):OX:=
 let a1:=YK x6.toNat Qa
 some (.exit 2,Qf8 (y2) (Qb) (Qf++a1.1) (a1.2))
theorem QnF (x6:Int)(y2:Policy)(Qb:List Rule)(Qf:List Keep)(Qa:Dice):Qga x6 y2 Qb Qf Qa=Ix Qga x6 y2 Qb Qf Qa:=lnT (x:=Ix (fun x6 y2 Qb Qf Qa=>some (.normal,QnD x6 y2 Qb Qf Qa)) x6 y2 Qb Qf Qa) (by simp only [Ix,nxA];rfl)
def r_f31 (d0:Dice):OV:=
 let a1:=Z6 (Qj d0 7).toNat (Qe d0 7)
 let a2:=Qj (a1.2) 3
 let a3:=YK a2.toNat (Qe (a1.2) 3)
 br (QC d0 7) (br (dOk (Qe d0 7)&&decide (0<=(Qj d0 7)/\(Qj d0 7)<=100/\([]:List Rule).length+(Qj d0 7).toNat<=1000)) (br (QC (a1.2) 3) (br (dOk (Qe (a1.2) 3)&&decide (0<=a2/\a2<=100/\([]:List Keep).length+a2.toNat<=1000)) (some (.ag [(.ms 50001),(.ms 50002)],[.box (.t QB (a3.2)),.arr 66 QY (([]:List Rule)++a1.1),.arr 131 Qk (([]:List Keep)++a3.1)])) none) none) none) none
theorem QyL (x4:Int)(y2:Policy)(Qb:List Rule)(Qf:List Keep)(Qa:Dice)(h:(dOk Qa&&decide (0<=x4/\x4<=100/\Qb.length+x4.toNat<=1000))=true):Qf9 x4 y2 Qb Qf Qa=Iw x4 y2 Qb Qf Qa:=by
 simp only [Bc,Ba] at h
 obtain ⟨hd,h1,h2q,h3⟩:=h
 obtain ⟨k,rfl⟩:=Br h1
 rw [Bd] at h3
 have h2:k<=100:=by omega
 clear h1 h2q
 induction k generalizing Qb Qa with
 |zero=>
  rw [QnE]
  have e1:igt ((0:Nat):Int) 0=false:=rfl
  simp only [Iv,e1,Ql,Iw,Bd,Z6,BP]
 |succ k ih=>
  rw [QnE]
  have e1:igt ((k+1:Nat):Int) 0=true:=by simp only [igt,Ba];omega
  have e2:QD .i64 ((k+1:Nat):Int) 1=(k:Int):=by rw [Ze (by omega)];omega
  simp only [Iv,e1,e2,Qg]
  have hla:Iw ((k+1:Nat):Int) y2 Qb Qf Qa=Iw (k:Int) y2 (Qb++[(XB Qa).1]) Qf (XB Qa).2:=by
   simp only [Iw,Bd,Z6,BN]
   rfl
  rw [hla, ← ih _ _ (Qrp hd) (by simp;omega) (by omega)]
  clear ih hla
  have hi: ∀ x:Rule,Qw Qb [x] 48=true:=fun x=>Gi (by simp;omega) (by omega)
  have o2: ∀ d,dOk d=true->Q5 d 2=true:=fun d h=>by simp [Q5,QC,h]
  have o3: ∀ d,dOk d=true->Q5 d 3=true:=fun d h=>by simp [Q5,QC,h]
  have n4: ∀ d,dOk d=true->QC d 4=true:=fun d h=>by simp [QC,h]
  have f1: ∀ d,dOk d=true->Q0 d [14,1,2,5,15,0,16,10,20,7]=true:=fun d h=>by simp [Q0,h]
  have f2: ∀ d,dOk d=true->Q0 d [2048,256,1024,3072,129]=true:=fun d h=>by simp [Q0,h]
  have f3: ∀ d,dOk d=true->Q0 d [10,30,100,7]=true:=fun d h=>by simp [Q0,h]
  have f4: ∀ d,dOk d=true->Q0 d [20,1,200]=true:=fun d h=>by simp [Q0,h]
  simp (maxDischargeDepth:=30) only [o2,o3,n4,f1,f2,f3,f4,QpG,Y4,hd,hi,Qg]
  repeat' (refine Q8 ?_ ?_<;>intro _)
  all_goals simp only [XB, *, if_true,Df,BG]
theorem QyM (x6:Int)(y2:Policy)(Qb:List Rule)(Qf:List Keep)(Qa:Dice)(h:(dOk Qa&&decide (0<=x6/\x6<=100/\Qf.length+x6.toNat<=1000))=true):Qga x6 y2 Qb Qf Qa=Iy x6 y2 Qb Qf Qa:=by
 simp only [Bc,Ba] at h
 obtain ⟨hd,h1,h2q,h3⟩:=h
 obtain ⟨k,rfl⟩:=Br h1
 rw [Bd] at h3
 have h2:k<=100:=by omega
 clear h1 h2q
 induction k generalizing Qf Qa with
 |zero=>
  rw [QnF]
  have e1:igt ((0:Nat):Int) 0=false:=rfl
  simp only [Ix,e1,Ql,Iy,Bd,YK,BP]
 |succ k ih=>
  rw [QnF]
  have e1:igt ((k+1:Nat):Int) 0=true:=by simp only [igt,Ba];omega
  have e2:QD .i64 ((k+1:Nat):Int) 1=(k:Int):=by rw [Ze (by omega)];omega
  simp only [Ix,e1,e2,Qg]
  have hla:Iy ((k+1:Nat):Int) y2 Qb Qf Qa=Iy (k:Int) y2 Qb (Qf++[(Ug Qa).1]) (Ug Qa).2:=by
   simp only [Iy,Bd,YK,BN]
   rfl
  rw [hla, ← ih _ _ (Qrr hd) (by simp;omega) (by omega)]
  clear ih hla
  have hi: ∀ x:Keep,Qw Qf [x] 16=true:=fun x=>Gi (by simp;omega) (by omega)
  have n4: ∀ d,dOk d=true->QC d 4=true:=fun d h=>by simp [QC,h]
  have f1: ∀ d,dOk d=true->Q0 d [10,100,3000]=true:=fun d h=>by simp [Q0,h]
  simp (maxDischargeDepth:=30) only [n4,f1,QpG,Y4,hd,hi,Qg]
  rfl
theorem QyN:LO Iu Qf4 QnA 0:=QI (s:=Qaf) fun x y h _ q=>by simp only [QG,QH] at q;exact (QyL x.2.2.2.1 y.1 y.2.2.2.2.1 y.2.2.2.2.2.1 y.2.2.2.2.2.2.1 h).trans q
theorem QyO:LO Iu Qf5 QnB 1:=QI (s:=Qag) fun x y h _ q=>by simp only [QG,QH] at q;exact (QyM x.2.2.2.1 y.1 y.2.2.2.2.1 y.2.2.2.2.2.1 y.2.2.2.2.2.2.1 h).trans q
theorem s_f31 (d:Dice)(h:dOk d=true):r_f31 d=some (.ag [.ms 50001,.ms 50002],[.box (.t QB (GR d)),.arr 66 QY (ZP d).1,.arr 131 Qk (ZP d).2.1]):=by
 have n7: ∀ d,dOk d=true->QC d 7=true:=fun d h=>by simp [QC,h]
 have n3: ∀ d,dOk d=true->QC d 3=true:=fun d h=>by simp [QC,h]
 have b7:=Jm (d:=d) (n:=7) (by omega)
 have h2:dOk (Z6 (Qj d 7).toNat (Qe d 7)).2=true:=Qrq (QS h)
 have b3:=Jm (d:=(Z6 (Qj d 7).toNat (Qe d 7)).2) (n:=3) (by omega)
 simp only [r_f31,n7 d h,Qg,BT]
 rw [QS h,By,Us ⟨b7.1,by omega,by rw [BD];omega⟩,Qg,n3 _ h2,Qg,QS h2,By,Us ⟨b3.1,by omega,by rw [BD];omega⟩,Qg]
 rfl
def QnG:Ent:=YY [.ptr 50000 0] [.box QB] (fun x y=>(dOk y.1)) (fun x y=>(.ag [(.ms 50001),(.ms 50002)])) (fun x y=>[.box (.t QB (GR y.1)),.arr 66 QY ((ZP y.1).1),.arr 131 Qk (((ZP y.1).2).1)])
theorem ms_f31:EM 31 QnG:=mS (lk:=lkL (lkc QyN (lkc QyO lkn))) Iu Qf6 [((.c 2 true 2),none)] true (gB (gD Gj (gD QkT (gD Ve gN)))) fun m=>Xs m fun x y hok=>kT (s_f31 y.1 hok)
end Go.Proofs.YthlcobdnemhcdaaGreat.K
noncomputable section
namespace Go.Proofs.YthlcobdnemhcdaaGreat.K
open Go.RowKit Go.Conc
def WN (P:Program)(c:Code)(Q:Exit->Act->World->Prop)(a:Act)(w:World):Prop:=
 ∀ (b:Frame) (k:List Go.Item) (cs:List Frame),b.kind≠ .early→ ∃ e a' w',Q e a' w'/\Arrives P (lone (b.at a (.code c::k)) cs w) b k cs e a' w'
def LN (P:Program)(ops:Array Oper)(Q:Exit->Act->World->Prop)(l:List Nat)(a:Act)(w:World):Prop:=
 ∀ (b:Frame) (k:List Go.Item) (cs:List Frame),b.kind≠ .early→ ∃ e a' w',Q e a' w'/\Arrives P (lone (b.at a (.inRegion ops l::k)) cs w) b k cs e a' w'
section
variable {P:Program}{Q:Exit->Act->World->Prop}{a:Act}{w:World}{ops:Array Oper}
theorem WN.of {c:Code}(h:c.wp P Q a w):WN P c Q a w:=fun b k cs _=>h b k cs
theorem WN.seq {x y:Code}(h:WN P x (Exit.then (WN P y Q) Q) a w):WN P (.seq x y) Q a w:=by
 intro b k cs hb
 obtain ⟨e,a1,w1,hq,hr⟩:=h b (.code y::k) cs hb
 cases e with
 |normal=>
  obtain ⟨e2,a2,w2,hq2,hr2⟩:=hq b k cs hb
  exact ⟨e2,a2,w2,hq2,.of_steps (.head step_seq hr) hr2⟩
 |exit n=>exact ⟨_,a1,w1,hq,.of_steps (.one step_seq) (.pass (x:= .code y) rfl (fun _ _=> .inl (by simp)) hr)⟩
 |goto n=>exact ⟨_,a1,w1,hq,.of_steps (.one step_seq) (.pass (x:= .code y) rfl (fun _ _=> .inl (by simp)) hr)⟩
 |ret=>exact ⟨_,a1,w1,hq,.of_steps (.one step_seq) (.pass (x:= .code y) rfl (fun _ _=> .inl (by simp)) hr)⟩
 |panic n=>exact ⟨_,a1,w1,hq,.of_steps (.one step_seq) (.pass (x:= .code y) rfl (fun _ _=> .inl (by simp)) hr)⟩
 |outgrown=>exact ⟨_,a1,w1,hq,.of_steps (.one step_seq) (.pass (x:= .code y) rfl (fun _ _=> .inl (by simp)) hr)⟩
theorem WN.block {id:Nat}{c:Code}(h:WN P c (Exit.inBlock id Q) a w):WN P (.block id c) Q a w:=by
 intro b k cs hb
 obtain ⟨e,a1,w1,hq,hr⟩:=h b (.inBlock id::k) cs hb
 cases e with
 |normal=>exact ⟨.normal,a1,w1,hq,.head step_block (Steps.trans hr (.one step_inBlock))⟩
 |exit n=>
  by_cases hn:n=id
  ·simp only [Exit.inBlock,hn,if_true] at hq
   exact ⟨.normal,a1,w1,hq,.head step_block (hr k (by simp [exitTo,hn]))⟩
  ·simp only [Exit.inBlock,hn,Df] at hq
   refine ⟨.exit n,a1,w1,hq,fun k' hk=> .head step_block (hr k' ?_)⟩
   have hne:(id==n)=false:=by simp;exact fun h=>hn h.symm
   simp [exitTo,hne,hk]
 |goto n=>exact ⟨_,a1,w1,hq,fun k' hk=> .head step_block (hr k' (by simp [gotoIn,hk]))⟩
 |ret=>exact ⟨_,a1,w1,hq,.of_steps (.one step_block) hr⟩
 |panic n=>exact ⟨_,a1,w1,hq,.of_steps (.one step_block) hr⟩
 |outgrown=>exact ⟨_,a1,w1,hq,.of_steps (b:=b) (k:=k) (cs:=cs) (e:= .outgrown) (.one step_block) hr⟩
theorem WN.loop {c:Code}(I:Nat->Act->World->Prop)(n:Nat)(h0:I n a w)
  (round: ∀ n a w,I n a w->WN P c (Exit.then (fun a' w'=> ∃ m,m<n/\I m a' w') Q) a w):WN P (.loop c) Q a w:=by
 intro b k cs hb
 have key: ∀ n a w,I n a w→ ∃ e a' w',Q e a' w'/\Arrives P (lone (b.at a (.code c:: .inLoop c::k)) cs w) b k cs e a' w':=by
  intro n
  induction n using Nat.strongRecOn with
  |_ n ih=>
   intro a w hI
   obtain ⟨e,a1,w1,hq,hr⟩:=round n a w hI b (.inLoop c::k) cs hb
   cases e with
   |normal=>
    obtain ⟨m,hm,h1⟩:=hq
    obtain ⟨e2,a2,w2,hq2,hr2⟩:=ih m hm a1 w1 h1
    exact ⟨e2,a2,w2,hq2,.of_steps (Steps.trans hr (.one step_inLoop)) hr2⟩
   |exit n=>exact ⟨_,a1,w1,hq,.pass (x:= .inLoop c) rfl (fun _ _=> .inl (by simp)) hr⟩
   |goto n=>exact ⟨_,a1,w1,hq,.pass (x:= .inLoop c) rfl (fun _ _=> .inl (by simp)) hr⟩
   |ret=>exact ⟨_,a1,w1,hq,.pass (x:= .inLoop c) rfl (fun _ _=> .inl (by simp)) hr⟩
   |panic n=>exact ⟨_,a1,w1,hq,.pass (x:= .inLoop c) rfl (fun _ _=> .inl (by simp)) hr⟩
   |outgrown=>exact ⟨_,a1,w1,hq,.pass (x:= .inLoop c) rfl (fun _ _=> .inl (by simp)) hr⟩
 obtain ⟨e,a',w',hq,hr⟩:=key n a w h0
 exact ⟨e,a',w',hq,.of_steps (.one step_loop) hr⟩
theorem LN.region {id:Nat}(h:LN P ops Q (List.range ops.size) a w):WN P (.region id ops false) Q a w:=by
 intro b k cs hb
 obtain ⟨e,a',w',hq,hr⟩:=h b k cs hb
 exact ⟨e,a',w',hq,.of_steps (.one step_region) hr⟩
theorem LN.nil (h:Q .normal a w):LN P ops Q [] a w:=fun _ _ _ _=>⟨.normal,a,w,h,.one step_region_end⟩
theorem Qck {b:Frame}{i:Nat}{rest:List Nat}{k:List Go.Item}{o:Oper}(ho:ops[i]? = some o)(v:Value):(b.at a (.inRegion ops (i::rest)::k)).finish v=b.at (a.put o.dst v) (.inRegion ops rest::k):=by
 rw [Frame.finish_at,ho]
 rfl
theorem LN.value {i:Nat}{rest:List Nat}{o:Oper}{v:Value}{w':World}(ho:ops[i]? = some o)(hw:Region.wanted o (yielded ops a.tmps)=true)(hr:(execOp a.eval o).run P w= .ok (.value v) w')
  (h:LN P ops Q rest (a.put o.dst v) w'):LN P ops Q (i::rest) a w:=by
 intro b k cs hb
 obtain ⟨e,a2,w2,hq,har⟩:=h b k cs hb
 refine ⟨e,a2,w2,hq,.of_steps (.one (step_lone_go ?_)) har⟩
 rw [stepG_op ho hw, ← Qck ho]
 simp [stepG.apply,hr]
theorem LN.send {i:Nat}{rest:List Nat}{o:Oper}{c cap s r:Nat}{buf:Array Value}{v z:Value}{tm:Bool}(ho:ops[i]? = some o)(hw:Region.wanted o (yielded ops a.tmps)=true)
  (hr:(execOp a.eval o).run P w= .ok (.comm #[scase c v z] true .send) w) (hc:w.heap[c]? = some (.chan cap buf false s r tm)) (hroom:buf.size<cap)
  (h:LN P ops Q rest (a.put o.dst undef) (w.setChan c cap (buf.push v) false (s+1) r tm)):LN P ops Q (i::rest) a w:=by
 intro b k cs hb
 obtain ⟨e,a2,w2,hq,har⟩:=h b k cs hb
 refine ⟨e,a2,w2,hq,.of_steps (.one ?_) har⟩
 have hs:=step_lone_send_room (stepG_comm (main:=true) (rest:=rest) (b:=b) (k:=k) (cs:=cs) ho hw hb hr) hc hroom
 rw [Qck ho] at hs
 exact hs
theorem LN.recv {i:Nat}{rest:List Nat}{o:Oper}{c cap s r:Nat}{buf:Array Value}{z:Value}{tm closed ok:Bool}(ho:ops[i]? = some o)(hw:Region.wanted o (yielded ops a.tmps)=true)
  (hr:(execOp a.eval o).run P w= .ok (.comm #[rcase c z] true (.recv ok)) w) (hc:w.heap[c]? = some (.chan cap buf closed s r tm)) (hs:0<buf.size)
  (h:LN P ops Q rest (a.put o.dst (got ok (buf.getD 0 undef) true)) (w.setChan c cap (buf.extract 1 buf.size) closed s (r+1) tm)):LN P ops Q (i::rest) a w:=by
 intro b k cs hb
 obtain ⟨e,a2,w2,hq,har⟩:=h b k cs hb
 refine ⟨e,a2,w2,hq,.of_steps (.one ?_) har⟩
 have hs:=step_lone_recv_buf ok (stepG_comm (main:=true) (rest:=rest) (b:=b) (k:=k) (cs:=cs) ho hw hb hr) hc hs
 rw [Qck ho] at hs
 exact hs
theorem LN.shut {i:Nat}{rest:List Nat}{o:Oper}{c cap s r:Nat}{z:Value}{tm ok:Bool}(ho:ops[i]? = some o)(hw:Region.wanted o (yielded ops a.tmps)=true)
  (hr:(execOp a.eval o).run P w= .ok (.comm #[rcase c z] true (.recv ok)) w) (hc:w.heap[c]? = some (.chan cap #[] true s r tm))
  (h:LN P ops Q rest (a.put o.dst (got ok z false)) w):LN P ops Q (i::rest) a w:=by
 intro b k cs hb
 obtain ⟨e,a2,w2,hq,har⟩:=h b k cs hb
 refine ⟨e,a2,w2,hq,.of_steps (.one ?_) har⟩
 have hs:=step_lone_recv_shut ok (stepG_comm (main:=true) (rest:=rest) (b:=b) (k:=k) (cs:=cs) ho hw hb hr) hc
 rw [Qck ho] at hs
 exact hs
end
theorem WN.calls {P:Program}{f:FuncId}{fn:Func}{c:Code}{args:Array Value}{w:World}{R:Ending->World->Prop}(hf:P.funcs[f]? = some fn)(hb:fn.body=some c)
  (h:WN P c (bodyPost P fn R) {tmps:=args++Array.replicate (fn.ntmps-args.size) undef,defers:=[]} w):Calls P f args w R:=by
 intro cs
 let b:Frame:={(default:Frame) with fn:=f,kind:= .normal}
 have he:Frame.enter P f args .normal=b.at {tmps:=args++Array.replicate (fn.ntmps-args.size) undef,defers:=[]} [.code c]:=by
  simp [Frame.enter,Frame.at,hf,hb,b]
 obtain ⟨e,a',w',hq,har⟩:=h b [] cs (by simp [b])
 rw [←he] at har
 cases e with
 |normal=>
  obtain ⟨hd,v,hr,hR⟩:=hq
  exact ⟨.returned v,w',_,hR,Steps.trans har (.one step_end),rfl,rfl,hd,rfl,fn,hf,hr⟩
 |ret=>
  obtain ⟨hd,v,hr,hR⟩:=hq
  obtain ⟨todo,hs⟩:=har
  exact ⟨.returned v,w',_,hR,hs,rfl,rfl,hd,rfl,fn,hf,hr⟩
 |panic n=>
  obtain ⟨hd,hR⟩:=hq
  obtain ⟨todo,hs⟩:=har
  exact ⟨.panicked n,w',_,hR,hs,rfl,rfl,hd,fn,hf⟩
 |exit n=>exact hq.elim
 |goto n=>exact hq.elim
 |outgrown=>exact ⟨.outgrown,w',b,hq,har.resolve_left (by simp [b]),rfl,trivial⟩
end Go.Proofs.YthlcobdnemhcdaaGreat.K
noncomputable section
namespace Go.Proofs.YthlcobdnemhcdaaGreat.K
open Go.RowKit
theorem QE8 {X:Nat->Nat->Prop}{w w':World}(h:Below w.heap.size w w'):Ext0 X w X w':=⟨h.size,fun b o hb hx=>⟨hx,h.cell (p:=⟨b,o,none⟩) hb⟩⟩
theorem Qc1 {X:Nat->Nat->Prop}{w:World}{σ:Pl}:Lent X w σ []:=⟨fun j o hj=>by simp at hj,fun i j b _ hi=>by simp at hi⟩
theorem Qc2 {X X':Nat->Nat->Prop}{w w':World}{σ σ':Pl}{os:List VO}(h:Ends X w σ 0 X' w' σ' os):Below w.heap.size w w':=
 ⟨h.fr.os,h.fr.tape,h.fr.output,h.fr.size,fun b hb=>h.fr.keep b hb (by simp [Ys])⟩
end Go.Proofs.YthlcobdnemhcdaaGreat.K
noncomputable section
namespace Go.Proofs.YthlcobdnemhcdaaGreat.K
open Go.RowKit Go.Conc
def jV (j:Job):Value:= .agg #[.int .i64 j.1,.int .i64 j.2.1.1.1,.int .i64 j.2.1.1.2.1,.int .i64 j.2.1.2.1]
def cJ (l:List Job):List Value:=l.flatMap fun j=>[.int .i64 j.1,.int .i64 j.2.1.1.1,.int .i64 j.2.1.1.2.1,.int .i64 j.2.1.2.1]
theorem cJ_at: ∀ (l:List Job) (k:Nat) (hk:k<l.length),(cJ l)[k*4]? = some (.int .i64 l[k].1)/\(cJ l)[k*4+1]? = some (.int .i64 l[k].2.1.1.1)/\(cJ l)[k*4+2]? = some (.int .i64 l[k].2.1.1.2.1)/\(cJ l)[k*4+3]? = some (.int .i64 l[k].2.1.2.1)
 | [],_,h=>by simp at h
 |x::l,0,_=>⟨rfl,rfl,rfl,rfl⟩
 |x::l,k+1,h=>by
  have:=cJ_at l k (by simpa using h)
  have e:cJ (x::l)= .int .i64 x.1:: .int .i64 x.2.1.1.1:: .int .i64 x.2.1.1.2.1:: .int .i64 x.2.1.2.1::cJ l:=rfl
  rw [e,show (k+1)*4=k*4+1+1+1+1 by omega,Dx]
  simp only [BW]
  exact this
def Qtp (w:World)(c cap:Nat)(l:List Job)(closed:Bool):Prop:= ∃ s r,w.heap[c]? = some (.chan cap (l.map jV).toArray closed s r false)
theorem QEW: ∃ i,Tryz.prog.info? 47=some i/\i.bytes=32:=by
 have h:(Tryz.prog.info? 47).map (·.bytes)=some 32:=by kernel_rfl
 obtain ⟨i,hi,hb⟩:=Bf.1 h
 exact ⟨i,hi,hb⟩
theorem mkChan (w:World)(n:Nat)(hn:n<=100000):(Instr.makeChan 153 (.int .i64 n)).run Tryz.prog w= .ok (.chan (some w.heap.size)) (w.alloc (.chan n #[] false 0 0 false)):=by
 obtain ⟨i,hi,hb⟩:=QEW
 simpa using run_makeChan (P:=Tryz.prog) (w:=w) Tryz.underlying153 hi .i64 n (by omega) (by rw [hb];omega)
end Go.Proofs.YthlcobdnemhcdaaGreat.K
noncomputable section
namespace Go.Proofs.YthlcobdnemhcdaaGreat.K
open Go.RowKit Go.Conc
set_option maxRecDepth 50000 in
set_option maxHeartbeats 1000000 in
theorem Qzo (l:List Job)(A:Option Addr)(n c:Nat)(w:World)(hn:l.length=n)(hl:n<=100000)
  (hc:0<n→ ∃ b off,A=some ⟨b,off,none⟩/\b<w.heap.size∧ ∀ j v,(cJ l)[j]? = some v->w.cell? ⟨b,off+j,none⟩=some v):
  Calls Tryz.prog 52 #[.slice A n c] w fun en w'=> ∃ ch,en= .returned (.chan (some ch))/\w.heap.size<=ch/\ch<w'.heap.size/\Qtp w' ch n l true/\Below w.heap.size w w':=by
 have HC:=Lib.hid hc
 have HN:=Lib.hid hn
 clear hc hn
 have hmk:=mkChan w n hl
 refine WN.calls Tryz.func52 rfl ?_
 simp only [Tryz.ntmps52,Dt,Bp,BD,Nat.reduceAdd,Nat.reduceSub,Array.replicate_succ,
   Array.replicate_zero,List.push_toArray,List.append_toArray,BT,Dl]
 refine WN.seq (WN.of ?_)
 go_wp2_with fail
 refine WN.seq (WN.of ?_)
 go_wp2_with fail
 obtain ⟨W1,hW1⟩: ∃ W1,W1=w.alloc (.chan n #[] false 0 0 false):=⟨_,rfl⟩
 obtain ⟨ch,hch⟩: ∃ ch,ch=w.heap.size:=⟨_,rfl⟩
 rw [←hW1, ← hch]
 have bl1:Below w.heap.size w W1:=hW1▸(Below.refl _ _).alloc (Bv _) _
 have ca1:W1.heap[ch]? = some (.chan n #[] false 0 0 false):=by rw [hW1,hch];exact heap_alloc_new w _
 have HB1:=Lib.hid bl1
 have HCH:=Lib.hid hch
 have HCA:=Lib.hid ca1
 clear hW1 hch bl1 ca1 hmk
 refine WN.seq (WN.seq (WN.of ?_))
 go_wp2_with fail
 refine WN.block (WN.loop (fun m a' w'=> ∃ (k s:Nat) (u5 u12 u13 u14 u15 u16 u17:Value),m+k=n/\a'=⟨#[.slice A n c,undef,.chan none,.chan (some ch),undef,u5,.slice A n c,.int .i64 n,.chan (some ch),.slice A n c,.int .i64 n,.int .i64 k,u12,u13,u14,u15,u16,u17,undef,undef],[]⟩∧
  w'.heap[ch]? = some (.chan n ((l.take k).map jV).toArray false s 0 false)/\Below w.heap.size w w') n ⟨0,0,undef,undef,undef,undef,undef,undef,undef,rfl,rfl, ?_,HB1.out⟩ ?_)
 ·rw [List.take_zero]
  exact HCA.out
 ·rintro m a' w' ⟨k,s,u5,u12,u13,u14,u15,u16,u17,hm,rfl,hca,hbl⟩
  have HCA2:=Lib.hid hca
  have HB2:=Lib.hid hbl
  clear hca hbl
  refine WN.seq (WN.of ?_)
  by_cases hlt:k<n
  ·obtain ⟨bb,off,rfl,hbb,hcs⟩:=HC.out (by omega)
   have hkl:k<l.length:=by rw [HN.out];exact hlt
   obtain ⟨g0,g1,g2,g3⟩:=cJ_at l k hkl
   obtain ⟨t,ht⟩: ∃ t,t=l[k]:=⟨_,rfl⟩
   rw [←ht] at g0 g1 g2 g3
   have dz: ∀ j v,w.cell? ⟨bb,off+j,none⟩=some v->w'.cell? ⟨bb,off+j,none⟩=some v:=fun j v h=>(HB2.out.cell (p:=⟨bb,off+j,none⟩) hbb).trans h
   have d0:=dz _ _ (hcs _ _ g0)
   have d1:=dz _ _ (hcs _ _ g1)
   have d2:=dz _ _ (hcs _ _ g2)
   have d3:=dz _ _ (hcs _ _ g3)
   rw [←DD] at d1 d2 d3
   have HO:=Lib.hid (show l[k]? = some t by rw [ht];exact Bi hkl)
   clear dz hcs g0 g1 g2 g3 ht hkl
   go_wp2_with fail
   refine WN.seq (WN.of ?_)
   go_wp2_with fail
   refine WN.seq (WN.block (WN.seq (WN.of ?_)))
   go_wp2_with fail
   obtain ⟨W3,hW3⟩: ∃ W3,W3=w'.alloc (.cells #[.int .i64 t.1,.int .i64 t.2.1.1.1,.int .i64 t.2.1.1.2.1,.int .i64 t.2.1.2.1] 47):=⟨_,rfl⟩
   obtain ⟨q,hq⟩: ∃ q,q=w'.heap.size:=⟨_,rfl⟩
   rw [←hW3, ← hq]
   have kq:Go.Proofs.YthlcobdnemhcdaaGreat.Blk W3 q 47 #[.int .i64 t.1,.int .i64 t.2.1.1.1,.int .i64 t.2.1.1.2.1,.int .i64 t.2.1.2.1]:=by rw [hW3,hq];exact Go.Proofs.YthlcobdnemhcdaaGreat.Blk.new _ _ _
   have b3:Below w'.heap.size w' W3:=hW3▸(Below.refl _ _).alloc (Bv _) _
   have hchlt:ch<w'.heap.size:=(BQ.1 HCA2.out).1
   have ca3:W3.heap[ch]? = some (.chan n ((l.take k).map jV).toArray false s 0 false):=(b3.block ch hchlt).trans HCA2.out
   have bl3:Below w.heap.size w W3:=Uh HB2.out b3 (by have:=HB2.out.size;omega)
   have x0:=kq.cell 0
   have x1:=kq.cell 1
   have x2:=kq.cell 2
   have x3:=kq.cell 3
   simp only [Dg,BR,BW] at x0 x1 x2 x3
   refine LN.region ?_
   simp only [Dt,Bp,BD,Nat.reduceAdd,List.range,List.range.loop]
   refine LN.value (i:=0) rfl rfl (v:= .chan (some ch)) (w':=W3) (by simp [go_sem]) ?_
   refine LN.value (i:=1) rfl rfl (v:=jV t) (w':=W3) (by simp [go_sem,x0,x1,x2,x3,jV]) ?_
   refine LN.send (i:=2) (c:=ch) (v:=jV t) (z:= .tuple #[]) rfl rfl (by simp [go_sem,scase]) ca3 (by simp;omega) ?_
   refine LN.nil ?_
   have ch4:=heap_setChan W3 ch n (((l.take k).map jV).toArray.push (jV t)) false (s+1) 0 false (by have:=b3.size;omega)
   have bl4:Below w.heap.size w (W3.setChan ch n (((l.take k).map jV).toArray.push (jV t)) false (s+1) 0 false):=below_setChan bl3 (by rw [HCH.out];exact Bv _) _ _ _ _ _ _
   obtain ⟨W4,hW4⟩: ∃ W4,W4=W3.setChan ch n (((l.take k).map jV).toArray.push (jV t)) false (s+1) 0 false:=⟨_,rfl⟩
   rw [←hW4] at ch4 bl4 ⊢
   have e:((l.take k).map jV).toArray.push (jV t)=((l.take (k+1)).map jV).toArray:=by
    rw [List.take_add_one,HO.out]
    simp
   rw [e] at ch4
   have HC4:=Lib.hid ch4
   have HL4:=Lib.hid bl4
   clear hW4 ch4 bl4 e x0 x1 x2 x3 kq b3 ca3 bl3 hW3 d0 d1 d2 d3
   simp only [Exit.inBlock,Exit.then]
   go_frame
   refine WN.of ?_
   go_wp2_with fail
   exact ⟨m-1,by omega,k+1,s+1,_,_,_,_,_,_,_,by omega,rfl,HC4.out,HL4.out⟩
  ·obtain rfl:k=n:=by omega
   go_wp2_with fail
   refine WN.seq (WN.of ?_)
   go_wp2_with fail
   have hcl:=fun ats ty=>run_close_open (P:=Tryz.prog) (w:=w') ats ty HCA2.out
   refine WN.seq (WN.of ?_)
   go_wp2_with fail
   clear hcl
   have hlt2:ch<w'.heap.size:=(BQ.1 HCA2.out).1
   have el:List.take k (List.map jV l)=l.map jV:=DQ (by rw [BK,HN.out];exact Bv _)
   rw [el]
   have ch5:=heap_setChan w' ch k (l.map jV).toArray true s 0 false hlt2
   have bl5:Below w.heap.size w (w'.setChan ch k (l.map jV).toArray true s 0 false):=below_setChan HB2.out (by rw [HCH.out];exact Bv _) _ _ _ _ _ _
   have sz5:ch<(w'.setChan ch k (l.map jV).toArray true s 0 false).heap.size:=by rw [size_setChan];exact hlt2
   obtain ⟨W5,hW5⟩: ∃ W5,W5=w'.setChan ch k (l.map jV).toArray true s 0 false:=⟨_,rfl⟩
   rw [←hW5] at ch5 bl5 sz5
   have hW6:=hW5
   unfold World.setChan at hW6
   rw [←hW6]
   have HF:=Lib.hid (show Qtp W5 ch k l true/\Below ch w W5/\ch<W5.heap.size from ⟨⟨s,0,ch5⟩,by rw [HCH.out];exact bl5,sz5⟩)
   clear hW5 hW6 ch5 bl5 sz5 hlt2 el
   refine WN.of ?_
   go_wp2_with fail
   go_ret
   exact ⟨ch,rfl,Bv _,HF.out.2.2,HF.out.1,HF.out.2.1⟩
end Go.Proofs.YthlcobdnemhcdaaGreat.K
noncomputable section
namespace Go.Proofs.YthlcobdnemhcdaaGreat.K
open Go.RowKit
noncomputable section
attribute [local irreducible] epV epN prZ
end
end Go.Proofs.YthlcobdnemhcdaaGreat.K
noncomputable section
namespace Go.Proofs.YthlcobdnemhcdaaGreat.K
open Go.RowKit
noncomputable section
theorem QxO {k:Keep}{id:Int}{l:List Certificate}(hk:ZL k 2=true)(hd:J3 id=true)(hl:l.length<=8)(h1:l.all QQ=true)(h2:E5 k id l=true):Uw k id l=true:=by
 simp only [ZL,Bc] at hk
 have h8:igt (Qd l) 8=false:=Bt (by simp only [Qd];omega)
 have hi:ine (ZZ k.1) 2=false:=by rw [QeS,hk.2];rfl
 unfold Uw
 rw [hk.1,hi,hd,h8,h1,h2]
 rfl
theorem QxP {c:Int}(h:1<=c/\c<=16):ieq (ZN c).2 0=true:=by
 unfold ZN
 rw [if_neg (by omega)]
 rfl
theorem QxQ {l:List Int}(hn:l.Nodup)(hr: ∀ x∈l,1<=x/\x<=16):XA l=true:=by
 have key: ∀ (k:Nat) (hk:k<l.length),(ieq (ZN l[k]).2 0&& !Zp (l.take k) l[k])=true:=by
  intro k hk
  rw [QxP (hr _ (Bu hk)),By,Bw]
  unfold Zp
  rw [Bool.eq_false_iff]
  intro hc
  have hm:=BH.1 hc
  obtain ⟨j,hj,he⟩:=List.mem_iff_getElem.1 hm
  rw [Dd] at hj
  rw [List.getElem_take] at he
  have:=(List.nodup_iff_pairwise_ne.1 hn)
  rw [List.pairwise_iff_getElem] at this
  exact this j k (by omega) hk (by omega) he
 simp only [XA,Xa,Bg,List.mem_range'_1]
 intro k hk
 have hk2:k<l.length:=by omega
 simp only [Bn,Bi hk2,BU]
 exact key k hk2
def goodS (l:List Int):Prop:=l.Nodup∧ ∀ x∈l,1<=x/\x<=16
def Qfq (l:List Int):Bool:= !igt (Qd l) 16&&(Uf l&&l.all J3)
def Qfr (l:List Int):Bool:=Uf l&&l.all GO
theorem QxR {e:Endpoint}(hw:GN e.1=true)(h1:1<=e.2.1)(h2:e.2.1<=e.2.2.1)(h3:e.2.2.1<=4)(hs:goodS (Eh e))(hi:(Xb e).length<=4)(hv:(Xb e).all GU=true)(ha:Qfq (U2 e)=true)(hh:Qfr (GT e)=true):JH e=true:=by
 simp only [Qfq,Qfr,Bc] at ha hh
 have g1:ilt e.2.1 1=false:=Bt (by omega)
 have g2:igt e.2.1 e.2.2.1=false:=Bt (by omega)
 have g3:igt e.2.2.1 4=false:=Bt (by omega)
 have g4:igt (Qd (Xb e)) 4=false:=Bt (by simp only [Qd];omega)
 unfold JH
 rw [hw,g1,g2,g3,QxQ hs.1 hs.2,g4,ha.1,ha.2.1,ha.2.2,hv,hh.1,hh.2]
 rfl
attribute [local irreducible] epV epN prZ
end
end Go.Proofs.YthlcobdnemhcdaaGreat.K
noncomputable section
namespace Go.Proofs.YthlcobdnemhcdaaGreat.K
open Go.RowKit
noncomputable section
end
end Go.Proofs.YthlcobdnemhcdaaGreat.K
noncomputable section
namespace Go.Proofs.YthlcobdnemhcdaaGreat.K
open Go.RowKit
abbrev YS (s:ByteArray)(k:Nat):Certificate:=(Wx (leafC s Jf (Qi .i64 100 (k:Int)) 901) 1).1
def Qev (s:ByteArray)(k:Nat):Bool:=
 JB (YS s k)&&(QQ (YS s k)&&(E5 Jf (Qi .i64 100 (k:Int)) [YS s k]&&(J3 (Qi .i64 100 (k:Int))&&(hasS (QN (YS s k)) s&&(!QeN [YS s k] 11&&(!QeN [YS s k] 15&&(!QeN [YS s k] 10&&(ieq (XR (YS s k)).1 1&&(ieq (YS s k).2.2.2.2.2.2.1 0&&(ieq (YS s k).2.2.2.2.2.2.2.1 901&&(ieq (YS s k).2.2.2.2.2.1.1 3&&(GN s&&Jk s))))))))))))
set_option maxRecDepth 100000 in
theorem QH7:(Xx.all fun s=>(List.range 3).all fun k=>Qev s k)=true:=by kernel_rfl
theorem Qwl {s:ByteArray}{k:Nat}(hs:s∈Xx)(hk:k<3):Qev s k=true:=
 Bg.1 (Bg.1 QH7 s hs) k (B2.2 hk)
def Qew (e:Endpoint):Prop:= ∃ d k s,e=YE d k s/\s∈Xx/\k<3
theorem QH8:ZL Jf 2=true:=by kernel_rfl
theorem QH9 (d:Dice):dof d [3,3,4]=3∨dof d [3,3,4]=4:=by
 have h:=UP (d:=d) (l:=[3,3,4]) (by decide)
 simp only [BJ,B1,DE] at h
 omega
def Qlk (l:List Int):Bool:=decide l.Nodup&&l.all fun x=>decide (1<=x/\x<=16)
theorem QIa {l:List Int}(h:Qlk l=true):goodS l:=by
 simp only [Qlk,Bc,Ba,Bg] at h
 exact h
theorem QIb (d:Dice):UQ d∈[[10,8,2],[8,2],[2,10,8,3],[14,10,8,2],[14,8,2],([14,2,10,8,3]:List Int)]:=by
 have b3:=Jm (d:=Qs d [3,3,4]) (n:=3) (by omega)
 unfold UQ
 rcases (show Qj (Qs d [3,3,4]) 3=0∨Qj (Qs d [3,3,4]) 3=1∨Qj (Qs d [3,3,4]) 3=2 by omega) with h|h|h<;>rw [h]<;>cases ieq (dof d [3,3,4]) 4<;>decide
theorem Qwm {p:List Int->Bool}(h:[[10,8,2],[8,2],[2,10,8,3],[14,10,8,2],[14,8,2],([14,2,10,8,3]:List Int)].all p=true)(d:Dice):p (UQ d)=true:=Bg.1 h _ (QIb d)
theorem QIc {e:Endpoint}(h:Qew e):Jy e=true:=by
 obtain ⟨d,k,s,rfl,hs,hk⟩:=h
 have hg:=Qwl hs hk
 simp only [Qev,Bc] at hg
 have hsu:(UQ d).length<=5:=BC (Qwm (p:=fun l=>decide (l.length<=5)) (by decide) d)
 have hc:JZ [YS s k]=true:=by
  simp only [JZ,B4,List.all_nil,hg.1,Dh]
  rfl
 unfold Jy
 simp only [Bc,Ba]
 refine ⟨⟨hg.2.2.2.2.2.2.2.2.2.2.2.2.2,⟨?_, ?_, ?_, ?_⟩⟩, ?_⟩
 ·show (UQ d).length<=100000
  omega
 ·exact (show 1<=100000 by decide)
 ·exact (show 1<=100000 by decide)
 ·exact (show 2<=100000 by decide)
 ·show (ZD (JO s Jf (Qi .i64 100 (k:Int)) 1 901)&&true)=true
  rw [Dh]
  exact hc
theorem QId {e:Endpoint}(h:Qew e):JH e=true:=by
 obtain ⟨d,k,s,rfl,hs,hk⟩:=h
 have hg:=Qwl hs hk
 simp only [Qev,Bc] at hg
 have hm:=QH9 d
 refine QxR (e:=YE d k s) hg.2.2.2.2.2.2.2.2.2.2.2.2.1 (Dp _) ?_ ?_ (QIa (Qwm (p:=Qlk) (by decide) d)) (show 1<=4 by decide) ?_ (show Qfq [1]=true by decide) (show Qfr [2,3]=true by kernel_rfl)
 ·show (1:Int)<=dof d [3,3,4]
  omega
 ·show dof d [3,3,4]<=4
  omega
 ·show (GU (JO s Jf (Qi .i64 100 (k:Int)) 1 901)&&true)=true
  rw [Dh]
  refine QxO QH8 hg.2.2.2.1 (show 1<=8 by decide) ?_ hg.2.2.1
  show (QQ (YS s k)&&true)=true
  rw [hg.2.1]
  rfl
theorem Qwn: ∀ (l:List ByteArray) (k:Nat) (d:Dice),(JJ l k d).1.length=l.length
 | [],_,_=>rfl
 |_::r,k,d=>by simp only [JJ,Bp,Qwn r (k+1) (Y6 d)]
theorem Qwo: ∀ (l:List ByteArray) (k:Nat) (d:Dice),(∀ s∈l,s∈Xx)->k+l.length<=3→ ∀ e∈(JJ l k d).1,Qew e
 | [],_,_,_,_,e,he=>by cases he
 |s::r,k,d,h,hk,e,he=>by
  simp only [JJ,BJ] at he
  simp only [Bp] at hk
  rcases he with rfl|he
  ·exact ⟨d,k,s,rfl,h s Do,by omega⟩
  ·exact Qwo r (k+1) (Y6 d) (fun s hs=>h s (BY _ hs)) (by omega) e he
theorem QIe (d:Dice): ∀ s∈Q7 d,s∈Xx:=by
 rcases Qhw d with h|h<;>rw [h]
 ·exact fun s hs=>List.mem_of_mem_take hs
 ·exact fun s hs=>hs
theorem QIf (d:Dice): ∀ e∈JQ (Jh d),Qew e:=Qwo (Q7 d) 0 (Qe d 2) (QIe d) (by have:=I5 d;omega)
theorem Qwp (d:Dice):(JQ (Jh d)).length=(Q7 d).length:=Qwn _ _ _
theorem snd_up (d:Dice):Qkq (JQ (Jh d)) 0=true:=by
 have hv: ∀ d k s,s∈Xx->k<3->JH (YE d k s)=true:=fun d k s hs hk=>QId ⟨d,k,s,rfl,hs,hk⟩
 have q1:slt (ByteArray.mk #[97,112,112]) (ByteArray.mk #[100,98])=true:=by kernel_rfl
 have q2:slt (ByteArray.mk #[100,98]) (ByteArray.mk #[119,101,98])=true:=by kernel_rfl
 show XO (JJ (Q7 d) 0 (Qe d 2)).1 (JJ (Q7 d) 0 (Qe d 2)).1 0=true
 rcases Qhw d with h|h<;>rw [h]
 ·show (JH (YE _ 0 _)&&true&&(JH (YE _ 1 _)&&(false||slt (ByteArray.mk #[97,112,112]) (ByteArray.mk #[100,98]))&&true))=true
  rw [hv _ _ _ (by simp) (by decide),hv _ _ _ (by simp) (by decide),q1]
  rfl
 ·show (JH (YE _ 0 _)&&true&&(JH (YE _ 1 _)&&(false||slt (ByteArray.mk #[97,112,112]) (ByteArray.mk #[100,98]))&&(JH (YE _ 2 _)&&(false||slt (ByteArray.mk #[100,98]) (ByteArray.mk #[119,101,98]))&&true)))=true
  rw [hv _ _ _ (by simp) (by decide),hv _ _ _ (by simp) (by decide),hv _ _ _ (by simp) (by decide),q1,q2]
  rfl
def Qex (a b:Keep):Prop:=a.1<b.1∨(a.1=b.1/\a.2.1<b.2.1)
def edG (n:Int)(l:List Keep)(i k:Int):Prop:=(∀ x∈l,Qdx n x=true)/\l.Pairwise Qex∧ ∀ x∈l,Qex x (i,(k,()))
theorem Qey {n:Int}{l:List Keep}{i k i' k':Int}(h:edG n l i k)(hl:i<i'∨(i=i'/\k<=k')):edG n l i' k':=by
 refine ⟨h.1,h.2.1,fun x hx=> ?_⟩
 have:=h.2.2 x hx
 simp only [Qex] at this ⊢
 omega
theorem Qez {n:Int}: ∀ (m:Nat) (i k:Int) (l:List Keep) (d:Dice),0<=i->i<n->0<=k->k+m<=n->edG n l i k->edG n (edZ m i k l d).1 i (k+m)
 |0,i,k,l,d,_,_,_,_,h=>Qey h (.inr ⟨rfl,by omega⟩)
 |m+1,i,k,l,d,h0,h1,h2,h3,h=>by
  have hs:edG n l i (k+1):=Qey h (.inr ⟨rfl,by omega⟩)
  have e:k+((m+1:Nat):Int)=k+1+m:=by omega
  unfold edZ
  rw [e]
  cases hn:ine i k with
  |false=>exact Qez m i (k+1) l d h0 h1 (by omega) (by omega) hs
  |true=>
   cases h4:(igt (Qj d 3) 0&&ilt (Qd l) 3) with
   |false=>exact Qez m i (k+1) l (Qe d 3) h0 h1 (by omega) (by omega) hs
   |true=>
    have hne:i≠k:=by simpa [ine] using hn
    refine Qez m i (k+1) (l++[(i,(k,()))]) (Qe d 3) h0 h1 (by omega) (by omega) ⟨fun x hx=> ?_, ?_,fun x hx=> ?_⟩
    ·rcases BA.1 hx with hx|hx
     ·exact h.1 x hx
     ·rw [Dj.1 hx]
      simp only [Qdx,ilt,ige,Zy,Bc,Bw,Bo]
      exact ⟨by omega,by omega,by omega,by omega,hne⟩
    ·rw [List.pairwise_append]
     refine ⟨h.2.1,List.pairwise_singleton _ _,fun x hx y hy=> ?_⟩
     rw [Dj.1 hy]
     exact h.2.2 x hx
    ·rcases BA.1 hx with hx|hx
     ·exact hs.2.2 x hx
     ·rw [Dj.1 hx]
      exact .inr ⟨rfl,by show k<k+1;omega⟩
theorem Qwq {n:Int}: ∀ (m nn:Nat) (i:Int) (l:List Keep) (d:Dice),(nn:Int)<=n->0<=i->i+m<=n->edG n l i 0->edG n (edY m nn i l d).1 (i+m) 0
 |0,nn,i,l,d,_,_,_,h=>Qey h (by omega)
 |m+1,nn,i,l,d,hnn,h0,h1,h=>by
  have:=Qez nn i 0 l d h0 (by omega) (by omega) (by omega) h
  have e:i+((m+1:Nat):Int)=i+1+m:=by omega
  unfold edY
  rw [e]
  exact Qwq m nn (i+1) _ _ hnn (by omega) (by omega) (Qey this (.inl (by omega)))
theorem Qwr {n i k:Int}{l:List Keep}(h:edG n l i k):ZG n l 0=true:=by
 unfold ZG
 rw [Bg]
 intro j hj
 have hj:j<l.length:=by
  rw [List.mem_range'] at hj
  obtain ⟨a,ha,rfl⟩:=hj
  omega
 have at_: ∀ q (hq:q<l.length),O3 l q=l[q]:=fun q hq=>by simp only [O3,Bn,Bi hq,BU]
 unfold Qdy
 rw [at_ j hj,h.1 _ (Bu hj),By]
 by_cases h0:j=0
 ·rw [Be h0,Bool.true_or]
 ·rw [Bt h0,Du,at_ (j-1) (by omega)]
  have hp:=List.pairwise_iff_getElem.1 h.2.1 (j-1) j (by omega) hj (by omega)
  simp only [Qex] at hp
  simp only [egLt,igt,ige,Zy,Bc,Bw,Bo,Bool.and_eq_false_imp,Ba]
  refine ⟨by omega,fun he=>by omega⟩
theorem QIg (d:Dice):ZG (Qd (JQ (Jh d))) (ZW (Jh d)) 0=true/\(ZW (Jh d)).length<=3/\0<(ZW (Jh d)).length:=by
 have hn:=I5 d
 have hl:Qd (JQ (Jh d))=((Q7 d).length:Int):=by rw [Qd,Qwp]
 rw [hl]
 show ZG _ (WW d) 0=true/\(WW d).length<=3/\0<(WW d).length
 unfold WW
 cases hq:ieq (Qd (Jj d).1) 0 with
 |true=>
  refine ⟨?_,(show 1<=3 by decide),(show 0<1 by decide)⟩
  show ZG _ [(0,(1,()))] 0=true
  refine Qwr (i:=5) (k:=5) ⟨fun x hx=> ?_,List.pairwise_singleton _ _,fun x hx=> ?_⟩<;>rw [Dj.1 hx]
  ·simp only [Qdx,ilt,ige,Zy,Bc,Bw,Bo]
   exact ⟨by omega,by omega,by omega,by omega,by omega⟩
  ·exact .inl (by decide)
 |false=>
  have hy:=Qwq (n:=((Q7 d).length:Int)) (Q7 d).length (Q7 d).length 0 [] (JJ (Q7 d) 0 (Qe d 2)).2 (Dp _) (Dp _) (by omega) (⟨fun x hx=>(nomatch hx),List.Pairwise.nil,fun x hx=>(nomatch hx)⟩:edG _ [] 0 0)
  refine ⟨Qwr hy, ?_, ?_⟩
  ·have hp: ∀ (m:Nat) (i k:Int) (l:List Keep) (d:Dice),l.length<=3->(edZ m i k l d).1.length<=3:=by
    intro m
    induction m with
    |zero=>exact fun _ _ _ _ h=>h
    |succ m ih=>
     intro i k l d h
     unfold edZ
     cases ine i k with
     |false=>exact ih _ _ _ _ h
     |true=>
      cases h1:igt (Qj d 3) 0 with
      |false=>exact ih _ _ _ _ h
      |true=>
       cases h2:ilt (Qd l) 3 with
       |false=>exact ih _ _ _ _ h
       |true=>
        have:=BC h2
        simp only [Qd] at this
        exact ih _ _ _ _ (by simp only [Bm,Bl];omega)
   have hr: ∀ (m n:Nat) (i:Int) (l:List Keep) (d:Dice),l.length<=3->(edY m n i l d).1.length<=3:=by
    intro m
    induction m with
    |zero=>exact fun _ _ _ _ h=>h
    |succ m ih=>exact fun n i l d h=>ih n (i+1) _ _ (hp n i 0 l d h)
   exact hr _ _ _ [] _ (by decide)
  ·simp only [Zy,Qd,Bo] at hq
   show 0<(Jj d).1.length
   omega
theorem QIh {d:Dice}:Jv (J7 d sIt)=true:=by
 have hv:=Jm (d:=d) (n:=2) (by omega)
 unfold J7
 show Jv (sIt.getD (Qj d 2).toNat ByteArray.empty)=true
 rcases (show Qj d 2=0∨Qj d 2=1 by omega) with h|h<;>rw [h]<;>kernel_rfl
theorem QIi {d:Dice}:Jk (J7 d sIt)=true:=by
 have hv:=Jm (d:=d) (n:=2) (by omega)
 unfold J7
 show Jk (sIt.getD (Qj d 2).toNat ByteArray.empty)=true
 rcases (show Qj d 2=0∨Qj d 2=1 by omega) with h|h<;>rw [h]<;>kernel_rfl
theorem QeA: ∀ (n:Nat) (d:Dice),(itZ n d).1.all ZA=true/\(itZ n d).1.all Yh=true/\(itZ n d).1.length=n
 |0,_=>⟨rfl,rfl,rfl⟩
 |n+1,d=>by
  have:=QeA n (XS (Yr d sIt) (J7 d sIt))
  simp only [itZ,B4,Bp,this,Dh,and_true]
  exact ⟨Qxu _ QIh,QIi⟩
theorem snd_ok (d:Dice):Xj (Jh d)=true/\ZH (Jh d)=true:=by
 have hn:=I5 d
 have h1:=snd_up d
 obtain ⟨h2,h3,h4⟩:=QIg d
 have hv3:=Jm (d:=(Jj d).2) (n:=3) (by omega)
 have hi:=QeA (Qj (Jj d).2 3).toNat (Qe (Jj d).2 3)
 have hl:(JQ (Jh d)).length<=3:=by rw [Qwp];omega
 have hx:Ji (Jh d)=(itZ (Qj (Jj d).2 3).toNat (Qe (Jj d).2 3)).1:=rfl
 constructor
 ·unfold Xj
  rw [h1,h2,hx,hi.1,show ile (Qd (JQ (Jh d))) 16=true from Be (by simp only [Qd];omega),show ile (Qd (ZW (Jh d))) 40=true from Be (by simp only [Qd];omega),show ile (Qd (itZ (Qj (Jj d).2 3).toNat (Qe (Jj d).2 3)).1) 30=true from Be (by simp only [Qd];omega)]
  rfl
 ·unfold ZH Zx
  rw [hx,hi.2.1,Be (show (JQ (Jh d)).length<=99999/\(ZW (Jh d)).length<=99999 by omega),Be (show (itZ (Qj (Jj d).2 3).toNat (Qe (Jj d).2 3)).1.length<=100000 by omega),By,By,Dh]
  exact Bg.2 fun e he=>QIc (QIf d e he)
end Go.Proofs.YthlcobdnemhcdaaGreat.K
noncomputable section
namespace Go.Proofs.YthlcobdnemhcdaaGreat.K
open Go.RowKit
noncomputable section
open Classical in
end
end Go.Proofs.YthlcobdnemhcdaaGreat.K
noncomputable section
namespace Go.Proofs.YthlcobdnemhcdaaGreat.K
open Go.RowKit
noncomputable section
def Qhu (x:Identity):Identity:=x
-- loop 0: (x12 : (List Certificate)) (x13 : Int) (x14 : Int) (y2 : Identity) (y3_0 : Int) (y3_1 : Int) (y3_2 : Int) (QIl : (List Certificate)); out: ('exit', 0) (y2 : Identity) (y3_0 : Int) (y3_1 : Int) (y3_2 : Int) (QIl : (List Certificate))
def I4 (x:Endpoint):Endpoint:=x
-- loop 0: (x21 : (List Identity)) (x22 : Int) (x23 : Int) (y2 : Endpoint) (y3_0 : ByteArray) (y3_1 : Int) (y3_2 : Int) (y3_4 : Bool) (y3_8 : Bool) (y9 : (List Int)) (y12 : (List Int)) (y15 : (List Int)) (QIj : (List Identity)); out: ('exit', 0) (y2 : Endpoint) (y3_0 : ByteArray) (y3_1 : Int) (y3_2 : Int) (y3_4 : Bool) (y3_8 : Bool) (y9 : (List Int)) (y12 : (List Int)) (y15 : (List Int)) (QIj : (List Identity))
def YD (x:Estate):Estate:=x
def Xw (i:Item):Bool:=decide (i.2.2.2.1.length<=1000)
def Zs (x:Estate):Bool:=ZH x&&(Ji x).all Xw
-- loop 0: (x13 : (List Endpoint)) (x14 : Int) (x15 : Int) (y1 : Estate) (y2 : Estate) (y10 : (List Keep)) (Qb : (List Endpoint)) (Qc : (List Item)); out: ('exit', 0) (y1 : Estate) (y2 : Estate) (y10 : (List Keep)) (Qb : (List Endpoint)) (Qc : (List Item))
-- loop 1: (x28 : (List Item)) (x29 : Int) (x30 : Int) (y2 : Estate) (y10 : (List Keep)) (Qb : (List Endpoint)) (Qc : (List Item)); out: ('exit', 2) (y2 : Estate) (y10 : (List Keep)) (Qb : (List Endpoint)) (Qc : (List Item))
end
end Go.Proofs.YthlcobdnemhcdaaGreat.K
noncomputable section
namespace Go.Proofs.YthlcobdnemhcdaaGreat.K
open Go.RowKit
theorem QcH {P:Program}(w:World)(t e:TypeId)(a:Option Addr)(l c:Nat)(h:P.underlying t=some (.slice e)):(binOp .eql t (.slice a l c) (.slice none 0 0)).run P w= .ok (.bool a.isNone) w:=by
 simp [binOp,run_equal_slice_nil w t e a l c h]
def XK {α:Type}(l:List α):Bool:=decide (l.length<=100000)
theorem own_cG {X:Nat->Nat->Prop}{w:World}{σ:Pl}{B e:Nat}{y:Ty}{l:List y.T}{cells:List Value}{sv:Value}(h:w.ownsRow B e y.sz sv l.length cells)(hc:Cs X w QO (l.flatMap y.cells) cells)(h1: ∀ u∈cells,u.oneCell'=true)(hX: ∀ b q,X b q->b<B):C X w σ (V.t (.sl y) l).d sv:=by
 obtain ⟨g,A,c,rfl,h2,h3,h4⟩:=Sl.of_own h
 have hlt:=h.lt
 show C X w σ (.sl l.length (l.flatMap y.cells)) _
 simp only [C]
 refine ⟨A,c,rfl,h2,h3,fun h0=> ?_,fun h0=> ?_⟩
 ·have:l=[]:=Bq h0
  rw [this]
  rfl
 ·obtain ⟨b,off,rfl,g1,g2⟩:=h4 h0
  refine ⟨b,off,cells,rfl,hc,g1,fun q _ hq=> ?_,fun j u hu=>g2 j u hu,h1⟩
  have:=hX b _ hq
  have:=(hlt b rfl).1
  omega
theorem QsV {P:Program}{f e N:Nat}{y:Ty}{ok:(Ty.pr (.sl y) .nil).T->Bool}(hlt:f<1000000)(hok: ∀ x,ok x=true->x.1.length<=N)
  (h: ∀ (A:Option Addr) (c n:Nat) (cells:List Value) (w:World),Sl w (.slice A n c) y.sz n cells->(∀ u∈cells,u.oneCell'=true)->n<=N→
   Calls P f #[.slice A n c] w fun r w'=> ∃ sv,r= .returned sv/\w'.ownsRow w.heap.size e y.sz sv n cells/\Below w.heap.size w w'):
  Qp P f (Qr (Qn (.pr (.sl y) .nil) ok (fun x=> .t (.sl y) x.1))):=by
 refine QaQ (hlt:=hlt) (fun x hx X w σ vs hfin hc=> ?_)
 obtain ⟨l,u0⟩:=x
 have hc:Cs X w σ [D.sl l.length (l.flatMap y.cells)] vs:=hc
 simp only [Cs,C] at hc
 obtain ⟨u,us,rfl,⟨A,c,rfl,hnc,hmx,hz,hp⟩,rfl⟩:=hc
 have hsl: ∃ cells,Sl w (.slice A l.length c) y.sz l.length cells/\(∀ u∈cells,u.oneCell'=true)/\Cs X w QO (List.flatMap y.cells l) cells:=by
  by_cases hq:l=[]
  ·subst hq
   exact ⟨[],⟨by simp,A,c,rfl,BZ _,hmx,fun hn=>absurd hn (by simp)⟩,fun u hu=>(by cases hu),by simp [Cs]⟩
  ·have hn:0<l.length:=List.length_pos_iff.2 hq
   obtain ⟨b,off,vs,rfl,g1,g2⟩:=hp hn
   have hvl:=Cs.len g1
   rw [Wj] at hvl
   exact ⟨vs,⟨hvl,_,c,rfl,hnc,hmx,fun _=>⟨b,off,rfl,g2.lt,fun j u hu=>g2.at_ j u hu⟩⟩,g2.one,g1⟩
 obtain ⟨cells,s1,s2,s3⟩:=hsl
 refine (h A c l.length cells w s1 s2 (hok _ hx)).mono ?_
 rintro en w' ⟨sv,rfl,ho,hb⟩
 exact ⟨sv,rfl,own_cG ho (Cs.ext0 (QE8 hb) _ _ (fun _ _=>rfl) s3) s2 hfin,hb⟩
def QsW (l:List Identity):List Identity:=l
def QsX:Ent:=Xp (.pr (.sl Jd) .nil) (fun x=>(XK x.1)) (fun x=>(.ms 50000)) (fun x=>[.arr 126 Jd (QsW x.1)])
theorem QEp:QV Tryz.prog 141:= .inr ⟨by decide,_,Tryz.func141,by kernel_rfl,by kernel_rfl⟩
theorem QEq:ElemOk Tryz.prog 109 126 4 48:=ElemOk.of (.agg #[.int .i64 0,.int .i64 0,.int .i64 0,.slice none 0 0]) (by kernel_rfl) (by kernel_rfl) (by kernel_rfl) (by decide)
set_option maxHeartbeats 400000 in
theorem QEr (A:Option Addr)(c n:Nat)(cells:List Value)(w:World)(h:Sl w (.slice A n c) 4 n cells)(h1: ∀ u∈cells,u.oneCell'=true)(hn:n<=100000):
  Calls Tryz.prog 141 #[.slice A n c] w fun r w'=> ∃ sv,r= .returned sv/\w'.ownsRow w.heap.size 126 4 sv n cells/\Below w.heap.size w w':=by
 have he:=QcH (P:=Tryz.prog) w 109 126 A n c (by kernel_rfl)
 rcases A with _|ad
 ·have hnil:n=0:=Dr fun h0=>by
   obtain ⟨_,A',c',hv,_,_,h3⟩:=h
   obtain ⟨b,off,e,_⟩:=h3 (by omega)
   rw [e] at hv
   simp at hv
  subst hnil
  have hc:cells=[]:=Bq (by rw [h.1,DC])
  subst hc
  clear h
  simp only [DT] at he
  go_enter Tryz.func141,Tryz.ntmps141
  go_wp2_with fail
  go_ret
  exact ⟨_,rfl,World.ownsRow_nil _ _ _ _,Below.refl _ _⟩
 ·simp only [DU] at he
  have hown:=World.ownsRow_made w #[] (size:=4) (e:=126) 0 (Bv _) (BZ _) rfl
  have hsrc:=h.alloc (.cells #[] 126)
  have HSRC:=Lib.hid hsrc
  clear h hsrc
  go_enter Tryz.func141,Tryz.ntmps141
  go_wp2_with (at_builtin;refine Ej QEq rfl _ _ rfl w.heap.size (.slice (some ⟨w.heap.size,0,none⟩) 0 0) 0 [] rfl hown (some ad) n c cells rfl HSRC.out h1 (by omega) (by omega) (by simp) ?_;intro v' w4 hown4 hg4 hat4)
  go_ret
  refine ⟨v',rfl,by simpa using hown4, ?_⟩
  have hal:=(Below.refl w.heap.size w).alloc (Bv _) (.cells #[] 126)
  exact U3 hal hg4 (Bv _) hal.size
theorem QEs:Qp Tryz.prog 141 (Qr QsX):=
 Qcl (e:=126) (y:=Jd) (by decide) (fun x hx=>BC hx) fun A c n cells w h h1 hn=>QEr A c n cells w h h1 hn
def QsY (l:List Certificate):List Certificate:=l
def QsZ:Ent:=Xp (.pr (.sl QT) .nil) (fun x=>(XK x.1)) (fun x=>(.ms 50000)) (fun x=>[.arr 204 QT (QsY x.1)])
theorem QEt:QV Tryz.prog 194:= .inr ⟨by decide,_,Tryz.func194,by kernel_rfl,by kernel_rfl⟩
theorem QEu:ElemOk Tryz.prog 124 204 15 152:=ElemOk.of (.agg #[.int .i64 0,.string ⟨#[]⟩,.string ⟨#[]⟩,.int .i64 0,.int .i64 0,.int .i64 0,.int .i64 0,.int .i64 0,.int .i64 0,.int .i64 0,.bool false,.int .i64 0,.slice none 0 0,.int .i64 0,.int .i64 0]) (by kernel_rfl) (by kernel_rfl) (by kernel_rfl) (by decide)
set_option maxHeartbeats 400000 in
theorem QEv (A:Option Addr)(c n:Nat)(cells:List Value)(w:World)(h:Sl w (.slice A n c) 15 n cells)(h1: ∀ u∈cells,u.oneCell'=true)(hn:n<=100000):
  Calls Tryz.prog 194 #[.slice A n c] w fun r w'=> ∃ sv,r= .returned sv/\w'.ownsRow w.heap.size 204 15 sv n cells/\Below w.heap.size w w':=by
 have he:=QcH (P:=Tryz.prog) w 124 204 A n c (by kernel_rfl)
 rcases A with _|ad
 ·have hnil:n=0:=Dr fun h0=>by
   obtain ⟨_,A',c',hv,_,_,h3⟩:=h
   obtain ⟨b,off,e,_⟩:=h3 (by omega)
   rw [e] at hv
   simp at hv
  subst hnil
  have hc:cells=[]:=Bq (by rw [h.1,DC])
  subst hc
  clear h
  simp only [DT] at he
  go_enter Tryz.func194,Tryz.ntmps194
  go_wp2_with fail
  go_ret
  exact ⟨_,rfl,World.ownsRow_nil _ _ _ _,Below.refl _ _⟩
 ·simp only [DU] at he
  have hown:=World.ownsRow_made w #[] (size:=15) (e:=204) 0 (Bv _) (BZ _) rfl
  have hsrc:=h.alloc (.cells #[] 204)
  have HSRC:=Lib.hid hsrc
  clear h hsrc
  go_enter Tryz.func194,Tryz.ntmps194
  go_wp2_with (at_builtin;refine Ej QEu rfl _ _ rfl w.heap.size (.slice (some ⟨w.heap.size,0,none⟩) 0 0) 0 [] rfl hown (some ad) n c cells rfl HSRC.out h1 (by omega) (by omega) (by simp) ?_;intro v' w4 hown4 hg4 hat4)
  go_ret
  refine ⟨v',rfl,by simpa using hown4, ?_⟩
  have hal:=(Below.refl w.heap.size w).alloc (Bv _) (.cells #[] 204)
  exact U3 hal hg4 (Bv _) hal.size
theorem QEw:Qp Tryz.prog 194 (Qr QsZ):=
 Qcl (e:=204) (y:=QT) (by decide) (fun x hx=>BC hx) fun A c n cells w h h1 hn=>QEv A c n cells w h h1 hn
def Qs0 (l:List ByteArray):List ByteArray:=l
def Qs1:Ent:=Qn (.pr (.sl .str) .nil) (fun x=>(XK x.1)) (fun x=>(.t (.sl .str) (Qs0 x.1)))
theorem QEx:QV Tryz.prog 195:= .inr ⟨by decide,_,Tryz.func195,by kernel_rfl,by kernel_rfl⟩
theorem QEy:ElemOk Tryz.prog 115 9 1 16:=ElemOk.of (.string ⟨#[]⟩) (by kernel_rfl) (by kernel_rfl) (by kernel_rfl) (by decide)
set_option maxHeartbeats 400000 in
theorem QEz (A:Option Addr)(c n:Nat)(cells:List Value)(w:World)(h:Sl w (.slice A n c) 1 n cells)(h1: ∀ u∈cells,u.oneCell'=true)(hn:n<=100000):
  Calls Tryz.prog 195 #[.slice A n c] w fun r w'=> ∃ sv,r= .returned sv/\w'.ownsRow w.heap.size 9 1 sv n cells/\Below w.heap.size w w':=by
 have he:=QcH (P:=Tryz.prog) w 115 9 A n c (by kernel_rfl)
 rcases A with _|ad
 ·have hnil:n=0:=Dr fun h0=>by
   obtain ⟨_,A',c',hv,_,_,h3⟩:=h
   obtain ⟨b,off,e,_⟩:=h3 (by omega)
   rw [e] at hv
   simp at hv
  subst hnil
  have hc:cells=[]:=Bq (by rw [h.1,DC])
  subst hc
  clear h
  simp only [DT] at he
  go_enter Tryz.func195,Tryz.ntmps195
  go_wp2_with fail
  go_ret
  exact ⟨_,rfl,World.ownsRow_nil _ _ _ _,Below.refl _ _⟩
 ·simp only [DU] at he
  have hown:=World.ownsRow_made w #[] (size:=1) (e:=9) 0 (Bv _) (BZ _) rfl
  have hsrc:=h.alloc (.cells #[] 9)
  have HSRC:=Lib.hid hsrc
  clear h hsrc
  go_enter Tryz.func195,Tryz.ntmps195
  go_wp2_with (at_builtin;refine Ej QEy rfl _ _ rfl w.heap.size (.slice (some ⟨w.heap.size,0,none⟩) 0 0) 0 [] rfl hown (some ad) n c cells rfl HSRC.out h1 (by omega) (by omega) (by simp) ?_;intro v' w4 hown4 hg4 hat4)
  go_ret
  refine ⟨v',rfl,by simpa using hown4, ?_⟩
  have hal:=(Below.refl w.heap.size w).alloc (Bv _) (.cells #[] 9)
  exact U3 hal hg4 (Bv _) hal.size
theorem QEA:Qp Tryz.prog 195 (Qr Qs1):=
 QsV (e:=9) (y:= .str) (by decide) (fun x hx=>BC hx) fun A c n cells w h h1 hn=>QEz A c n cells w h h1 hn
def QcI (l:List Int):List Int:=l
def Qs2:Ent:=Qn (.pr (.sl tI) .nil) (fun x=>(XK x.1)) (fun x=>(.t (.sl tI) (QcI x.1)))
theorem QEB:QV Tryz.prog 140:= .inr ⟨by decide,_,Tryz.func140,by kernel_rfl,by kernel_rfl⟩
theorem QEC:ElemOk Tryz.prog 22 3 1 8:=ElemOk.of (.int .i64 0) (by kernel_rfl) (by kernel_rfl) (by kernel_rfl) (by decide)
set_option maxHeartbeats 400000 in
theorem QED (A:Option Addr)(c n:Nat)(cells:List Value)(w:World)(h:Sl w (.slice A n c) 1 n cells)(h1: ∀ u∈cells,u.oneCell'=true)(hn:n<=100000):
  Calls Tryz.prog 140 #[.slice A n c] w fun r w'=> ∃ sv,r= .returned sv/\w'.ownsRow w.heap.size 3 1 sv n cells/\Below w.heap.size w w':=by
 have he:=QcH (P:=Tryz.prog) w 22 3 A n c (by kernel_rfl)
 rcases A with _|ad
 ·have hnil:n=0:=Dr fun h0=>by
   obtain ⟨_,A',c',hv,_,_,h3⟩:=h
   obtain ⟨b,off,e,_⟩:=h3 (by omega)
   rw [e] at hv
   simp at hv
  subst hnil
  have hc:cells=[]:=Bq (by rw [h.1,DC])
  subst hc
  clear h
  simp only [DT] at he
  go_enter Tryz.func140,Tryz.ntmps140
  go_wp2_with fail
  go_ret
  exact ⟨_,rfl,World.ownsRow_nil _ _ _ _,Below.refl _ _⟩
 ·simp only [DU] at he
  have hown:=World.ownsRow_made w #[] (size:=1) (e:=3) 0 (Bv _) (BZ _) rfl
  have hsrc:=h.alloc (.cells #[] 3)
  have HSRC:=Lib.hid hsrc
  clear h hsrc
  go_enter Tryz.func140,Tryz.ntmps140
  go_wp2_with (at_builtin;refine Ej QEC rfl _ _ rfl w.heap.size (.slice (some ⟨w.heap.size,0,none⟩) 0 0) 0 [] rfl hown (some ad) n c cells rfl HSRC.out h1 (by omega) (by omega) (by simp) ?_;intro v' w4 hown4 hg4 hat4)
  go_ret
  refine ⟨v',rfl,by simpa using hown4, ?_⟩
  have hal:=(Below.refl w.heap.size w).alloc (Bv _) (.cells #[] 3)
  exact U3 hal hg4 (Bv _) hal.size
theorem QEE:Qp Tryz.prog 140 (Qr Qs2):=
 QsV (e:=3) (y:=tI) (by decide) (fun x hx=>BC hx) fun A c n cells w h h1 hn=>QED A c n cells w h h1 hn
end Go.Proofs.YthlcobdnemhcdaaGreat.K
noncomputable section
namespace Go.Proofs.YthlcobdnemhcdaaGreat.K
open Go.RowKit
noncomputable section
theorem Qn8 {α:Type}{l:List α}{k:Nat}(hk:k<l.length):l.set k l[k]=l:=List.set_getElem_self hk
abbrev Qas:Sh:=⟨[(1,.ptr 1 0),(2,.ptr 2 0),(10,.ms 7),(11,.ty tI),(12,.ty tI)],[(1,.bag [.ty tI,.ty tI,.ty tI,.ms 7]),(2,.box Jd),(7,.arr 204 QT),(5007,.no),(10007,.no),(15007,.no)]⟩
abbrev Qy4:Sh:=⟨[(1,.ptr 1 0),(2,.ptr 2 0)],[(1,.bag [.ty tI,.ty tI,.ty tI,.ms 7]),(2,.box Jd),(7,.arr 204 QT),(5007,.no),(10007,.no),(15007,.no)]⟩
def Qgs:Fg:=Qas.f
def Qn9:TC:=aF Tryz.f142 [(58,pL 0 Qgs),(933,.fg ⟨[(1,none),(2,none)],[(1,some Jd),(2,some Jd),(7,none),(5007,none),(10007,none),(15007,none)]⟩),(3737,pD [(0,[1,7,5007,10007,15007]),(1,[1,7,5007,10007,15007]),(2,[]),(3,[4]),(4,[4]),(5,[]),(6,[7,5007,10007,15007]),(7,[7,5007,10007,15007]),(8,[1,2,7,5007,10007,15007])] (.of [0,1,2,3,4,5,6,7,8]))]
def Qoa:TC:=lb 0 Qn9
def Qob (x11 x12 y1_0 y1_1 y1_2:Int)(y2:Identity)(y7:List Certificate):VS:=Qas.st ((),(),(),x11,x12,()) ((y1_0,y1_1,y1_2,(),()),y2,y7,(),(),(),())
def Qgt (y1_0 y1_1 y1_2:Int)(y2:Identity)(y7:List Certificate):VS:=Qy4.st ((),(),()) ((y1_0,y1_1,y1_2,(),()),y2,y7,(),(),(),())
def Qy5:VS->Option (Bool×List (Bool×Exit×VS)):=mkL Qas (fun x y=>(decide (0<=x.2.2.2.2.1/\x.2.2.2.2.1<=x.2.2.2.1/\x.2.2.2.1=(y.2.2.1.length:Int))&&JZ y.2.2.1)) (fun x y=>[(true,.exit 0,Qgt (y.1.1) (y.1.2.1) (y.1.2.2.1) (y.2.1) (y.2.2.1))])
def Qgu:G:=gG 27 [(194,QsZ),(195,Qs1)] (Ls [Qy5])
def ID (x11 x12 y1_0 y1_1 y1_2:Int)(y2:Identity)(y7:List Certificate):OX:=Qx (Qz Qgu Qgs Qoa) (Qob x11 x12 y1_0 y1_1 y1_2 y2 y7)
def IE (kk:Int->Int->Int->Int->Int->Identity->List Certificate->OX)(x11 x12 y1_0 y1_1 y1_2:Int)(y2:Identity)(y7:List Certificate):OX:=
 let a3:=Int.toNat x12
 let a5:=lgt QT y7 a3
 let a1:=((a5.2).2)
 let a2:=(((((a1.2).2).2).2).2)
 let a4:=(((a2.2).2).2)
 br (ilt x12 x11) (br (cIx y7 x12) (br (cLd y7 a3) (br (XK (a4.1)) (br (cIx y7 x12) (br (cLd y7 a3) (kk x11 (Qi .i64 x12 1) y1_0 y1_1 y1_2 y2 (List.set y7 a3 (a5.1,((a5.2).1,(a1.1,((a1.2).1,(((a1.2).2).1,((((a1.2).2).2).1,(((((a1.2).2).2).2).1,(a2.1,((a2.2).1,(((a2.2).2).1,((Qs0 (a4.1)),a4.2))))))))))))) none) none) none) none) none) (some (.exit 0,Qgt y1_0 y1_1 y1_2 y2 y7))
def Qat (x11 x12 y1_0 y1_1 y1_2:Int)(y2:Identity)(y7:List Certificate):OX:=some (.exit 0,Qgt (y1_0) (y1_1) (y1_2) (y2) (y7))
theorem Qoc (x11 x12 y1_0 y1_1 y1_2:Int)(y2:Identity)(y7:List Certificate):ID x11 x12 y1_0 y1_1 y1_2 y2 y7=IE ID x11 x12 y1_0 y1_1 y1_2 y2 y7:=lnT (x:=IE (fun x11 x12 y1_0 y1_1 y1_2 y2 y7=>some (.normal,Qob x11 x12 y1_0 y1_1 y1_2 y2 y7)) x11 x12 y1_0 y1_1 y1_2 y2 y7) (by simp only [IE,nxA];rfl)
def Qod (p0:Identity):OV:=
 let a1:=QsY p0.2.2.1
 br (XK p0.2.2.1) (br (decide (0<=(0:Int)/\(0:Int)<=(Qd a1)/\(Qd a1)=(a1.length:Int))&&JZ a1) (some (.t Jd (((p0.1.1),((p0.1.2.1),())),((p0.2.1),(a1,()))),[])) none) none
theorem Qy6 (x11 x12 y1_0 y1_1 y1_2:Int)(y2:Identity)(y7:List Certificate)(h:(decide (0<=x12/\x12<=x11/\x11=(y7.length:Int))&&JZ y7)=true):ID x11 x12 y1_0 y1_1 y1_2 y2 y7=Qat x11 x12 y1_0 y1_1 y1_2 y2 y7:=by
 simp only [Bc,Ba] at h
 obtain ⟨⟨h0,h1,rfl⟩,hc⟩:=h
 obtain ⟨k,rfl⟩:=Br h0
 have hl:=QeM hc
 refine QX y7 (fun k=>ID (y7.length:Int) (k:Int) y1_0 y1_1 y1_2 y2 y7=Qat (y7.length:Int) (k:Int) y1_0 y1_1 y1_2 y2 y7) ?_ ?_ k (by omega)
 ·rw [Qoc]
  simp only [IE,Qat,QA,BS,BV,Ql]
 ·intro k hk ih
  rw [Qoc]
  have c1:XK (QN y7[k])=true:=Be (by have:=QeH (QlI hc hk);omega)
  have c2:cLd y7 k=true:=by simp only [cLd,Ba];exact hk
  simp only [IE,QA,QM,hk,Bx,Qg,Bd,QW (show k<4611686018427387904 by omega),QP (y:=QT) hk,c2]
  refine brY c1 ?_
  show ID (y7.length:Int) ((k+1:Nat):Int) y1_0 y1_1 y1_2 y2 (y7.set k y7[k])=_
  rw [Qn8 hk,ih]
  simp only [Qat]
theorem Qy7:LO Qgu Qgs Qoa 0:=QI (s:=Qas) fun x y h _ q=>by simp only [QG,QH] at q;exact (Qy6 x.2.2.2.1 x.2.2.2.2.1 y.1.1 y.1.2.1 y.1.2.2.1 y.2.1 y.2.2.1 h).trans q
theorem s_f142 (x:Identity)(h:ZD x=true):Qod x=some (.t Jd (Qhu x),[]):=by
 have h:JZ x.2.2.1=true:=h
 have hl:=QeM h
 unfold Qod
 refine brY (Be hl) (brY ?_ rfl)
 refine Bh.2 ⟨Be ⟨Dp 0, ?_,rfl⟩,h⟩
 simp only [Qd]
 omega
def Qoe:Ent:=Qn (.pr Jd .nil) (fun x=>(ZD x.1)) (fun x=>(.t Jd (Qhu x.1)))
theorem Qy8:EM 142 Qoe:=mS (lk:=lkL (lkc Qy7 lkn)) Qgu Qn9 [((.c 2 true 4),some Jd)] false (gB (gC QEt QEw (gC QEx QEA gN))) fun m=>Qt m fun x hok=>kT (s_f142 x.1 hok)
abbrev Qau:Sh:=⟨[(1,.ptr 1 0),(2,.ptr 2 0),(22,.ms 16),(23,.ty tI),(24,.ty tI)],[(1,.bag [.ty .str,.ty tI,.ty tI,.ty (.sl tI),.ty .bool,.ms 16,.ty (.sl tI),.ty (.sl tI),.ty .bool]),(2,.box QE),(16,.arr 126 Jd),(5016,.no),(10016,.no),(15016,.no)]⟩
abbrev Qy9:Sh:=⟨[(1,.ptr 1 0),(2,.ptr 2 0)],[(1,.bag [.ty .str,.ty tI,.ty tI,.ty (.sl tI),.ty .bool,.ms 16,.ty (.sl tI),.ty (.sl tI),.ty .bool]),(2,.box QE),(16,.arr 126 Jd),(5016,.no),(10016,.no),(15016,.no)]⟩
def Qgv:Fg:=Qau.f
def Qof:TC:=aF Tryz.f89 [(6,.fz [16,5016,10016,15016]),(6,pD [(0,[1]),(1,[1]),(2,[]),(3,[1]),(4,[1]),(5,[]),(6,[1]),(7,[1]),(8,[]),(9,[1]),(10,[1]),(11,[16,5016,10016,15016]),(12,[1]),(13,[1,2,16,5016,10016,15016]),(14,[1]),(15,[1,2,16,5016,10016,15016]),(16,[1]),(17,[1,2,16,5016,10016,15016]),(18,[1]),(19,[1,2,16,5016,10016,15016])] (.of [0,1,2,3,4,5,6,7,8,9,10,12,11,13,14,15,16,17,18,19])),(58,pL 0 Qgv),(933,.fg ⟨[(1,none),(2,none)],[(1,some QE),(2,some QE),(16,none),(5016,none),(10016,none),(15016,none)]⟩),(3737,pD [(0,[1,16,5016,10016,15016]),(1,[1,16,5016,10016,15016]),(2,[]),(3,[4]),(4,[]),(5,[16,5016,10016,15016]),(6,[1,2,16,5016,10016,15016])] (.of [0,1,2,3,4,5,6]))]
def Qog:TC:=lb 0 Qof
def Qoh (x23 x24:Int)(y1_0:ByteArray)(y1_1 y1_2:Int)(y1_3:List Int)(y1_4:Bool)(y1_6 y1_7:List Int)(y1_8:Bool)(y2:Endpoint)(y16:List Identity):VS:=Qau.st ((),(),(),x23,x24,()) ((y1_0,y1_1,y1_2,y1_3,y1_4,(),y1_6,y1_7,y1_8,()),y2,y16,(),(),(),())
def Qgw (y1_0:ByteArray)(y1_1 y1_2:Int)(y1_3:List Int)(y1_4:Bool)(y1_6 y1_7:List Int)(y1_8:Bool)(y2:Endpoint)(y16:List Identity):VS:=Qy9.st ((),(),()) ((y1_0,y1_1,y1_2,y1_3,y1_4,(),y1_6,y1_7,y1_8,()),y2,y16,(),(),(),())
def Qza:VS->Option (Bool×List (Bool×Exit×VS)):=mkL Qau (fun x y=>(decide (0<=x.2.2.2.2.1/\x.2.2.2.2.1<=x.2.2.2.1/\x.2.2.2.1=(y.2.2.1.length:Int)/\y.2.2.1.length<=100000)&&y.2.2.1.all ZD)) (fun x y=>[(true,.exit 0,Qgw (y.1.1) (y.1.2.1) (y.1.2.2.1) (y.1.2.2.2.1) (y.1.2.2.2.2.1) (y.1.2.2.2.2.2.2.1) (y.1.2.2.2.2.2.2.2.1) (y.1.2.2.2.2.2.2.2.2.1) (y.2.1) (y.2.2.1))])
def Qgx:G:=gG 37 [(140,Qs2),(141,QsX),(142,Qoe)] (Ls [Qza])
def IF (x23 x24:Int)(y1_0:ByteArray)(y1_1 y1_2:Int)(y1_3:List Int)(y1_4:Bool)(y1_6 y1_7:List Int)(y1_8:Bool)(y2:Endpoint)(y16:List Identity):OX:=Qx (Qz Qgx Qgv Qog) (Qoh x23 x24 y1_0 y1_1 y1_2 y1_3 y1_4 y1_6 y1_7 y1_8 y2 y16)
def IG (kk:Int->Int->ByteArray->Int->Int->List Int->Bool->List Int->List Int->Bool->Endpoint->List Identity->OX)(x23 x24:Int)(y1_0:ByteArray)(y1_1 y1_2:Int)(y1_3:List Int)(y1_4:Bool)(y1_6 y1_7:List Int)(y1_8:Bool)(y2:Endpoint)(y16:List Identity):OX:=
 let a1:=Int.toNat x24
 let a2:=lgt Jd y16 a1
 br (ilt x24 x23) (br (cIx y16 x24) (br (cLd y16 a1) (br (ZD a2) (br (cIx y16 x24) (br (cLd y16 a1) (kk x23 (Qi .i64 x24 1) y1_0 y1_1 y1_2 y1_3 y1_4 y1_6 y1_7 y1_8 y2 (List.set y16 a1 (Qhu a2))) none) none) none) none) none) (some (.exit 0,Qgw y1_0 y1_1 y1_2 y1_3 y1_4 y1_6 y1_7 y1_8 y2 y16))
def Qav (x23 x24:Int)(y1_0:ByteArray)(y1_1 y1_2:Int)(y1_3:List Int)(y1_4:Bool)(y1_6 y1_7:List Int)(y1_8:Bool)(y2:Endpoint)(y16:List Identity):OX:=some (.exit 0,Qgw (y1_0) (y1_1) (y1_2) (y1_3) (y1_4) (y1_6) (y1_7) (y1_8) (y2) (y16))
theorem Qoi (x23 x24:Int)(y1_0:ByteArray)(y1_1 y1_2:Int)(y1_3:List Int)(y1_4:Bool)(y1_6 y1_7:List Int)(y1_8:Bool)(y2:Endpoint)(y16:List Identity):IF x23 x24 y1_0 y1_1 y1_2 y1_3 y1_4 y1_6 y1_7 y1_8 y2 y16=IG IF x23 x24 y1_0 y1_1 y1_2 y1_3 y1_4 y1_6 y1_7 y1_8 y2 y16:=lnT (x:=IG (fun x23 x24 y1_0 y1_1 y1_2 y1_3 y1_4 y1_6 y1_7 y1_8 y2 y16=>some (.normal,Qoh x23 x24 y1_0 y1_1 y1_2 y1_3 y1_4 y1_6 y1_7 y1_8 y2 y16)) x23 x24 y1_0 y1_1 y1_2 y1_3 y1_4 y1_6 y1_7 y1_8 y2 y16) (by simp only [IG,nxA];rfl)
def r_f89 (p0:Endpoint):OV:=
 let a1:=QsW p0.2.2.2.2.2.1
 br (XK p0.2.2.2.1) (br (XK p0.2.2.2.2.2.2.1) (br (XK p0.2.2.2.2.2.2.2.1) (br (XK p0.2.2.2.2.2.1) (br (decide (0<=(0:Int)/\(0:Int)<=(Qd a1)/\(Qd a1)=(a1.length:Int)/\a1.length<=100000)&&a1.all ZD) (some (.t QE ((p0.1),((p0.2.1),((p0.2.2.1),((QcI p0.2.2.2.1),((p0.2.2.2.2.1),(a1,((QcI p0.2.2.2.2.2.2.1),((QcI p0.2.2.2.2.2.2.2.1),((p0.2.2.2.2.2.2.2.2.1),()))))))))),[])) none) none) none) none) none
theorem Qzb (x23 x24:Int)(y1_0:ByteArray)(y1_1 y1_2:Int)(y1_3:List Int)(y1_4:Bool)(y1_6 y1_7:List Int)(y1_8:Bool)(y2:Endpoint)(y16:List Identity)(h:(decide (0<=x24/\x24<=x23/\x23=(y16.length:Int)/\y16.length<=100000)&&y16.all ZD)=true):IF x23 x24 y1_0 y1_1 y1_2 y1_3 y1_4 y1_6 y1_7 y1_8 y2 y16=Qav x23 x24 y1_0 y1_1 y1_2 y1_3 y1_4 y1_6 y1_7 y1_8 y2 y16:=by
 simp only [Bc,Ba] at h
 obtain ⟨⟨h0,h1,rfl,hl⟩,hc⟩:=h
 obtain ⟨k,rfl⟩:=Br h0
 refine QX y16 (fun k=>IF (y16.length:Int) (k:Int) y1_0 y1_1 y1_2 y1_3 y1_4 y1_6 y1_7 y1_8 y2 y16=Qav (y16.length:Int) (k:Int) y1_0 y1_1 y1_2 y1_3 y1_4 y1_6 y1_7 y1_8 y2 y16) ?_ ?_ k (by omega)
 ·rw [Qoi]
  simp only [IG,Qav,QA,BS,BV,Ql]
 ·intro k hk ih
  rw [Qoi]
  have c1:ZD y16[k]=true:=Bg.1 hc _ (Bu hk)
  have c2:cLd y16 k=true:=by simp only [cLd,Ba];exact hk
  simp only [IG,QA,QM,hk,Bx,Qg,Bd,QW (show k<4611686018427387904 by omega),QP (y:=Jd) hk,c2,c1]
  show IF (y16.length:Int) ((k+1:Nat):Int) y1_0 y1_1 y1_2 y1_3 y1_4 y1_6 y1_7 y1_8 y2 (y16.set k y16[k])=_
  rw [Qn8 hk,ih]
  simp only [Qav]
theorem Qzc:LO Qgx Qgv Qog 0:=QI (s:=Qau) fun x y h _ q=>by simp only [QG,QH] at q;exact (Qzb x.2.2.2.1 x.2.2.2.2.1 y.1.1 y.1.2.1 y.1.2.2.1 y.1.2.2.2.1 y.1.2.2.2.2.1 y.1.2.2.2.2.2.2.1 y.1.2.2.2.2.2.2.2.1 y.1.2.2.2.2.2.2.2.2.1 y.2.1 y.2.2.1 h).trans q
theorem s_f89 (x:Endpoint)(h:Jy x=true):r_f89 x=some (.t QE (I4 x),[]):=by
 obtain ⟨_,h1,h2,h3,h4,h5⟩:=QAr h
 unfold r_f89
 refine brY (Be (show (Eh x).length<=100000 by omega)) (brY (Be (show (U2 x).length<=100000 by omega)) (brY (Be (show (GT x).length<=100000 by omega)) (brY (Be (show (Xb x).length<=100000 by omega)) (brY ?_ rfl))))
 refine Bh.2 ⟨Be ⟨Dp 0, ?_,rfl, ?_⟩,h5⟩
 ·simp only [Qd]
  omega
 ·exact h2
def Qgy:Ent:=Qn (.pr QE .nil) (fun x=>(Jy x.1)) (fun x=>(.t QE (I4 x.1)))
theorem Qoj:EM 89 Qgy:=mS (lk:=lkL (lkc Qzc lkn)) Qgx Qof [((.c 2 true 9),some QE)] false (gB (gC QEB QEE (gC QEp QEs (gD Qy8 gN)))) fun m=>Qt m fun x hok=>kT (s_f89 x.1 hok)
def QyD:List DO:=dT Tryz.f51 5
abbrev WE:Sh:=⟨[(1,.ptr 1 0),(2,.ptr 2 0),(3,.ptr 3 0),(14,.ty (.sl QE)),(15,.ty tI),(16,.ty tI)],[(1,.box Qo),(2,.box Qo),(3,.bag [.ms 20300,.ms 8,.ms 20302]),(8,.arr 113 Qk),(11,.no),(25,.no),(44,.no),(20300,.arr 111 QE),(20302,.arr 62 Qq)]⟩
abbrev QfR:Sh:=⟨[(1,.ptr 1 0),(2,.ptr 2 0),(3,.ptr 3 0)],[(1,.box Qo),(2,.box Qo),(3,.bag [.ms 20300,.ms 8,.ms 20302]),(8,.arr 113 Qk),(11,.no),(25,.no),(44,.no),(20300,.arr 111 QE),(20302,.arr 62 Qq)]⟩
abbrev WF:Sh:=⟨[(2,.ptr 2 0),(3,.ptr 3 0),(29,.ty (.sl Qq)),(30,.ty tI),(31,.ty tI)],[(2,.box Qo),(3,.bag [.ms 20300,.ms 8,.ms 20302]),(8,.arr 113 Qk),(11,.no),(25,.no),(44,.no),(20300,.arr 111 QE),(20302,.arr 62 Qq)]⟩
abbrev QfS:Sh:=⟨[(2,.ptr 2 0),(3,.ptr 3 0)],[(2,.box Qo),(3,.bag [.ms 20300,.ms 8,.ms 20302]),(8,.arr 113 Qk),(11,.no),(25,.no),(44,.no),(20300,.arr 111 QE),(20302,.arr 62 Qq)]⟩
def Uz:Fg:=WE.f
def UA:Fg:=WF.f
def Yw:TC:=aF Tryz.f51 [(58,.nf 3 2 62 20302),(58,.nf 3 0 111 20300),(58,pL 0 Uz),(933,.fg ⟨[(1,none),(2,none),(3,none)],[(1,some Qo),(2,some Qo),(3,some Qo),(8,none),(11,none),(25,none),(44,none),(20300,none),(20302,none)]⟩),(3737,pD [(0,[3,8,11,25,44,20300,20302]),(1,[3,8,11,25,44,20300,20302]),(2,[5]),(3,[]),(4,[]),(5,[2,3,8,11,25,44,5025,10025,15025,20300,20302]),(6,[3,8,11,25,44,20300,20302]),(7,[2,3,8,11,25,44,20300,20302])] (.of [0,1,2,3,4,5,6,7])),(122,.nf 3 0 111 20300),(122,.nf 3 2 62 20302),(122,.nf 7 3 45 20703),(122,pL 1 UA),(1957,.fg ⟨[(2,none),(3,none)],[(2,some Qo),(3,some Qo),(8,none),(11,none),(25,none),(44,none),(20300,none),(20302,none)]⟩)]
def Fv:TC:=lb 0 Yw
def Fx:TC:=lb 1 Yw
def Gp:List (RV×Option Ty):=[((.c 2 true 3),none)]
def Fy (x14:List Endpoint)(x15 x16:Int)(y1 y2:Estate)(y8:List Keep)(Qb:List Endpoint)(Qc:List Item):VS:=WE.st ((),(),(),x14,x15,x16,()) (y1,y2,((),(),(),()),y8,(),(),(),Qb,Qc,())
def UB (y1 y2:Estate)(y8:List Keep)(Qb:List Endpoint)(Qc:List Item):VS:=QfR.st ((),(),(),()) (y1,y2,((),(),(),()),y8,(),(),(),Qb,Qc,())
def Fz (x29:List Item)(x30 x31:Int)(y2:Estate)(y8:List Keep)(Qb:List Endpoint)(Qc:List Item):VS:=WF.st ((),(),x29,x30,x31,()) (y2,((),(),(),()),y8,(),(),(),Qb,Qc,())
def UC (y2:Estate)(y8:List Keep)(Qb:List Endpoint)(Qc:List Item):VS:=QfS.st ((),(),()) (y2,((),(),(),()),y8,(),(),(),Qb,Qc,())
def QfT:VS->Option (Bool×List (Bool×Exit×VS)):=mkL WE (fun x y=>(Qy x.2.2.2.1 x.2.2.2.2.1 x.2.2.2.2.2.1&&(x.2.2.2.1.all Jy&&decide (y.2.2.2.2.2.2.2.1.length<=x.2.2.2.2.2.1)))) (fun x y=>[(true,.exit 0,UB (y.1) (y.2.1) (y.2.2.2.1) (y.2.2.2.2.2.2.2.1++x.2.2.2.1.drop x.2.2.2.2.2.1.toNat) (y.2.2.2.2.2.2.2.2.1))])
def QfU:VS->Option (Bool×List (Bool×Exit×VS)):=mkL WF (fun x y=>(Qy x.2.2.1 x.2.2.2.1 x.2.2.2.2.1&&(x.2.2.1.all Xw&&decide (y.2.2.2.2.2.2.2.1.length<=x.2.2.2.2.1)))) (fun x y=>[(true,.exit 2,UC (y.1) (y.2.2.1) (y.2.2.2.2.2.2.1) (y.2.2.2.2.2.2.2.1++x.2.2.1.drop x.2.2.2.2.1.toNat))])
def Zg:G:=⟨TYs,[8,35],48,EL [(89,Qgy)],keeps,(Ls [QfT,QfU]),IL [],RL []⟩
def WG (x14:List Endpoint)(x15 x16:Int)(y1 y2:Estate)(y8:List Keep)(Qb:List Endpoint)(Qc:List Item):OX:=Qx (Qz Zg Uz Fv) (Fy x14 x15 x16 y1 y2 y8 Qb Qc)
def XT (kk:List Endpoint->Int->Int->Estate->Estate->List Keep->List Endpoint->List Item->OX)(x14:List Endpoint)(x15 x16:Int)(y1 y2:Estate)(y8:List Keep)(Qb:List Endpoint)(Qc:List Item):OX:=
 let a1:=I4 (lgt QE x14 (Int.toNat x16))
 let a2:=((a1.2).1,(((a1.2).2).1,((((a1.2).2).2).1,(((((a1.2).2).2).2).1,((((((a1.2).2).2).2).2).1,(((((((a1.2).2).2).2).2).2).1,((((((((a1.2).2).2).2).2).2).2).1,(((((((((a1.2).2).2).2).2).2).2).2).1,()))))))))
 br (ilt x16 x15) (br (cIx x14 x16) (br (Jy (lgt QE x14 (Int.toNat x16))) (br (Qw Qb ([(a1.1,a2)]) 144) (kk x14 x15 (Qi .i64 x16 1) y1 y2 y8 (Qb++([(a1.1,a2)])) Qc) none) none) none) (some (.exit 0,UB y1 y2 y8 Qb Qc))
def WH (x14:List Endpoint)(x15 x16:Int)(y1 y2:Estate)(y8:List Keep)(Qb:List Endpoint)(Qc:List Item):OX:=some (.exit 0,UB (y1) (y2) (y8) (Qb++x14.drop x16.toNat) (Qc))
theorem Is (x14:List Endpoint)(x15 x16:Int)(y1 y2:Estate)(y8:List Keep)(Qb:List Endpoint)(Qc:List Item):WG x14 x15 x16 y1 y2 y8 Qb Qc=XT WG x14 x15 x16 y1 y2 y8 Qb Qc:=lnT (x:=XT (fun x14 x15 x16 y1 y2 y8 Qb Qc=>some (.normal,Fy x14 x15 x16 y1 y2 y8 Qb Qc)) x14 x15 x16 y1 y2 y8 Qb Qc) (by simp only [XT,nxA];rfl)
def WI (x29:List Item)(x30 x31:Int)(y2:Estate)(y8:List Keep)(Qb:List Endpoint)(Qc:List Item):OX:=Qx (Qz Zg UA Fx) (Fz x29 x30 x31 y2 y8 Qb Qc)
def XU (kk:List Item->Int->Int->Estate->List Keep->List Endpoint->List Item->OX)(x29:List Item)(x30 x31:Int)(y2:Estate)(y8:List Keep)(Qb:List Endpoint)(Qc:List Item):OX:=
 let a1:=lgt Qq x29 (Int.toNat x31)
 let a2:=(((a1.2).2).2)
 br (ilt x31 x30) (br (cIx x29 x31) (br (Qw ([]:List Link) (a2.1) 24) (br (Qw Qc ([(a1.1,((a1.2).1,(((a1.2).2).1,((([]:List Link)++(a2.1)),((a2.2).1,())))))]) 64) (kk x29 x30 (Qi .i64 x31 1) y2 y8 Qb (Qc++([(a1.1,((a1.2).1,(((a1.2).2).1,((([]:List Link)++(a2.1)),((a2.2).1,())))))]))) none) none) none) (some (.exit 2,UC y2 y8 Qb Qc))
def WJ (x29:List Item)(x30 x31:Int)(y2:Estate)(y8:List Keep)(Qb:List Endpoint)(Qc:List Item):OX:=some (.exit 2,UC (y2) (y8) (Qb) (Qc++x29.drop x31.toNat))
theorem It (x29:List Item)(x30 x31:Int)(y2:Estate)(y8:List Keep)(Qb:List Endpoint)(Qc:List Item):WI x29 x30 x31 y2 y8 Qb Qc=XU WI x29 x30 x31 y2 y8 Qb Qc:=lnT (x:=XU (fun x29 x30 x31 y2 y8 Qb Qc=>some (.normal,Fz x29 x30 x31 y2 y8 Qb Qc)) x29 x30 x31 y2 y8 Qb Qc) (by simp only [XU,nxA];rfl)
def Gq (p0:Estate):OV:=
 let a1:=((((p0).2).2).1)
 br (Qw ([]:List Keep) p0.2.1 16) (br (Qy p0.1 (Qd p0.1) (0:Int)&&(p0.1.all Jy&&decide (([]:List Endpoint).length<=(0:Int)))) (br (Qy a1 (Qd a1) (0:Int)&&(a1.all Xw&&decide (([]:List Item).length<=(0:Int)))) (some (.ag [(.ms 50000),(.ms 50001),(.ms 50002)],[.arr 111 QE (([]:List Endpoint)++p0.1.drop (0:Int).toNat),.arr 113 Qk (([]:List Keep)++p0.2.1),.arr 62 Qq (([]:List Item)++a1.drop (0:Int).toNat)])) none) none) none
theorem QfV (p0:Estate):QK Zg Yw Gp true [.t Qo p0] []=Gq p0:=by kernel_rfl
theorem ok_f51:Option.map (trC Tryz.prog) Tryz.f51.body=some Yw.er:=by kernel_rfl
theorem QyG:Xo Tryz.prog Tryz.f51.results.toList=some (Gp.map Prod.fst):=by kernel_rfl
theorem Qnz:QV Tryz.prog 51:= .inr ⟨by decide,_,Tryz.func51,by kernel_rfl,by kernel_rfl⟩
theorem QfW:GOk Tryz.prog Zg:=Jg _ (gA (gD Qoj gN))
theorem QfX (x14:List Endpoint)(x15 x16:Int)(y1 y2:Estate)(y8:List Keep)(Qb:List Endpoint)(Qc:List Item)(h:(Qy x14 x15 x16&&(x14.all Jy&&decide (Qb.length<=x16)))=true):WG x14 x15 x16 y1 y2 y8 Qb Qc=WH x14 x15 x16 y1 y2 y8 Qb Qc:=by
 simp only [Bc,Ba] at h
 obtain ⟨h0,hc,hl⟩:=h
 obtain ⟨rfl,h3,k,rfl,hk⟩:=JE h0
 clear h0
 revert Qb
 refine QX x14 (fun k=> ∀ (Qb:List Endpoint),(Qb.length:Int)<=(k:Int)->WG x14 (x14.length:Int) (k:Int) y1 y2 y8 Qb Qc=WH x14 (x14.length:Int) (k:Int) y1 y2 y8 Qb Qc) ?_ ?_ k hk
 ·intro Qb _
  rw [Is]
  simp only [XT,WH,QA,BS,BV,Ql,Bd,B6,BP]
 ·intro k hk ih Qb hl
  rw [Is]
  have c1:Jy x14[k]=true:=Bg.1 hc _ (Bu hk)
  simp only [XT,QA,QM,hk,Bx,Qg,Bd,QW (show k<4611686018427387904 by omega),QP (y:=QE) hk,c1]
  refine brY (Jr (by omega) (by simp only [Bl];omega)) ?_
  refine Eq.trans (ih (Qb++[x14[k]]) (by simp only [Bm,Bl];omega)) ?_
  simp only [WH,Bd,Bj hk,BN,BM]
theorem QfY (x29:List Item)(x30 x31:Int)(y2:Estate)(y8:List Keep)(Qb:List Endpoint)(Qc:List Item)(h:(Qy x29 x30 x31&&(x29.all Xw&&decide (Qc.length<=x31)))=true):WI x29 x30 x31 y2 y8 Qb Qc=WJ x29 x30 x31 y2 y8 Qb Qc:=by
 simp only [Bc,Ba] at h
 obtain ⟨h0,hc,hl⟩:=h
 obtain ⟨rfl,h3,k,rfl,hk⟩:=JE h0
 clear h0
 revert Qc
 refine QX x29 (fun k=> ∀ (Qc:List Item),(Qc.length:Int)<=(k:Int)->WI x29 (x29.length:Int) (k:Int) y2 y8 Qb Qc=WJ x29 (x29.length:Int) (k:Int) y2 y8 Qb Qc) ?_ ?_ k hk
 ·intro Qc _
  rw [It]
  simp only [XU,WJ,QA,BS,BV,Ql,Bd,B6,BP]
 ·intro k hk ih Qc hl
  rw [It]
  have c1:x29[k].2.2.2.1.length<=1000:=BC (Bg.1 hc _ (Bu hk))
  simp only [XU,QA,QM,hk,Bx,Qg,Bd,QW (show k<4611686018427387904 by omega),QP (y:=Qq) hk]
  refine brY (Jr (by decide) (by simp only [BD];omega)) (brY (Jr (by omega) (by simp only [Bl];omega)) ?_)
  refine Eq.trans (ih (Qc++[x29[k]]) (by simp only [Bm,Bl];omega)) ?_
  simp only [WJ,Bd,Bj hk,BN,BM]
theorem QfZ:LO Zg Uz Fv 0:=QI (s:=WE) fun x y h _ q=>by simp only [QG,QH] at q;exact (QfX x.2.2.2.1 x.2.2.2.2.1 x.2.2.2.2.2.1 y.1 y.2.1 y.2.2.2.1 y.2.2.2.2.2.2.2.1 y.2.2.2.2.2.2.2.2.1 h).trans q
theorem Qf0:LO Zg UA Fx 1:=QI (s:=WF) fun x y h _ q=>by simp only [QG,QH] at q;exact (QfY x.2.2.1 x.2.2.2.1 x.2.2.2.2.1 y.1 y.2.2.1 y.2.2.2.2.2.2.1 y.2.2.2.2.2.2.2.1 h).trans q
theorem Qf1:Yw.lok Zg:=by
 repeat (first|exact trivial|exact QfZ|exact Qf0|refine ⟨?_, ?_⟩)
theorem Qf2 (x:Estate)(h:Zs x=true):Gq x=some (.ag [.ms 50000,.ms 50001,.ms 50002],[.arr 111 QE (YD x).1,.arr 113 Qk (YD x).2.1,.arr 62 Qq (YD x).2.2.1]):=by
 obtain ⟨h,h6⟩:=Bh.1 h
 simp only [ZH,Bc,Ba] at h
 obtain ⟨⟨h1,h2⟩,h3,h4⟩:=h
 have h5:=O6 h4
 unfold Gq
 have hx:x.2.1.length<=99999:=h2
 refine brY (Jr (by decide) (by simp only [BD];omega)) (brY ?_ (brY ?_ rfl))
 ·rw [JF (show (JQ x).length<=100000 by omega),h3,By,By]
  exact Be (Dp _)
 ·rw [JF h5,h6,By,By]
  exact Be (Dp _)
def FA:Ent:=Xp (.pr Qo .nil) (fun x=>(Zs x.1)) (fun x=>(.ag [(.ms 50000),(.ms 50001),(.ms 50002)])) (fun x=>[.arr 111 QE ((YD x.1).1),.arr 113 Qk (((YD x.1).2).1),.arr 62 Qq ((((YD x.1).2).2).1)])
theorem Qf3:Qp Tryz.prog 51 (Qr FA):=QoM (R:=QK Zg Yw Gp true) (mG Tryz.func51 (by kernel_rfl) Tryz.ntmps51 (by kernel_rfl) QfW Qf1) fun x hok=>(QfV x.1).trans (Qf2 x.1 hok)
end
end Go.Proofs.YthlcobdnemhcdaaGreat.K
noncomputable section
namespace Go.Proofs.YthlcobdnemhcdaaGreat.K.PJ
open Go.RowKit
noncomputable section
def QyD:List DO:=dT Tryz.f51 5
abbrev WE:Sh:=⟨[(1,.ptr 1 0),(2,.ptr 2 0),(3,.ptr 3 0),(14,.ty (.sl QE)),(15,.ty tI),(16,.ty tI)],[(1,.box Qo),(2,.box Qo),(3,.bag [.ms 20300,.ms 8,.ms 20302]),(8,.arr 113 Qk),(11,.no),(25,.no),(44,.no),(20300,.arr 111 QE),(20302,.arr 62 Qq)]⟩
abbrev QfR:Sh:=⟨[(1,.ptr 1 0),(2,.ptr 2 0),(3,.ptr 3 0)],[(1,.box Qo),(2,.box Qo),(3,.bag [.ms 20300,.ms 8,.ms 20302]),(8,.arr 113 Qk),(11,.no),(25,.no),(44,.no),(20300,.arr 111 QE),(20302,.arr 62 Qq)]⟩
abbrev WF:Sh:=⟨[(2,.ptr 2 0),(3,.ptr 3 0),(29,.ty (.sl Qq)),(30,.ty tI),(31,.ty tI)],[(2,.box Qo),(3,.bag [.ms 20300,.ms 8,.ms 20302]),(8,.arr 113 Qk),(11,.no),(25,.no),(44,.no),(20300,.arr 111 QE),(20302,.arr 62 Qq)]⟩
abbrev QfS:Sh:=⟨[(2,.ptr 2 0),(3,.ptr 3 0)],[(2,.box Qo),(3,.bag [.ms 20300,.ms 8,.ms 20302]),(8,.arr 113 Qk),(11,.no),(25,.no),(44,.no),(20300,.arr 111 QE),(20302,.arr 62 Qq)]⟩
def Uz:Fg:=WE.f
def UA:Fg:=WF.f
def Yw:TC:=aF Tryz.f51 [(58,.nf 3 2 62 20302),(58,.nf 3 0 111 20300),(58,pL 0 Uz),(933,.fg ⟨[(1,none),(2,none),(3,none)],[(1,some Qo),(2,some Qo),(3,some Qo),(8,none),(11,none),(25,none),(44,none),(20300,none),(20302,none)]⟩),(3737,pD [(0,[3,8,11,25,44,20300,20302]),(1,[3,8,11,25,44,20300,20302]),(2,[5]),(3,[]),(4,[]),(5,[2,3,8,11,25,44,5025,10025,15025,20300,20302]),(6,[3,8,11,25,44,20300,20302]),(7,[2,3,8,11,25,44,20300,20302])] (.of [0,1,2,3,4,5,6,7])),(122,.nf 3 0 111 20300),(122,.nf 3 2 62 20302),(122,.nf 7 3 45 20703),(122,pL 1 UA),(1957,.fg ⟨[(2,none),(3,none)],[(2,some Qo),(3,some Qo),(8,none),(11,none),(25,none),(44,none),(20300,none),(20302,none)]⟩)]
def Fv:TC:=lb 0 Yw
def Fx:TC:=lb 1 Yw
def Gp:List (RV×Option Ty):=[((.c 2 true 3),some Qo)]
def Fy (x14:List Endpoint)(x15 x16:Int)(y1 y2:Estate)(y8:List Keep)(Qb:List Endpoint)(Qc:List Item):VS:=WE.st ((),(),(),x14,x15,x16,()) (y1,y2,((),(),(),()),y8,(),(),(),Qb,Qc,())
def UB (y1 y2:Estate)(y8:List Keep)(Qb:List Endpoint)(Qc:List Item):VS:=QfR.st ((),(),(),()) (y1,y2,((),(),(),()),y8,(),(),(),Qb,Qc,())
def Fz (x29:List Item)(x30 x31:Int)(y2:Estate)(y8:List Keep)(Qb:List Endpoint)(Qc:List Item):VS:=WF.st ((),(),x29,x30,x31,()) (y2,((),(),(),()),y8,(),(),(),Qb,Qc,())
def UC (y2:Estate)(y8:List Keep)(Qb:List Endpoint)(Qc:List Item):VS:=QfS.st ((),(),()) (y2,((),(),(),()),y8,(),(),(),Qb,Qc,())
def QfT:VS->Option (Bool×List (Bool×Exit×VS)):=mkL WE (fun x y=>(Qy x.2.2.2.1 x.2.2.2.2.1 x.2.2.2.2.2.1&&(x.2.2.2.1.all Jy&&decide (y.2.2.2.2.2.2.2.1.length<=x.2.2.2.2.2.1)))) (fun x y=>[(true,.exit 0,UB (y.1) (y.2.1) (y.2.2.2.1) (y.2.2.2.2.2.2.2.1++x.2.2.2.1.drop x.2.2.2.2.2.1.toNat) (y.2.2.2.2.2.2.2.2.1))])
def QfU:VS->Option (Bool×List (Bool×Exit×VS)):=mkL WF (fun x y=>(Qy x.2.2.1 x.2.2.2.1 x.2.2.2.2.1&&(x.2.2.1.all Xw&&decide (y.2.2.2.2.2.2.2.1.length<=x.2.2.2.2.1)))) (fun x y=>[(true,.exit 2,UC (y.1) (y.2.2.1) (y.2.2.2.2.2.2.1) (y.2.2.2.2.2.2.2.1++x.2.2.1.drop x.2.2.2.2.1.toNat))])
def Zg:G:=⟨TYs,[8,35],48,EL [(89,Qgy)],keeps,(Ls [QfT,QfU]),IL [],RL []⟩
def Qnx (x14:List Endpoint)(x15 x16:Int)(y1 y2:Estate)(y8:List Keep)(Qb:List Endpoint)(Qc:List Item):OX:=
 let a1:=I4 (lgt QE x14 (Int.toNat x16))
 let a2:=((a1.2).1,(((a1.2).2).1,((((a1.2).2).2).1,(((((a1.2).2).2).2).1,((((((a1.2).2).2).2).2).1,(((((((a1.2).2).2).2).2).2).1,((((((((a1.2).2).2).2).2).2).2).1,(((((((((a1.2).2).2).2).2).2).2).2).1,()))))))))
 br (ilt x16 x15) (br (cIx x14 x16) (br (Jy (lgt QE x14 (Int.toNat x16))) (br (Qw Qb ([(a1.1,a2)]) 144) (some (.normal,Fy x14 x15 (Qi .i64 x16 1) y1 y2 y8 (Qb++([(a1.1,a2)])) Qc)) none) none) none) (some (.exit 0,UB y1 y2 y8 Qb Qc))
def WG (x14:List Endpoint)(x15 x16:Int)(y1 y2:Estate)(y8:List Keep)(Qb:List Endpoint)(Qc:List Item):OX:=Qx (Qz Zg Uz Fv) (Fy x14 x15 x16 y1 y2 y8 Qb Qc)
def XT (x14:List Endpoint)(x15 x16:Int)(y1 y2:Estate)(y8:List Keep)(Qb:List Endpoint)(Qc:List Item):OX:=
 let a1:=I4 (lgt QE x14 (Int.toNat x16))
 let a2:=((a1.2).1,(((a1.2).2).1,((((a1.2).2).2).1,(((((a1.2).2).2).2).1,((((((a1.2).2).2).2).2).1,(((((((a1.2).2).2).2).2).2).1,((((((((a1.2).2).2).2).2).2).2).1,(((((((((a1.2).2).2).2).2).2).2).2).1,()))))))))
 br (ilt x16 x15) (br (cIx x14 x16) (br (Jy (lgt QE x14 (Int.toNat x16))) (br (Qw Qb ([(a1.1,a2)]) 144) (WG x14 x15 (Qi .i64 x16 1) y1 y2 y8 (Qb++([(a1.1,a2)])) Qc) none) none) none) (some (.exit 0,UB y1 y2 y8 Qb Qc))
def WH (x14:List Endpoint)(x15 x16:Int)(y1 y2:Estate)(y8:List Keep)(Qb:List Endpoint)(Qc:List Item):OX:=some (.exit 0,UB (y1) (y2) (y8) (Qb++x14.drop x16.toNat) (Qc))
theorem QyE (x14:List Endpoint)(x15 x16:Int)(y1 y2:Estate)(y8:List Keep)(Qb:List Endpoint)(Qc:List Item):Qz Zg Uz Fv (Fy x14 x15 x16 y1 y2 y8 Qb Qc)=Qnx x14 x15 x16 y1 y2 y8 Qb Qc:=by kernel_rfl
theorem Is (x14:List Endpoint)(x15 x16:Int)(y1 y2:Estate)(y8:List Keep)(Qb:List Endpoint)(Qc:List Item):WG x14 x15 x16 y1 y2 y8 Qb Qc=XT x14 x15 x16 y1 y2 y8 Qb Qc:=(GB _ _).trans (by
 rw [QyE]
 simp only [Qnx,XT,Xq,XW,XX,XY,XZ]
 rfl)
def Qny (x29:List Item)(x30 x31:Int)(y2:Estate)(y8:List Keep)(Qb:List Endpoint)(Qc:List Item):OX:=
 let a1:=lgt Qq x29 (Int.toNat x31)
 let a2:=(((a1.2).2).2)
 br (ilt x31 x30) (br (cIx x29 x31) (br (Qw ([]:List Link) (a2.1) 24) (br (Qw Qc ([(a1.1,((a1.2).1,(((a1.2).2).1,((([]:List Link)++(a2.1)),((a2.2).1,())))))]) 64) (some (.normal,Fz x29 x30 (Qi .i64 x31 1) y2 y8 Qb (Qc++([(a1.1,((a1.2).1,(((a1.2).2).1,((([]:List Link)++(a2.1)),((a2.2).1,())))))])))) none) none) none) (some (.exit 2,UC y2 y8 Qb Qc))
def WI (x29:List Item)(x30 x31:Int)(y2:Estate)(y8:List Keep)(Qb:List Endpoint)(Qc:List Item):OX:=Qx (Qz Zg UA Fx) (Fz x29 x30 x31 y2 y8 Qb Qc)
def XU (x29:List Item)(x30 x31:Int)(y2:Estate)(y8:List Keep)(Qb:List Endpoint)(Qc:List Item):OX:=
 let a1:=lgt Qq x29 (Int.toNat x31)
 let a2:=(((a1.2).2).2)
 br (ilt x31 x30) (br (cIx x29 x31) (br (Qw ([]:List Link) (a2.1) 24) (br (Qw Qc ([(a1.1,((a1.2).1,(((a1.2).2).1,((([]:List Link)++(a2.1)),((a2.2).1,())))))]) 64) (WI x29 x30 (Qi .i64 x31 1) y2 y8 Qb (Qc++([(a1.1,((a1.2).1,(((a1.2).2).1,((([]:List Link)++(a2.1)),((a2.2).1,())))))]))) none) none) none) (some (.exit 2,UC y2 y8 Qb Qc))
def WJ (x29:List Item)(x30 x31:Int)(y2:Estate)(y8:List Keep)(Qb:List Endpoint)(Qc:List Item):OX:=some (.exit 2,UC (y2) (y8) (Qb) (Qc++x29.drop x31.toNat))
theorem QyF (x29:List Item)(x30 x31:Int)(y2:Estate)(y8:List Keep)(Qb:List Endpoint)(Qc:List Item):Qz Zg UA Fx (Fz x29 x30 x31 y2 y8 Qb Qc)=Qny x29 x30 x31 y2 y8 Qb Qc:=by kernel_rfl
theorem It (x29:List Item)(x30 x31:Int)(y2:Estate)(y8:List Keep)(Qb:List Endpoint)(Qc:List Item):WI x29 x30 x31 y2 y8 Qb Qc=XU x29 x30 x31 y2 y8 Qb Qc:=(GB _ _).trans (by
 rw [QyF]
 simp only [Qny,XU,Xq,XW,XX,XY,XZ]
 rfl)
def Gq (p0:Estate):OV:=
 let a1:=((((p0).2).2).1)
 br (Qw ([]:List Keep) p0.2.1 16) (br (Qy p0.1 (Qd p0.1) (0:Int)&&(p0.1.all Jy&&decide (([]:List Endpoint).length<=(0:Int)))) (br (Qy a1 (Qd a1) (0:Int)&&(a1.all Xw&&decide (([]:List Item).length<=(0:Int)))) (some (.t Qo ((([]:List Endpoint)++p0.1.drop (0:Int).toNat),((([]:List Keep)++p0.2.1),((([]:List Item)++a1.drop (0:Int).toNat),()))),[])) none) none) none
theorem QfV (p0:Estate):QK Zg Yw Gp false [.t Qo p0] []=Gq p0:=by kernel_rfl
theorem ok_f51:Option.map (trC Tryz.prog) Tryz.f51.body=some Yw.er:=by kernel_rfl
theorem QyG:Xo Tryz.prog Tryz.f51.results.toList=some (Gp.map Prod.fst):=by kernel_rfl
theorem Qnz:QV Tryz.prog 51:= .inr ⟨by decide,_,Tryz.func51,by kernel_rfl,by kernel_rfl⟩
theorem QfW:GOk Tryz.prog Zg:=Jg _ (gA (gD Qoj gN))
theorem QfX (x14:List Endpoint)(x15 x16:Int)(y1 y2:Estate)(y8:List Keep)(Qb:List Endpoint)(Qc:List Item)(h:(Qy x14 x15 x16&&(x14.all Jy&&decide (Qb.length<=x16)))=true):WG x14 x15 x16 y1 y2 y8 Qb Qc=WH x14 x15 x16 y1 y2 y8 Qb Qc:=by
 simp only [Bc,Ba] at h
 obtain ⟨h0,hc,hl⟩:=h
 obtain ⟨rfl,h3,k,rfl,hk⟩:=JE h0
 clear h0
 revert Qb
 refine QX x14 (fun k=> ∀ (Qb:List Endpoint),(Qb.length:Int)<=(k:Int)->WG x14 (x14.length:Int) (k:Int) y1 y2 y8 Qb Qc=WH x14 (x14.length:Int) (k:Int) y1 y2 y8 Qb Qc) ?_ ?_ k hk
 ·intro Qb _
  rw [Is]
  simp only [XT,WH,QA,BS,BV,Ql,Bd,B6,BP]
 ·intro k hk ih Qb hl
  rw [Is]
  have c1:Jy x14[k]=true:=Bg.1 hc _ (Bu hk)
  simp only [XT,QA,QM,hk,Bx,Qg,Bd,QW (show k<4611686018427387904 by omega),QP (y:=QE) hk,c1]
  refine brY (Jr (by omega) (by simp only [Bl];omega)) ?_
  refine Eq.trans (ih (Qb++[x14[k]]) (by simp only [Bm,Bl];omega)) ?_
  simp only [WH,Bd,Bj hk,BN,BM]
theorem QfY (x29:List Item)(x30 x31:Int)(y2:Estate)(y8:List Keep)(Qb:List Endpoint)(Qc:List Item)(h:(Qy x29 x30 x31&&(x29.all Xw&&decide (Qc.length<=x31)))=true):WI x29 x30 x31 y2 y8 Qb Qc=WJ x29 x30 x31 y2 y8 Qb Qc:=by
 simp only [Bc,Ba] at h
 obtain ⟨h0,hc,hl⟩:=h
 obtain ⟨rfl,h3,k,rfl,hk⟩:=JE h0
 clear h0
 revert Qc
 refine QX x29 (fun k=> ∀ (Qc:List Item),(Qc.length:Int)<=(k:Int)->WI x29 (x29.length:Int) (k:Int) y2 y8 Qb Qc=WJ x29 (x29.length:Int) (k:Int) y2 y8 Qb Qc) ?_ ?_ k hk
 ·intro Qc _
  rw [It]
  simp only [XU,WJ,QA,BS,BV,Ql,Bd,B6,BP]
 ·intro k hk ih Qc hl
  rw [It]
  have c1:x29[k].2.2.2.1.length<=1000:=BC (Bg.1 hc _ (Bu hk))
  simp only [XU,QA,QM,hk,Bx,Qg,Bd,QW (show k<4611686018427387904 by omega),QP (y:=Qq) hk]
  refine brY (Jr (by decide) (by simp only [BD];omega)) (brY (Jr (by omega) (by simp only [Bl];omega)) ?_)
  refine Eq.trans (ih (Qc++[x29[k]]) (by simp only [Bm,Bl];omega)) ?_
  simp only [WJ,Bd,Bj hk,BN,BM]
theorem QfZ:LO Zg Uz Fv 0:=QI (s:=WE) fun x y h _ q=>by simp only [QG,QH] at q;exact (QfX x.2.2.2.1 x.2.2.2.2.1 x.2.2.2.2.2.1 y.1 y.2.1 y.2.2.2.1 y.2.2.2.2.2.2.2.1 y.2.2.2.2.2.2.2.2.1 h).trans q
theorem Qf0:LO Zg UA Fx 1:=QI (s:=WF) fun x y h _ q=>by simp only [QG,QH] at q;exact (QfY x.2.2.1 x.2.2.2.1 x.2.2.2.2.1 y.1 y.2.2.1 y.2.2.2.2.2.2.1 y.2.2.2.2.2.2.2.1 h).trans q
theorem Qf1:Yw.lok Zg:=by
 repeat (first|exact trivial|exact QfZ|exact Qf0|refine ⟨?_, ?_⟩)
theorem Qf2 (x:Estate)(h:Zs x=true):Gq x=some (.t Qo (YD x),[]):=by
 obtain ⟨h,h6⟩:=Bh.1 h
 simp only [ZH,Bc,Ba] at h
 obtain ⟨⟨h1,h2⟩,h3,h4⟩:=h
 have h5:=O6 h4
 unfold Gq
 have hx:x.2.1.length<=99999:=h2
 refine brY (Jr (by decide) (by simp only [BD];omega)) (brY ?_ (brY ?_ rfl))
 ·rw [JF (show (JQ x).length<=100000 by omega),h3,By,By]
  exact Be (Dp _)
 ·rw [JF h5,h6,By,By]
  exact Be (Dp _)
def FA:Ent:=Qn (.pr Qo .nil) (fun x=>(Zs x.1)) (fun x=>(.t Qo (YD x.1)))
theorem Qf3:Qp Tryz.prog 51 (Qr FA):=Qt (R:=QK Zg Yw Gp false) (mG Tryz.func51 (by kernel_rfl) Tryz.ntmps51 (by kernel_rfl) QfW Qf1) fun x hok=>(QfV x.1).trans (Qf2 x.1 hok)
theorem copyMeets {w:World}{X:Nat->Nat->Prop}{e:Estate}{u:Value}(hfin: ∀ b q,X b q->b<w.heap.size)(hs:C X w QO (V.t Qo e).d u)(h:Zs e=true):
  Calls Tryz.prog 51 #[u] w fun en w'=> ∃ v X' σ',en= .returned v/\C X' w' σ' (V.t Qo e).d v/\Ends X w QO 0 X' w' σ' []:=by
 have hF:Qr FA [.t Qo e] []=some (.t Qo (YD e),[]):=by
  unfold FA
  exact QgT (a:= .pr Qo .nil) (x:=(e,())) (by simp [Ty.args,QjT]) h
 refine (Wr (by decide) (Qf3 _ _ _ _ hF X w QO [u] hfin Qc1 ⟨u,_,rfl,hs,rfl⟩)).mono ?_
 rintro en w' ⟨v,X',σ',rfl,h1,h2⟩
 exact ⟨v,X',σ',rfl,h1,h2⟩
end
end Go.Proofs.YthlcobdnemhcdaaGreat.K.PJ
noncomputable section
namespace Go.Proofs.YthlcobdnemhcdaaGreat.K
open Go.RowKit
def Yk {α:Type}(l:List α):List (Int×(α×Unit)):=(l.zipIdx.map fun p=>((p.2:Int),(p.1,()))).reverse
def QhT:Itr:=QkU [.ptr 50000 0] [(.sl QY)] (.pr tI (.pr QY .nil)) (fun d=>true) (fun d=>(Yk d.1))
def QA5:TC:=aF Tryz.f151 []
def g_f151:G:=gG 4 [] (fun _ _=>none)
def r_f151 (p0:List Rule):OV:=some (.fn 203 [(.ptr 50000 0)],[.box (.t (.sl QY) p0)])
def Qqd:Ent:=Xp (.pr (.sl QY) .nil) (fun _=>true) (fun x=> .fn 203 [.ptr 50000 0]) (fun x=>[.box (.t (.sl QY) x.1)])
theorem QA6:EM 151 Qqd:=mS g_f151 QA5 [((.t 2),none)] true (gB gN) fun m=>QoM m fun x _=>by kernel_rfl
end Go.Proofs.YthlcobdnemhcdaaGreat.K
noncomputable section
namespace Go.Proofs.YthlcobdnemhcdaaGreat.K
open Go.RowKit Go.Shelf
attribute [local go_sem] Oper.semAt_some
def Yg (vs:List Value)(sz:Nat):Nat->List (Array Value)
 |0=>[]
 |k+1=> #[.int .i64 (k:Int),.agg ((vs.drop (k*sz)).take sz).toArray]::Yg vs sz k
theorem Qzd (vs:List Value)(sz:Nat): ∀ n k,k<n->(Yg vs sz n).drop k=Yg vs sz (n-k)
 |0,k,h=>by omega
 |n+1,0,_=>rfl
 |n+1,k+1,h=>by
  rw [Yg,List.drop_succ_cons,Qzd vs sz n k (by omega)]
  congr 1
  omega
theorem w64 (m:Nat)(h:m<=maxLen):wrap64 ((m:Int)-1)=(m:Int)-1:=by
 simp only [maxLen] at h
 unfold wrap64
 omega
set_option maxRecDepth 100000 in
set_option maxHeartbeats 1000000 in
theorem Qze (Bs b0 off c n:Nat)(A:Option Addr)(vs:List Value)(Xf:Nat->Nat->Prop)(w:World)(hnc:n<=c)(hcm:c<=maxLen)
  (hBs:w.cell? ⟨Bs,0,none⟩=some (.slice A n c)) (hBl:Bs<w.heap.size) (hBx: ∀ q, ¬ Xf Bs q)
  (hA:0<n->A=some ⟨b0,off,none⟩/\vs.length=n*6/\b0<w.heap.size/\(∀ j,j<vs.length→ ¬ Xf b0 (off+j))∧ ∀ j v,vs[j]? = some v->w.cell? ⟨b0,off+j,none⟩=some v):
  ED Tryz.prog 203 [.pointer (some ⟨Bs,0,none⟩)] (Yg vs 6 n) Xf w:=by
 intro l J Jx W hJ hJx hK hY h0 _
 have HA:=Lib.hid hA
 clear hA
 refine callsIn_of_wp (F:=Fw none) Tryz.func203 rfl trivial ?_ rfl
 simp only [Tryz.ntmps203,Dt,Bp,BD,Nat.reduceAdd,Nat.reduceSub,Array.replicate_succ,Array.replicate_zero,List.push_toArray,List.append_toArray,BT,Dl]
 have hb0:W.cell? ⟨Bs,0,none⟩=some (.slice A n c):=((hK _ W h0).2 Bs 0 hBl (hBx 0)).trans hBs
 gi_wp2
 gi_loopw [3] (fun i wr=> ∃ k:Nat,k<=n/\i= .int .i64 ((k:Int)-1)/\J (Yg vs 6 k) wr)
  (fun i _=>(intOf i+1).toNat)
 case atStart=>exact ⟨n,Bv _,congrArg (Value.int .i64) (w64 n (by omega)),h0⟩
 case round=>
  obtain ⟨k,hk,rfl,hJs⟩:=hrel
  have hbx:wr.cell? ⟨Bs,0,none⟩=some (.slice A n c):=((hK _ wr hJs).2 Bs 0 hBl (hBx 0)).trans hBs
  cases k with
  |zero=>
   gi_wp2
   go_end0
   exact ⟨⟨_,rfl⟩,.inl hJs⟩
  |succ q=>
   obtain ⟨rfl,hvl,hbl,hnx,hcl⟩:=HA.out (by omega)
   obtain ⟨fn,tmps,assign,body,hy,hR⟩:=hY _ _ wr hJs
   have cel: ∀ i,i<6→ ∃ v,vs[q*6+i]? = some v/\wr.cell? ⟨b0,off+(q*6+i),none⟩=some v:=by
    intro i hi
    have hlt:q*6+i<vs.length:=by omega
    exact ⟨_,Bi hlt,((hK _ wr hJs).2 b0 _ hbl (hnx _ hlt)).trans (hcl _ _ (Bi hlt))⟩
   obtain ⟨v0,e0,c0⟩:=cel 0 (by omega)
   obtain ⟨v1,e1,c1⟩:=cel 1 (by omega)
   obtain ⟨v2,e2,c2⟩:=cel 2 (by omega)
   obtain ⟨v3,e3,c3⟩:=cel 3 (by omega)
   obtain ⟨v4,e4,c4⟩:=cel 4 (by omega)
   obtain ⟨v5,e5,c5⟩:=cel 5 (by omega)
   rw [DB] at e0 c0
   rw [←DD] at c1 c2 c3 c4 c5
   have hag:((vs.drop (q*6)).take 6)=[v0,v1,v2,v3,v4,v5]:=by
    apply List.ext_getElem?
    intro i
    rcases B7 i 6 with hi|hi
    ·rw [DK hi,Da]
     rcases i with _|_|_|_|_|_|i
     ·rw [DB,e0];rfl
     ·rw [e1];rfl
     ·rw [e2];rfl
     ·rw [e3];rfl
     ·rw [e4];rfl
     ·rw [e5];rfl
     ·omega
    ·rw [List.getElem?_take_eq_none hi,DG (by simpa using hi)]
   rw [hag] at hy
   have q1:((q+1:Nat):Int)-1=(q:Int):=by omega
   rw [q1]
   clear hnx hcl cel hY
   gi_wp2
   refine hR.mono ?_
   rintro e W3 (⟨rfl,hJ3⟩|⟨rfl,hJx3⟩)
   ·gi_wp2
    go_roundw
    case rel=>exact ⟨q,by omega,congrArg (Value.int .i64) (w64 q (by omega)),hJ3⟩
    case measure=>simp [intOf,w64 q (by omega)]
   ·gi_wp2
    refine bodyPost_ret (results_none rfl _ _ _) rfl ?_
    exact ⟨⟨_,rfl⟩,.inr hJx3⟩
theorem Qgz (vs:List Value)(sz:Nat): ∀ n,(Yg vs sz n).length=n
 |0=>rfl
 |n+1=>by rw [Yg,Bp,Qgz vs sz n]
theorem Qok (vs:List Value)(sz:Nat): ∀ n i,i<n->(Yg vs sz n)[i]? = some #[.int .i64 ((n-1-i:Nat):Int),.agg ((vs.drop ((n-1-i)*sz)).take sz).toArray]
 |0,i,h=>by omega
 |n+1,0,_=>by simp [Yg]
 |n+1,i+1,h=>by
  rw [Yg,BW,Qok vs sz n i (by omega)]
  have:n-1-i=n+1-1-(i+1):=by omega
  rw [this]
theorem Qzf {α:Type}(l:List α)(i:Nat)(h:i<l.length):(Yk l)[i]? = some (((l.length-1-i:Nat):Int),(l[l.length-1-i]'(by omega),())):=by
 unfold Yk
 rw [List.getElem?_reverse (by simpa using h)]
 simp
theorem Qzg {P:Program}{gf:FuncId}{y:Ty}{sz:Nat}(hgf:gf<1000000)(hrow:y.row=true)(hsz:y.sz=sz)(eg: ∀ args w,(callFunc gf args).run P w= .ok (.enter gf args) w)
  (hw: ∀ (Bs b0 off c n:Nat) (A:Option Addr) (vs:List Value) (Xf:Nat->Nat->Prop) (w:World),n<=c->c<=maxLen->w.cell? ⟨Bs,0,none⟩=some (.slice A n c)->Bs<w.heap.size->(∀ q, ¬ Xf Bs q)→
   (0<n->A=some ⟨b0,off,none⟩/\vs.length=n*sz/\b0<w.heap.size/\(∀ j,j<vs.length→ ¬ Xf b0 (off+j))∧ ∀ j v,vs[j]? = some v->w.cell? ⟨b0,off+j,none⟩=some v)->ED P gf [.pointer (some ⟨Bs,0,none⟩)] (Yg vs sz n) Xf w):
  Iters P gf (QkU [.ptr 50000 0] [.sl y] (.pr (.int .i64) (.pr y .nil)) (fun _=>true) (fun d=>Yk d.1)):=by
 refine Iters.weak hgf eg fun caps objs yr rows h X w σ lb hfin hl hc=> ?_
 unfold QkU at h
 split at h
 ·rename_i x d hx hd
  simp only [Bb,Bk,true_and] at h
  cases h
  have hcaps:=IK hx
  subst hcaps
  cases objs with
  |nil=>simp [Yj] at hd
  |cons o os=>
   cases o with
   |box cv=>
    cases os with
    |cons o2 os=>simp [Yj] at hd
    |nil=>
     simp only [Yj] at hd
     split at hd
     ·rename_i l u hl1 _
      simp only [Bb] at hd
      subst hd
      have hcv:=SV.rd_mk (s:= .ty (.sl y)) (v:=cv) (x:=l) (by simpa [QaO,Ty.row] using hl1)
      subst hcv
      obtain ⟨⟨Bs,ty,us,h1,h2,h3,h4⟩,_⟩:=hl.at_ 0 _ rfl
      have h3':Cs X w σ [.sl (List.length l) (List.flatMap y.cells l)] us:=h3
      obtain ⟨uv,rfl,h5⟩:=h3'.one
      simp only [C] at h5
      obtain ⟨A,c,rfl,g1,g2,g3,g4⟩:=h5
      simp only [Gz,SV.mk,V.ds,V.d,Cs,C] at hc
      obtain ⟨p,ps,rfl,⟨b',e1,rfl⟩,rfl⟩:=hc
      have h1:σ 50000= .box Bs:=h1
      rw [h1] at e1
      injection e1 with e1
      subst e1
      have hcell:w.cell? ⟨Bs,0,none⟩=some (.slice A (List.length l) c):=by simp [World.cell?, h2]
      have hBl:=(BQ.1 h2).1
      have hBx: ∀ q, ¬ (X Bs q∧ ∀ j,j<[VO.box ((SV.ty (.sl y)).mk l)].length->(σ (50000+j)).blk≠some Bs):=fun q hq=>hq.2 0 (by simp) (by rw [h1];rfl)
      rcases DR (List.length l) with h0|hp
      ·have hl0:l=[]:=Bq h0
       subst hl0
       exact ⟨Yg [] sz 0,⟨rfl,fun i r v hr=>by simp [Yk] at hr⟩,hw Bs 0 0 c 0 A [] _ w g1 g2 hcell hBl hBx (fun h=>absurd h (by omega))⟩
      ·obtain ⟨b0,off,vs,rfl,g5,g6⟩:=g4 hp
       have hvl:=g5.len
       rw [Wj,hsz] at hvl
       refine ⟨Yg vs sz (List.length l),⟨by rw [Qgz];simp [Yk],fun i r v hr hv=> ?_⟩,hw Bs b0 off c (List.length l) _ vs _ w g1 g2 hcell hBl hBx (fun _=>⟨rfl,hvl,g6.lt,fun j hj hx=>g6.nx j hj hx.1,fun j v hv=>g6.at_ j v hv⟩)⟩
       have hi:i<List.length l:=by
        have:=(BB.1 hv).1
        rwa [Qgz] at this
       rw [Qzf _ _ hi] at hr
       rw [Qok _ _ _ _ hi] at hv
       injection hr with hr
       injection hv with hv
       subst hr hv
       simp only [Ty.canon,V.ds,V.d,Cs]
       refine ⟨_,_,rfl,(by simp only [Ty.d,C];exact ⟨trivial,rfl⟩),_,_,rfl, ?_,rfl⟩
       rw [Ty.d_row _ _ hrow]
       simp only [C]
       refine ⟨_,rfl, ?_⟩
       have k1:=(g5.drop_ ((List.length l-1-i)*y.sz))
       rw [GX,Bj (by omega),BO] at k1
       have k2:=k1.take_ y.sz
       rw [List.take_left' (y.cells_len _),hsz] at k2
       exact k2
     ·cases hd
   |no=>simp [Yj] at hd
   |arr e t l=>simp [Yj] at hd
 ·cases h
theorem Qzh:Iters Tryz.prog 203 QhT:=
 Qzg (y:=QY) (sz:=6) (by decide) rfl rfl (enters_of Tryz.func203 (by kernel_rfl) rfl) Qze
end Go.Proofs.YthlcobdnemhcdaaGreat.K
noncomputable section
namespace Go.Proofs.YthlcobdnemhcdaaGreat.K
open Go.RowKit
def FE (zs:List (Int×(Rule×Unit)))(u:Keep)(p d:Int):Option Int:=(zs.find? fun z=>Il z.2.1 u p d).map (·.1)
def IB (zs:List (Int×(Rule×Unit)))(u:Keep)(p d _x:Int):Bool:=(FE zs u p d).isSome
def IC (zs:List (Int×(Rule×Unit)))(u:Keep)(p d _x:Int):Int:=(FE zs u p d).getD 0
def Z1 (y:Policy)(u:Keep)(p d:Int):Int:=(FE (Yk y.1) u p d).getD (-1)
abbrev Qao:Sh:=⟨[(5,.ptr 60000 0),(6,.ptr 60001 0),(7,.ptr 60002 0),(8,.ptr 60003 0)],[(60000,.box Qk),(60001,.box tI),(60002,.box tI),(60003,.bag [.ty tI])]⟩
def UD:Fg:=Qao.f
def Qap:TC:=(.sq (.reg (rT Tryz.f96 2)) (.reg (rT Tryz.f96 3)))
def Qaq:TC:=(.bk 1 (.sq (.reg (rT Tryz.f96 4)) (.cd (.t 31) (.sq (.reg (rT Tryz.f96 5)) (.fg ⟨[],[(60000,some Qk),(60001,some tI),(60002,some tI),(60003,none)]⟩ .rt)) .sk)))
def tc_f96:TC:=(.sq (.reg (rT Tryz.f96 0)) (.sq (.sq (.reg (rT Tryz.f96 1)) (.bk 0 (.rf 0 UD (.t 13) (.pr tI (.pr QY .nil)) [14,15] [5,6,7,8] Qap Qaq))) (.sq (.reg (rT Tryz.f96 6)) .rt)))
def YU (Jn:Keep)(Jo Jc JI:Int):VS:=Qao.st ((),(),(),(),()) (Jn,Jo,Jc,(JI,()),())
def Qar:VS->List (Ty.T (.pr tI (.pr QY .nil)))->Option (Bool×List (Bool×Exit×VS)):=mkR Qao (fun zs x y=>true) (fun zs x y=>[((IB zs y.1 y.2.1 y.2.2.1 y.2.2.2.1.1),.ret,YU (y.1) (y.2.1) (y.2.2.1) (IC zs y.1 y.2.1 y.2.2.1 y.2.2.2.1.1)),(true,.normal,YU (y.1) (y.2.1) (y.2.2.1) (y.2.2.2.1.1))])
def FF:G:=⟨TYs,[],33,EL [(151,Qqd),(152,Qnf)],keeps,(Ls [fun _=>none]),IL [(203,QhT)],(RL [⟨(.pr tI (.pr QY .nil)),Qar⟩])⟩
def Qn5 (z:(Int×(Rule×Unit)))(Jn:Keep)(Jo Jc JI:Int):OX:=br (Gn z.2.1 Jn Jo) (br (ile z.2.1.2.2.2.2.1 Jc) (br (ilt Jc z.2.1.2.2.2.2.2.1) (some (.ret,YU Jn Jo Jc z.1)) (some (.normal,YU Jn Jo Jc JI))) (some (.normal,YU Jn Jo Jc JI))) (some (.normal,YU Jn Jo Jc JI))
def FG (zs:List (Int×(Rule×Unit)))(Jn:Keep)(Jo Jc JI:Int):OX:=Xg (Ge FF UD (.pr tI (.pr QY .nil)) [14,15] Qap Qaq) zs (YU Jn Jo Jc JI)
def Qgq (z:(Int×(Rule×Unit)))(zs:List (Int×(Rule×Unit)))(Jn:Keep)(Jo Jc JI:Int):OX:=br (Gn z.2.1 Jn Jo) (br (ile z.2.1.2.2.2.2.1 Jc) (br (ilt Jc z.2.1.2.2.2.2.2.1) (some (.ret,YU Jn Jo Jc z.1)) (FG zs Jn Jo Jc JI)) (FG zs Jn Jo Jc JI)) (FG zs Jn Jo Jc JI)
def Qn6 (zs:List (Int×(Rule×Unit)))(Jn:Keep)(Jo Jc JI:Int):OX:=br (IB zs Jn Jo Jc JI) (some (.ret,YU (Jn) (Jo) (Jc) (IC zs Jn Jo Jc JI)))<|some (.normal,YU (Jn) (Jo) (Jc) (JI))
theorem QyZ (z:(Int×(Rule×Unit)))(Jn:Keep)(Jo Jc JI:Int):Ge FF UD (.pr tI (.pr QY .nil)) [14,15] Qap Qaq z (YU Jn Jo Jc JI)=Qn5 z Jn Jo Jc JI:=by kernel_rfl
theorem Qy0 (Jn:Keep)(Jo:Int)(Jc:Int)(JI:Int):FG [] Jn Jo Jc JI=some (.normal,YU Jn Jo Jc JI):=rfl
theorem Qy1 (z:(Int×(Rule×Unit)))(zs:List (Int×(Rule×Unit)))(Jn:Keep)(Jo Jc JI:Int):FG (z::zs) Jn Jo Jc JI=Qgq z zs Jn Jo Jc JI:=(QzG _ _ _ _).trans (by
 rw [QyZ]
 simp only [Qn5,Qgq,Xq,XW,XX,XY,XZ]
 rfl)
def r_f96 (p0:Policy)(p1:Keep)(p2 p3:Int):OV:=br (IB (Yk p0.1) p1 p2 p3 0) (some (.t tI (IC (Yk p0.1) p1 p2 p3 0),[])) (some (.t tI (-1),[]))
theorem Qy2 (zs:List (Int×(Rule×Unit)))(Jn:Keep)(Jo Jc JI:Int)(h:true=true):FG zs Jn Jo Jc JI=Qn6 zs Jn Jo Jc JI:=by
 clear h
 induction zs with
 |nil=>
  rw [Qy0]
  rfl
 |cons z zs ih=>
  rw [Qy1]
  simp only [Qgq,ih,Qn6,IB,IC,FE,List.find?_cons,Il,Qnd,ile,ilt,Estate.Endpoints,Estate.Edges,Estate.Items,Policy.Rules,Policy.Keeps,Keep.Alg,Keep.Bits,Link.Use,Link.Day,Job.Item,Job.Link,Item.Name,Item.Kind,Item.Purpose,Item.Links,Item.Until,Rule.Allow,Rule.Alg,Rule.Below,Rule.Purpose,Rule.From,Rule.To,Exception.Use,Exception.Purpose,Exception.Endpoint,Exception.Days,Exception.Seals,Dice.L,Dice.At,Endpoint.Name,Endpoint.Least,Endpoint.Most,Endpoint.Suites,Endpoint.OwnOrder,Endpoint.Identities,Endpoint.Anchors,Endpoint.Hashes,Endpoint.Fallback,Identity.Key,Identity.KeyId,Identity.Chain,Change.Endpoint,Change.Kind,Change.Number,Change.At,Change.Identity,Rules.p,Rules.l,Rules.o,Rules.day,Method.outcome,Method.uses,Certificate.Serial,Certificate.Issuer,Certificate.Subject,Certificate.Key,Certificate.KeyId,Certificate.Hash,Certificate.From,Certificate.To,Certificate.Authority,Certificate.Path,Certificate.Names,Certificate.Seal,LinkX.day,LinkX.fall,LinkX.falls,Suite.Code,Suite.Name,Suite.Exchange,Suite.Sign,Suite.Cipher,Suite.Mac,Suite.Least,Suite.Most,Row.name,Row.kind,Row.way,Row.sizes,Row.strengths,Talk.server,Talk.version,Talk.suites,Symbol.name,Symbol.kind]
  cases h1:Gn z.2.1 Jn Jo<;>cases h2:decide (z.2.1.2.2.2.2.1<=Jc)<;>cases h3:decide (Jc<z.2.1.2.2.2.2.2.1)<;>simp [Qg,Ql]
theorem Qy3: ∀ S (rows:List (Ty.T (.pr tI (.pr QY .nil)))) l p,FF.R 0 (fgt UD S) (.pr tI (.pr QY .nil)) rows=some (true,l)->ZU l=some p->Xg (Ge FF UD (.pr tI (.pr QY .nil)) [14,15] Qap Qaq) rows (fgt UD S)=some p:=by
 intro S rows l p hR hp
 rw [show FF.R 0 (fgt UD S) (.pr tI (.pr QY .nil)) rows=Qar (fgt UD S) rows from RL_at (l:=[⟨(.pr tI (.pr QY .nil)),Qar⟩]) (j:=0) (F:=Qar) rfl _ _] at hR
 refine QzF (s:=Qao) ⟨by decide,by decide⟩ (by kernel_rfl) (fun zs x y hok p hp=> ?_) S rows l p hR hp
 simp only [QG,QH] at hp
 exact (Qy2 zs y.1 y.2.1 y.2.2.1 y.2.2.2.1.1 (by first|rfl|simpa using hok)).trans hp
theorem s_f96 (p0:Policy)(p1:Keep)(p2 p3:Int):r_f96 p0 p1 p2 p3=some (.t tI (Z1 p0 p1 p2 p3),[]):=by
 simp only [r_f96,Z1,IB,IC]
 cases FE (Yk p0.1) p1 p2 p3<;>simp [Qg,Ql]
def Qgr:Ent:=Qn (.pr QF (.pr Qk (.pr tI (.pr tI .nil)))) (fun x=>true) (fun x=>(.t tI (Z1 x.1 x.2.1 x.2.2.1 x.2.2.2.1)))
theorem Qn7:EM 96 Qgr:=mS (lk:=(by repeat first|exact trivial|exact Qy3|constructor)) FF tc_f96 [((.c 8 false 1),some tI)] false (Jg _ (gA (gD QA6 (gD Qyl gN)))
 [(203,QhT)] (by
 intro p hp
 simp only [BJ,B1,DE] at hp
 rcases hp with rfl
 ·exact Qzh)) fun m=>Qt m fun x _=>kT (s_f96 x.1 x.2.1 x.2.2.1 x.2.2.2.1)
end Go.Proofs.YthlcobdnemhcdaaGreat.K
noncomputable section
namespace Go.Proofs.YthlcobdnemhcdaaGreat.K
open Go.RowKit
def Za {α:Type}(m:α->Bool):List α->Option Nat
 | []=>none
 |a::l=>match Za m l with
  |some k=>some (k+1)
  |none=>if m a then some 0 else none
theorem Qpk {α:Type}{m:α->Bool}{l2:List α}: ∀ l1:List α,Za m (l1++l2)=match Za m l2 with|some k=>some (l1.length+k)|none=>Za m l1
 | []=>by
  simp only [BT,BD,DJ]
  cases Za m l2<;>rfl
 |a::l1=>by
  simp only [Dl,Za,Qpk l1,Bp]
  cases Za m l2 with
  |none=>rfl
  |some k=>simp only [Bb];omega
theorem Qpl {α:Type}{m:α->Bool}: ∀ {l:List α},Za m l=none↔ ∀ a,a∈l->m a=false
 | []=>by simp [Za]
 |a::l=>by
  have ih:=Qpl (m:=m) (l:=l)
  simp only [Za]
  cases h:Za m l with
  |some k=>
   have: ¬ ∀ a,a∈l->m a=false:=fun g=>by rw [ih.2 g] at h;cases h
   simp only [BJ,forall_eq_or_imp,reduceCtorEq,false_iff,not_and]
   exact fun _=>this
  |none=>
   have g:=ih.1 h
   cases hm:m a<;>simp_all
theorem Qg9 {α:Type}{m:α->Bool}: ∀ {l:List α} {k:Nat},Za m l=some k↔ ∃ h:k<l.length,m l[k]=true∧ ∀ j (hj:j<l.length),k<j->m l[j]=false
 | [],k=>by simp [Za]
 |a::l,k=>by
  have ih:= @Qg9 α m l
  simp only [Za]
  cases h:Za m l with
  |some i=>
   obtain ⟨h1,h2,h3⟩:=ih.1 h
   simp only [Bb]
   constructor
   ·rintro rfl
    refine ⟨by simp;omega,by simpa using h2,fun j hj hk=> ?_⟩
    cases j with
    |zero=>omega
    |succ j=>simpa using h3 j (by simpa using hj) (by omega)
   ·rintro ⟨g1,g2,g3⟩
    cases k with
    |zero=>
     have:=g3 (i+1) (by simp;omega) (by omega)
     simp [h2] at this
    |succ k=>
     have g1':k<l.length:=by simpa using g1
     simp only [Dx] at g2
     have:Za m l=some k:=ih.2 ⟨g1',g2,fun j hj hk=>by have:=g3 (j+1) (by rw [Bp];omega) (by omega);rwa [Dx] at this⟩
     rw [this] at h
     injection h with h
     omega
  |none=>
   have g:=Qpl.1 h
   cases hm:m a with
   |true=>
    simp only [if_true,Bb]
    constructor
    ·rintro rfl
     refine ⟨by simp,by simpa using hm,fun j hj hk=> ?_⟩
     cases j with
     |zero=>omega
     |succ j=>simp only [Dx];exact g _ (Bu _)
    ·rintro ⟨g1,g2,g3⟩
     cases k with
     |zero=>rfl
     |succ k=>
      simp only [Dx] at g2
      rw [g _ (Bu _)] at g2
      cases g2
   |false=>
    simp only [BG,Df,reduceCtorEq,false_iff]
    rintro ⟨g1,g2,g3⟩
    cases k with
    |zero=>simp [hm] at g2
    |succ k=>
     simp only [Dx] at g2
     rw [g _ (Bu _)] at g2
     cases g2
theorem Qz9 {α:Type}(l:List α)(a:α):Yk (l++[a])=((l.length:Int),(a,()))::Yk l:=by
 unfold Yk
 simp [List.zipIdx_append]
theorem QAa {α:Type}{P:List α->Prop}(h0:P [])(h1: ∀ l a,P l->P (l++[a]))(l:List α):P l:=by
 have: ∀ r:List α,P r.reverse:=by
  intro r
  induction r with
  |nil=>exact h0
  |cons a r ih=>rw [List.reverse_cons];exact h1 _ _ ih
 have h:=this l.reverse
 rwa [List.reverse_reverse] at h
theorem QAb {α:Type}{m:α->Bool}(l:List α):((Yk l).find? fun z=>m z.2.1).map (·.1)=(Za m l).map fun k:Nat=>(k:Int):=by
 induction l using QAa with
 |h0=>rfl
 |h1 l a ih=>
  rw [Qz9,List.find?_cons,Qpk]
  simp only [Za]
  cases hm:m a
  ·simpa using ih
  ·simp
def IT (rs:List Rule)(u:Keep)(p d:Int):Option Nat:=Za (fun r=>Il r u p d) rs
theorem Qpm {y:Policy}{u:Keep}{p d:Int}:Z1 y u p d=match IT y.1 u p d with|some k=>(k:Int)|none=> -1:=by
 unfold Z1 FE IT
 rw [QAb (m:=fun r=>Il r u p d)]
 cases Za (fun r=>Il r u p d) y.1<;>rfl
theorem QAc {y:Policy}{u:Keep}{p d:Int}: -1<=Z1 y u p d/\Z1 y u p d<y.1.length:=by
 rw [Qpm]
 cases h:IT y.1 u p d with
 |none=>simp only;omega
 |some k=>
  obtain ⟨h1,_⟩:=Qg9.1 h
  simp only
  omega
def allL (rs:List Rule)(u:Keep)(p d:Int):Bool:=match IT rs u p d with
 |some k=>(rs[k]?.map fun r:Rule=>r.1).getD true
 |none=>true
def Y0 (y:Policy)(u:Keep)(p d:Int):Bool:=allL y.1 u p d
def asc (l:List Int):Prop:=l.Pairwise (· < ·)
theorem Qpn {d:Array Int}(hs:d.toList.Pairwise (· ≤ ·)): ∀ m,m<=d.size->asc (Lib.compactUpTo d m)/\(∀ x,x∈Lib.compactUpTo d m↔x∈d.toList.take m)/\(0<m→ ∀ x,x∈Lib.compactUpTo d m->x<=d[m-1]!)
 |0,_=>⟨List.Pairwise.nil,fun x=>by simp [Lib.compactUpTo],fun h=>absurd h (by omega)⟩
 |m+1,hm=>by
  obtain ⟨h1,h2,h3⟩:=Qpn hs m (by omega)
  rw [Lib.compactUpTo_succ]
  have hsz:m<d.size:=by omega
  have hle:m<d.toList.length:=by simpa using hsz
  have et:d.toList.take (m+1)=d.toList.take m++[d.toList[m]]:=List.take_succ_eq_append_getElem hle
  have eg:d[m]! = d.toList[m]:=by simp [hsz]
  have hle2: ∀ x,x∈d.toList.take m->x<=d[m]! :=by
   intro x hx
   rw [eg]
   obtain ⟨i,hi,rfl⟩:=List.getElem_of_mem hx
   have hi':i<m:=by rw [Dd] at hi;omega
   rw [List.getElem_take]
   exact (List.pairwise_iff_getElem.1 hs) i m (by omega) hle hi'
  by_cases hk:Lib.keeps d m=true
  ·rw [if_pos hk]
   have hlt: ∀ x,x∈Lib.compactUpTo d m->x<d[m]! :=by
    intro x hx
    have h4:0<m:=by
     rcases DR m with rfl|h
     ·simp [Lib.compactUpTo] at hx
     ·exact h
    have h5:=h3 h4 x hx
    simp only [Lib.keeps,Ba] at hk
    have h6:d[m-1]! ≤ d[m]! :=hle2 _ (by
     have e:d[m-1]! = d.toList[m-1]:=by simp [show m-1<d.size by omega]
     rw [e,List.mem_take_iff_getElem]
     exact ⟨m-1,by omega,rfl⟩)
    rcases hk with hk|hk
    ·omega
    ·omega
   refine ⟨?_,fun x=> ?_,fun _ x hx=> ?_⟩
   ·refine List.pairwise_append.2 ⟨h1,List.pairwise_singleton _ _,fun a ha b hb=> ?_⟩
    rw [Dj.1 hb]
    exact hlt a ha
   ·rw [et,BA,BA,h2 x,eg]
   ·rw [Nat.add_sub_cancel]
    rcases BA.1 hx with hx|hx
    ·exact Int.le_of_lt (hlt x hx)
    ·rw [Dj.1 hx]
     exact Dp _
  ·have hk':Lib.keeps d m=false:=by simpa using hk
   rw [hk']
   simp only [BG,Df,BP]
   simp only [Lib.keeps,Bo,not_or,Decidable.not_not] at hk'
   have h4:0<m:=by omega
   have e:d[m-1]! = d.toList[m-1]:=by simp [show m-1<d.size by omega]
   refine ⟨h1,fun x=> ?_,fun _ x hx=> ?_⟩
   ·rw [et,BA,h2 x]
    constructor
    ·exact .inl
    ·rintro (h|h)
     ·exact h
     ·rw [Dj.1 h, ← eg,hk'.2,e,List.mem_take_iff_getElem]
      exact ⟨m-1,by omega,rfl⟩
   ·rw [Nat.add_sub_cancel,hk'.2]
    exact h3 h4 x hx
theorem QAd {l:List Int}(hs:l.Pairwise (· ≤ ·)):asc (Lib.compact l)∧ ∀ x,x∈Lib.compact l↔x∈l:=by
 have h:=Qpn (d:=l.toArray) (by simpa using hs) l.length (by simp)
 refine ⟨h.1,fun x=> ?_⟩
 have:=h.2.1 x
 rw [show Lib.compact l=Lib.compactUpTo l.toArray l.length from rfl,this,DQ (by simp)]
theorem QAe (l:List Int):(Z2 l).Pairwise (· ≤ ·):=by
 have:=List.pairwise_mergeSort (le:=fun x y:Int=>decide (x<=y)) (fun a b c h1 h2=>by simp only [Ba] at *; omega) (fun a b=>by simp only [Dc,Ba];omega) l
 exact this.imp fun h=>BC h
theorem QAf {l:List Int}{x:Int}:x∈Z2 l↔x∈l:=List.mem_mergeSort
def Y2:List Int->Int->List Int
 | [],n=>[n]
 |a::l,n=>if a<n then a::Y2 l n else if a=n then a::l else n::a::l
theorem QaW {n x:Int}: ∀ {l:List Int},x∈Y2 l n↔x=n∨x∈l
 | []=>by simp [Y2]
 |a::l=>by
  have ih:=QaW (n:=n) (x:=x) (l:=l)
  unfold Y2
  split
  ·rw [BJ,BJ,ih]
   exact ⟨fun h=>h.elim (fun h=> .inr (.inl h)) (fun h=>h.elim .inl fun h=> .inr (.inr h)),fun h=>h.elim (fun h=> .inr (.inl h)) (fun h=>h.elim .inl fun h=> .inr (.inr h))⟩
  ·split
   ·rename_i h
    subst h
    rw [BJ]
    exact ⟨fun h=>h.elim .inl fun h=> .inr (.inr h),fun h=>h.elim .inl id⟩
   ·rw [BJ]
theorem Qha {n:Int}: ∀ {l:List Int},asc l->asc (Y2 l n)
 | [],_=>List.pairwise_singleton _ _
 |a::l,h=>by
  obtain ⟨h1,h2⟩:=List.pairwise_cons.1 h
  unfold Y2
  split
  ·refine List.pairwise_cons.2 ⟨fun x hx=> ?_,Qha h2⟩
   rcases QaW.1 hx with e|hx
   ·omega
   ·exact h1 x hx
  ·split
   ·exact h
   ·refine List.pairwise_cons.2 ⟨fun x hx=> ?_,h⟩
    rcases BJ.1 hx with e|hx
    ·omega
    ·have:=h1 x hx
     omega
def Zr (rs:List Rule):List Int:=rs.flatMap fun r=>[r.2.2.2.2.1,r.2.2.2.2.2.1]
def Xu (rs:List Rule):List Int:=Lib.compact (Z2 ((0::Zr rs)++[40001]))
theorem QAg: ∀ (rs:List Rule) (l:List Int),asc l->asc (rs.foldl (fun l r=>Y2 (Y2 l r.2.2.2.2.1) r.2.2.2.2.2.1) l)∧ ∀ x,x∈rs.foldl (fun l r=>Y2 (Y2 l r.2.2.2.2.1) r.2.2.2.2.2.1) l↔x∈l∨x∈Zr rs
 | [],l,h=>⟨h,fun x=>by simp [Zr]⟩
 |r::rs,l,h=>by
  obtain ⟨h1,h2⟩:=QAg rs (Y2 (Y2 l r.2.2.2.2.1) r.2.2.2.2.2.1) (Qha (Qha h))
  refine ⟨h1,fun x=> ?_⟩
  rw [DH,h2 x,QaW,QaW]
  simp only [Zr,BO,BA,BJ,B1,DE]
  constructor
  ·rintro ((h|h|h)|h)
   ·exact .inr (.inl (.inr h))
   ·exact .inr (.inl (.inl h))
   ·exact .inl h
   ·exact .inr (.inr h)
  ·rintro (h|(h|h)|h)
   ·exact .inl (.inr (.inr h))
   ·exact .inl (.inr (.inl h))
   ·exact .inl (.inl h)
   ·exact .inr h
theorem Qpo {rs:List Rule}{x:Int}:x∈Xu rs↔x=0∨x=40001∨x∈Zr rs:=by
 unfold Xu
 rw [(QAd (QAe _)).2,QAf]
 simp only [BA,BJ,B1,DE]
 constructor
 ·rintro ((h|h)|h)
  ·exact .inl h
  ·exact .inr (.inr h)
  ·exact .inr (.inl h)
 ·rintro (h|h|h)
  ·exact .inl (.inl h)
  ·exact .inr h
  ·exact .inl (.inr h)
def UN (out:List Keep)(a b:Int):List Keep:=match out.getLast? with
 |some s=>if s.2.1=a then out.dropLast++[(s.1,b,())] else out++[(a,b,())]
 |none=>[(a,b,())]
def UO (f:Int->Bool):List Int->List Keep->List Keep
 |a::b::r,out=>UO f (b::r) (if f a then UN out a b else out)
 |_,out=>out
def Y3 (y:Policy)(u:Keep)(p:Int):List Keep:=UO (Y0 y u p) (Xu y.1) []
end Go.Proofs.YthlcobdnemhcdaaGreat.K
