import Derived.Test.YtmjnnemhoeolgaaGreatQ6
import Derived.Test.YtmjnnemhoeolgaaGreatQ3
import Derived.Test.YtmjnnemhoeolgaaGreatQ4
import Derived.RangeFuncCalls
import Derived.RangeFuncBound
import Derived.Shelf.RegionOpen
import Derived.OwnWalkIn
import Derived.TacticsInMore
import Derived.LoopNIn
import Derived.LoopIn
import Derived.Lib.SliceRun
set_option linter.unusedSimpArgs false
set_option linter.unusedVariables false
noncomputable section
namespace Go.Proofs.YtmjnnemhoeolgaaGreat.K
open Go.RowKit
noncomputable section
theorem brY {β:Type}{c:Bool}{a b r:Option β}(h:c=true)(k:a=r):br c a b=r:=by
 subst h
 exact k
def Uf (e:Estate)(i:Int):Endpoint×Endpoint:=(UT (JL e) (Z0 (JQ e) i.toNat).1.toNat,UT (JL e) (Z0 (JQ e) i.toNat).2.1.toNat)
def GS (e:Estate)(i:Int):Bool:=cIx (JQ e) i&&(cIx (JL e) (Z0 (JQ e) i.toNat).1&&cIx (JL e) (Z0 (JQ e) i.toNat).2.1)
theorem eg_all {n:Int}{l:List Keep}(h:ZD n l 0=true){k:Nat}(hk:k<l.length):GQ n (Z0 l k)=true:=by
 unfold ZD at h
 rw [Bi] at h
 have:=h k (by rw [List.mem_range'];exact ⟨k,by omega,by omega⟩)
 unfold O5 at this
 exact (Bg.1 this).1
theorem eg_in {n:Int}{x:Keep}(h:GQ n x=true):(0<=x.1/\x.1<n)/\(0<=x.2.1/\x.2.1<n)/\x.1≠x.2.1:=by
 simp only [GQ,ilt,ige,Ui,Bc,Br,Bq] at h
 refine ⟨⟨by omega,by omega⟩,⟨by omega,by omega⟩,h.2.2.2.2⟩
theorem UV {e:Estate}(h:Jw e=true):QdD (JL e) 0=true/\(UU e).all Yk=true/\(JL e).length<=16/\(UU e).length<=30/\ZD (Qc (JL e)) (JQ e) 0=true/\(JQ e).length<=40:=by
 simp only [Jw,ile,Qc,Bc,Ba] at h
 exact ⟨h.1,h.2.1,by omega,by omega,h.2.2.2.2.1,by omega⟩
theorem Qu8 {e:Estate}(h:Jw e=true){k:Nat}(hk:k<(JQ e).length):(0<=(Z0 (JQ e) k).1/\(Z0 (JQ e) k).1<(JL e).length)/\(0<=(Z0 (JQ e) k).2.1/\(Z0 (JQ e) k).2.1<(JL e).length)/\(Z0 (JQ e) k).1≠(Z0 (JQ e) k).2.1:=
 eg_in (eg_all (UV h).2.2.2.2.1 hk)
theorem QjW {e:Estate}{i:Int}(h:Jw e=true)(h0:0<=i)(h1:i<(JQ e).length):GS e i=true:=by
 obtain ⟨k,rfl⟩:=Bt h0
 have:=Qu8 h (k:=k) (by omega)
 simp only [GS,cIx,Bd,Bc,Ba]
 exact ⟨⟨by omega,by omega⟩,⟨this.1.1,this.1.2⟩,this.2.1.1,this.2.1.2⟩
theorem QjX {e:Estate}(h:J3 e=true):(JL e).all Jo=true:=by
 simp only [J3,Bc] at h
 exact h.2.1
theorem QjY {l:List Endpoint}(h:l.all Jo=true){c:Int}(hc:cIx l c=true):Jo (UT l c.toNat)=true:=by
 simp only [cIx,Ba] at hc
 obtain ⟨k,rfl⟩:=Bt hc.1
 have hk:k<l.length:=by omega
 rw [Bd,show UT l k=l[k] by simp only [UT,Bk,Bh hk,BS]]
 exact Bi.1 h _ (BE hk)
theorem Qu9 {e:Estate}{i:Int}(h:J3 e=true)(hi:GS e i=true):WV (Uf e i).1 (Uf e i).2=true:=by
 simp only [GS,Bc] at hi
 exact Bg.2 ⟨QjY (QjX h) hi.2.1,QjY (QjX h) hi.2.2⟩
end
end Go.Proofs.YtmjnnemhoeolgaaGreat.K
noncomputable section
namespace Go.Proofs.YtmjnnemhoeolgaaGreat.K
open Go.RowKit
noncomputable section
theorem Qzx (s:Endpoint)(o:List Int): ∀ (n v:Nat),(Er s o v n).length<=16*n:=by
 intro n
 induction n with
 |zero=>intro v;simp [Er]
 |succ n ih=>
  intro v
  have h1:(Oq s o (v:Int) 1).length<=16:=by
   unfold Oq
   rw [BN]
   exact B0 (List.length_filter_le _ _) (by rw [List.length_range'];omega)
  have h2:=ih (v+1)
  unfold Er at h2 ⊢
  rw [DI,BL,Bm]
  omega
theorem IA {c s:Endpoint}:(GA c s).length<=64:=by
 unfold GA
 cases h:Gt c s with
 |false=>exact B7 _
 |true=>
  obtain ⟨hv,hw⟩:=Bg.1 h
  have v1:=QaA hv
  have v2:=QaA hw
  refine B0 (Qzx _ _ _ _) ?_
  simp only [hiC,loC,imn,imx]
  split<;>split<;>omega
end
end Go.Proofs.YtmjnnemhoeolgaaGreat.K
noncomputable section
namespace Go.Proofs.YtmjnnemhoeolgaaGreat.K
open Go.RowKit Go.Shelf
end Go.Proofs.YtmjnnemhoeolgaaGreat.K
noncomputable section
namespace Go.Proofs.YtmjnnemhoeolgaaGreat.K
open Go.RowKit
noncomputable section
end
end Go.Proofs.YtmjnnemhoeolgaaGreat.K
noncomputable section
namespace Go.Proofs.YtmjnnemhoeolgaaGreat.K
open Go.RowKit
noncomputable section
end
end Go.Proofs.YtmjnnemhoeolgaaGreat.K
noncomputable section
namespace Go.Proofs.YtmjnnemhoeolgaaGreat.K
open Go.RowKit
noncomputable section
def WX:List Keep:=[(2,(0,())),(1,(0,())),(5,(2048,())),(16,(128,())),(3,(0,())),(15,(168,()))]
def ZI:Nat->Int->Dice->List Link×Dice
 |0,_,d=>([],d)
 |n+1,day,d=>((lgt Qe WX (Qg d 6).toNat,(day,()))::(ZI n (Qj .i64 (Qj .i64 day 1) (dof (Qb d 6) [5,30,0,100])) (Qk (Qb d 6) [5,30,0,100])).1,(ZI n (Qj .i64 (Qj .i64 day 1) (dof (Qb d 6) [5,30,0,100])) (Qk (Qb d 6) [5,30,0,100])).2)
def I8 (d:Dice):Dice:=Qb (Qb (Qb (Qb d 2) 4) 20) 3
def Jl (d:Dice):List Link×Dice:=ZI (Qj .i64 1 (Qg (Qb (Qb (Qb d 2) 4) 20) 3)).toNat (Qg (Qb (Qb d 2) 4) 20) (I8 d)
def I9 (d:Dice)(s:ByteArray):Item:=(s,(Qj .i64 1 (Qg d 2),(Qj .i64 1 (Qg (Qb d 2) 4),((Jl d).1,(Qj .i64 (lgt Zi (Jl d).1 0).2.1 (dof (Jl d).2 [50,300,0,3000]),())))))
def Gv (d:Dice)(_s:ByteArray):Dice:=Qk (Jl d).2 [50,300,0,3000]
def QbZ (d:Dice)(_s:ByteArray):Bool:=dOk d
theorem QCw {n:Nat}: ∀ {day:Int} {d:Dice},dOk d=true->dOk (ZI n day d).2=true:=by
 induction n with
 |zero=>exact fun h=>h
 |succ n ih=>exact fun h=>ih (Q8 (l:=[5,30,0,100]) (Qv h))
theorem Qq5 {d:Dice}(h:dOk d=true):dOk (Jl d).2=true:=QCw (Qv (Qv (Qv (Qv h))))
theorem Qq6 {d:Dice}{s:ByteArray}(h:dOk d=true):dOk (Gv d s)=true:=Q8 (Qq5 h)
theorem Qhp: ∀ (n:Nat) (day:Int) (d:Dice),(ZI n day d).1.length=n
 |0,_,_=>rfl
 |n+1,day,d=>by simp only [ZI,Bo,Qhp n]
theorem QCx:WX.all JG=true:=by kernel_rfl
theorem QCy {y:Ty}{l:List y.T}{i:Nat}(h:i<l.length):lgt y l i∈l:=by
 rw [Q2 (y:=y) h]
 exact BE h
theorem QCz {e:Dice}:0<=dof e [5,30,0,100]/\dof e [5,30,0,100]<=100:=by
 have h:=J7 (d:=e) (l:=[5,30,0,100]) (by decide)
 simp only [BD,BQ,De] at h
 omega
theorem Qq7: ∀ (n:Nat) (day:Int) (d:Dice) (pv:Option Int),n<=3->0<=day->day+101*n<=1000->(∀ e,pv=some e->e<day)->XO pv (ZI n day d).1=true
 |0,_,_,pv,_,_,_,_=>by cases pv<;>rfl
 |n+1,day,d,pv,h1,h2,h3,h4=>by
  have hv:=Je (d:=d) (n:=6) (by omega)
  have hs:=QCz (e:=Qb d 6)
  have e1:Qj .i64 (Qj .i64 day 1) (dof (Qb d 6) [5,30,0,100])=day+1+dof (Qb d 6) [5,30,0,100]:=by rw [Jn (a:=day) (b:=1) (by omega),Jn (by omega)]
  unfold ZI
  rw [QmT,e1]
  have hu:JG (lgt Qe WX (Qg d 6).toNat)=true:=Bi.1 QCx _ (QCy (y:=Qe) (by have:WX.length=6:=rfl;omega))
  have hr:=Qq7 n (day+1+dof (Qb d 6) [5,30,0,100]) (Qk (Qb d 6) [5,30,0,100]) (some day) (by omega) (by omega) (by omega) (fun e he=>by injection he;omega)
  simp only [hu,hr,Be (show 0<=day/\day<=40000 by omega),BH,Di]
  cases pv with
  |none=>rfl
  |some e=>exact Be (h4 e rfl)
theorem QCA: ∀ (n:Nat) (day:Int) (d:Dice),0<n->((ZI n day d).1.headD ((0,(0,())),(0,()))).2.1=day
 |0,_,_,h=>by omega
 |n+1,day,d,_=>rfl
theorem QCB (d:Dice):1<=(Jl d).1.length/\(Jl d).1.length<=3:=by
 have b3:=Je (d:=Qb (Qb (Qb d 2) 4) 20) (n:=3) (by omega)
 have e3:Qj .i64 1 (Qg (Qb (Qb (Qb d 2) 4) 20) 3)=1+Qg (Qb (Qb (Qb d 2) 4) 20) 3:=Jn (by omega)
 unfold Jl
 rw [Qhp,e3]
 omega
theorem QCC (d:Dice){s:ByteArray}(hs:Q6 s=true):Yk (I9 d s)=true:=by
 have b2:=Je (d:=d) (n:=2) (by omega)
 have b4:=Je (d:=Qb d 2) (n:=4) (by omega)
 have b20:=Je (d:=Qb (Qb d 2) 4) (n:=20) (by omega)
 have b3:=Je (d:=Qb (Qb (Qb d 2) 4) 20) (n:=3) (by omega)
 have e2:Qj .i64 1 (Qg d 2)=1+Qg d 2:=Jn (by omega)
 have e4:Qj .i64 1 (Qg (Qb d 2) 4)=1+Qg (Qb d 2) 4:=Jn (by omega)
 have e3:Qj .i64 1 (Qg (Qb (Qb (Qb d 2) 4) 20) 3)=1+Qg (Qb (Qb (Qb d 2) 4) 20) 3:=Jn (by omega)
 have hl:=QCB d
 have hh:((Jl d).1.headD ((0,(0,())),(0,()))).2.1=Qg (Qb (Qb d 2) 4) 20:=QCA _ _ _ (by rw [e3];omega)
 have e0:lgt Zi (Jl d).1 0=(Jl d).1.headD ((0,(0,())),(0,())):=by
  cases hq:(Jl d).1 with
  |nil=>rw [hq] at hl;simp at hl
  |cons a l=>rfl
 have hu:0<=dof (Jl d).2 [50,300,0,3000]/\dof (Jl d).2 [50,300,0,3000]<=3000:=by
  have h:=J7 (d:=(Jl d).2) (l:=[50,300,0,3000]) (by decide)
  simp only [BD,BQ,De] at h
  omega
 have eu:Qj .i64 (lgt Zi (Jl d).1 0).2.1 (dof (Jl d).2 [50,300,0,3000])=(lgt Zi (Jl d).1 0).2.1+dof (Jl d).2 [50,300,0,3000]:=Jn (by rw [e0,hh];omega)
 refine Y3.2 ⟨hs, ?_, ?_, ?_, ?_, ?_⟩
 ·show 1<=Qj .i64 1 (Qg d 2)/\Qj .i64 1 (Qg d 2)<=2
  omega
 ·show 1<=Qj .i64 1 (Qg (Qb d 2) 4)/\Qj .i64 1 (Qg (Qb d 2) 4)<=4
  omega
 ·show 1<=(Jl d).1.length/\(Jl d).1.length<=8
  omega
 ·exact Qq7 _ _ _ none (by rw [e3];omega) (by omega) (by omega) (fun e he=>by cases he)
 ·show ((Jl d).1.headD ((0,(0,())),(0,()))).2.1<=Qj .i64 (lgt Zi (Jl d).1 0).2.1 (dof (Jl d).2 [50,300,0,3000])/\Qj .i64 (lgt Zi (Jl d).1 0).2.1 (dof (Jl d).2 [50,300,0,3000])<=40000
  rw [eu,e0,hh]
  omega
abbrev Qb0:Sh:=⟨[(0,.ptr 50000 0),(4,.ptr 4 0),(5,.ptr 5 0),(6,.ty tI),(7,.ty tI)],[(4,.box JD),(5,.bag [.ty .str,.ty tI,.ty tI,.ms 20503,.ty tI]),(43,.no),(20503,.arr 153 Zi),(50000,.box Qs)]⟩
abbrev QCD:Sh:=⟨[(0,.ptr 50000 0),(4,.ptr 4 0),(5,.ptr 5 0)],[(4,.box JD),(5,.bag [.ty .str,.ty tI,.ty tI,.ms 20503,.ty tI]),(43,.no),(20503,.arr 153 Zi),(50000,.box Qs)]⟩
def Qhq:Fg:=Qb0.f
def Qq8:TC:=aF Tryz.f40 [(122,.nf 5 3 153 20503),(122,pL 0 Qhq),(1955,.fg ⟨[(0,none),(4,none),(5,none)],[(4,some JD),(5,some JD),(43,none),(20503,none),(50000,some Qs)]⟩),(62,pD [(0,[5,43,20503]),(1,[5,43,20503]),(2,[43,20503]),(3,[43,20503]),(4,[43,20503]),(5,[50000]),(6,[]),(7,[58,5058,10058,15058,50000]),(8,[]),(9,[5,43,20503]),(10,[4,5,43,20503])] (.of [0,1,2,3,4,5,6,7,8,9,10]))]
def Qq9:TC:=lb 0 Qq8
def Qra (x6 x7:Int)(y4:Item)(y5_0:ByteArray)(y5_1 y5_2 y5_4:Int)(JX:List Link)(Qa:Dice):VS:=Qb0.st ((),(),(),x6,x7,()) (y4,(y5_0,y5_1,y5_2,(),y5_4,()),(),JX,Qa,())
def Qhr (y4:Item)(y5_0:ByteArray)(y5_1 y5_2 y5_4:Int)(JX:List Link)(Qa:Dice):VS:=QCD.st ((),(),(),()) (y4,(y5_0,y5_1,y5_2,(),y5_4,()),(),JX,Qa,())
def QCE:VS->Option (Bool×List (Bool×Exit×VS)):=mkL Qb0 (fun x y=>(dOk y.2.2.2.2.1&&decide (0<=x.2.2.2.2.1/\x.2.2.2.2.1<=100/\y.2.2.2.1.length+x.2.2.2.2.1.toNat<=1000))) (fun x y=>[(true,.exit 0,Qhr (y.1) (y.2.1.1) (y.2.1.2.1) (y.2.1.2.2.1) (y.2.1.2.2.2.2.1) (y.2.2.2.1++(ZI x.2.2.2.2.1.toNat x.2.2.2.1 y.2.2.2.2.1).1) ((ZI x.2.2.2.2.1.toNat x.2.2.2.1 y.2.2.2.2.1).2))])
def Qhs:G:=gG 62 [(22,Xl),(26,Wl)] (Ls [QCE])
def Qht (x6 x7:Int)(y4:Item)(y5_0:ByteArray)(y5_1 y5_2 y5_4:Int)(JX:List Link)(Qa:Dice):OX:=Qx (Qz Qhs Qhq Qq9) (Qra x6 x7 y4 y5_0 y5_1 y5_2 y5_4 JX Qa)
def Oa (kk:Int->Int->Item->ByteArray->Int->Int->Int->List Link->Dice->OX)(x6 x7:Int)(y4:Item)(y5_0:ByteArray)(y5_1 y5_2 y5_4:Int)(JX:List Link)(Qa:Dice):OX:=
 let a1:=(lgt Qe ([(2,(0,())),(1,(0,())),(5,(2048,())),(16,(128,())),(3,(0,())),(15,(168,()))]) (Int.toNat (Qg Qa 6)))
 let a2:=((a1.1,((a1.2).1,())),(x6,()))
 let a3:=Qb Qa 6
 br (igt x7 0) (br (Qy Qa 6) (br (cIx ([(2,(0,())),(1,(0,())),(5,(2048,())),(16,(128,())),(3,(0,())),(15,(168,()))]) (Qg Qa 6)) (br (QC JX ([a2]) 24) (br (QM a3 ([5,30,0,100])) (kk (Qj .i64 (Qj .i64 x6 1) (dof a3 ([5,30,0,100]))) (QT .i64 x7 1) y4 y5_0 y5_1 y5_2 y5_4 (JX++([a2])) (Qk a3 ([5,30,0,100]))) none) none) none) none) (some (.exit 0,Qhr y4 y5_0 y5_1 y5_2 y5_4 JX Qa))
def Ob (x6 x7:Int)(y4:Item)(y5_0:ByteArray)(y5_1 y5_2 y5_4:Int)(JX:List Link)(Qa:Dice):OX:=
 let a1:=ZI x7.toNat x6 Qa
 some (.exit 0,Qhr (y4) (y5_0) (y5_1) (y5_2) (y5_4) (JX++a1.1) (a1.2))
theorem Qrb (x6 x7:Int)(y4:Item)(y5_0:ByteArray)(y5_1 y5_2 y5_4:Int)(JX:List Link)(Qa:Dice):Qht x6 x7 y4 y5_0 y5_1 y5_2 y5_4 JX Qa=Oa Qht x6 x7 y4 y5_0 y5_1 y5_2 y5_4 JX Qa:=lnT (x:=Oa (fun x6 x7 y4 y5_0 y5_1 y5_2 y5_4 JX Qa=>some (.normal,Qra x6 x7 y4 y5_0 y5_1 y5_2 y5_4 JX Qa)) x6 x7 y4 y5_0 y5_1 y5_2 y5_4 JX Qa) (by simp only [Oa,nxA];rfl)
def r_f40 (d0:Dice)(p1:ByteArray):OV:=
 let a2:=Qb (Qb (Qb d0 2) 4) 20
 let a3:=Qj .i64 1 (Qg a2 3)
 let a1:=ZI a3.toNat (Qg (Qb (Qb d0 2) 4) 20) (Qb a2 3)
 br (Qy d0 2) (br (Qy (Qb d0 2) 4) (br (Qy (Qb (Qb d0 2) 4) 20) (br (Qy a2 3) (br (dOk (Qb a2 3)&&decide (0<=a3/\a3<=100/\([]:List Link).length+a3.toNat<=1000)) (br (cIx (([]:List Link)++a1.1) 0) (br (cLd (([]:List Link)++a1.1) (Int.toNat 0)) (br (QM (a1.2) ([50,300,0,3000])) (some (.t JD ((p1),((Qj .i64 1 (Qg d0 2)),((Qj .i64 1 (Qg (Qb d0 2) 4)),((([]:List Link)++a1.1),((Qj .i64 (((lgt Zi (([]:List Link)++a1.1) (Int.toNat 0)).2).1) (dof (a1.2) ([50,300,0,3000]))),()))))),[.box (.t Qs (Qk (a1.2) ([50,300,0,3000])))])) none) none) none) none) none) none) none) none
theorem QCF (x6 x7:Int)(y4:Item)(y5_0:ByteArray)(y5_1 y5_2 y5_4:Int)(JX:List Link)(Qa:Dice)(h:(dOk Qa&&decide (0<=x7/\x7<=100/\JX.length+x7.toNat<=1000))=true):Qht x6 x7 y4 y5_0 y5_1 y5_2 y5_4 JX Qa=Ob x6 x7 y4 y5_0 y5_1 y5_2 y5_4 JX Qa:=by
 simp only [Bc,Ba] at h
 obtain ⟨hd,h1,h2q,h3⟩:=h
 obtain ⟨k,rfl⟩:=Bt h1
 rw [Bd] at h3
 have h2:k<=100:=by omega
 clear h1 h2q
 induction k generalizing JX Qa x6 with
 |zero=>
  rw [Qrb]
  have e1:igt ((0:Nat):Int) 0=false:=rfl
  simp only [Oa,e1,Qh,Ob,Bd,ZI,BR]
 |succ k ih=>
  rw [Qrb]
  have e1:igt ((k+1:Nat):Int) 0=true:=by simp only [igt,Ba];omega
  have e2:QT .i64 ((k+1:Nat):Int) 1=(k:Int):=by rw [ZN (by omega)];omega
  have hv:=Je (d:=Qa) (n:=6) (by omega)
  have hc:cIx WX (Qg Qa 6)=true:=by
   have:WX.length=6:=rfl
   simp only [cIx,Ba]
   omega
  have hla:Ob x6 ((k+1:Nat):Int) y4 y5_0 y5_1 y5_2 y5_4 JX Qa=Ob (Qj .i64 (Qj .i64 x6 1) (dof (Qb Qa 6) [5,30,0,100])) (k:Int) y4 y5_0 y5_1 y5_2 y5_4 (JX++[(lgt Qe WX (Qg Qa 6).toNat,(x6,()))]) (Qk (Qb Qa 6) [5,30,0,100]):=by
   simp only [Ob,Bd,ZI,BV]
   rfl
  rw [hla, ← ih _ _ _ (Q8 (Qv hd)) (by simp;omega) (by omega)]
  have n6:Qy Qa 6=true:=by simp [Qy,hd]
  have f1:QM (Qb Qa 6) [5,30,0,100]=true:=by simp [QM,Qv hd]
  simp only [Oa,e1,e2,n6,f1,Qd,show ([(2,(0,())),(1,(0,())),(5,(2048,())),(16,(128,())),(3,(0,())),(15,(168,()))]:List Keep)=WX from rfl,hc]
  rw [QvK (by simp;omega) (by omega),Qd]
  show br (cIx WX (Qg Qa 6)) _ _=_
  rw [hc,Qd]
theorem QCG:LO Qhs Qhq Qq9 0:=QI (s:=Qb0) fun x y h _ q=>by simp only [QF,QG] at q;exact (QCF x.2.2.2.1 x.2.2.2.2.1 y.1 y.2.1.1 y.2.1.2.1 y.2.1.2.2.1 y.2.1.2.2.2.2.1 y.2.2.2.1 y.2.2.2.2.1 h).trans q
theorem s_f40 (d:Dice)(s:ByteArray)(h:QbZ d s=true):r_f40 d s=some (.t JD (I9 d s),[.box (.t Qs (Gv d s))]):=by
 have h:dOk d=true:=h
 have n2:Qy d 2=true:=by simp [Qy,h]
 have n4:Qy (Qb d 2) 4=true:=by simp [Qy,Qv h]
 have n20:Qy (Qb (Qb d 2) 4) 20=true:=by simp [Qy,Qv (Qv h)]
 have n3:Qy (Qb (Qb (Qb d 2) 4) 20) 3=true:=by simp [Qy,Qv (Qv (Qv h))]
 have b3:=Je (d:=Qb (Qb (Qb d 2) 4) 20) (n:=3) (by omega)
 have e3:Qj .i64 1 (Qg (Qb (Qb (Qb d 2) 4) 20) 3)=1+Qg (Qb (Qb (Qb d 2) 4) 20) 3:=Jn (by omega)
 have hl:=Qhp (Qj .i64 1 (Qg (Qb (Qb (Qb d 2) 4) 20) 3)).toNat (Qg (Qb (Qb d 2) 4) 20) (I8 d)
 have hd3:dOk (I8 d)=true:=Qv (Qv (Qv (Qv h)))
 have hL:dOk (Jl d).2=true:=Qq5 h
 have f5:QM (Jl d).2 [50,300,0,3000]=true:=by simp [QM,hL]
 have hlen:0<(Jl d).1.length:=by
  show 0<(ZI _ _ _).1.length
  rw [hl]
  omega
 have c1:cIx (Jl d).1 0=true:=by simp only [cIx,Ba];omega
 have c2:cLd (Jl d).1 (Int.toNat 0)=true:=by simp only [cLd,Ba];exact hlen
 simp only [r_f40,n2,n4,n20,n3,Qd,BY,show Qb (Qb (Qb (Qb d 2) 4) 20) 3=I8 d from rfl,hd3,BH]
 rw [ES ⟨by omega,by omega,by simp;omega⟩,Qd]
 simp only [show ZI (Qj .i64 1 (Qg (Qb (Qb (Qb d 2) 4) 20) 3)).toNat (Qg (Qb (Qb d 2) 4) 20) (I8 d)=Jl d from rfl,c1,c2,f5,Qd]
 rfl
def Qrc:Ent:=Yg Qs (.pr .str .nil) (fun d x=>(QbZ d x.1)) (fun d x=>(.t JD (I9 d x.1))) (fun d x=>(Gv d x.1))
theorem ms_f40:EM 40 Qrc:=mS (lk:=lkL (lkc QCG lkn)) Qhs Qq8 [((.c 4 true 5),some JD)] false (gB (gD XI (gD Uj gN))) fun m=>YZ m rfl fun d x hok=>kT (s_f40 d x.1 hok)
set_option maxRecDepth 100000 in
end
end Go.Proofs.YtmjnnemhoeolgaaGreat.K
noncomputable section
namespace Go.Proofs.YtmjnnemhoeolgaaGreat.K
open Go.RowKit
noncomputable section
attribute [local irreducible] epV epN prZ
end
end Go.Proofs.YtmjnnemhoeolgaaGreat.K
noncomputable section
namespace Go.Proofs.YtmjnnemhoeolgaaGreat.K
open Go.RowKit
noncomputable section
theorem Qz3 (s x:Int):0<=ZL s x/\ZL s x<4294967296:=by
 unfold ZL V4
 rw [IntKind.wrap_u32]
 omega
theorem QoR: ∀ (b:List Int) (s:Int),(0<=s/\s<4294967296)->0<=b.foldl ZL s/\b.foldl ZL s<4294967296
 | [],_,h=>h
 |x::r,s,_=>QoR r (ZL s x) (Qz3 s x)
theorem Qz4 (b:List Int):0<=XG b/\XG b<4294967296:=by
 have h:=QoR b 2166136261 (by omega)
 unfold XG
 rw [show icv .i64 (b.foldl ZL 2166136261)=b.foldl ZL 2166136261 from Go.IntWalk.i64_in _ (by omega)]
 exact h
theorem Qz5 (b:List Int):Xe (XG b)=true:=by
 have h:=Qz4 b
 simp only [Xe,Bc,Br,ilt,ige,Bq]
 omega
theorem Qgh {n:Int}(h:0<=n/\n<=2147483648):Jf n=true:=by
 simp only [Jf,Bc,Br,ilt,igt,Bq]
 omega
def ZT (s:ByteArray):Bool:=Q6 s&&Yu [s]&&Yu [s,Ut s (ByteArray.mk #[120])]
theorem Qz6: ∀ i,i<3->ZT (Yp.getD i ByteArray.empty)=true:=by
 intro i hi
 have:i=0∨i=1∨i=2:=by omega
 rcases this with rfl|rfl|rfl
 ·show ZT (ByteArray.mk #[99,97])=true
  kernel_rfl
 ·show ZT (ByteArray.mk #[99,98])=true
  kernel_rfl
 ·show ZT (ByteArray.mk #[99,99])=true
  kernel_rfl
theorem Qz7:Q6 Xy=true:=by kernel_rfl
theorem Qz8 (d:Dice):Ju (dof d [3,2,4,1],(0,())) 1=true:=by
 have h1:Ju (1,(0,())) 1=true:=by kernel_rfl
 have h2:Ju (2,(0,())) 1=true:=by kernel_rfl
 have h3:Ju (3,(0,())) 1=true:=by kernel_rfl
 have h4:Ju (4,(0,())) 1=true:=by kernel_rfl
 have hm:=J7 (d:=d) (l:=[3,2,4,1]) (by decide)
 simp only [BD,BQ,De] at hm
 rcases hm with h|h|h|h
 ·rw [h];exact h3
 ·rw [h];exact h2
 ·rw [h];exact h4
 ·rw [h];exact h1
theorem QoS {d:Dice}{i s:ByteArray}{k:Keep}{id:Int}{a:Bool}{q:Keep}(hi:Q6 i=true)(hs:ZT s=true)(hk:Ju k 2=true)(hd:Jf id=true)(hq:Jf q.1=true)(hq2:Xe q.2.1=true):QK (EK (XW d i s k id a) q)=true:=by
 simp only [ZT,Bc] at hs
 have b1:=Je (d:=d) (n:=1000) (by omega)
 have m1:=J7 (d:=cD2 d) (l:=[0,5,10]) (by decide)
 have m2:=J7 (d:=cD3 d) (l:=[1000,100,50,20]) (by decide)
 have m3:=J7 (d:=cD4 d) (l:=[3,0,1]) (by decide)
 simp only [BD,BQ,De] at m1 m2 m3
 have hp:0<=Y6 d a/\Y6 d a<=8/\(a=false->Y6 d a=0):=by
  unfold Y6
  cases a
  ·exact ⟨Dq 0,show (0:Int)<=8 by decide,fun _=>rfl⟩
  ·exact ⟨by show 0<=dof _ _;omega,by show dof _ _<=8;omega,fun h=>by cases h⟩
 have hn:Yu (cNm d a s)=true:=by
  unfold cNm
  cases done (cD5 d a) 3
  ·exact hs.1.2
  ·exact hs.2
 have h1:ilt (Qg d 1000) 0=false:=Bn (by omega)
 have h2:igt (Qg d 1000) 1099511627776=false:=Bn (by omega)
 have h3:ilt (dof (cD2 d) [0,5,10]) 0=false:=Bn (by omega)
 have h4:igt (dof (cD2 d) [0,5,10]) (dof (cD3 d) [1000,100,50,20])=false:=Bn (by omega)
 have h5:igt (dof (cD3 d) [1000,100,50,20]) 40000=false:=Bn (by omega)
 have h6:ilt (Y6 d a) 0=false:=Bn (by omega)
 have h7:igt (Y6 d a) 8=false:=Bn (by omega)
 have h8:(a||ieq (Y6 d a) 0)=true:=by
  cases a
  ·rw [hp.2.2 rfl];rfl
  ·rfl
 show (!ilt (Qg d 1000) 0&&(!igt (Qg d 1000) 1099511627776&&(Q6 i&&(Q6 s&&(Yu (cNm d a s)&&(Ju k 2&&(Jf id&&(Ju (dof (cD1 d) [3,2,4,1],(0,())) 1&&(Jf q.1&&(Xe q.2.1&&(!ilt (dof (cD2 d) [0,5,10]) 0&&(!igt (dof (cD2 d) [0,5,10]) (dof (cD3 d) [1000,100,50,20])&&(!igt (dof (cD3 d) [1000,100,50,20]) 40000&&(!ilt (Y6 d a) 0&&(!igt (Y6 d a) 8&&(a||ieq (Y6 d a) 0))))))))))))))))=true
 rw [h1,h2,h3,h4,h5,h6,h7,h8,hi,hs.1.1,hn,hk,hd,Qz8,hq,hq2]
 rfl
theorem QoT {d:Dice}{i s:ByteArray}{k:Keep}{id g:Int}{a:Bool}(hi:Q6 i=true)(hs:ZT s=true)(hk:Ju k 2=true)(hd:Jf id=true)(hg:Jf g=true):Yo d i s k id g a=EK (XW d i s k id a) (g,(XG (Yc (Uh (XW d i s k id a))).1,()))/\QK (Yo d i s k id g a)=true:=by
 have hb:EN (XW d i s k id a) g=false:=by
  unfold EN Uh
  rw [QoS hi hs hk hd rfl rfl,BM,Dm]
  simp only [Jf,Bc,Br] at hg
  rw [hg.1,hg.2]
  rfl
 have he:Yo d i s k id g a=EK (XW d i s k id a) (g,(XG (Yc (Uh (XW d i s k id a))).1,())):=by
  unfold Yo YW
  rw [hb]
  rfl
 exact ⟨he,by rw [he];exact QoS hi hs hk hd hg (Qz5 _)⟩
theorem Qz9:Ju (5,(2048,())) 2=true:=by kernel_rfl
theorem QoU: ∀ (m i:Nat) (u:Up),i+m<=3->Q6 u.2.2.1=true->Jf u.2.2.2=true->u.1.all QK=true->(Xa m i u).1.all QK=true/\Q6 (Xa m i u).2.2.1=true/\Jf (Xa m i u).2.2.2=true
 |0,_,u,_,h,h1,h2=>⟨h2,h,h1⟩
 |m+1,i,(ab,d,iss,g),hm,h,h1,h2=>by
  have hs:=Qz6 i (by omega)
  have hn:Q6 (Yp.getD i ByteArray.empty)=true:=by
   simp only [ZT,Bc] at hs
   exact hs.1.1
  have hk:Jf ((11+i:Nat):Int)=true:=Qgh (by omega)
  refine QoU m (i+1) _ (by omega) hn hk ?_
  rw [BZ,(QoT h hs Qz9 hk h1).2]
  exact h2
theorem QAa {d:Dice}{nm:ByteArray}{k:Keep}{id:Int}(hs:ZT nm=true)(hk:Ju k 2=true)(hd:Jf id=true):(ZV d nm k id).all QK=true/\GU k id (ZV d nm k id)=true:=by
 have b2:=Je (d:=Qk d [1,0,2]) (n:=2) (by omega)
 have hm:=J7 (d:=d) (l:=[1,0,2]) (by decide)
 simp only [BD,BQ,De] at hm
 obtain ⟨h1,h2,h3⟩:=QoU (dof d [1,0,2]).toNat 0 ([],Qb (Qk d [1,0,2]) 2,Xy,1+Qg (Qk d [1,0,2]) 2) (by omega) Qz7 (Qgh (show 0<=1+Qg (Qk d [1,0,2]) 2/\1+Qg (Qk d [1,0,2]) 2<=2147483648 by omega)) rfl
 obtain ⟨e,hv⟩:=QoT (d:=(chU d).2.1) (i:=(chU d).2.2.1) (s:=nm) (k:=k) (id:=id) (g:=(chU d).2.2.2) (a:=false) h2 hs hk hd h3
 unfold ZV
 refine ⟨by rw [BZ,hv];exact h1, ?_⟩
 unfold GU
 rw [e]
 have: ∀ (x:Certificate) (l:List Certificate),(x::l).getD 0 Vf=x:=fun _ _=>rfl
 rw [this]
 show (_||((k==k)&&ieq id id))=true
 simp [ieq]
theorem QAb {d:Dice}{nm:ByteArray}{k:Keep}{id:Int}(hd:dOk d=true):(ZV d nm k id).length<=4:=by
 have hu0:Yq ([],Qb (Qk d [1,0,2]) 2,Xy,1+Qg (Qk d [1,0,2]) 2)=true:=Bg.2 ⟨Qv (n:=2) (Q8 (l:=[1,0,2]) hd),rfl⟩
 have hm:=J7 (d:=d) (l:=[1,0,2]) (by decide)
 simp only [BD,BQ,De] at hm
 have hl:=(Oc (dof d [1,0,2]).toNat 0 _ hu0).2
 simp only [Bw] at hl
 have hl2:(chU d).1.length<=3:=by
  unfold chU
  omega
 unfold ZV
 rw [Bo]
 omega
theorem QoV {a:Int}(h:a=5∨a=6∨a=7∨a=8∨a=9)(d:Dice):Ju (a,(ZO d a,())) 2=true:=by
 have hv:JG (a,(ZO d a,()))=true:=QvU (by omega) (by omega)
 unfold Ju
 rw [hv]
 rcases h with rfl|rfl|rfl|rfl|rfl<;>rfl
theorem QAc (d:Dice):Ju (Zp d) 2=true:=by
 have hm:=J7 (d:=d) (l:=[5,7,5,6,8,9]) (by decide)
 simp only [BD,BQ,De] at hm
 exact QoV (a:=IK d) (by have:IK d=dof d [5,7,5,6,8,9]:=rfl;omega) _
theorem Qgi (d:Dice):Ju (Wo d) 2=true:=by
 unfold Wo
 cases iB d
 ·exact QAc d
 ·have hm:=J7 (d:=iD2 d) (l:=[5,7]) (by decide)
  simp only [BD,BQ,De] at hm
  exact QoV (a:=iA d) (by have:iA d=dof (iD2 d) [5,7]:=rfl;omega) _
theorem QoW {k:Keep}{id:Int}{l:List Certificate}(hk:Ju k 2=true)(hd:Jf id=true)(hl:l.length<=8)(h1:l.all QK=true)(h2:GU k id l=true):Wk k id l=true:=by
 simp only [Ju,Bc] at hk
 have h8:igt (Qc l) 8=false:=Bn (by simp only [Qc];omega)
 have hi:ine (Z6 k.1) 2=false:=by rw [QiG,hk.2];rfl
 unfold Wk
 rw [hk.1,hi,hd,h8,h1,h2]
 rfl
theorem QAd {d:Dice}{nm:ByteArray}(hs:ZT nm=true)(hd:dOk d=true):X5 (idV d nm)=true:=by
 have b:=Je (d:=iD3 d) (n:=20) (by omega)
 have hk:Jf (iId d)=true:=Qgh (by unfold iId;omega)
 show Wk (Wo d) (iId d) (iCh d nm)=true
 unfold iCh
 cases !done (iD4 d) 9
 ·exact QoW (Qgi d) hk (B7 _) rfl rfl
 ·obtain ⟨h1,h2⟩:=QAa (d:=iD5 d) (k:=Wo d) (id:=iId d) hs (Qgi d) hk
  exact QoW (Qgi d) hk (B0 (QAb (Qv (n:=9) (Qv (n:=20) (Qeh hd)))) (by decide)) h1 h2
theorem QoX: ∀ (n:Nat) (nm:ByteArray) (d:Dice),ZT nm=true->dOk d=true->(JJ n nm d).1.all X5=true
 |0,_,_,_,_=>rfl
 |n+1,nm,d,hn,hd=>by
  simp only [JJ,BZ,Bc]
  exact ⟨QAd hn hd,QoX n nm _ hn (EX hd)⟩
theorem QAe {c:Int}(h:1<=c/\c<=16):ieq (QL c).2 0=true:=by
 unfold QL
 rw [if_neg (by omega)]
 rfl
theorem QAf {l:List Int}(hn:l.Nodup)(hr: ∀ x∈l,1<=x/\x<=16):Z2 l=true:=by
 have key: ∀ (k:Nat) (hk:k<l.length),(ieq (QL l[k]).2 0&& !Jd (l.take k) l[k])=true:=by
  intro k hk
  rw [QAe (hr _ (BE hk)),BH,Br]
  unfold Jd
  rw [Bool.eq_false_iff]
  intro hc
  have hm:=BC.1 hc
  obtain ⟨j,hj,he⟩:=List.mem_iff_getElem.1 hm
  rw [B2] at hj
  rw [List.getElem_take] at he
  have:=(List.nodup_iff_pairwise_ne.1 hn)
  rw [List.pairwise_iff_getElem] at this
  exact this j k (by omega) hk (by omega) he
 simp only [Z2,YY,Bi,List.mem_range'_1]
 intro k hk
 have hk2:k<l.length:=by omega
 simp only [Bk,Bh hk2,BS]
 exact key k hk2
def WP (l:List Int):Prop:=l.Nodup∧ ∀ x∈l,1<=x/\x<=16
theorem QAg {l:List Int}{x:Int}(h:WP l)(hx:1<=x/\x<=16)(hn:Jd l x=false):WP (l++[x]):=by
 have hm:x ∉ l:=fun hc=>by
  unfold Jd at hn
  rw [BC.2 hc] at hn
  cases hn
 refine ⟨?_,fun y hy=> ?_⟩
 ·rw [List.nodup_append]
  refine ⟨h.1,List.nodup_cons.2 ⟨by simp,List.nodup_nil⟩,fun a ha b hb=> ?_⟩
  rw [B3] at hb
  rintro rfl
  exact hm (hb▸ha)
 ·rw [Bu,B3] at hy
  rcases hy with hy|rfl
  ·exact h.2 y hy
  ·exact hx
theorem QoY: ∀ (n:Nat) (l:List Int) (d:Dice),WP l->WP (suZ n l d).1
 |0,_,_,h=>h
 |n+1,l,d,h=>by
  have b:=Je (d:=d) (n:=16) (by omega)
  unfold suZ
  refine QoY n _ _ ?_
  cases hh:Jd l (1+Qg d 16) with
  |true=>exact h
  |false=>exact QAg h (by omega) hh
theorem QAh (l:List Int)(x:Int):(Ym l x).Perm (x::l):=by
 unfold Ym
 rw [BV,BO]
 refine List.perm_middle.trans ?_
 rw [List.take_append_drop]
theorem QAi (l:List Int):(Uy l).Perm l:=by
 have key: ∀ (l a:List Int),(l.foldl Ym a).Perm (a++l):=by
  intro l
  induction l with
  |nil=>intro a;rw [BR];exact List.Perm.refl _
  |cons x r ih=>
   intro a
   rw [Dz]
   refine (ih (Ym a x)).trans ?_
   refine ((QAh a x).append_right r).trans ?_
   exact List.perm_middle.symm
 unfold Uy
 have:=key l []
 rwa [BY] at this
theorem QAj {a b:List Int}(h:a.Perm b)(hb:WP b):WP a:=⟨h.nodup_iff.2 hb.1,fun x hx=>hb.2 x (h.mem_iff.1 hx)⟩
theorem QAk (d:Dice):WP (YF d):=by
 have h:=QoY (2+Qg d 9).toNat [] (Qb d 9) ⟨List.nodup_nil,fun x hx=>by cases hx⟩
 unfold YF
 cases done (suI d).2 4
 ·exact h
 ·exact QAj (QAi _) h
def Qbe (l:List Int):Bool:= !igt (Qc l) 16&&(Ws l&&l.all Jf)
def Qbf (l:List Int):Bool:=Ws l&&l.all U5
theorem QAl {e:Endpoint}(hw:XK e.1=true)(h1:1<=e.2.1)(h2:e.2.1<=e.2.2.1)(h3:e.2.2.1<=4)(hs:WP (JC e))(hi:(JO e).length<=4)(hv:(JO e).all X5=true)(ha:Qbe (XZ e)=true)(hh:Qbf (WS e)=true):QW e=true:=by
 simp only [Qbe,Qbf,Bc] at ha hh
 have g1:ilt e.2.1 1=false:=Bn (by omega)
 have g2:igt e.2.1 e.2.2.1=false:=Bn (by omega)
 have g3:igt e.2.2.1 4=false:=Bn (by omega)
 have g4:igt (Qc (JO e)) 4=false:=Bn (by simp only [Qc];omega)
 unfold QW
 rw [hw,g1,g2,g3,QAf hs.1 hs.2,g4,ha.1,ha.2.1,ha.2.2,hv,hh.1,hh.2]
 rfl
theorem QoZ {l:List (List Int)}{p:List Int->Bool}(h:l.all p=true)(h0:p []=true)(k:Nat):p (lgt (.sl tI) l k)=true:=by
 show p (l.getD k [])=true
 rw [Bk]
 cases hk:l[k]? with
 |none=>exact h0
 |some x=>exact Bi.1 h x (Dk hk)
theorem an_ok (d:Dice)(nm:ByteArray):Qbe (XZ (epV d nm))=true:=QoZ (p:=Qbe) (by decide) (by decide) _
theorem hs_ok (d:Dice)(nm:ByteArray):Qbf (WS (epV d nm))=true:=QoZ (p:=Qbf) (by kernel_rfl) (by decide) _
theorem ver_ok (d:Dice):1<=YB d/\YB d<=YC d/\YC d<=4:=by
 have m0:=J7 (d:=d) (l:=[1,1,2,3]) (by decide)
 have m1:=J7 (d:=eD6 d) (l:=[3,4,2]) (by decide)
 simp only [BD,BQ,De] at m0 m1
 have b4:=Je (d:=eD4 d) (n:=5-eL0 d) (by show 0<5-dof d [1,1,2,3];omega)
 have e0:eL0 d=dof d [1,1,2,3]:=rfl
 unfold YB YC
 cases eB d
 ·show 1<=eL0 d/\eL0 d<=eL0 d+Qg (eD4 d) (5-eL0 d)/\eL0 d+Qg (eD4 d) (5-eL0 d)<=4
  omega
 ·show (1:Int)<=1/\1<=dof (eD6 d) [3,4,2]/\dof (eD6 d) [3,4,2]<=4
  omega
theorem QAm {d:Dice}{nm:ByteArray}(hs:ZT nm=true)(hd:dOk d=true):(JY d nm).1.all X5=true:=by
 have k4:=Qv (n:=2) (Qv (n:=2) (E6 (Q8 (l:=[1,1,2,3]) hd)))
 have k6:=Qv (n:=3) (Qv (n:=5-eL0 d) k4)
 have k7:dOk (eD7 d)=true:=by
  unfold eD7
  cases eB d
  ·exact k6
  ·exact Q8 (l:=[3,4,2]) k6
 exact QoX _ _ _ hs (Q8 (l:=[1,2,1,3,0]) k7)
theorem ep_all {d:Dice}{nm:ByteArray}(hs:ZT nm=true)(hn:nm.size<=1000)(hd:dOk d=true):WP (JC (epV d nm))/\(JO (epV d nm)).length<=4/\(JO (epV d nm)).all X5=true/\(1<=(epV d nm).2.1/\(epV d nm).2.1<=(epV d nm).2.2.1/\(epV d nm).2.2.1<=4):=
 ⟨QAk _,B0 (QoP hn hd).2 (by decide),QAm hs hd,ver_ok d⟩
theorem QAn {d:Dice}{nm:ByteArray}(hs:ZT nm=true)(hw:XK nm=true)(hn:nm.size<=1000)(hd:dOk d=true):QW (epV d nm)=true:=by
 obtain ⟨h1,h2,h3,h4,h5,h6⟩:=ep_all hs hn hd
 exact QAl (show XK (epV d nm).1=true from hw) h4 h5 h6 h1 h2 h3 (an_ok d nm) (hs_ok d nm)
attribute [local irreducible] epV epN prZ
end
end Go.Proofs.YtmjnnemhoeolgaaGreat.K
noncomputable section
namespace Go.Proofs.YtmjnnemhoeolgaaGreat.K
open Go.RowKit
noncomputable section
end
end Go.Proofs.YtmjnnemhoeolgaaGreat.K
noncomputable section
namespace Go.Proofs.YtmjnnemhoeolgaaGreat.K.PE
open Go.RowKit
noncomputable section
def Qv2:List DO:=dT Tryz.f45 2
abbrev Wp:Sh:=⟨[(0,.ptr 50000 0),(1,.ty .str),(4,.ptr 4 0),(5,.ptr 5 0),(6,.ty tI)],[(4,.box QD),(5,.bag [.ty .str,.ty tI,.ty tI,.ms 15,.ty .bool,.ms 20505,.nl,.nl,.ty .bool]),(15,.arr 3 tI),(78,.no),(5015,.no),(10015,.no),(15015,.no),(20505,.arr 67 JT),(50000,.box Qs)]⟩
abbrev Qei:Sh:=⟨[(0,.ptr 50000 0),(4,.ptr 4 0),(5,.ptr 5 0)],[(4,.box QD),(5,.bag [.ty .str,.ty tI,.ty tI,.ms 15,.ty .bool,.ms 20505,.nl,.nl,.ty .bool]),(15,.arr 3 tI),(78,.no),(5015,.no),(10015,.no),(15015,.no),(20505,.arr 67 JT),(50000,.box Qs)]⟩
def Uo:Fg:=Wp.f
def Xm:TC:=aF Tryz.f45 [(14,pD [(0,[5,15,78,5015,10015,15015,20505]),(1,[5,15,78,5015,10015,15015,20505]),(2,[50000]),(3,[5,15,78,5015,10015,15015,20505]),(4,[5,15,78,5015,10015,15015,20505]),(5,[15,78,5015,10015,15015,20505]),(6,[27,5027,10027,15027,50000]),(7,[15,78,5015,10015,15015,20505]),(8,[5,15,78,5015,10015,15015,20505]),(9,[4,5,15,78,5015,10015,15015,20505])] (.of [0,1,2,3,4,5,6,7,8,9])),(250,.nf 5 5 67 20505),(250,pL 0 Uo),(4003,.fg ⟨[(0,none),(4,none),(5,none)],[(4,some QD),(5,some QD),(15,none),(78,none),(5015,none),(10015,none),(15015,none),(20505,none),(50000,some Qs)]⟩)]
def G1:TC:=lb 0 Xm
def U3:List (RV×Option Ty):=[((.c 4 true 9),some QD)]
def Wq (x1:ByteArray)(x6:Int)(y4:Endpoint)(y5_0:ByteArray)(y5_1 y5_2:Int)(y5_4 y5_8:Bool)(y15:List Int)(Qw:List Identity)(Qa:Dice):VS:=Wp.st ((),x1,(),(),x6,()) (y4,(y5_0,y5_1,y5_2,(),y5_4,(),(),(),y5_8,()),y15,(),(),(),(),Qw,Qa,())
def Uq (y4:Endpoint)(y5_0:ByteArray)(y5_1 y5_2:Int)(y5_4 y5_8:Bool)(y15:List Int)(Qw:List Identity)(Qa:Dice):VS:=Qei.st ((),(),(),()) (y4,(y5_0,y5_1,y5_2,(),y5_4,(),(),(),y5_8,()),y15,(),(),(),(),Qw,Qa,())
def Qej:VS->Option (Bool×List (Bool×Exit×VS)):=mkL Wp (fun x y=>(decide (0<=x.2.2.2.2.1/\(y.2.2.2.2.2.2.2.1.length:Int)+x.2.2.2.2.1<=10/\x.2.1.size<=1000)&&dOk y.2.2.2.2.2.2.2.2.1)) (fun x y=>[(true,.exit 0,Uq (y.1) (y.2.1.1) (y.2.1.2.1) (y.2.1.2.2.1) (y.2.1.2.2.2.2.1) (y.2.1.2.2.2.2.2.2.2.2.1) (y.2.2.1) (y.2.2.2.2.2.2.2.1++(JJ x.2.2.2.2.1.toNat x.2.1 y.2.2.2.2.2.2.2.2.1).1) ((JJ x.2.2.2.2.1.toNat x.2.1 y.2.2.2.2.2.2.2.2.1).2))])
def Yd:G:=gG 100 [(22,Xl),(26,Wl),(37,EU),(72,QeN),(73,Qgd),(74,Vu),(75,Qhy)] (Ls [Qej])
def Ye (x1:ByteArray)(x6:Int)(y4:Endpoint)(y5_0:ByteArray)(y5_1 y5_2:Int)(y5_4 y5_8:Bool)(y15:List Int)(Qw:List Identity)(Qa:Dice):OX:=Qx (Qz Yd Uo G1) (Wq x1 x6 y4 y5_0 y5_1 y5_2 y5_4 y5_8 y15 Qw Qa)
def XJ (kk:ByteArray->Int->Endpoint->ByteArray->Int->Int->Bool->Bool->List Int->List Identity->Dice->OX)(x1:ByteArray)(x6:Int)(y4:Endpoint)(y5_0:ByteArray)(y5_1 y5_2:Int)(y5_4 y5_8:Bool)(y15:List Int)(Qw:List Identity)(Qa:Dice):OX:=
 let a1:=Qb (Q0 Qa) 3
 let a2:=(Zd (Qk a1 ([5,7])) (dof a1 ([5,7])))
 let a3:=((dof a1 ([5,7])),((ZO (Qk a1 ([5,7])) (dof a1 ([5,7]))),()))
 let a4:=Qj .i64 100 (Qg a2 20)
 let a5:=Qj .i64 100 (Qg a1 20)
 let a6:=((Zp Qa).1,(((Zp Qa).2).1,()))
 let a7:=Qb (Qb a2 20) 9
 let a8:=Qb (Qb a1 20) 9
 let a9:=QT .i64 x6 1
 let a10:=((ZV a8 x1 (Zp Qa) a5),())
 let a11:=((ZV a7 x1 a3 a4),())
 br (igt x6 0) (br (dOk Qa) (br (Qy (Q0 Qa) 3) (br (igt (Qg (Q0 Qa) 3) 0) (br (QM a1 ([5,7])) (br (Wm (Qk a1 ([5,7])) (dof a1 ([5,7]))) (br (Qy a2 20) (br (Jy (Qb a2 20) 9) (br (!(done (Qb a2 20) 9)) (br (YS a7 x1 a3 a4) (br (QC Qw ([(a3,(a4,a11))]) 48) (kk x1 a9 y4 y5_0 y5_1 y5_2 y5_4 y5_8 y15 (Qw++([(a3,(a4,a11))])) (X8 a7 x1 a3 a4)) none) none) (br (QC Qw ([(a3,(a4,(([]:List Certificate),())))]) 48) (kk x1 a9 y4 y5_0 y5_1 y5_2 y5_4 y5_8 y15 (Qw++([(a3,(a4,(([]:List Certificate),())))])) a7) none)) none) none) none) none) (br (Qy a1 20) (br (Jy (Qb a1 20) 9) (br (!(done (Qb a1 20) 9)) (br (YS a8 x1 (Zp Qa) a5) (br (QC Qw ([(a6,(a5,a10))]) 48) (kk x1 a9 y4 y5_0 y5_1 y5_2 y5_4 y5_8 y15 (Qw++([(a6,(a5,a10))])) (X8 a8 x1 (Zp Qa) a5)) none) none) (br (QC Qw ([(a6,(a5,(([]:List Certificate),())))]) 48) (kk x1 a9 y4 y5_0 y5_1 y5_2 y5_4 y5_8 y15 (Qw++([(a6,(a5,(([]:List Certificate),())))])) a8) none)) none) none)) none) none) (some (.exit 0,Uq y4 y5_0 y5_1 y5_2 y5_4 y5_8 y15 Qw Qa))
def Z1 (x1:ByteArray)(x6:Int)(y4:Endpoint)(y5_0:ByteArray)(y5_1 y5_2:Int)(y5_4 y5_8:Bool)(y15:List Int)(Qw:List Identity)(Qa:Dice):OX:=
 let a1:=JJ x6.toNat x1 Qa
 some (.exit 0,Uq (y4) (y5_0) (y5_1) (y5_2) (y5_4) (y5_8) (y15) (Qw++a1.1) (a1.2))
theorem EZ (x1:ByteArray)(x6:Int)(y4:Endpoint)(y5_0:ByteArray)(y5_1 y5_2:Int)(y5_4 y5_8:Bool)(y15:List Int)(Qw:List Identity)(Qa:Dice):Ye x1 x6 y4 y5_0 y5_1 y5_2 y5_4 y5_8 y15 Qw Qa=XJ Ye x1 x6 y4 y5_0 y5_1 y5_2 y5_4 y5_8 y15 Qw Qa:=lnT (x:=XJ (fun x1 x6 y4 y5_0 y5_1 y5_2 y5_4 y5_8 y15 Qw Qa=>some (.normal,Wq x1 x6 y4 y5_0 y5_1 y5_2 y5_4 y5_8 y15 Qw Qa)) x1 x6 y4 y5_0 y5_1 y5_2 y5_4 y5_8 y15 Qw Qa) (by simp only [XJ,nxA];rfl)
def U4 (d0:Dice)(p1:ByteArray):OV:=
 let a4:=(Qk d0 ([1,1,2,3]))
 let a6:=Qb (ZF a4) 2
 let a13:=(dof d0 ([1,1,2,3]))
 let a5:=QT .i64 5 a13
 let a12:=Qb (Qb a6 2) a5
 let a1:=Qb a12 3
 let a7:=(Qk a1 ([3,4,2]))
 let a10:=(dof a7 ([1,2,1,3,0]))
 let a2:=(JJ a10.toNat p1 (Qk a7 ([1,2,1,3,0])))
 let a11:=(dof a1 ([1,2,1,3,0]))
 let a3:=(JJ a11.toNat p1 (Qk a1 ([1,2,1,3,0])))
 let a8:=Qb (a2.2) 5
 let a9:=Qb (a3.2) 5
 br (QM d0 ([1,1,2,3])) (br (dOk a4) (br (Jy (ZF a4) 2) (br (Jy a6 2) (br (Qy (Qb a6 2) a5) (br (Qy a12 3) (br (igt (Qg a12 3) 0) (br (QM a1 ([3,4,2])) (br (QM a7 ([1,2,1,3,0])) (br (decide (0<=a10/\(([]:List Identity).length:Int)+a10<=10/\p1.size<=1000)&&dOk (Qk a7 ([1,2,1,3,0]))) (br (Qy (a2.2) 5) (br (cIx ([[1,2],[1,2],[1],[2,11],([]:List Int)]) (Qg (a2.2) 5)) (br (Qy a8 3) (br (cIx ([[1,2,3,4],[2,3,4],[3,4]]) (Qg a8 3)) (some (.t QD ((p1),((1:Int),((dof a1 ([3,4,2])),((YF a4),((done (ZF a4) 2),((([]:List Identity)++a2.1),((lgt (.sl tI) ([[1,2],[1,2],[1],[2,11],([]:List Int)]) (Int.toNat (Qg (a2.2) 5))),((lgt (.sl tI) ([[1,2,3,4],[2,3,4],[3,4]]) (Int.toNat (Qg a8 3))),((done a6 2),()))))))))),[.box (.t Qs (Qb a8 3))])) none) none) none) none) none) none) none) (br (QM a1 ([1,2,1,3,0])) (br (decide (0<=a11/\(([]:List Identity).length:Int)+a11<=10/\p1.size<=1000)&&dOk (Qk a1 ([1,2,1,3,0]))) (br (Qy (a3.2) 5) (br (cIx ([[1,2],[1,2],[1],[2,11],([]:List Int)]) (Qg (a3.2) 5)) (br (Qy a9 3) (br (cIx ([[1,2,3,4],[2,3,4],[3,4]]) (Qg a9 3)) (some (.t QD ((p1),(a13,((Qj .i64 a13 (Qg (Qb a6 2) a5)),((YF a4),((done (ZF a4) 2),((([]:List Identity)++a3.1),((lgt (.sl tI) ([[1,2],[1,2],[1],[2,11],([]:List Int)]) (Int.toNat (Qg (a3.2) 5))),((lgt (.sl tI) ([[1,2,3,4],[2,3,4],[3,4]]) (Int.toNat (Qg a9 3))),((done a6 2),()))))))))),[.box (.t Qs (Qb a9 3))])) none) none) none) none) none) none)) none) none) none) none) none) none
theorem Qek (d0:Dice)(p1:ByteArray):Jq Yd Xm U3 false [.ptr 50000 0,.t .str p1] [.box (.t Qs d0)]=U4 d0 p1:=by kernel_rfl
theorem ok_f45:Option.map (trC Tryz.prog) Tryz.f45.body=some Xm.er:=by kernel_rfl
theorem Qv4:Wt Tryz.prog Tryz.f45.results.toList=some (U3.map Prod.fst):=by kernel_rfl
theorem Qk1:JE Tryz.prog 45:= .inr ⟨by decide,_,Tryz.func45,by kernel_rfl,by kernel_rfl⟩
theorem Qel:GOk Tryz.prog Yd:=J8 _ (gA (gD XI (gD Uj (gD Vt (gD Ql3 (gD QoF (gD Qec (gD Qrj gN))))))))
theorem Qem (x1:ByteArray)(x6:Int)(y4:Endpoint)(y5_0:ByteArray)(y5_1 y5_2:Int)(y5_4 y5_8:Bool)(y15:List Int)(Qw:List Identity)(Qa:Dice)(h:(decide (0<=x6/\(Qw.length:Int)+x6<=10/\x1.size<=1000)&&dOk Qa)=true):Ye x1 x6 y4 y5_0 y5_1 y5_2 y5_4 y5_8 y15 Qw Qa=Z1 x1 x6 y4 y5_0 y5_1 y5_2 y5_4 y5_8 y15 Qw Qa:=by
 obtain ⟨h,hd⟩:=Bg.1 h
 obtain ⟨h0,h1,h2⟩:=BI h
 clear h
 obtain ⟨n,rfl⟩:=Bt h0
 have key: ∀ (n:Nat) (Qw:List Identity) (Qa:Dice),Qw.length+n<=10->dOk Qa=true->Ye x1 (n:Int) y4 y5_0 y5_1 y5_2 y5_4 y5_8 y15 Qw Qa=Z1 x1 (n:Int) y4 y5_0 y5_1 y5_2 y5_4 y5_8 y15 Qw Qa:=by
  intro n
  induction n with
  |zero=>
   intro Qw Qa _ _
   rw [EZ]
   simp only [XJ,Z1,show igt ((0:Nat):Int) 0=false from rfl,Qh,Bd,JJ,BR]
  |succ n ih=>
   intro Qw Qa hl hd
   rw [EZ]
   have e2:QT .i64 ((n+1:Nat):Int) 1=(n:Int):=(ZN (by omega)).trans (by omega)
   have k1:=Qbc hd
   have k2:=Qv (n:=3) k1
   have k3:=Q8 (l:=[5,7]) k2
   have k4: ∀ a,dOk (Zd (Qk (Qb (Q0 Qa) 3) [5,7]) a)=true:=fun a=>Vv k3
   have c1:Qy (Q0 Qa) 3=true:=Za k1 (by omega)
   have c2:QM (Qb (Q0 Qa) 3) [5,7]=true:=ZS k2 (by decide) (by decide)
   have c3: ∀ a,Wm (Qk (Qb (Q0 Qa) 3) [5,7]) a=true:=fun a=>k3
   have c4: ∀ a,Qy (Zd (Qk (Qb (Q0 Qa) 3) [5,7]) a) 20=true:=fun a=>Za (k4 a) (by omega)
   have c5: ∀ a,Jy (Qb (Zd (Qk (Qb (Q0 Qa) 3) [5,7]) a) 20) 9=true:=fun a=>Xw (Qv (k4 a)) (by omega) (by omega)
   have c6:Qy (Qb (Q0 Qa) 3) 20=true:=Za k2 (by omega)
   have c7:Jy (Qb (Qb (Q0 Qa) 3) 20) 9=true:=Xw (Qv k2) (by omega) (by omega)
   have c8: ∀ a k i,YS (Qb (Qb (Zd (Qk (Qb (Q0 Qa) 3) [5,7]) a) 20) 9) x1 k i=true:=fun a k i=>Bg.2 ⟨Qv (Qv (k4 a)),Be h2⟩
   have c9: ∀ k i,YS (Qb (Qb (Qb (Q0 Qa) 3) 20) 9) x1 k i=true:=fun k i=>Bg.2 ⟨Qv (Qv k2),Be h2⟩
   have ca: ∀ v,QC Qw [v] 48=true:=fun v=>JF (by omega) (by simp only [Bp];omega)
   have cb: ∀ d:Dice,Qj .i64 100 (Qg d 20)=100+Qg d 20:=fun d=>by
    have b:=Je (d:=d) (n:=20) (by omega)
    exact Jn (by omega)
   simp only [XJ,show igt ((n+1:Nat):Int) 0=true from Be (by omega),Qd,hd,e2,c1,c2,c3,c4,c5,c6,c7,c8,c9,ca,cb]
   have hi: ∀ v d,dOk d=true->Ye x1 (n:Int) y4 y5_0 y5_1 y5_2 y5_4 y5_8 y15 (Qw++[v]) d=Z1 x1 (n:Int) y4 y5_0 y5_1 y5_2 y5_4 y5_8 y15 (Qw++[v]) d:=fun v d hd=>ih _ _ (by simp only [Bm,Bp];omega) hd
   have hz:=hi (idV Qa x1) (iD6 Qa x1) (EX hd)
   have goal2:Z1 x1 (n:Int) y4 y5_0 y5_1 y5_2 y5_4 y5_8 y15 (Qw++[idV Qa x1]) (iD6 Qa x1)=Z1 x1 ((n+1:Nat):Int) y4 y5_0 y5_1 y5_2 y5_4 y5_8 y15 Qw Qa:=by
    simp only [Z1,Bd,JJ,BV,BO]
   refine Eq.trans ?_ (hz.trans goal2)
   simp only [idV,iD6,iCh,iId,Wo,iD3,iB,iD2,iA,iD4,iD5]
   cases igt (Qg (Q0 Qa) 3) 0 with
   |true=>
    simp only [Qd,Dn]
    cases done (Qb (Zd (Qk (Qb (Q0 Qa) 3) [5,7]) (dof (Qb (Q0 Qa) 3) [5,7])) 20) 9<;>rfl
   |false=>
    simp only [Qh,Dj]
    cases done (Qb (Qb (Q0 Qa) 3) 20) 9<;>rfl
 exact key n _ _ (by omega) hd
theorem Qen:LO Yd Uo G1 0:=QI (s:=Wp) fun x y h _ q=>by simp only [QF,QG] at q;exact (Qem x.2.1 x.2.2.2.2.1 y.1 y.2.1.1 y.2.1.2.1 y.2.1.2.2.1 y.2.1.2.2.2.2.1 y.2.1.2.2.2.2.2.2.2.2.1 y.2.2.1 y.2.2.2.2.2.2.2.1 y.2.2.2.2.2.2.2.2.1 h).trans q
theorem Qeo:Xm.lok Yd:=by
 repeat (first|exact trivial|exact Qen|refine ⟨?_, ?_⟩)
theorem Qep (d:Dice)(nm:ByteArray)(h:Un d nm=true):U4 d nm=some (.t QD (epV d nm),[.box (.t Qs (epN d nm))]):=by
 unfold epV
 simp only [Un,Bc,Ba] at h
 obtain ⟨h,hn⟩:=h
 have m0:=J7 (d:=d) (l:=[1,1,2,3]) (by decide)
 simp only [BD,BQ,De] at m0
 have k1:=Q8 (l:=[1,1,2,3]) h
 have k2:=E6 k1
 have k3:=Qv (n:=2) k2
 have k4:=Qv (n:=2) k3
 have e0:QT .i64 5 (dof d [1,1,2,3])=5-eL0 d:=ZN (by omega)
 have b4:=Je (d:=eD4 d) (n:=5-eL0 d) (by show 0<5-dof d [1,1,2,3];omega)
 have e1:Qj .i64 (dof d [1,1,2,3]) (Qg (eD4 d) (5-eL0 d))=eL0 d+Qg (eD4 d) (5-eL0 d):=Jn (by show _/\_;have:eL0 d=dof d [1,1,2,3]:=rfl;omega)
 have k5:=Qv (n:=5-eL0 d) k4
 have k6:=Qv (n:=3) k5
 have k6':=Q8 (l:=[3,4,2]) k6
 have k7:dOk (eD7 d)=true:=by
  unfold eD7
  cases eB d
  ·exact k6
  ·exact k6'
 have k8:=Q8 (l:=[1,2,1,3,0]) k7
 have m7:=J7 (d:=eD7 d) (l:=[1,2,1,3,0]) (by decide)
 simp only [BD,BQ,De] at m7
 obtain ⟨k9,_⟩:=EY (dof (eD7 d) [1,2,1,3,0]).toNat nm (eD8 d) k8
 have k10:=Qv (n:=5) k9
 have c1:QM d [1,1,2,3]=true:=ZS h (by decide) (by decide)
 have c3:Jy (ZF (Qk d [1,1,2,3])) 2=true:=Xw k2 (by omega) (by omega)
 have c4:Jy (Qb (ZF (Qk d [1,1,2,3])) 2) 2=true:=Xw k3 (by omega) (by omega)
 have c5:Qy (eD4 d) (5-eL0 d)=true:=Za k4 (by show 5-dof d [1,1,2,3]<=_;omega)
 have c6:Qy (eD5 d) 3=true:=Za k5 (by omega)
 have c7:QM (eD6 d) [3,4,2]=true:=ZS k6 (by decide) (by decide)
 have c8:QM (eD7 d) [1,2,1,3,0]=true:=ZS k7 (by decide) (by decide)
 have k8':dOk (Qk (eD7 d) [1,2,1,3,0])=true:=k8
 have e5:JJ (dof (eD7 d) [1,2,1,3,0]).toNat nm (Qk (eD7 d) [1,2,1,3,0])=JY d nm:=rfl
 have c9:(decide ((0:Int)<=dof (eD7 d) [1,2,1,3,0]/\(([]:List Identity).length:Int)+dof (eD7 d) [1,2,1,3,0]<=10/\nm.size<=1000)&&true)=true:=by
  rw [Di]
  exact Be ⟨by omega,by simp only [Bw];omega,hn⟩
 have c10:Qy (JY d nm).2 5=true:=Za k9 (by omega)
 have b10:=Je (d:=(JY d nm).2) (n:=5) (by omega)
 have c11:cIx [[1,2],[1,2],[1],[2,11],([]:List Int)] (Qg (JY d nm).2 5)=true:=Be (by simp only [Bo,Bw];omega)
 have c12:Qy (Qb (JY d nm).2 5) 3=true:=Za k10 (by omega)
 have b12:=Je (d:=Qb (JY d nm).2 5) (n:=3) (by omega)
 have c13:cIx [[1,2,3,4],[2,3,4],([3,4]:List Int)] (Qg (Qb (JY d nm).2 5) 3)=true:=Be (by simp only [Bo,Bw];omega)
 simp only [U4,c1,k1,c3,c4,e0,c5,c6,e1,c7,Qd]
 cases hb:eB d with
 |true=>
  have e7:Qk (eD6 d) [3,4,2]=eD7 d:=by unfold eD7;rw [hb];rfl
  have e8:YB d=1:=by unfold YB;rw [hb];rfl
  have e9:YC d=dof (eD6 d) [3,4,2]:=by unfold YC;rw [hb];rfl
  refine Eq.trans (congrArg (fun b=>br b _ _) hb) ?_
  simp only [Qd,e7,c8,k8',e5,Qd,c10,c11,c12,c13]
  refine Eq.trans (congrArg (fun b=>br b _ _) c9) ?_
  rw [Qd,e8,e9]
  refine Eq.trans (congrArg (fun b=>br b _ _) c13) ?_
  rfl
 |false=>
  have e7:eD6 d=eD7 d:=by unfold eD7;rw [hb];rfl
  have e8:YB d=eL0 d:=by unfold YB;rw [hb];rfl
  have e9:YC d=eL0 d+Qg (eD4 d) (5-eL0 d):=by unfold YC;rw [hb];rfl
  refine Eq.trans (congrArg (fun b=>br b _ _) hb) ?_
  simp only [Qh,e7,c8,k8',e5,Qd,c10,c11,c12,c13]
  refine Eq.trans (congrArg (fun b=>br b _ _) c9) ?_
  rw [Qd,e8,e9]
  refine Eq.trans (congrArg (fun b=>br b _ _) c13) ?_
  rfl
def Vz:Ent:=Yg Qs (.pr .str .nil) (fun d x=>(Un d x.1)) (fun d x=>(.t QD (epV d x.1))) (fun d x=>(epN d x.1))
theorem Qk2:Qu Tryz.prog 45 (Qq Vz):=YZ (R:=Jq Yd Xm U3 false) (mG Tryz.func45 (by kernel_rfl) Tryz.ntmps45 (by kernel_rfl) Qel Qeo) rfl fun d x hok=>(Qek d x.1).trans (Qep d x.1 hok)
end
end Go.Proofs.YtmjnnemhoeolgaaGreat.K.PE
noncomputable section
namespace Go.Proofs.YtmjnnemhoeolgaaGreat.K
open Go.RowKit
noncomputable section
abbrev sIt:List ByteArray:=[(ByteArray.mk #[98,97,99,107,117,112]),(ByteArray.mk #[100,101,101,100])]
def nm1 (s:ByteArray):Bool:=decide (s.size<=1000)
def edZ:Nat->Int->Int->List Keep->Dice->List Keep×Dice
 |0,_,_,l,d=>(l,d)
 |m+1,i,k,l,d=>bif ine i k then (bif igt (Qg d 3) 0&&ilt (Qc l) 3 then edZ m i (k+1) (l++[(i,(k,()))]) (Qb d 3) else edZ m i (k+1) l (Qb d 3)) else edZ m i (k+1) l d
def itZ:Nat->Dice->List Item×Dice
 |0,d=>([],d)
 |n+1,d=>(I9 (WN d sIt) (Yn d sIt)::(itZ n (Gv (WN d sIt) (Yn d sIt))).1,(itZ n (Gv (WN d sIt) (Yn d sIt))).2)
theorem Qjm {d:Dice}(h:dOk d=true):dOk (WN d sIt)=true:=Qv (n:=2) h
-- loop 0: (x4 : (List ByteArray)) (x16 : (List ByteArray)) (x17 : Int) (x18 : Int) (y2 : Estate) (Qo : (List Endpoint)) (Qm : (List Keep)) (Qn : (List Item)) (Qa : Dice); out: ('exit', 0) (x4 : (List ByteArray)) (y2 : Estate) (Qo : (List Endpoint)) (Qm : (List Keep)) (Qn : (List Item)) (Qa : Dice)
-- loop 1: (x4 : (List ByteArray)) (x8 : Int) (x65 : Int) (x66 : Int) (x70 : Int) (x71 : Int) (y2 : Estate) (Qo : (List Endpoint)) (Qm : (List Keep)) (Qn : (List Item)) (Qa : Dice); out: ('exit', 4) (x4 : (List ByteArray)) (x65 : Int) (x66 : Int) (y2 : Estate) (Qo : (List Endpoint)) (Qm : (List Keep)) (Qn : (List Item)) (Qa : Dice)
-- loop 2: (x4 : (List ByteArray)) (x65 : Int) (x66 : Int) (y2 : Estate) (Qo : (List Endpoint)) (Qm : (List Keep)) (Qn : (List Item)) (Qa : Dice); out: ('exit', 2) (y2 : Estate) (Qo : (List Endpoint)) (Qm : (List Keep)) (Qn : (List Item)) (Qa : Dice)
-- loop 3: (x10 : Int) (y2 : Estate) (y3_1 : (List Keep)) (Qo : (List Endpoint)) (Qn : (List Item)) (Qa : Dice); out: ('exit', 6) (y2 : Estate) (y3_1 : (List Keep)) (Qo : (List Endpoint)) (Qn : (List Item)) (Qa : Dice)
end
end Go.Proofs.YtmjnnemhoeolgaaGreat.K
noncomputable section
namespace Go.Proofs.YtmjnnemhoeolgaaGreat.K.PE
open Go.RowKit
noncomputable section
abbrev XU:List ByteArray:=[(ByteArray.mk #[97,112,112]),(ByteArray.mk #[100,98]),(ByteArray.mk #[109,97,105,108]),(ByteArray.mk #[119,101,98])]
def mkZ:List ByteArray->Dice->List Endpoint×Dice
 | [],d=>([],d)
 |s::r,d=>(epV d s::(mkZ r (epN d s)).1,(mkZ r (epN d s)).2)
def edM:Nat->Int->Int->List Keep->Dice->List Keep×Dice
 |0,_,_,l,d=>(l,d)
 |m+1,i,k,l,d=>bif ine i k then (bif ieq (Qg d 3) 0 then edM m i (k+1) (l++[(i,(k,()))]) (Qb d 3) else edM m i (k+1) l (Qb d 3)) else edM m i (k+1) l d
def edN:Nat->Nat->Int->List Keep->Dice->List Keep×Dice
 |0,_,_,l,d=>(l,d)
 |m+1,n,i,l,d=>edN m n (i+1) (edM n i 0 l d).1 (edM n i 0 l d).2
def Q5 (d:Dice):List ByteArray:=lsl XU 0 (Qj .i64 2 (Qg d 3))
def ZA (d:Dice):List Keep×Dice:=edN (Q5 d).length (Q5 d).length 0 [] (mkZ (Q5 d) (Qb d 3)).2
def Uk (d:Dice):List Item×Dice:=itZ (Qg (ZA d).2 3).toNat (Qb (ZA d).2 3)
def mkX (d:Dice):Estate:=((mkZ (Q5 d) (Qb d 3)).1,((ZA d).1,((Uk d).1,())))
def Ux (d:Dice):Dice:=(Uk d).2
theorem QaC: ∀ (l:List ByteArray) (d:Dice),dOk d=true->dOk (mkZ l d).2=true
 | [],_,h=>h
 |s::r,d,h=>QaC r (epN d s) (Qe3 h)
theorem FE: ∀ (m:Nat) (i k:Int) (l:List Keep) (d:Dice),dOk d=true->dOk (edM m i k l d).2=true/\(edM m i k l d).1.length<=l.length+m
 |0,_,_,_,_,h=>⟨h,BB _⟩
 |m+1,i,k,l,d,h=>by
  unfold edM
  cases ine i k with
  |false=>
   have:=FE m i (k+1) l d h
   exact ⟨this.1,by have:=this.2;simp only [Dj];omega⟩
  |true=>
   cases ieq (Qg d 3) 0 with
   |false=>
    have:=FE m i (k+1) l (Qb d 3) (Qv h)
    exact ⟨this.1,by have:=this.2;simp only [Dn,Dj];omega⟩
   |true=>
    have:=FE m i (k+1) (l++[(i,(k,()))]) (Qb d 3) (Qv h)
    simp only [Bm,Bp] at this
    exact ⟨this.1,by have:=this.2;simp only [Dn];omega⟩
theorem QfF: ∀ (m n:Nat) (i:Int) (l:List Keep) (d:Dice),dOk d=true->dOk (edN m n i l d).2=true
 |0,_,_,_,_,h=>h
 |m+1,n,i,l,d,h=>QfF m n (i+1) _ _ (FE n i 0 l d h).1
theorem QfG (d:Dice):Q5 d=XU.take 2∨Q5 d=XU.take 3∨Q5 d=XU:=by
 have hv:=Je (d:=d) (n:=3) (by omega)
 have e:Qj .i64 2 (Qg d 3)=2+Qg d 3:=Jn (by omega)
 unfold Q5
 rw [e]
 rcases (show Qg d 3=0∨Qg d 3=1∨Qg d 3=2 by omega) with h|h|h<;>rw [h]
 ·exact .inl rfl
 ·exact .inr (.inl rfl)
 ·exact .inr (.inr rfl)
theorem QfH (d:Dice):2<=(Q5 d).length/\(Q5 d).length<=4/\(Q5 d).all nm1=true:=by
 rcases QfG d with h|h|h<;>rw [h]<;>exact ⟨by decide,by decide,by decide⟩
abbrev QaD:Sh:=⟨[(0,.ptr 50000 0),(2,.ptr 2 0),(3,.ptr 3 0),(4,.ty (.sl .str)),(5,.ty tI)],[(2,.box QJ),(3,.bag [.ms 20300,.ms 20301,.ms 20302]),(29,.no),(57,.no),(73,.no),(20300,.arr 61 QD),(20301,.arr 47 Qe),(20302,.arr 106 JD),(50000,.box Qs)]⟩
abbrev Qy7:Sh:=⟨[(0,.ptr 50000 0),(2,.ptr 2 0),(3,.ptr 3 0),(4,.ty (.sl .str))],[(2,.box QJ),(3,.bag [.ms 20300,.ms 20301,.ms 20302]),(29,.no),(57,.no),(73,.no),(20300,.arr 61 QD),(20301,.arr 47 Qe),(20302,.arr 106 JD),(50000,.box Qs)]⟩
abbrev QaE:Sh:=⟨[(0,.ptr 50000 0),(2,.ptr 2 0),(3,.ptr 3 0),(4,.ty (.sl .str)),(6,.ty tI),(7,.ty tI)],[(2,.box QJ),(3,.bag [.ms 20300,.ms 20301,.ms 20302]),(29,.no),(57,.no),(73,.no),(20300,.arr 61 QD),(20301,.arr 47 Qe),(20302,.arr 106 JD),(50000,.box Qs)]⟩
abbrev QaF:Sh:=⟨[(0,.ptr 50000 0),(2,.ptr 2 0),(3,.ptr 3 0),(4,.ty (.sl .str)),(6,.ty tI)],[(2,.box QJ),(3,.bag [.ms 20300,.ms 20301,.ms 20302]),(29,.no),(57,.no),(73,.no),(20300,.arr 61 QD),(20301,.arr 47 Qe),(20302,.arr 106 JD),(50000,.box Qs)]⟩
abbrev Qy8:Sh:=⟨[(0,.ptr 50000 0),(2,.ptr 2 0),(3,.ptr 3 0)],[(2,.box QJ),(3,.bag [.ms 20300,.ms 20301,.ms 20302]),(29,.no),(57,.no),(73,.no),(20300,.arr 61 QD),(20301,.arr 47 Qe),(20302,.arr 106 JD),(50000,.box Qs)]⟩
abbrev QaG:Sh:=⟨[(0,.ptr 50000 0),(2,.ptr 2 0),(3,.ptr 3 0),(8,.ty tI)],[(2,.box QJ),(3,.bag [.ms 20300,.ms 20301,.ms 20302]),(29,.no),(57,.no),(73,.no),(20300,.arr 61 QD),(20301,.arr 47 Qe),(20302,.arr 106 JD),(50000,.box Qs)]⟩
abbrev Qy9:Sh:=⟨[(2,.ptr 2 0),(3,.ptr 3 0)],[(2,.box QJ),(3,.bag [.ms 20300,.ms 20301,.ms 20302]),(29,.no),(57,.no),(73,.no),(20300,.arr 61 QD),(20301,.arr 47 Qe),(20302,.arr 106 JD),(50000,.box Qs)]⟩
def QfI:Fg:=QaD.f
def QfJ:Fg:=QaE.f
def QfK:Fg:=QaF.f
def QfL:Fg:=QaG.f
def Iq:TC:=aF Tryz.f25 [(122,.nf 3 2 106 20302),(122,.nf 3 1 47 20301),(122,.nf 3 0 61 20300),(122,pL 0 QfI),(1955,.fg ⟨[(0,none),(2,none),(3,none),(4,some (.sl .str))],[(2,some QJ),(3,some QJ),(29,none),(57,none),(73,none),(20300,none),(20301,none),(20302,none),(50000,some Qs)]⟩),(1956,pD [(0,[3,29,57,73,20300,20301,20302]),(1,[3,29,57,73,20300,20301,20302]),(2,[50000]),(3,[]),(4,[]),(5,[]),(6,[]),(7,[27,5027,10027,15027,50000]),(8,[]),(9,[2,3,29,57,73,5029,10029,15029,20300,20301,20302]),(10,[3,29,57,73,20300,20301,20302]),(11,[2,3,29,57,73,20300,20301,20302])] (.of [0,1,2,3,4,5,6,7,8,9,10,11])),(250,.nf 3 2 106 20302),(250,.nf 3 0 61 20300),(250,.nf 3 1 47 20301),(250,pL 2 QfK),(4003,.fg ⟨[(0,none),(2,none),(3,none)],[(2,some QJ),(3,some QJ),(29,none),(57,none),(73,none),(20300,none),(20301,none),(20302,none),(50000,some Qs)]⟩),(16018,.nf 3 2 106 20302),(16018,.nf 3 0 61 20300),(16018,.nf 3 1 47 20301),(16018,pL 1 QfJ),(256291,.fg ⟨[(0,none),(2,none),(3,none),(4,some (.sl .str)),(6,some tI)],[(2,some QJ),(3,some QJ),(29,none),(57,none),(73,none),(20300,none),(20301,none),(20302,none),(50000,some Qs)]⟩),(506,.nf 3 1 47 20301),(506,.nf 3 0 61 20300),(506,.nf 3 2 106 20302),(506,pL 3 QfL),(8099,.fg ⟨[(2,none),(3,none)],[(2,some QJ),(3,some QJ),(29,none),(57,none),(73,none),(20300,none),(20301,none),(20302,none),(50000,some Qs)]⟩),(8100,pD [(0,[3,29,57,73,20300,20301,20302]),(1,[3,29,57,73,20300,20301,20302]),(2,[50000]),(3,[50000]),(4,[]),(5,[70,5070,10070,15070,50000]),(6,[71,5071,10071,15071,50000]),(7,[]),(8,[2,3,29,57,73,5073,10073,15073,20300,20301,20302]),(9,[3,29,57,73,20300,20301,20302]),(10,[2,3,29,57,73,20300,20301,20302])] (.of [0,1,2,3,4,5,6,7,8,9,10]))]
def QnC:TC:=lb 0 Iq
def QnD:TC:=lb 1 Iq
def QnE:TC:=lb 2 Iq
def QnF:TC:=lb 3 Iq
def QnG (x4:List ByteArray)(x5:Int)(y2:Estate)(Qo:List Endpoint)(Qm:List Keep)(Qn:List Item)(Qa:Dice):VS:=QaD.st ((),(),(),x4,x5,()) (y2,((),(),(),()),(),(),(),Qo,Qm,Qn,Qa,())
def QfM (x4:List ByteArray)(y2:Estate)(Qo:List Endpoint)(Qm:List Keep)(Qn:List Item)(Qa:Dice):VS:=Qy7.st ((),(),(),x4,()) (y2,((),(),(),()),(),(),(),Qo,Qm,Qn,Qa,())
def QnH (x4:List ByteArray)(x6 x7:Int)(y2:Estate)(Qo:List Endpoint)(Qm:List Keep)(Qn:List Item)(Qa:Dice):VS:=QaE.st ((),(),(),x4,x6,x7,()) (y2,((),(),(),()),(),(),(),Qo,Qm,Qn,Qa,())
def Ir (x4:List ByteArray)(x6:Int)(y2:Estate)(Qo:List Endpoint)(Qm:List Keep)(Qn:List Item)(Qa:Dice):VS:=QaF.st ((),(),(),x4,x6,()) (y2,((),(),(),()),(),(),(),Qo,Qm,Qn,Qa,())
def QfN (y2:Estate)(Qo:List Endpoint)(Qm:List Keep)(Qn:List Item)(Qa:Dice):VS:=Qy8.st ((),(),(),()) (y2,((),(),(),()),(),(),(),Qo,Qm,Qn,Qa,())
def QnI (x8:Int)(y2:Estate)(Qo:List Endpoint)(Qm:List Keep)(Qn:List Item)(Qa:Dice):VS:=QaG.st ((),(),(),x8,()) (y2,((),(),(),()),(),(),(),Qo,Qm,Qn,Qa,())
def QfO (y2:Estate)(Qo:List Endpoint)(Qm:List Keep)(Qn:List Item)(Qa:Dice):VS:=Qy9.st ((),(),()) (y2,((),(),(),()),(),(),(),Qo,Qm,Qn,Qa,())
def Qza:VS->Option (Bool×List (Bool×Exit×VS)):=mkL QaD (fun x y=>(dOk y.2.2.2.2.2.2.2.2.1&&(decide (0<=x.2.2.2.2.1/\x.2.2.2.2.1<=x.2.2.2.1.length/\x.2.2.2.1.length<=4/\y.2.2.2.2.2.1.length<=x.2.2.2.2.1)&&x.2.2.2.1.all nm1))) (fun x y=>[(true,.exit 0,QfM (x.2.2.2.1) (y.1) (y.2.2.2.2.2.1++(mkZ (x.2.2.2.1.drop x.2.2.2.2.1.toNat) y.2.2.2.2.2.2.2.2.1).1) (y.2.2.2.2.2.2.1) (y.2.2.2.2.2.2.2.1) ((mkZ (x.2.2.2.1.drop x.2.2.2.2.1.toNat) y.2.2.2.2.2.2.2.2.1).2))])
def Qzb:VS->Option (Bool×List (Bool×Exit×VS)):=mkL QaE (fun x y=>(dOk y.2.2.2.2.2.2.2.2.1&&decide (0<=x.2.2.2.2.2.1/\x.2.2.2.2.2.1<=x.2.2.2.1.length/\x.2.2.2.1.length<=4/\0<=x.2.2.2.2.1/\x.2.2.2.2.1<=4/\y.2.2.2.2.2.2.1.length<=4*x.2.2.2.2.1+x.2.2.2.2.2.1))) (fun x y=>[(true,.exit 4,Ir (x.2.2.2.1) (x.2.2.2.2.1) (y.1) (y.2.2.2.2.2.1) ((edM (x.2.2.2.1.length-x.2.2.2.2.2.1).toNat x.2.2.2.2.1 x.2.2.2.2.2.1 y.2.2.2.2.2.2.1 y.2.2.2.2.2.2.2.2.1).1) (y.2.2.2.2.2.2.2.1) ((edM (x.2.2.2.1.length-x.2.2.2.2.2.1).toNat x.2.2.2.2.1 x.2.2.2.2.2.1 y.2.2.2.2.2.2.1 y.2.2.2.2.2.2.2.2.1).2))])
def Qzc:VS->Option (Bool×List (Bool×Exit×VS)):=mkL QaF (fun x y=>(dOk y.2.2.2.2.2.2.2.2.1&&decide (0<=x.2.2.2.2.1/\x.2.2.2.2.1<=x.2.2.2.1.length/\x.2.2.2.1.length<=4/\y.2.2.2.2.2.2.1.length<=4*x.2.2.2.2.1))) (fun x y=>[(true,.exit 2,QfN (y.1) (y.2.2.2.2.2.1) ((edN (x.2.2.2.1.length-x.2.2.2.2.1).toNat x.2.2.2.1.length x.2.2.2.2.1 y.2.2.2.2.2.2.1 y.2.2.2.2.2.2.2.2.1).1) (y.2.2.2.2.2.2.2.1) ((edN (x.2.2.2.1.length-x.2.2.2.2.1).toNat x.2.2.2.1.length x.2.2.2.2.1 y.2.2.2.2.2.2.1 y.2.2.2.2.2.2.2.2.1).2))])
def Qzd:VS->Option (Bool×List (Bool×Exit×VS)):=mkL QaG (fun x y=>(dOk y.2.2.2.2.2.2.2.2.1&&decide (0<=x.2.2.2.1/\x.2.2.2.1<=3/\y.2.2.2.2.2.2.2.1.length+x.2.2.2.1.toNat<=100))) (fun x y=>[(true,.exit 6,QfO (y.1) (y.2.2.2.2.2.1) (y.2.2.2.2.2.2.1) (y.2.2.2.2.2.2.2.1++(itZ x.2.2.2.1.toNat y.2.2.2.2.2.2.2.2.1).1) ((itZ x.2.2.2.1.toNat y.2.2.2.2.2.2.2.2.1).2))])
def WK:G:=gG 76 [(22,Xl),(40,Qrc),(41,QoE),(45,Vz)] (Ls [Qza,Qzb,Qzc,Qzd])
def QaH (x4:List ByteArray)(x5:Int)(y2:Estate)(Qo:List Endpoint)(Qm:List Keep)(Qn:List Item)(Qa:Dice):OX:=Qx (Qz WK QfI QnC) (QnG x4 x5 y2 Qo Qm Qn Qa)
def Is (kk:List ByteArray->Int->Estate->List Endpoint->List Keep->List Item->Dice->OX)(x4:List ByteArray)(x5:Int)(y2:Estate)(Qo:List Endpoint)(Qm:List Keep)(Qn:List Item)(Qa:Dice):OX:=
 let a3:=lgt .str x4 (Int.toNat x5)
 let a1:=epV Qa a3
 let a2:=((a1.2).1,(((a1.2).2).1,((((a1.2).2).2).1,(((((a1.2).2).2).2).1,((((((a1.2).2).2).2).2).1,(((((((a1.2).2).2).2).2).2).1,((((((((a1.2).2).2).2).2).2).2).1,(((((((((a1.2).2).2).2).2).2).2).2).1,()))))))))
 br (ilt x5 (Qc x4)) (br (cIx x4 x5) (br (Un Qa a3) (br (QC Qo ([(a1.1,a2)]) 144) (kk x4 (Qj .i64 x5 1) y2 (Qo++([(a1.1,a2)])) Qm Qn (epN Qa a3)) none) none) none) (some (.exit 0,QfM x4 y2 Qo Qm Qn Qa))
def QaI (x4:List ByteArray)(x5:Int)(y2:Estate)(Qo:List Endpoint)(Qm:List Keep)(Qn:List Item)(Qa:Dice):OX:=
 let a1:=mkZ (x4.drop x5.toNat) Qa
 some (.exit 0,QfM (x4) (y2) (Qo++a1.1) (Qm) (Qn) (a1.2))
theorem QnJ (x4:List ByteArray)(x5:Int)(y2:Estate)(Qo:List Endpoint)(Qm:List Keep)(Qn:List Item)(Qa:Dice):QaH x4 x5 y2 Qo Qm Qn Qa=Is QaH x4 x5 y2 Qo Qm Qn Qa:=lnT (x:=Is (fun x4 x5 y2 Qo Qm Qn Qa=>some (.normal,QnG x4 x5 y2 Qo Qm Qn Qa)) x4 x5 y2 Qo Qm Qn Qa) (by simp only [Is,nxA];rfl)
def QaJ (x4:List ByteArray)(x6 x7:Int)(y2:Estate)(Qo:List Endpoint)(Qm:List Keep)(Qn:List Item)(Qa:Dice):OX:=Qx (Qz WK QfJ QnD) (QnH x4 x6 x7 y2 Qo Qm Qn Qa)
def It (kk:List ByteArray->Int->Int->Estate->List Endpoint->List Keep->List Item->Dice->OX)(x4:List ByteArray)(x6 x7:Int)(y2:Estate)(Qo:List Endpoint)(Qm:List Keep)(Qn:List Item)(Qa:Dice):OX:=
 let a1:=Qj .i64 x7 1
 br (ilt x7 (Qc x4)) (br (ine x6 x7) (br (Qy Qa 3) (br (ieq (Qg Qa 3) 0) (br (QC Qm ([(x6,(x7,()))]) 16) (kk x4 x6 a1 y2 Qo (Qm++([(x6,(x7,()))])) Qn (Qb Qa 3)) none) (kk x4 x6 a1 y2 Qo Qm Qn (Qb Qa 3))) none) (kk x4 x6 a1 y2 Qo Qm Qn Qa)) (some (.exit 4,Ir x4 x6 y2 Qo Qm Qn Qa))
def QaK (x4:List ByteArray)(x6 x7:Int)(y2:Estate)(Qo:List Endpoint)(Qm:List Keep)(Qn:List Item)(Qa:Dice):OX:=
 let a1:=edM (x4.length-x7).toNat x6 x7 Qm Qa
 some (.exit 4,Ir (x4) (x6) (y2) (Qo) (a1.1) (Qn) (a1.2))
theorem QnK (x4:List ByteArray)(x6 x7:Int)(y2:Estate)(Qo:List Endpoint)(Qm:List Keep)(Qn:List Item)(Qa:Dice):QaJ x4 x6 x7 y2 Qo Qm Qn Qa=It QaJ x4 x6 x7 y2 Qo Qm Qn Qa:=lnT (x:=It (fun x4 x6 x7 y2 Qo Qm Qn Qa=>some (.normal,QnH x4 x6 x7 y2 Qo Qm Qn Qa)) x4 x6 x7 y2 Qo Qm Qn Qa) (by simp only [It,nxA];rfl)
def QaL (x4:List ByteArray)(x6:Int)(y2:Estate)(Qo:List Endpoint)(Qm:List Keep)(Qn:List Item)(Qa:Dice):OX:=Qx (Qz WK QfK QnE) (Ir x4 x6 y2 Qo Qm Qn Qa)
def Iu (kk:List ByteArray->Int->Estate->List Endpoint->List Keep->List Item->Dice->OX)(x4:List ByteArray)(x6:Int)(y2:Estate)(Qo:List Endpoint)(Qm:List Keep)(Qn:List Item)(Qa:Dice):OX:=
 let a1:=(edM (x4.length-(0:Int)).toNat x6 (0:Int) Qm Qa)
 br (ilt x6 (Qc x4)) (br (dOk Qa&&decide (0<=(0:Int)/\(0:Int)<=x4.length/\x4.length<=4/\0<=x6/\x6<=4/\Qm.length<=4*x6+(0:Int))) (kk (x4) (Qj .i64 (x6) 1) (y2) (Qo) (a1.1) (Qn) (a1.2)) none) (some (.exit 2,QfN y2 Qo Qm Qn Qa))
def QaM (x4:List ByteArray)(x6:Int)(y2:Estate)(Qo:List Endpoint)(Qm:List Keep)(Qn:List Item)(Qa:Dice):OX:=
 let a1:=edN (x4.length-x6).toNat x4.length x6 Qm Qa
 some (.exit 2,QfN (y2) (Qo) (a1.1) (Qn) (a1.2))
theorem QnL (x4:List ByteArray)(x6:Int)(y2:Estate)(Qo:List Endpoint)(Qm:List Keep)(Qn:List Item)(Qa:Dice):QaL x4 x6 y2 Qo Qm Qn Qa=Iu QaL x4 x6 y2 Qo Qm Qn Qa:=lnT (x:=Iu (fun x4 x6 y2 Qo Qm Qn Qa=>some (.normal,Ir x4 x6 y2 Qo Qm Qn Qa)) x4 x6 y2 Qo Qm Qn Qa) (by simp only [Iu,nxA];rfl)
def QaN (x8:Int)(y2:Estate)(Qo:List Endpoint)(Qm:List Keep)(Qn:List Item)(Qa:Dice):OX:=Qx (Qz WK QfL QnF) (QnI x8 y2 Qo Qm Qn Qa)
def Iv (kk:Int->Estate->List Endpoint->List Keep->List Item->Dice->OX)(x8:Int)(y2:Estate)(Qo:List Endpoint)(Qm:List Keep)(Qn:List Item)(Qa:Dice):OX:=
 let a2:=(ByteArray.mk #[98,97,99,107,117,112])
 let a3:=(ByteArray.mk #[100,101,101,100])
 let a5:=(WN Qa ([a2,a3]))
 let a6:=(Yn Qa ([a2,a3]))
 let a1:=I9 a5 a6
 let a4:=((a1.2).1,(((a1.2).2).1,((((a1.2).2).2).1,(((((a1.2).2).2).2).1,()))))
 br (igt x8 0) (br (FY Qa ([a2,a3])) (br (QbZ a5 a6) (br (QC Qn ([(a1.1,a4)]) 64) (kk (QT .i64 x8 1) y2 Qo Qm (Qn++([(a1.1,a4)])) (Gv a5 a6)) none) none) none) (some (.exit 6,QfO y2 Qo Qm Qn Qa))
def QaO (x8:Int)(y2:Estate)(Qo:List Endpoint)(Qm:List Keep)(Qn:List Item)(Qa:Dice):OX:=some (.exit 6,QfO (y2) (Qo) (Qm) (Qn++(itZ x8.toNat Qa).1) ((itZ x8.toNat Qa).2))
theorem QnM (x8:Int)(y2:Estate)(Qo:List Endpoint)(Qm:List Keep)(Qn:List Item)(Qa:Dice):QaN x8 y2 Qo Qm Qn Qa=Iv QaN x8 y2 Qo Qm Qn Qa:=lnT (x:=Iv (fun x8 y2 Qo Qm Qn Qa=>some (.normal,QnI x8 y2 Qo Qm Qn Qa)) x8 y2 Qo Qm Qn Qa) (by simp only [Iv,nxA];rfl)
def r_f25 (d0:Dice):OV:=
 let a7:=(ByteArray.mk #[97,112,112])
 let a9:=(ByteArray.mk #[100,98])
 let a5:=(ByteArray.mk #[109,97,105,108])
 let a8:=(ByteArray.mk #[119,101,98])
 let a1:=(lsl ([a7,a9,a5,a8]) 0 (Qj .i64 2 (Qg d0 3)))
 let a4:=(mkZ (a1.drop (0:Int).toNat) (Qb d0 3))
 let a2:=(edN (a1.length-(0:Int)).toNat a1.length (0:Int) ([]:List Keep) (a4.2))
 let a3:=Qg (a2.2) 3
 let a6:=itZ a3.toNat (Qb (a2.2) 3)
 br (Qy d0 3) (br (cSl ([a7,a9,a5,a8]) 0 (Qj .i64 2 (Qg d0 3)) ((List.length ([a7,a9,a5,a8]):Nat):Int)) (br (dOk (Qb d0 3)&&(decide (0<=(0:Int)/\(0:Int)<=a1.length/\a1.length<=4/\([]:List Endpoint).length<=(0:Int))&&a1.all nm1)) (br (dOk (a4.2)&&decide (0<=(0:Int)/\(0:Int)<=a1.length/\a1.length<=4/\([]:List Keep).length<=4*(0:Int))) (br (Qy (a2.2) 3) (br (dOk (Qb (a2.2) 3)&&decide (0<=a3/\a3<=3/\([]:List Item).length+a3.toNat<=100)) (some (.t QJ ((([]:List Endpoint)++a4.1),((a2.1),((([]:List Item)++a6.1),()))),[.box (.t Qs (a6.2))])) none) none) none) none) none) none
theorem Qze (x4:List ByteArray)(x5:Int)(y2:Estate)(Qo:List Endpoint)(Qm:List Keep)(Qn:List Item)(Qa:Dice)(h:(dOk Qa&&(decide (0<=x5/\x5<=x4.length/\x4.length<=4/\Qo.length<=x5)&&x4.all nm1))=true):QaH x4 x5 y2 Qo Qm Qn Qa=QaI x4 x5 y2 Qo Qm Qn Qa:=by
 simp only [Bc,Ba] at h
 obtain ⟨hd,⟨h0,h1,h2,hl⟩,ha⟩:=h
 obtain ⟨k,rfl⟩:=Bt h0
 clear h0
 revert Qo Qa
 refine Q7 x4 (fun k=> ∀ (Qo:List Endpoint) (Qa:Dice),dOk Qa=true->(Qo.length:Int)<=(k:Int)->QaH x4 (k:Int) y2 Qo Qm Qn Qa=QaI x4 (k:Int) y2 Qo Qm Qn Qa) ?_ ?_ k (by omega)
 ·intro Qo Qa _ _
  rw [QnJ]
  simp only [Is,QaI,Qc,QH,Dg,Dp,Qh,Bd,Dd,mkZ,BR]
 ·intro k hk ih Qo Qa hd hl
  rw [QnJ]
  have c1:Un Qa x4[k]=true:=Bg.2 ⟨hd,Bi.1 ha _ (BE hk)⟩
  simp only [Is,Qc,QH,QS,hk,BK,Qd,Bd,Q3 (show k<4611686018427387904 by omega),Q2 (y:= .str) hk,c1]
  refine brY (JF (by omega) (by simp only [Bp];omega)) ?_
  refine Eq.trans (ih (Qo++[epV Qa x4[k]]) (epN Qa x4[k]) (Qe3 hd) (by simp only [Bm,Bp];omega)) ?_
  simp only [QaI,Bd,Bl hk,mkZ,BV,BO]
theorem Qzf (x4:List ByteArray)(x6 x7:Int)(y2:Estate)(Qo:List Endpoint)(Qm:List Keep)(Qn:List Item)(Qa:Dice)(h:(dOk Qa&&decide (0<=x7/\x7<=x4.length/\x4.length<=4/\0<=x6/\x6<=4/\Qm.length<=4*x6+x7))=true):QaJ x4 x6 x7 y2 Qo Qm Qn Qa=QaK x4 x6 x7 y2 Qo Qm Qn Qa:=by
 simp only [Bc,Ba] at h
 obtain ⟨hd,h0,h1,h2,h3,h4,hl⟩:=h
 have key: ∀ (m:Nat) (x7:Int) (Qm:List Keep) (Qa:Dice),x7+m=x4.length->0<=x7->dOk Qa=true->(Qm.length:Int)<=4*x6+x7->QaJ x4 x6 x7 y2 Qo Qm Qn Qa=QaK x4 x6 x7 y2 Qo Qm Qn Qa:=by
  intro m
  induction m with
  |zero=>
   intro x7 Qm Qa e _ _ _
   rw [QnK]
   have e1:x7=(x4.length:Int):=by omega
   subst e1
   simp only [It,QaK,Qc,QH,Dg,Dp,Qh,Int.sub_self,BA,edM]
  |succ m ih=>
   intro x7 Qm Qa e h0 hd hl
   rw [QnK]
   have c1:Qy Qa 3=true:=Za hd (by omega)
   have c2:QC Qm [(x6,(x7,()))] 16=true:=JF (by omega) (by simp only [Bp];omega)
   have e1:Qj .i64 x7 1=x7+1:=Jn (by omega)
   have e2:((x4.length:Int)-x7).toNat=m+1:=by omega
   have e3:((x4.length:Int)-(x7+1)).toNat=m:=by omega
   simp only [It,show ilt x7 (Qc x4)=true from Be (by simp only [Qc];omega),Qd,c1,c2,e1]
   rw [ih (x7+1) Qm Qa (by omega) (by omega) hd (by omega),ih (x7+1) Qm (Qb Qa 3) (by omega) (by omega) (Qv hd) (by omega),ih (x7+1) (Qm++[(x6,(x7,()))]) (Qb Qa 3) (by omega) (by omega) (Qv hd) (by simp only [Bm,Bp];omega)]
   simp only [QaK,e2,e3,edM]
   cases ine x6 x7<;>cases ieq (Qg Qa 3) 0<;>rfl
 exact key ((x4.length:Int)-x7).toNat x7 Qm Qa (by omega) h0 hd hl
theorem Qzg (x4:List ByteArray)(x6:Int)(y2:Estate)(Qo:List Endpoint)(Qm:List Keep)(Qn:List Item)(Qa:Dice)(h:(dOk Qa&&decide (0<=x6/\x6<=x4.length/\x4.length<=4/\Qm.length<=4*x6))=true):QaL x4 x6 y2 Qo Qm Qn Qa=QaM x4 x6 y2 Qo Qm Qn Qa:=by
 simp only [Bc,Ba] at h
 obtain ⟨hd,h0,h1,h2,hl⟩:=h
 have key: ∀ (m:Nat) (x6:Int) (Qm:List Keep) (Qa:Dice),x6+m=x4.length->0<=x6->dOk Qa=true->(Qm.length:Int)<=4*x6->QaL x4 x6 y2 Qo Qm Qn Qa=QaM x4 x6 y2 Qo Qm Qn Qa:=by
  intro m
  induction m with
  |zero=>
   intro x6 Qm Qa e _ _ _
   rw [QnL]
   have e1:x6=(x4.length:Int):=by omega
   subst e1
   simp only [Iu,QaM,Qc,QH,Dg,Dp,Qh,Int.sub_self,BA,edN]
  |succ m ih=>
   intro x6 Qm Qa e h0 hd hl
   rw [QnL]
   have e1:Qj .i64 x6 1=x6+1:=Jn (by omega)
   have e2:((x4.length:Int)-x6).toNat=m+1:=by omega
   have e3:((x4.length:Int)-(x6+1)).toNat=m:=by omega
   have e4:((x4.length:Int)-0).toNat=x4.length:=by omega
   have hz:=FE x4.length x6 0 Qm Qa hd
   simp only [Iu,show ilt x6 (Qc x4)=true from Be (by simp only [Qc];omega),Qd,e1,e4,hd,BH]
   refine brY (Be (by omega)) ?_
   rw [ih (x6+1) _ _ (by omega) (by omega) hz.1 (by omega)]
   simp only [QaM,e2,e3,edN]
 exact key ((x4.length:Int)-x6).toNat x6 Qm Qa (by omega) h0 hd hl
theorem Qzh (x8:Int)(y2:Estate)(Qo:List Endpoint)(Qm:List Keep)(Qn:List Item)(Qa:Dice)(h:(dOk Qa&&decide (0<=x8/\x8<=3/\Qn.length+x8.toNat<=100))=true):QaN x8 y2 Qo Qm Qn Qa=QaO x8 y2 Qo Qm Qn Qa:=by
 simp only [Bc,Ba] at h
 obtain ⟨hd,h0,h1,hl⟩:=h
 obtain ⟨n,rfl⟩:=Bt h0
 rw [Bd] at hl
 have key: ∀ (n:Nat) (Qn:List Item) (Qa:Dice),dOk Qa=true->Qn.length+n<=100->QaN (n:Int) y2 Qo Qm Qn Qa=QaO (n:Int) y2 Qo Qm Qn Qa:=by
  intro n
  induction n with
  |zero=>
   intro Qn Qa _ _
   rw [QnM]
   simp only [Iv,QaO,show igt ((0:Nat):Int) 0=false from rfl,Qh,Bd,itZ,BR]
  |succ n ih=>
   intro Qn Qa hd hl
   rw [QnM]
   have e2:QT .i64 ((n+1:Nat):Int) 1=(n:Int):=(ZN (by omega)).trans (by omega)
   have c1:FY Qa sIt=true:=by simp [FY,hd]
   have c2:QbZ (WN Qa sIt) (Yn Qa sIt)=true:=Qjm hd
   have c3: ∀ v,QC Qn [v] 64=true:=fun v=>JF (by omega) (by simp only [Bp];omega)
   simp only [Iv,show igt ((n+1:Nat):Int) 0=true from Be (by omega),Qd,e2,c1,c2,c3]
   refine Eq.trans (ih _ _ (Qq6 (s:=Yn Qa sIt) (Qjm hd)) (by simp only [Bm,Bp];omega)) ?_
   simp only [QaO,Bd,itZ,BV,BO]
 exact key n Qn Qa hd (by omega)
theorem Qzi:LO WK QfI QnC 0:=QI (s:=QaD) fun x y h _ q=>by simp only [QF,QG] at q;exact (Qze x.2.2.2.1 x.2.2.2.2.1 y.1 y.2.2.2.2.2.1 y.2.2.2.2.2.2.1 y.2.2.2.2.2.2.2.1 y.2.2.2.2.2.2.2.2.1 h).trans q
theorem Qzj:LO WK QfJ QnD 1:=QI (s:=QaE) fun x y h _ q=>by simp only [QF,QG] at q;exact (Qzf x.2.2.2.1 x.2.2.2.2.1 x.2.2.2.2.2.1 y.1 y.2.2.2.2.2.1 y.2.2.2.2.2.2.1 y.2.2.2.2.2.2.2.1 y.2.2.2.2.2.2.2.2.1 h).trans q
theorem Qzk:LO WK QfK QnE 2:=QI (s:=QaF) fun x y h _ q=>by simp only [QF,QG] at q;exact (Qzg x.2.2.2.1 x.2.2.2.2.1 y.1 y.2.2.2.2.2.1 y.2.2.2.2.2.2.1 y.2.2.2.2.2.2.2.1 y.2.2.2.2.2.2.2.2.1 h).trans q
theorem Qzl:LO WK QfL QnF 3:=QI (s:=QaG) fun x y h _ q=>by simp only [QF,QG] at q;exact (Qzh x.2.2.2.1 y.1 y.2.2.2.2.2.1 y.2.2.2.2.2.2.1 y.2.2.2.2.2.2.2.1 y.2.2.2.2.2.2.2.2.1 h).trans q
set_option maxRecDepth 100000 in
theorem s_f25 (d:Dice)(h:dOk d=true):r_f25 d=some (.t QJ (mkX d),[.box (.t Qs (Ux d))]):=by
 have hv:=Je (d:=d) (n:=3) (by omega)
 have e:Qj .i64 2 (Qg d 3)=2+Qg d 3:=Jn (by omega)
 have c1:Qy d 3=true:=Za h (by omega)
 have hn:=QfH d
 have hd:=Qv (n:=3) h
 have hz:=QaC (Q5 d) (Qb d 3) hd
 have hy1:dOk (ZA d).2=true:=QfF (Q5 d).length (Q5 d).length 0 [] _ hz
 have hv3:=Je (d:=(ZA d).2) (n:=3) (by omega)
 have e4:(((Q5 d).length:Int)-0).toNat=(Q5 d).length:=by omega
 simp only [r_f25,show lsl XU 0 (Qj .i64 2 (Qg d 3))=Q5 d from rfl,BY,BA,BG,e4]
 simp only [show edN (Q5 d).length (Q5 d).length 0 [] (mkZ (Q5 d) (Qb d 3)).2=ZA d from rfl]
 refine brY c1 (brY (Be (by rw [e];refine ⟨by omega,by omega, ?_, ?_⟩<;>simp<;>omega)) (brY ?_ (brY ?_ (brY (Za hy1 (by omega)) (brY ?_ rfl)))))
 ·rw [hd,hn.2.2,Di,BH]
  exact Be (by simp only [Bw];omega)
 ·rw [hz,BH]
  exact Be (by simp only [Bw];omega)
 ·rw [Qv hy1,BH]
  exact Be (by simp only [Bw];omega)
def QnN:Ent:=Yg Qs .nil (fun d x=>(dOk d)) (fun d x=>(.t QJ (mkX d))) (fun d x=>(Ux d))
theorem ms_f25:EM 25 QnN:=mS (lk:=lkL (lkc Qzi (lkc Qzk (lkc Qzj (lkc Qzl lkn))))) WK Iq [((.c 2 true 3),some QJ)] false (gB (gD XI (gD ms_f40 (gD ms_f41 (gC Qk1 Qk2 gN))))) fun m=>YZ m rfl fun d x hok=>kT (s_f25 d hok)
end
end Go.Proofs.YtmjnnemhoeolgaaGreat.K.PE
noncomputable section
namespace Go.Proofs.YtmjnnemhoeolgaaGreat.K
open Go.RowKit
def QdK (a b:Keep):Prop:=a.1<b.1∨(a.1=b.1/\a.2.1<b.2.1)
def edG (n:Int)(l:List Keep)(i k:Int):Prop:=(∀ x∈l,GQ n x=true)/\l.Pairwise QdK∧ ∀ x∈l,QdK x (i,(k,()))
theorem EG {n:Int}{l:List Keep}{i k i' k':Int}(h:edG n l i k)(hl:i<i'∨(i=i'/\k<=k')):edG n l i' k':=by
 refine ⟨h.1,h.2.1,fun x hx=> ?_⟩
 have:=h.2.2 x hx
 simp only [QdK] at this ⊢
 omega
theorem QjU {n:Int}: ∀ (m:Nat) (i k:Int) (l:List Keep) (d:Dice),0<=i->i<n->0<=k->k+m<=n->edG n l i k->edG n (edZ m i k l d).1 i (k+m)
 |0,i,k,l,d,_,_,_,_,h=>EG h (.inr ⟨rfl,by omega⟩)
 |m+1,i,k,l,d,h0,h1,h2,h3,h=>by
  have hs:edG n l i (k+1):=EG h (.inr ⟨rfl,by omega⟩)
  have e:k+((m+1:Nat):Int)=k+1+m:=by omega
  unfold edZ
  rw [e]
  cases hn:ine i k with
  |false=>exact QjU m i (k+1) l d h0 h1 (by omega) (by omega) hs
  |true=>
   cases h4:(igt (Qg d 3) 0&&ilt (Qc l) 3) with
   |false=>exact QjU m i (k+1) l (Qb d 3) h0 h1 (by omega) (by omega) hs
   |true=>
    have hne:i≠k:=by simpa [ine] using hn
    refine QjU m i (k+1) (l++[(i,(k,()))]) (Qb d 3) h0 h1 (by omega) (by omega) ⟨fun x hx=> ?_, ?_,fun x hx=> ?_⟩
    ·rcases Bu.1 hx with hx|hx
     ·exact h.1 x hx
     ·rw [B3.1 hx]
      simp only [GQ,ilt,ige,Ui,Bc,Br,Bq]
      exact ⟨by omega,by omega,by omega,by omega,hne⟩
    ·rw [List.pairwise_append]
     refine ⟨h.2.1,List.pairwise_singleton _ _,fun x hx y hy=> ?_⟩
     rw [B3.1 hy]
     exact h.2.2 x hx
    ·rcases Bu.1 hx with hx|hx
     ·exact hs.2.2 x hx
     ·rw [B3.1 hx]
      exact .inr ⟨rfl,by show k<k+1;omega⟩
theorem QGM {n i k:Int}{l:List Keep}(h:edG n l i k):ZD n l 0=true:=by
 unfold ZD
 rw [Bi]
 intro j hj
 have hj:j<l.length:=by
  rw [List.mem_range'] at hj
  obtain ⟨a,ha,rfl⟩:=hj
  omega
 have at_: ∀ q (hq:q<l.length),Z0 l q=l[q]:=fun q hq=>by simp only [Z0,Bk,Bh hq,BS]
 unfold O5
 rw [at_ j hj,h.1 _ (BE hj),BH]
 by_cases h0:j=0
 ·rw [Be h0,Bool.true_or]
 ·rw [Bn h0,Dm,at_ (j-1) (by omega)]
  have hp:=List.pairwise_iff_getElem.1 h.2.1 (j-1) j (by omega) hj (by omega)
  simp only [QdK] at hp
  simp only [egLt,igt,ige,Ui,Bc,Br,Bq,Bool.and_eq_false_imp,Ba]
  refine ⟨by omega,fun he=>by omega⟩
theorem QGN {d:Dice}:Q6 (Yn d sIt)=true:=by
 have hv:=Je (d:=d) (n:=2) (by omega)
 unfold Yn
 show Q6 (sIt.getD (Qg d 2).toNat ByteArray.empty)=true
 rcases (show Qg d 2=0∨Qg d 2=1 by omega) with h|h<;>rw [h]<;>kernel_rfl
theorem QGO {d:Dice}:Jk (Yn d sIt)=true:=by
 have hv:=Je (d:=d) (n:=2) (by omega)
 unfold Yn
 show Jk (sIt.getD (Qg d 2).toNat ByteArray.empty)=true
 rcases (show Qg d 2=0∨Qg d 2=1 by omega) with h|h<;>rw [h]<;>kernel_rfl
theorem Qu7: ∀ (n:Nat) (d:Dice),(itZ n d).1.all Yk=true/\(itZ n d).1.all WB=true/\(itZ n d).1.length=n
 |0,_=>⟨rfl,rfl,rfl⟩
 |n+1,d=>by
  have:=Qu7 n (Gv (WN d sIt) (Yn d sIt))
  simp only [itZ,BZ,Bo,this,Di,and_true]
  exact ⟨QCC _ QGN,QGO⟩
end Go.Proofs.YtmjnnemhoeolgaaGreat.K
noncomputable section
namespace Go.Proofs.YtmjnnemhoeolgaaGreat.K
open Go.RowKit
noncomputable section
open Classical in
theorem Qw2 {a b:Int}(ha:0<=a)(hb:0<b):0<=ZP a b/\ZP a b<b:=⟨Int.tmod_nonneg b ha,Int.tmod_lt_of_pos a hb⟩
theorem icv_in {a:Int}(h: -9223372036854775808<=a/\a<=9223372036854775807):icv .i64 a=a:=Go.IntWalk.i64_in _ h
end
end Go.Proofs.YtmjnnemhoeolgaaGreat.K
noncomputable section
namespace Go.Proofs.YtmjnnemhoeolgaaGreat.K
open Go.RowKit
noncomputable section
-- loop 0: (x12 : (List Certificate)) (x13 : Int) (x14 : Int) (y2 : Identity) (y3_0 : Int) (y3_1 : Int) (y3_2 : Int) (QGQ : (List Certificate)); out: ('exit', 0) (y2 : Identity) (y3_0 : Int) (y3_1 : Int) (y3_2 : Int) (QGQ : (List Certificate))
-- loop 0: (x21 : (List Identity)) (x22 : Int) (x23 : Int) (y2 : Endpoint) (y3_0 : ByteArray) (y3_1 : Int) (y3_2 : Int) (y3_4 : Bool) (y3_8 : Bool) (y9 : (List Int)) (y12 : (List Int)) (y15 : (List Int)) (QGP : (List Identity)); out: ('exit', 0) (y2 : Endpoint) (y3_0 : ByteArray) (y3_1 : Int) (y3_2 : Int) (y3_4 : Bool) (y3_8 : Bool) (y9 : (List Int)) (y12 : (List Int)) (y15 : (List Int)) (QGP : (List Identity))
-- loop 0: (x13 : (List Endpoint)) (x14 : Int) (x15 : Int) (y1 : Estate) (y2 : Estate) (y10 : (List Keep)) (Qo : (List Endpoint)) (Qn : (List Item)); out: ('exit', 0) (y1 : Estate) (y2 : Estate) (y10 : (List Keep)) (Qo : (List Endpoint)) (Qn : (List Item))
-- loop 1: (x28 : (List Item)) (x29 : Int) (x30 : Int) (y2 : Estate) (y10 : (List Keep)) (Qo : (List Endpoint)) (Qn : (List Item)); out: ('exit', 2) (y2 : Estate) (y10 : (List Keep)) (Qo : (List Endpoint)) (Qn : (List Item))
end
end Go.Proofs.YtmjnnemhoeolgaaGreat.K
noncomputable section
namespace Go.Proofs.YtmjnnemhoeolgaaGreat.K
open Go.RowKit
noncomputable section
def noAn (e:Endpoint):Endpoint:=(e.1,(e.2.1,(e.2.2.1,(e.2.2.2.1,(e.2.2.2.2.1,(e.2.2.2.2.2.1,(([]:List Int),e.2.2.2.2.2.2.2)))))))
def an (b:Bool)(e:Endpoint):Endpoint:=bif b then noAn e else e
end
end Go.Proofs.YtmjnnemhoeolgaaGreat.K
noncomputable section
namespace Go.Proofs.YtmjnnemhoeolgaaGreat.K.PE
open Go.RowKit
noncomputable section
theorem Qvu:(XU.all fun s=>ZT s&&(XK s&&nm1 s))=true:=by kernel_rfl
theorem Qkl {s:ByteArray}(h:s∈XU):ZT s=true/\XK s=true/\s.size<=1000:=by
 have:=Bi.1 Qvu s h
 simp only [Bc] at this
 exact ⟨this.1,this.2.1,BI this.2.2⟩
def mkP (e:Endpoint):Prop:= ∃ d s,e=epV d s/\s∈XU/\dOk d=true
attribute [local irreducible] epV epN
theorem Qvv {e:Endpoint}(h:mkP e):QW e=true:=by
 obtain ⟨d,s,rfl,hs,hd⟩:=h
 obtain ⟨h1,h2,h3⟩:=Qkl hs
 exact QAn h1 h2 h3 hd
theorem mk_len {e:Endpoint}(h:mkP e):Jo e=true:=by
 obtain ⟨d,s,rfl,hs,hd⟩:=h
 obtain ⟨_,_,h3⟩:=Qkl hs
 have hi:=QoP (d:=d) (nm:=s) h3 hd
 exact Qz2 (by rw [QoQ];exact h3) (B0 (Qxo (nm:=s) hd) (show 10<=1000 by decide)) (B0 hi.2 (show 3<=1000 by decide)) (B0 (an_len d s) (show 4<=1000 by decide)) (B0 (hs_len d s) (show 4<=1000 by decide)) hi.1
theorem Qkm: ∀ (l:List ByteArray) (d:Dice),(mkZ l d).1.length=l.length
 | [],_=>rfl
 |_::r,d=>by simp only [mkZ,Bo,Qkm r (epN d _)]
theorem Qkn: ∀ (l:List ByteArray) (d:Dice),(∀ s∈l,s∈XU)->dOk d=true→ ∀ e∈(mkZ l d).1,mkP e
 | [],_,_,_,e,he=>by cases he
 |s::r,d,h,hd,e,he=>by
  simp only [mkZ,BD] at he
  rcases he with rfl|he
  ·exact ⟨d,s,rfl,h s BT,hd⟩
  ·exact Qkn r (epN d s) (fun s hs=>h s (BF _ hs)) (Qe3 hd) e he
theorem Qvw (d:Dice): ∀ s∈Q5 d,s∈XU:=by
 rcases QfG d with h|h|h<;>rw [h]
 ·exact fun s hs=>DM hs
 ·exact fun s hs=>DM hs
 ·exact fun s hs=>hs
theorem Qko {d:Dice}(h:dOk d=true): ∀ e∈JL (mkX d),mkP e:=Qkn (Q5 d) (Qb d 3) (Qvw d) (Qv h)
theorem Qkp (d:Dice):(JL (mkX d)).length=(Q5 d).length:=Qkm _ _
theorem mk_up {d:Dice}(h:dOk d=true):QdD (JL (mkX d)) 0=true:=by
 have q1:slt (ByteArray.mk #[97,112,112]) (ByteArray.mk #[100,98])=true:=by kernel_rfl
 have q2:slt (ByteArray.mk #[100,98]) (ByteArray.mk #[109,97,105,108])=true:=by kernel_rfl
 have q3:slt (ByteArray.mk #[109,97,105,108]) (ByteArray.mk #[119,101,98])=true:=by kernel_rfl
 have hall:=Qko h
 have hd:=Qv (n:=3) h
 have hv: ∀ e∈(mkZ (Q5 d) (Qb d 3)).1,QW e=true:=fun e he=>Qvv (hall e he)
 have hn: ∀ d s,(epV d s).1=s:=fun d s=>QoQ d s
 show XF (mkZ (Q5 d) (Qb d 3)).1 (mkZ (Q5 d) (Qb d 3)).1 0=true
 rcases QfG d with hc|hc|hc<;>rw [hc] at hv ⊢
 ·show (QW (epV _ _)&&true&&(QW (epV _ _)&&(false||slt (epV _ (ByteArray.mk #[97,112,112])).1 (epV _ (ByteArray.mk #[100,98])).1)&&true))=true
  rw [hn,hn,q1,hv _ BT,hv _ (BF _ BT)]
  rfl
 ·show (QW (epV _ _)&&true&&(QW (epV _ _)&&(false||slt (epV _ (ByteArray.mk #[97,112,112])).1 (epV _ (ByteArray.mk #[100,98])).1)&&(QW (epV _ _)&&(false||slt (epV _ (ByteArray.mk #[100,98])).1 (epV _ (ByteArray.mk #[109,97,105,108])).1)&&true)))=true
  rw [hn,hn,hn,q1,q2,hv _ BT,hv _ (BF _ BT),hv _ (BF _ (BF _ BT))]
  rfl
 ·show (QW (epV _ _)&&true&&(QW (epV _ _)&&(false||slt (epV _ (ByteArray.mk #[97,112,112])).1 (epV _ (ByteArray.mk #[100,98])).1)&&(QW (epV _ _)&&(false||slt (epV _ (ByteArray.mk #[100,98])).1 (epV _ (ByteArray.mk #[109,97,105,108])).1)&&(QW (epV _ _)&&(false||slt (epV _ (ByteArray.mk #[109,97,105,108])).1 (epV _ (ByteArray.mk #[119,101,98])).1)&&true))))=true
  rw [hn,hn,hn,hn,q1,q2,q3,hv _ BT,hv _ (BF _ BT),hv _ (BF _ (BF _ BT)),hv _ (BF _ (BF _ (BF _ BT)))]
  rfl
theorem Vk {n:Int}: ∀ (m:Nat) (i k:Int) (l:List Keep) (d:Dice),0<=i->i<n->0<=k->k+m<=n->edG n l i k->edG n (edM m i k l d).1 i (k+m)
 |0,i,k,l,d,_,_,_,_,h=>EG h (.inr ⟨rfl,by omega⟩)
 |m+1,i,k,l,d,h0,h1,h2,h3,h=>by
  have hs:edG n l i (k+1):=EG h (.inr ⟨rfl,by omega⟩)
  have e:k+((m+1:Nat):Int)=k+1+m:=by omega
  unfold edM
  rw [e]
  cases hn:ine i k with
  |false=>exact Vk m i (k+1) l d h0 h1 (by omega) (by omega) hs
  |true=>
   cases h4:ieq (Qg d 3) 0 with
   |false=>exact Vk m i (k+1) l (Qb d 3) h0 h1 (by omega) (by omega) hs
   |true=>
    have hne:i≠k:=by simpa [ine] using hn
    refine Vk m i (k+1) (l++[(i,(k,()))]) (Qb d 3) h0 h1 (by omega) (by omega) ⟨fun x hx=> ?_, ?_,fun x hx=> ?_⟩
    ·rcases Bu.1 hx with hx|hx
     ·exact h.1 x hx
     ·rw [B3.1 hx]
      simp only [GQ,ilt,ige,Ui,Bc,Br,Bq]
      exact ⟨by omega,by omega,by omega,by omega,hne⟩
    ·rw [List.pairwise_append]
     refine ⟨h.2.1,List.pairwise_singleton _ _,fun x hx y hy=> ?_⟩
     rw [B3.1 hy]
     exact h.2.2 x hx
    ·rcases Bu.1 hx with hx|hx
     ·exact hs.2.2 x hx
     ·rw [B3.1 hx]
      exact .inr ⟨rfl,by show k<k+1;omega⟩
theorem Qkq {n:Int}: ∀ (m nn:Nat) (i:Int) (l:List Keep) (d:Dice),(nn:Int)<=n->0<=i->i+m<=n->edG n l i 0->edG n (edN m nn i l d).1 (i+m) 0
 |0,nn,i,l,d,_,_,_,h=>EG h (by omega)
 |m+1,nn,i,l,d,hnn,h0,h1,h=>by
  have:=Vk nn i 0 l d h0 (by omega) (by omega) (by omega) h
  have e:i+((m+1:Nat):Int)=i+1+m:=by omega
  unfold edN
  rw [e]
  exact Qkq m nn (i+1) _ _ hnn (by omega) (by omega) (EG this (.inl (by omega)))
theorem Qkr: ∀ (m n:Nat) (i:Int) (l:List Keep) (d:Dice),dOk d=true->(edN m n i l d).1.length<=l.length+n*m
 |0,_,_,_,_,_=>by simp [edN]
 |m+1,n,i,l,d,h=>by
  have h1:=FE n i 0 l d h
  have h2:=Qkr m n (i+1) (edM n i 0 l d).1 (edM n i 0 l d).2 h1.1
  have h3:=h1.2
  rw [Nat.mul_add,Nat.mul_one]
  unfold edN
  omega
theorem Qvx {d:Dice}(h:dOk d=true):ZD (Qc (JL (mkX d))) (JQ (mkX d)) 0=true/\(JQ (mkX d)).length<=16:=by
 have hn:=QfH d
 have hl:Qc (JL (mkX d))=((Q5 d).length:Int):=by rw [Qc,Qkp]
 rw [hl]
 have hy:=Qkq (n:=((Q5 d).length:Int)) (Q5 d).length (Q5 d).length 0 [] (mkZ (Q5 d) (Qb d 3)).2 (Dq _) (Dq _) (by omega) (⟨fun x hx=>(nomatch hx),List.Pairwise.nil,fun x hx=>(nomatch hx)⟩:edG _ [] 0 0)
 refine ⟨QGM hy, ?_⟩
 have h2:=Qkr (Q5 d).length (Q5 d).length 0 [] (mkZ (Q5 d) (Qb d 3)).2 (QaC (Q5 d) _ (Qv h))
 have h3:(Q5 d).length*(Q5 d).length<=4*4:=Nat.mul_le_mul hn.2.1 hn.2.1
 show (ZA d).1.length<=16
 unfold ZA
 simp only [Bw] at h2
 omega
theorem mk_ok {d:Dice}(h:dOk d=true):Jw (mkX d)=true/\J3 (mkX d)=true:=by
 have hn:=QfH d
 have h1:=mk_up h
 obtain ⟨h2,h3⟩:=Qvx h
 have hv3:=Je (d:=(ZA d).2) (n:=3) (by omega)
 have hi:=Qu7 (Qg (ZA d).2 3).toNat (Qb (ZA d).2 3)
 have hl:(JL (mkX d)).length<=4:=by rw [Qkp];omega
 have hx:UU (mkX d)=(itZ (Qg (ZA d).2 3).toNat (Qb (ZA d).2 3)).1:=rfl
 constructor
 ·unfold Jw
  rw [h1,h2,hx,hi.1,show ile (Qc (JL (mkX d))) 16=true from Be (by simp only [Qc];omega),show ile (Qc (JQ (mkX d))) 40=true from Be (by simp only [Qc];omega),show ile (Qc (itZ (Qg (ZA d).2 3).toNat (Qb (ZA d).2 3)).1) 30=true from Be (by simp only [Qc];omega)]
  rfl
 ·unfold J3 Yb
  rw [hx,hi.2.1,Be (show (JL (mkX d)).length<=99999/\(JQ (mkX d)).length<=99999 by omega),Be (show (itZ (Qg (ZA d).2 3).toNat (Qb (ZA d).2 3)).1.length<=100000 by omega),BH,BH,Di]
  exact Bi.2 fun e he=>mk_len (Qko h e he)
open Classical in
end
end Go.Proofs.YtmjnnemhoeolgaaGreat.K.PE
namespace Go.Proofs.YtmjnnemhoeolgaaGreat.K
open Go.RowKit PE
end Go.Proofs.YtmjnnemhoeolgaaGreat.K
noncomputable section
namespace Go.Proofs.YtmjnnemhoeolgaaGreat.K
open Go.RowKit
noncomputable section
-- loop 0: (x92 : Int) (x93 : Int) (y2 : Certificate) (y3 : Certificate); out: ('ret',) (x4 : Bool); ('exit', 0)
-- loop 0: (x29 : Int) (x30 : Int) (y2 : Identity) (y3 : Identity); out: ('ret',) (x4 : Bool); ('exit', 0)
-- loop 0: (x1 : Int) (x7 : (List Int)) (x8 : Int) (x9 : Int); out: ('ret',) (x4 : Int); ('exit', 0)
end
end Go.Proofs.YtmjnnemhoeolgaaGreat.K
noncomputable section
namespace Go.Proofs.YtmjnnemhoeolgaaGreat.K
open Go.RowKit
noncomputable section
-- loop 0: (x0 : (List Int)) (x1 : Int) (x5 : Int); out: ('exit', 0) (x0 : (List Int)) (x1 : Int) (x5 : Int)
-- loop 0: (x1 : Int) (x6 : Int) (x7 : Int) (x11 : (List Identity)) (x12 : Int) (x13 : Int); out: ('exit', 0) (x6 : Int) (x7 : Int)
end
end Go.Proofs.YtmjnnemhoeolgaaGreat.K
noncomputable section
namespace Go.Proofs.YtmjnnemhoeolgaaGreat.K
open Go.RowKit
noncomputable section
end
end Go.Proofs.YtmjnnemhoeolgaaGreat.K
noncomputable section
namespace Go.Proofs.YtmjnnemhoeolgaaGreat.K
open Go.RowKit
noncomputable section
end
end Go.Proofs.YtmjnnemhoeolgaaGreat.K
noncomputable section
namespace Go.Proofs.YtmjnnemhoeolgaaGreat.K
open Go.RowKit
noncomputable section
end
end Go.Proofs.YtmjnnemhoeolgaaGreat.K
noncomputable section
namespace Go.Proofs.YtmjnnemhoeolgaaGreat.K
open Go.RowKit
noncomputable section
end
end Go.Proofs.YtmjnnemhoeolgaaGreat.K
noncomputable section
namespace Go.Proofs.YtmjnnemhoeolgaaGreat.K
open Go.RowKit
def UW (r:Rule)(u:Keep)(p:Int):Bool:=(r.Alg==0||r.Alg==u.1)&&(r.Purpose==0||r.Purpose==p)&&(r.Below==0||(decide (u.2.1 > 0)&&decide (u.2.1<r.Below)))
def Qki (r:Rule)(day:Int):Bool:=decide (r.From<=day)&&decide (day<r.To)
def EP (r:Rule)(u:Keep)(p day:Int):Bool:=UW r u p&&Qki r day
def Qvs:TC:=aF Tryz.f205 []
def g_f205:G:=gG 43 [] (fun _ _=>none)
def QdU (p0:Rule)(p1:Keep)(p2:Int):OV:=br (ieq p0.2.2.1 0) (some (.t .bool true,[])) (br (igt p1.2.1 0) (some (.t .bool (ilt p1.2.1 p0.2.2.1),[])) (some (.t .bool false,[])))
def QdV (p0:Rule)(p1:Keep)(p2:Int):OV:=br (ine p0.2.2.2.1 0) (br (ine p0.2.2.2.1 p2) (some (.t .bool false,[])) (QdU p0 p1 p2)) (QdU p0 p1 p2)
def Qkj (p0:Rule)(p1:Keep)(p2:Int):OV:=br (ine p0.2.1 0) (br (ine p0.2.1 p1.1) (some (.t .bool false,[])) (QdV p0 p1 p2)) (QdV p0 p1 p2)
theorem s_f205 (p0:Rule)(p1:Keep)(p2:Int):Qkj p0 p1 p2=some (.t .bool (UW p0 p1 p2),[]):=by
 simp only [Qkj,QdV,QdU]
 repeat' (refine Q4 ?_ ?_<;>intro _)
 all_goals (simp_all [UW,Estate.Endpoints,Estate.Edges,Estate.Items,Policy.Rules,Policy.Keeps,Dice.L,Dice.At,Keep.Client,Keep.Server,Endpoint.Name,Endpoint.Least,Endpoint.Most,Endpoint.Suites,Endpoint.OwnOrder,Endpoint.Identities,Endpoint.Anchors,Endpoint.Hashes,Endpoint.Fallback,Identity.Key,Identity.KeyId,Identity.Chain,Change.Endpoint,Change.Kind,Change.Number,Change.At,Change.Identity,Rule.Allow,Rule.Alg,Rule.Below,Rule.Purpose,Rule.From,Rule.To,Rules.p,Rules.l,Rules.o,Rules.day,Way.Outcome,Way.Most,Way.Suites,Item.Name,Item.Kind,Item.Purpose,Item.Links,Item.Until,Exception.Use,Exception.Purpose,Exception.Endpoint,Exception.Days,Exception.Seals,Method.outcome,Method.uses,Suite.Code,Suite.Name,Suite.Exchange,Suite.Sign,Suite.Cipher,Suite.Mac,Suite.Least,Suite.Most,Certificate.Serial,Certificate.Issuer,Certificate.Subject,Certificate.Key,Certificate.KeyId,Certificate.Hash,Certificate.From,Certificate.To,Certificate.Authority,Certificate.Path,Certificate.Names,Certificate.Seal,Link.Use,Link.Day,Talk.server,Talk.version,Talk.suites,Symbol.name,Symbol.kind,Row.name,Row.kind,Row.way,Row.sizes,Row.strengths]<;>omega)
def Qkk:Ent:=Ql (.pr Jt (.pr Qe (.pr tI .nil))) (fun x=>true) (fun x=>(.t .bool (UW x.1 x.2.1 x.2.2.1)))
theorem Qvt:EM 205 Qkk:=mS g_f205 Qvs [((.t 6),some .bool)] false (gB gN) fun m=>Qr m fun x _=>kT (s_f205 x.1 x.2.1 x.2.2.1)
def same (a b:List Keep):Bool:=a==b
end Go.Proofs.YtmjnnemhoeolgaaGreat.K
noncomputable section
namespace Go.Proofs.YtmjnnemhoeolgaaGreat.K
open Go.RowKit
def Wz (r:Rule):Bool:=decide (0<=r.Alg/\r.Alg<=22/\0<=r.Below/\r.Below<=16384/\0<=r.Purpose/\r.Purpose<=4/\0<=r.From/\r.From<r.To/\r.To<=40001)
def Uu (k:Keep):Bool:=decide (1<=k.1/\k.1<=4/\0<=k.2.1/\k.2.1<=40000)
def Yh (r:Rule):Bool:= !Wz r
def Yi (k:Keep):Bool:= !Uu k
def tc_f90:TC:=aF Tryz.f90 []
def g_f90:G:=gG 48 [] (fun _ _=>none)
def r_f90 (p0:Rule):OV:=br (ige p0.2.1 0) (br (ile p0.2.1 22) (br (ige p0.2.2.1 0) (br (ile p0.2.2.1 16384) (br (ige p0.2.2.2.1 0) (br (ile p0.2.2.2.1 4) (br (ige p0.2.2.2.2.1 0) (br (ilt p0.2.2.2.2.1 p0.2.2.2.2.2.1) (some (.t .bool (ile p0.2.2.2.2.2.1 40001),[])) (some (.t .bool false,[]))) (some (.t .bool false,[]))) (some (.t .bool false,[]))) (some (.t .bool false,[]))) (some (.t .bool false,[]))) (some (.t .bool false,[]))) (some (.t .bool false,[]))) (some (.t .bool false,[]))
theorem s_f90 (r:Rule):r_f90 r=some (.t .bool (Wz r),[]):=by
 simp only [r_f90]
 repeat' (refine Q4 ?_ ?_<;>intro _)
 all_goals simp only [ige,ile,ilt,Ba,Bq,Estate.Endpoints,Estate.Edges,Estate.Items,Policy.Rules,Policy.Keeps,Dice.L,Dice.At,Keep.Client,Keep.Server,Endpoint.Name,Endpoint.Least,Endpoint.Most,Endpoint.Suites,Endpoint.OwnOrder,Endpoint.Identities,Endpoint.Anchors,Endpoint.Hashes,Endpoint.Fallback,Identity.Key,Identity.KeyId,Identity.Chain,Change.Endpoint,Change.Kind,Change.Number,Change.At,Change.Identity,Rule.Allow,Rule.Alg,Rule.Below,Rule.Purpose,Rule.From,Rule.To,Rules.p,Rules.l,Rules.o,Rules.day,Way.Outcome,Way.Most,Way.Suites,Item.Name,Item.Kind,Item.Purpose,Item.Links,Item.Until,Exception.Use,Exception.Purpose,Exception.Endpoint,Exception.Days,Exception.Seals,Method.outcome,Method.uses,Suite.Code,Suite.Name,Suite.Exchange,Suite.Sign,Suite.Cipher,Suite.Mac,Suite.Least,Suite.Most,Certificate.Serial,Certificate.Issuer,Certificate.Subject,Certificate.Key,Certificate.KeyId,Certificate.Hash,Certificate.From,Certificate.To,Certificate.Authority,Certificate.Path,Certificate.Names,Certificate.Seal,Link.Use,Link.Day,Talk.server,Talk.version,Talk.suites,Symbol.name,Symbol.kind,Row.name,Row.kind,Row.way,Row.sizes,Row.strengths] at*
 all_goals (apply GY;unfold Wz;rw [DA];simp only [ige,ile,ilt,Ba,Estate.Endpoints,Estate.Edges,Estate.Items,Policy.Rules,Policy.Keeps,Dice.L,Dice.At,Keep.Client,Keep.Server,Endpoint.Name,Endpoint.Least,Endpoint.Most,Endpoint.Suites,Endpoint.OwnOrder,Endpoint.Identities,Endpoint.Anchors,Endpoint.Hashes,Endpoint.Fallback,Identity.Key,Identity.KeyId,Identity.Chain,Change.Endpoint,Change.Kind,Change.Number,Change.At,Change.Identity,Rule.Allow,Rule.Alg,Rule.Below,Rule.Purpose,Rule.From,Rule.To,Rules.p,Rules.l,Rules.o,Rules.day,Way.Outcome,Way.Most,Way.Suites,Item.Name,Item.Kind,Item.Purpose,Item.Links,Item.Until,Exception.Use,Exception.Purpose,Exception.Endpoint,Exception.Days,Exception.Seals,Method.outcome,Method.uses,Suite.Code,Suite.Name,Suite.Exchange,Suite.Sign,Suite.Cipher,Suite.Mac,Suite.Least,Suite.Most,Certificate.Serial,Certificate.Issuer,Certificate.Subject,Certificate.Key,Certificate.KeyId,Certificate.Hash,Certificate.From,Certificate.To,Certificate.Authority,Certificate.Path,Certificate.Names,Certificate.Seal,Link.Use,Link.Day,Talk.server,Talk.version,Talk.suites,Symbol.name,Symbol.kind,Row.name,Row.kind,Row.way,Row.sizes,Row.strengths,BJ,false_iff];omega)
def Qmw:Ent:=Ql (.pr Jt .nil) (fun x=>true) (fun x=>(.t .bool (Wz x.1)))
theorem ms_f90:EM 90 Qmw:=mS g_f90 tc_f90 [((.t 2),some .bool)] false (gB gN) fun m=>Qr m fun x _=>kT (s_f90 x.1)
def tc_f93:TC:=aF Tryz.f93 []
def g_f93:G:=gG 21 [] (fun _ _=>none)
def r_f93 (p0:Keep):OV:=br (ige p0.1 1) (br (ile p0.1 4) (br (ige p0.2.1 0) (some (.t .bool (ile p0.2.1 40000),[])) (some (.t .bool false,[]))) (some (.t .bool false,[]))) (some (.t .bool false,[]))
theorem s_f93 (r:Keep):r_f93 r=some (.t .bool (Uu r),[]):=by
 simp only [r_f93]
 repeat' (refine Q4 ?_ ?_<;>intro _)
 all_goals simp only [ige,ile,ilt,Ba,Bq,Estate.Endpoints,Estate.Edges,Estate.Items,Policy.Rules,Policy.Keeps,Dice.L,Dice.At,Keep.Client,Keep.Server,Endpoint.Name,Endpoint.Least,Endpoint.Most,Endpoint.Suites,Endpoint.OwnOrder,Endpoint.Identities,Endpoint.Anchors,Endpoint.Hashes,Endpoint.Fallback,Identity.Key,Identity.KeyId,Identity.Chain,Change.Endpoint,Change.Kind,Change.Number,Change.At,Change.Identity,Rule.Allow,Rule.Alg,Rule.Below,Rule.Purpose,Rule.From,Rule.To,Rules.p,Rules.l,Rules.o,Rules.day,Way.Outcome,Way.Most,Way.Suites,Item.Name,Item.Kind,Item.Purpose,Item.Links,Item.Until,Exception.Use,Exception.Purpose,Exception.Endpoint,Exception.Days,Exception.Seals,Method.outcome,Method.uses,Suite.Code,Suite.Name,Suite.Exchange,Suite.Sign,Suite.Cipher,Suite.Mac,Suite.Least,Suite.Most,Certificate.Serial,Certificate.Issuer,Certificate.Subject,Certificate.Key,Certificate.KeyId,Certificate.Hash,Certificate.From,Certificate.To,Certificate.Authority,Certificate.Path,Certificate.Names,Certificate.Seal,Link.Use,Link.Day,Talk.server,Talk.version,Talk.suites,Symbol.name,Symbol.kind,Row.name,Row.kind,Row.way,Row.sizes,Row.strengths] at*
 all_goals (apply GY;unfold Uu;rw [DA];simp only [ige,ile,ilt,Ba,Estate.Endpoints,Estate.Edges,Estate.Items,Policy.Rules,Policy.Keeps,Dice.L,Dice.At,Keep.Client,Keep.Server,Endpoint.Name,Endpoint.Least,Endpoint.Most,Endpoint.Suites,Endpoint.OwnOrder,Endpoint.Identities,Endpoint.Anchors,Endpoint.Hashes,Endpoint.Fallback,Identity.Key,Identity.KeyId,Identity.Chain,Change.Endpoint,Change.Kind,Change.Number,Change.At,Change.Identity,Rule.Allow,Rule.Alg,Rule.Below,Rule.Purpose,Rule.From,Rule.To,Rules.p,Rules.l,Rules.o,Rules.day,Way.Outcome,Way.Most,Way.Suites,Item.Name,Item.Kind,Item.Purpose,Item.Links,Item.Until,Exception.Use,Exception.Purpose,Exception.Endpoint,Exception.Days,Exception.Seals,Method.outcome,Method.uses,Suite.Code,Suite.Name,Suite.Exchange,Suite.Sign,Suite.Cipher,Suite.Mac,Suite.Least,Suite.Most,Certificate.Serial,Certificate.Issuer,Certificate.Subject,Certificate.Key,Certificate.KeyId,Certificate.Hash,Certificate.From,Certificate.To,Certificate.Authority,Certificate.Path,Certificate.Names,Certificate.Seal,Link.Use,Link.Day,Talk.server,Talk.version,Talk.suites,Symbol.name,Symbol.kind,Row.name,Row.kind,Row.way,Row.sizes,Row.strengths,BJ,false_iff];omega)
def Qmx:Ent:=Ql (.pr Qe .nil) (fun x=>true) (fun x=>(.t .bool (Uu x.1)))
theorem ms_f93:EM 93 Qmx:=mS g_f93 tc_f93 [((.t 2),some .bool)] false (gB gN) fun m=>Qr m fun x _=>kT (s_f93 x.1)
def tc_f89:TC:=aF Tryz.f89 []
def g_f89:G:=gG 6 [(90,Qmw)] (fun _ _=>none)
def r_f89 (p0:Rule):OV:=some (.t .bool (!(Wz p0)),[])
theorem s_f89 (r:Rule):r_f89 r=some (.t .bool (Yh r),[]):=rfl
def Qmy:Ent:=Ql (.pr Jt .nil) (fun x=>true) (fun x=>(.t .bool (Yh x.1)))
theorem ms_f89:EM 89 Qmy:=mS g_f89 tc_f89 [((.t 2),some .bool)] false (gB (gD ms_f90 gN)) fun m=>Qr m fun x _=>kT (s_f89 x.1)
def tc_f92:TC:=aF Tryz.f92 []
def g_f92:G:=gG 6 [(93,Qmx)] (fun _ _=>none)
def r_f92 (p0:Keep):OV:=some (.t .bool (!(Uu p0)),[])
theorem s_f92 (r:Keep):r_f92 r=some (.t .bool (Yi r),[]):=rfl
def Qmz:Ent:=Ql (.pr Qe .nil) (fun x=>true) (fun x=>(.t .bool (Yi x.1)))
theorem ms_f92:EM 92 Qmz:=mS g_f92 tc_f92 [((.t 2),some .bool)] false (gB (gD ms_f93 gN)) fun m=>Qr m fun x _=>kT (s_f92 x.1)
def JM {α:Type}(m:α->Bool):List α->Option Nat
 | []=>none
 |a::l=>if m a then some 0 else (JM m l).map (· + 1)
theorem V8 {α:Type}{m:α->Bool}: ∀ {l:List α},JM m l=none↔l.any m=false
 | []=>by simp [JM]
 |a::l=>by
  have ih:=V8 (m:=m) (l:=l)
  unfold JM
  cases h:m a with
  |true=>simp [h]
  |false=>simpa [h] using ih
theorem QmA {α:Type}{m:α->Bool}{l:List α}{k:Nat}(h:JM m l=some k):l.any m=true:=by
 cases hq:l.any m with
 |true=>rfl
 |false=>rw [V8.2 hq] at h;cases h
def ZQ {α:Type}(l:List α):Bool:=decide (l.length<=100000)
def Id (l:List Rule):Int:=match JM Yh l with|some k=>(k:Int)|none=> -1
def Ie (l:List Keep):Int:=match JM Yi l with|some k=>(k:Int)|none=> -1
abbrev V9:Sh:=⟨[(0,.ty (.sl Jt)),(1,.cf 89),(7,.ty tI),(8,.ty tI)],[]⟩
abbrev Qe4:Sh:=⟨[(4,.ty tI)],[]⟩
abbrev Qaa:Sh:=⟨[],[]⟩
def Qe5:Fg:=V9.f
def QmB:TC:=aF Tryz.f130 [(26,pL 0 Qe5),(421,.fg Qaa.f),(13517,.fg Qe4.f)]
def QmC:TC:=lb 0 QmB
def QmD (x0:List Rule)(x7 x8:Int):VS:=V9.st (x0,(),x7,x8,()) ()
def Fk (x4:Int):VS:=Qe4.st (x4,()) ()
def Qe6  : VS:=Qaa.st () ()
def Qxu:VS->Option (Bool×List (Bool×Exit×VS)):=mkL V9 (fun x y=>(QB x.1 x.2.2.1 x.2.2.2.1)) (fun x y=>[(((JM Yh (x.1.drop x.2.2.2.1.toNat)).isSome),.ret,Fk (x.2.2.2.1+((JM Yh (x.1.drop x.2.2.2.1.toNat)).getD 0:Nat))),(true,.exit 0,Qe6)])
def Qe7:G:=gG 19 [(89,Qmy)] (Ls [Qxu])
def Qab (x0:List Rule)(x7 x8:Int):OX:=Qx (Qz Qe7 Qe5 QmC) (QmD x0 x7 x8)
def If (kk:List Rule->Int->Int->OX)(x0:List Rule)(x7 x8:Int):OX:=br (ilt x8 x7) (br (cIx x0 x8) (br (Yh (lgt Jt x0 (Int.toNat x8))) (some (.ret,Fk x8)) (kk x0 x7 (Qj .i64 x8 1))) none) (some (.exit 0,Qe6))
def Qac (x0:List Rule)(x7 x8:Int):OX:=
 let a1:=JM Yh (x0.drop x8.toNat)
 br (a1.isSome) (some (.ret,Fk (x8+(a1.getD 0:Nat))))<|some (.exit 0,Qe6)
theorem QmE (x0:List Rule)(x7 x8:Int):Qab x0 x7 x8=If Qab x0 x7 x8:=lnT (x:=If (fun x0 x7 x8=>some (.normal,QmD x0 x7 x8)) x0 x7 x8) (by simp only [If,nxA];rfl)
def QmF (p0:List Rule):OV:=
 let a1:=(JM Yh (p0.drop (0:Int).toNat))
 br (QB p0 (Qc p0) (0:Int)) (br (a1.isSome) (some (.t tI ((0:Int)+(a1.getD 0:Nat)),[])) (some (.t tI (-1),[]))) none
theorem Qxv (x0:List Rule)(x7 x8:Int)(h:(QB x0 x7 x8)=true):Qab x0 x7 x8=Qac x0 x7 x8:=by
 obtain ⟨rfl,h3,k,rfl,hk⟩:=J5 h
 clear h
 refine Q7 x0 (fun k=>Qab x0 (x0.length:Int) (k:Int)=Qac x0 (x0.length:Int) (k:Int)) ?_ ?_ k hk
 ·rw [QmE]
  simp [If,Qac,QH,Qh,JM]
 ·intro k hk ih
  rw [QmE]
  simp only [If,QH,QS,hk,BK,Qd,Bd,Q3 (show k<4611686018427387904 by omega),ih,Q2 (y:=Jt) hk]
  simp only [Qac,Bd,Bl hk,JM]
  cases h:Yh x0[k] with
  |true=>simp [Qd]
  |false=>
   simp only [Qh,BJ,Dr]
   cases hq:JM Yh (x0.drop (k+1)) with
   |none=>rfl
   |some j=>
    simp only [B1,B4,BS,Qd]
    congr 3
    omega
theorem Qxw:LO Qe7 Qe5 QmC 0:=QI (s:=V9) fun x y h _ q=>by simp only [QF,QG] at q;exact (Qxv x.1 x.2.2.1 x.2.2.2.1 h).trans q
theorem Qxx (l:List Rule)(h:ZQ l=true):QmF l=some (.t tI (Id l),[]):=by
 simp only [ZQ,Ba] at h
 simp only [QmF,J6 h,Qd,BA,BG,Id]
 cases JM Yh l<;>simp [Qd,Qh]
def QmG:Ent:=Zw [.ty (.sl Jt),.cf 89] [] (fun x d=>(ZQ x.1)) (fun x d=>(.t tI (Id x.1)))
theorem Qxy:EM 130 QmG:=mS (lk:=lkL (lkc Qxw lkn)) Qe7 QmB [((.t 4),some tI)] false (gB (gD ms_f89 gN)) fun m=>Zo m fun x d hok=>kT (Qxx x.1 hok)
def Fl (l:List Rule):Bool:=l.any Yh
def Qxz:TC:=aF Tryz.f88 []
def QxA:G:=gG 9 [(130,QmG)] (fun _ _=>none)
def QmH (p0:List Rule):OV:=br (ZQ p0) (some (.t .bool (ige (Id p0) 0),[])) none
theorem QxB (l:List Rule)(h:ZQ l=true):QmH l=some (.t .bool (Fl l),[]):=by
 simp only [QmH,h,Qd]
 congr 3
 unfold Id Fl
 cases hq:JM Yh l with
 |none=>rw [V8.1 hq];rfl
 |some k=>rw [QmA hq];simp only [ige,Ba];omega
def QmI:Ent:=Zw [.ty (.sl Jt),.cf 89] [] (fun x d=>(ZQ x.1)) (fun x d=>(.t .bool (Fl x.1)))
theorem QxC:EM 88 QmI:=mS QxA Qxz [((.t 4),some .bool)] false (gB (gD Qxy gN)) fun m=>Zo m fun x d hok=>kT (QxB x.1 hok)
abbrev Qad:Sh:=⟨[(0,.ty (.sl Qe)),(1,.cf 92),(7,.ty tI),(8,.ty tI)],[]⟩
def Qe8:Fg:=Qad.f
def QmJ:TC:=aF Tryz.f131 [(26,pL 0 Qe8),(421,.fg Qaa.f),(13517,.fg Qe4.f)]
def QmK:TC:=lb 0 QmJ
def QmL (x0:List Keep)(x7 x8:Int):VS:=Qad.st (x0,(),x7,x8,()) ()
def Qe9  : VS:=Qaa.st () ()
def QxD:VS->Option (Bool×List (Bool×Exit×VS)):=mkL Qad (fun x y=>(QB x.1 x.2.2.1 x.2.2.2.1)) (fun x y=>[(((JM Yi (x.1.drop x.2.2.2.1.toNat)).isSome),.ret,Fk (x.2.2.2.1+((JM Yi (x.1.drop x.2.2.2.1.toNat)).getD 0:Nat))),(true,.exit 0,Qe9)])
def Qfa:G:=gG 19 [(92,Qmz)] (Ls [QxD])
def Qae (x0:List Keep)(x7 x8:Int):OX:=Qx (Qz Qfa Qe8 QmK) (QmL x0 x7 x8)
def Ig (kk:List Keep->Int->Int->OX)(x0:List Keep)(x7 x8:Int):OX:=br (ilt x8 x7) (br (cIx x0 x8) (br (Yi (lgt Qe x0 (Int.toNat x8))) (some (.ret,Fk x8)) (kk x0 x7 (Qj .i64 x8 1))) none) (some (.exit 0,Qe9))
def Qaf (x0:List Keep)(x7 x8:Int):OX:=
 let a1:=JM Yi (x0.drop x8.toNat)
 br (a1.isSome) (some (.ret,Fk (x8+(a1.getD 0:Nat))))<|some (.exit 0,Qe9)
theorem QmM (x0:List Keep)(x7 x8:Int):Qae x0 x7 x8=Ig Qae x0 x7 x8:=lnT (x:=Ig (fun x0 x7 x8=>some (.normal,QmL x0 x7 x8)) x0 x7 x8) (by simp only [Ig,nxA];rfl)
def QmN (p0:List Keep):OV:=
 let a1:=(JM Yi (p0.drop (0:Int).toNat))
 br (QB p0 (Qc p0) (0:Int)) (br (a1.isSome) (some (.t tI ((0:Int)+(a1.getD 0:Nat)),[])) (some (.t tI (-1),[]))) none
theorem QxE (x0:List Keep)(x7 x8:Int)(h:(QB x0 x7 x8)=true):Qae x0 x7 x8=Qaf x0 x7 x8:=by
 obtain ⟨rfl,h3,k,rfl,hk⟩:=J5 h
 clear h
 refine Q7 x0 (fun k=>Qae x0 (x0.length:Int) (k:Int)=Qaf x0 (x0.length:Int) (k:Int)) ?_ ?_ k hk
 ·rw [QmM]
  simp [Ig,Qaf,QH,Qh,JM]
 ·intro k hk ih
  rw [QmM]
  simp only [Ig,QH,QS,hk,BK,Qd,Bd,Q3 (show k<4611686018427387904 by omega),ih,Q2 (y:=Qe) hk]
  simp only [Qaf,Bd,Bl hk,JM]
  cases h:Yi x0[k] with
  |true=>simp [Qd]
  |false=>
   simp only [Qh,BJ,Dr]
   cases hq:JM Yi (x0.drop (k+1)) with
   |none=>rfl
   |some j=>
    simp only [B1,B4,BS,Qd]
    congr 3
    omega
theorem QxF:LO Qfa Qe8 QmK 0:=QI (s:=Qad) fun x y h _ q=>by simp only [QF,QG] at q;exact (QxE x.1 x.2.2.1 x.2.2.2.1 h).trans q
theorem QxG (l:List Keep)(h:ZQ l=true):QmN l=some (.t tI (Ie l),[]):=by
 simp only [ZQ,Ba] at h
 simp only [QmN,J6 h,Qd,BA,BG,Ie]
 cases JM Yi l<;>simp [Qd,Qh]
def QmO:Ent:=Zw [.ty (.sl Qe),.cf 92] [] (fun x d=>(ZQ x.1)) (fun x d=>(.t tI (Ie x.1)))
theorem QxH:EM 131 QmO:=mS (lk:=lkL (lkc QxF lkn)) Qfa QmJ [((.t 4),some tI)] false (gB (gD ms_f92 gN)) fun m=>Zo m fun x d hok=>kT (QxG x.1 hok)
def Fm (l:List Keep):Bool:=l.any Yi
def QxI:TC:=aF Tryz.f91 []
def QxJ:G:=gG 9 [(131,QmO)] (fun _ _=>none)
def QmP (p0:List Keep):OV:=br (ZQ p0) (some (.t .bool (ige (Ie p0) 0),[])) none
theorem QxK (l:List Keep)(h:ZQ l=true):QmP l=some (.t .bool (Fm l),[]):=by
 simp only [QmP,h,Qd]
 congr 3
 unfold Ie Fm
 cases hq:JM Yi l with
 |none=>rw [V8.1 hq];rfl
 |some k=>rw [QmA hq];simp only [ige,Ba];omega
def QmQ:Ent:=Zw [.ty (.sl Qe),.cf 92] [] (fun x d=>(ZQ x.1)) (fun x d=>(.t .bool (Fm x.1)))
theorem QxL:EM 91 QmQ:=mS QxJ QxI [((.t 4),some .bool)] false (gB (gD QxH gN)) fun m=>Zo m fun x d hok=>kT (QxK x.1 hok)
theorem igt60 {α:Type}{l:List α}:igt (Qc l) 60= !decide (l.length<=60):=by
 have:igt (Qc l) 60=decide (60<l.length):=QvJ
 rw [this]
 by_cases h:l.length<=60
 ·rw [Be h,BM,Bq];omega
 ·rw [Bn h,Bool.not_false,Ba];omega
def Fn (y:Policy):Bool:=y.1.all Wz&&y.2.1.all Uu&&decide (y.1.length<=60/\y.2.1.length<=60)
def YJ (y:Policy):Int:=if Fn y then 0 else 25
def YK (y:Policy):Bool:=ZQ y.1&&ZQ y.2.1
def tc_f51:TC:=aF Tryz.f51 []
def g_f51:G:=gG 25 [(88,QmI),(91,QmQ)] (fun _ _=>none)
def r_f51 (p0:Policy):OV:=br (ZQ p0.1) (br (Fl p0.1) (some (.t tI 25,[])) (br (ZQ p0.2.1) (br (Fm p0.2.1) (some (.t tI 25,[])) (br (igt (Qc p0.1) 60) (some (.t tI 25,[])) (br (igt (Qc p0.2.1) 60) (some (.t tI 25,[])) (some (.t tI 0,[]))))) none)) none
theorem s_f51 (y:Policy)(h:YK y=true):r_f51 y=some (.t tI (YJ y),[]):=by
 simp only [YK,Bc] at h
 simp only [r_f51,h.1,h.2,Qd]
 have e1:Fl y.1= !y.1.all Wz:=by simp [Fl,List.any_eq_not_all_not,Yh]
 have e2:Fm y.2.1= !y.2.1.all Uu:=by simp [Fm,List.any_eq_not_all_not,Yi]
 rw [e1,e2]
 unfold YJ Fn
 rw [igt60,igt60]
 by_cases h1:y.1.length<=60<;>by_cases h2:y.2.1.length<=60<;>cases y.1.all Wz<;>cases y.2.1.all Uu<;>simp [Qd,Qh,h1,h2]
def Qfb:Ent:=Ql (.pr Zr .nil) (fun x=>(YK x.1)) (fun x=>(.t tI (YJ x.1)))
theorem QmR:EM 51 Qfb:=mS g_f51 tc_f51 [((.t 2),some tI)] false (gB (gD QxC (gD QxL gN))) fun m=>Qr m fun x hok=>kT (s_f51 x.1 hok)
end Go.Proofs.YtmjnnemhoeolgaaGreat.K
noncomputable section
namespace Go.Proofs.YtmjnnemhoeolgaaGreat.K
open Go.RowKit
def Yz {α:Type}(l:List α):List (Int×(α×Unit)):=(l.zipIdx.map fun p=>((p.2:Int),(p.1,()))).reverse
def QjG:Itr:=Uk [.ptr 50000 0] [(.sl Jt)] (.pr tI (.pr Jt .nil)) (fun d=>true) (fun d=>(Yz d.1))
def QGj:TC:=aF Tryz.f204 []
def g_f204:G:=gG 4 [] (fun _ _=>none)
def r_f204 (p0:List Rule):OV:=some (.fn 226 [(.ptr 50000 0)],[.box (.t (.sl Jt) p0)])
def QuH:Ent:=Wu (.pr (.sl Jt) .nil) (fun _=>true) (fun x=> .fn 226 [.ptr 50000 0]) (fun x=>[.box (.t (.sl Jt) x.1)])
theorem QGk:EM 204 QuH:=mS g_f204 QGj [((.t 2),none)] true (gB gN) fun m=>QeR m fun x _=>by kernel_rfl
end Go.Proofs.YtmjnnemhoeolgaaGreat.K
noncomputable section
namespace Go.Proofs.YtmjnnemhoeolgaaGreat.K
open Go.RowKit Go.Shelf
attribute [local go_sem] Oper.semAt_some
def Yl (vs:List Value)(sz:Nat):Nat->List (Array Value)
 |0=>[]
 |k+1=> #[.int .i64 (k:Int),.agg ((vs.drop (k*sz)).take sz).toArray]::Yl vs sz k
theorem Qy2 (vs:List Value)(sz:Nat): ∀ n k,k<n->(Yl vs sz n).drop k=Yl vs sz (n-k)
 |0,k,h=>by omega
 |n+1,0,_=>rfl
 |n+1,k+1,h=>by
  rw [Yl,List.drop_succ_cons,Qy2 vs sz n k (by omega)]
  congr 1
  omega
theorem w64 (m:Nat)(h:m<=maxLen):wrap64 ((m:Int)-1)=(m:Int)-1:=by
 simp only [maxLen] at h
 unfold wrap64
 omega
set_option maxRecDepth 100000 in
set_option maxHeartbeats 1000000 in
theorem Qy3 (Bs b0 off c n:Nat)(A:Option Addr)(vs:List Value)(Xf:Nat->Nat->Prop)(w:World)(hnc:n<=c)(hcm:c<=maxLen)
  (hBs:w.cell? ⟨Bs,0,none⟩=some (.slice A n c)) (hBl:Bs<w.heap.size) (hBx: ∀ q, ¬ Xf Bs q)
  (hA:0<n->A=some ⟨b0,off,none⟩/\vs.length=n*6/\b0<w.heap.size/\(∀ j,j<vs.length→ ¬ Xf b0 (off+j))∧ ∀ j v,vs[j]? = some v->w.cell? ⟨b0,off+j,none⟩=some v):
  UL Tryz.prog 226 [.pointer (some ⟨Bs,0,none⟩)] (Yl vs 6 n) Xf w:=by
 intro l J Jx W hJ hJx hK hY h0 _
 have HA:=Lib.hid hA
 clear hA
 refine callsIn_of_wp (F:=Fw none) Tryz.func226 rfl trivial ?_ rfl
 simp only [Tryz.ntmps226,List.size_toArray,Bo,Bw,Nat.reduceAdd,Nat.reduceSub,Array.replicate_succ,Array.replicate_zero,List.push_toArray,List.append_toArray,BY,Du]
 have hb0:W.cell? ⟨Bs,0,none⟩=some (.slice A n c):=((hK _ W h0).2 Bs 0 hBl (hBx 0)).trans hBs
 gi_wp2
 gi_loopw [3] (fun i wr=> ∃ k:Nat,k<=n/\i= .int .i64 ((k:Int)-1)/\J (Yl vs 6 k) wr)
  (fun i _=>(intOf i+1).toNat)
 case atStart=>exact ⟨n,BB _,congrArg (Value.int .i64) (w64 n (by omega)),h0⟩
 case round=>
  obtain ⟨k,hk,rfl,hJs⟩:=hrel
  have hbx:wr.cell? ⟨Bs,0,none⟩=some (.slice A n c):=((hK _ wr hJs).2 Bs 0 hBl (hBx 0)).trans hBs
  cases k with
  |zero=>
   gi_wp2
   go_end0
   exact ⟨⟨_,rfl⟩,.inl hJs⟩
  |succ q=>
   obtain ⟨rfl,hvl,hbl,hnx,hcl⟩:=HA.out (by omega)
   obtain ⟨fn,tmps,assign,body,hy,hR⟩:=hY _ _ wr hJs
   have cel: ∀ i,i<6→ ∃ v,vs[q*6+i]? = some v/\wr.cell? ⟨b0,off+(q*6+i),none⟩=some v:=by
    intro i hi
    have hlt:q*6+i<vs.length:=by omega
    exact ⟨_,Bh hlt,((hK _ wr hJs).2 b0 _ hbl (hnx _ hlt)).trans (hcl _ _ (Bh hlt))⟩
   obtain ⟨v0,e0,c0⟩:=cel 0 (by omega)
   obtain ⟨v1,e1,c1⟩:=cel 1 (by omega)
   obtain ⟨v2,e2,c2⟩:=cel 2 (by omega)
   obtain ⟨v3,e3,c3⟩:=cel 3 (by omega)
   obtain ⟨v4,e4,c4⟩:=cel 4 (by omega)
   obtain ⟨v5,e5,c5⟩:=cel 5 (by omega)
   rw [DF] at e0 c0
   rw [←Dy] at c1 c2 c3 c4 c5
   have hag:((vs.drop (q*6)).take 6)=[v0,v1,v2,v3,v4,v5]:=by
    apply List.ext_getElem?
    intro i
    rcases B5 i 6 with hi|hi
    ·rw [List.getElem?_take_of_lt hi,Da]
     rcases i with _|_|_|_|_|_|i
     ·rw [DF,e0];rfl
     ·rw [e1];rfl
     ·rw [e2];rfl
     ·rw [e3];rfl
     ·rw [e4];rfl
     ·rw [e5];rfl
     ·omega
    ·rw [List.getElem?_take_eq_none hi,DK (by simpa using hi)]
   rw [hag] at hy
   have q1:((q+1:Nat):Int)-1=(q:Int):=by omega
   rw [q1]
   clear hnx hcl cel hY
   gi_wp2
   refine hR.mono ?_
   rintro e W3 (⟨rfl,hJ3⟩|⟨rfl,hJx3⟩)
   ·gi_wp2
    go_roundw
    case rel=>exact ⟨q,by omega,congrArg (Value.int .i64) (w64 q (by omega)),hJ3⟩
    case measure=>simp [intOf,w64 q (by omega)]
   ·gi_wp2
    refine bodyPost_ret (results_none rfl _ _ _) rfl ?_
    exact ⟨⟨_,rfl⟩,.inr hJx3⟩
theorem QfE (vs:List Value)(sz:Nat): ∀ n,(Yl vs sz n).length=n
 |0=>rfl
 |n+1=>by rw [Yl,Bo,QfE vs sz n]
theorem QnB (vs:List Value)(sz:Nat): ∀ n i,i<n->(Yl vs sz n)[i]? = some #[.int .i64 ((n-1-i:Nat):Int),.agg ((vs.drop ((n-1-i)*sz)).take sz).toArray]
 |0,i,h=>by omega
 |n+1,0,_=>by simp [Yl]
 |n+1,i+1,h=>by
  rw [Yl,BU,QnB vs sz n i (by omega)]
  have:n-1-i=n+1-1-(i+1):=by omega
  rw [this]
theorem Qy4 {α:Type}(l:List α)(i:Nat)(h:i<l.length):(Yz l)[i]? = some (((l.length-1-i:Nat):Int),(l[l.length-1-i]'(by omega),())):=by
 unfold Yz
 rw [List.getElem?_reverse (by simpa using h)]
 simp
theorem Qy5 {P:Program}{gf:FuncId}{y:Ty}{sz:Nat}(hgf:gf<1000000)(hrow:y.row=true)(hsz:y.sz=sz)(eg: ∀ args w,(callFunc gf args).run P w= .ok (.enter gf args) w)
  (hw: ∀ (Bs b0 off c n:Nat) (A:Option Addr) (vs:List Value) (Xf:Nat->Nat->Prop) (w:World),n<=c->c<=maxLen->w.cell? ⟨Bs,0,none⟩=some (.slice A n c)->Bs<w.heap.size->(∀ q, ¬ Xf Bs q)→
   (0<n->A=some ⟨b0,off,none⟩/\vs.length=n*sz/\b0<w.heap.size/\(∀ j,j<vs.length→ ¬ Xf b0 (off+j))∧ ∀ j v,vs[j]? = some v->w.cell? ⟨b0,off+j,none⟩=some v)->UL P gf [.pointer (some ⟨Bs,0,none⟩)] (Yl vs sz n) Xf w):
  Iters P gf (Uk [.ptr 50000 0] [.sl y] (.pr (.int .i64) (.pr y .nil)) (fun _=>true) (fun d=>Yz d.1)):=by
 refine Iters.weak hgf eg fun caps objs yr rows h X w σ lb hfin hl hc=> ?_
 unfold Uk at h
 split at h
 ·rename_i x d hx hd
  simp only [Bb,Bj,true_and] at h
  cases h
  have hcaps:=Fb hx
  subst hcaps
  cases objs with
  |nil=>simp [Zn] at hd
  |cons o os=>
   cases o with
   |box cv=>
    cases os with
    |cons o2 os=>simp [Zn] at hd
    |nil=>
     simp only [Zn] at hd
     split at hd
     ·rename_i l u hl1 _
      simp only [Bb] at hd
      subst hd
      have hcv:=SV.rd_mk (s:= .ty (.sl y)) (v:=cv) (x:=l) (by simpa [Ia,Ty.row] using hl1)
      subst hcv
      obtain ⟨⟨Bs,ty,us,h1,h2,h3,h4⟩,_⟩:=hl.at_ 0 _ rfl
      have h3':Cs X w σ [.sl (List.length l) (List.flatMap y.cells l)] us:=h3
      obtain ⟨uv,rfl,h5⟩:=h3'.one
      simp only [C] at h5
      obtain ⟨A,c,rfl,g1,g2,g3,g4⟩:=h5
      simp only [Us,SV.mk,V.ds,V.d,Cs,C] at hc
      obtain ⟨p,ps,rfl,⟨b',e1,rfl⟩,rfl⟩:=hc
      have h1:σ 50000= .box Bs:=h1
      rw [h1] at e1
      injection e1 with e1
      subst e1
      have hcell:w.cell? ⟨Bs,0,none⟩=some (.slice A (List.length l) c):=by simp [World.cell?, h2]
      have hBl:=(BX.1 h2).1
      have hBx: ∀ q, ¬ (X Bs q∧ ∀ j,j<[VO.box ((SV.ty (.sl y)).mk l)].length->(σ (50000+j)).blk≠some Bs):=fun q hq=>hq.2 0 (by simp) (by rw [h1];rfl)
      rcases DL (List.length l) with h0|hp
      ·have hl0:l=[]:=Bv h0
       subst hl0
       exact ⟨Yl [] sz 0,⟨rfl,fun i r v hr=>by simp [Yz] at hr⟩,hw Bs 0 0 c 0 A [] _ w g1 g2 hcell hBl hBx (fun h=>absurd h (by omega))⟩
      ·obtain ⟨b0,off,vs,rfl,g5,g6⟩:=g4 hp
       have hvl:=g5.len
       rw [WF,hsz] at hvl
       refine ⟨Yl vs sz (List.length l),⟨by rw [QfE];simp [Yz],fun i r v hr hv=> ?_⟩,hw Bs b0 off c (List.length l) _ vs _ w g1 g2 hcell hBl hBx (fun _=>⟨rfl,hvl,g6.lt,fun j hj hx=>g6.nx j hj hx.1,fun j v hv=>g6.at_ j v hv⟩)⟩
       have hi:i<List.length l:=by
        have:=(By.1 hv).1
        rwa [QfE] at this
       rw [Qy4 _ _ hi] at hr
       rw [QnB _ _ _ _ hi] at hv
       injection hr with hr
       injection hv with hv
       subst hr hv
       simp only [Ty.canon,V.ds,V.d,Cs]
       refine ⟨_,_,rfl,(by simp only [Ty.d,C];exact ⟨trivial,rfl⟩),_,_,rfl, ?_,rfl⟩
       rw [Ty.d_row _ _ hrow]
       simp only [C]
       refine ⟨_,rfl, ?_⟩
       have k1:=(g5.drop_ ((List.length l-1-i)*y.sz))
       rw [Gg,Bl (by omega),BL] at k1
       have k2:=k1.take_ y.sz
       rw [List.take_left' (y.cells_len _),hsz] at k2
       exact k2
     ·cases hd
   |no=>simp [Zn] at hd
   |arr e t l=>simp [Zn] at hd
 ·cases h
theorem Qy6:Iters Tryz.prog 226 QjG:=
 Qy5 (y:=Jt) (sz:=6) (by decide) rfl rfl (enters_of Tryz.func226 (by kernel_rfl) rfl) Qy3
end Go.Proofs.YtmjnnemhoeolgaaGreat.K
noncomputable section
namespace Go.Proofs.YtmjnnemhoeolgaaGreat.K
open Go.RowKit
def Eg (zs:List (Int×(Rule×Unit)))(u:Keep)(p d:Int):Option Int:=(zs.find? fun z=>EP z.2.1 u p d).map (·.1)
def I6 (zs:List (Int×(Rule×Unit)))(u:Keep)(p d _x:Int):Bool:=(Eg zs u p d).isSome
def I7 (zs:List (Int×(Rule×Unit)))(u:Keep)(p d _x:Int):Int:=(Eg zs u p d).getD 0
def Z4 (y:Policy)(u:Keep)(p d:Int):Int:=(Eg (Yz y.1) u p d).getD (-1)
abbrev QbV:Sh:=⟨[(5,.ptr 60000 0),(6,.ptr 60001 0),(7,.ptr 60002 0),(8,.ptr 60003 0)],[(60000,.box Qe),(60001,.box tI),(60002,.box tI),(60003,.bag [.ty tI])]⟩
def UE:Fg:=QbV.f
def QbW:TC:=(.sq (.reg (rT Tryz.f176 2)) (.reg (rT Tryz.f176 3)))
def QbX:TC:=(.bk 1 (.sq (.reg (rT Tryz.f176 4)) (.cd (.t 31) (.sq (.reg (rT Tryz.f176 5)) (.fg ⟨[],[(60000,some Qe),(60001,some tI),(60002,some tI),(60003,none)]⟩ .rt)) .sk)))
def QCq:TC:=(.sq (.reg (rT Tryz.f176 0)) (.sq (.sq (.reg (rT Tryz.f176 1)) (.bk 0 (.rf 0 UE (.t 13) (.pr tI (.pr Jt .nil)) [14,15] [5,6,7,8] QbW QbX))) (.sq (.reg (rT Tryz.f176 6)) .rt)))
def Y9 (Ji:Keep)(Jj Jc JI:Int):VS:=QbV.st ((),(),(),(),()) (Ji,Jj,Jc,(JI,()),())
def QbY:VS->List (Ty.T (.pr tI (.pr Jt .nil)))->Option (Bool×List (Bool×Exit×VS)):=mkR QbV (fun zs x y=>true) (fun zs x y=>[((I6 zs y.1 y.2.1 y.2.2.1 y.2.2.2.1.1),.ret,Y9 (y.1) (y.2.1) (y.2.2.1) (I7 zs y.1 y.2.1 y.2.2.1 y.2.2.2.1.1)),(true,.normal,Y9 (y.1) (y.2.1) (y.2.2.1) (y.2.2.2.1.1))])
def Eh:G:=⟨TYs,[],33,EL [(204,QuH),(205,Qkk)],YU,(Ls [fun _=>none]),IL [(226,QjG)],(RL [⟨(.pr tI (.pr Jt .nil)),QbY⟩])⟩
def Qq1 (z:(Int×(Rule×Unit)))(Ji:Keep)(Jj Jc JI:Int):OX:=br (UW z.2.1 Ji Jj) (br (ile z.2.1.2.2.2.2.1 Jc) (br (ilt Jc z.2.1.2.2.2.2.2.1) (some (.ret,Y9 Ji Jj Jc z.1)) (some (.normal,Y9 Ji Jj Jc JI))) (some (.normal,Y9 Ji Jj Jc JI))) (some (.normal,Y9 Ji Jj Jc JI))
def Ei (zs:List (Int×(Rule×Unit)))(Ji:Keep)(Jj Jc JI:Int):OX:=Yx (XD Eh UE (.pr tI (.pr Jt .nil)) [14,15] QbW QbX) zs (Y9 Ji Jj Jc JI)
def Qhn (z:(Int×(Rule×Unit)))(zs:List (Int×(Rule×Unit)))(Ji:Keep)(Jj Jc JI:Int):OX:=br (UW z.2.1 Ji Jj) (br (ile z.2.1.2.2.2.2.1 Jc) (br (ilt Jc z.2.1.2.2.2.2.2.1) (some (.ret,Y9 Ji Jj Jc z.1)) (Ei zs Ji Jj Jc JI)) (Ei zs Ji Jj Jc JI)) (Ei zs Ji Jj Jc JI)
def Qq2 (zs:List (Int×(Rule×Unit)))(Ji:Keep)(Jj Jc JI:Int):OX:=br (I6 zs Ji Jj Jc JI) (some (.ret,Y9 (Ji) (Jj) (Jc) (I7 zs Ji Jj Jc JI)))<|some (.normal,Y9 (Ji) (Jj) (Jc) (JI))
theorem QCr (z:(Int×(Rule×Unit)))(Ji:Keep)(Jj Jc JI:Int):XD Eh UE (.pr tI (.pr Jt .nil)) [14,15] QbW QbX z (Y9 Ji Jj Jc JI)=Qq1 z Ji Jj Jc JI:=by kernel_rfl
theorem QCs (Ji:Keep)(Jj:Int)(Jc:Int)(JI:Int):Ei [] Ji Jj Jc JI=some (.normal,Y9 Ji Jj Jc JI):=rfl
theorem QCt (z:(Int×(Rule×Unit)))(zs:List (Int×(Rule×Unit)))(Ji:Keep)(Jj Jc JI:Int):Ei (z::zs) Ji Jj Jc JI=Qhn z zs Ji Jj Jc JI:=(Qmf _ _ _ _).trans (by
 rw [QCr]
 simp only [Qq1,Qhn,Gb,Fc,Fd,Fe,Ff]
 rfl)
def Qq3 (p0:Policy)(p1:Keep)(p2 p3:Int):OV:=br (I6 (Yz p0.1) p1 p2 p3 0) (some (.t tI (I7 (Yz p0.1) p1 p2 p3 0),[])) (some (.t tI (-1),[]))
theorem QCu (zs:List (Int×(Rule×Unit)))(Ji:Keep)(Jj Jc JI:Int)(h:true=true):Ei zs Ji Jj Jc JI=Qq2 zs Ji Jj Jc JI:=by
 clear h
 induction zs with
 |nil=>
  rw [QCs]
  rfl
 |cons z zs ih=>
  rw [QCt]
  simp only [Qhn,ih,Qq2,I6,I7,Eg,List.find?_cons,EP,Qki,ile,ilt,Estate.Endpoints,Estate.Edges,Estate.Items,Policy.Rules,Policy.Keeps,Dice.L,Dice.At,Keep.Client,Keep.Server,Endpoint.Name,Endpoint.Least,Endpoint.Most,Endpoint.Suites,Endpoint.OwnOrder,Endpoint.Identities,Endpoint.Anchors,Endpoint.Hashes,Endpoint.Fallback,Identity.Key,Identity.KeyId,Identity.Chain,Change.Endpoint,Change.Kind,Change.Number,Change.At,Change.Identity,Rule.Allow,Rule.Alg,Rule.Below,Rule.Purpose,Rule.From,Rule.To,Rules.p,Rules.l,Rules.o,Rules.day,Way.Outcome,Way.Most,Way.Suites,Item.Name,Item.Kind,Item.Purpose,Item.Links,Item.Until,Exception.Use,Exception.Purpose,Exception.Endpoint,Exception.Days,Exception.Seals,Method.outcome,Method.uses,Suite.Code,Suite.Name,Suite.Exchange,Suite.Sign,Suite.Cipher,Suite.Mac,Suite.Least,Suite.Most,Certificate.Serial,Certificate.Issuer,Certificate.Subject,Certificate.Key,Certificate.KeyId,Certificate.Hash,Certificate.From,Certificate.To,Certificate.Authority,Certificate.Path,Certificate.Names,Certificate.Seal,Link.Use,Link.Day,Talk.server,Talk.version,Talk.suites,Symbol.name,Symbol.kind,Row.name,Row.kind,Row.way,Row.sizes,Row.strengths]
  cases h1:UW z.2.1 Ji Jj<;>cases h2:decide (z.2.1.2.2.2.2.1<=Jc)<;>cases h3:decide (Jc<z.2.1.2.2.2.2.2.1)<;>simp [Qd,Qh]
theorem QCv: ∀ S (rows:List (Ty.T (.pr tI (.pr Jt .nil)))) l p,Eh.R 0 (fgt UE S) (.pr tI (.pr Jt .nil)) rows=some (true,l)->ZK l=some p->Yx (XD Eh UE (.pr tI (.pr Jt .nil)) [14,15] QbW QbX) rows (fgt UE S)=some p:=by
 intro S rows l p hR hp
 rw [show Eh.R 0 (fgt UE S) (.pr tI (.pr Jt .nil)) rows=QbY (fgt UE S) rows from RL_at (l:=[⟨(.pr tI (.pr Jt .nil)),QbY⟩]) (j:=0) (F:=QbY) rfl _ _] at hR
 refine Qmd (s:=QbV) ⟨by decide,by decide⟩ (by kernel_rfl) (fun zs x y hok p hp=> ?_) S rows l p hR hp
 simp only [QF,QG] at hp
 exact (QCu zs y.1 y.2.1 y.2.2.1 y.2.2.2.1.1 (by first|rfl|simpa using hok)).trans hp
theorem s_f176 (p0:Policy)(p1:Keep)(p2 p3:Int):Qq3 p0 p1 p2 p3=some (.t tI (Z4 p0 p1 p2 p3),[]):=by
 simp only [Qq3,Z4,I6,I7]
 cases Eg (Yz p0.1) p1 p2 p3<;>simp [Qd,Qh]
def Qho:Ent:=Ql (.pr Zr (.pr Qe (.pr tI (.pr tI .nil)))) (fun x=>true) (fun x=>(.t tI (Z4 x.1 x.2.1 x.2.2.1 x.2.2.2.1)))
theorem Qq4:EM 176 Qho:=mS (lk:=(by repeat first|exact trivial|exact QCv|constructor)) Eh QCq [((.c 8 false 1),some tI)] false (J8 _ (gA (gD QGk (gD Qvt gN)))
 [(226,QjG)] (by
 intro p hp
 simp only [BD,BQ,De] at hp
 rcases hp with rfl
 ·exact Qy6)) fun m=>Qr m fun x _=>kT (s_f176 x.1 x.2.1 x.2.2.1 x.2.2.2.1)
end Go.Proofs.YtmjnnemhoeolgaaGreat.K
noncomputable section
namespace Go.Proofs.YtmjnnemhoeolgaaGreat.K
open Go.RowKit
def Zj {α:Type}(m:α->Bool):List α->Option Nat
 | []=>none
 |a::l=>match Zj m l with
  |some k=>some (k+1)
  |none=>if m a then some 0 else none
theorem Qs7 {α:Type}{m:α->Bool}{l2:List α}: ∀ l1:List α,Zj m (l1++l2)=match Zj m l2 with|some k=>some (l1.length+k)|none=>Zj m l1
 | []=>by
  simp only [BY,Bw,DN]
  cases Zj m l2<;>rfl
 |a::l1=>by
  simp only [Du,Zj,Qs7 l1,Bo]
  cases Zj m l2 with
  |none=>rfl
  |some k=>simp only [Bb];omega
theorem Qs8 {α:Type}{m:α->Bool}: ∀ {l:List α},Zj m l=none↔ ∀ a,a∈l->m a=false
 | []=>by simp [Zj]
 |a::l=>by
  have ih:=Qs8 (m:=m) (l:=l)
  simp only [Zj]
  cases h:Zj m l with
  |some k=>
   have: ¬ ∀ a,a∈l->m a=false:=fun g=>by rw [ih.2 g] at h;cases h
   simp only [BD,forall_eq_or_imp,reduceCtorEq,false_iff,not_and]
   exact fun _=>this
  |none=>
   have g:=ih.1 h
   cases hm:m a<;>simp_all
theorem QiE {α:Type}{m:α->Bool}: ∀ {l:List α} {k:Nat},Zj m l=some k↔ ∃ h:k<l.length,m l[k]=true∧ ∀ j (hj:j<l.length),k<j->m l[j]=false
 | [],k=>by simp [Zj]
 |a::l,k=>by
  have ih:= @QiE α m l
  simp only [Zj]
  cases h:Zj m l with
  |some i=>
   obtain ⟨h1,h2,h3⟩:=ih.1 h
   simp only [Bb]
   constructor
   ·rintro rfl
    refine ⟨by simp;omega,by simpa using h2,fun j hj hk=> ?_⟩
    cases j with
    |zero=>omega
    |succ j=>simpa using h3 j (by simpa using hj) (by omega)
   ·rintro ⟨g1,g2,g3⟩
    cases k with
    |zero=>
     have:=g3 (i+1) (by simp;omega) (by omega)
     simp [h2] at this
    |succ k=>
     have g1':k<l.length:=by simpa using g1
     simp only [DG] at g2
     have:Zj m l=some k:=ih.2 ⟨g1',g2,fun j hj hk=>by have:=g3 (j+1) (by rw [Bo];omega) (by omega);rwa [DG] at this⟩
     rw [this] at h
     injection h with h
     omega
  |none=>
   have g:=Qs8.1 h
   cases hm:m a with
   |true=>
    simp only [if_true,Bb]
    constructor
    ·rintro rfl
     refine ⟨by simp,by simpa using hm,fun j hj hk=> ?_⟩
     cases j with
     |zero=>omega
     |succ j=>simp only [DG];exact g _ (BE _)
    ·rintro ⟨g1,g2,g3⟩
     cases k with
     |zero=>rfl
     |succ k=>
      simp only [DG] at g2
      rw [g _ (BE _)] at g2
      cases g2
   |false=>
    simp only [BJ,Dr,reduceCtorEq,false_iff]
    rintro ⟨g1,g2,g3⟩
    cases k with
    |zero=>simp [hm] at g2
    |succ k=>
     simp only [DG] at g2
     rw [g _ (BE _)] at g2
     cases g2
theorem QEx {α:Type}(l:List α)(a:α):Yz (l++[a])=((l.length:Int),(a,()))::Yz l:=by
 unfold Yz
 simp [List.zipIdx_append]
theorem QEy {α:Type}{P:List α->Prop}(h0:P [])(h1: ∀ l a,P l->P (l++[a]))(l:List α):P l:=by
 have: ∀ r:List α,P r.reverse:=by
  intro r
  induction r with
  |nil=>exact h0
  |cons a r ih=>rw [List.reverse_cons];exact h1 _ _ ih
 have h:=this l.reverse
 rwa [List.reverse_reverse] at h
theorem QEz {α:Type}{m:α->Bool}(l:List α):((Yz l).find? fun z=>m z.2.1).map (·.1)=(Zj m l).map fun k:Nat=>(k:Int):=by
 induction l using QEy with
 |h0=>rfl
 |h1 l a ih=>
  rw [QEx,List.find?_cons,Qs7]
  simp only [Zj]
  cases hm:m a
  ·simpa using ih
  ·simp
def OD (rs:List Rule)(u:Keep)(p d:Int):Option Nat:=Zj (fun r=>EP r u p d) rs
theorem Qs9 {y:Policy}{u:Keep}{p d:Int}:Z4 y u p d=match OD y.1 u p d with|some k=>(k:Int)|none=> -1:=by
 unfold Z4 Eg OD
 rw [QEz (m:=fun r=>EP r u p d)]
 cases Zj (fun r=>EP r u p d) y.1<;>rfl
theorem QEA {y:Policy}{u:Keep}{p d:Int}: -1<=Z4 y u p d/\Z4 y u p d<y.1.length:=by
 rw [Qs9]
 cases h:OD y.1 u p d with
 |none=>simp only;omega
 |some k=>
  obtain ⟨h1,_⟩:=QiE.1 h
  simp only
  omega
def allL (rs:List Rule)(u:Keep)(p d:Int):Bool:=match OD rs u p d with
 |some k=>(rs[k]?.map fun r:Rule=>r.1).getD true
 |none=>true
def GC (y:Policy)(u:Keep)(p d:Int):Bool:=allL y.1 u p d
def ends (rs:List Rule):List Int:=rs.flatMap fun r=>[r.2.2.2.2.1,r.2.2.2.2.2.1]
end Go.Proofs.YtmjnnemhoeolgaaGreat.K
