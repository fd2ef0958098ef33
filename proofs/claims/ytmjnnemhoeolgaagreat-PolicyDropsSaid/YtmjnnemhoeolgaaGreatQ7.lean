import Derived.Test.YtmjnnemhoeolgaaGreatQ6
set_option linter.unusedSimpArgs false
set_option linter.unusedVariables false
noncomputable section
namespace Go.Proofs.YtmjnnemhoeolgaaGreat.K
open Go.RowKit
noncomputable section
def W6:List Keep:=[(2,(0,())),(1,(0,())),(5,(2048,())),(16,(128,())),(3,(0,())),(15,(168,()))]
def Z8:Nat->Int->Dice->List Link×Dice
 |0,_,d=>([],d)
 |n+1,day,d=>((lgt Qe W6 (Qj d 6).toNat,(day,()))::(Z8 n (Qf .i64 (Qf .i64 day 1) (dof (Qc d 6) [5,30,0,100])) (QM (Qc d 6) [5,30,0,100])).1,(Z8 n (Qf .i64 (Qf .i64 day 1) (dof (Qc d 6) [5,30,0,100])) (QM (Qc d 6) [5,30,0,100])).2)
def OJ (d:Dice):Dice:=Qc (Qc (Qc (Qc d 2) 4) 20) 3
def Jw (d:Dice):List Link×Dice:=Z8 (Qf .i64 1 (Qj (Qc (Qc (Qc d 2) 4) 20) 3)).toNat (Qj (Qc (Qc d 2) 4) 20) (OJ d)
def OK (d:Dice)(s:ByteArray):Item:=(s,(Qf .i64 1 (Qj d 2),(Qf .i64 1 (Qj (Qc d 2) 4),((Jw d).1,(Qf .i64 (lgt J1 (Jw d).1 0).2.1 (dof (Jw d).2 [50,300,0,3000]),())))))
def GI (d:Dice)(_s:ByteArray):Dice:=QM (Jw d).2 [50,300,0,3000]
def Qdm (d:Dice)(_s:ByteArray):Bool:=dOk d
theorem QGP {n:Nat}: ∀ {day:Int} {d:Dice},dOk d=true->dOk (Z8 n day d).2=true:=by
 induction n with
 |zero=>exact fun h=>h
 |succ n ih=>exact fun h=>ih (Fl (l:=[5,30,0,100]) (QO h))
theorem QuA {d:Dice}(h:dOk d=true):dOk (Jw d).2=true:=QGP (QO (QO (QO (QO h))))
theorem QuB {d:Dice}{s:ByteArray}(h:dOk d=true):dOk (GI d s)=true:=Fl (QuA h)
theorem QjP: ∀ (n:Nat) (day:Int) (d:Dice),(Z8 n day d).1.length=n
 |0,_,_=>rfl
 |n+1,day,d=>by simp only [Z8,Bt,QjP n]
theorem QGQ:W6.all JU=true:=by kernel_rfl
theorem QGR {y:Ty}{l:List y.T}{i:Nat}(h:i<l.length):lgt y l i∈l:=by
 rw [QS (y:=y) h]
 exact Bu h
theorem QGS {e:Dice}:0<=dof e [5,30,0,100]/\dof e [5,30,0,100]<=100:=by
 have h:=Il (d:=e) (l:=[5,30,0,100]) (by decide)
 simp only [BX,Dl,or_false] at h
 omega
theorem QuC: ∀ (n:Nat) (day:Int) (d:Dice) (pv:Option Int),n<=3->0<=day->day+101*n<=1000->(∀ e,pv=some e->e<day)->YM pv (Z8 n day d).1=true
 |0,_,_,pv,_,_,_,_=>by cases pv<;>rfl
 |n+1,day,d,pv,h1,h2,h3,h4=>by
  have hv:=JR (d:=d) (n:=6) (by omega)
  have hs:=QGS (e:=Qc d 6)
  have e1:Qf .i64 (Qf .i64 day 1) (dof (Qc d 6) [5,30,0,100])=day+1+dof (Qc d 6) [5,30,0,100]:=by rw [JD (a:=day) (b:=1) (by omega),JD (by omega)]
  unfold Z8
  rw [Qhy,e1]
  have hu:JU (lgt Qe W6 (Qj d 6).toNat)=true:=Bf.1 QGQ _ (QGR (y:=Qe) (by have:W6.length=6:=rfl;omega))
  have hr:=QuC n (day+1+dof (Qc d 6) [5,30,0,100]) (QM (Qc d 6) [5,30,0,100]) (some day) (by omega) (by omega) (by omega) (fun e he=>by injection he;omega)
  simp only [hu,hr,Be (show 0<=day/\day<=40000 by omega),BC,Db]
  cases pv with
  |none=>rfl
  |some e=>exact Be (h4 e rfl)
theorem QGT: ∀ (n:Nat) (day:Int) (d:Dice),0<n->((Z8 n day d).1.headD ((0,(0,())),(0,()))).2.1=day
 |0,_,_,h=>by omega
 |n+1,day,d,_=>rfl
theorem QGU (d:Dice):1<=(Jw d).1.length/\(Jw d).1.length<=3:=by
 have b3:=JR (d:=Qc (Qc (Qc d 2) 4) 20) (n:=3) (by omega)
 have e3:Qf .i64 1 (Qj (Qc (Qc (Qc d 2) 4) 20) 3)=1+Qj (Qc (Qc (Qc d 2) 4) 20) 3:=JD (by omega)
 unfold Jw
 rw [QjP,e3]
 omega
theorem QGV (d:Dice){s:ByteArray}(hs:Jv s=true):J0 (OK d s)=true:=by
 have b2:=JR (d:=d) (n:=2) (by omega)
 have b4:=JR (d:=Qc d 2) (n:=4) (by omega)
 have b20:=JR (d:=Qc (Qc d 2) 4) (n:=20) (by omega)
 have b3:=JR (d:=Qc (Qc (Qc d 2) 4) 20) (n:=3) (by omega)
 have e2:Qf .i64 1 (Qj d 2)=1+Qj d 2:=JD (by omega)
 have e4:Qf .i64 1 (Qj (Qc d 2) 4)=1+Qj (Qc d 2) 4:=JD (by omega)
 have e3:Qf .i64 1 (Qj (Qc (Qc (Qc d 2) 4) 20) 3)=1+Qj (Qc (Qc (Qc d 2) 4) 20) 3:=JD (by omega)
 have hl:=QGU d
 have hh:((Jw d).1.headD ((0,(0,())),(0,()))).2.1=Qj (Qc (Qc d 2) 4) 20:=QGT _ _ _ (by rw [e3];omega)
 have e0:lgt J1 (Jw d).1 0=(Jw d).1.headD ((0,(0,())),(0,())):=by
  cases hq:(Jw d).1 with
  |nil=>rw [hq] at hl;simp at hl
  |cons a l=>rfl
 have hu:0<=dof (Jw d).2 [50,300,0,3000]/\dof (Jw d).2 [50,300,0,3000]<=3000:=by
  have h:=Il (d:=(Jw d).2) (l:=[50,300,0,3000]) (by decide)
  simp only [BX,Dl,or_false] at h
  omega
 have eu:Qf .i64 (lgt J1 (Jw d).1 0).2.1 (dof (Jw d).2 [50,300,0,3000])=(lgt J1 (Jw d).1 0).2.1+dof (Jw d).2 [50,300,0,3000]:=JD (by rw [e0,hh];omega)
 refine Zl.2 ⟨hs, ?_, ?_, ?_, ?_, ?_⟩
 ·show 1<=Qf .i64 1 (Qj d 2)/\Qf .i64 1 (Qj d 2)<=2
  omega
 ·show 1<=Qf .i64 1 (Qj (Qc d 2) 4)/\Qf .i64 1 (Qj (Qc d 2) 4)<=4
  omega
 ·show 1<=(Jw d).1.length/\(Jw d).1.length<=8
  omega
 ·exact QuC _ _ _ none (by rw [e3];omega) (by omega) (by omega) (fun e he=>by cases he)
 ·show ((Jw d).1.headD ((0,(0,())),(0,()))).2.1<=Qf .i64 (lgt J1 (Jw d).1 0).2.1 (dof (Jw d).2 [50,300,0,3000])/\Qf .i64 (lgt J1 (Jw d).1 0).2.1 (dof (Jw d).2 [50,300,0,3000])<=40000
  rw [eu,e0,hh]
  omega
abbrev Qdn:Sh:=⟨[(0,.ptr 50000 0),(4,.ptr 4 0),(5,.ptr 5 0),(6,.ty tI),(7,.ty tI)],[(4,.box Je),(5,.bag [.ty .str,.ty tI,.ty tI,.ms 20503,.ty tI]),(43,.no),(20503,.arr 153 J1),(50000,.box QI)]⟩
abbrev QGW:Sh:=⟨[(0,.ptr 50000 0),(4,.ptr 4 0),(5,.ptr 5 0)],[(4,.box Je),(5,.bag [.ty .str,.ty tI,.ty tI,.ms 20503,.ty tI]),(43,.no),(20503,.arr 153 J1),(50000,.box QI)]⟩
def QjQ:Fg:=Qdn.f
def QuD:TC:=aF Tryz.f40 [(122,.nf 5 3 153 20503),(122,pL 0 QjQ),(1955,.fg ⟨[(0,none),(4,none),(5,none)],[(4,some Je),(5,some Je),(43,none),(20503,none),(50000,some QI)]⟩),(62,pD [(0,[5,43,20503]),(1,[5,43,20503]),(2,[43,20503]),(3,[43,20503]),(4,[43,20503]),(5,[50000]),(6,[]),(7,[58,5058,10058,15058,50000]),(8,[]),(9,[5,43,20503]),(10,[4,5,43,20503])] (.of [0,1,2,3,4,5,6,7,8,9,10]))]
def QuE:TC:=lb 0 QuD
def QuF (x6 x7:Int)(y4:Item)(y5_0:ByteArray)(y5_1 y5_2 y5_4:Int)(Zi:List Link)(Qb:Dice):VS:=Qdn.st ((),(),(),x6,x7,()) (y4,(y5_0,y5_1,y5_2,(),y5_4,()),(),Zi,Qb,())
def QjR (y4:Item)(y5_0:ByteArray)(y5_1 y5_2 y5_4:Int)(Zi:List Link)(Qb:Dice):VS:=QGW.st ((),(),(),()) (y4,(y5_0,y5_1,y5_2,(),y5_4,()),(),Zi,Qb,())
def QGX:VS->Option (Bool×List (Bool×Exit×VS)):=mkL Qdn (fun x y=>(dOk y.2.2.2.2.1&&decide (0<=x.2.2.2.2.1/\x.2.2.2.2.1<=100/\y.2.2.2.1.length+x.2.2.2.2.1.toNat<=1000))) (fun x y=>[(true,.exit 0,QjR (y.1) (y.2.1.1) (y.2.1.2.1) (y.2.1.2.2.1) (y.2.1.2.2.2.2.1) (y.2.2.2.1++(Z8 x.2.2.2.2.1.toNat x.2.2.2.1 y.2.2.2.2.1).1) ((Z8 x.2.2.2.2.1.toNat x.2.2.2.1 y.2.2.2.2.1).2))])
def QjS:G:=gG 62 [(22,Us),(26,Qat)] (Ls [QGX])
def QjT (x6 x7:Int)(y4:Item)(y5_0:ByteArray)(y5_1 y5_2 y5_4:Int)(Zi:List Link)(Qb:Dice):OX:=Qv (QB QjS QjQ QuE) (QuF x6 x7 y4 y5_0 y5_1 y5_2 y5_4 Zi Qb)
def OL (kk:Int->Int->Item->ByteArray->Int->Int->Int->List Link->Dice->OX)(x6 x7:Int)(y4:Item)(y5_0:ByteArray)(y5_1 y5_2 y5_4:Int)(Zi:List Link)(Qb:Dice):OX:=
 let a1:=(lgt Qe ([(2,(0,())),(1,(0,())),(5,(2048,())),(16,(128,())),(3,(0,())),(15,(168,()))]) (Int.toNat (Qj Qb 6)))
 let a2:=((a1.1,((a1.2).1,())),(x6,()))
 let a3:=Qc Qb 6
 br (igt x7 0) (br (QV Qb 6) (br (cIx ([(2,(0,())),(1,(0,())),(5,(2048,())),(16,(128,())),(3,(0,())),(15,(168,()))]) (Qj Qb 6)) (br (QK Zi ([a2]) 24) (br (Yf a3 ([5,30,0,100])) (kk (Qf .i64 (Qf .i64 x6 1) (dof a3 ([5,30,0,100]))) (Q6 .i64 x7 1) y4 y5_0 y5_1 y5_2 y5_4 (Zi++([a2])) (QM a3 ([5,30,0,100]))) none) none) none) none) (some (.exit 0,QjR y4 y5_0 y5_1 y5_2 y5_4 Zi Qb))
def OM (x6 x7:Int)(y4:Item)(y5_0:ByteArray)(y5_1 y5_2 y5_4:Int)(Zi:List Link)(Qb:Dice):OX:=
 let a1:=Z8 x7.toNat x6 Qb
 some (.exit 0,QjR (y4) (y5_0) (y5_1) (y5_2) (y5_4) (Zi++a1.1) (a1.2))
theorem QuG (x6 x7:Int)(y4:Item)(y5_0:ByteArray)(y5_1 y5_2 y5_4:Int)(Zi:List Link)(Qb:Dice):QjT x6 x7 y4 y5_0 y5_1 y5_2 y5_4 Zi Qb=OL QjT x6 x7 y4 y5_0 y5_1 y5_2 y5_4 Zi Qb:=lnT (x:=OL (fun x6 x7 y4 y5_0 y5_1 y5_2 y5_4 Zi Qb=>some (.normal,QuF x6 x7 y4 y5_0 y5_1 y5_2 y5_4 Zi Qb)) x6 x7 y4 y5_0 y5_1 y5_2 y5_4 Zi Qb) (by simp only [OL,nxA];rfl)
def r_f40 (d0:Dice)(p1:ByteArray):OV:=
 let a2:=Qc (Qc (Qc d0 2) 4) 20
 let a3:=Qf .i64 1 (Qj a2 3)
 let a1:=Z8 a3.toNat (Qj (Qc (Qc d0 2) 4) 20) (Qc a2 3)
 br (QV d0 2) (br (QV (Qc d0 2) 4) (br (QV (Qc (Qc d0 2) 4) 20) (br (QV a2 3) (br (dOk (Qc a2 3)&&decide (0<=a3/\a3<=100/\([]:List Link).length+a3.toNat<=1000)) (br (cIx (([]:List Link)++a1.1) 0) (br (cLd (([]:List Link)++a1.1) (Int.toNat 0)) (br (Yf (a1.2) ([50,300,0,3000])) (some (.t Je ((p1),((Qf .i64 1 (Qj d0 2)),((Qf .i64 1 (Qj (Qc d0 2) 4)),((([]:List Link)++a1.1),((Qf .i64 (((lgt J1 (([]:List Link)++a1.1) (Int.toNat 0)).2).1) (dof (a1.2) ([50,300,0,3000]))),()))))),[.box (.t QI (QM (a1.2) ([50,300,0,3000])))])) none) none) none) none) none) none) none) none
theorem QGY (x6 x7:Int)(y4:Item)(y5_0:ByteArray)(y5_1 y5_2 y5_4:Int)(Zi:List Link)(Qb:Dice)(h:(dOk Qb&&decide (0<=x7/\x7<=100/\Zi.length+x7.toNat<=1000))=true):QjT x6 x7 y4 y5_0 y5_1 y5_2 y5_4 Zi Qb=OM x6 x7 y4 y5_0 y5_1 y5_2 y5_4 Zi Qb:=by
 simp only [Bc,Ba] at h
 obtain ⟨hd,h1,h2q,h3⟩:=h
 obtain ⟨k,rfl⟩:=Bq h1
 rw [Bd] at h3
 have h2:k<=100:=by omega
 clear h1 h2q
 induction k generalizing Zi Qb x6 with
 |zero=>
  rw [QuG]
  have e1:igt ((0:Nat):Int) 0=false:=rfl
  simp only [OL,e1,Qh,OM,Bd,Z8,BO]
 |succ k ih=>
  rw [QuG]
  have e1:igt ((k+1:Nat):Int) 0=true:=by simp only [igt,Ba];omega
  have e2:Q6 .i64 ((k+1:Nat):Int) 1=(k:Int):=by rw [Xk (by omega)];omega
  have hv:=JR (d:=Qb) (n:=6) (by omega)
  have hc:cIx W6 (Qj Qb 6)=true:=by
   have:W6.length=6:=rfl
   simp only [cIx,Ba]
   omega
  have hla:OM x6 ((k+1:Nat):Int) y4 y5_0 y5_1 y5_2 y5_4 Zi Qb=OM (Qf .i64 (Qf .i64 x6 1) (dof (Qc Qb 6) [5,30,0,100])) (k:Int) y4 y5_0 y5_1 y5_2 y5_4 (Zi++[(lgt Qe W6 (Qj Qb 6).toNat,(x6,()))]) (QM (Qc Qb 6) [5,30,0,100]):=by
   simp only [OM,Bd,Z8,BQ]
   rfl
  rw [hla, ← ih _ _ _ (Fl (QO hd)) (by simp;omega) (by omega)]
  have n6:QV Qb 6=true:=by simp [QV,hd]
  have f1:Yf (Qc Qb 6) [5,30,0,100]=true:=by simp [Yf,QO hd]
  simp only [OL,e1,e2,n6,f1,Qd,show ([(2,(0,())),(1,(0,())),(5,(2048,())),(16,(128,())),(3,(0,())),(15,(168,()))]:List Keep)=W6 from rfl,hc]
  rw [QAa (by simp;omega) (by omega),Qd]
  show br (cIx W6 (Qj Qb 6)) _ _=_
  rw [hc,Qd]
theorem QGZ:LO QjS QjQ QuE 0:=QH (s:=Qdn) fun x y h _ q=>by simp only [QE,QF] at q;exact (QGY x.2.2.2.1 x.2.2.2.2.1 y.1 y.2.1.1 y.2.1.2.1 y.2.1.2.2.1 y.2.1.2.2.2.2.1 y.2.2.2.1 y.2.2.2.2.1 h).trans q
theorem s_f40 (d:Dice)(s:ByteArray)(h:Qdm d s=true):r_f40 d s=some (.t Je (OK d s),[.box (.t QI (GI d s))]):=by
 have h:dOk d=true:=h
 have n2:QV d 2=true:=by simp [QV,h]
 have n4:QV (Qc d 2) 4=true:=by simp [QV,QO h]
 have n20:QV (Qc (Qc d 2) 4) 20=true:=by simp [QV,QO (QO h)]
 have n3:QV (Qc (Qc (Qc d 2) 4) 20) 3=true:=by simp [QV,QO (QO (QO h))]
 have b3:=JR (d:=Qc (Qc (Qc d 2) 4) 20) (n:=3) (by omega)
 have e3:Qf .i64 1 (Qj (Qc (Qc (Qc d 2) 4) 20) 3)=1+Qj (Qc (Qc (Qc d 2) 4) 20) 3:=JD (by omega)
 have hl:=QjP (Qf .i64 1 (Qj (Qc (Qc (Qc d 2) 4) 20) 3)).toNat (Qj (Qc (Qc d 2) 4) 20) (OJ d)
 have hd3:dOk (OJ d)=true:=QO (QO (QO (QO h)))
 have hL:dOk (Jw d).2=true:=QuA h
 have f5:Yf (Jw d).2 [50,300,0,3000]=true:=by simp [Yf,hL]
 have hlen:0<(Jw d).1.length:=by
  show 0<(Z8 _ _ _).1.length
  rw [hl]
  omega
 have c1:cIx (Jw d).1 0=true:=by simp only [cIx,Ba];omega
 have c2:cLd (Jw d).1 (Int.toNat 0)=true:=by simp only [cLd,Ba];exact hlen
 simp only [r_f40,n2,n4,n20,n3,Qd,BR,show Qc (Qc (Qc (Qc d 2) 4) 20) 3=OJ d from rfl,hd3,BC]
 rw [Fi ⟨by omega,by omega,by simp;omega⟩,Qd]
 simp only [show Z8 (Qf .i64 1 (Qj (Qc (Qc (Qc d 2) 4) 20) 3)).toNat (Qj (Qc (Qc d 2) 4) 20) (OJ d)=Jw d from rfl,c1,c2,f5,Qd]
 rfl
def QuH:Ent:=We QI (.pr .str .nil) (fun d x=>(Qdm d x.1)) (fun d x=>(.t Je (OK d x.1))) (fun d x=>(GI d x.1))
theorem ms_f40:EM 40 QuH:=mS (lk:=lkL (lkc QGZ lkn)) QjS QuD [((.c 4 true 5),some Je)] false (gB (gD Ge (gD Qgc gN))) fun m=>Ux m rfl fun d x hok=>kT (s_f40 d x.1 hok)
def JO:Keep:=(5,(2048,()))
def QuI:TC:=aF Tryz.f39 []
def QuJ:List (RV×Option Ty):=[((.c 0 true 2),some Qe)]
def g_f39:G:=gG 2 [] (fun _ _=>none)
def r_f39  : OV:=some (.t Qe (5,(2048,())),[])
theorem e_f39  : JS g_f39 QuI QuJ false [] []=r_f39  :=by kernel_rfl
theorem s_f39:r_f39=some (.t Qe JO,[]):=rfl
def QjU:Ent:=Ql .nil (fun x=>true) (fun x=>(.t Qe JO))
theorem QuK:EM 39 QjU:=mS g_f39 QuI QuJ false (gB gN) fun m=>Qn m fun x _=>(e_f39 ).trans (s_f39)
def leafC (nm:ByteArray)(k:Keep)(id to:Int):Certificate:=(id,(sRoot,(nm,(k,(id,((3,(0,())),(0,(to,(false,(0,([nm],((0,(0,())),()))))))))))))
def ZU (nm:ByteArray)(k:Keep)(id a to:Int):Identity:=(k,(id,([(Wz (leafC nm k id to) a).1],())))
def Ew (nm:ByteArray)(_k:Keep)(_id _a _to:Int):Bool:=decide (nm.size<=1000)
def tc_f38:TC:=aF Tryz.f38 []
def g_f38:G:=gG 32 [(68,QmR)] (fun _ _=>none)
def r_f38 (p0:ByteArray)(p1:Keep)(p2 p3 p4:Int):OV:=
 let a1:=((Wz (p2,((ByteArray.mk #[114,111,111,116]),(p0,((p1.1,(p1.2.1,())),(p2,((3,(0,())),(0,(p4,(false,(0,([p0],((0,(0,())),())))))))))))) p3).1)
 let a4:=(((a1.2).2).2)
 let a2:=((a4.2).2)
 let a3:=((((a2.2).2).2).2)
 br (QfC (p2,((ByteArray.mk #[114,111,111,116]),(p0,((p1.1,(p1.2.1,())),(p2,((3,(0,())),(0,(p4,(false,(0,([p0],((0,(0,())),())))))))))))) p3) (some (.t Q1 ((p1.1,(p1.2.1,())),(p2,([(a1.1,((a1.2).1,(((a1.2).2).1,(((a4.1).1,(((a4.1).2).1,())),((a4.2).1,(((a2.1).1,(((a2.1).2).1,())),((a2.2).1,(((a2.2).2).1,((((a2.2).2).2).1,(a3.1,((a3.2).1,(((((a3.2).2).1).1,(((((a3.2).2).1).2).1,())),()))))))))))))],()))),[])) none
theorem s_f38 (nm:ByteArray)(k:Keep)(id a to:Int)(h:Ew nm k id a to=true):r_f38 nm k id a to=some (.t Q1 (ZU nm k id a to),[]):=by
 have hs:nm.size<=1000:=Bx h
 unfold r_f38
 exact brY (QEn (by decide) hs (l:=[nm]) (Nat.le_succ 1) (fun t ht=>by rw [Dq.1 ht];omega)) rfl
def QjV:Ent:=Ql (.pr .str (.pr Qe (.pr tI (.pr tI (.pr tI .nil))))) (fun x=>(Ew x.1 x.2.1 x.2.2.1 x.2.2.2.1 x.2.2.2.2.1)) (fun x=>(.t Q1 (ZU x.1 x.2.1 x.2.2.1 x.2.2.2.1 x.2.2.2.2.1)))
theorem QuL:EM 38 QjV:=mS g_f38 tc_f38 [((.c 10 true 4),some Q1)] false (gB (gD ms_f68 gN)) fun m=>Qn m fun x hok=>kT (s_f38 x.1 x.2.1 x.2.2.1 x.2.2.2.1 x.2.2.2.2.1 hok)
set_option maxRecDepth 100000 in
end
end Go.Proofs.YtmjnnemhoeolgaaGreat.K
noncomputable section
namespace Go.Proofs.YtmjnnemhoeolgaaGreat.K
open Go.RowKit
noncomputable section
attribute [local irreducible] epV epN prZ
end
end Go.Proofs.YtmjnnemhoeolgaaGreat.K
noncomputable section
namespace Go.Proofs.YtmjnnemhoeolgaaGreat.K
open Go.RowKit
noncomputable section
theorem QEp {k:Keep}{id:Int}{l:List Certificate}(hk:Ya k 2=true)(hd:J2 id=true)(hl:l.length<=8)(h1:l.all QR=true)(h2:E8 k id l=true):YY k id l=true:=by
 simp only [Ya,Bc] at hk
 have h8:igt (Qa l) 8=false:=Bo (by simp only [Qa];omega)
 have hi:ine (Z9 k.1) 2=false:=by rw [GN,hk.2];rfl
 unfold YY
 rw [hk.1,hi,hd,h8,h1,h2]
 rfl
theorem QEq {c:Int}(h:1<=c/\c<=16):ieq (QX c).2 0=true:=by
 unfold QX
 rw [if_neg (by omega)]
 rfl
theorem QEr {l:List Int}(hn:l.Nodup)(hr: ∀ x∈l,1<=x/\x<=16):ZE l=true:=by
 have key: ∀ (k:Nat) (hk:k<l.length),(ieq (QX l[k]).2 0&& !Jo (l.take k) l[k])=true:=by
  intro k hk
  rw [QEq (hr _ (Bu hk)),BC,Br]
  unfold Jo
  rw [Bool.eq_false_iff]
  intro hc
  have hm:=BF.1 hc
  obtain ⟨j,hj,he⟩:=List.mem_iff_getElem.1 hm
  rw [B5] at hj
  rw [List.getElem_take] at he
  have:=(List.nodup_iff_pairwise_ne.1 hn)
  rw [List.pairwise_iff_getElem] at this
  exact this j k (by omega) hk (by omega) he
 simp only [ZE,Yu,Bf,List.mem_range'_1]
 intro k hk
 have hk2:k<l.length:=by omega
 simp only [Bk,Bh hk2,BI]
 exact key k hk2
def goodS (l:List Int):Prop:=l.Nodup∧ ∀ x∈l,1<=x/\x<=16
def Qix (l:List Int):Bool:= !igt (Qa l) 16&&(Y2 l&&l.all J2)
def Qiy (l:List Int):Bool:=Y2 l&&l.all XL
theorem QEs {e:Endpoint}(hw:XK e.1=true)(h1:1<=e.2.1)(h2:e.2.1<=e.2.2.1)(h3:e.2.2.1<=4)(hs:goodS (Qy e))(hi:(Qr e).length<=4)(hv:(Qr e).all XV=true)(ha:Qix (Q2 e)=true)(hh:Qiy (Q5 e)=true):QN e=true:=by
 simp only [Qix,Qiy,Bc] at ha hh
 have g1:ilt e.2.1 1=false:=Bo (by omega)
 have g2:igt e.2.1 e.2.2.1=false:=Bo (by omega)
 have g3:igt e.2.2.1 4=false:=Bo (by omega)
 have g4:igt (Qa (Qr e)) 4=false:=Bo (by simp only [Qa];omega)
 unfold QN
 rw [hw,g1,g2,g3,QEr hs.1 hs.2,g4,ha.1,ha.2.1,ha.2.2,hv,hh.1,hh.2]
 rfl
attribute [local irreducible] epV epN prZ
end
end Go.Proofs.YtmjnnemhoeolgaaGreat.K
noncomputable section
namespace Go.Proofs.YtmjnnemhoeolgaaGreat.K
open Go.RowKit
noncomputable section
end
end Go.Proofs.YtmjnnemhoeolgaaGreat.K
noncomputable section
namespace Go.Proofs.YtmjnnemhoeolgaaGreat.K.PE
open Go.RowKit
noncomputable section
-- loop 0: (x1 : ByteArray) (x6 : Int) (y4 : Endpoint) (y5_0 : ByteArray) (y5_1 : Int) (y5_2 : Int) (y5_4 : Bool) (y5_8 : Bool) (y15 : (List Int)) (QmA : (List Identity)) (Qb : Dice); out: ('exit', 0) (y4 : Endpoint) (y5_0 : ByteArray) (y5_1 : Int) (y5_2 : Int) (y5_4 : Bool) (y5_8 : Bool) (y15 : (List Int)) (QmA : (List Identity)) (Qb : Dice)
end
end Go.Proofs.YtmjnnemhoeolgaaGreat.K.PE
noncomputable section
namespace Go.Proofs.YtmjnnemhoeolgaaGreat.K
open Go.RowKit
noncomputable section
abbrev Yr:List ByteArray:=[(ByteArray.mk #[97,112,112]),(ByteArray.mk #[100,98]),(ByteArray.mk #[119,101,98])]
abbrev sSu:List (List Int):=[[10,8,2],[8,2],[2,10,8,3]]
abbrev sIt:List ByteArray:=[(ByteArray.mk #[98,97,99,107,117,112]),(ByteArray.mk #[100,101,101,100])]
def nm1 (s:ByteArray):Bool:=decide (s.size<=1000)
def U3 (d:Dice):List Int:=bif ieq (dof d [3,3,4]) 4 then [14]++lgt (.sl tI) sSu (Qj (QM d [3,3,4]) 3).toNat else lgt (.sl tI) sSu (Qj (QM d [3,3,4]) 3).toNat
def X7 (d:Dice)(k:Nat)(s:ByteArray):Endpoint:=(s,(1,(dof d [3,3,4],(U3 d,(done (Qc (QM d [3,3,4]) 3) 2,([ZU s JO (Qf .i64 100 (k:Int)) 1 901],([1],([2,3],(done (Qc (Qc (QM d [3,3,4]) 3) 2) 3,())))))))))
def Uh (d:Dice):Dice:=Qc (Qc (Qc (QM d [3,3,4]) 3) 2) 3
def ZM:List ByteArray->Nat->Dice->List Endpoint×Dice
 | [],_,d=>([],d)
 |s::r,k,d=>(X7 d k s::(ZM r (k+1) (Uh d)).1,(ZM r (k+1) (Uh d)).2)
def edZ:Nat->Int->Int->List Keep->Dice->List Keep×Dice
 |0,_,_,l,d=>(l,d)
 |m+1,i,k,l,d=>bif ine i k then (bif igt (Qj d 3) 0&&ilt (Qa l) 3 then edZ m i (k+1) (l++[(i,(k,()))]) (Qc d 3) else edZ m i (k+1) l (Qc d 3)) else edZ m i (k+1) l d
def edY:Nat->Nat->Int->List Keep->Dice->List Keep×Dice
 |0,_,_,l,d=>(l,d)
 |m+1,n,i,l,d=>edY m n (i+1) (edZ n i 0 l d).1 (edZ n i 0 l d).2
def itZ:Nat->Dice->List Item×Dice
 |0,d=>([],d)
 |n+1,d=>(OK (WV d sIt) (YQ d sIt)::(itZ n (GI (WV d sIt) (YQ d sIt))).1,(itZ n (GI (WV d sIt) (YQ d sIt))).2)
def Jq (d:Dice):List ByteArray:=lsl Yr 0 (Qf .i64 2 (Qj d 2))
def Zf (d:Dice):List Keep×Dice:=edY (Jq d).length (Jq d).length 0 [] (ZM (Jq d) 0 (Qc d 2)).2
def GZ (d:Dice):List Keep:=bif ieq (Qa (Zf d).1) 0 then [(0,(1,()))] else (Zf d).1
def sndIt (d:Dice):List Item×Dice:=itZ (Qj (Zf d).2 3).toNat (Qc (Zf d).2 3)
def QG (d:Dice):Estate:=((ZM (Jq d) 0 (Qc d 2)).1,(GZ d,((sndIt d).1,())))
def U4 (d:Dice):Dice:=(sndIt d).2
theorem QxP {d:Dice}(h:dOk d=true):dOk (Uh d)=true:=QO (QO (QO (Fl (l:=[3,3,4]) h)))
theorem QlN: ∀ (l:List ByteArray) (k:Nat) (d:Dice),dOk d=true->dOk (ZM l k d).2=true
 | [],_,_,h=>h
 |_::r,k,d,h=>QlN r (k+1) (Uh d) (QxP h)
theorem ES: ∀ (m:Nat) (i k:Int) (l:List Keep) (d:Dice),dOk d=true->l.length<=3->dOk (edZ m i k l d).2=true/\(edZ m i k l d).1.length<=3
 |0,_,_,_,_,h,hl=>⟨h,hl⟩
 |m+1,i,k,l,d,h,hl=>by
  unfold edZ
  cases ine i k with
  |false=>exact ES m i (k+1) l d h hl
  |true=>
   cases h1:igt (Qj d 3) 0 with
   |false=>exact ES m i (k+1) l (Qc d 3) (QO h) hl
   |true=>
    cases h2:ilt (Qa l) 3 with
    |false=>exact ES m i (k+1) l (Qc d 3) (QO h) hl
    |true=>
     have:l.length<3:=by have:=Bx h2;simp only [Qa] at this;omega
     exact ES m i (k+1) _ (Qc d 3) (QO h) (by simp only [Bl,Bp];omega)
theorem QlO: ∀ (m n:Nat) (i:Int) (l:List Keep) (d:Dice),dOk d=true->l.length<=3->dOk (edY m n i l d).2=true/\(edY m n i l d).1.length<=3
 |0,_,_,_,_,h,hl=>⟨h,hl⟩
 |m+1,n,i,l,d,h,hl=>by
  have:=ES n i 0 l d h hl
  exact QlO m n (i+1) _ _ this.1 this.2
theorem QlP {d:Dice}(h:dOk d=true):dOk (WV d sIt)=true:=QO (n:=2) h
theorem QlQ (d:Dice):Jq d=Yr.take 2∨Jq d=Yr:=by
 have hv:=JR (d:=d) (n:=2) (by omega)
 have e:Qf .i64 2 (Qj d 2)=2+Qj d 2:=JD (by omega)
 unfold Jq
 rw [e]
 rcases (show Qj d 2=0∨Qj d 2=1 by omega) with h|h<;>rw [h]
 ·exact .inl rfl
 ·exact .inr rfl
theorem ET (d:Dice):2<=(Jq d).length/\(Jq d).length<=3/\(Jq d).all nm1=true:=by
 rcases QlQ d with h|h<;>rw [h]<;>exact ⟨by decide,by decide,by decide⟩
abbrev QeK:Sh:=⟨[(0,.ptr 50000 0),(2,.ptr 2 0),(3,.ptr 3 0),(4,.ty (.sl .str)),(16,.ty (.sl .str)),(17,.ty tI),(18,.ty tI)],[(2,.box Qw),(3,.bag [.ms 20300,.ms 20301,.ms 20302]),(61,.no),(94,.no),(103,.no),(119,.no),(20300,.arr 61 Qo),(20301,.arr 47 Qe),(20302,.arr 106 Je),(50000,.box QI)]⟩
abbrev QJ9:Sh:=⟨[(0,.ptr 50000 0),(2,.ptr 2 0),(3,.ptr 3 0),(4,.ty (.sl .str))],[(2,.box Qw),(3,.bag [.ms 20300,.ms 20301,.ms 20302]),(61,.no),(94,.no),(103,.no),(119,.no),(20300,.arr 61 Qo),(20301,.arr 47 Qe),(20302,.arr 106 Je),(50000,.box QI)]⟩
abbrev QeL:Sh:=⟨[(0,.ptr 50000 0),(2,.ptr 2 0),(3,.ptr 3 0),(4,.ty (.sl .str)),(8,.ty tI),(65,.ty tI),(66,.ty tI),(70,.ty tI),(71,.ty tI)],[(2,.box Qw),(3,.bag [.ms 20300,.ms 20301,.ms 20302]),(61,.no),(94,.no),(103,.no),(119,.no),(20300,.arr 61 Qo),(20301,.arr 47 Qe),(20302,.arr 106 Je),(50000,.box QI)]⟩
abbrev QeM:Sh:=⟨[(0,.ptr 50000 0),(2,.ptr 2 0),(3,.ptr 3 0),(4,.ty (.sl .str)),(65,.ty tI),(66,.ty tI)],[(2,.box Qw),(3,.bag [.ms 20300,.ms 20301,.ms 20302]),(61,.no),(94,.no),(103,.no),(119,.no),(20300,.arr 61 Qo),(20301,.arr 47 Qe),(20302,.arr 106 Je),(50000,.box QI)]⟩
abbrev QKa:Sh:=⟨[(0,.ptr 50000 0),(2,.ptr 2 0),(3,.ptr 3 0)],[(2,.box Qw),(3,.bag [.ms 20300,.ms 20301,.ms 20302]),(61,.no),(94,.no),(103,.no),(119,.no),(20300,.arr 61 Qo),(20301,.arr 47 Qe),(20302,.arr 106 Je),(50000,.box QI)]⟩
abbrev QeN:Sh:=⟨[(0,.ptr 50000 0),(2,.ptr 2 0),(3,.ptr 3 0),(10,.ty tI)],[(2,.box Qw),(3,.bag [.ms 20300,.ty (.sl Qe),.ms 20302]),(61,.no),(94,.no),(103,.no),(119,.no),(20300,.arr 61 Qo),(20301,.no),(20302,.arr 106 Je),(50000,.box QI)]⟩
abbrev QKb:Sh:=⟨[(2,.ptr 2 0),(3,.ptr 3 0)],[(2,.box Qw),(3,.bag [.ms 20300,.ty (.sl Qe),.ms 20302]),(61,.no),(94,.no),(103,.no),(119,.no),(20300,.arr 61 Qo),(20301,.no),(20302,.arr 106 Je),(50000,.box QI)]⟩
def QlR:Fg:=QeK.f
def QlS:Fg:=QeL.f
def QlT:Fg:=QeM.f
def QlU:Fg:=QeN.f
def Vs:TC:=aF Tryz.f20 [(122,.nf 3 2 106 20302),(122,.nf 3 1 47 20301),(122,.nf 3 0 61 20300),(122,.nf 7 3 3 20703),(122,pL 0 QlR),(1957,.fg ⟨[(0,none),(2,none),(3,none),(4,some (.sl .str))],[(2,some Qw),(3,some Qw),(61,none),(94,none),(103,none),(119,none),(20300,none),(20301,none),(20302,none),(50000,some QI)]⟩),(15666,pD [(0,[]),(1,[50000]),(2,[]),(3,[26,5026,10026,15026,50000]),(4,[]),(5,[]),(6,[]),(7,[]),(8,[50000]),(9,[32,5032,10032,15032,50000]),(10,[]),(11,[]),(12,[50000]),(13,[36,5036,10036,15036,50000]),(14,[]),(15,[]),(16,[50000]),(17,[40,5040,10040,15040,50000]),(18,[]),(19,[7,5007,10007,15007]),(20,[7,45,48,20703])] (.one 0 (.one 1 (.one 2 (.one 4 (.one 5 (.one 6 (.one 7 (.one 8 (.one 12 (.one 14 (.one 15 (.one 16 (.alt 3 (.alt 9 (.one 10 (.one 11 (.alt 13 (.alt 17 (.of [18,19,20]) (.of [19,17,18,20])) (.of [19,13,17,18,20])))) (.of [19,9,10,11,13,17,18,20])) (.of [19,3,9,10,11,13,17,18,20]))))))))))))))),(250,.nf 3 2 106 20302),(250,.nf 3 0 61 20300),(250,.nf 3 1 47 20301),(250,pL 2 QlT),(4005,.fg ⟨[(0,none),(2,none),(3,none)],[(2,some Qw),(3,some Qw),(61,none),(94,none),(103,none),(119,none),(20300,none),(20301,none),(20302,none),(50000,some QI)]⟩),(64102,.nf 3 2 106 20302),(64102,.nf 3 0 61 20300),(64102,.nf 3 1 47 20301),(64102,pL 1 QlS),(1025637,.fg ⟨[(0,none),(2,none),(3,none),(4,some (.sl .str)),(65,some tI),(66,some tI)],[(2,some Qw),(3,some Qw),(61,none),(94,none),(103,none),(119,none),(20300,none),(20301,none),(20302,none),(50000,some QI)]⟩),(1018,.fz [20301,103]),(1018,.nf 3 1 47 20301),(1018,.nf 3 0 61 20300),(1018,.nf 3 2 106 20302),(1018,pL 3 QlU),(16291,.fg ⟨[(2,none),(3,none)],[(2,some Qw),(3,some Qw),(61,none),(94,none),(103,none),(119,none),(20300,none),(20301,none),(20302,none),(50000,some QI)]⟩),(16292,pD [(0,[3,61,94,103,119,20300,20301,20302]),(1,[3,61,94,103,119,20300,20301,20302]),(2,[50000]),(3,[50000]),(4,[]),(5,[116,5116,10116,15116,50000]),(6,[117,5117,10117,15117,50000]),(7,[]),(8,[2,3,61,94,103,119,5119,10119,15119,20300,20301,20302]),(9,[3,61,94,103,119,20300,20301,20302]),(10,[2,3,61,94,103,119,20300,20301,20302])] (.of [0,1,2,3,4,5,6,7,8,9,10]))]
def QxQ:TC:=lb 0 Vs
def QxR:TC:=lb 1 Vs
def QxS:TC:=lb 2 Vs
def QxT:TC:=lb 3 Vs
def QxU (x4 x16:List ByteArray)(x17 x18:Int)(y2:Estate)(Qi:List Endpoint)(Qp:List Keep)(Qk:List Item)(Qb:Dice):VS:=QeK.st ((),(),(),x4,x16,x17,x18,()) (y2,((),(),(),()),(),(),(),(),Qi,Qp,Qk,Qb,())
def QlV (x4:List ByteArray)(y2:Estate)(Qi:List Endpoint)(Qp:List Keep)(Qk:List Item)(Qb:Dice):VS:=QJ9.st ((),(),(),x4,()) (y2,((),(),(),()),(),(),(),(),Qi,Qp,Qk,Qb,())
def QxV (x4:List ByteArray)(x8 x65 x66 x70 x71:Int)(y2:Estate)(Qi:List Endpoint)(Qp:List Keep)(Qk:List Item)(Qb:Dice):VS:=QeL.st ((),(),(),x4,x8,x65,x66,x70,x71,()) (y2,((),(),(),()),(),(),(),(),Qi,Qp,Qk,Qb,())
def Vt (x4:List ByteArray)(x65 x66:Int)(y2:Estate)(Qi:List Endpoint)(Qp:List Keep)(Qk:List Item)(Qb:Dice):VS:=QeM.st ((),(),(),x4,x65,x66,()) (y2,((),(),(),()),(),(),(),(),Qi,Qp,Qk,Qb,())
def QlW (y2:Estate)(Qi:List Endpoint)(Qp:List Keep)(Qk:List Item)(Qb:Dice):VS:=QKa.st ((),(),(),()) (y2,((),(),(),()),(),(),(),(),Qi,Qp,Qk,Qb,())
def QxW (x10:Int)(y2:Estate)(y3_1:List Keep)(Qi:List Endpoint)(Qk:List Item)(Qb:Dice):VS:=QeN.st ((),(),(),x10,()) (y2,((),y3_1,(),()),(),(),(),(),Qi,(),Qk,Qb,())
def QlX (y2:Estate)(y3_1:List Keep)(Qi:List Endpoint)(Qk:List Item)(Qb:Dice):VS:=QKb.st ((),(),()) (y2,((),y3_1,(),()),(),(),(),(),Qi,(),Qk,Qb,())
def QKc:VS->Option (Bool×List (Bool×Exit×VS)):=mkL QeK (fun x y=>(Qz x.2.2.2.2.1 x.2.2.2.2.2.1 x.2.2.2.2.2.2.1&&(dOk y.2.2.2.2.2.2.2.2.2.1&&(decide (y.2.2.2.2.2.2.1.length<=x.2.2.2.2.2.2.1)&&x.2.2.2.2.1.all nm1)))) (fun x y=>[(true,.exit 0,QlV (x.2.2.2.1) (y.1) (y.2.2.2.2.2.2.1++(ZM (x.2.2.2.2.1.drop x.2.2.2.2.2.2.1.toNat) x.2.2.2.2.2.2.1.toNat y.2.2.2.2.2.2.2.2.2.1).1) (y.2.2.2.2.2.2.2.1) (y.2.2.2.2.2.2.2.2.1) ((ZM (x.2.2.2.2.1.drop x.2.2.2.2.2.2.1.toNat) x.2.2.2.2.2.2.1.toNat y.2.2.2.2.2.2.2.2.2.1).2))])
def QKd:VS->Option (Bool×List (Bool×Exit×VS)):=mkL QeL (fun x y=>(dOk y.2.2.2.2.2.2.2.2.2.1&&decide (0<=x.2.2.2.2.2.2.2.2.1/\x.2.2.2.2.2.2.2.2.1<=x.2.2.2.2.2.2.2.1/\x.2.2.2.2.2.2.2.1<=3/\y.2.2.2.2.2.2.2.1.length<=3))) (fun x y=>[(true,.exit 4,Vt (x.2.2.2.1) (x.2.2.2.2.2.1) (x.2.2.2.2.2.2.1) (y.1) (y.2.2.2.2.2.2.1) ((edZ (x.2.2.2.2.2.2.2.1-x.2.2.2.2.2.2.2.2.1).toNat x.2.2.2.2.1 x.2.2.2.2.2.2.2.2.1 y.2.2.2.2.2.2.2.1 y.2.2.2.2.2.2.2.2.2.1).1) (y.2.2.2.2.2.2.2.2.1) ((edZ (x.2.2.2.2.2.2.2.1-x.2.2.2.2.2.2.2.2.1).toNat x.2.2.2.2.1 x.2.2.2.2.2.2.2.2.1 y.2.2.2.2.2.2.2.1 y.2.2.2.2.2.2.2.2.2.1).2))])
def QKe:VS->Option (Bool×List (Bool×Exit×VS)):=mkL QeM (fun x y=>(dOk y.2.2.2.2.2.2.2.2.2.1&&decide (0<=x.2.2.2.2.2.1/\x.2.2.2.2.2.1<=x.2.2.2.2.1/\x.2.2.2.2.1<=3/\x.2.2.2.1.length<=3/\y.2.2.2.2.2.2.2.1.length<=3))) (fun x y=>[(true,.exit 2,QlW (y.1) (y.2.2.2.2.2.2.1) ((edY (x.2.2.2.2.1-x.2.2.2.2.2.1).toNat x.2.2.2.1.length x.2.2.2.2.2.1 y.2.2.2.2.2.2.2.1 y.2.2.2.2.2.2.2.2.2.1).1) (y.2.2.2.2.2.2.2.2.1) ((edY (x.2.2.2.2.1-x.2.2.2.2.2.1).toNat x.2.2.2.1.length x.2.2.2.2.2.1 y.2.2.2.2.2.2.2.1 y.2.2.2.2.2.2.2.2.2.1).2))])
def QKf:VS->Option (Bool×List (Bool×Exit×VS)):=mkL QeN (fun x y=>(dOk y.2.2.2.2.2.2.2.2.2.1&&decide (0<=x.2.2.2.1/\x.2.2.2.1<=3/\y.2.2.2.2.2.2.2.2.1.length+x.2.2.2.1.toNat<=100))) (fun x y=>[(true,.exit 6,QlX (y.1) (y.2.1.2.1) (y.2.2.2.2.2.2.1) (y.2.2.2.2.2.2.2.2.1++(itZ x.2.2.2.1.toNat y.2.2.2.2.2.2.2.2.2.1).1) ((itZ x.2.2.2.1.toNat y.2.2.2.2.2.2.2.2.2.1).2))])
def Ui:G:=⟨TYs,[45,103],122,EL [(22,Us),(26,Qat),(37,Qgb),(38,QjV),(39,QjU),(40,QuH),(41,Qr6)],Wr,(Ls [QKc,QKd,QKe,QKf]),IL [],RL []⟩
def Vu (x4 x16:List ByteArray)(x17 x18:Int)(y2:Estate)(Qi:List Endpoint)(Qp:List Keep)(Qk:List Item)(Qb:Dice):OX:=Qv (QB Ui QlR QxQ) (QxU x4 x16 x17 x18 y2 Qi Qp Qk Qb)
def G0 (kk:List ByteArray->List ByteArray->Int->Int->Estate->List Endpoint->List Keep->List Item->Dice->OX)(x4 x16:List ByteArray)(x17 x18:Int)(y2:Estate)(Qi:List Endpoint)(Qp:List Keep)(Qk:List Item)(Qb:Dice):OX:=
 let a5:=lgt .str x16 (Int.toNat x18)
 let a1:=ZU a5 JO (Qf .i64 100 x18) 1 901
 let a2:=(lgt (.sl tI) ([[10,8,2],[8,2],[2,10,8,3]]) (Int.toNat (Qj (QM Qb ([3,3,4])) 3)))
 let a3:=(Qc (QM Qb ([3,3,4])) 3)
 let a4:=((done a3 2),([(((a1.1).1,(((a1.1).2).1,())),((a1.2).1,(((a1.2).2).1,())))],([1],([2,3],((done (Qc a3 2) 3),())))))
 let a6:=(dof Qb ([3,3,4]))
 let a7:=Ew a5 JO (Qf .i64 100 x18) 1 901
 br (YF (Qc a3 2) 3) (br (ieq a6 4) (br (QK ([14]) a2 8) (br a7 (br (QK Qi ([(a5,(1,(a6,((([14])++a2),a4))))]) 144) (kk x4 x16 x17 (Qf .i64 x18 1) y2 (Qi++([(a5,(1,(a6,((([14])++a2),a4))))])) Qp Qk (Qc (Qc a3 2) 3)) none) none) none) (br a7 (br (QK Qi ([(a5,(1,(a6,(a2,a4))))]) 144) (kk x4 x16 x17 (Qf .i64 x18 1) y2 (Qi++([(a5,(1,(a6,(a2,a4))))])) Qp Qk (Qc (Qc a3 2) 3)) none) none)) none
def EU (kk:List ByteArray->List ByteArray->Int->Int->Estate->List Endpoint->List Keep->List Item->Dice->OX)(x4 x16:List ByteArray)(x17 x18:Int)(y2:Estate)(Qi:List Endpoint)(Qp:List Keep)(Qk:List Item)(Qb:Dice):OX:=br (YF (Qc (QM Qb ([3,3,4])) 3) 2) (G0 kk x4 x16 x17 x18 y2 Qi Qp Qk Qb) none
def EV (kk:List ByteArray->List ByteArray->Int->Int->Estate->List Endpoint->List Keep->List Item->Dice->OX)(x4 x16:List ByteArray)(x17 x18:Int)(y2:Estate)(Qi:List Endpoint)(Qp:List Keep)(Qk:List Item)(Qb:Dice):OX:=
 let a1:=(QM Qb ([3,3,4]))
 br (QV a1 3) (br (cIx ([[10,8,2],[8,2],[2,10,8,3]]) (Qj a1 3)) (EU kk x4 x16 x17 x18 y2 Qi Qp Qk Qb) none) none
def EW (kk:List ByteArray->List ByteArray->Int->Int->Estate->List Endpoint->List Keep->List Item->Dice->OX)(x4 x16:List ByteArray)(x17 x18:Int)(y2:Estate)(Qi:List Endpoint)(Qp:List Keep)(Qk:List Item)(Qb:Dice):OX:=
 let a1:=(QM Qb ([3,3,4]))
 let a2:=(Yf Qb ([3,3,4]))
 br (ilt x18 x17) (br (cIx x16 x18) (frk (br a2 (frk (br (QV a1 3) (br (cIx ([[10,8,2],[8,2],[2,10,8,3]]) (Qj a1 3)) (frk (br (YF (Qc a1 3) 2) (frk (G0 kk x4 x16 x17 x18 y2 Qi Qp Qk Qb) (G0 kk x4 x16 x17 x18 y2 Qi Qp Qk Qb)) none) (EU kk x4 x16 x17 x18 y2 Qi Qp Qk Qb)) none) none) (EV kk x4 x16 x17 x18 y2 Qi Qp Qk Qb)) none) (br a2 (EV kk x4 x16 x17 x18 y2 Qi Qp Qk Qb) none)) none) (some (.exit 0,QlV x4 y2 Qi Qp Qk Qb))
def G1 (x4 x16:List ByteArray)(x17 x18:Int)(y2:Estate)(Qi:List Endpoint)(Qp:List Keep)(Qk:List Item)(Qb:Dice):OX:=
 let a1:=ZM (x16.drop x18.toNat) x18.toNat Qb
 some (.exit 0,QlV (x4) (y2) (Qi++a1.1) (Qp) (Qk) (a1.2))
theorem QxX (x4 x16:List ByteArray)(x17 x18:Int)(y2:Estate)(Qi:List Endpoint)(Qp:List Keep)(Qk:List Item)(Qb:Dice):Vu x4 x16 x17 x18 y2 Qi Qp Qk Qb=EW Vu x4 x16 x17 x18 y2 Qi Qp Qk Qb:=lnT (x:=EW (fun x4 x16 x17 x18 y2 Qi Qp Qk Qb=>some (.normal,QxU x4 x16 x17 x18 y2 Qi Qp Qk Qb)) x4 x16 x17 x18 y2 Qi Qp Qk Qb) (by
 first
 |(simp only [Wv,EW,G0,EU,EV,Wv,FE,IA,IB,IC,ID]
   rfl)
 |(simp only [Wv,EW,G0,EU,EV,Wv]
   try generalize (QK Qi ([((lgt .str x16 (Int.toNat x18)),(1,((dof Qb ([3,3,4])),((([14])++(lgt (.sl tI) ([[10,8,2],[8,2],[2,10,8,3]]) (Int.toNat (Qj (QM Qb ([3,3,4])) 3)))),((done (Qc (QM Qb ([3,3,4])) 3) 2),([((((ZU (lgt .str x16 (Int.toNat x18)) JO (Qf .i64 100 x18) 1 901).1).1,((((ZU (lgt .str x16 (Int.toNat x18)) JO (Qf .i64 100 x18) 1 901).1).2).1,())),(((ZU (lgt .str x16 (Int.toNat x18)) JO (Qf .i64 100 x18) 1 901).2).1,((((ZU (lgt .str x16 (Int.toNat x18)) JO (Qf .i64 100 x18) 1 901).2).2).1,())))],([1],([2,3],((done (Qc (Qc (QM Qb ([3,3,4])) 3) 2) 3),())))))))))]) 144)=cq0
   try generalize ((Ew (lgt .str x16 (Int.toNat x18)) JO (Qf .i64 100 x18) 1 901))=cq1
   try generalize (QK ([14]) (lgt (.sl tI) ([[10,8,2],[8,2],[2,10,8,3]]) (Int.toNat (Qj (QM Qb ([3,3,4])) 3))) 8)=cq2
   try generalize (QK Qi ([((lgt .str x16 (Int.toNat x18)),(1,((dof Qb ([3,3,4])),((lgt (.sl tI) ([[10,8,2],[8,2],[2,10,8,3]]) (Int.toNat (Qj (QM Qb ([3,3,4])) 3))),((done (Qc (QM Qb ([3,3,4])) 3) 2),([((((ZU (lgt .str x16 (Int.toNat x18)) JO (Qf .i64 100 x18) 1 901).1).1,((((ZU (lgt .str x16 (Int.toNat x18)) JO (Qf .i64 100 x18) 1 901).1).2).1,())),(((ZU (lgt .str x16 (Int.toNat x18)) JO (Qf .i64 100 x18) 1 901).2).1,((((ZU (lgt .str x16 (Int.toNat x18)) JO (Qf .i64 100 x18) 1 901).2).2).1,())))],([1],([2,3],((done (Qc (Qc (QM Qb ([3,3,4])) 3) 2) 3),())))))))))]) 144)=cq3
   try generalize ((YF (Qc (Qc (QM Qb ([3,3,4])) 3) 2) 3))=cq4
   try generalize ((YF (Qc (QM Qb ([3,3,4])) 3) 2))=cq5
   try generalize (cIx ([[10,8,2],[8,2],[2,10,8,3]]) (Qj (QM Qb ([3,3,4])) 3))=cq6
   try generalize ((QV (QM Qb ([3,3,4])) 3))=cq7
   try generalize ((Yf Qb ([3,3,4])))=cq8
   try generalize (cIx x16 x18)=cq9
   simp only [brN,Wv,Bool.and_assoc,Bool.and_comm,Bool.and_left_comm,B2,Bool.and_self_left,FE,IA,IB,IC,ID]
   try rfl))
def QeO (x4:List ByteArray)(x8 x65 x66 x70 x71:Int)(y2:Estate)(Qi:List Endpoint)(Qp:List Keep)(Qk:List Item)(Qb:Dice):OX:=Qv (QB Ui QlS QxR) (QxV x4 x8 x65 x66 x70 x71 y2 Qi Qp Qk Qb)
def Vv (kk:List ByteArray->Int->Int->Int->Int->Int->Estate->List Endpoint->List Keep->List Item->Dice->OX)(x4:List ByteArray)(x8 x65 x66 x70 x71:Int)(y2:Estate)(Qi:List Endpoint)(Qp:List Keep)(Qk:List Item)(Qb:Dice):OX:=
 let a1:=Qf .i64 x71 1
 let a2:=Qc Qb 3
 br (ilt x71 x70) (br (ine x8 x71) (br (QV Qb 3) (br (igt (Qj Qb 3) 0) (br (ilt (Qa Qp) 3) (br (QK Qp ([(x8,(x71,()))]) 16) (kk x4 x8 x65 x66 x70 a1 y2 Qi (Qp++([(x8,(x71,()))])) Qk a2) none) (kk x4 x8 x65 x66 x70 a1 y2 Qi Qp Qk a2)) (kk x4 x8 x65 x66 x70 a1 y2 Qi Qp Qk a2)) none) (kk x4 x8 x65 x66 x70 a1 y2 Qi Qp Qk Qb)) (some (.exit 4,Vt x4 x65 x66 y2 Qi Qp Qk Qb))
def G2 (x4:List ByteArray)(x8 x65 x66 x70 x71:Int)(y2:Estate)(Qi:List Endpoint)(Qp:List Keep)(Qk:List Item)(Qb:Dice):OX:=
 let a1:=edZ (x70-x71).toNat x8 x71 Qp Qb
 some (.exit 4,Vt (x4) (x65) (x66) (y2) (Qi) (a1.1) (Qk) (a1.2))
theorem QxY (x4:List ByteArray)(x8 x65 x66 x70 x71:Int)(y2:Estate)(Qi:List Endpoint)(Qp:List Keep)(Qk:List Item)(Qb:Dice):QeO x4 x8 x65 x66 x70 x71 y2 Qi Qp Qk Qb=Vv QeO x4 x8 x65 x66 x70 x71 y2 Qi Qp Qk Qb:=lnT (x:=Vv (fun x4 x8 x65 x66 x70 x71 y2 Qi Qp Qk Qb=>some (.normal,QxV x4 x8 x65 x66 x70 x71 y2 Qi Qp Qk Qb)) x4 x8 x65 x66 x70 x71 y2 Qi Qp Qk Qb) (by simp only [Vv,nxA];rfl)
def QeP (x4:List ByteArray)(x65 x66:Int)(y2:Estate)(Qi:List Endpoint)(Qp:List Keep)(Qk:List Item)(Qb:Dice):OX:=Qv (QB Ui QlT QxS) (Vt x4 x65 x66 y2 Qi Qp Qk Qb)
def Vw (kk:List ByteArray->Int->Int->Estate->List Endpoint->List Keep->List Item->Dice->OX)(x4:List ByteArray)(x65 x66:Int)(y2:Estate)(Qi:List Endpoint)(Qp:List Keep)(Qk:List Item)(Qb:Dice):OX:=
 let a1:=(edZ ((Qa x4)-(0:Int)).toNat x66 (0:Int) Qp Qb)
 br (ilt x66 x65) (br (dOk Qb&&decide (0<=(0:Int)/\(0:Int)<=(Qa x4)/\(Qa x4)<=3/\Qp.length<=3)) (kk (x4) (x65) (Qf .i64 (x66) 1) (y2) (Qi) (a1.1) (Qk) (a1.2)) none) (some (.exit 2,QlW y2 Qi Qp Qk Qb))
def QeQ (x4:List ByteArray)(x65 x66:Int)(y2:Estate)(Qi:List Endpoint)(Qp:List Keep)(Qk:List Item)(Qb:Dice):OX:=
 let a1:=edY (x65-x66).toNat x4.length x66 Qp Qb
 some (.exit 2,QlW (y2) (Qi) (a1.1) (Qk) (a1.2))
theorem QxZ (x4:List ByteArray)(x65 x66:Int)(y2:Estate)(Qi:List Endpoint)(Qp:List Keep)(Qk:List Item)(Qb:Dice):QeP x4 x65 x66 y2 Qi Qp Qk Qb=Vw QeP x4 x65 x66 y2 Qi Qp Qk Qb:=lnT (x:=Vw (fun x4 x65 x66 y2 Qi Qp Qk Qb=>some (.normal,Vt x4 x65 x66 y2 Qi Qp Qk Qb)) x4 x65 x66 y2 Qi Qp Qk Qb) (by simp only [Vw,nxA];rfl)
def QeR (x10:Int)(y2:Estate)(y3_1:List Keep)(Qi:List Endpoint)(Qk:List Item)(Qb:Dice):OX:=Qv (QB Ui QlU QxT) (QxW x10 y2 y3_1 Qi Qk Qb)
def Vx (kk:Int->Estate->List Keep->List Endpoint->List Item->Dice->OX)(x10:Int)(y2:Estate)(y3_1:List Keep)(Qi:List Endpoint)(Qk:List Item)(Qb:Dice):OX:=
 let a2:=(ByteArray.mk #[98,97,99,107,117,112])
 let a3:=(ByteArray.mk #[100,101,101,100])
 let a5:=(WV Qb ([a2,a3]))
 let a6:=(YQ Qb ([a2,a3]))
 let a1:=OK a5 a6
 let a4:=((a1.2).1,(((a1.2).2).1,((((a1.2).2).2).1,(((((a1.2).2).2).2).1,()))))
 br (igt x10 0) (br (F9 Qb ([a2,a3])) (br (Qdm a5 a6) (br (QK Qk ([(a1.1,a4)]) 64) (kk (Q6 .i64 x10 1) y2 y3_1 Qi (Qk++([(a1.1,a4)])) (GI a5 a6)) none) none) none) (some (.exit 6,QlX y2 y3_1 Qi Qk Qb))
def QeS (x10:Int)(y2:Estate)(y3_1:List Keep)(Qi:List Endpoint)(Qk:List Item)(Qb:Dice):OX:=some (.exit 6,QlX (y2) (y3_1) (Qi) (Qk++(itZ x10.toNat Qb).1) ((itZ x10.toNat Qb).2))
theorem Qx0 (x10:Int)(y2:Estate)(y3_1:List Keep)(Qi:List Endpoint)(Qk:List Item)(Qb:Dice):QeR x10 y2 y3_1 Qi Qk Qb=Vx QeR x10 y2 y3_1 Qi Qk Qb:=lnT (x:=Vx (fun x10 y2 y3_1 Qi Qk Qb=>some (.normal,QxW x10 y2 y3_1 Qi Qk Qb)) x10 y2 y3_1 Qi Qk Qb) (by simp only [Vx,nxA];rfl)
def r_f20 (d0:Dice):OV:=
 let a6:=(ByteArray.mk #[97,112,112])
 let a8:=(ByteArray.mk #[100,98])
 let a7:=(ByteArray.mk #[119,101,98])
 let a2:=(lsl ([a6,a8,a7]) 0 (Qf .i64 2 (Qj d0 2)))
 let a5:=(ZM (a2.drop (0:Int).toNat) (0:Int).toNat (Qc d0 2))
 let a1:=(edY ((Qa a2)-(0:Int)).toNat a2.length (0:Int) ([]:List Keep) (a5.2))
 let a3:=(dOk (Qc (a1.2) 3)&&decide (0<=(Qj (a1.2) 3)/\(Qj (a1.2) 3)<=3/\([]:List Item).length+(Qj (a1.2) 3).toNat<=100))
 let a4:=itZ (Qj (a1.2) 3).toNat (Qc (a1.2) 3)
 br (QV d0 2) (br (cSl ([a6,a8,a7]) 0 (Qf .i64 2 (Qj d0 2)) ((List.length ([a6,a8,a7]):Nat):Int)) (br (Qz a2 (Qa a2) (0:Int)&&(dOk (Qc d0 2)&&(decide (([]:List Endpoint).length<=(0:Int))&&a2.all nm1))) (br (dOk (a5.2)&&decide (0<=(0:Int)/\(0:Int)<=(Qa a2)/\(Qa a2)<=3/\a2.length<=3/\([]:List Keep).length<=3)) (br (ieq (Qa (a1.1)) 0) (br (QV (a1.2) 3) (br a3 (some (.t Qw ((([]:List Endpoint)++a5.1),(([(0,(1,()))]),((([]:List Item)++a4.1),()))),[.box (.t QI (a4.2))])) none) none) (br (QV (a1.2) 3) (br a3 (some (.t Qw ((([]:List Endpoint)++a5.1),((a1.1),((([]:List Item)++a4.1),()))),[.box (.t QI (a4.2))])) none) none)) none) none) none) none
theorem QKg (x4 x16:List ByteArray)(x17 x18:Int)(y2:Estate)(Qi:List Endpoint)(Qp:List Keep)(Qk:List Item)(Qb:Dice)(h:(Qz x16 x17 x18&&(dOk Qb&&(decide (Qi.length<=x18)&&x16.all nm1)))=true):Vu x4 x16 x17 x18 y2 Qi Qp Qk Qb=G1 x4 x16 x17 x18 y2 Qi Qp Qk Qb:=by
 simp only [Bc,Ba] at h
 obtain ⟨h0,hd,hl,ha⟩:=h
 obtain ⟨rfl,h3,k,rfl,hk⟩:=JJ h0
 clear h0
 revert Qi Qb
 refine QU x16 (fun k=> ∀ (Qi:List Endpoint) (Qb:Dice),dOk Qb=true->(Qi.length:Int)<=(k:Int)->Vu x4 x16 (x16.length:Int) (k:Int) y2 Qi Qp Qk Qb=G1 x4 x16 (x16.length:Int) (k:Int) y2 Qi Qp Qk Qb) ?_ ?_ k hk
 ·intro Qi Qb _ _
  rw [QxX]
  simp only [EW,G0,EU,EV,Wv,G1,QD,B0,B4,Qh,Bd,BU,ZM,BO]
 ·intro k hk ih Qi Qb hd hl
  rw [QxX]
  have c1:Yf Qb [3,3,4]=true:=Qiv hd (by decide) (by decide)
  have d1:=Fl (l:=[3,3,4]) hd
  have c2:QV (QM Qb [3,3,4]) 3=true:=GB d1 (by omega)
  have d2:=QO (n:=3) d1
  have c3:YF (Qc (QM Qb [3,3,4]) 3) 2=true:=Qcg d2 (by omega) (by omega)
  have c4:YF (Qc (Qc (QM Qb [3,3,4]) 3) 2) 3=true:=Qcg (QO d2) (by omega) (by omega)
  have b3:=JR (d:=QM Qb [3,3,4]) (n:=3) (by omega)
  have c5:cIx ([[10,8,2],[8,2],[2,10,8,3]]:List (List Int)) (Qj (QM Qb [3,3,4]) 3)=true:=Be ⟨b3.1,b3.2⟩
  have c6:Ew x16[k] JO (Qf .i64 100 (k:Int)) 1 901=true:=Bf.1 ha _ (Bu hk)
  have c7: ∀ v,QK Qi [v] 144=true:=fun v=>Jj (by omega) (by simp only [Bp];omega)
  have b4: ∀ q,(lgt (.sl tI) [[10,8,2],[8,2],[2,10,8,3]] q).length<=4:=fun q=>QEo (by simp) q
  have c8:QK ([14]:List Int) (lgt (.sl tI) [[10,8,2],[8,2],[2,10,8,3]] (Qj (QM Qb [3,3,4]) 3).toNat) 8=true:=Jj (by decide) (by have:=b4 (Qj (QM Qb [3,3,4]) 3).toNat;simp only [Bp];omega)
  simp only [EW,G0,EU,EV,Wv,QD,QJ,hk,Bv,Qd,Bd,QT (show k<4611686018427387904 by omega),QS (y:= .str) hk,c1,c2,c3,c4,c6,c7,Wv]
  have hi: ∀ v,Vu x4 x16 (x16.length:Int) ((k+1:Nat):Int) y2 (Qi++[v]) Qp Qk (Uh Qb)=G1 x4 x16 (x16.length:Int) ((k+1:Nat):Int) y2 (Qi++[v]) Qp Qk (Uh Qb):=fun v=>ih _ _ (QxP hd) (by simp only [Bl,Bp];omega)
  have goal2:G1 x4 x16 (x16.length:Int) ((k+1:Nat):Int) y2 (Qi++[X7 Qb k x16[k]]) Qp Qk (Uh Qb)=G1 x4 x16 (x16.length:Int) (k:Int) y2 Qi Qp Qk Qb:=by
   simp only [G1,Bd,Bj hk,ZM,BQ,BN]
  refine Eq.trans ?_ ((hi _).trans goal2)
  unfold X7 U3
  refine brY c5 ?_
  cases ieq (dof Qb [3,3,4]) 4 with
  |false=>rfl
  |true=>exact brY rfl (brY c8 rfl)
theorem QKh (x4:List ByteArray)(x8 x65 x66 x70 x71:Int)(y2:Estate)(Qi:List Endpoint)(Qp:List Keep)(Qk:List Item)(Qb:Dice)(h:(dOk Qb&&decide (0<=x71/\x71<=x70/\x70<=3/\Qp.length<=3))=true):QeO x4 x8 x65 x66 x70 x71 y2 Qi Qp Qk Qb=G2 x4 x8 x65 x66 x70 x71 y2 Qi Qp Qk Qb:=by
 simp only [Bc,Ba] at h
 obtain ⟨hd,h0,h1,h2,hl⟩:=h
 have key: ∀ (m:Nat) (x71:Int) (Qp:List Keep) (Qb:Dice),x71+m=x70->0<=x71->dOk Qb=true->Qp.length<=3->QeO x4 x8 x65 x66 x70 x71 y2 Qi Qp Qk Qb=G2 x4 x8 x65 x66 x70 x71 y2 Qi Qp Qk Qb:=by
  intro m
  induction m with
  |zero=>
   intro x71 Qp Qb e _ _ _
   rw [QxY]
   have:x70=x71:=by omega
   subst this
   simp only [Vv,G2,show ilt x70 x70=false from Bo (by omega),Qh,Int.sub_self,Bw,edZ]
  |succ m ih=>
   intro x71 Qp Qb e h0 hd hl
   rw [QxY]
   have c1:QV Qb 3=true:=GB hd (by omega)
   have c2:QK Qp [(x8,(x71,()))] 16=true:=Jj (by omega) (by simp only [Bp];omega)
   have e1:Qf .i64 x71 1=x71+1:=JD (by omega)
   have e2:(x70-x71).toNat=m+1:=by omega
   have e3:(x70-(x71+1)).toNat=m:=by omega
   simp only [Vv,show ilt x71 x70=true from Be (by omega),Qd,c1,c2,e1]
   have i0:=ih (x71+1) Qp Qb (by omega) (by omega) hd hl
   have i1:=ih (x71+1) Qp (Qc Qb 3) (by omega) (by omega) (QO hd) hl
   rw [i0,i1]
   cases hn:ine x8 x71 with
   |false=>simp only [Qh,G2,e2,e3,edZ,hn,Da]
   |true=>
    cases hg:igt (Qj Qb 3) 0 with
    |false=>simp only [Qd,Qh,G2,e2,e3,edZ,hn,hg,Dh,Bool.false_and,Da]
    |true=>
     cases hq:ilt (Qa Qp) 3 with
     |false=>simp only [Qd,Qh,G2,e2,e3,edZ,hn,hg,hq,Dh,Bool.and_false,Da]
     |true=>
      have hl3:Qp.length<3:=by have:=Bx hq;simp only [Qa] at this;omega
      have i2:=ih (x71+1) (Qp++[(x8,(x71,()))]) (Qc Qb 3) (by omega) (by omega) (QO hd) (by simp only [Bl,Bp];omega)
      rw [i2]
      simp only [Qd,G2,e2,e3,edZ,hn,hg,hq,Dh,B2]
 exact key (x70-x71).toNat x71 Qp Qb (by omega) h0 hd hl
theorem QKi (x4:List ByteArray)(x65 x66:Int)(y2:Estate)(Qi:List Endpoint)(Qp:List Keep)(Qk:List Item)(Qb:Dice)(h:(dOk Qb&&decide (0<=x66/\x66<=x65/\x65<=3/\x4.length<=3/\Qp.length<=3))=true):QeP x4 x65 x66 y2 Qi Qp Qk Qb=QeQ x4 x65 x66 y2 Qi Qp Qk Qb:=by
 simp only [Bc,Ba] at h
 obtain ⟨hd,h0,h1,h2,h3,hl⟩:=h
 have key: ∀ (m:Nat) (x66:Int) (Qp:List Keep) (Qb:Dice),x66+m=x65->0<=x66->dOk Qb=true->Qp.length<=3->QeP x4 x65 x66 y2 Qi Qp Qk Qb=QeQ x4 x65 x66 y2 Qi Qp Qk Qb:=by
  intro m
  induction m with
  |zero=>
   intro x66 Qp Qb e _ _ _
   rw [QxZ]
   have:x65=x66:=by omega
   subst this
   simp only [Vw,QeQ,show ilt x65 x65=false from Bo (by omega),Qh,Int.sub_self,Bw,edY]
  |succ m ih=>
   intro x66 Qp Qb e h0 hd hl
   rw [QxZ]
   have e1:Qf .i64 x66 1=x66+1:=JD (by omega)
   have e2:(x65-x66).toNat=m+1:=by omega
   have e3:(x65-(x66+1)).toNat=m:=by omega
   have e4:(Qa x4-0).toNat=x4.length:=by simp only [Qa];omega
   have hz:=ES x4.length x66 0 Qp Qb hd hl
   simp only [Vw,show ilt x66 x65=true from Be (by omega),Qd,e1,e4,hd,BC]
   refine brY (Be (by simp only [Qa];omega)) ?_
   rw [ih (x66+1) _ _ (by omega) (by omega) hz.1 hz.2]
   simp only [QeQ,e2,e3,edY]
 exact key (x65-x66).toNat x66 Qp Qb (by omega) h0 hd hl
theorem QKj (x10:Int)(y2:Estate)(y3_1:List Keep)(Qi:List Endpoint)(Qk:List Item)(Qb:Dice)(h:(dOk Qb&&decide (0<=x10/\x10<=3/\Qk.length+x10.toNat<=100))=true):QeR x10 y2 y3_1 Qi Qk Qb=QeS x10 y2 y3_1 Qi Qk Qb:=by
 simp only [Bc,Ba] at h
 obtain ⟨hd,h0,h1,hl⟩:=h
 obtain ⟨n,rfl⟩:=Bq h0
 rw [Bd] at hl
 have key: ∀ (n:Nat) (Qk:List Item) (Qb:Dice),dOk Qb=true->Qk.length+n<=100->QeR (n:Int) y2 y3_1 Qi Qk Qb=QeS (n:Int) y2 y3_1 Qi Qk Qb:=by
  intro n
  induction n with
  |zero=>
   intro Qk Qb _ _
   rw [Qx0]
   simp only [Vx,QeS,show igt ((0:Nat):Int) 0=false from rfl,Qh,Bd,itZ,BO]
  |succ n ih=>
   intro Qk Qb hd hl
   rw [Qx0]
   have e2:Q6 .i64 ((n+1:Nat):Int) 1=(n:Int):=(Xk (by omega)).trans (by omega)
   have c1:F9 Qb sIt=true:=by simp [F9,hd]
   have c2:Qdm (WV Qb sIt) (YQ Qb sIt)=true:=QlP hd
   have c3: ∀ v,QK Qk [v] 64=true:=fun v=>Jj (by omega) (by simp only [Bp];omega)
   simp only [Vx,show igt ((n+1:Nat):Int) 0=true from Be (by omega),Qd,e2,c1,c2,c3]
   refine Eq.trans (ih _ _ (QuB (s:=YQ Qb sIt) (QlP hd)) (by simp only [Bl,Bp];omega)) ?_
   simp only [QeS,Bd,itZ,BQ,BN]
 exact key n Qk Qb hd (by omega)
theorem QKk:LO Ui QlR QxQ 0:=QH (s:=QeK) fun x y h _ q=>by simp only [QE,QF] at q;exact (QKg x.2.2.2.1 x.2.2.2.2.1 x.2.2.2.2.2.1 x.2.2.2.2.2.2.1 y.1 y.2.2.2.2.2.2.1 y.2.2.2.2.2.2.2.1 y.2.2.2.2.2.2.2.2.1 y.2.2.2.2.2.2.2.2.2.1 h).trans q
theorem QKl:LO Ui QlS QxR 1:=QH (s:=QeL) fun x y h _ q=>by simp only [QE,QF] at q;exact (QKh x.2.2.2.1 x.2.2.2.2.1 x.2.2.2.2.2.1 x.2.2.2.2.2.2.1 x.2.2.2.2.2.2.2.1 x.2.2.2.2.2.2.2.2.1 y.1 y.2.2.2.2.2.2.1 y.2.2.2.2.2.2.2.1 y.2.2.2.2.2.2.2.2.1 y.2.2.2.2.2.2.2.2.2.1 h).trans q
theorem QKm:LO Ui QlT QxS 2:=QH (s:=QeM) fun x y h _ q=>by simp only [QE,QF] at q;exact (QKi x.2.2.2.1 x.2.2.2.2.1 x.2.2.2.2.2.1 y.1 y.2.2.2.2.2.2.1 y.2.2.2.2.2.2.2.1 y.2.2.2.2.2.2.2.2.1 y.2.2.2.2.2.2.2.2.2.1 h).trans q
theorem QKn:LO Ui QlU QxT 3:=QH (s:=QeN) fun x y h _ q=>by simp only [QE,QF] at q;exact (QKj x.2.2.2.1 y.1 y.2.1.2.1 y.2.2.2.2.2.2.1 y.2.2.2.2.2.2.2.2.1 y.2.2.2.2.2.2.2.2.2.1 h).trans q
set_option maxRecDepth 100000 in
theorem s_f20 (d:Dice)(h:dOk d=true):r_f20 d=some (.t Qw (QG d),[.box (.t QI (U4 d))]):=by
 have hv:=JR (d:=d) (n:=2) (by omega)
 have e:Qf .i64 2 (Qj d 2)=2+Qj d 2:=JD (by omega)
 have c1:QV d 2=true:=GB h (by omega)
 have hn:=ET d
 have hd:=QO (n:=2) h
 have hz:=QlN (Jq d) 0 (Qc d 2) hd
 have hy:=QlO (Jq d).length (Jq d).length 0 [] _ hz (B3 _)
 have hy1:dOk (Zf d).2=true:=hy.1
 have hv3:=JR (d:=(Zf d).2) (n:=3) (by omega)
 simp only [r_f20,show lsl Yr 0 (Qf .i64 2 (Qj d 2))=Jq d from rfl,BR,Bw,BD,Int.sub_zero,show (Qa (Jq d)).toNat=(Jq d).length by simp only [Qa];omega]
 simp only [show edY (Jq d).length (Jq d).length 0 [] (ZM (Jq d) 0 (Qc d 2)).2=Zf d from rfl]
 refine brY c1 (brY (Be (by rw [e];refine ⟨by omega,by omega, ?_, ?_⟩<;>simp<;>omega)) (brY ?_ (brY ?_ ?_)))
 ·rw [JK (by omega),hd,hn.2.2]
  rfl
 ·rw [hz]
  exact Be (by simp only [Qa,BE];omega)
 ·have c2:QV (Zf d).2 3=true:=GB hy1 (by omega)
  have c3:(dOk (Qc (Zf d).2 3)&&decide (0<=Qj (Zf d).2 3/\Qj (Zf d).2 3<=3/\([]:List Item).length+(Qj (Zf d).2 3).toNat<=100))=true:=by
   rw [QO hy1,Be (by simp only [BE];omega)]
   rfl
  cases hq:ieq (Qa (Zf d).1) 0 with
  |true=>
   rw [Qd]
   refine brY c2 (brY c3 ?_)
   unfold QG GZ
   rw [hq]
   rfl
  |false=>
   rw [Qh]
   refine brY c2 (brY c3 ?_)
   unfold QG GZ
   rw [hq]
   rfl
def Qx1:Ent:=We QI .nil (fun d x=>(dOk d)) (fun d x=>(.t Qw (QG d))) (fun d x=>(U4 d))
theorem ms_f20:EM 20 Qx1:=mS (lk:=lkL (lkc QKk (lkc QKm (lkc QKl (lkc QKn lkn))))) Ui Vs [((.c 2 true 3),some Qw)] false (Z2 _ (gA (gD Ge (gD Qgc (gD QnU (gD QuL (gD QuK (gD ms_f40 (gD ms_f41 gN))))))))) fun m=>Ux m rfl fun d x hok=>kT (s_f20 d hok)
end
end Go.Proofs.YtmjnnemhoeolgaaGreat.K
noncomputable section
namespace Go.Proofs.YtmjnnemhoeolgaaGreat.K.PE
open Go.RowKit
noncomputable section
abbrev mAll:List ByteArray:=[(ByteArray.mk #[97,112,112]),(ByteArray.mk #[100,98]),(ByteArray.mk #[109,97,105,108]),(ByteArray.mk #[119,101,98])]
def mkZ:List ByteArray->Dice->List Endpoint×Dice
 | [],d=>([],d)
 |s::r,d=>(epV d s::(mkZ r (epN d s)).1,(mkZ r (epN d s)).2)
def edM:Nat->Int->Int->List Keep->Dice->List Keep×Dice
 |0,_,_,l,d=>(l,d)
 |m+1,i,k,l,d=>bif ine i k then (bif ieq (Qj d 3) 0 then edM m i (k+1) (l++[(i,(k,()))]) (Qc d 3) else edM m i (k+1) l (Qc d 3)) else edM m i (k+1) l d
def edN:Nat->Nat->Int->List Keep->Dice->List Keep×Dice
 |0,_,_,l,d=>(l,d)
 |m+1,n,i,l,d=>edN m n (i+1) (edM n i 0 l d).1 (edM n i 0 l d).2
def Qh5 (d:Dice):List ByteArray:=lsl mAll 0 (Qf .i64 2 (Qj d 3))
def mkEd (d:Dice):List Keep×Dice:=edN (Qh5 d).length (Qh5 d).length 0 [] (mkZ (Qh5 d) (Qc d 3)).2
def Fk (d:Dice):List Item×Dice:=itZ (Qj (mkEd d).2 3).toNat (Qc (mkEd d).2 3)
-- loop 0: (x4 : (List ByteArray)) (x5 : Int) (y2 : Estate) (Qi : (List Endpoint)) (Qp : (List Keep)) (Qk : (List Item)) (Qb : Dice); out: ('exit', 0) (x4 : (List ByteArray)) (y2 : Estate) (Qi : (List Endpoint)) (Qp : (List Keep)) (Qk : (List Item)) (Qb : Dice)
-- loop 1: (x4 : (List ByteArray)) (x6 : Int) (x7 : Int) (y2 : Estate) (Qi : (List Endpoint)) (Qp : (List Keep)) (Qk : (List Item)) (Qb : Dice); out: ('exit', 4) (x4 : (List ByteArray)) (x6 : Int) (y2 : Estate) (Qi : (List Endpoint)) (Qp : (List Keep)) (Qk : (List Item)) (Qb : Dice)
-- loop 2: (x4 : (List ByteArray)) (x6 : Int) (y2 : Estate) (Qi : (List Endpoint)) (Qp : (List Keep)) (Qk : (List Item)) (Qb : Dice); out: ('exit', 2) (y2 : Estate) (Qi : (List Endpoint)) (Qp : (List Keep)) (Qk : (List Item)) (Qb : Dice)
-- loop 3: (x8 : Int) (y2 : Estate) (Qi : (List Endpoint)) (Qp : (List Keep)) (Qk : (List Item)) (Qb : Dice); out: ('exit', 6) (y2 : Estate) (Qi : (List Endpoint)) (Qp : (List Keep)) (Qk : (List Item)) (Qb : Dice)
end
end Go.Proofs.YtmjnnemhoeolgaaGreat.K.PE
noncomputable section
namespace Go.Proofs.YtmjnnemhoeolgaaGreat.K
open Go.RowKit
abbrev Xi (s:ByteArray)(k:Nat):Certificate:=(Wz (leafC s JO (Qf .i64 100 (k:Int)) 901) 1).1
def Qfr (s:ByteArray)(k:Nat):Bool:=
 JP (Xi s k)&&(QR (Xi s k)&&(E8 JO (Qf .i64 100 (k:Int)) [Xi s k]&&(J2 (Qf .i64 100 (k:Int))&&(hasS (Qs (Xi s k)) s&&(!QgA [Xi s k] 11&&(!QgA [Xi s k] 15&&(!QgA [Xi s k] 10&&(ieq (Wt (Xi s k)).1 1&&(ieq (Xi s k).2.2.2.2.2.2.1 0&&(ieq (Xi s k).2.2.2.2.2.2.2.1 901&&(ieq (Xi s k).2.2.2.2.2.1.1 3&&(XK s&&Jb s))))))))))))
set_option maxRecDepth 100000 in
theorem QLl:(Yr.all fun s=>(List.range 3).all fun k=>Qfr s k)=true:=by kernel_rfl
theorem Qza {s:ByteArray}{k:Nat}(hs:s∈Yr)(hk:k<3):Qfr s k=true:=
 Bf.1 (Bf.1 QLl s hs) k (Df.2 hk)
def G9 (e:Endpoint):Prop:= ∃ d k s,e=X7 d k s/\s∈Yr/\k<3
theorem QLm:Ya JO 2=true:=by kernel_rfl
theorem QLn (d:Dice):dof d [3,3,4]=3∨dof d [3,3,4]=4:=by
 have h:=Il (d:=d) (l:=[3,3,4]) (by decide)
 simp only [BX,Dl,or_false] at h
 omega
def Qmv (l:List Int):Bool:=decide l.Nodup&&l.all fun x=>decide (1<=x/\x<=16)
theorem QLo {l:List Int}(h:Qmv l=true):goodS l:=by
 simp only [Qmv,Bc,Ba,Bf] at h
 exact h
theorem QLp (d:Dice):U3 d∈[[10,8,2],[8,2],[2,10,8,3],[14,10,8,2],[14,8,2],([14,2,10,8,3]:List Int)]:=by
 have b3:=JR (d:=QM d [3,3,4]) (n:=3) (by omega)
 unfold U3
 rcases (show Qj (QM d [3,3,4]) 3=0∨Qj (QM d [3,3,4]) 3=1∨Qj (QM d [3,3,4]) 3=2 by omega) with h|h|h<;>rw [h]<;>cases ieq (dof d [3,3,4]) 4<;>decide
theorem Qmw {p:List Int->Bool}(h:[[10,8,2],[8,2],[2,10,8,3],[14,10,8,2],[14,8,2],([14,2,10,8,3]:List Int)].all p=true)(d:Dice):p (U3 d)=true:=Bf.1 h _ (QLp d)
theorem Qzb {e:Endpoint}(h:G9 e):Q0 e=true:=by
 obtain ⟨d,k,s,rfl,hs,hk⟩:=h
 have hg:=Qza hs hk
 simp only [Qfr,Bc] at hg
 have hsu:(U3 d).length<=5:=Bx (Qmw (p:=fun l=>decide (l.length<=5)) (by decide) d)
 have hc:Ju [Xi s k]=true:=by
  simp only [Ju,BV,Dw,hg.1,Db]
  rfl
 unfold Q0
 simp only [Bc,Ba]
 refine ⟨⟨hg.2.2.2.2.2.2.2.2.2.2.2.2.2,⟨?_, ?_, ?_, ?_⟩⟩, ?_⟩
 ·show (U3 d).length<=100000
  omega
 ·exact (show 1<=100000 by decide)
 ·exact (show 1<=100000 by decide)
 ·exact (show 2<=100000 by decide)
 ·show (Jg (ZU s JO (Qf .i64 100 (k:Int)) 1 901)&&true)=true
  rw [Db]
  exact hc
theorem Qfs {e:Endpoint}(h:G9 e):QN e=true:=by
 obtain ⟨d,k,s,rfl,hs,hk⟩:=h
 have hg:=Qza hs hk
 simp only [Qfr,Bc] at hg
 have hm:=QLn d
 refine QEs (e:=X7 d k s) hg.2.2.2.2.2.2.2.2.2.2.2.2.1 (BT _) ?_ ?_ (QLo (Qmw (p:=Qmv) (by decide) d)) (show 1<=4 by decide) ?_ (show Qix [1]=true by decide) (show Qiy [2,3]=true by kernel_rfl)
 ·show (1:Int)<=dof d [3,3,4]
  omega
 ·show dof d [3,3,4]<=4
  omega
 ·show (XV (ZU s JO (Qf .i64 100 (k:Int)) 1 901)&&true)=true
  rw [Db]
  refine QEp QLm hg.2.2.2.1 (show 1<=8 by decide) ?_ hg.2.2.1
  show (QR (Xi s k)&&true)=true
  rw [hg.2.1]
  rfl
theorem Qzc: ∀ (l:List ByteArray) (k:Nat) (d:Dice),(ZM l k d).1.length=l.length
 | [],_,_=>rfl
 |_::r,k,d=>by simp only [ZM,Bt,Qzc r (k+1) (Uh d)]
theorem Qzd: ∀ (l:List ByteArray) (k:Nat) (d:Dice),(∀ s∈l,s∈Yr)->k+l.length<=3→ ∀ e∈(ZM l k d).1,G9 e
 | [],_,_,_,_,e,he=>by cases he
 |s::r,k,d,h,hk,e,he=>by
  simp only [ZM,BX] at he
  simp only [Bt] at hk
  rcases he with rfl|he
  ·exact ⟨d,k,s,rfl,h s B7,by omega⟩
  ·exact Qzd r (k+1) (Uh d) (fun s hs=>h s (BZ _ hs)) (by omega) e he
theorem QLq (d:Dice): ∀ s∈Jq d,s∈Yr:=by
 rcases QlQ d with h|h<;>rw [h]
 ·exact fun s hs=>Dt hs
 ·exact fun s hs=>hs
theorem Qmx (d:Dice): ∀ e∈Qu (QG d),G9 e:=Qzd (Jq d) 0 (Qc d 2) (QLq d) (by have:=ET d;omega)
theorem Qft (d:Dice):(Qu (QG d)).length=(Jq d).length:=Qzc _ _ _
theorem snd_up (d:Dice):Wy (Qu (QG d)) 0=true:=by
 have hv: ∀ d k s,s∈Yr->k<3->QN (X7 d k s)=true:=fun d k s hs hk=>Qfs ⟨d,k,s,rfl,hs,hk⟩
 have q1:slt (ByteArray.mk #[97,112,112]) (ByteArray.mk #[100,98])=true:=by kernel_rfl
 have q2:slt (ByteArray.mk #[100,98]) (ByteArray.mk #[119,101,98])=true:=by kernel_rfl
 show Ys (ZM (Jq d) 0 (Qc d 2)).1 (ZM (Jq d) 0 (Qc d 2)).1 0=true
 rcases QlQ d with h|h<;>rw [h]
 ·show (QN (X7 _ 0 _)&&true&&(QN (X7 _ 1 _)&&(false||slt (ByteArray.mk #[97,112,112]) (ByteArray.mk #[100,98]))&&true))=true
  rw [hv _ _ _ (by simp) (by decide),hv _ _ _ (by simp) (by decide),q1]
  rfl
 ·show (QN (X7 _ 0 _)&&true&&(QN (X7 _ 1 _)&&(false||slt (ByteArray.mk #[97,112,112]) (ByteArray.mk #[100,98]))&&(QN (X7 _ 2 _)&&(false||slt (ByteArray.mk #[100,98]) (ByteArray.mk #[119,101,98]))&&true)))=true
  rw [hv _ _ _ (by simp) (by decide),hv _ _ _ (by simp) (by decide),hv _ _ _ (by simp) (by decide),q1,q2]
  rfl
def Qfu (a b:Keep):Prop:=a.1<b.1∨(a.1=b.1/\a.2.1<b.2.1)
def edG (n:Int)(l:List Keep)(i k:Int):Prop:=(∀ x∈l,G6 n x=true)/\l.Pairwise Qfu∧ ∀ x∈l,Qfu x (i,(k,()))
theorem Qfv {n:Int}{l:List Keep}{i k i' k':Int}(h:edG n l i k)(hl:i<i'∨(i=i'/\k<=k')):edG n l i' k':=by
 refine ⟨h.1,h.2.1,fun x hx=> ?_⟩
 have:=h.2.2 x hx
 simp only [Qfu] at this ⊢
 omega
theorem Qfw {n:Int}: ∀ (m:Nat) (i k:Int) (l:List Keep) (d:Dice),0<=i->i<n->0<=k->k+m<=n->edG n l i k->edG n (edZ m i k l d).1 i (k+m)
 |0,i,k,l,d,_,_,_,_,h=>Qfv h (.inr ⟨rfl,by omega⟩)
 |m+1,i,k,l,d,h0,h1,h2,h3,h=>by
  have hs:edG n l i (k+1):=Qfv h (.inr ⟨rfl,by omega⟩)
  have e:k+((m+1:Nat):Int)=k+1+m:=by omega
  unfold edZ
  rw [e]
  cases hn:ine i k with
  |false=>exact Qfw m i (k+1) l d h0 h1 (by omega) (by omega) hs
  |true=>
   cases h4:(igt (Qj d 3) 0&&ilt (Qa l) 3) with
   |false=>exact Qfw m i (k+1) l (Qc d 3) h0 h1 (by omega) (by omega) hs
   |true=>
    have hne:i≠k:=by simpa [ine] using hn
    refine Qfw m i (k+1) (l++[(i,(k,()))]) (Qc d 3) h0 h1 (by omega) (by omega) ⟨fun x hx=> ?_, ?_,fun x hx=> ?_⟩
    ·rcases BA.1 hx with hx|hx
     ·exact h.1 x hx
     ·rw [Dq.1 hx]
      simp only [G6,ilt,ige,YE,Bc,Br,Bn]
      exact ⟨by omega,by omega,by omega,by omega,hne⟩
    ·rw [List.pairwise_append]
     refine ⟨h.2.1,List.pairwise_singleton _ _,fun x hx y hy=> ?_⟩
     rw [Dq.1 hy]
     exact h.2.2 x hx
    ·rcases BA.1 hx with hx|hx
     ·exact hs.2.2 x hx
     ·rw [Dq.1 hx]
      exact .inr ⟨rfl,by show k<k+1;omega⟩
theorem Qze {n:Int}: ∀ (m nn:Nat) (i:Int) (l:List Keep) (d:Dice),(nn:Int)<=n->0<=i->i+m<=n->edG n l i 0->edG n (edY m nn i l d).1 (i+m) 0
 |0,nn,i,l,d,_,_,_,h=>Qfv h (by omega)
 |m+1,nn,i,l,d,hnn,h0,h1,h=>by
  have:=Qfw nn i 0 l d h0 (by omega) (by omega) (by omega) h
  have e:i+((m+1:Nat):Int)=i+1+m:=by omega
  unfold edY
  rw [e]
  exact Qze m nn (i+1) _ _ hnn (by omega) (by omega) (Qfv this (.inl (by omega)))
theorem Qzf {n i k:Int}{l:List Keep}(h:edG n l i k):J9 n l 0=true:=by
 unfold J9
 rw [Bf]
 intro j hj
 have hj:j<l.length:=by
  rw [List.mem_range'] at hj
  obtain ⟨a,ha,rfl⟩:=hj
  omega
 have at_: ∀ q (hq:q<l.length),ZZ l q=l[q]:=fun q hq=>by simp only [ZZ,Bk,Bh hq,BI]
 unfold E0
 rw [at_ j hj,h.1 _ (Bu hj),BC]
 by_cases h0:j=0
 ·rw [Be h0,Bool.true_or]
 ·rw [Bo h0,Dk,at_ (j-1) (by omega)]
  have hp:=List.pairwise_iff_getElem.1 h.2.1 (j-1) j (by omega) hj (by omega)
  simp only [Qfu] at hp
  simp only [egLt,igt,ige,YE,Bc,Br,Bn,Bool.and_eq_false_imp,Ba]
  refine ⟨by omega,fun he=>by omega⟩
theorem Qmy (d:Dice):J9 (Qa (Qu (QG d))) (Q7 (QG d)) 0=true/\(Q7 (QG d)).length<=3/\0<(Q7 (QG d)).length:=by
 have hn:=ET d
 have hl:Qa (Qu (QG d))=((Jq d).length:Int):=by rw [Qa,Qft]
 rw [hl]
 show J9 _ (GZ d) 0=true/\(GZ d).length<=3/\0<(GZ d).length
 unfold GZ
 cases hq:ieq (Qa (Zf d).1) 0 with
 |true=>
  refine ⟨?_,(show 1<=3 by decide),(show 0<1 by decide)⟩
  show J9 _ [(0,(1,()))] 0=true
  refine Qzf (i:=5) (k:=5) ⟨fun x hx=> ?_,List.pairwise_singleton _ _,fun x hx=> ?_⟩<;>rw [Dq.1 hx]
  ·simp only [G6,ilt,ige,YE,Bc,Br,Bn]
   exact ⟨by omega,by omega,by omega,by omega,by omega⟩
  ·exact .inl (by decide)
 |false=>
  have hy:=Qze (n:=((Jq d).length:Int)) (Jq d).length (Jq d).length 0 [] (ZM (Jq d) 0 (Qc d 2)).2 (BT _) (BT _) (by omega) (⟨fun x hx=>(nomatch hx),List.Pairwise.nil,fun x hx=>(nomatch hx)⟩:edG _ [] 0 0)
  refine ⟨Qzf hy, ?_, ?_⟩
  ·have hp: ∀ (m:Nat) (i k:Int) (l:List Keep) (d:Dice),l.length<=3->(edZ m i k l d).1.length<=3:=by
    intro m
    induction m with
    |zero=>exact fun _ _ _ _ h=>h
    |succ m ih=>
     intro i k l d h
     unfold edZ
     cases ine i k with
     |false=>exact ih _ _ _ _ h
     |true=>
      cases h1:igt (Qj d 3) 0 with
      |false=>exact ih _ _ _ _ h
      |true=>
       cases h2:ilt (Qa l) 3 with
       |false=>exact ih _ _ _ _ h
       |true=>
        have:=Bx h2
        simp only [Qa] at this
        exact ih _ _ _ _ (by simp only [Bl,Bp];omega)
   have hr: ∀ (m n:Nat) (i:Int) (l:List Keep) (d:Dice),l.length<=3->(edY m n i l d).1.length<=3:=by
    intro m
    induction m with
    |zero=>exact fun _ _ _ _ h=>h
    |succ m ih=>exact fun n i l d h=>ih n (i+1) _ _ (hp n i 0 l d h)
   exact hr _ _ _ [] _ (by decide)
  ·simp only [YE,Qa,Bn] at hq
   show 0<(Zf d).1.length
   omega
theorem QLr {d:Dice}:Jv (YQ d sIt)=true:=by
 have hv:=JR (d:=d) (n:=2) (by omega)
 unfold YQ
 show Jv (sIt.getD (Qj d 2).toNat ByteArray.empty)=true
 rcases (show Qj d 2=0∨Qj d 2=1 by omega) with h|h<;>rw [h]<;>kernel_rfl
theorem QLs {d:Dice}:Jb (YQ d sIt)=true:=by
 have hv:=JR (d:=d) (n:=2) (by omega)
 unfold YQ
 show Jb (sIt.getD (Qj d 2).toNat ByteArray.empty)=true
 rcases (show Qj d 2=0∨Qj d 2=1 by omega) with h|h<;>rw [h]<;>kernel_rfl
theorem Qzg: ∀ (n:Nat) (d:Dice),(itZ n d).1.all J0=true/\(itZ n d).1.all Z6=true/\(itZ n d).1.length=n
 |0,_=>⟨rfl,rfl,rfl⟩
 |n+1,d=>by
  have:=Qzg n (GI (WV d sIt) (YQ d sIt))
  simp only [itZ,BV,Bt,this,Db,and_true]
  exact ⟨QGV _ QLr,QLs⟩
theorem VQ (d:Dice):JC (QG d)=true/\Jr (QG d)=true:=by
 have hn:=ET d
 have h1:=snd_up d
 obtain ⟨h2,h3,h4⟩:=Qmy d
 have hv3:=JR (d:=(Zf d).2) (n:=3) (by omega)
 have hi:=Qzg (Qj (Zf d).2 3).toNat (Qc (Zf d).2 3)
 have hl:(Qu (QG d)).length<=3:=by rw [Qft];omega
 have hx:Zs (QG d)=(itZ (Qj (Zf d).2 3).toNat (Qc (Zf d).2 3)).1:=rfl
 constructor
 ·unfold JC
  rw [h1,h2,hx,hi.1,show ile (Qa (Qu (QG d))) 16=true from Be (by simp only [Qa];omega),show ile (Qa (Q7 (QG d))) 40=true from Be (by simp only [Qa];omega),show ile (Qa (itZ (Qj (Zf d).2 3).toNat (Qc (Zf d).2 3)).1) 30=true from Be (by simp only [Qa];omega)]
  rfl
 ·unfold Jr Z0
  rw [hx,hi.2.1,Be (show (Qu (QG d)).length<=99999/\(Q7 (QG d)).length<=99999 by omega),Be (show (itZ (Qj (Zf d).2 3).toNat (Qc (Zf d).2 3)).1.length<=100000 by omega),BC,BC,Db]
  exact Bf.2 fun e he=>Qzb (Qmx d e he)
end Go.Proofs.YtmjnnemhoeolgaaGreat.K
noncomputable section
namespace Go.Proofs.YtmjnnemhoeolgaaGreat.K
open Go.RowKit
noncomputable section
open Classical in
end
end Go.Proofs.YtmjnnemhoeolgaaGreat.K
noncomputable section
namespace Go.Proofs.YtmjnnemhoeolgaaGreat.K
open Go.RowKit
noncomputable section
def U7 (x:Identity):Identity:=x
abbrev V7:Sh:=⟨[(2,.ptr 2 0),(3,.ptr 3 0),(12,.ty (.sl QW)),(13,.ty tI),(14,.ty tI)],[(2,.box Q1),(3,.bag [.ty tI,.ty tI,.ty tI,.ms 20303]),(26,.no),(20303,.arr 149 QW)]⟩
abbrev QzI:Sh:=⟨[(2,.ptr 2 0),(3,.ptr 3 0)],[(2,.box Q1),(3,.bag [.ty tI,.ty tI,.ty tI,.ms 20303]),(26,.no),(20303,.arr 149 QW)]⟩
def QfM:Fg:=V7.f
def Qnc:TC:=aF Tryz.f160 [(58,.nf 3 3 149 20303),(58,.nf 5 12 9 20512),(58,pL 0 QfM),(933,.fg ⟨[(2,none),(3,none)],[(2,some Q1),(3,some Q1),(26,none),(20303,none)]⟩)]
def Qnd:TC:=lb 0 Qnc
def Qne (x12:List Certificate)(x13 x14:Int)(y2:Identity)(y3_0 y3_1 y3_2:Int)(JH:List Certificate):VS:=V7.st ((),(),x12,x13,x14,()) (y2,(y3_0,y3_1,y3_2,(),()),(),JH,())
def QfN (y2:Identity)(y3_0 y3_1 y3_2:Int)(JH:List Certificate):VS:=QzI.st ((),(),()) (y2,(y3_0,y3_1,y3_2,(),()),(),JH,())
def QzJ:VS->Option (Bool×List (Bool×Exit×VS)):=mkL V7 (fun x y=>(Qz x.2.2.1 x.2.2.2.1 x.2.2.2.2.1&&(Ju x.2.2.1&&decide (y.2.2.2.1.length<=x.2.2.2.2.1)))) (fun x y=>[(true,.exit 0,QfN (y.1) (y.2.1.1) (y.2.1.2.1) (y.2.1.2.2.1) (y.2.2.2.1++x.2.2.1.drop x.2.2.2.2.1.toNat))])
def QfO:G:=gG 30 [] (Ls [QzJ])
def V8 (x12:List Certificate)(x13 x14:Int)(y2:Identity)(y3_0 y3_1 y3_2:Int)(JH:List Certificate):OX:=Qv (QB QfO QfM Qnd) (Qne x12 x13 x14 y2 y3_0 y3_1 y3_2 JH)
def Id (kk:List Certificate->Int->Int->Identity->Int->Int->Int->List Certificate->OX)(x12:List Certificate)(x13 x14:Int)(y2:Identity)(y3_0 y3_1 y3_2:Int)(JH:List Certificate):OX:=
 let a1:=((((lgt QW x12 (Int.toNat x14)).2).2).2)
 let a2:=((lgt QW x12 (Int.toNat x14)).1,(((lgt QW x12 (Int.toNat x14)).2).1,((((lgt QW x12 (Int.toNat x14)).2).2).1,(((a1.1).1,(((a1.1).2).1,())),((a1.2).1,(((((a1.2).2).1).1,(((((a1.2).2).1).2).1,())),((((a1.2).2).2).1,(((((a1.2).2).2).2).1,((((((a1.2).2).2).2).2).1,(((((((a1.2).2).2).2).2).2).1,((([]:List ByteArray)++((((((((a1.2).2).2).2).2).2).2).1)),(((((((((((a1.2).2).2).2).2).2).2).2).1).1,(((((((((((a1.2).2).2).2).2).2).2).2).1).2).1,())),()))))))))))))
 br (ilt x14 x13) (br (cIx x12 x14) (br (QK ([]:List ByteArray) ((((((((a1.2).2).2).2).2).2).2).1) 16) (br (QK JH ([a2]) 152) (kk x12 x13 (Qf .i64 x14 1) y2 y3_0 y3_1 y3_2 (JH++([a2]))) none) none) none) (some (.exit 0,QfN y2 y3_0 y3_1 y3_2 JH))
def V9 (x12:List Certificate)(x13 x14:Int)(y2:Identity)(y3_0 y3_1 y3_2:Int)(JH:List Certificate):OX:=some (.exit 0,QfN (y2) (y3_0) (y3_1) (y3_2) (JH++x12.drop x14.toNat))
theorem Qnf (x12:List Certificate)(x13 x14:Int)(y2:Identity)(y3_0 y3_1 y3_2:Int)(JH:List Certificate):V8 x12 x13 x14 y2 y3_0 y3_1 y3_2 JH=Id V8 x12 x13 x14 y2 y3_0 y3_1 y3_2 JH:=lnT (x:=Id (fun x12 x13 x14 y2 y3_0 y3_1 y3_2 JH=>some (.normal,Qne x12 x13 x14 y2 y3_0 y3_1 y3_2 JH)) x12 x13 x14 y2 y3_0 y3_1 y3_2 JH) (by simp only [Id,nxA];rfl)
def Qng (p0:Identity):OV:=br (Qz p0.2.2.1 (Qa p0.2.2.1) (0:Int)&&(Ju p0.2.2.1&&decide (([]:List Certificate).length<=(0:Int)))) (some (.t Q1 (((p0.1.1),((p0.1.2.1),())),((p0.2.1),((([]:List Certificate)++p0.2.2.1.drop (0:Int).toNat),()))),[])) none
theorem QzK (x12:List Certificate)(x13 x14:Int)(y2:Identity)(y3_0 y3_1 y3_2:Int)(JH:List Certificate)(h:(Qz x12 x13 x14&&(Ju x12&&decide (JH.length<=x14)))=true):V8 x12 x13 x14 y2 y3_0 y3_1 y3_2 JH=V9 x12 x13 x14 y2 y3_0 y3_1 y3_2 JH:=by
 simp only [Bc,Ba] at h
 obtain ⟨h0,hc,hl⟩:=h
 obtain ⟨rfl,h3,k,rfl,hk⟩:=JJ h0
 clear h0
 revert JH
 refine QU x12 (fun k=> ∀ (JH:List Certificate),(JH.length:Int)<=(k:Int)->V8 x12 (x12.length:Int) (k:Int) y2 y3_0 y3_1 y3_2 JH=V9 x12 (x12.length:Int) (k:Int) y2 y3_0 y3_1 y3_2 JH) ?_ ?_ k hk
 ·intro JH _
  rw [Qnf]
  simp only [Id,V9,QD,B0,B4,Qh,Bd,BU,BO]
 ·intro k hk ih JH hl
  rw [Qnf]
  have c1:QK ([]:List ByteArray) (Qs x12[k]) 16=true:=Jj (by decide) (by have:=QfD (Qou hc hk);simp only [BE];omega)
  have c2: ∀ v,QK JH [v] 152=true:=fun v=>Jj (by omega) (by simp only [Bp];omega)
  simp only [Id,QD,QJ,hk,Bv,Qd,Bd,QT (show k<4611686018427387904 by omega),QS (y:=QW) hk]
  refine brY c1 (brY (Jj (by omega) (by simp only [Bp];omega)) ?_)
  refine Eq.trans (ih (JH++[x12[k]]) (by simp only [Bl,Bp];omega)) ?_
  simp only [V9,Bd,Bj hk,BQ,BN]
theorem QzL:LO QfO QfM Qnd 0:=QH (s:=V7) fun x y h _ q=>by simp only [QE,QF] at q;exact (QzK x.2.2.1 x.2.2.2.1 x.2.2.2.2.1 y.1 y.2.1.1 y.2.1.2.1 y.2.1.2.2.1 y.2.2.2.1 h).trans q
theorem s_f160 (x:Identity)(h:Jg x=true):Qng x=some (.t Q1 (U7 x),[]):=by
 have h:Ju x.2.2.1=true:=h
 unfold Qng
 refine brY ?_ rfl
 rw [JK (Qov h),h,BC,BC]
 exact Be (BT _)
def QfP:Ent:=Ql (.pr Q1 .nil) (fun x=>(Jg x.1)) (fun x=>(.t Q1 (U7 x.1)))
theorem Qnh:EM 160 QfP:=mS (lk:=lkL (lkc QzL lkn)) QfO Qnc [((.c 2 true 4),some Q1)] false (gB gN) fun m=>Qn m fun x hok=>kT (s_f160 x.1 hok)
def JI (x:Endpoint):Endpoint:=x
abbrev Qaa:Sh:=⟨[(2,.ptr 2 0),(3,.ptr 3 0),(21,.ty (.sl Q1)),(22,.ty tI),(23,.ty tI)],[(2,.box Qo),(3,.bag [.ty .str,.ty tI,.ty tI,.ms 9,.ty .bool,.ms 20305,.ms 12,.ms 15,.ty .bool]),(9,.arr 3 tI),(12,.arr 3 tI),(15,.arr 3 tI),(32,.no),(20303,.no),(20305,.arr 67 Q1),(20306,.no),(20307,.no)]⟩
abbrev QzM:Sh:=⟨[(2,.ptr 2 0),(3,.ptr 3 0)],[(2,.box Qo),(3,.bag [.ty .str,.ty tI,.ty tI,.ms 9,.ty .bool,.ms 20305,.ms 12,.ms 15,.ty .bool]),(9,.arr 3 tI),(12,.arr 3 tI),(15,.arr 3 tI),(32,.no),(20303,.no),(20305,.arr 67 Q1),(20306,.no),(20307,.no)]⟩
def QfQ:Fg:=Qaa.f
def Qni:TC:=aF Tryz.f120 [(14,pD [(0,[1]),(1,[1]),(2,[9,5009,10009,15009]),(3,[1]),(4,[1]),(5,[12,5012,10012,15012]),(6,[1]),(7,[1]),(8,[15,5015,10015,15015]),(9,[3,9,12,15,32,20303,20305,20306,20307]),(10,[2,3,9,12,15,32,20303,20305,20306,20307]),(11,[3,9,12,15,32,20303,20305,20306,20307]),(12,[2,3,9,12,15,32,20303,20305,20306,20307]),(13,[3,9,12,15,32,20303,20305,20306,20307]),(14,[2,3,9,12,15,32,20303,20305,20306,20307])] (.one 0 (.one 1 (.one 3 (.one 4 (.one 6 (.one 7 (.one 2 (.alt 5 (.alt 8 (.of [9,10,11,12,13,14]) (.of [9,8,10,11,12,13,14])) (.of [9,5,8,10,11,12,13,14])))))))))),(250,.nf 3 7 3 20307),(250,.nf 3 6 3 20306),(250,.nf 3 3 3 20303),(250,.nf 3 5 67 20305),(250,pL 0 QfQ),(4005,.fg ⟨[(2,none),(3,none)],[(2,some Qo),(3,some Qo),(9,none),(12,none),(15,none),(32,none),(20303,none),(20305,none),(20306,none),(20307,none)]⟩),(16025,pD [(0,[3,9,12,15,32,20303,20305,20306,20307]),(1,[3,9,12,15,32,20303,20305,20306,20307]),(2,[5]),(3,[]),(4,[]),(5,[2,3,9,12,15,32,5032,10032,15032,20303,20305,20306,20307]),(6,[3,9,12,15,32,20303,20305,20306,20307]),(7,[2,3,9,12,15,32,20303,20305,20306,20307])] (.of [0,1,2,3,4,5,6,7]))]
def Qnj:TC:=lb 0 Qni
def Qnk (x21:List Identity)(x22 x23:Int)(y2:Endpoint)(y3_0:ByteArray)(y3_1 y3_2:Int)(y3_4 y3_8:Bool)(y9 y12 y15:List Int)(JQ:List Identity):VS:=Qaa.st ((),(),x21,x22,x23,()) (y2,(y3_0,y3_1,y3_2,(),y3_4,(),(),(),y3_8,()),y9,y12,y15,(),(),JQ,(),(),())
def QfR (y2:Endpoint)(y3_0:ByteArray)(y3_1 y3_2:Int)(y3_4 y3_8:Bool)(y9 y12 y15:List Int)(JQ:List Identity):VS:=QzM.st ((),(),()) (y2,(y3_0,y3_1,y3_2,(),y3_4,(),(),(),y3_8,()),y9,y12,y15,(),(),JQ,(),(),())
def QzN:VS->Option (Bool×List (Bool×Exit×VS)):=mkL Qaa (fun x y=>(Qz x.2.2.1 x.2.2.2.1 x.2.2.2.2.1&&(x.2.2.1.all Jg&&decide (y.2.2.2.2.2.2.2.1.length<=x.2.2.2.2.1)))) (fun x y=>[(true,.exit 0,QfR (y.1) (y.2.1.1) (y.2.1.2.1) (y.2.1.2.2.1) (y.2.1.2.2.2.2.1) (y.2.1.2.2.2.2.2.2.2.2.1) (y.2.2.1) (y.2.2.2.1) (y.2.2.2.2.1) (y.2.2.2.2.2.2.2.1++x.2.2.1.drop x.2.2.2.2.1.toNat))])
def QfS:G:=gG 36 [(160,QfP)] (Ls [QzN])
def Qab (x21:List Identity)(x22 x23:Int)(y2:Endpoint)(y3_0:ByteArray)(y3_1 y3_2:Int)(y3_4 y3_8:Bool)(y9 y12 y15:List Int)(JQ:List Identity):OX:=Qv (QB QfS QfQ Qnj) (Qnk x21 x22 x23 y2 y3_0 y3_1 y3_2 y3_4 y3_8 y9 y12 y15 JQ)
def Ie (kk:List Identity->Int->Int->Endpoint->ByteArray->Int->Int->Bool->Bool->List Int->List Int->List Int->List Identity->OX)(x21:List Identity)(x22 x23:Int)(y2:Endpoint)(y3_0:ByteArray)(y3_1 y3_2:Int)(y3_4 y3_8:Bool)(y9 y12 y15:List Int)(JQ:List Identity):OX:=
 let a1:=U7 (lgt Q1 x21 (Int.toNat x23))
 let a2:=(((a1.1).1,(((a1.1).2).1,())),((a1.2).1,(((a1.2).2).1,())))
 br (ilt x23 x22) (br (cIx x21 x23) (br (Jg (lgt Q1 x21 (Int.toNat x23))) (br (QK JQ ([a2]) 48) (kk x21 x22 (Qf .i64 x23 1) y2 y3_0 y3_1 y3_2 y3_4 y3_8 y9 y12 y15 (JQ++([a2]))) none) none) none) (some (.exit 0,QfR y2 y3_0 y3_1 y3_2 y3_4 y3_8 y9 y12 y15 JQ))
def Qac (x21:List Identity)(x22 x23:Int)(y2:Endpoint)(y3_0:ByteArray)(y3_1 y3_2:Int)(y3_4 y3_8:Bool)(y9 y12 y15:List Int)(JQ:List Identity):OX:=some (.exit 0,QfR (y2) (y3_0) (y3_1) (y3_2) (y3_4) (y3_8) (y9) (y12) (y15) (JQ++x21.drop x23.toNat))
theorem Qnl (x21:List Identity)(x22 x23:Int)(y2:Endpoint)(y3_0:ByteArray)(y3_1 y3_2:Int)(y3_4 y3_8:Bool)(y9 y12 y15:List Int)(JQ:List Identity):Qab x21 x22 x23 y2 y3_0 y3_1 y3_2 y3_4 y3_8 y9 y12 y15 JQ=Ie Qab x21 x22 x23 y2 y3_0 y3_1 y3_2 y3_4 y3_8 y9 y12 y15 JQ:=lnT (x:=Ie (fun x21 x22 x23 y2 y3_0 y3_1 y3_2 y3_4 y3_8 y9 y12 y15 JQ=>some (.normal,Qnk x21 x22 x23 y2 y3_0 y3_1 y3_2 y3_4 y3_8 y9 y12 y15 JQ)) x21 x22 x23 y2 y3_0 y3_1 y3_2 y3_4 y3_8 y9 y12 y15 JQ) (by simp only [Ie,nxA];rfl)
def Qad (p0:Endpoint):OV:=br (QK ([]:List Int) p0.2.2.2.2.2.2.2.1 8) (br (Qz p0.2.2.2.2.2.1 (Qa p0.2.2.2.2.2.1) (0:Int)&&(p0.2.2.2.2.2.1.all Jg&&decide (([]:List Identity).length<=(0:Int)))) (some (.t Qo ((p0.1),((p0.2.1),((p0.2.2.1),((([]:List Int)++p0.2.2.2.1),((p0.2.2.2.2.1),((([]:List Identity)++p0.2.2.2.2.2.1.drop (0:Int).toNat),((([]:List Int)++p0.2.2.2.2.2.2.1),((([]:List Int)++p0.2.2.2.2.2.2.2.1),((p0.2.2.2.2.2.2.2.2.1),()))))))))),[])) none) none
def Qnm (p0:Endpoint):OV:=
 let a1:=(QK ([]:List Int) p0.2.2.2.2.2.2.1 8)
 br (QK ([]:List Int) p0.2.2.2.1 8) (frk (br a1 (frk (Qad p0) (Qad p0)) none) (br a1 (Qad p0) none)) none
theorem QzO (x21:List Identity)(x22 x23:Int)(y2:Endpoint)(y3_0:ByteArray)(y3_1 y3_2:Int)(y3_4 y3_8:Bool)(y9 y12 y15:List Int)(JQ:List Identity)(h:(Qz x21 x22 x23&&(x21.all Jg&&decide (JQ.length<=x23)))=true):Qab x21 x22 x23 y2 y3_0 y3_1 y3_2 y3_4 y3_8 y9 y12 y15 JQ=Qac x21 x22 x23 y2 y3_0 y3_1 y3_2 y3_4 y3_8 y9 y12 y15 JQ:=by
 simp only [Bc,Ba] at h
 obtain ⟨h0,hc,hl⟩:=h
 obtain ⟨rfl,h3,k,rfl,hk⟩:=JJ h0
 clear h0
 revert JQ
 refine QU x21 (fun k=> ∀ (JQ:List Identity),(JQ.length:Int)<=(k:Int)->Qab x21 (x21.length:Int) (k:Int) y2 y3_0 y3_1 y3_2 y3_4 y3_8 y9 y12 y15 JQ=Qac x21 (x21.length:Int) (k:Int) y2 y3_0 y3_1 y3_2 y3_4 y3_8 y9 y12 y15 JQ) ?_ ?_ k hk
 ·intro JQ _
  rw [Qnl]
  simp only [Ie,Qac,QD,B0,B4,Qh,Bd,BU,BO]
 ·intro k hk ih JQ hl
  rw [Qnl]
  have c1:Jg x21[k]=true:=Bf.1 hc _ (Bu hk)
  simp only [Ie,QD,QJ,hk,Bv,Qd,Bd,QT (show k<4611686018427387904 by omega),QS (y:=Q1) hk,c1]
  refine brY (Jj (by omega) (by simp only [Bp];omega)) ?_
  refine Eq.trans (ih (JQ++[x21[k]]) (by simp only [Bl,Bp];omega)) ?_
  simp only [Qac,Bd,Bj hk,BQ,BN]
theorem QzP:LO QfS QfQ Qnj 0:=QH (s:=Qaa) fun x y h _ q=>by simp only [QE,QF] at q;exact (QzO x.2.2.1 x.2.2.2.1 x.2.2.2.2.1 y.1 y.2.1.1 y.2.1.2.1 y.2.1.2.2.1 y.2.1.2.2.2.2.1 y.2.1.2.2.2.2.2.2.2.2.1 y.2.2.1 y.2.2.2.1 y.2.2.2.2.1 y.2.2.2.2.2.2.2.1 h).trans q
theorem s_f120 (x:Endpoint)(h:Q0 x=true):Qnm x=some (.t Qo (JI x),[]):=by
 obtain ⟨_,h1,h2,h3,h4,h5⟩:=Gw h
 have c1:QK ([]:List Int) (Qy x) 8=true:=Jj (by decide) (by simp only [BE];omega)
 have c2:QK ([]:List Int) (Q2 x) 8=true:=Jj (by decide) (by simp only [BE];omega)
 have c3:QK ([]:List Int) (Q5 x) 8=true:=Jj (by decide) (by simp only [BE];omega)
 simp only [Qnm,Qad,Wv,Wv]
 refine brY c1 (brY c2 (brY c3 (brY ?_ rfl)))
 rw [JK h2,h5,BC,BC]
 exact Be (BT _)
def QfT:Ent:=Ql (.pr Qo .nil) (fun x=>(Q0 x.1)) (fun x=>(.t Qo (JI x.1)))
theorem Qnn:EM 120 QfT:=mS (lk:=lkL (lkc QzP lkn)) QfS Qni [((.c 2 true 9),some Qo)] false (gB (gD Qnh gN)) fun m=>Qn m fun x hok=>kT (s_f120 x.1 hok)
def XJ (x:Estate):Estate:=x
def U8 (i:Item):Bool:=decide (i.2.2.2.1.length<=1000)
def Qae (x:Estate):Bool:=Jr x&&(Zs x).all U8
abbrev Qaf:Sh:=⟨[(1,.ptr 1 0),(2,.ptr 2 0),(3,.ptr 3 0),(13,.ty (.sl Qo)),(14,.ty tI),(15,.ty tI)],[(1,.box Qw),(2,.box Qw),(3,.bag [.ms 20300,.ms 10,.ms 20302]),(10,.arr 47 Qe),(24,.no),(42,.no),(20300,.arr 61 Qo),(20302,.arr 106 Je)]⟩
abbrev QzQ:Sh:=⟨[(1,.ptr 1 0),(2,.ptr 2 0),(3,.ptr 3 0)],[(1,.box Qw),(2,.box Qw),(3,.bag [.ms 20300,.ms 10,.ms 20302]),(10,.arr 47 Qe),(24,.no),(42,.no),(20300,.arr 61 Qo),(20302,.arr 106 Je)]⟩
abbrev Qag:Sh:=⟨[(2,.ptr 2 0),(3,.ptr 3 0),(28,.ty (.sl Je)),(29,.ty tI),(30,.ty tI)],[(2,.box Qw),(3,.bag [.ms 20300,.ms 10,.ms 20302]),(10,.arr 47 Qe),(24,.no),(42,.no),(20300,.arr 61 Qo),(20302,.arr 106 Je)]⟩
abbrev QzR:Sh:=⟨[(2,.ptr 2 0),(3,.ptr 3 0)],[(2,.box Qw),(3,.bag [.ms 20300,.ms 10,.ms 20302]),(10,.arr 47 Qe),(24,.no),(42,.no),(20300,.arr 61 Qo),(20302,.arr 106 Je)]⟩
def QfU:Fg:=Qaf.f
def QfV:Fg:=Qag.f
def QfW:TC:=aF Tryz.f71 [(58,.nf 3 2 106 20302),(58,.nf 3 0 61 20300),(58,pL 0 QfU),(933,.fg ⟨[(1,none),(2,none),(3,none)],[(1,some Qw),(2,some Qw),(3,some Qw),(10,none),(24,none),(42,none),(20300,none),(20302,none)]⟩),(3737,pD [(0,[3,10,24,42,20300,20302]),(1,[3,10,24,42,20300,20302]),(2,[5]),(3,[]),(4,[]),(5,[2,3,10,24,42,5024,10024,15024,20300,20302]),(6,[3,10,24,42,20300,20302]),(7,[2,3,10,24,42,20300,20302])] (.of [0,1,2,3,4,5,6,7])),(122,.nf 3 0 61 20300),(122,.nf 3 2 106 20302),(122,.nf 7 3 153 20703),(122,pL 1 QfV),(1957,.fg ⟨[(2,none),(3,none)],[(2,some Qw),(3,some Qw),(10,none),(24,none),(42,none),(20300,none),(20302,none)]⟩)]
def Qno:TC:=lb 0 QfW
def Qnp:TC:=lb 1 QfW
def Qnq (x13:List Endpoint)(x14 x15:Int)(y1 y2:Estate)(y10:List Keep)(Qi:List Endpoint)(Qk:List Item):VS:=Qaf.st ((),(),(),x13,x14,x15,()) (y1,y2,((),(),(),()),y10,(),(),Qi,Qk,())
def QfX (y1 y2:Estate)(y10:List Keep)(Qi:List Endpoint)(Qk:List Item):VS:=QzQ.st ((),(),(),()) (y1,y2,((),(),(),()),y10,(),(),Qi,Qk,())
def Qnr (x28:List Item)(x29 x30:Int)(y2:Estate)(y10:List Keep)(Qi:List Endpoint)(Qk:List Item):VS:=Qag.st ((),(),x28,x29,x30,()) (y2,((),(),(),()),y10,(),(),Qi,Qk,())
def QfY (y2:Estate)(y10:List Keep)(Qi:List Endpoint)(Qk:List Item):VS:=QzR.st ((),(),()) (y2,((),(),(),()),y10,(),(),Qi,Qk,())
def QzS:VS->Option (Bool×List (Bool×Exit×VS)):=mkL Qaf (fun x y=>(Qz x.2.2.2.1 x.2.2.2.2.1 x.2.2.2.2.2.1&&(x.2.2.2.1.all Q0&&decide (y.2.2.2.2.2.2.1.length<=x.2.2.2.2.2.1)))) (fun x y=>[(true,.exit 0,QfX (y.1) (y.2.1) (y.2.2.2.1) (y.2.2.2.2.2.2.1++x.2.2.2.1.drop x.2.2.2.2.2.1.toNat) (y.2.2.2.2.2.2.2.1))])
def QzT:VS->Option (Bool×List (Bool×Exit×VS)):=mkL Qag (fun x y=>(Qz x.2.2.1 x.2.2.2.1 x.2.2.2.2.1&&(x.2.2.1.all U8&&decide (y.2.2.2.2.2.2.1.length<=x.2.2.2.2.1)))) (fun x y=>[(true,.exit 2,QfY (y.1) (y.2.2.1) (y.2.2.2.2.2.1) (y.2.2.2.2.2.2.1++x.2.2.1.drop x.2.2.2.2.1.toNat))])
def If:G:=gG 46 [(120,QfT)] (Ls [QzS,QzT])
def Qah (x13:List Endpoint)(x14 x15:Int)(y1 y2:Estate)(y10:List Keep)(Qi:List Endpoint)(Qk:List Item):OX:=Qv (QB If QfU Qno) (Qnq x13 x14 x15 y1 y2 y10 Qi Qk)
def Ig (kk:List Endpoint->Int->Int->Estate->Estate->List Keep->List Endpoint->List Item->OX)(x13:List Endpoint)(x14 x15:Int)(y1 y2:Estate)(y10:List Keep)(Qi:List Endpoint)(Qk:List Item):OX:=
 let a1:=JI (lgt Qo x13 (Int.toNat x15))
 let a2:=((a1.2).1,(((a1.2).2).1,((((a1.2).2).2).1,(((((a1.2).2).2).2).1,((((((a1.2).2).2).2).2).1,(((((((a1.2).2).2).2).2).2).1,((((((((a1.2).2).2).2).2).2).2).1,(((((((((a1.2).2).2).2).2).2).2).2).1,()))))))))
 br (ilt x15 x14) (br (cIx x13 x15) (br (Q0 (lgt Qo x13 (Int.toNat x15))) (br (QK Qi ([(a1.1,a2)]) 144) (kk x13 x14 (Qf .i64 x15 1) y1 y2 y10 (Qi++([(a1.1,a2)])) Qk) none) none) none) (some (.exit 0,QfX y1 y2 y10 Qi Qk))
def Qai (x13:List Endpoint)(x14 x15:Int)(y1 y2:Estate)(y10:List Keep)(Qi:List Endpoint)(Qk:List Item):OX:=some (.exit 0,QfX (y1) (y2) (y10) (Qi++x13.drop x15.toNat) (Qk))
theorem Qns (x13:List Endpoint)(x14 x15:Int)(y1 y2:Estate)(y10:List Keep)(Qi:List Endpoint)(Qk:List Item):Qah x13 x14 x15 y1 y2 y10 Qi Qk=Ig Qah x13 x14 x15 y1 y2 y10 Qi Qk:=lnT (x:=Ig (fun x13 x14 x15 y1 y2 y10 Qi Qk=>some (.normal,Qnq x13 x14 x15 y1 y2 y10 Qi Qk)) x13 x14 x15 y1 y2 y10 Qi Qk) (by simp only [Ig,nxA];rfl)
def Qaj (x28:List Item)(x29 x30:Int)(y2:Estate)(y10:List Keep)(Qi:List Endpoint)(Qk:List Item):OX:=Qv (QB If QfV Qnp) (Qnr x28 x29 x30 y2 y10 Qi Qk)
def Ih (kk:List Item->Int->Int->Estate->List Keep->List Endpoint->List Item->OX)(x28:List Item)(x29 x30:Int)(y2:Estate)(y10:List Keep)(Qi:List Endpoint)(Qk:List Item):OX:=
 let a1:=lgt Je x28 (Int.toNat x30)
 let a2:=(((a1.2).2).2)
 br (ilt x30 x29) (br (cIx x28 x30) (br (QK ([]:List Link) (a2.1) 24) (br (QK Qk ([(a1.1,((a1.2).1,(((a1.2).2).1,((([]:List Link)++(a2.1)),((a2.2).1,())))))]) 64) (kk x28 x29 (Qf .i64 x30 1) y2 y10 Qi (Qk++([(a1.1,((a1.2).1,(((a1.2).2).1,((([]:List Link)++(a2.1)),((a2.2).1,())))))]))) none) none) none) (some (.exit 2,QfY y2 y10 Qi Qk))
def Qak (x28:List Item)(x29 x30:Int)(y2:Estate)(y10:List Keep)(Qi:List Endpoint)(Qk:List Item):OX:=some (.exit 2,QfY (y2) (y10) (Qi) (Qk++x28.drop x30.toNat))
theorem Qnt (x28:List Item)(x29 x30:Int)(y2:Estate)(y10:List Keep)(Qi:List Endpoint)(Qk:List Item):Qaj x28 x29 x30 y2 y10 Qi Qk=Ih Qaj x28 x29 x30 y2 y10 Qi Qk:=lnT (x:=Ih (fun x28 x29 x30 y2 y10 Qi Qk=>some (.normal,Qnr x28 x29 x30 y2 y10 Qi Qk)) x28 x29 x30 y2 y10 Qi Qk) (by simp only [Ih,nxA];rfl)
def r_f71 (p0:Estate):OV:=
 let a1:=((((p0).2).2).1)
 br (QK ([]:List Keep) p0.2.1 16) (br (Qz p0.1 (Qa p0.1) (0:Int)&&(p0.1.all Q0&&decide (([]:List Endpoint).length<=(0:Int)))) (br (Qz a1 (Qa a1) (0:Int)&&(a1.all U8&&decide (([]:List Item).length<=(0:Int)))) (some (.ag [(.ms 50000),(.ms 50001),(.ms 50002)],[.arr 61 Qo (([]:List Endpoint)++p0.1.drop (0:Int).toNat),.arr 47 Qe (([]:List Keep)++p0.2.1),.arr 106 Je (([]:List Item)++a1.drop (0:Int).toNat)])) none) none) none
theorem QzU (x13:List Endpoint)(x14 x15:Int)(y1 y2:Estate)(y10:List Keep)(Qi:List Endpoint)(Qk:List Item)(h:(Qz x13 x14 x15&&(x13.all Q0&&decide (Qi.length<=x15)))=true):Qah x13 x14 x15 y1 y2 y10 Qi Qk=Qai x13 x14 x15 y1 y2 y10 Qi Qk:=by
 simp only [Bc,Ba] at h
 obtain ⟨h0,hc,hl⟩:=h
 obtain ⟨rfl,h3,k,rfl,hk⟩:=JJ h0
 clear h0
 revert Qi
 refine QU x13 (fun k=> ∀ (Qi:List Endpoint),(Qi.length:Int)<=(k:Int)->Qah x13 (x13.length:Int) (k:Int) y1 y2 y10 Qi Qk=Qai x13 (x13.length:Int) (k:Int) y1 y2 y10 Qi Qk) ?_ ?_ k hk
 ·intro Qi _
  rw [Qns]
  simp only [Ig,Qai,QD,B0,B4,Qh,Bd,BU,BO]
 ·intro k hk ih Qi hl
  rw [Qns]
  have c1:Q0 x13[k]=true:=Bf.1 hc _ (Bu hk)
  simp only [Ig,QD,QJ,hk,Bv,Qd,Bd,QT (show k<4611686018427387904 by omega),QS (y:=Qo) hk,c1]
  refine brY (Jj (by omega) (by simp only [Bp];omega)) ?_
  refine Eq.trans (ih (Qi++[x13[k]]) (by simp only [Bl,Bp];omega)) ?_
  simp only [Qai,Bd,Bj hk,BQ,BN]
theorem QzV (x28:List Item)(x29 x30:Int)(y2:Estate)(y10:List Keep)(Qi:List Endpoint)(Qk:List Item)(h:(Qz x28 x29 x30&&(x28.all U8&&decide (Qk.length<=x30)))=true):Qaj x28 x29 x30 y2 y10 Qi Qk=Qak x28 x29 x30 y2 y10 Qi Qk:=by
 simp only [Bc,Ba] at h
 obtain ⟨h0,hc,hl⟩:=h
 obtain ⟨rfl,h3,k,rfl,hk⟩:=JJ h0
 clear h0
 revert Qk
 refine QU x28 (fun k=> ∀ (Qk:List Item),(Qk.length:Int)<=(k:Int)->Qaj x28 (x28.length:Int) (k:Int) y2 y10 Qi Qk=Qak x28 (x28.length:Int) (k:Int) y2 y10 Qi Qk) ?_ ?_ k hk
 ·intro Qk _
  rw [Qnt]
  simp only [Ih,Qak,QD,B0,B4,Qh,Bd,BU,BO]
 ·intro k hk ih Qk hl
  rw [Qnt]
  have c1:x28[k].2.2.2.1.length<=1000:=Bx (Bf.1 hc _ (Bu hk))
  simp only [Ih,QD,QJ,hk,Bv,Qd,Bd,QT (show k<4611686018427387904 by omega),QS (y:=Je) hk]
  refine brY (Jj (by decide) (by simp only [BE];omega)) (brY (Jj (by omega) (by simp only [Bp];omega)) ?_)
  refine Eq.trans (ih (Qk++[x28[k]]) (by simp only [Bl,Bp];omega)) ?_
  simp only [Qak,Bd,Bj hk,BQ,BN]
theorem QzW:LO If QfU Qno 0:=QH (s:=Qaf) fun x y h _ q=>by simp only [QE,QF] at q;exact (QzU x.2.2.2.1 x.2.2.2.2.1 x.2.2.2.2.2.1 y.1 y.2.1 y.2.2.2.1 y.2.2.2.2.2.2.1 y.2.2.2.2.2.2.2.1 h).trans q
theorem QzX:LO If QfV Qnp 1:=QH (s:=Qag) fun x y h _ q=>by simp only [QE,QF] at q;exact (QzV x.2.2.1 x.2.2.2.1 x.2.2.2.2.1 y.1 y.2.2.1 y.2.2.2.2.2.1 y.2.2.2.2.2.2.1 h).trans q
theorem s_f71 (x:Estate)(h:Qae x=true):r_f71 x=some (.ag [.ms 50000,.ms 50001,.ms 50002],[.arr 61 Qo (XJ x).1,.arr 47 Qe (XJ x).2.1,.arr 106 Je (XJ x).2.2.1]):=by
 obtain ⟨h,h6⟩:=Bi.1 h
 simp only [Jr,Bc,Ba] at h
 obtain ⟨⟨h1,h2⟩,h3,h4⟩:=h
 have h5:=QyI h4
 unfold r_f71
 have hx:x.2.1.length<=99999:=h2
 refine brY (Jj (by decide) (by simp only [BE];omega)) (brY ?_ (brY ?_ rfl))
 ·rw [JK (show (Qu x).length<=100000 by omega),h3,BC,BC]
  exact Be (BT _)
 ·rw [JK h5,h6,BC,BC]
  exact Be (BT _)
def Qnu:Ent:=WE (.pr Qw .nil) (fun x=>(Qae x.1)) (fun x=>(.ag [(.ms 50000),(.ms 50001),(.ms 50002)])) (fun x=>[.arr 61 Qo ((XJ x.1).1),.arr 47 Qe (((XJ x.1).2).1),.arr 106 Je ((((XJ x.1).2).2).1)])
theorem ms_f71:EM 71 Qnu:=mS (lk:=lkL (lkc QzW (lkc QzX lkn))) If QfW [((.c 2 true 3),none)] true (gB (gD Qnn gN)) fun m=>Qg3 m fun x hok=>kT (s_f71 x.1 hok)
end
end Go.Proofs.YtmjnnemhoeolgaaGreat.K
noncomputable section
namespace Go.Proofs.YtmjnnemhoeolgaaGreat.K
open Go.RowKit
noncomputable section
def noAn (e:Endpoint):Endpoint:=(e.1,(e.2.1,(e.2.2.1,(e.2.2.2.1,(e.2.2.2.2.1,(e.2.2.2.2.2.1,(([]:List Int),e.2.2.2.2.2.2.2)))))))
def an (b:Bool)(e:Endpoint):Endpoint:=bif b then noAn e else e
theorem Qdd (d:Dice){j:Nat}(hj:j<(Qu (QG d)).length):G9 (Jl (Qu (QG d)) j):=by
 rw [show Jl (Qu (QG d)) j=(Qu (QG d))[j] by simp only [Jl,Bk,Bh hj,BI]]
 exact Qmx d _ (Bu hj)
end
end Go.Proofs.YtmjnnemhoeolgaaGreat.K
noncomputable section
namespace Go.Proofs.YtmjnnemhoeolgaaGreat.K.PE
open Go.RowKit
noncomputable section
attribute [local irreducible] epV epN
open Classical in
end
end Go.Proofs.YtmjnnemhoeolgaaGreat.K.PE
namespace Go.Proofs.YtmjnnemhoeolgaaGreat.K
open Go.RowKit PE
end Go.Proofs.YtmjnnemhoeolgaaGreat.K
noncomputable section
namespace Go.Proofs.YtmjnnemhoeolgaaGreat.K
open Go.RowKit
noncomputable section
theorem brF {c v:Bool}{X:OV}(h:X=some (.t .bool v,[])):br c (some (.t .bool false,[])) X=some (.t .bool (!c&&v),[]):=by
 subst h
 cases c<;>rfl
def WB (a b:List ByteArray)(k:Nat):Bool:=(List.range' k (a.length-k)).all fun j=> !sne (a.getD j ByteArray.empty) (b.getD j ByteArray.empty)
def Gg (a b:Certificate):Bool:=
 !ine a.1 b.1&&(!sne a.2.1 b.2.1&&(!sne a.2.2.1 b.2.2.1&&(!(!(and (ieq a.2.2.2.1.1 b.2.2.2.1.1) (and (ieq a.2.2.2.1.2.1 b.2.2.2.1.2.1) true)))&&(!ine a.2.2.2.2.1 b.2.2.2.2.1&&(!(!(and (ieq a.2.2.2.2.2.1.1 b.2.2.2.2.2.1.1) (and (ieq a.2.2.2.2.2.1.2.1 b.2.2.2.2.2.1.2.1) true)))&&
 (!ine a.2.2.2.2.2.2.1 b.2.2.2.2.2.2.1&&(!ine a.2.2.2.2.2.2.2.1 b.2.2.2.2.2.2.2.1&&(!FF a.2.2.2.2.2.2.2.2.1 b.2.2.2.2.2.2.2.2.1&&(!ine a.2.2.2.2.2.2.2.2.2.1 b.2.2.2.2.2.2.2.2.2.1&&(!(!(and (ieq a.2.2.2.2.2.2.2.2.2.2.2.1.1 b.2.2.2.2.2.2.2.2.2.2.2.1.1) (and (ieq a.2.2.2.2.2.2.2.2.2.2.2.1.2.1 b.2.2.2.2.2.2.2.2.2.2.2.1.2.1) true)))&&
 (!ine (Qa (Qs a)) (Qa (Qs b))&&WB (Qs a) (Qs b) 0)))))))))))
def Qax (a _b:Certificate):Bool:=decide ((Qs a).length<=100000)
abbrev Qay:Sh:=⟨[(2,.ptr 2 0),(3,.ptr 3 0),(92,.ty tI),(93,.ty tI)],[(2,.box QW),(3,.box QW)]⟩
abbrev Qgl:Sh:=⟨[(4,.ty .bool)],[]⟩
abbrev Fo:Sh:=⟨[],[]⟩
def Qgm:Fg:=Qay.f
def Qn4:TC:=aF Tryz.f213 [(58,pL 0 Qgm),(933,.fg Fo.f),(7474,pD [(0,[2]),(1,[2]),(2,[]),(3,[]),(4,[]),(5,[3]),(6,[3]),(7,[]),(8,[]),(9,[]),(10,[])] (.of [0,1,2,3,4,5,6,7,8,9,10])),(29901,.fg Qgl.f)]
def Qn5:TC:=lb 0 Qn4
def Qn6 (x92 x93:Int)(y2 y3:Certificate):VS:=Qay.st ((),(),x92,x93,()) (y2,y3,())
def Fp (x4:Bool):VS:=Qgl.st (x4,()) ()
def Qgn  : VS:=Fo.st () ()
def QAq:VS->Option (Bool×List (Bool×Exit×VS)):=mkL Qay (fun x y=>(decide (x.2.2.1=(Qs y.1).length/\0<=x.2.2.2.1/\x.2.2.2.1<=x.2.2.1/\(Qs y.1).length=(Qs y.2.1).length/\x.2.2.1<=100000))) (fun x y=>[((!WB (Qs y.1) (Qs y.2.1) x.2.2.2.1.toNat),.ret,Fp (false)),(true,.exit 0,Qgn)])
def Qgo:G:=gG 108 [] (Ls [QAq])
def Qaz (x92 x93:Int)(y2 y3:Certificate):OX:=Qv (QB Qgo Qgm Qn5) (Qn6 x92 x93 y2 y3)
def Im (kk:Int->Int->Certificate->Certificate->OX)(x92 x93:Int)(y2 y3:Certificate):OX:=br (ilt x93 x92) (br (cIx y2.2.2.2.2.2.2.2.2.2.2.1 x93) (br (cIx y3.2.2.2.2.2.2.2.2.2.2.1 x93) (br (sne (lgt .str y2.2.2.2.2.2.2.2.2.2.2.1 (Int.toNat x93)) (lgt .str y3.2.2.2.2.2.2.2.2.2.2.1 (Int.toNat x93))) (some (.ret,Fp false)) (kk x92 (Qf .i64 x93 1) y2 y3)) none) none) (some (.exit 0,Qgn))
def QaA (x92 x93:Int)(y2 y3:Certificate):OX:=br (!WB (Qs y2) (Qs y3) x93.toNat) (some (.ret,Fp (false)))<|some (.exit 0,Qgn)
theorem Qn7 (x92 x93:Int)(y2 y3:Certificate):Qaz x92 x93 y2 y3=Im Qaz x92 x93 y2 y3:=lnT (x:=Im (fun x92 x93 y2 y3=>some (.normal,Qn6 x92 x93 y2 y3)) x92 x93 y2 y3) (by simp only [Im,nxA];rfl)
def Qn8 (p0 p1:Certificate):OV:=
 let a1:=Qa p0.2.2.2.2.2.2.2.2.2.2.1
 br (ine p0.1 p1.1) (some (.t .bool false,[])) (br (sne p0.2.1 p1.2.1) (some (.t .bool false,[])) (br (sne p0.2.2.1 p1.2.2.1) (some (.t .bool false,[])) (br (!(and (ieq p0.2.2.2.1.1 p1.2.2.2.1.1) (and (ieq p0.2.2.2.1.2.1 p1.2.2.2.1.2.1) true))) (some (.t .bool false,[])) (br (ine p0.2.2.2.2.1 p1.2.2.2.2.1) (some (.t .bool false,[])) (br (!(and (ieq p0.2.2.2.2.2.1.1 p1.2.2.2.2.2.1.1) (and (ieq p0.2.2.2.2.2.1.2.1 p1.2.2.2.2.2.1.2.1) true))) (some (.t .bool false,[])) (br (ine p0.2.2.2.2.2.2.1 p1.2.2.2.2.2.2.1) (some (.t .bool false,[])) (br (ine p0.2.2.2.2.2.2.2.1 p1.2.2.2.2.2.2.2.1) (some (.t .bool false,[])) (br (FF p0.2.2.2.2.2.2.2.2.1 p1.2.2.2.2.2.2.2.2.1) (some (.t .bool false,[])) (br (ine p0.2.2.2.2.2.2.2.2.2.1 p1.2.2.2.2.2.2.2.2.2.1) (some (.t .bool false,[])) (br (!(and (ieq p0.2.2.2.2.2.2.2.2.2.2.2.1.1 p1.2.2.2.2.2.2.2.2.2.2.2.1.1) (and (ieq p0.2.2.2.2.2.2.2.2.2.2.2.1.2.1 p1.2.2.2.2.2.2.2.2.2.2.2.1.2.1) true))) (some (.t .bool false,[])) (br (ine a1 (Qa p1.2.2.2.2.2.2.2.2.2.2.1)) (some (.t .bool false,[])) (br (decide (a1=(Qs p0).length/\0<=(0:Int)/\(0:Int)<=a1/\(Qs p0).length=(Qs p1).length/\a1<=100000)) (br (!WB (Qs p0) (Qs p1) (0:Int).toNat) (some (.t .bool (false),[])) (some (.t .bool true,[]))) none))))))))))))
theorem QAr (x92 x93:Int)(y2 y3:Certificate)(h:(decide (x92=(Qs y2).length/\0<=x93/\x93<=x92/\(Qs y2).length=(Qs y3).length/\x92<=100000))=true):Qaz x92 x93 y2 y3=QaA x92 x93 y2 y3:=by
 obtain ⟨rfl,h0,h1,h2,h3⟩:=Bx h
 obtain ⟨k,rfl⟩:=Bq h0
 refine QU (Qs y2) (fun k=>Qaz ((Qs y2).length:Int) (k:Int) y2 y3=QaA ((Qs y2).length:Int) (k:Int) y2 y3) ?_ ?_ k (by omega)
 ·rw [Qn7]
  simp only [Im,QaA,QD,B0,B4,Qh,Bd,WB,Nat.sub_self]
  rfl
 ·intro k hk ih
  rw [Qn7]
  have hk2:k<(Qs y3).length:=by omega
  have e1:cIx (Qs y2) (k:Int)=true:=by rw [QJ];exact Be hk
  have e2:cIx (Qs y3) (k:Int)=true:=by rw [QJ];exact Be hk2
  have hs:WB (Qs y2) (Qs y3) k=(!sne ((Qs y2).getD k ByteArray.empty) ((Qs y3).getD k ByteArray.empty)&&WB (Qs y2) (Qs y3) (k+1)):=by
   have:(Qs y2).length-k=((Qs y2).length-(k+1))+1:=by omega
   unfold WB
   rw [this,Du,BV]
  simp only [Im,QD,hk,Bv,Qd,Bd,QT (show k<4611686018427387904 by omega),ih]
  refine brY e1 (brY e2 ?_)
  simp only [QaA,Bd,hs]
  show br (sne ((Qs y2).getD k ByteArray.empty) ((Qs y3).getD k ByteArray.empty)) _ _=_
  cases sne ((Qs y2).getD k ByteArray.empty) ((Qs y3).getD k ByteArray.empty)<;>rfl
theorem QAs:LO Qgo Qgm Qn5 0:=QH (s:=Qay) fun x y h _ q=>by simp only [QE,QF] at q;exact (QAr x.2.2.1 x.2.2.2.1 y.1 y.2.1 h).trans q
theorem s_f213 (a b:Certificate)(h:Qax a b=true):Qn8 a b=some (.t .bool (Gg a b),[]):=by
 have h:(Qs a).length<=100000:=Bx h
 unfold Qn8
 refine brF (brF (brF (brF (brF (brF (brF (brF (brF (brF (brF ?_))))))))))
 refine QZ (fun g=> ?_) (fun g=> ?_)
 ·have g:ine (Qa (Qs a)) (Qa (Qs b))=true:=g
  rw [g]
  rfl
 ·have g:ine (Qa (Qs a)) (Qa (Qs b))=false:=g
  rw [g]
  have gl:(Qs a).length=(Qs b).length:=by
   simp only [ine,Qa,bne_eq_false_iff_eq] at g
   omega
  refine brY (Be ⟨rfl,BT _,by simp only [Qa];omega,gl,by show ((Qs a).length:Int)<=100000;omega⟩) ?_
  rw [Bw]
  cases WB (Qs a) (Qs b) 0<;>rfl
def Qn9:Ent:=Ql (.pr QW (.pr QW .nil)) (fun x=>(Qax x.1 x.2.1)) (fun x=>(.t .bool (Gg x.1 x.2.1)))
theorem QAt:EM 213 Qn9:=mS (lk:=lkL (lkc QAs lkn)) Qgo Qn4 [((.t 4),some .bool)] false (gB gN) fun m=>Qn m fun x hok=>kT (s_f213 x.1 x.2.1 hok)
def WC (a b:List Certificate)(k:Nat):Bool:=(List.range' k (a.length-k)).all fun j=>Gg (cAt a j) (cAt b j)
def Uv (a b:Identity):Bool:= !(!(and (ieq a.1.1 b.1.1) (and (ieq a.1.2.1 b.1.2.1) true)))&&(!ine a.2.1 b.2.1&&(!ine (Qa a.2.2.1) (Qa b.2.2.1)&&WC a.2.2.1 b.2.2.1 0))
def Qgp (a b:Identity):Bool:=Jg a&&Jg b
abbrev QaB:Sh:=⟨[(2,.ptr 2 0),(3,.ptr 3 0),(29,.ty tI),(30,.ty tI)],[(2,.box Q1),(3,.box Q1)]⟩
def Qgq:Fg:=QaB.f
def Qoa:TC:=aF Tryz.f193 [(58,pL 0 Qgq),(933,.fg Fo.f),(7474,pD [(0,[2]),(1,[2]),(2,[]),(3,[]),(4,[]),(5,[3]),(6,[3]),(7,[]),(8,[]),(9,[]),(10,[]),(11,[])] (.of [0,1,2,3,4,5,6,7,8,9,10,11])),(29901,.fg Qgl.f)]
def Qob:TC:=lb 0 Qoa
def Qoc (x29 x30:Int)(y2 y3:Identity):VS:=QaB.st ((),(),x29,x30,()) (y2,y3,())
def Qgr  : VS:=Fo.st () ()
def QAu:VS->Option (Bool×List (Bool×Exit×VS)):=mkL QaB (fun x y=>(decide (x.2.2.1=y.1.2.2.1.length/\0<=x.2.2.2.1/\x.2.2.2.1<=x.2.2.1/\y.1.2.2.1.length=y.2.1.2.2.1.length/\x.2.2.1<=100000)&&(Ju y.1.2.2.1&&Ju y.2.1.2.2.1))) (fun x y=>[((!WC y.1.2.2.1 y.2.1.2.2.1 x.2.2.2.1.toNat),.ret,Fp (false)),(true,.exit 0,Qgr)])
def Qgs:G:=gG 46 [(213,Qn9)] (Ls [QAu])
def QaC (x29 x30:Int)(y2 y3:Identity):OX:=Qv (QB Qgs Qgq Qob) (Qoc x29 x30 y2 y3)
def Io (kk:Int->Int->Identity->Identity->OX)(x29 x30:Int)(y2 y3:Identity):OX:=
 let a1:=lgt QW y2.2.2.1 (Int.toNat x30)
 let a2:=lgt QW y3.2.2.1 (Int.toNat x30)
 br (ilt x30 x29) (br (cIx y2.2.2.1 x30) (br (cIx y3.2.2.1 x30) (br (Qax a1 a2) (br (!(Gg a1 a2)) (some (.ret,Fp false)) (kk x29 (Qf .i64 x30 1) y2 y3)) none) none) none) (some (.exit 0,Qgr))
def QaD (x29 x30:Int)(y2 y3:Identity):OX:=br (!WC y2.2.2.1 y3.2.2.1 x30.toNat) (some (.ret,Fp (false)))<|some (.exit 0,Qgr)
theorem Qod (x29 x30:Int)(y2 y3:Identity):QaC x29 x30 y2 y3=Io QaC x29 x30 y2 y3:=lnT (x:=Io (fun x29 x30 y2 y3=>some (.normal,Qoc x29 x30 y2 y3)) x29 x30 y2 y3) (by simp only [Io,nxA];rfl)
def Qoe (p0 p1:Identity):OV:=
 let a1:=Qa p0.2.2.1
 br (!(and (ieq p0.1.1 p1.1.1) (and (ieq p0.1.2.1 p1.1.2.1) true))) (some (.t .bool false,[])) (br (ine p0.2.1 p1.2.1) (some (.t .bool false,[])) (br (ine a1 (Qa p1.2.2.1)) (some (.t .bool false,[])) (br (decide (a1=p0.2.2.1.length/\0<=(0:Int)/\(0:Int)<=a1/\p0.2.2.1.length=p1.2.2.1.length/\a1<=100000)&&(Ju p0.2.2.1&&Ju p1.2.2.1)) (br (!WC p0.2.2.1 p1.2.2.1 (0:Int).toNat) (some (.t .bool (false),[])) (some (.t .bool true,[]))) none)))
theorem QAv (x29 x30:Int)(y2 y3:Identity)(h:(decide (x29=y2.2.2.1.length/\0<=x30/\x30<=x29/\y2.2.2.1.length=y3.2.2.1.length/\x29<=100000)&&(Ju y2.2.2.1&&Ju y3.2.2.1))=true):QaC x29 x30 y2 y3=QaD x29 x30 y2 y3:=by
 simp only [Bc,Ba] at h
 obtain ⟨⟨rfl,h0,h1,h2,h3⟩,hc,hc2⟩:=h
 obtain ⟨k,rfl⟩:=Bq h0
 refine QU y2.2.2.1 (fun k=>QaC (y2.2.2.1.length:Int) (k:Int) y2 y3=QaD (y2.2.2.1.length:Int) (k:Int) y2 y3) ?_ ?_ k (by omega)
 ·rw [Qod]
  simp only [Io,QaD,QD,B0,B4,Qh,Bd,WC,Nat.sub_self]
  rfl
 ·intro k hk ih
  rw [Qod]
  have hk2:k<y3.2.2.1.length:=by omega
  have hs:WC y2.2.2.1 y3.2.2.1 k=(Gg (cAt y2.2.2.1 k) (cAt y3.2.2.1 k)&&WC y2.2.2.1 y3.2.2.1 (k+1)):=by
   have:y2.2.2.1.length-k=(y2.2.2.1.length-(k+1))+1:=by omega
   unfold WC
   rw [this,Du,BV]
  have hq:Qax (cAt y2.2.2.1 k) (cAt y3.2.2.1 k)=true:=by
   rw [QAJ hk]
   exact Be (QfD (Qou hc hk))
  simp only [Io,QD,QJ,hk,hk2,Bv,Qd,Bd,QT (show k<4611686018427387904 by omega),ih]
  refine brY hq ?_
  simp only [QaD,Bd,hs]
  show br (!Gg (cAt y2.2.2.1 k) (cAt y3.2.2.1 k)) _ _=_
  cases Gg (cAt y2.2.2.1 k) (cAt y3.2.2.1 k)<;>rfl
theorem QAw:LO Qgs Qgq Qob 0:=QH (s:=QaB) fun x y h _ q=>by simp only [QE,QF] at q;exact (QAv x.2.2.1 x.2.2.2.1 y.1 y.2.1 h).trans q
theorem s_f193 (a b:Identity)(h:Qgp a b=true):Qoe a b=some (.t .bool (Uv a b),[]):=by
 obtain ⟨ha,hb⟩:=Bi.1 h
 have ha:Ju a.2.2.1=true:=ha
 have hb:Ju b.2.2.1=true:=hb
 have hl:=Qov ha
 unfold Qoe
 refine brF (brF ?_)
 refine QZ (fun g=> ?_) (fun g=> ?_)
 ·rw [g]
  rfl
 ·rw [g]
  have gl:a.2.2.1.length=b.2.2.1.length:=by
   simp only [ine,Qa,bne_eq_false_iff_eq] at g
   omega
  refine brY ?_ ?_
  ·rw [ha,hb,Be ⟨rfl,BT _,by simp only [Qa];omega,gl,by simp only [Qa];omega⟩]
   rfl
  ·rw [Bw]
   cases WC a.2.2.1 b.2.2.1 0<;>rfl
def Qof:Ent:=Ql (.pr Q1 (.pr Q1 .nil)) (fun x=>(Qgp x.1 x.2.1)) (fun x=>(.t .bool (Uv x.1 x.2.1)))
theorem QAx:EM 193 Qof:=mS (lk:=lkL (lkc QAw lkn)) Qgs Qoa [((.t 4),some .bool)] false (gB (gD QAt gN)) fun m=>Qn m fun x hok=>kT (s_f193 x.1 x.2.1 hok)
def Zk (l:List Int)(n:Int):Int:=match QC (fun y=>ieq y n) l with|some k=>(k:Int)|none=> -1
abbrev QaE:Sh:=⟨[(1,.ty tI),(7,.ty (.sl tI)),(8,.ty tI),(9,.ty tI)],[]⟩
abbrev Qog:Sh:=⟨[(4,.ty tI)],[]⟩
def Qgt:Fg:=QaE.f
def Qoh:TC:=aF Tryz.f155 [(26,pL 0 Qgt),(421,.fg Fo.f),(13517,.fg Qog.f)]
def Qoi:TC:=lb 0 Qoh
def Qoj (x1:Int)(x7:List Int)(x8 x9:Int):VS:=QaE.st (x1,x7,x8,x9,()) ()
def Qgu (x4:Int):VS:=Qog.st (x4,()) ()
def Qgv  : VS:=Fo.st () ()
def QAy:VS->Option (Bool×List (Bool×Exit×VS)):=mkL QaE (fun x y=>(Qz x.2.1 x.2.2.1 x.2.2.2.1)) (fun x y=>[(((QC (fun y=>ieq y x.1) (x.2.1.drop x.2.2.2.1.toNat)).isSome),.ret,Qgu (x.2.2.2.1+((QC (fun y=>ieq y x.1) (x.2.1.drop x.2.2.2.1.toNat)).getD 0:Nat))),(true,.exit 0,Qgv)])
def Qgw:G:=gG 19 [] (Ls [QAy])
def QaF (x1:Int)(x7:List Int)(x8 x9:Int):OX:=Qv (QB Qgw Qgt Qoi) (Qoj x1 x7 x8 x9)
def Ip (kk:Int->List Int->Int->Int->OX)(x1:Int)(x7:List Int)(x8 x9:Int):OX:=br (ilt x9 x8) (br (cIx x7 x9) (br (ieq (lgt tI x7 (Int.toNat x9)) x1) (some (.ret,Qgu x9)) (kk x1 x7 x8 (Qf .i64 x9 1))) none) (some (.exit 0,Qgv))
def QaG (x1:Int)(x7:List Int)(x8 x9:Int):OX:=br ((QC (fun y=>ieq y x1) (x7.drop x9.toNat)).isSome) (some (.ret,Qgu (x9+((QC (fun y=>ieq y x1) (x7.drop x9.toNat)).getD 0:Nat))))<|some (.exit 0,Qgv)
theorem Qok (x1:Int)(x7:List Int)(x8 x9:Int):QaF x1 x7 x8 x9=Ip QaF x1 x7 x8 x9:=lnT (x:=Ip (fun x1 x7 x8 x9=>some (.normal,Qoj x1 x7 x8 x9)) x1 x7 x8 x9) (by simp only [Ip,nxA];rfl)
def Qol (p0:List Int)(p1:Int):OV:=
 let a1:=(p0.drop (0:Int).toNat)
 br (Qz p0 (Qa p0) (0:Int)) (br ((QC (fun y=>ieq y p1) a1).isSome) (some (.t tI ((0:Int)+((QC (fun y=>ieq y p1) a1).getD 0:Nat)),[])) (some (.t tI (-1),[]))) none
theorem QAz (x1:Int)(x7:List Int)(x8 x9:Int)(h:(Qz x7 x8 x9)=true):QaF x1 x7 x8 x9=QaG x1 x7 x8 x9:=by
 obtain ⟨rfl,h3,k,rfl,hk⟩:=JJ h
 clear h
 refine QU x7 (fun k=>QaF x1 x7 (x7.length:Int) (k:Int)=QaG x1 x7 (x7.length:Int) (k:Int)) ?_ ?_ k hk
 ·rw [Qok]
  simp [Ip,QaG,QD,Qh,QC]
 ·intro k hk ih
  rw [Qok]
  simp only [Ip,QD,QJ,hk,Bv,Qd,Bd,QT (show k<4611686018427387904 by omega),ih,QS (y:=tI) hk]
  simp only [QaG,Bd,Bj hk,QC]
  cases h:(ieq x7[k] x1) with
  |true=>simp [Qd]
  |false=>
   simp only [Qh,BK,Do]
   cases hq:QC (fun y=>ieq y x1) (x7.drop (k+1)) with
   |none=>rfl
   |some j=>
    simp only [B1,B6,BI,Qd]
    congr 3
    omega
theorem QAA:LO Qgw Qgt Qoi 0:=QH (s:=QaE) fun x y h _ q=>by simp only [QE,QF] at q;exact (QAz x.1 x.2.1 x.2.2.1 x.2.2.2.1 h).trans q
theorem s_f155 (l:List Int)(n:Int)(h:Jz l n=true):Qol l n=some (.t tI (Zk l n),[]):=by
 have hl:l.length<=100000:=Bx h
 simp only [Qol,JK hl,Qd,Bw,BD,Zk]
 cases QC (fun y=>ieq y n) l<;>simp [Qd,Qh]
def Qgx:Ent:=Ql (.pr (.sl tI) (.pr tI .nil)) (fun x=>(Jz x.1 x.2.1)) (fun x=>(.t tI (Zk x.1 x.2.1)))
theorem Qom:EM 155 Qgx:=mS (lk:=lkL (lkc QAA lkn)) Qgw Qoh [((.t 4),some tI)] false (gB gN) fun m=>Qn m fun x hok=>kT (s_f155 x.1 x.2.1 hok)
def Fq (b:Bool):Int:=bif b then 1 else 0
def QAB:TC:=aF Tryz.f194 []
def g_f194:G:=gG 4 [] (fun _ _=>none)
def Qon (p0:Bool):OV:=br (p0) (some (.t tI 1,[])) (some (.t tI 0,[]))
theorem s_f194 (b:Bool):Qon b=some (.t tI (Fq b),[]):=by
 simp only [Qon]
 cases b<;>rfl
def Qoo:Ent:=Ql (.pr .bool .nil) (fun x=>true) (fun x=>(.t tI (Fq x.1)))
theorem QAC:EM 194 Qoo:=mS g_f194 QAB [((.t 2),some tI)] false (gB gN) fun m=>Qn m fun x _=>kT (s_f194 x.1)
def WD (e:Endpoint)(k:Int):Int×Bool:=bif ieq k 3 then (e.2.2.1,true) else bif ieq k 4 then (e.2.1,true) else bif ieq k 11 then (Fq e.2.2.2.2.2.2.2.2.1,true) else bif ieq k 12 then (Fq e.2.2.2.2.1,true) else (0,false)
def QAD:TC:=aF Tryz.f156 []
def g_f156:G:=gG 25 [(194,Qoo)] (fun _ _=>none)
def Qop (p0:Endpoint)(p1:Int):OV:=br (ieq p1 3) (some (.tu [(.t tI p0.2.2.1),(.t .bool true)],[])) (br (ieq p1 4) (some (.tu [(.t tI p0.2.1),(.t .bool true)],[])) (br (ieq p1 11) (some (.tu [(.t tI (Fq p0.2.2.2.2.2.2.2.2.1)),(.t .bool true)],[])) (br (ieq p1 12) (some (.tu [(.t tI (Fq p0.2.2.2.2.1)),(.t .bool true)],[])) (some (.tu [(.t tI 0),(.t .bool false)],[])))))
theorem s_f156 (e:Endpoint)(k:Int):Qop e k=some (.tu [.t tI (WD e k).1,.t .bool (WD e k).2],[]):=by
 simp only [Qop]
 unfold WD
 cases ieq k 3<;>cases ieq k 4<;>cases ieq k 11<;>cases ieq k 12<;>rfl
def Qoq:Ent:=Ql (.pr Qo (.pr tI .nil)) (fun x=>true) (fun x=>(.tu [(.t tI ((WD x.1 x.2.1).1)),(.t .bool ((WD x.1 x.2.1).2))]))
theorem QAE:EM 156 Qoq:=mS g_f156 QAD [((.t 4),some tI),((.t 5),some .bool)] false (gB (gD QAC gN)) fun m=>Qn m fun x _=>kT (s_f156 x.1 x.2.1)
def Zx (e:Endpoint)(k:Int):List Int×Bool×Bool:=
 bif ieq k 1||ieq k 2 then (Qy e,ieq k 1,true) else bif ieq k 7||ieq k 8 then (Q2 e,ieq k 7,true) else bif ieq k 9||ieq k 10 then (Q5 e,ieq k 9,true) else ([],false,false)
def QAF:TC:=aF Tryz.f154 []
def g_f154:G:=gG 29 [] (fun _ _=>none)
def Qgy (p0:Endpoint)(p1:Int):OV:=br (ieq p1 9) (br (ieq p1 9) (some (.tu [(.t (.sl tI) p0.2.2.2.2.2.2.2.1),(.t .bool (ieq p1 9)),(.t .bool true)],[])) (some (.tu [(.t (.sl tI) ([]:List Int)),(.t .bool false),(.t .bool false)],[]))) (br (ieq p1 10) (some (.tu [(.t (.sl tI) p0.2.2.2.2.2.2.2.1),(.t .bool (ieq p1 9)),(.t .bool true)],[])) (some (.tu [(.t (.sl tI) ([]:List Int)),(.t .bool false),(.t .bool false)],[])))
def Qgz (p0:Endpoint)(p1:Int):OV:=br (ieq p1 7) (br (ieq p1 7) (some (.tu [(.t (.sl tI) p0.2.2.2.2.2.2.1),(.t .bool (ieq p1 7)),(.t .bool true)],[])) (Qgy p0 p1)) (br (ieq p1 8) (some (.tu [(.t (.sl tI) p0.2.2.2.2.2.2.1),(.t .bool (ieq p1 7)),(.t .bool true)],[])) (Qgy p0 p1))
def Qor (p0:Endpoint)(p1:Int):OV:=br (ieq p1 1) (br (ieq p1 1) (some (.tu [(.t (.sl tI) p0.2.2.2.1),(.t .bool (ieq p1 1)),(.t .bool true)],[])) (Qgz p0 p1)) (br (ieq p1 2) (some (.tu [(.t (.sl tI) p0.2.2.2.1),(.t .bool (ieq p1 1)),(.t .bool true)],[])) (Qgz p0 p1))
theorem s_f154 (e:Endpoint)(k:Int):Qor e k=some (.tu [.t (.sl tI) (Zx e k).1,.t .bool (Zx e k).2.1,.t .bool (Zx e k).2.2],[]):=by
 simp only [Qor,Qgz,Qgy]
 unfold Zx
 cases ieq k 1<;>cases ieq k 2<;>cases ieq k 7<;>cases ieq k 8<;>cases ieq k 9<;>cases ieq k 10<;>rfl
def Qos:Ent:=Ql (.pr Qo (.pr tI .nil)) (fun x=>true) (fun x=>(.tu [(.t (.sl tI) ((Zx x.1 x.2.1).1)),(.t .bool (((Zx x.1 x.2.1).2).1)),(.t .bool (((Zx x.1 x.2.1).2).2))]))
theorem QAG:EM 154 Qos:=mS g_f154 QAF [((.t 4),some (.sl tI)),((.t 5),some .bool),((.t 6),some .bool)] false (gB gN) fun m=>Qn m fun x _=>kT (s_f154 x.1 x.2.1)
end
end Go.Proofs.YtmjnnemhoeolgaaGreat.K
noncomputable section
namespace Go.Proofs.YtmjnnemhoeolgaaGreat.K
open Go.RowKit
noncomputable section
theorem UD {y:Ty}{l:List y.T}{a:Int}(h0:0<=a)(h1:a<=l.length):(lsl l 0 a).length=a.toNat:=by
 simp only [lsl,B5,Dn,Bw]
 omega
theorem UE {y:Ty}{l:List y.T}{a:Int}(h0:0<=a)(h1:a<=l.length):(lsl l a (l.length:Int)).length=l.length-a.toNat:=by
 simp only [lsl,B5,Dn,Bd]
 omega
def WR (l:List Int)(a n:Int):List Int:=((([]:List Int)++(lsl l 0 a))++([n]))++(lsl l a ((List.length l:Nat):Int))
def QbU (l:List Int)(a _n:Int):Bool:=decide (0<=a/\a<=l.length/\l.length<=100000)
theorem Qrk {l:List Int}{a n:Int}(h0:0<=a)(h1:a<=l.length):(WR l a n).length=l.length+1:=by
 have e1:=UD (y:=tI) (l:=l) h0 h1
 have e2:=UE (y:=tI) (l:=l) h0 h1
 unfold WR
 simp only [Bl,BE,Bp]
 omega
def QDQ:TC:=aF Tryz.f158 []
def g_f158:G:=gG 21 [] (fun _ _=>none)
def Qrl (p0:List Int)(p1 p2:Int):OV:=
 let a1:=(List.length p0:Nat)
 br (cSl p0 0 p1 (a1:Int)) (br (QK ([]:List Int) (lsl p0 0 p1) 8) (br (QK (([]:List Int)++(lsl p0 0 p1)) ([p2]) 8) (br (cSl p0 p1 (a1:Int) (a1:Int)) (br (QK ((([]:List Int)++(lsl p0 0 p1))++([p2])) (lsl p0 p1 (a1:Int)) 8) (some (.t (.sl tI) (((([]:List Int)++(lsl p0 0 p1))++([p2]))++(lsl p0 p1 (a1:Int))),[])) none) none) none) none) none
theorem s_f158 (l:List Int)(a n:Int)(h:QbU l a n=true):Qrl l a n=some (.t (.sl tI) (WR l a n),[]):=by
 obtain ⟨h0,h1,h2⟩:=Bx h
 have e1:=UD (y:=tI) (l:=l) h0 h1
 have e2:=UE (y:=tI) (l:=l) h0 h1
 simp only [Qrl]
 refine brY (Be ⟨by omega,by omega,by omega,by omega⟩) (brY (Jj (by decide) (by simp only [BE];omega)) (brY (Jj (by decide) (by simp only [Bl,BE,Bp];omega)) (brY (Be ⟨by omega,by omega,by omega,by omega⟩) (brY (Jj (by decide) (by simp only [Bl,BE,Bp];omega)) rfl))))
def Qh8:Ent:=Ql (.pr (.sl tI) (.pr tI (.pr tI .nil))) (fun x=>(QbU x.1 x.2.1 x.2.2.1)) (fun x=>(.t (.sl tI) (WR x.1 x.2.1 x.2.2.1)))
theorem Qrm:EM 158 Qh8:=mS g_f158 QDQ [((.t 6),some (.sl tI))] false (gB gN) fun m=>Qn m fun x hok=>kT (s_f158 x.1 x.2.1 x.2.2.1 hok)
def woF (l:List Int)(a:Int):List Int:=(([]:List Int)++(lsl l 0 a))++(lsl l (Qf .i64 a 1) ((List.length l:Nat):Int))
def UF (l:List Int)(a:Int):Bool:=decide (0<=a/\a<l.length/\l.length<=100000)
theorem Qh9 {l:List Int}{a:Int}(h:UF l a=true):(woF l a).length+1=l.length:=by
 obtain ⟨h0,h1,h2⟩:=Bx h
 have e0:Qf .i64 a 1=a+1:=JD (by omega)
 have e1:=UD (y:=tI) (l:=l) (a:=a) h0 (by omega)
 have e2:=UE (y:=tI) (l:=l) (a:=a+1) (by omega) (by omega)
 unfold woF
 rw [e0]
 simp only [Bl,BE]
 omega
def QDR:TC:=aF Tryz.f159 []
def g_f159:G:=gG 16 [] (fun _ _=>none)
def Qrn (p0:List Int)(p1:Int):OV:=
 let a1:=(List.length p0:Nat)
 let a2:=(lsl p0 (Qf .i64 p1 1) (a1:Int))
 br (cSl p0 0 p1 (a1:Int)) (br (QK ([]:List Int) (lsl p0 0 p1) 8) (br (cSl p0 (Qf .i64 p1 1) (a1:Int) (a1:Int)) (br (QK (([]:List Int)++(lsl p0 0 p1)) a2 8) (some (.t (.sl tI) ((([]:List Int)++(lsl p0 0 p1))++a2),[])) none) none) none) none
theorem s_f159 (l:List Int)(a:Int)(h:UF l a=true):Qrn l a=some (.t (.sl tI) (woF l a),[]):=by
 obtain ⟨h0,h1,h2⟩:=Bx h
 have e0:Qf .i64 a 1=a+1:=JD (by omega)
 have e1:=UD (y:=tI) (l:=l) (a:=a) h0 (by omega)
 have e2:=UE (y:=tI) (l:=l) (a:=a+1) (by omega) (by omega)
 unfold woF
 simp only [Qrn,e0]
 refine brY (Be ⟨by omega,by omega,by omega,by omega⟩) (brY (Jj (by decide) (by simp only [BE];omega)) (brY (Be ⟨by omega,by omega,by omega,by omega⟩) (brY (Jj (by decide) (by simp only [Bl,BE];omega)) rfl)))
def Qro:Ent:=Ql (.pr (.sl tI) (.pr tI .nil)) (fun x=>(UF x.1 x.2.1)) (fun x=>(.t (.sl tI) (woF x.1 x.2.1)))
theorem QDS:EM 159 Qro:=mS g_f159 QDR [((.t 4),some (.sl tI))] false (gB gN) fun m=>Qn m fun x hok=>kT (s_f159 x.1 x.2.1 hok)
def Xt (n:Int):List Int->Nat
 | []=>0
 |x::r=>bif ilt x n then Xt n r+1 else 0
theorem Qia (n:Int): ∀ l:List Int,Xt n l<=l.length
 | []=>BL _
 |x::r=>by
  have:=Qia n r
  unfold Xt
  cases ilt x n<;>simp only [Dh,Da,Bt]<;>omega
def Gy (l:List Int)(n:Int):List Int:=WR l (Xt n l) n
abbrev I3:Sh:=⟨[(0,.ty (.sl tI)),(1,.ty tI),(5,.ty tI)],[]⟩
def Qib:Fg:=I3.f
def Qrp:TC:=aF Tryz.f161 [(28,pL 0 Qib),(451,.fg I3.f)]
def Qrq:TC:=lb 0 Qrp
def F6 (x0:List Int)(x1 x5:Int):VS:=I3.st (x0,x1,x5,()) ()
def QDT:VS->Option (Bool×List (Bool×Exit×VS)):=mkL I3 (fun x y=>(decide (0<=x.2.2.1/\x.2.2.1<=x.1.length/\x.1.length<=100000))) (fun x y=>[(true,.exit 0,F6 (x.1) (x.2.1) (x.2.2.1+Xt x.2.1 (x.1.drop x.2.2.1.toNat)))])
def Qic:G:=gG 24 [(158,Qh8)] (Ls [QDT])
def QbV (x0:List Int)(x1 x5:Int):OX:=Qv (QB Qic Qib Qrq) (F6 x0 x1 x5)
def I4 (kk:List Int->Int->Int->OX)(x0:List Int)(x1 x5:Int):OX:=br (ilt x5 (Qa x0)) (br (cIx x0 x5) (br (ilt (lgt tI x0 (Int.toNat x5)) x1) (kk x0 x1 (Qf .i64 x5 1)) (some (.exit 0,F6 x0 x1 x5))) none) (some (.exit 0,F6 x0 x1 x5))
def QbW (x0:List Int)(x1 x5:Int):OX:=some (.exit 0,F6 (x0) (x1) (x5+Xt x1 (x0.drop x5.toNat)))
theorem Qrr (x0:List Int)(x1 x5:Int):QbV x0 x1 x5=I4 QbV x0 x1 x5:=lnT (x:=I4 (fun x0 x1 x5=>some (.normal,F6 x0 x1 x5)) x0 x1 x5) (by simp only [I4,nxA];rfl)
def Qrs (p0:List Int)(p1:Int):OV:=
 let a1:=(p0.drop (0:Int).toNat)
 br (decide (0<=(0:Int)/\(0:Int)<=p0.length/\p0.length<=100000)) (br (QbU (p0) ((0:Int)+Xt p1 a1) (p1)) (some (.t (.sl tI) (WR (p0) ((0:Int)+Xt p1 a1) (p1)),[])) none) none
theorem QDU (x0:List Int)(x1 x5:Int)(h:(decide (0<=x5/\x5<=x0.length/\x0.length<=100000))=true):QbV x0 x1 x5=QbW x0 x1 x5:=by
 obtain ⟨h0,h1,h2⟩:=Bx h
 obtain ⟨k,rfl⟩:=Bq h0
 refine QU x0 (fun k=>QbV x0 x1 (k:Int)=QbW x0 x1 (k:Int)) ?_ ?_ k (by omega)
 ·rw [Qrr]
  simp only [I4,QbW,Qa,QD,B0,B4,Qh,Bd,BU,Xt,Int.natCast_zero,Int.add_zero]
 ·intro k hk ih
  rw [Qrr]
  simp only [I4,Qa,QD,QJ,hk,Bv,Qd,Bd,QT (show k<4611686018427387904 by omega),ih,QS (y:=tI) hk]
  simp only [QbW,Bd,Bj hk,Xt]
  cases ilt x0[k] x1 with
  |false=>simp only [Qh,Da,Int.natCast_zero,Int.add_zero]
  |true=>simp only [Qd,Dh,Int.natCast_add,Int.natCast_one,show (k:Int)+1+(Xt x1 (x0.drop (k+1)):Int)=k+(Xt x1 (x0.drop (k+1))+1) by omega]
theorem QDV:LO Qic Qib Qrq 0:=QH (s:=I3) fun x y h _ q=>by simp only [QE,QF] at q;exact (QDU x.1 x.2.1 x.2.2.1 h).trans q
theorem s_f161 (l:List Int)(n:Int)(h:Jz l n=true):Qrs l n=some (.t (.sl tI) (Gy l n),[]):=by
 have hl:l.length<=100000:=Bx h
 have hz:=Qia n l
 simp only [Qrs,Bw,BD,Int.zero_add]
 exact brY (Be ⟨by omega,by omega,hl⟩) (brY (Be ⟨by omega,by omega,hl⟩) rfl)
def Qrt:Ent:=Ql (.pr (.sl tI) (.pr tI .nil)) (fun x=>(Jz x.1 x.2.1)) (fun x=>(.t (.sl tI) (Gy x.1 x.2.1)))
theorem QDW:EM 161 Qrt:=mS (lk:=lkL (lkc QDV lkn)) Qic Qrp [((.t 4),some (.sl tI))] false (gB (gD Qrm gN)) fun m=>Qn m fun x hok=>kT (s_f161 x.1 x.2.1 hok)
def YP (id:Int):List Identity->Int->Int×Int->Int×Int
 | [],_,p=>p
 |x::r,i,p=>YP id r (i+1) (bif ieq x.2.1 id then (p.1+1,bif ieq p.1 0 then i else p.2) else p)
def JF (e:Endpoint)(id:Int):Int×Int:=YP id (Qr e) 0 (0, -1)
theorem Qid (id:Int): ∀ (l:List Identity) (i:Int) (p:Int×Int),0<=i->0<=p.1->(0<p.1->0<=p.2/\p.2<i)->0<=(YP id l i p).1/\(0<(YP id l i p).1->0<=(YP id l i p).2/\(YP id l i p).2<i+l.length)
 | [],i,p,h0,h1,h2=>⟨h1,fun h=>by have:=h2 h;simp only [YP,BE];omega⟩
 |x::r,i,p,h0,h1,h2=>by
  unfold YP
  have e:i+((x::r).length:Int)=i+1+r.length:=by simp only [Bt];omega
  rw [e]
  cases hq:ieq x.2.1 id with
  |false=>exact Qid id r (i+1) p (by omega) h1 (fun h=>by have:=h2 h;omega)
  |true=>
   refine Qid id r (i+1) _ (by omega) (by simp only [Dh];omega) (fun _=> ?_)
   simp only [Dh]
   cases hz:ieq p.1 0 with
   |true=>simp only [Dh];omega
   |false=>
    have:0<p.1:=by simp only [YE,Bn] at hz;omega
    have:=h2 this
    simp only [Da]
    omega
abbrev QbX:Sh:=⟨[(1,.ty tI),(6,.ty tI),(7,.ty tI),(11,.ty (.sl Q1)),(12,.ty tI),(13,.ty tI)],[]⟩
abbrev Qru:Sh:=⟨[(6,.ty tI),(7,.ty tI)],[]⟩
def Qie:Fg:=QbX.f
def Qrv:TC:=aF Tryz.f157 [(58,pL 0 Qie),(933,.fg Qru.f)]
def Qrw:TC:=lb 0 Qrv
def Qrx (x1 x6 x7:Int)(x11:List Identity)(x12 x13:Int):VS:=QbX.st (x1,x6,x7,x11,x12,x13,()) ()
def Qif (x6 x7:Int):VS:=Qru.st (x6,x7,()) ()
def QDX:VS->Option (Bool×List (Bool×Exit×VS)):=mkL QbX (fun x y=>(Qz x.2.2.2.1 x.2.2.2.2.1 x.2.2.2.2.2.1&&decide (0<=x.2.1/\x.2.1<=x.2.2.2.2.2.1))) (fun x y=>[(true,.exit 0,Qif ((YP x.1 (x.2.2.2.1.drop x.2.2.2.2.2.1.toNat) x.2.2.2.2.2.1 (x.2.1,x.2.2.1)).1) ((YP x.1 (x.2.2.2.1.drop x.2.2.2.2.2.1.toNat) x.2.2.2.2.2.1 (x.2.1,x.2.2.1)).2))])
def Qig:G:=gG 30 [] (Ls [QDX])
def QbY (x1 x6 x7:Int)(x11:List Identity)(x12 x13:Int):OX:=Qv (QB Qig Qie Qrw) (Qrx x1 x6 x7 x11 x12 x13)
def I5 (kk:Int->Int->Int->List Identity->Int->Int->OX)(x1 x6 x7:Int)(x11:List Identity)(x12 x13:Int):OX:=
 let a1:=Qf .i64 x13 1
 br (ilt x13 x12) (br (cIx x11 x13) (br (ieq (((lgt Q1 x11 (Int.toNat x13)).2).1) x1) (br (ieq x6 0) (kk x1 (Qf .i64 x6 1) x13 x11 x12 a1) (kk x1 (Qf .i64 x6 1) x7 x11 x12 a1)) (kk x1 x6 x7 x11 x12 a1)) none) (some (.exit 0,Qif x6 x7))
def QbZ (x1 x6 x7:Int)(x11:List Identity)(x12 x13:Int):OX:=
 let a1:=(YP x1 (x11.drop x13.toNat) x13 (x6,x7))
 some (.exit 0,Qif (a1.1) (a1.2))
theorem Qry (x1 x6 x7:Int)(x11:List Identity)(x12 x13:Int):QbY x1 x6 x7 x11 x12 x13=I5 QbY x1 x6 x7 x11 x12 x13:=lnT (x:=I5 (fun x1 x6 x7 x11 x12 x13=>some (.normal,Qrx x1 x6 x7 x11 x12 x13)) x1 x6 x7 x11 x12 x13) (by simp only [I5,nxA];rfl)
def Qrz (p0:Endpoint)(p1:Int):OV:=
 let a1:=(YP p1 (p0.2.2.2.2.2.1.drop (0:Int).toNat) (0:Int) ((0:Int),(-1)))
 br (Qz p0.2.2.2.2.2.1 (Qa p0.2.2.2.2.2.1) (0:Int)&&decide (0<=(0:Int)/\(0:Int)<=(0:Int))) (some (.tu [(.t tI (a1.1)),(.t tI (a1.2))],[])) none
theorem QDY (x1 x6 x7:Int)(x11:List Identity)(x12 x13:Int)(h:(Qz x11 x12 x13&&decide (0<=x6/\x6<=x13))=true):QbY x1 x6 x7 x11 x12 x13=QbZ x1 x6 x7 x11 x12 x13:=by
 simp only [Bc,Ba] at h
 obtain ⟨h,g0,g1⟩:=h
 obtain ⟨rfl,h3,k,rfl,hk⟩:=JJ h
 clear h
 revert x6 x7
 refine QU x11 (fun k=> ∀ x6 x7:Int,0<=x6->x6<=(k:Int)->QbY x1 x6 x7 x11 (x11.length:Int) (k:Int)=QbZ x1 x6 x7 x11 (x11.length:Int) (k:Int)) ?_ ?_ k hk
 ·intro x6 x7 _ _
  rw [Qry]
  simp only [I5,QbZ,QD,B0,B4,Qh,Bd,BU,YP]
 ·intro k hk ih x6 x7 g0 g1
  rw [Qry]
  have e1:Qf .i64 x6 1=x6+1:=JD (by omega)
  simp only [I5,QD,QJ,hk,Bv,Qd,Bd,QT (show k<4611686018427387904 by omega),e1,QS (y:=Q1) hk]
  rw [ih (x6+1) (k:Int) (by omega) (by omega),ih (x6+1) x7 (by omega) (by omega),ih x6 x7 g0 (by omega)]
  simp only [QbZ,Bd,Bj hk,YP,Int.natCast_add,Int.natCast_one]
  cases ieq x11[k].2.1 x1<;>cases ieq x6 0<;>rfl
theorem QDZ:LO Qig Qie Qrw 0:=QH (s:=QbX) fun x y h _ q=>by simp only [QE,QF] at q;exact (QDY x.1 x.2.1 x.2.2.1 x.2.2.2.1 x.2.2.2.2.1 x.2.2.2.2.2.1 h).trans q
theorem s_f157 (e:Endpoint)(id:Int)(h:Xy e id=true):Qrz e id=some (.tu [.t tI (JF e id).1,.t tI (JF e id).2],[]):=by
 have hl:(Qr e).length<=100000:=Bx h
 simp only [Qrz,Bw,BD]
 refine brY ?_ rfl
 rw [JK hl,BC]
 exact Be ⟨BT _,BT _⟩
def Qih:Ent:=Ql (.pr Qo (.pr tI .nil)) (fun x=>(Xy x.1 x.2.1)) (fun x=>(.tu [(.t tI ((JF x.1 x.2.1).1)),(.t tI ((JF x.1 x.2.1).2))]))
theorem QrA:EM 157 Qih:=mS (lk:=lkL (lkc QDZ lkn)) Qig Qrv [((.t 4),some tI),((.t 5),some tI)] false (gB gN) fun m=>Qn m fun x hok=>kT (s_f157 x.1 x.2.1 hok)
def WS:Identity:=((0,(0,())),(0,(([]:List Certificate),())))
abbrev QP (c:Change):Int:=c.2.1
abbrev Q4 (c:Change):Int:=c.2.2.1
abbrev ZS (c:Change):Int:=c.2.2.2.1
abbrev Zz (c:Change):Identity:=c.2.2.2.2.1
def fmC (c:Change):Bool:=bif ieq (QP c) 1 then Uv (Zz c) WS else bif ieq (QP c) 5 then ieq (Q4 c) 0 else ige (QP c) 1&&(ile (QP c) 12&&(Uv (Zz c) WS&&ieq (ZS c) 0))
def Qii (c:Change):Bool:=Jg (Zz c)
def QD0:TC:=aF Tryz.f153 []
def g_f153:G:=gG 34 [(193,Qof)] (fun _ _=>none)
def QrB (p0:Change):OV:=
 let a1:=(Uv p0.2.2.2.2.1 ((0,(0,())),(0,(([]:List Certificate),()))))
 br (Qgp p0.2.2.2.2.1 ((0,(0,())),(0,(([]:List Certificate),())))) (br (ieq p0.2.1 1) (some (.t .bool a1,[])) (br (ieq p0.2.1 5) (some (.t .bool (ieq p0.2.2.1 0),[])) (br (ige p0.2.1 1) (br (ile p0.2.1 12) (br a1 (some (.t .bool (ieq p0.2.2.2.1 0),[])) (some (.t .bool false,[]))) (some (.t .bool false,[]))) (some (.t .bool false,[]))))) none
theorem s_f153 (c:Change)(h:Qii c=true):QrB c=some (.t .bool (fmC c),[]):=by
 have h:Jg (Zz c)=true:=h
 simp only [QrB]
 refine brY (Bi.2 ⟨h,(show Jg WS=true from rfl)⟩) ?_
 unfold fmC
 show br (ieq (QP c) 1) (some (V.t .bool (Uv (Zz c) WS),([]:List VO))) (br (ieq (QP c) 5) (some (V.t .bool (ieq (Q4 c) 0),([]:List VO))) (br (ige (QP c) 1) (br (ile (QP c) 12) (br (Uv (Zz c) WS) (some (V.t .bool (ieq (ZS c) 0),([]:List VO))) (some (V.t .bool false,([]:List VO)))) (some (V.t .bool false,([]:List VO)))) (some (V.t .bool false,([]:List VO)))))=_
 cases ieq (QP c) 1<;>cases ieq (QP c) 5<;>cases ige (QP c) 1<;>cases ile (QP c) 12<;>cases Uv (Zz c) WS<;>rfl
def QrC:Ent:=Ql (.pr Ze .nil) (fun x=>(Qii x.1)) (fun x=>(.t .bool (fmC x.1)))
theorem QD1:EM 153 QrC:=mS g_f153 QD0 [((.t 2),some .bool)] false (gB (gD QAx gN)) fun m=>Qn m fun x hok=>kT (s_f153 x.1 hok)
end
end Go.Proofs.YtmjnnemhoeolgaaGreat.K
noncomputable section
namespace Go.Proofs.YtmjnnemhoeolgaaGreat.K
open Go.RowKit
noncomputable section
def ZH (n:Nat)(e:Endpoint):Bool:=(Jb e.1&&decide ((Qy e).length<=n/\(Qr e).length<=n/\(Q2 e).length<=n/\(Q5 e).length<=n))&&(Qr e).all Jg
theorem Qhn {n:Nat}{e:Endpoint}(h:ZH n e=true):Jb e.1=true/\((Qy e).length<=n/\(Qr e).length<=n/\(Q2 e).length<=n/\(Q5 e).length<=n)/\(Qr e).all Jg=true:=by
 simp only [ZH,Bc,Ba] at h
 exact ⟨h.1.1,h.1.2,h.2⟩
theorem Qbh {n:Nat}{e:Endpoint}(h:ZH n e=true)(hn:n<=100000):Q0 e=true:=by
 obtain ⟨h1,⟨h2,h3,h4,h5⟩,h6⟩:=Qhn h
 unfold Q0
 simp only [Bc,Ba]
 exact ⟨⟨h1,by omega,by omega,by omega,by omega⟩,h6⟩
theorem Qho {n m:Nat}{e:Endpoint}(h:ZH n e=true)(hn:n<=m):ZH m e=true:=by
 obtain ⟨h1,⟨h2,h3,h4,h5⟩,h6⟩:=Qhn h
 unfold ZH
 simp only [Bc,Ba]
 exact ⟨⟨h1,by omega,by omega,by omega,by omega⟩,h6⟩
def FK (e:Endpoint)(c:Change):Int:=bif ieq (QP c) 6 then (bif ieq (JF e (Q4 c)).1 0 then 41 else bif igt (JF e (Q4 c)).1 1 then 5 else 0) else 0
def FL (e:Endpoint)(c:Change):Int:=bif ieq (QP c) 5 then (bif igt (JF e (Zz c).2.1).1 0 then 41 else FK e c) else FK e c
def Gq (e:Endpoint)(c:Change):Int:=bif (WD e (QP c)).2 then (bif ieq (WD e (QP c)).1 (Q4 c) then 41 else FL e c) else FL e c
def Xp (e:Endpoint)(c:Change):Int:=bif (Zx e (QP c)).2.2 then (bif Qba (ige (Zk (Zx e (QP c)).1 (Q4 c)) 0) (Zx e (QP c)).2.1 then 41 else Gq e c) else Gq e c
def IJ (e:Endpoint)(c:Change):Int:=bif ine (Q4 c) 0 then (bif ine (Q4 c) 1 then 2 else Xp e c) else Xp e c
def J5 (e:Endpoint)(c:Change):Int:=
 bif ine (Zb e) 0 then 19 else bif !fmC c then 40 else
 bif ieq (QP c) 1 then (bif ilt (ZS c) 0 then 2 else bif igt (ZS c) (Qa (Qy e)) then 2 else Xp e c) else
 bif ieq (QP c) 5 then (bif ilt (ZS c) 0 then 2 else bif igt (ZS c) (Qa (Qr e)) then 2 else Xp e c) else
 bif ieq (QP c) 11 then IJ e c else bif ieq (QP c) 12 then IJ e c else Xp e c
def Qhp (e:Endpoint)(c:Change):Bool:=Q0 e&&Jg (Zz c)
def QB2:TC:=aF Tryz.f118 []
def g_f118:G:=gG 118 [(61,QcR),(153,QrC),(154,Qos),(155,Qgx),(156,Qoq),(157,Qih)] (fun _ _=>none)
def Qbi (p0:Endpoint)(p1:Change):OV:=br (ieq p1.2.1 6) (br (Xy p0 p1.2.2.1) (br (ieq ((JF p0 p1.2.2.1).1) 0) (some (.t tI 41,[])) (br (igt ((JF p0 p1.2.2.1).1) 1) (some (.t tI 5,[])) (some (.t tI 0,[])))) none) (some (.t tI 0,[]))
def Qbj (p0:Endpoint)(p1:Change):OV:=br (ieq p1.2.1 5) (br (Xy p0 p1.2.2.2.2.1.2.1) (br (igt ((JF p0 p1.2.2.2.2.1.2.1).1) 0) (some (.t tI 41,[])) (Qbi p0 p1)) none) (Qbi p0 p1)
def Qbk (p0:Endpoint)(p1:Change):OV:=br ((WD p0 p1.2.1).2) (br (ieq ((WD p0 p1.2.1).1) p1.2.2.1) (some (.t tI 41,[])) (Qbj p0 p1)) (Qbj p0 p1)
def WH (p0:Endpoint)(p1:Change):OV:=
 let a1:=Zx p0 p1.2.1
 br ((a1.2).2) (br (Jz (a1.1) p1.2.2.1) (br (Qba (ige (Zk (a1.1) p1.2.2.1) 0) ((a1.2).1)) (some (.t tI 41,[])) (Qbk p0 p1)) none) (Qbk p0 p1)
def IK (p0:Endpoint)(p1:Change):OV:=br (ine p1.2.2.1 0) (br (ine p1.2.2.1 1) (some (.t tI 2,[])) (WH p0 p1)) (WH p0 p1)
def Qp3 (p0:Endpoint)(p1:Change):OV:=br (Q0 p0) (br (ine (Zb p0) 0) (some (.t tI 19,[])) (br (Qii p1) (br (!(fmC p1)) (some (.t tI 40,[])) (br (ieq p1.2.1 1) (br (ilt p1.2.2.2.1 0) (some (.t tI 2,[])) (br (igt p1.2.2.2.1 (Qa p0.2.2.2.1)) (some (.t tI 2,[])) (WH p0 p1))) (br (ieq p1.2.1 5) (br (ilt p1.2.2.2.1 0) (some (.t tI 2,[])) (br (igt p1.2.2.2.1 (Qa p0.2.2.2.2.2.1)) (some (.t tI 2,[])) (WH p0 p1))) (br (ieq p1.2.1 11) (br (ieq p1.2.1 11) (IK p0 p1) (WH p0 p1)) (br (ieq p1.2.1 12) (IK p0 p1) (WH p0 p1)))))) none)) none
theorem brC {c:Bool}{x y:Int}{A B:OV}(h1:A=some (.t tI x,[]))(h2:B=some (.t tI y,[])):br c A B=some (.t tI (bif c then x else y),[]):=by
 subst h1 h2
 cases c<;>rfl
theorem s_f118 (e:Endpoint)(c:Change)(h:Qhp e c=true):Qp3 e c=some (.t tI (J5 e c),[]):=by
 obtain ⟨h1,h2⟩:=Bi.1 h
 have hb:=(Gw h1).2
 have hk: ∀ n,Xy e n=true:=fun n=>Be hb.2.1
 have hl: ∀ k n,Jz (Zx e k).1 n=true:=fun k n=>by
  have:(Zx e k).1.length<=100000:=by
   unfold Zx
   cases ieq k 1||ieq k 2 with
   |true=>exact hb.1
   |false=>
    cases ieq k 7||ieq k 8 with
    |true=>exact hb.2.2.1
    |false=>
     cases ieq k 9||ieq k 10 with
     |true=>exact hb.2.2.2.1
     |false=>exact B3 _
  exact Be this
 have g4:Qbi e c=some (.t tI (FK e c),[]):=by
  unfold Qbi FK
  exact brC (brY (hk _) (brC rfl (brC rfl rfl))) rfl
 have g3:Qbj e c=some (.t tI (FL e c),[]):=by
  unfold Qbj FL
  exact brC (brY (hk _) (brC rfl g4)) g4
 have g2:Qbk e c=some (.t tI (Gq e c),[]):=by
  unfold Qbk Gq
  exact brC (brC rfl g3) g3
 have g1:WH e c=some (.t tI (Xp e c),[]):=by
  unfold WH Xp
  exact brC (brY (hl _ _) (brC rfl g2)) g2
 have g5:IK e c=some (.t tI (IJ e c),[]):=by
  unfold IK IJ
  exact brC (brC rfl g1) g1
 unfold Qp3 J5
 refine brY h1 (brC rfl (brY h2 (brC rfl (brC (brC rfl (brC rfl g1)) (brC (brC rfl (brC rfl g1)) ?_)))))
 cases h11:ieq (QP c) 11 with
 |true=>exact g5
 |false=>exact (brC g5 g1:br (ieq (QP c) 12) (IK e c) (WH e c)=some (.t tI (bif ieq (QP c) 12 then IJ e c else Xp e c),[]))
def Qp4:Ent:=Ql (.pr Qo (.pr Ze .nil)) (fun x=>(Qhp x.1 x.2.1)) (fun x=>(.t tI (J5 x.1 x.2.1)))
theorem QB3:EM 118 Qp4:=mS g_f118 QB2 [((.t 4),some tI)] false (gB (gD Qjc (gD QD1 (gD QAG (gD Qom (gD QAE (gD QrA gN))))))) fun m=>Qn m fun x hok=>kT (s_f118 x.1 x.2.1 hok)
theorem YI {b:Bool}{x y:Int}(hx:x≠0)(h:(bif b then x else y)=0):b=false/\y=0:=by
 cases b with
 |true=>exact absurd h hx
 |false=>exact ⟨rfl,h⟩
theorem QB4 {b:Bool}(h:Qba b false=false):b=true:=by
 cases b with
 |true=>rfl
 |false=>exact absurd h (by decide)
theorem plc_in {l:List Int}{n:Int}(h:ige (Zk l n) 0=true)(hl:l.length<=100000):UF l (Zk l n)=true:=by
 unfold Zk at h ⊢
 cases hq:QC (fun y=>ieq y n) l with
 |none=>rw [hq] at h;exact absurd (show ige (-1) 0=true from h) (by decide)
 |some k=>
  obtain ⟨hk,_⟩:=Qb7 hq
  exact Be ⟨by show (0:Int)<=(k:Int);omega,by show (k:Int)<(l.length:Int);omega,hl⟩
theorem alw_1 {e:Endpoint}{c:Change}(h:J5 e c=0)(hk:QP c=1):0<=ZS c/\ZS c<=(Qy e).length:=by
 unfold J5 at h
 obtain ⟨h1,h⟩:=YI (by decide) h
 obtain ⟨h2,h⟩:=YI (by decide) h
 rw [hk] at h
 simp only [show ieq (1:Int) 1=true from rfl,Dh] at h
 obtain ⟨h3,h⟩:=YI (by decide) h
 obtain ⟨h4,_⟩:=YI (by decide) h
 simp only [ilt,igt,Qa,Bn] at h3 h4
 omega
theorem alw_5 {e:Endpoint}{c:Change}(h:J5 e c=0)(hk:QP c=5):0<=ZS c/\ZS c<=(Qr e).length:=by
 unfold J5 at h
 obtain ⟨h1,h⟩:=YI (by decide) h
 obtain ⟨h2,h⟩:=YI (by decide) h
 rw [hk] at h
 simp only [show ieq (5:Int) 1=false from rfl,show ieq (5:Int) 5=true from rfl,Dh,Da] at h
 obtain ⟨h3,h⟩:=YI (by decide) h
 obtain ⟨h4,_⟩:=YI (by decide) h
 simp only [ilt,igt,Qa,Bn] at h3 h4
 omega
theorem FM {e:Endpoint}{c:Change}(h:J5 e c=0){k:Int}(hk:QP c=k)(hd:k=2∨k=8∨k=10)(hl:(Zx e k).1.length<=100000):UF (Zx e k).1 (Zk (Zx e k).1 (Q4 c))=true:=by
 unfold J5 at h
 obtain ⟨h1,h⟩:=YI (by decide) h
 obtain ⟨h2,h⟩:=YI (by decide) h
 rw [hk] at h
 have h:Xp e c=0:=by rcases hd with rfl|rfl|rfl<;>exact h
 unfold Xp at h
 rw [hk] at h
 have h5:(Zx e k).2.2=true/\(Zx e k).2.1=false:=by rcases hd with rfl|rfl|rfl<;>exact ⟨rfl,rfl⟩
 rw [h5.1,h5.2] at h
 obtain ⟨h6,_⟩:=YI (by decide) (show (bif Qba (ige (Zk (Zx e k).1 (Q4 c)) 0) false then 41 else Gq e c)=0 from h)
 exact plc_in (QB4 h6) hl
theorem alw_6 {e:Endpoint}{c:Change}(h:J5 e c=0)(hk:QP c=6):0<=(JF e (Q4 c)).2/\(JF e (Q4 c)).2<(Qr e).length:=by
 unfold J5 at h
 obtain ⟨h1,h⟩:=YI (by decide) h
 obtain ⟨h2,h⟩:=YI (by decide) h
 rw [hk] at h
 have h:Xp e c=0:=h
 unfold Xp at h
 rw [hk] at h
 have h:Gq e c=0:=h
 unfold Gq at h
 rw [hk] at h
 have h:FL e c=0:=h
 unfold FL at h
 rw [hk] at h
 have h:FK e c=0:=h
 unfold FK at h
 rw [hk] at h
 obtain ⟨h3,_⟩:=YI (by decide) (show (bif ieq (JF e (Q4 c)).1 0 then 41 else bif igt (JF e (Q4 c)).1 1 then 5 else 0)=0 from h)
 have:=Qid (Q4 c) (Qr e) 0 (0, -1) (BT _) (BT _) (fun h=>absurd h (by decide))
 have h4:0<(JF e (Q4 c)).1:=by
  simp only [YE,Bn] at h3
  have:=this.1
  unfold JF at h3 ⊢
  omega
 have h5:=this.2 h4
 rw [Int.zero_add] at h5
 exact h5
end
end Go.Proofs.YtmjnnemhoeolgaaGreat.K
