import Derived.Test.YtmjnnemhoeolgaaGreatQ6
set_option linter.unusedSimpArgs false
set_option linter.unusedVariables false
noncomputable section
namespace Go.Proofs.YtmjnnemhoeolgaaGreat.K
open Go.RowKit
noncomputable section
def WZ:List Keep:=[(2,(0,())),(1,(0,())),(5,(2048,())),(16,(128,())),(3,(0,())),(15,(168,()))]
def Z3:Nat->Int->Dice->List Link×Dice
 |0,_,d=>([],d)
 |n+1,day,d=>((lgt Qd WZ (Qn d 6).toNat,(day,()))::(Z3 n (Qg .i64 (Qg .i64 day 1) (dof (Qh d 6) [5,30,0,100])) (QM (Qh d 6) [5,30,0,100])).1,(Z3 n (Qg .i64 (Qg .i64 day 1) (dof (Qh d 6) [5,30,0,100])) (QM (Qh d 6) [5,30,0,100])).2)
def Ox (d:Dice):Dice:=Qh (Qh (Qh (Qh d 2) 4) 20) 3
def Ju (d:Dice):List Link×Dice:=Z3 (Qg .i64 1 (Qn (Qh (Qh (Qh d 2) 4) 20) 3)).toNat (Qn (Qh (Qh d 2) 4) 20) (Ox d)
def Oy (d:Dice)(s:ByteArray):Item:=(s,(Qg .i64 1 (Qn d 2),(Qg .i64 1 (Qn (Qh d 2) 4),((Ju d).1,(Qg .i64 (lgt JX (Ju d).1 0).2.1 (dof (Ju d).2 [50,300,0,3000]),())))))
def Gw (d:Dice)(_s:ByteArray):Dice:=QM (Ju d).2 [50,300,0,3000]
def QcY (d:Dice)(_s:ByteArray):Bool:=dOk d
theorem QGb {n:Nat}: ∀ {day:Int} {d:Dice},dOk d=true->dOk (Z3 n day d).2=true:=by
 induction n with
 |zero=>exact fun h=>h
 |succ n ih=>exact fun h=>ih (Ic (l:=[5,30,0,100]) (JA h))
theorem QtT {d:Dice}(h:dOk d=true):dOk (Ju d).2=true:=QGb (JA (JA (JA (JA h))))
theorem QGc {d:Dice}{s:ByteArray}(h:dOk d=true):dOk (Gw d s)=true:=Ic (QtT h)
theorem Qje: ∀ (n:Nat) (day:Int) (d:Dice),(Z3 n day d).1.length=n
 |0,_,_=>rfl
 |n+1,day,d=>by simp only [Z3,Bt,Qje n]
theorem QGd:WZ.all JR=true:=by kernel_rfl
theorem QGe {y:Ty}{l:List y.T}{i:Nat}(h:i<l.length):lgt y l i∈l:=by
 rw [QP (y:=y) h]
 exact Bw h
theorem QGf {e:Dice}:0<=dof e [5,30,0,100]/\dof e [5,30,0,100]<=100:=by
 have h:=Id (d:=e) (l:=[5,30,0,100]) (by decide)
 simp only [BY,Dk,or_false] at h
 omega
theorem QtU: ∀ (n:Nat) (day:Int) (d:Dice) (pv:Option Int),n<=3->0<=day->day+101*n<=1000->(∀ e,pv=some e->e<day)->YH pv (Z3 n day d).1=true
 |0,_,_,pv,_,_,_,_=>by cases pv<;>rfl
 |n+1,day,d,pv,h1,h2,h3,h4=>by
  have hv:=Zz (d:=d) (n:=6) (by omega)
  have hs:=QGf (e:=Qh d 6)
  have e1:Qg .i64 (Qg .i64 day 1) (dof (Qh d 6) [5,30,0,100])=day+1+dof (Qh d 6) [5,30,0,100]:=by rw [J5 (a:=day) (b:=1) (by omega),J5 (by omega)]
  unfold Z3
  rw [Qhb,e1]
  have hu:JR (lgt Qd WZ (Qn d 6).toNat)=true:=Bg.1 QGd _ (QGe (y:=Qd) (by have:WZ.length=6:=rfl;omega))
  have hr:=QtU n (day+1+dof (Qh d 6) [5,30,0,100]) (QM (Qh d 6) [5,30,0,100]) (some day) (by omega) (by omega) (by omega) (fun e he=>by injection he;omega)
  simp only [hu,hr,Be (show 0<=day/\day<=40000 by omega),BE,B6]
  cases pv with
  |none=>rfl
  |some e=>exact Be (h4 e rfl)
theorem QGg: ∀ (n:Nat) (day:Int) (d:Dice),0<n->((Z3 n day d).1.headD ((0,(0,())),(0,()))).2.1=day
 |0,_,_,h=>by omega
 |n+1,day,d,_=>rfl
theorem QGh (d:Dice):1<=(Ju d).1.length/\(Ju d).1.length<=3:=by
 have b3:=Zz (d:=Qh (Qh (Qh d 2) 4) 20) (n:=3) (by omega)
 have e3:Qg .i64 1 (Qn (Qh (Qh (Qh d 2) 4) 20) 3)=1+Qn (Qh (Qh (Qh d 2) 4) 20) 3:=J5 (by omega)
 unfold Ju
 rw [Qje,e3]
 omega
theorem QGi (d:Dice){s:ByteArray}(hs:Jt s=true):JW (Oy d s)=true:=by
 have b2:=Zz (d:=d) (n:=2) (by omega)
 have b4:=Zz (d:=Qh d 2) (n:=4) (by omega)
 have b20:=Zz (d:=Qh (Qh d 2) 4) (n:=20) (by omega)
 have b3:=Zz (d:=Qh (Qh (Qh d 2) 4) 20) (n:=3) (by omega)
 have e2:Qg .i64 1 (Qn d 2)=1+Qn d 2:=J5 (by omega)
 have e4:Qg .i64 1 (Qn (Qh d 2) 4)=1+Qn (Qh d 2) 4:=J5 (by omega)
 have e3:Qg .i64 1 (Qn (Qh (Qh (Qh d 2) 4) 20) 3)=1+Qn (Qh (Qh (Qh d 2) 4) 20) 3:=J5 (by omega)
 have hl:=QGh d
 have hh:((Ju d).1.headD ((0,(0,())),(0,()))).2.1=Qn (Qh (Qh d 2) 4) 20:=QGg _ _ _ (by rw [e3];omega)
 have e0:lgt JX (Ju d).1 0=(Ju d).1.headD ((0,(0,())),(0,())):=by
  cases hq:(Ju d).1 with
  |nil=>rw [hq] at hl;simp at hl
  |cons a l=>rfl
 have hu:0<=dof (Ju d).2 [50,300,0,3000]/\dof (Ju d).2 [50,300,0,3000]<=3000:=by
  have h:=Id (d:=(Ju d).2) (l:=[50,300,0,3000]) (by decide)
  simp only [BY,Dk,or_false] at h
  omega
 have eu:Qg .i64 (lgt JX (Ju d).1 0).2.1 (dof (Ju d).2 [50,300,0,3000])=(lgt JX (Ju d).1 0).2.1+dof (Ju d).2 [50,300,0,3000]:=J5 (by rw [e0,hh];omega)
 refine Zf.2 ⟨hs, ?_, ?_, ?_, ?_, ?_⟩
 ·show 1<=Qg .i64 1 (Qn d 2)/\Qg .i64 1 (Qn d 2)<=2
  omega
 ·show 1<=Qg .i64 1 (Qn (Qh d 2) 4)/\Qg .i64 1 (Qn (Qh d 2) 4)<=4
  omega
 ·show 1<=(Ju d).1.length/\(Ju d).1.length<=8
  omega
 ·exact QtU _ _ _ none (by rw [e3];omega) (by omega) (by omega) (fun e he=>by cases he)
 ·show ((Ju d).1.headD ((0,(0,())),(0,()))).2.1<=Qg .i64 (lgt JX (Ju d).1 0).2.1 (dof (Ju d).2 [50,300,0,3000])/\Qg .i64 (lgt JX (Ju d).1 0).2.1 (dof (Ju d).2 [50,300,0,3000])<=40000
  rw [eu,e0,hh]
  omega
abbrev QcZ:Sh:=⟨[(0,.ptr 50000 0),(4,.ptr 4 0),(5,.ptr 5 0),(6,.ty tI),(7,.ty tI)],[(4,.box Jd),(5,.bag [.ty .str,.ty tI,.ty tI,.ms 20503,.ty tI]),(43,.no),(20503,.arr 153 JX),(50000,.box Q1)]⟩
abbrev QGj:Sh:=⟨[(0,.ptr 50000 0),(4,.ptr 4 0),(5,.ptr 5 0)],[(4,.box Jd),(5,.bag [.ty .str,.ty tI,.ty tI,.ms 20503,.ty tI]),(43,.no),(20503,.arr 153 JX),(50000,.box Q1)]⟩
def Qjf:Fg:=QcZ.f
def QtV:TC:=aF Tryz.f40 [(122,.nf 5 3 153 20503),(122,pL 0 Qjf),(1955,.fg ⟨[(0,none),(4,none),(5,none)],[(4,some Jd),(5,some Jd),(43,none),(20503,none),(50000,some Q1)]⟩),(62,pD [(0,[5,43,20503]),(1,[5,43,20503]),(2,[43,20503]),(3,[43,20503]),(4,[43,20503]),(5,[50000]),(6,[]),(7,[58,5058,10058,15058,50000]),(8,[]),(9,[5,43,20503]),(10,[4,5,43,20503])] (.of [0,1,2,3,4,5,6,7,8,9,10]))]
def QtW:TC:=lb 0 QtV
def QtX (x6 x7:Int)(y4:Item)(y5_0:ByteArray)(y5_1 y5_2 y5_4:Int)(Zd:List Link)(Qb:Dice):VS:=QcZ.st ((),(),(),x6,x7,()) (y4,(y5_0,y5_1,y5_2,(),y5_4,()),(),Zd,Qb,())
def Qjg (y4:Item)(y5_0:ByteArray)(y5_1 y5_2 y5_4:Int)(Zd:List Link)(Qb:Dice):VS:=QGj.st ((),(),(),()) (y4,(y5_0,y5_1,y5_2,(),y5_4,()),(),Zd,Qb,())
def QGk:VS->Option (Bool×List (Bool×Exit×VS)):=mkL QcZ (fun x y=>(dOk y.2.2.2.2.1&&decide (0<=x.2.2.2.2.1/\x.2.2.2.2.1<=100/\y.2.2.2.1.length+x.2.2.2.2.1.toNat<=1000))) (fun x y=>[(true,.exit 0,Qjg (y.1) (y.2.1.1) (y.2.1.2.1) (y.2.1.2.2.1) (y.2.1.2.2.2.2.1) (y.2.2.2.1++(Z3 x.2.2.2.2.1.toNat x.2.2.2.1 y.2.2.2.2.1).1) ((Z3 x.2.2.2.2.1.toNat x.2.2.2.1 y.2.2.2.2.1).2))])
def Qjh:G:=gG 62 [(22,G9),(26,QfP)] (Ls [QGk])
def Qji (x6 x7:Int)(y4:Item)(y5_0:ByteArray)(y5_1 y5_2 y5_4:Int)(Zd:List Link)(Qb:Dice):OX:=Qv (QB Qjh Qjf QtW) (QtX x6 x7 y4 y5_0 y5_1 y5_2 y5_4 Zd Qb)
def Oz (kk:Int->Int->Item->ByteArray->Int->Int->Int->List Link->Dice->OX)(x6 x7:Int)(y4:Item)(y5_0:ByteArray)(y5_1 y5_2 y5_4:Int)(Zd:List Link)(Qb:Dice):OX:=
 let a1:=(lgt Qd ([(2,(0,())),(1,(0,())),(5,(2048,())),(16,(128,())),(3,(0,())),(15,(168,()))]) (Int.toNat (Qn Qb 6)))
 let a2:=((a1.1,((a1.2).1,())),(x6,()))
 let a3:=Qh Qb 6
 br (igt x7 0) (br (Jf Qb 6) (br (cIx ([(2,(0,())),(1,(0,())),(5,(2048,())),(16,(128,())),(3,(0,())),(15,(168,()))]) (Qn Qb 6)) (br (QJ Zd ([a2]) 24) (br (YB a3 ([5,30,0,100])) (kk (Qg .i64 (Qg .i64 x6 1) (dof a3 ([5,30,0,100]))) (Jc .i64 x7 1) y4 y5_0 y5_1 y5_2 y5_4 (Zd++([a2])) (QM a3 ([5,30,0,100]))) none) none) none) none) (some (.exit 0,Qjg y4 y5_0 y5_1 y5_2 y5_4 Zd Qb))
def OA (x6 x7:Int)(y4:Item)(y5_0:ByteArray)(y5_1 y5_2 y5_4:Int)(Zd:List Link)(Qb:Dice):OX:=
 let a1:=Z3 x7.toNat x6 Qb
 some (.exit 0,Qjg (y4) (y5_0) (y5_1) (y5_2) (y5_4) (Zd++a1.1) (a1.2))
theorem QtY (x6 x7:Int)(y4:Item)(y5_0:ByteArray)(y5_1 y5_2 y5_4:Int)(Zd:List Link)(Qb:Dice):Qji x6 x7 y4 y5_0 y5_1 y5_2 y5_4 Zd Qb=Oz Qji x6 x7 y4 y5_0 y5_1 y5_2 y5_4 Zd Qb:=lnT (x:=Oz (fun x6 x7 y4 y5_0 y5_1 y5_2 y5_4 Zd Qb=>some (.normal,QtX x6 x7 y4 y5_0 y5_1 y5_2 y5_4 Zd Qb)) x6 x7 y4 y5_0 y5_1 y5_2 y5_4 Zd Qb) (by simp only [Oz,nxA];rfl)
def r_f40 (d0:Dice)(p1:ByteArray):OV:=
 let a2:=Qh (Qh (Qh d0 2) 4) 20
 let a3:=Qg .i64 1 (Qn a2 3)
 let a1:=Z3 a3.toNat (Qn (Qh (Qh d0 2) 4) 20) (Qh a2 3)
 br (Jf d0 2) (br (Jf (Qh d0 2) 4) (br (Jf (Qh (Qh d0 2) 4) 20) (br (Jf a2 3) (br (dOk (Qh a2 3)&&decide (0<=a3/\a3<=100/\([]:List Link).length+a3.toNat<=1000)) (br (cIx (([]:List Link)++a1.1) 0) (br (cLd (([]:List Link)++a1.1) (Int.toNat 0)) (br (YB (a1.2) ([50,300,0,3000])) (some (.t Jd ((p1),((Qg .i64 1 (Qn d0 2)),((Qg .i64 1 (Qn (Qh d0 2) 4)),((([]:List Link)++a1.1),((Qg .i64 (((lgt JX (([]:List Link)++a1.1) (Int.toNat 0)).2).1) (dof (a1.2) ([50,300,0,3000]))),()))))),[.box (.t Q1 (QM (a1.2) ([50,300,0,3000])))])) none) none) none) none) none) none) none) none
theorem QGl (x6 x7:Int)(y4:Item)(y5_0:ByteArray)(y5_1 y5_2 y5_4:Int)(Zd:List Link)(Qb:Dice)(h:(dOk Qb&&decide (0<=x7/\x7<=100/\Zd.length+x7.toNat<=1000))=true):Qji x6 x7 y4 y5_0 y5_1 y5_2 y5_4 Zd Qb=OA x6 x7 y4 y5_0 y5_1 y5_2 y5_4 Zd Qb:=by
 simp only [Bc,Ba] at h
 obtain ⟨hd,h1,h2q,h3⟩:=h
 obtain ⟨k,rfl⟩:=Bq h1
 rw [Bd] at h3
 have h2:k<=100:=by omega
 clear h1 h2q
 induction k generalizing Zd Qb x6 with
 |zero=>
  rw [QtY]
  have e1:igt ((0:Nat):Int) 0=false:=rfl
  simp only [Oz,e1,Qf,OA,Bd,Z3,BO]
 |succ k ih=>
  rw [QtY]
  have e1:igt ((k+1:Nat):Int) 0=true:=by simp only [igt,Ba];omega
  have e2:Jc .i64 ((k+1:Nat):Int) 1=(k:Int):=by rw [XG (by omega)];omega
  have hv:=Zz (d:=Qb) (n:=6) (by omega)
  have hc:cIx WZ (Qn Qb 6)=true:=by
   have:WZ.length=6:=rfl
   simp only [cIx,Ba]
   omega
  have hla:OA x6 ((k+1:Nat):Int) y4 y5_0 y5_1 y5_2 y5_4 Zd Qb=OA (Qg .i64 (Qg .i64 x6 1) (dof (Qh Qb 6) [5,30,0,100])) (k:Int) y4 y5_0 y5_1 y5_2 y5_4 (Zd++[(lgt Qd WZ (Qn Qb 6).toNat,(x6,()))]) (QM (Qh Qb 6) [5,30,0,100]):=by
   simp only [OA,Bd,Z3,BR]
   rfl
  rw [hla, ← ih _ _ _ (Ic (JA hd)) (by simp;omega) (by omega)]
  have n6:Jf Qb 6=true:=by simp [Jf,hd]
  have f1:YB (Qh Qb 6) [5,30,0,100]=true:=by simp [YB,JA hd]
  simp only [Oz,e1,e2,n6,f1,Qc,show ([(2,(0,())),(1,(0,())),(5,(2048,())),(16,(128,())),(3,(0,())),(15,(168,()))]:List Keep)=WZ from rfl,hc]
  rw [Qzv (by simp;omega) (by omega),Qc]
  show br (cIx WZ (Qn Qb 6)) _ _=_
  rw [hc,Qc]
theorem QGm:LO Qjh Qjf QtW 0:=QH (s:=QcZ) fun x y h _ q=>by simp only [QF,QG] at q;exact (QGl x.2.2.2.1 x.2.2.2.2.1 y.1 y.2.1.1 y.2.1.2.1 y.2.1.2.2.1 y.2.1.2.2.2.2.1 y.2.2.2.1 y.2.2.2.2.1 h).trans q
theorem s_f40 (d:Dice)(s:ByteArray)(h:QcY d s=true):r_f40 d s=some (.t Jd (Oy d s),[.box (.t Q1 (Gw d s))]):=by
 have h:dOk d=true:=h
 have n2:Jf d 2=true:=by simp [Jf,h]
 have n4:Jf (Qh d 2) 4=true:=by simp [Jf,JA h]
 have n20:Jf (Qh (Qh d 2) 4) 20=true:=by simp [Jf,JA (JA h)]
 have n3:Jf (Qh (Qh (Qh d 2) 4) 20) 3=true:=by simp [Jf,JA (JA (JA h))]
 have b3:=Zz (d:=Qh (Qh (Qh d 2) 4) 20) (n:=3) (by omega)
 have e3:Qg .i64 1 (Qn (Qh (Qh (Qh d 2) 4) 20) 3)=1+Qn (Qh (Qh (Qh d 2) 4) 20) 3:=J5 (by omega)
 have hl:=Qje (Qg .i64 1 (Qn (Qh (Qh (Qh d 2) 4) 20) 3)).toNat (Qn (Qh (Qh d 2) 4) 20) (Ox d)
 have hd3:dOk (Ox d)=true:=JA (JA (JA (JA h)))
 have hL:dOk (Ju d).2=true:=QtT h
 have f5:YB (Ju d).2 [50,300,0,3000]=true:=by simp [YB,hL]
 have hlen:0<(Ju d).1.length:=by
  show 0<(Z3 _ _ _).1.length
  rw [hl]
  omega
 have c1:cIx (Ju d).1 0=true:=by simp only [cIx,Ba];omega
 have c2:cLd (Ju d).1 (Int.toNat 0)=true:=by simp only [cLd,Ba];exact hlen
 simp only [r_f40,n2,n4,n20,n3,Qc,BT,show Qh (Qh (Qh (Qh d 2) 4) 20) 3=Ox d from rfl,hd3,BE]
 rw [G7 ⟨by omega,by omega,by simp;omega⟩,Qc]
 simp only [show Z3 (Qg .i64 1 (Qn (Qh (Qh (Qh d 2) 4) 20) 3)).toNat (Qn (Qh (Qh d 2) 4) 20) (Ox d)=Ju d from rfl,c1,c2,f5,Qc]
 rfl
def QtZ:Ent:=Uq Q1 (.pr .str .nil) (fun d x=>(QcY d x.1)) (fun d x=>(.t Jd (Oy d x.1))) (fun d x=>(Gw d x.1))
theorem ms_f40:EM 40 QtZ:=mS (lk:=lkL (lkc QGm lkn)) Qjh QtV [((.c 4 true 5),some Jd)] false (gB (gD Ib (gD Qnh gN))) fun m=>Fs m rfl fun d x hok=>kT (s_f40 d x.1 hok)
abbrev Qc0:Sh:=⟨[(1,.ty tI),(7,.ty (.sl tI)),(8,.ty tI),(9,.ty tI)],[]⟩
abbrev Qt0:Sh:=⟨[(4,.ty .bool)],[]⟩
abbrev Qt1:Sh:=⟨[],[]⟩
def Qjj:Fg:=Qc0.f
def Qt2:TC:=aF Tryz.f17 [(26,pL 0 Qjj),(421,.fg Qt1.f),(13517,.fg Qt0.f)]
def Qt3:TC:=lb 0 Qt2
def Qt4 (x1:Int)(x7:List Int)(x8 x9:Int):VS:=Qc0.st (x1,x7,x8,x9,()) ()
def Qjk (x4:Bool):VS:=Qt0.st (x4,()) ()
def Qjl  : VS:=Qt1.st () ()
def QGn:VS->Option (Bool×List (Bool×Exit×VS)):=mkL Qc0 (fun x y=>(Qt x.2.1 x.2.2.1 x.2.2.2.1)) (fun x y=>[((QO (x.2.1.drop x.2.2.2.1.toNat) x.1),.ret,Qjk (true)),(true,.exit 0,Qjl)])
def Qjm:G:=gG 17 [] (Ls [QGn])
def Qc1 (x1:Int)(x7:List Int)(x8 x9:Int):OX:=Qv (QB Qjm Qjj Qt3) (Qt4 x1 x7 x8 x9)
def OB (kk:Int->List Int->Int->Int->OX)(x1:Int)(x7:List Int)(x8 x9:Int):OX:=br (ilt x9 x8) (br (cIx x7 x9) (br (ieq (lgt tI x7 (Int.toNat x9)) x1) (some (.ret,Qjk true)) (kk x1 x7 x8 (Qg .i64 x9 1))) none) (some (.exit 0,Qjl))
def Qc2 (x1:Int)(x7:List Int)(x8 x9:Int):OX:=br (QO (x7.drop x9.toNat) x1) (some (.ret,Qjk (true)))<|some (.exit 0,Qjl)
theorem Qt5 (x1:Int)(x7:List Int)(x8 x9:Int):Qc1 x1 x7 x8 x9=OB Qc1 x1 x7 x8 x9:=lnT (x:=OB (fun x1 x7 x8 x9=>some (.normal,Qt4 x1 x7 x8 x9)) x1 x7 x8 x9) (by simp only [OB,nxA];rfl)
def r_f17 (p0:List Int)(p1:Int):OV:=br (Qt p0 (Qa p0) (0:Int)) (br (QO (p0.drop (0:Int).toNat) p1) (some (.t .bool (true),[])) (some (.t .bool false,[]))) none
theorem QGo (x1:Int)(x7:List Int)(x8 x9:Int)(h:(Qt x7 x8 x9)=true):Qc1 x1 x7 x8 x9=Qc2 x1 x7 x8 x9:=by
 obtain ⟨rfl,h3,k,rfl,hk⟩:=Jy h
 clear h
 refine QR x7 (fun k=>Qc1 x1 x7 (x7.length:Int) (k:Int)=Qc2 x1 x7 (x7.length:Int) (k:Int)) ?_ ?_ k hk
 ·rw [Qt5]
  simp only [OB,Qc2,QC,BV,B2,Qf,Bd,BQ]
  rfl
 ·intro k hk ih
  rw [Qt5]
  simp only [OB,QC,QI,hk,Bv,Qc,Bd,QQ (show k<4611686018427387904 by omega),ih,QP (y:=tI) hk]
  simp only [Qc2,Bd,Bj hk]
  have e:QO (x7[k]::x7.drop (k+1)) x1=(ieq x7[k] x1||QO (x7.drop (k+1)) x1):=by
   unfold QO
   rw [List.contains_cons]
   congr 1
   simp only [ieq,BEq.comm]
  rw [e]
  cases ieq x7[k] x1<;>rfl
theorem QGp:LO Qjm Qjj Qt3 0:=QH (s:=Qc0) fun x y h _ q=>by simp only [QF,QG] at q;exact (QGo x.1 x.2.1 x.2.2.1 x.2.2.2.1 h).trans q
theorem s_f17 (l:List Int)(n:Int)(h:Jk l n=true):r_f17 l n=some (.t .bool (QO l n),[]):=by
 have hl:l.length<=100000:=Bx h
 simp only [r_f17,Jz hl,Qc,Bu,BA]
 cases QO l n<;>rfl
def Qt6:Ent:=Qk (.pr (.sl tI) (.pr tI .nil)) (fun x=>(Jk x.1 x.2.1)) (fun x=>(.t .bool (QO x.1 x.2.1)))
theorem ms_f17:EM 17 Qt6:=mS (lk:=lkL (lkc QGp lkn)) Qjm Qt2 [((.t 4),some .bool)] false (gB gN) fun m=>Qm m fun x hok=>kT (s_f17 x.1 x.2.1 hok)
def Zr:Keep:=(5,(2048,()))
def Qt7:TC:=aF Tryz.f39 []
def Qt8:List (RV×Option Ty):=[((.c 0 true 2),some Qd)]
def g_f39:G:=gG 2 [] (fun _ _=>none)
def r_f39  : OV:=some (.t Qd (5,(2048,())),[])
theorem e_f39  : JS g_f39 Qt7 Qt8 false [] []=r_f39  :=by kernel_rfl
theorem s_f39:r_f39=some (.t Qd Zr,[]):=rfl
def Qt9:Ent:=Qk .nil (fun x=>true) (fun x=>(.t Qd Zr))
theorem ms_f39:EM 39 Qt9:=mS g_f39 Qt7 Qt8 false (gB gN) fun m=>Qm m fun x _=>(e_f39 ).trans (s_f39)
def leafC (nm:ByteArray)(k:Keep)(id to:Int):Certificate:=(id,(sRoot,(nm,(k,(id,((3,(0,())),(0,(to,(false,(0,([nm],((0,(0,())),()))))))))))))
def Ys (nm:ByteArray)(k:Keep)(id a to:Int):Identity:=(k,(id,([(Wy (leafC nm k id to) a).1],())))
def OC (nm:ByteArray)(_k:Keep)(_id _a _to:Int):Bool:=decide (nm.size<=1000)
def tc_f38:TC:=aF Tryz.f38 []
def g_f38:G:=gG 32 [(68,Qmd)] (fun _ _=>none)
def r_f38 (p0:ByteArray)(p1:Keep)(p2 p3 p4:Int):OV:=
 let a1:=((Wy (p2,((ByteArray.mk #[114,111,111,116]),(p0,((p1.1,(p1.2.1,())),(p2,((3,(0,())),(0,(p4,(false,(0,([p0],((0,(0,())),())))))))))))) p3).1)
 let a4:=(((a1.2).2).2)
 let a2:=((a4.2).2)
 let a3:=((((a2.2).2).2).2)
 br (Qfg (p2,((ByteArray.mk #[114,111,111,116]),(p0,((p1.1,(p1.2.1,())),(p2,((3,(0,())),(0,(p4,(false,(0,([p0],((0,(0,())),())))))))))))) p3) (some (.t Q0 ((p1.1,(p1.2.1,())),(p2,([(a1.1,((a1.2).1,(((a1.2).2).1,(((a4.1).1,(((a4.1).2).1,())),((a4.2).1,(((a2.1).1,(((a2.1).2).1,())),((a2.2).1,(((a2.2).2).1,((((a2.2).2).2).1,(a3.1,((a3.2).1,(((((a3.2).2).1).1,(((((a3.2).2).1).2).1,())),()))))))))))))],()))),[])) none
theorem s_f38 (nm:ByteArray)(k:Keep)(id a to:Int)(h:OC nm k id a to=true):r_f38 nm k id a to=some (.t Q0 (Ys nm k id a to),[]):=by
 have hs:nm.size<=1000:=Bx h
 unfold r_f38
 exact brY (QDQ (by decide) hs (l:=[nm]) (Nat.le_succ 1) (fun t ht=>by rw [Dq.1 ht];omega)) rfl
def Qua:Ent:=Qk (.pr .str (.pr Qd (.pr tI (.pr tI (.pr tI .nil))))) (fun x=>(OC x.1 x.2.1 x.2.2.1 x.2.2.2.1 x.2.2.2.2.1)) (fun x=>(.t Q0 (Ys x.1 x.2.1 x.2.2.1 x.2.2.2.1 x.2.2.2.2.1)))
theorem ms_f38:EM 38 Qua:=mS g_f38 tc_f38 [((.c 10 true 4),some Q0)] false (gB (gD ms_f68 gN)) fun m=>Qm m fun x hok=>kT (s_f38 x.1 x.2.1 x.2.2.1 x.2.2.2.1 x.2.2.2.2.1 hok)
set_option maxRecDepth 100000 in
end
end Go.Proofs.YtmjnnemhoeolgaaGreat.K
noncomputable section
namespace Go.Proofs.YtmjnnemhoeolgaaGreat.K
open Go.RowKit
noncomputable section
attribute [local irreducible] epV epN prZ
end
end Go.Proofs.YtmjnnemhoeolgaaGreat.K
noncomputable section
namespace Go.Proofs.YtmjnnemhoeolgaaGreat.K
open Go.RowKit
noncomputable section
theorem QrH {k:Keep}{id:Int}{l:List Certificate}(hk:Z6 k 2=true)(hd:JY id=true)(hl:l.length<=8)(h1:l.all QN=true)(h2:EY k id l=true):YV k id l=true:=by
 simp only [Z6,Bc] at hk
 have h8:igt (Qa l) 8=false:=Bn (by simp only [Qa];omega)
 have hi:ine (Z5 k.1) 2=false:=by rw [GD,hk.2];rfl
 unfold YV
 rw [hk.1,hi,hd,h8,h1,h2]
 rfl
theorem QDS {c:Int}(h:1<=c/\c<=16):ieq (QW c).2 0=true:=by
 unfold QW
 rw [if_neg (by omega)]
 rfl
theorem QDT {l:List Int}(hn:l.Nodup)(hr: ∀ x∈l,1<=x/\x<=16):ZA l=true:=by
 have key: ∀ (k:Nat) (hk:k<l.length),(ieq (QW l[k]).2 0&& !QO (l.take k) l[k])=true:=by
  intro k hk
  rw [QDS (hr _ (Bw hk)),BE,Br]
  unfold QO
  rw [Bool.eq_false_iff]
  intro hc
  have hm:=BH.1 hc
  obtain ⟨j,hj,he⟩:=List.mem_iff_getElem.1 hm
  rw [B7] at hj
  rw [List.getElem_take] at he
  have:=(List.nodup_iff_pairwise_ne.1 hn)
  rw [List.pairwise_iff_getElem] at this
  exact this j k (by omega) hk (by omega) he
 simp only [ZA,Ym,Bg,List.mem_range'_1]
 intro k hk
 have hk2:k<l.length:=by omega
 simp only [Bk,Bf hk2,BI]
 exact key k hk2
def goodS (l:List Int):Prop:=l.Nodup∧ ∀ x∈l,1<=x/\x<=16
def Qb1 (l:List Int):Bool:= !igt (Qa l) 16&&(Y0 l&&l.all JY)
def Qb2 (l:List Int):Bool:=Y0 l&&l.all XI
theorem QrI {e:Endpoint}(hw:XH e.1=true)(h1:1<=e.2.1)(h2:e.2.1<=e.2.2.1)(h3:e.2.2.1<=4)(hs:goodS (Qu e))(hi:(QA e).length<=4)(hv:(QA e).all Xv=true)(ha:Qb1 (Q3 e)=true)(hh:Qb2 (Q6 e)=true):QT e=true:=by
 simp only [Qb1,Qb2,Bc] at ha hh
 have g1:ilt e.2.1 1=false:=Bn (by omega)
 have g2:igt e.2.1 e.2.2.1=false:=Bn (by omega)
 have g3:igt e.2.2.1 4=false:=Bn (by omega)
 have g4:igt (Qa (QA e)) 4=false:=Bn (by simp only [Qa];omega)
 unfold QT
 rw [hw,g1,g2,g3,QDT hs.1 hs.2,g4,ha.1,ha.2.1,ha.2.2,hv,hh.1,hh.2]
 rfl
attribute [local irreducible] epV epN prZ
end
end Go.Proofs.YtmjnnemhoeolgaaGreat.K
noncomputable section
namespace Go.Proofs.YtmjnnemhoeolgaaGreat.K
open Go.RowKit
noncomputable section
theorem QyZ {c s:Endpoint}{x:Keep}(hx:x∈ZS c s):Z2 s (Qu c) x.1 x.2.1=true/\loC c s<=x.1/\x.1<=hiC c s:=by
 unfold ZS at hx
 cases hr:XV c s with
 |false=>rw [hr] at hx;cases hx
 |true=>
  rw [hr] at hx
  obtain ⟨hv,hw⟩:=Bi.1 hr
  have v1:=Uv hv
  have v2:=Uv hw
  have b1:1<=loC c s:=by simp only [loC,imx];omega
  change x∈Xg s (Qu c) (loC c s).toNat (hiC c s+1-loC c s).toNat at hx
  unfold Xg UH at hx
  simp only [Dt,List.mem_range'_1,B5,List.mem_filter] at hx
  obtain ⟨j,hj,k,⟨_,hp⟩,rfl⟩:=hx
  exact ⟨hp,by show loC c s<=(j:Int);omega,by show (j:Int)<=hiC c s;omega⟩
theorem Qy0 {c s:Endpoint}{v k:Int}(hr:XV c s=true)(h1:loC c s<=v)(h2:v<=hiC c s)(hp:Z2 s (Qu c) v k=true):(v,(k,()))∈ZS c s:=by
 have hk:1<=k/\k<=16:=by
  simp only [Z2,Bc] at hp
  exact Qsk hp.1
 obtain ⟨hv,hw⟩:=Bi.1 hr
 have v1:=Uv hv
 have v2:=Uv hw
 have b1:1<=loC c s:=by simp only [loC,imx];omega
 unfold ZS
 rw [hr]
 show _∈Xg s (Qu c) (loC c s).toNat (hiC c s+1-loC c s).toNat
 unfold Xg UH
 simp only [Dt,List.mem_range'_1,B5,List.mem_filter]
 refine ⟨v.toNat,by omega,k.toNat,⟨by omega, ?_⟩, ?_⟩
 ·rw [DS (by omega),DS (by omega)]
  exact hp
 ·rw [DS (by omega),DS (by omega)]
end
end Go.Proofs.YtmjnnemhoeolgaaGreat.K
noncomputable section
namespace Go.Proofs.YtmjnnemhoeolgaaGreat.K.PE
open Go.RowKit
noncomputable section
-- loop 0: (x1 : ByteArray) (x6 : Int) (y4 : Endpoint) (y5_0 : ByteArray) (y5_1 : Int) (y5_2 : Int) (y5_4 : Bool) (y5_8 : Bool) (y15 : (List Int)) (QlW : (List Identity)) (Qb : Dice); out: ('exit', 0) (y4 : Endpoint) (y5_0 : ByteArray) (y5_1 : Int) (y5_2 : Int) (y5_4 : Bool) (y5_8 : Bool) (y15 : (List Int)) (QlW : (List Identity)) (Qb : Dice)
end
end Go.Proofs.YtmjnnemhoeolgaaGreat.K.PE
noncomputable section
namespace Go.Proofs.YtmjnnemhoeolgaaGreat.K
open Go.RowKit
noncomputable section
abbrev Ww:List ByteArray:=[(ByteArray.mk #[97,112,112]),(ByteArray.mk #[100,98]),(ByteArray.mk #[119,101,98])]
abbrev sSu:List (List Int):=[[10,8,2],[8,2],[2,10,8,3]]
abbrev sIt:List ByteArray:=[(ByteArray.mk #[98,97,99,107,117,112]),(ByteArray.mk #[100,101,101,100])]
def nm1 (s:ByteArray):Bool:=decide (s.size<=1000)
def YS (d:Dice):List Int:=bif ieq (dof d [3,3,4]) 4 then [14]++lgt (.sl tI) sSu (Qn (QM d [3,3,4]) 3).toNat else lgt (.sl tI) sSu (Qn (QM d [3,3,4]) 3).toNat
def ZI (d:Dice)(k:Nat)(s:ByteArray):Endpoint:=(s,(1,(dof d [3,3,4],(YS d,(done (Qh (QM d [3,3,4]) 3) 2,([Ys s Zr (Qg .i64 100 (k:Int)) 1 901],([1],([2,3],(done (Qh (Qh (QM d [3,3,4]) 3) 2) 3,())))))))))
def Ub (d:Dice):Dice:=Qh (Qh (Qh (QM d [3,3,4]) 3) 2) 3
def ZJ:List ByteArray->Nat->Dice->List Endpoint×Dice
 | [],_,d=>([],d)
 |s::r,k,d=>(ZI d k s::(ZJ r (k+1) (Ub d)).1,(ZJ r (k+1) (Ub d)).2)
def edZ:Nat->Int->Int->List Keep->Dice->List Keep×Dice
 |0,_,_,l,d=>(l,d)
 |m+1,i,k,l,d=>bif ine i k then (bif igt (Qn d 3) 0&&ilt (Qa l) 3 then edZ m i (k+1) (l++[(i,(k,()))]) (Qh d 3) else edZ m i (k+1) l (Qh d 3)) else edZ m i (k+1) l d
def edY:Nat->Nat->Int->List Keep->Dice->List Keep×Dice
 |0,_,_,l,d=>(l,d)
 |m+1,n,i,l,d=>edY m n (i+1) (edZ n i 0 l d).1 (edZ n i 0 l d).2
def itZ:Nat->Dice->List Item×Dice
 |0,d=>([],d)
 |n+1,d=>(Oy (WT d sIt) (Xc d sIt)::(itZ n (Gw (WT d sIt) (Xc d sIt))).1,(itZ n (Gw (WT d sIt) (Xc d sIt))).2)
def JN (d:Dice):List ByteArray:=lsl Ww 0 (Qg .i64 2 (Qn d 2))
def Zb (d:Dice):List Keep×Dice:=edY (JN d).length (JN d).length 0 [] (ZJ (JN d) 0 (Qh d 2)).2
def GP (d:Dice):List Keep:=bif ieq (Qa (Zb d).1) 0 then [(0,(1,()))] else (Zb d).1
def sndIt (d:Dice):List Item×Dice:=itZ (Qn (Zb d).2 3).toNat (Qh (Zb d).2 3)
def Qx (d:Dice):Estate:=((ZJ (JN d) 0 (Qh d 2)).1,(GP d,((sndIt d).1,())))
def sndN (d:Dice):Dice:=(sndIt d).2
theorem Qw5 {d:Dice}(h:dOk d=true):dOk (Ub d)=true:=JA (JA (JA (Ic (l:=[3,3,4]) h)))
theorem Qw6: ∀ (l:List ByteArray) (k:Nat) (d:Dice),dOk d=true->dOk (ZJ l k d).2=true
 | [],_,_,h=>h
 |_::r,k,d,h=>Qw6 r (k+1) (Ub d) (Qw5 h)
theorem EG: ∀ (m:Nat) (i k:Int) (l:List Keep) (d:Dice),dOk d=true->l.length<=3->dOk (edZ m i k l d).2=true/\(edZ m i k l d).1.length<=3
 |0,_,_,_,_,h,hl=>⟨h,hl⟩
 |m+1,i,k,l,d,h,hl=>by
  unfold edZ
  cases ine i k with
  |false=>exact EG m i (k+1) l d h hl
  |true=>
   cases h1:igt (Qn d 3) 0 with
   |false=>exact EG m i (k+1) l (Qh d 3) (JA h) hl
   |true=>
    cases h2:ilt (Qa l) 3 with
    |false=>exact EG m i (k+1) l (Qh d 3) (JA h) hl
    |true=>
     have:l.length<3:=by have:=Bx h2;simp only [Qa] at this;omega
     exact EG m i (k+1) _ (Qh d 3) (JA h) (by simp only [Bl,Bp];omega)
theorem Qw7: ∀ (m n:Nat) (i:Int) (l:List Keep) (d:Dice),dOk d=true->l.length<=3->dOk (edY m n i l d).2=true/\(edY m n i l d).1.length<=3
 |0,_,_,_,_,h,hl=>⟨h,hl⟩
 |m+1,n,i,l,d,h,hl=>by
  have:=EG n i 0 l d h hl
  exact Qw7 m n (i+1) _ _ this.1 this.2
theorem Qw8 {d:Dice}(h:dOk d=true):dOk (WT d sIt)=true:=JA (n:=2) h
theorem Qld (d:Dice):JN d=Ww.take 2∨JN d=Ww:=by
 have hv:=Zz (d:=d) (n:=2) (by omega)
 have e:Qg .i64 2 (Qn d 2)=2+Qn d 2:=J5 (by omega)
 unfold JN
 rw [e]
 rcases (show Qn d 2=0∨Qn d 2=1 by omega) with h|h<;>rw [h]
 ·exact .inl rfl
 ·exact .inr rfl
theorem Vg (d:Dice):2<=(JN d).length/\(JN d).length<=3/\(JN d).all nm1=true:=by
 rcases Qld d with h|h<;>rw [h]<;>exact ⟨by decide,by decide,by decide⟩
abbrev Qeo:Sh:=⟨[(0,.ptr 50000 0),(2,.ptr 2 0),(3,.ptr 3 0),(4,.ty (.sl .str)),(16,.ty (.sl .str)),(17,.ty tI),(18,.ty tI)],[(2,.box QE),(3,.bag [.ms 20300,.ms 20301,.ms 20302]),(61,.no),(94,.no),(103,.no),(119,.no),(20300,.arr 61 Qo),(20301,.arr 47 Qd),(20302,.arr 106 Jd),(50000,.box Q1)]⟩
abbrev QJt:Sh:=⟨[(0,.ptr 50000 0),(2,.ptr 2 0),(3,.ptr 3 0),(4,.ty (.sl .str))],[(2,.box QE),(3,.bag [.ms 20300,.ms 20301,.ms 20302]),(61,.no),(94,.no),(103,.no),(119,.no),(20300,.arr 61 Qo),(20301,.arr 47 Qd),(20302,.arr 106 Jd),(50000,.box Q1)]⟩
abbrev Qep:Sh:=⟨[(0,.ptr 50000 0),(2,.ptr 2 0),(3,.ptr 3 0),(4,.ty (.sl .str)),(8,.ty tI),(65,.ty tI),(66,.ty tI),(70,.ty tI),(71,.ty tI)],[(2,.box QE),(3,.bag [.ms 20300,.ms 20301,.ms 20302]),(61,.no),(94,.no),(103,.no),(119,.no),(20300,.arr 61 Qo),(20301,.arr 47 Qd),(20302,.arr 106 Jd),(50000,.box Q1)]⟩
abbrev Qeq:Sh:=⟨[(0,.ptr 50000 0),(2,.ptr 2 0),(3,.ptr 3 0),(4,.ty (.sl .str)),(65,.ty tI),(66,.ty tI)],[(2,.box QE),(3,.bag [.ms 20300,.ms 20301,.ms 20302]),(61,.no),(94,.no),(103,.no),(119,.no),(20300,.arr 61 Qo),(20301,.arr 47 Qd),(20302,.arr 106 Jd),(50000,.box Q1)]⟩
abbrev QJu:Sh:=⟨[(0,.ptr 50000 0),(2,.ptr 2 0),(3,.ptr 3 0)],[(2,.box QE),(3,.bag [.ms 20300,.ms 20301,.ms 20302]),(61,.no),(94,.no),(103,.no),(119,.no),(20300,.arr 61 Qo),(20301,.arr 47 Qd),(20302,.arr 106 Jd),(50000,.box Q1)]⟩
abbrev Qer:Sh:=⟨[(0,.ptr 50000 0),(2,.ptr 2 0),(3,.ptr 3 0),(10,.ty tI)],[(2,.box QE),(3,.bag [.ms 20300,.ty (.sl Qd),.ms 20302]),(61,.no),(94,.no),(103,.no),(119,.no),(20300,.arr 61 Qo),(20301,.no),(20302,.arr 106 Jd),(50000,.box Q1)]⟩
abbrev QJv:Sh:=⟨[(2,.ptr 2 0),(3,.ptr 3 0)],[(2,.box QE),(3,.bag [.ms 20300,.ty (.sl Qd),.ms 20302]),(61,.no),(94,.no),(103,.no),(119,.no),(20300,.arr 61 Qo),(20301,.no),(20302,.arr 106 Jd),(50000,.box Q1)]⟩
def Qle:Fg:=Qeo.f
def Qlf:Fg:=Qep.f
def Qlg:Fg:=Qeq.f
def Qlh:Fg:=Qer.f
def Vh:TC:=aF Tryz.f20 [(122,.nf 3 2 106 20302),(122,.nf 3 1 47 20301),(122,.nf 3 0 61 20300),(122,.nf 7 3 3 20703),(122,pL 0 Qle),(1957,.fg ⟨[(0,none),(2,none),(3,none),(4,some (.sl .str))],[(2,some QE),(3,some QE),(61,none),(94,none),(103,none),(119,none),(20300,none),(20301,none),(20302,none),(50000,some Q1)]⟩),(15666,pD [(0,[]),(1,[50000]),(2,[]),(3,[26,5026,10026,15026,50000]),(4,[]),(5,[]),(6,[]),(7,[]),(8,[50000]),(9,[32,5032,10032,15032,50000]),(10,[]),(11,[]),(12,[50000]),(13,[36,5036,10036,15036,50000]),(14,[]),(15,[]),(16,[50000]),(17,[40,5040,10040,15040,50000]),(18,[]),(19,[7,5007,10007,15007]),(20,[7,45,48,20703])] (.one 0 (.one 1 (.one 2 (.one 4 (.one 5 (.one 6 (.one 7 (.one 8 (.one 12 (.one 14 (.one 15 (.one 16 (.alt 3 (.alt 9 (.one 10 (.one 11 (.alt 13 (.alt 17 (.of [18,19,20]) (.of [19,17,18,20])) (.of [19,13,17,18,20])))) (.of [19,9,10,11,13,17,18,20])) (.of [19,3,9,10,11,13,17,18,20]))))))))))))))),(250,.nf 3 2 106 20302),(250,.nf 3 0 61 20300),(250,.nf 3 1 47 20301),(250,pL 2 Qlg),(4005,.fg ⟨[(0,none),(2,none),(3,none)],[(2,some QE),(3,some QE),(61,none),(94,none),(103,none),(119,none),(20300,none),(20301,none),(20302,none),(50000,some Q1)]⟩),(64102,.nf 3 2 106 20302),(64102,.nf 3 0 61 20300),(64102,.nf 3 1 47 20301),(64102,pL 1 Qlf),(1025637,.fg ⟨[(0,none),(2,none),(3,none),(4,some (.sl .str)),(65,some tI),(66,some tI)],[(2,some QE),(3,some QE),(61,none),(94,none),(103,none),(119,none),(20300,none),(20301,none),(20302,none),(50000,some Q1)]⟩),(1018,.fz [20301,103]),(1018,.nf 3 1 47 20301),(1018,.nf 3 0 61 20300),(1018,.nf 3 2 106 20302),(1018,pL 3 Qlh),(16291,.fg ⟨[(2,none),(3,none)],[(2,some QE),(3,some QE),(61,none),(94,none),(103,none),(119,none),(20300,none),(20301,none),(20302,none),(50000,some Q1)]⟩),(16292,pD [(0,[3,61,94,103,119,20300,20301,20302]),(1,[3,61,94,103,119,20300,20301,20302]),(2,[50000]),(3,[50000]),(4,[]),(5,[116,5116,10116,15116,50000]),(6,[117,5117,10117,15117,50000]),(7,[]),(8,[2,3,61,94,103,119,5119,10119,15119,20300,20301,20302]),(9,[3,61,94,103,119,20300,20301,20302]),(10,[2,3,61,94,103,119,20300,20301,20302])] (.of [0,1,2,3,4,5,6,7,8,9,10]))]
def Qw9:TC:=lb 0 Vh
def Qxa:TC:=lb 1 Vh
def Qxb:TC:=lb 2 Vh
def Qxc:TC:=lb 3 Vh
def Qxd (x4 x16:List ByteArray)(x17 x18:Int)(y2:Estate)(Qi:List Endpoint)(Qp:List Keep)(Qj:List Item)(Qb:Dice):VS:=Qeo.st ((),(),(),x4,x16,x17,x18,()) (y2,((),(),(),()),(),(),(),(),Qi,Qp,Qj,Qb,())
def Qli (x4:List ByteArray)(y2:Estate)(Qi:List Endpoint)(Qp:List Keep)(Qj:List Item)(Qb:Dice):VS:=QJt.st ((),(),(),x4,()) (y2,((),(),(),()),(),(),(),(),Qi,Qp,Qj,Qb,())
def Qxe (x4:List ByteArray)(x8 x65 x66 x70 x71:Int)(y2:Estate)(Qi:List Endpoint)(Qp:List Keep)(Qj:List Item)(Qb:Dice):VS:=Qep.st ((),(),(),x4,x8,x65,x66,x70,x71,()) (y2,((),(),(),()),(),(),(),(),Qi,Qp,Qj,Qb,())
def Vi (x4:List ByteArray)(x65 x66:Int)(y2:Estate)(Qi:List Endpoint)(Qp:List Keep)(Qj:List Item)(Qb:Dice):VS:=Qeq.st ((),(),(),x4,x65,x66,()) (y2,((),(),(),()),(),(),(),(),Qi,Qp,Qj,Qb,())
def Qlj (y2:Estate)(Qi:List Endpoint)(Qp:List Keep)(Qj:List Item)(Qb:Dice):VS:=QJu.st ((),(),(),()) (y2,((),(),(),()),(),(),(),(),Qi,Qp,Qj,Qb,())
def Qxf (x10:Int)(y2:Estate)(y3_1:List Keep)(Qi:List Endpoint)(Qj:List Item)(Qb:Dice):VS:=Qer.st ((),(),(),x10,()) (y2,((),y3_1,(),()),(),(),(),(),Qi,(),Qj,Qb,())
def Qlk (y2:Estate)(y3_1:List Keep)(Qi:List Endpoint)(Qj:List Item)(Qb:Dice):VS:=QJv.st ((),(),()) (y2,((),y3_1,(),()),(),(),(),(),Qi,(),Qj,Qb,())
def QJw:VS->Option (Bool×List (Bool×Exit×VS)):=mkL Qeo (fun x y=>(Qt x.2.2.2.2.1 x.2.2.2.2.2.1 x.2.2.2.2.2.2.1&&(dOk y.2.2.2.2.2.2.2.2.2.1&&(decide (y.2.2.2.2.2.2.1.length<=x.2.2.2.2.2.2.1)&&x.2.2.2.2.1.all nm1)))) (fun x y=>[(true,.exit 0,Qli (x.2.2.2.1) (y.1) (y.2.2.2.2.2.2.1++(ZJ (x.2.2.2.2.1.drop x.2.2.2.2.2.2.1.toNat) x.2.2.2.2.2.2.1.toNat y.2.2.2.2.2.2.2.2.2.1).1) (y.2.2.2.2.2.2.2.1) (y.2.2.2.2.2.2.2.2.1) ((ZJ (x.2.2.2.2.1.drop x.2.2.2.2.2.2.1.toNat) x.2.2.2.2.2.2.1.toNat y.2.2.2.2.2.2.2.2.2.1).2))])
def QJx:VS->Option (Bool×List (Bool×Exit×VS)):=mkL Qep (fun x y=>(dOk y.2.2.2.2.2.2.2.2.2.1&&decide (0<=x.2.2.2.2.2.2.2.2.1/\x.2.2.2.2.2.2.2.2.1<=x.2.2.2.2.2.2.2.1/\x.2.2.2.2.2.2.2.1<=3/\y.2.2.2.2.2.2.2.1.length<=3))) (fun x y=>[(true,.exit 4,Vi (x.2.2.2.1) (x.2.2.2.2.2.1) (x.2.2.2.2.2.2.1) (y.1) (y.2.2.2.2.2.2.1) ((edZ (x.2.2.2.2.2.2.2.1-x.2.2.2.2.2.2.2.2.1).toNat x.2.2.2.2.1 x.2.2.2.2.2.2.2.2.1 y.2.2.2.2.2.2.2.1 y.2.2.2.2.2.2.2.2.2.1).1) (y.2.2.2.2.2.2.2.2.1) ((edZ (x.2.2.2.2.2.2.2.1-x.2.2.2.2.2.2.2.2.1).toNat x.2.2.2.2.1 x.2.2.2.2.2.2.2.2.1 y.2.2.2.2.2.2.2.1 y.2.2.2.2.2.2.2.2.2.1).2))])
def QJy:VS->Option (Bool×List (Bool×Exit×VS)):=mkL Qeq (fun x y=>(dOk y.2.2.2.2.2.2.2.2.2.1&&decide (0<=x.2.2.2.2.2.1/\x.2.2.2.2.2.1<=x.2.2.2.2.1/\x.2.2.2.2.1<=3/\x.2.2.2.1.length<=3/\y.2.2.2.2.2.2.2.1.length<=3))) (fun x y=>[(true,.exit 2,Qlj (y.1) (y.2.2.2.2.2.2.1) ((edY (x.2.2.2.2.1-x.2.2.2.2.2.1).toNat x.2.2.2.1.length x.2.2.2.2.2.1 y.2.2.2.2.2.2.2.1 y.2.2.2.2.2.2.2.2.2.1).1) (y.2.2.2.2.2.2.2.2.1) ((edY (x.2.2.2.2.1-x.2.2.2.2.2.1).toNat x.2.2.2.1.length x.2.2.2.2.2.1 y.2.2.2.2.2.2.2.1 y.2.2.2.2.2.2.2.2.2.1).2))])
def QJz:VS->Option (Bool×List (Bool×Exit×VS)):=mkL Qer (fun x y=>(dOk y.2.2.2.2.2.2.2.2.2.1&&decide (0<=x.2.2.2.1/\x.2.2.2.1<=3/\y.2.2.2.2.2.2.2.2.1.length+x.2.2.2.1.toNat<=100))) (fun x y=>[(true,.exit 6,Qlk (y.1) (y.2.1.2.1) (y.2.2.2.2.2.2.1) (y.2.2.2.2.2.2.2.2.1++(itZ x.2.2.2.1.toNat y.2.2.2.2.2.2.2.2.2.1).1) ((itZ x.2.2.2.1.toNat y.2.2.2.2.2.2.2.2.2.1).2))])
def Uc:G:=⟨TYs,[45,103],122,EL [(22,G9),(26,QfP),(37,Qng),(38,Qua),(39,Qt9),(40,QtZ),(41,QrF)],Wp,(Ls [QJw,QJx,QJy,QJz]),IL [],RL []⟩
def Vj (x4 x16:List ByteArray)(x17 x18:Int)(y2:Estate)(Qi:List Endpoint)(Qp:List Keep)(Qj:List Item)(Qb:Dice):OX:=Qv (QB Uc Qle Qw9) (Qxd x4 x16 x17 x18 y2 Qi Qp Qj Qb)
def GQ (kk:List ByteArray->List ByteArray->Int->Int->Estate->List Endpoint->List Keep->List Item->Dice->OX)(x4 x16:List ByteArray)(x17 x18:Int)(y2:Estate)(Qi:List Endpoint)(Qp:List Keep)(Qj:List Item)(Qb:Dice):OX:=
 let a5:=lgt .str x16 (Int.toNat x18)
 let a1:=Ys a5 Zr (Qg .i64 100 x18) 1 901
 let a2:=(lgt (.sl tI) ([[10,8,2],[8,2],[2,10,8,3]]) (Int.toNat (Qn (QM Qb ([3,3,4])) 3)))
 let a3:=(Qh (QM Qb ([3,3,4])) 3)
 let a4:=((done a3 2),([(((a1.1).1,(((a1.1).2).1,())),((a1.2).1,(((a1.2).2).1,())))],([1],([2,3],((done (Qh a3 2) 3),())))))
 let a6:=(dof Qb ([3,3,4]))
 let a7:=OC a5 Zr (Qg .i64 100 x18) 1 901
 br (Xk (Qh a3 2) 3) (br (ieq a6 4) (br (QJ ([14]) a2 8) (br a7 (br (QJ Qi ([(a5,(1,(a6,((([14])++a2),a4))))]) 144) (kk x4 x16 x17 (Qg .i64 x18 1) y2 (Qi++([(a5,(1,(a6,((([14])++a2),a4))))])) Qp Qj (Qh (Qh a3 2) 3)) none) none) none) (br a7 (br (QJ Qi ([(a5,(1,(a6,(a2,a4))))]) 144) (kk x4 x16 x17 (Qg .i64 x18 1) y2 (Qi++([(a5,(1,(a6,(a2,a4))))])) Qp Qj (Qh (Qh a3 2) 3)) none) none)) none
def EH (kk:List ByteArray->List ByteArray->Int->Int->Estate->List Endpoint->List Keep->List Item->Dice->OX)(x4 x16:List ByteArray)(x17 x18:Int)(y2:Estate)(Qi:List Endpoint)(Qp:List Keep)(Qj:List Item)(Qb:Dice):OX:=br (Xk (Qh (QM Qb ([3,3,4])) 3) 2) (GQ kk x4 x16 x17 x18 y2 Qi Qp Qj Qb) none
def EI (kk:List ByteArray->List ByteArray->Int->Int->Estate->List Endpoint->List Keep->List Item->Dice->OX)(x4 x16:List ByteArray)(x17 x18:Int)(y2:Estate)(Qi:List Endpoint)(Qp:List Keep)(Qj:List Item)(Qb:Dice):OX:=
 let a1:=(QM Qb ([3,3,4]))
 br (Jf a1 3) (br (cIx ([[10,8,2],[8,2],[2,10,8,3]]) (Qn a1 3)) (EH kk x4 x16 x17 x18 y2 Qi Qp Qj Qb) none) none
def EJ (kk:List ByteArray->List ByteArray->Int->Int->Estate->List Endpoint->List Keep->List Item->Dice->OX)(x4 x16:List ByteArray)(x17 x18:Int)(y2:Estate)(Qi:List Endpoint)(Qp:List Keep)(Qj:List Item)(Qb:Dice):OX:=
 let a1:=(QM Qb ([3,3,4]))
 let a2:=(YB Qb ([3,3,4]))
 br (ilt x18 x17) (br (cIx x16 x18) (frk (br a2 (frk (br (Jf a1 3) (br (cIx ([[10,8,2],[8,2],[2,10,8,3]]) (Qn a1 3)) (frk (br (Xk (Qh a1 3) 2) (frk (GQ kk x4 x16 x17 x18 y2 Qi Qp Qj Qb) (GQ kk x4 x16 x17 x18 y2 Qi Qp Qj Qb)) none) (EH kk x4 x16 x17 x18 y2 Qi Qp Qj Qb)) none) none) (EI kk x4 x16 x17 x18 y2 Qi Qp Qj Qb)) none) (br a2 (EI kk x4 x16 x17 x18 y2 Qi Qp Qj Qb) none)) none) (some (.exit 0,Qli x4 y2 Qi Qp Qj Qb))
def GR (x4 x16:List ByteArray)(x17 x18:Int)(y2:Estate)(Qi:List Endpoint)(Qp:List Keep)(Qj:List Item)(Qb:Dice):OX:=
 let a1:=ZJ (x16.drop x18.toNat) x18.toNat Qb
 some (.exit 0,Qli (x4) (y2) (Qi++a1.1) (Qp) (Qj) (a1.2))
theorem Qxg (x4 x16:List ByteArray)(x17 x18:Int)(y2:Estate)(Qi:List Endpoint)(Qp:List Keep)(Qj:List Item)(Qb:Dice):Vj x4 x16 x17 x18 y2 Qi Qp Qj Qb=EJ Vj x4 x16 x17 x18 y2 Qi Qp Qj Qb:=lnT (x:=EJ (fun x4 x16 x17 x18 y2 Qi Qp Qj Qb=>some (.normal,Qxd x4 x16 x17 x18 y2 Qi Qp Qj Qb)) x4 x16 x17 x18 y2 Qi Qp Qj Qb) (by
 first
 |(simp only [Wt,EJ,GQ,EH,EI,Wt,Fv,Iu,Iv,Iw,Ix]
   rfl)
 |(simp only [Wt,EJ,GQ,EH,EI,Wt]
   try generalize (QJ Qi ([((lgt .str x16 (Int.toNat x18)),(1,((dof Qb ([3,3,4])),((([14])++(lgt (.sl tI) ([[10,8,2],[8,2],[2,10,8,3]]) (Int.toNat (Qn (QM Qb ([3,3,4])) 3)))),((done (Qh (QM Qb ([3,3,4])) 3) 2),([((((Ys (lgt .str x16 (Int.toNat x18)) Zr (Qg .i64 100 x18) 1 901).1).1,((((Ys (lgt .str x16 (Int.toNat x18)) Zr (Qg .i64 100 x18) 1 901).1).2).1,())),(((Ys (lgt .str x16 (Int.toNat x18)) Zr (Qg .i64 100 x18) 1 901).2).1,((((Ys (lgt .str x16 (Int.toNat x18)) Zr (Qg .i64 100 x18) 1 901).2).2).1,())))],([1],([2,3],((done (Qh (Qh (QM Qb ([3,3,4])) 3) 2) 3),())))))))))]) 144)=cq0
   try generalize ((OC (lgt .str x16 (Int.toNat x18)) Zr (Qg .i64 100 x18) 1 901))=cq1
   try generalize (QJ ([14]) (lgt (.sl tI) ([[10,8,2],[8,2],[2,10,8,3]]) (Int.toNat (Qn (QM Qb ([3,3,4])) 3))) 8)=cq2
   try generalize (QJ Qi ([((lgt .str x16 (Int.toNat x18)),(1,((dof Qb ([3,3,4])),((lgt (.sl tI) ([[10,8,2],[8,2],[2,10,8,3]]) (Int.toNat (Qn (QM Qb ([3,3,4])) 3))),((done (Qh (QM Qb ([3,3,4])) 3) 2),([((((Ys (lgt .str x16 (Int.toNat x18)) Zr (Qg .i64 100 x18) 1 901).1).1,((((Ys (lgt .str x16 (Int.toNat x18)) Zr (Qg .i64 100 x18) 1 901).1).2).1,())),(((Ys (lgt .str x16 (Int.toNat x18)) Zr (Qg .i64 100 x18) 1 901).2).1,((((Ys (lgt .str x16 (Int.toNat x18)) Zr (Qg .i64 100 x18) 1 901).2).2).1,())))],([1],([2,3],((done (Qh (Qh (QM Qb ([3,3,4])) 3) 2) 3),())))))))))]) 144)=cq3
   try generalize ((Xk (Qh (Qh (QM Qb ([3,3,4])) 3) 2) 3))=cq4
   try generalize ((Xk (Qh (QM Qb ([3,3,4])) 3) 2))=cq5
   try generalize (cIx ([[10,8,2],[8,2],[2,10,8,3]]) (Qn (QM Qb ([3,3,4])) 3))=cq6
   try generalize ((Jf (QM Qb ([3,3,4])) 3))=cq7
   try generalize ((YB Qb ([3,3,4])))=cq8
   try generalize (cIx x16 x18)=cq9
   simp only [brN,Wt,Bool.and_assoc,Bool.and_comm,Bool.and_left_comm,B3,Bool.and_self_left,Fv,Iu,Iv,Iw,Ix]
   try rfl))
def Qes (x4:List ByteArray)(x8 x65 x66 x70 x71:Int)(y2:Estate)(Qi:List Endpoint)(Qp:List Keep)(Qj:List Item)(Qb:Dice):OX:=Qv (QB Uc Qlf Qxa) (Qxe x4 x8 x65 x66 x70 x71 y2 Qi Qp Qj Qb)
def Vk (kk:List ByteArray->Int->Int->Int->Int->Int->Estate->List Endpoint->List Keep->List Item->Dice->OX)(x4:List ByteArray)(x8 x65 x66 x70 x71:Int)(y2:Estate)(Qi:List Endpoint)(Qp:List Keep)(Qj:List Item)(Qb:Dice):OX:=
 let a1:=Qg .i64 x71 1
 let a2:=Qh Qb 3
 br (ilt x71 x70) (br (ine x8 x71) (br (Jf Qb 3) (br (igt (Qn Qb 3) 0) (br (ilt (Qa Qp) 3) (br (QJ Qp ([(x8,(x71,()))]) 16) (kk x4 x8 x65 x66 x70 a1 y2 Qi (Qp++([(x8,(x71,()))])) Qj a2) none) (kk x4 x8 x65 x66 x70 a1 y2 Qi Qp Qj a2)) (kk x4 x8 x65 x66 x70 a1 y2 Qi Qp Qj a2)) none) (kk x4 x8 x65 x66 x70 a1 y2 Qi Qp Qj Qb)) (some (.exit 4,Vi x4 x65 x66 y2 Qi Qp Qj Qb))
def GS (x4:List ByteArray)(x8 x65 x66 x70 x71:Int)(y2:Estate)(Qi:List Endpoint)(Qp:List Keep)(Qj:List Item)(Qb:Dice):OX:=
 let a1:=edZ (x70-x71).toNat x8 x71 Qp Qb
 some (.exit 4,Vi (x4) (x65) (x66) (y2) (Qi) (a1.1) (Qj) (a1.2))
theorem Qxh (x4:List ByteArray)(x8 x65 x66 x70 x71:Int)(y2:Estate)(Qi:List Endpoint)(Qp:List Keep)(Qj:List Item)(Qb:Dice):Qes x4 x8 x65 x66 x70 x71 y2 Qi Qp Qj Qb=Vk Qes x4 x8 x65 x66 x70 x71 y2 Qi Qp Qj Qb:=lnT (x:=Vk (fun x4 x8 x65 x66 x70 x71 y2 Qi Qp Qj Qb=>some (.normal,Qxe x4 x8 x65 x66 x70 x71 y2 Qi Qp Qj Qb)) x4 x8 x65 x66 x70 x71 y2 Qi Qp Qj Qb) (by simp only [Vk,nxA];rfl)
def Qet (x4:List ByteArray)(x65 x66:Int)(y2:Estate)(Qi:List Endpoint)(Qp:List Keep)(Qj:List Item)(Qb:Dice):OX:=Qv (QB Uc Qlg Qxb) (Vi x4 x65 x66 y2 Qi Qp Qj Qb)
def Vl (kk:List ByteArray->Int->Int->Estate->List Endpoint->List Keep->List Item->Dice->OX)(x4:List ByteArray)(x65 x66:Int)(y2:Estate)(Qi:List Endpoint)(Qp:List Keep)(Qj:List Item)(Qb:Dice):OX:=
 let a1:=(edZ ((Qa x4)-(0:Int)).toNat x66 (0:Int) Qp Qb)
 br (ilt x66 x65) (br (dOk Qb&&decide (0<=(0:Int)/\(0:Int)<=(Qa x4)/\(Qa x4)<=3/\Qp.length<=3)) (kk (x4) (x65) (Qg .i64 (x66) 1) (y2) (Qi) (a1.1) (Qj) (a1.2)) none) (some (.exit 2,Qlj y2 Qi Qp Qj Qb))
def Qeu (x4:List ByteArray)(x65 x66:Int)(y2:Estate)(Qi:List Endpoint)(Qp:List Keep)(Qj:List Item)(Qb:Dice):OX:=
 let a1:=edY (x65-x66).toNat x4.length x66 Qp Qb
 some (.exit 2,Qlj (y2) (Qi) (a1.1) (Qj) (a1.2))
theorem Qxi (x4:List ByteArray)(x65 x66:Int)(y2:Estate)(Qi:List Endpoint)(Qp:List Keep)(Qj:List Item)(Qb:Dice):Qet x4 x65 x66 y2 Qi Qp Qj Qb=Vl Qet x4 x65 x66 y2 Qi Qp Qj Qb:=lnT (x:=Vl (fun x4 x65 x66 y2 Qi Qp Qj Qb=>some (.normal,Vi x4 x65 x66 y2 Qi Qp Qj Qb)) x4 x65 x66 y2 Qi Qp Qj Qb) (by simp only [Vl,nxA];rfl)
def Qev (x10:Int)(y2:Estate)(y3_1:List Keep)(Qi:List Endpoint)(Qj:List Item)(Qb:Dice):OX:=Qv (QB Uc Qlh Qxc) (Qxf x10 y2 y3_1 Qi Qj Qb)
def Vm (kk:Int->Estate->List Keep->List Endpoint->List Item->Dice->OX)(x10:Int)(y2:Estate)(y3_1:List Keep)(Qi:List Endpoint)(Qj:List Item)(Qb:Dice):OX:=
 let a2:=(ByteArray.mk #[98,97,99,107,117,112])
 let a3:=(ByteArray.mk #[100,101,101,100])
 let a5:=(WT Qb ([a2,a3]))
 let a6:=(Xc Qb ([a2,a3]))
 let a1:=Oy a5 a6
 let a4:=((a1.2).1,(((a1.2).2).1,((((a1.2).2).2).1,(((((a1.2).2).2).2).1,()))))
 br (igt x10 0) (br (F1 Qb ([a2,a3])) (br (QcY a5 a6) (br (QJ Qj ([(a1.1,a4)]) 64) (kk (Jc .i64 x10 1) y2 y3_1 Qi (Qj++([(a1.1,a4)])) (Gw a5 a6)) none) none) none) (some (.exit 6,Qlk y2 y3_1 Qi Qj Qb))
def Qew (x10:Int)(y2:Estate)(y3_1:List Keep)(Qi:List Endpoint)(Qj:List Item)(Qb:Dice):OX:=some (.exit 6,Qlk (y2) (y3_1) (Qi) (Qj++(itZ x10.toNat Qb).1) ((itZ x10.toNat Qb).2))
theorem Qxj (x10:Int)(y2:Estate)(y3_1:List Keep)(Qi:List Endpoint)(Qj:List Item)(Qb:Dice):Qev x10 y2 y3_1 Qi Qj Qb=Vm Qev x10 y2 y3_1 Qi Qj Qb:=lnT (x:=Vm (fun x10 y2 y3_1 Qi Qj Qb=>some (.normal,Qxf x10 y2 y3_1 Qi Qj Qb)) x10 y2 y3_1 Qi Qj Qb) (by simp only [Vm,nxA];rfl)
def r_f20 (d0:Dice):OV:=
 let a6:=(ByteArray.mk #[97,112,112])
 let a8:=(ByteArray.mk #[100,98])
 let a7:=(ByteArray.mk #[119,101,98])
 let a2:=(lsl ([a6,a8,a7]) 0 (Qg .i64 2 (Qn d0 2)))
 let a5:=(ZJ (a2.drop (0:Int).toNat) (0:Int).toNat (Qh d0 2))
 let a1:=(edY ((Qa a2)-(0:Int)).toNat a2.length (0:Int) ([]:List Keep) (a5.2))
 let a3:=(dOk (Qh (a1.2) 3)&&decide (0<=(Qn (a1.2) 3)/\(Qn (a1.2) 3)<=3/\([]:List Item).length+(Qn (a1.2) 3).toNat<=100))
 let a4:=itZ (Qn (a1.2) 3).toNat (Qh (a1.2) 3)
 br (Jf d0 2) (br (cSl ([a6,a8,a7]) 0 (Qg .i64 2 (Qn d0 2)) ((List.length ([a6,a8,a7]):Nat):Int)) (br (Qt a2 (Qa a2) (0:Int)&&(dOk (Qh d0 2)&&(decide (([]:List Endpoint).length<=(0:Int))&&a2.all nm1))) (br (dOk (a5.2)&&decide (0<=(0:Int)/\(0:Int)<=(Qa a2)/\(Qa a2)<=3/\a2.length<=3/\([]:List Keep).length<=3)) (br (ieq (Qa (a1.1)) 0) (br (Jf (a1.2) 3) (br a3 (some (.t QE ((([]:List Endpoint)++a5.1),(([(0,(1,()))]),((([]:List Item)++a4.1),()))),[.box (.t Q1 (a4.2))])) none) none) (br (Jf (a1.2) 3) (br a3 (some (.t QE ((([]:List Endpoint)++a5.1),((a1.1),((([]:List Item)++a4.1),()))),[.box (.t Q1 (a4.2))])) none) none)) none) none) none) none
theorem QJA (x4 x16:List ByteArray)(x17 x18:Int)(y2:Estate)(Qi:List Endpoint)(Qp:List Keep)(Qj:List Item)(Qb:Dice)(h:(Qt x16 x17 x18&&(dOk Qb&&(decide (Qi.length<=x18)&&x16.all nm1)))=true):Vj x4 x16 x17 x18 y2 Qi Qp Qj Qb=GR x4 x16 x17 x18 y2 Qi Qp Qj Qb:=by
 simp only [Bc,Ba] at h
 obtain ⟨h0,hd,hl,ha⟩:=h
 obtain ⟨rfl,h3,k,rfl,hk⟩:=Jy h0
 clear h0
 revert Qi Qb
 refine QR x16 (fun k=> ∀ (Qi:List Endpoint) (Qb:Dice),dOk Qb=true->(Qi.length:Int)<=(k:Int)->Vj x4 x16 (x16.length:Int) (k:Int) y2 Qi Qp Qj Qb=GR x4 x16 (x16.length:Int) (k:Int) y2 Qi Qp Qj Qb) ?_ ?_ k hk
 ·intro Qi Qb _ _
  rw [Qxg]
  simp only [EJ,GQ,EH,EI,Wt,GR,QC,BV,B2,Qf,Bd,BQ,ZJ,BO]
 ·intro k hk ih Qi Qb hd hl
  rw [Qxg]
  have c1:YB Qb [3,3,4]=true:=QDP hd (by decide) (by decide)
  have d1:=Ic (l:=[3,3,4]) hd
  have c2:Jf (QM Qb [3,3,4]) 3=true:=I5 d1 (by omega)
  have d2:=JA (n:=3) d1
  have c3:Xk (Qh (QM Qb [3,3,4]) 3) 2=true:=QrG d2 (by omega) (by omega)
  have c4:Xk (Qh (Qh (QM Qb [3,3,4]) 3) 2) 3=true:=QrG (JA d2) (by omega) (by omega)
  have b3:=Zz (d:=QM Qb [3,3,4]) (n:=3) (by omega)
  have c5:cIx ([[10,8,2],[8,2],[2,10,8,3]]:List (List Int)) (Qn (QM Qb [3,3,4]) 3)=true:=Be ⟨b3.1,b3.2⟩
  have c6:OC x16[k] Zr (Qg .i64 100 (k:Int)) 1 901=true:=Bg.1 ha _ (Bw hk)
  have c7: ∀ v,QJ Qi [v] 144=true:=fun v=>Ji (by omega) (by simp only [Bp];omega)
  have b4: ∀ q,(lgt (.sl tI) [[10,8,2],[8,2],[2,10,8,3]] q).length<=4:=fun q=>QDR (by simp) q
  have c8:QJ ([14]:List Int) (lgt (.sl tI) [[10,8,2],[8,2],[2,10,8,3]] (Qn (QM Qb [3,3,4]) 3).toNat) 8=true:=Ji (by decide) (by have:=b4 (Qn (QM Qb [3,3,4]) 3).toNat;simp only [Bp];omega)
  simp only [EJ,GQ,EH,EI,Wt,QC,QI,hk,Bv,Qc,Bd,QQ (show k<4611686018427387904 by omega),QP (y:= .str) hk,c1,c2,c3,c4,c6,c7,Wt]
  have hi: ∀ v,Vj x4 x16 (x16.length:Int) ((k+1:Nat):Int) y2 (Qi++[v]) Qp Qj (Ub Qb)=GR x4 x16 (x16.length:Int) ((k+1:Nat):Int) y2 (Qi++[v]) Qp Qj (Ub Qb):=fun v=>ih _ _ (Qw5 hd) (by simp only [Bl,Bp];omega)
  have goal2:GR x4 x16 (x16.length:Int) ((k+1:Nat):Int) y2 (Qi++[ZI Qb k x16[k]]) Qp Qj (Ub Qb)=GR x4 x16 (x16.length:Int) (k:Int) y2 Qi Qp Qj Qb:=by
   simp only [GR,Bd,Bj hk,ZJ,BR,BN]
  refine Eq.trans ?_ ((hi _).trans goal2)
  unfold ZI YS
  refine brY c5 ?_
  cases ieq (dof Qb [3,3,4]) 4 with
  |false=>rfl
  |true=>exact brY rfl (brY c8 rfl)
theorem QJB (x4:List ByteArray)(x8 x65 x66 x70 x71:Int)(y2:Estate)(Qi:List Endpoint)(Qp:List Keep)(Qj:List Item)(Qb:Dice)(h:(dOk Qb&&decide (0<=x71/\x71<=x70/\x70<=3/\Qp.length<=3))=true):Qes x4 x8 x65 x66 x70 x71 y2 Qi Qp Qj Qb=GS x4 x8 x65 x66 x70 x71 y2 Qi Qp Qj Qb:=by
 simp only [Bc,Ba] at h
 obtain ⟨hd,h0,h1,h2,hl⟩:=h
 have key: ∀ (m:Nat) (x71:Int) (Qp:List Keep) (Qb:Dice),x71+m=x70->0<=x71->dOk Qb=true->Qp.length<=3->Qes x4 x8 x65 x66 x70 x71 y2 Qi Qp Qj Qb=GS x4 x8 x65 x66 x70 x71 y2 Qi Qp Qj Qb:=by
  intro m
  induction m with
  |zero=>
   intro x71 Qp Qb e _ _ _
   rw [Qxh]
   have:x70=x71:=by omega
   subst this
   simp only [Vk,GS,show ilt x70 x70=false from Bn (by omega),Qf,Int.sub_self,Bu,edZ]
  |succ m ih=>
   intro x71 Qp Qb e h0 hd hl
   rw [Qxh]
   have c1:Jf Qb 3=true:=I5 hd (by omega)
   have c2:QJ Qp [(x8,(x71,()))] 16=true:=Ji (by omega) (by simp only [Bp];omega)
   have e1:Qg .i64 x71 1=x71+1:=J5 (by omega)
   have e2:(x70-x71).toNat=m+1:=by omega
   have e3:(x70-(x71+1)).toNat=m:=by omega
   simp only [Vk,show ilt x71 x70=true from Be (by omega),Qc,c1,c2,e1]
   have i0:=ih (x71+1) Qp Qb (by omega) (by omega) hd hl
   have i1:=ih (x71+1) Qp (Qh Qb 3) (by omega) (by omega) (JA hd) hl
   rw [i0,i1]
   cases hn:ine x8 x71 with
   |false=>simp only [Qf,GS,e2,e3,edZ,hn,Di]
   |true=>
    cases hg:igt (Qn Qb 3) 0 with
    |false=>simp only [Qc,Qf,GS,e2,e3,edZ,hn,hg,Dl,DM,Di]
    |true=>
     cases hq:ilt (Qa Qp) 3 with
     |false=>simp only [Qc,Qf,GS,e2,e3,edZ,hn,hg,hq,Dl,DL,Di]
     |true=>
      have hl3:Qp.length<3:=by have:=Bx hq;simp only [Qa] at this;omega
      have i2:=ih (x71+1) (Qp++[(x8,(x71,()))]) (Qh Qb 3) (by omega) (by omega) (JA hd) (by simp only [Bl,Bp];omega)
      rw [i2]
      simp only [Qc,GS,e2,e3,edZ,hn,hg,hq,Dl,B3]
 exact key (x70-x71).toNat x71 Qp Qb (by omega) h0 hd hl
theorem QJC (x4:List ByteArray)(x65 x66:Int)(y2:Estate)(Qi:List Endpoint)(Qp:List Keep)(Qj:List Item)(Qb:Dice)(h:(dOk Qb&&decide (0<=x66/\x66<=x65/\x65<=3/\x4.length<=3/\Qp.length<=3))=true):Qet x4 x65 x66 y2 Qi Qp Qj Qb=Qeu x4 x65 x66 y2 Qi Qp Qj Qb:=by
 simp only [Bc,Ba] at h
 obtain ⟨hd,h0,h1,h2,h3,hl⟩:=h
 have key: ∀ (m:Nat) (x66:Int) (Qp:List Keep) (Qb:Dice),x66+m=x65->0<=x66->dOk Qb=true->Qp.length<=3->Qet x4 x65 x66 y2 Qi Qp Qj Qb=Qeu x4 x65 x66 y2 Qi Qp Qj Qb:=by
  intro m
  induction m with
  |zero=>
   intro x66 Qp Qb e _ _ _
   rw [Qxi]
   have:x65=x66:=by omega
   subst this
   simp only [Vl,Qeu,show ilt x65 x65=false from Bn (by omega),Qf,Int.sub_self,Bu,edY]
  |succ m ih=>
   intro x66 Qp Qb e h0 hd hl
   rw [Qxi]
   have e1:Qg .i64 x66 1=x66+1:=J5 (by omega)
   have e2:(x65-x66).toNat=m+1:=by omega
   have e3:(x65-(x66+1)).toNat=m:=by omega
   have e4:(Qa x4-0).toNat=x4.length:=by simp only [Qa];omega
   have hz:=EG x4.length x66 0 Qp Qb hd hl
   simp only [Vl,show ilt x66 x65=true from Be (by omega),Qc,e1,e4,hd,BE]
   refine brY (Be (by simp only [Qa];omega)) ?_
   rw [ih (x66+1) _ _ (by omega) (by omega) hz.1 hz.2]
   simp only [Qeu,e2,e3,edY]
 exact key (x65-x66).toNat x66 Qp Qb (by omega) h0 hd hl
theorem QJD (x10:Int)(y2:Estate)(y3_1:List Keep)(Qi:List Endpoint)(Qj:List Item)(Qb:Dice)(h:(dOk Qb&&decide (0<=x10/\x10<=3/\Qj.length+x10.toNat<=100))=true):Qev x10 y2 y3_1 Qi Qj Qb=Qew x10 y2 y3_1 Qi Qj Qb:=by
 simp only [Bc,Ba] at h
 obtain ⟨hd,h0,h1,hl⟩:=h
 obtain ⟨n,rfl⟩:=Bq h0
 rw [Bd] at hl
 have key: ∀ (n:Nat) (Qj:List Item) (Qb:Dice),dOk Qb=true->Qj.length+n<=100->Qev (n:Int) y2 y3_1 Qi Qj Qb=Qew (n:Int) y2 y3_1 Qi Qj Qb:=by
  intro n
  induction n with
  |zero=>
   intro Qj Qb _ _
   rw [Qxj]
   simp only [Vm,Qew,show igt ((0:Nat):Int) 0=false from rfl,Qf,Bd,itZ,BO]
  |succ n ih=>
   intro Qj Qb hd hl
   rw [Qxj]
   have e2:Jc .i64 ((n+1:Nat):Int) 1=(n:Int):=(XG (by omega)).trans (by omega)
   have c1:F1 Qb sIt=true:=by simp [F1,hd]
   have c2:QcY (WT Qb sIt) (Xc Qb sIt)=true:=Qw8 hd
   have c3: ∀ v,QJ Qj [v] 64=true:=fun v=>Ji (by omega) (by simp only [Bp];omega)
   simp only [Vm,show igt ((n+1:Nat):Int) 0=true from Be (by omega),Qc,e2,c1,c2,c3]
   refine Eq.trans (ih _ _ (QGc (s:=Xc Qb sIt) (Qw8 hd)) (by simp only [Bl,Bp];omega)) ?_
   simp only [Qew,Bd,itZ,BR,BN]
 exact key n Qj Qb hd (by omega)
theorem QJE:LO Uc Qle Qw9 0:=QH (s:=Qeo) fun x y h _ q=>by simp only [QF,QG] at q;exact (QJA x.2.2.2.1 x.2.2.2.2.1 x.2.2.2.2.2.1 x.2.2.2.2.2.2.1 y.1 y.2.2.2.2.2.2.1 y.2.2.2.2.2.2.2.1 y.2.2.2.2.2.2.2.2.1 y.2.2.2.2.2.2.2.2.2.1 h).trans q
theorem QJF:LO Uc Qlf Qxa 1:=QH (s:=Qep) fun x y h _ q=>by simp only [QF,QG] at q;exact (QJB x.2.2.2.1 x.2.2.2.2.1 x.2.2.2.2.2.1 x.2.2.2.2.2.2.1 x.2.2.2.2.2.2.2.1 x.2.2.2.2.2.2.2.2.1 y.1 y.2.2.2.2.2.2.1 y.2.2.2.2.2.2.2.1 y.2.2.2.2.2.2.2.2.1 y.2.2.2.2.2.2.2.2.2.1 h).trans q
theorem QJG:LO Uc Qlg Qxb 2:=QH (s:=Qeq) fun x y h _ q=>by simp only [QF,QG] at q;exact (QJC x.2.2.2.1 x.2.2.2.2.1 x.2.2.2.2.2.1 y.1 y.2.2.2.2.2.2.1 y.2.2.2.2.2.2.2.1 y.2.2.2.2.2.2.2.2.1 y.2.2.2.2.2.2.2.2.2.1 h).trans q
theorem QJH:LO Uc Qlh Qxc 3:=QH (s:=Qer) fun x y h _ q=>by simp only [QF,QG] at q;exact (QJD x.2.2.2.1 y.1 y.2.1.2.1 y.2.2.2.2.2.2.1 y.2.2.2.2.2.2.2.2.1 y.2.2.2.2.2.2.2.2.2.1 h).trans q
set_option maxRecDepth 100000 in
theorem s_f20 (d:Dice)(h:dOk d=true):r_f20 d=some (.t QE (Qx d),[.box (.t Q1 (sndN d))]):=by
 have hv:=Zz (d:=d) (n:=2) (by omega)
 have e:Qg .i64 2 (Qn d 2)=2+Qn d 2:=J5 (by omega)
 have c1:Jf d 2=true:=I5 h (by omega)
 have hn:=Vg d
 have hd:=JA (n:=2) h
 have hz:=Qw6 (JN d) 0 (Qh d 2) hd
 have hy:=Qw7 (JN d).length (JN d).length 0 [] _ hz (B4 _)
 have hy1:dOk (Zb d).2=true:=hy.1
 have hv3:=Zz (d:=(Zb d).2) (n:=3) (by omega)
 simp only [r_f20,show lsl Ww 0 (Qg .i64 2 (Qn d 2))=JN d from rfl,BT,Bu,BA,Int.sub_zero,show (Qa (JN d)).toNat=(JN d).length by simp only [Qa];omega]
 simp only [show edY (JN d).length (JN d).length 0 [] (ZJ (JN d) 0 (Qh d 2)).2=Zb d from rfl]
 refine brY c1 (brY (Be (by rw [e];refine ⟨by omega,by omega, ?_, ?_⟩<;>simp<;>omega)) (brY ?_ (brY ?_ ?_)))
 ·rw [Jz (by omega),hd,hn.2.2]
  rfl
 ·rw [hz]
  exact Be (by simp only [Qa,BD];omega)
 ·have c2:Jf (Zb d).2 3=true:=I5 hy1 (by omega)
  have c3:(dOk (Qh (Zb d).2 3)&&decide (0<=Qn (Zb d).2 3/\Qn (Zb d).2 3<=3/\([]:List Item).length+(Qn (Zb d).2 3).toNat<=100))=true:=by
   rw [JA hy1,Be (by simp only [BD];omega)]
   rfl
  cases hq:ieq (Qa (Zb d).1) 0 with
  |true=>
   rw [Qc]
   refine brY c2 (brY c3 ?_)
   unfold Qx GP
   rw [hq]
   rfl
  |false=>
   rw [Qf]
   refine brY c2 (brY c3 ?_)
   unfold Qx GP
   rw [hq]
   rfl
def Qxk:Ent:=Uq Q1 .nil (fun d x=>(dOk d)) (fun d x=>(.t QE (Qx d))) (fun d x=>(sndN d))
theorem ms_f20:EM 20 Qxk:=mS (lk:=lkL (lkc QJE (lkc QJG (lkc QJF (lkc QJH lkn))))) Uc Vh [((.c 2 true 3),some QE)] false (ZW _ (gA (gD Ib (gD Qnh (gD ms_f37 (gD ms_f38 (gD ms_f39 (gD ms_f40 (gD ms_f41 gN))))))))) fun m=>Fs m rfl fun d x hok=>kT (s_f20 d hok)
end
end Go.Proofs.YtmjnnemhoeolgaaGreat.K
noncomputable section
namespace Go.Proofs.YtmjnnemhoeolgaaGreat.K.PE
open Go.RowKit
noncomputable section
abbrev mAll:List ByteArray:=[(ByteArray.mk #[97,112,112]),(ByteArray.mk #[100,98]),(ByteArray.mk #[109,97,105,108]),(ByteArray.mk #[119,101,98])]
def mkZ:List ByteArray->Dice->List Endpoint×Dice
 | [],d=>([],d)
 |s::r,d=>(epV d s::(mkZ r (epN d s)).1,(mkZ r (epN d s)).2)
def edM:Nat->Int->Int->List Keep->Dice->List Keep×Dice
 |0,_,_,l,d=>(l,d)
 |m+1,i,k,l,d=>bif ine i k then (bif ieq (Qn d 3) 0 then edM m i (k+1) (l++[(i,(k,()))]) (Qh d 3) else edM m i (k+1) l (Qh d 3)) else edM m i (k+1) l d
def edN:Nat->Nat->Int->List Keep->Dice->List Keep×Dice
 |0,_,_,l,d=>(l,d)
 |m+1,n,i,l,d=>edN m n (i+1) (edM n i 0 l d).1 (edM n i 0 l d).2
def QhI (d:Dice):List ByteArray:=lsl mAll 0 (Qg .i64 2 (Qn d 3))
def mkEd (d:Dice):List Keep×Dice:=edN (QhI d).length (QhI d).length 0 [] (mkZ (QhI d) (Qh d 3)).2
def Fa (d:Dice):List Item×Dice:=itZ (Qn (mkEd d).2 3).toNat (Qh (mkEd d).2 3)
-- loop 0: (x4 : (List ByteArray)) (x5 : Int) (y2 : Estate) (Qi : (List Endpoint)) (Qp : (List Keep)) (Qj : (List Item)) (Qb : Dice); out: ('exit', 0) (x4 : (List ByteArray)) (y2 : Estate) (Qi : (List Endpoint)) (Qp : (List Keep)) (Qj : (List Item)) (Qb : Dice)
-- loop 1: (x4 : (List ByteArray)) (x6 : Int) (x7 : Int) (y2 : Estate) (Qi : (List Endpoint)) (Qp : (List Keep)) (Qj : (List Item)) (Qb : Dice); out: ('exit', 4) (x4 : (List ByteArray)) (x6 : Int) (y2 : Estate) (Qi : (List Endpoint)) (Qp : (List Keep)) (Qj : (List Item)) (Qb : Dice)
-- loop 2: (x4 : (List ByteArray)) (x6 : Int) (y2 : Estate) (Qi : (List Endpoint)) (Qp : (List Keep)) (Qj : (List Item)) (Qb : Dice); out: ('exit', 2) (y2 : Estate) (Qi : (List Endpoint)) (Qp : (List Keep)) (Qj : (List Item)) (Qb : Dice)
-- loop 3: (x8 : Int) (y2 : Estate) (Qi : (List Endpoint)) (Qp : (List Keep)) (Qj : (List Item)) (Qb : Dice); out: ('exit', 6) (y2 : Estate) (Qi : (List Endpoint)) (Qp : (List Keep)) (Qj : (List Item)) (Qb : Dice)
end
end Go.Proofs.YtmjnnemhoeolgaaGreat.K.PE
noncomputable section
namespace Go.Proofs.YtmjnnemhoeolgaaGreat.K
open Go.RowKit
abbrev YU (s:ByteArray)(k:Nat):Certificate:=(Wy (leafC s Zr (Qg .i64 100 (k:Int)) 901) 1).1
def VE (s:ByteArray)(k:Nat):Bool:=
 JM (YU s k)&&(QN (YU s k)&&(EY Zr (Qg .i64 100 (k:Int)) [YU s k]&&(JY (Qg .i64 100 (k:Int))&&(hasS (Qr (YU s k)) s&&(!Qgd [YU s k] 11&&(!Qgd [YU s k] 15&&(!Qgd [YU s k] 10&&(ieq (Wr (YU s k)).1 1&&(ieq (YU s k).2.2.2.2.2.2.1 0&&(ieq (YU s k).2.2.2.2.2.2.2.1 901&&(ieq (YU s k).2.2.2.2.2.1.1 3&&(XH s&&Ja s))))))))))))
set_option maxRecDepth 100000 in
theorem QKF:(Ww.all fun s=>(List.range 3).all fun k=>VE s k)=true:=by kernel_rfl
theorem QlS {s:ByteArray}{k:Nat}(hs:s∈Ww)(hk:k<3):VE s k=true:=
 Bg.1 (Bg.1 QKF s hs) k (Dd.2 hk)
def JC (e:Endpoint):Prop:= ∃ d k s,e=ZI d k s/\s∈Ww/\k<3
theorem Qyt:Z6 Zr 2=true:=by kernel_rfl
theorem Qe4 (d:Dice):dof d [3,3,4]=3∨dof d [3,3,4]=4:=by
 have h:=Id (d:=d) (l:=[3,3,4]) (by decide)
 simp only [BY,Dk,or_false] at h
 omega
def Qe5 (l:List Int):Bool:=decide l.Nodup&&l.all fun x=>decide (1<=x/\x<=16)
theorem Qyu {l:List Int}(h:Qe5 l=true):goodS l:=by
 simp only [Qe5,Bc,Ba,Bg] at h
 exact h
theorem QKG (d:Dice):YS d∈[[10,8,2],[8,2],[2,10,8,3],[14,10,8,2],[14,8,2],([14,2,10,8,3]:List Int)]:=by
 have b3:=Zz (d:=QM d [3,3,4]) (n:=3) (by omega)
 unfold YS
 rcases (show Qn (QM d [3,3,4]) 3=0∨Qn (QM d [3,3,4]) 3=1∨Qn (QM d [3,3,4]) 3=2 by omega) with h|h|h<;>rw [h]<;>cases ieq (dof d [3,3,4]) 4<;>decide
theorem Uh {p:List Int->Bool}(h:[[10,8,2],[8,2],[2,10,8,3],[14,10,8,2],[14,8,2],([14,2,10,8,3]:List Int)].all p=true)(d:Dice):p (YS d)=true:=Bg.1 h _ (QKG d)
theorem QlT {e:Endpoint}(h:JC e):QU e=true:=by
 obtain ⟨d,k,s,rfl,hs,hk⟩:=h
 have hg:=QlS hs hk
 simp only [VE,Bc] at hg
 have hsu:(YS d).length<=5:=Bx (Uh (p:=fun l=>decide (l.length<=5)) (by decide) d)
 have hc:Js [YU s k]=true:=by
  simp only [Js,BU,Dw,hg.1,B6]
  rfl
 unfold QU
 simp only [Bc,Ba]
 refine ⟨⟨hg.2.2.2.2.2.2.2.2.2.2.2.2.2,⟨?_, ?_, ?_, ?_⟩⟩, ?_⟩
 ·show (YS d).length<=100000
  omega
 ·exact (show 1<=100000 by decide)
 ·exact (show 1<=100000 by decide)
 ·exact (show 2<=100000 by decide)
 ·show (Jm (Ys s Zr (Qg .i64 100 (k:Int)) 1 901)&&true)=true
  rw [B6]
  exact hc
theorem GZ {e:Endpoint}(h:JC e):QT e=true:=by
 obtain ⟨d,k,s,rfl,hs,hk⟩:=h
 have hg:=QlS hs hk
 simp only [VE,Bc] at hg
 have hm:=Qe4 d
 refine QrI (e:=ZI d k s) hg.2.2.2.2.2.2.2.2.2.2.2.2.1 (BX _) ?_ ?_ (Qyu (Uh (p:=Qe5) (by decide) d)) (show 1<=4 by decide) ?_ (show Qb1 [1]=true by decide) (show Qb2 [2,3]=true by kernel_rfl)
 ·show (1:Int)<=dof d [3,3,4]
  omega
 ·show dof d [3,3,4]<=4
  omega
 ·show (Xv (Ys s Zr (Qg .i64 100 (k:Int)) 1 901)&&true)=true
  rw [B6]
  refine QrH Qyt hg.2.2.2.1 (show 1<=8 by decide) ?_ hg.2.2.1
  show (QN (YU s k)&&true)=true
  rw [hg.2.1]
  rfl
theorem QKH {c e:Endpoint}(hc:JC c)(he:JC e){x:Int}(hx:x=2∨x=8):Z2 e (Qu c) 3 x=true/\loC c e<=3/\3<=hiC c e:=by
 obtain ⟨d,k,s,rfl,hs,hk⟩:=he
 obtain ⟨dc,kc,sc,rfl,_,_⟩:=hc
 have m1:=Qe4 d
 have m2:=Qe4 dc
 refine ⟨?_, ?_, ?_⟩
 ·have h1: ∀ dd,QO (YS dd) 2=true/\QO (YS dd) 8=true:=fun dd=>⟨Uh (p:=fun l=>QO l 2) (by decide) dd,Uh (p:=fun l=>QO l 8) (by decide) dd⟩
  have h2:Qu (ZI dc kc sc)=YS dc:=rfl
  have h3:Qu (ZI d k s)=YS d:=rfl
  unfold Z2
  rw [h2,h3]
  rcases hx with rfl|rfl
  ·rw [(h1 d).1,(h1 dc).1]
   rfl
  ·rw [(h1 d).2,(h1 dc).2]
   rfl
 ·show imx 1 1<=3
  decide
 ·show 3<=imn (dof dc [3,3,4]) (dof d [3,3,4])
  unfold imn
  split<;>omega
theorem Qyv: ∀ (l:List ByteArray) (k:Nat) (d:Dice),(ZJ l k d).1.length=l.length
 | [],_,_=>rfl
 |_::r,k,d=>by simp only [ZJ,Bt,Qyv r (k+1) (Ub d)]
theorem Qyw: ∀ (l:List ByteArray) (k:Nat) (d:Dice),(∀ s∈l,s∈Ww)->k+l.length<=3→ ∀ e∈(ZJ l k d).1,JC e
 | [],_,_,_,_,e,he=>by cases he
 |s::r,k,d,h,hk,e,he=>by
  simp only [ZJ,BY] at he
  simp only [Bt] at hk
  rcases he with rfl|he
  ·exact ⟨d,k,s,rfl,h s Dh,by omega⟩
  ·exact Qyw r (k+1) (Ub d) (fun s hs=>h s (B1 _ hs)) (by omega) e he
theorem QKI (d:Dice): ∀ s∈JN d,s∈Ww:=by
 rcases Qld d with h|h<;>rw [h]
 ·exact fun s hs=>DQ hs
 ·exact fun s hs=>hs
theorem QlU (d:Dice): ∀ e∈Qw (Qx d),JC e:=Qyw (JN d) 0 (Qh d 2) (QKI d) (by have:=Vg d;omega)
theorem QlV (d:Dice):(Qw (Qx d)).length=(JN d).length:=Qyv _ _ _
theorem snd_up (d:Dice):Wx (Qw (Qx d)) 0=true:=by
 have hv: ∀ d k s,s∈Ww->k<3->QT (ZI d k s)=true:=fun d k s hs hk=>GZ ⟨d,k,s,rfl,hs,hk⟩
 have q1:slt (ByteArray.mk #[97,112,112]) (ByteArray.mk #[100,98])=true:=by kernel_rfl
 have q2:slt (ByteArray.mk #[100,98]) (ByteArray.mk #[119,101,98])=true:=by kernel_rfl
 show Yl (ZJ (JN d) 0 (Qh d 2)).1 (ZJ (JN d) 0 (Qh d 2)).1 0=true
 rcases Qld d with h|h<;>rw [h]
 ·show (QT (ZI _ 0 _)&&true&&(QT (ZI _ 1 _)&&(false||slt (ByteArray.mk #[97,112,112]) (ByteArray.mk #[100,98]))&&true))=true
  rw [hv _ _ _ (by simp) (by decide),hv _ _ _ (by simp) (by decide),q1]
  rfl
 ·show (QT (ZI _ 0 _)&&true&&(QT (ZI _ 1 _)&&(false||slt (ByteArray.mk #[97,112,112]) (ByteArray.mk #[100,98]))&&(QT (ZI _ 2 _)&&(false||slt (ByteArray.mk #[100,98]) (ByteArray.mk #[119,101,98]))&&true)))=true
  rw [hv _ _ _ (by simp) (by decide),hv _ _ _ (by simp) (by decide),hv _ _ _ (by simp) (by decide),q1,q2]
  rfl
def Qe6 (a b:Keep):Prop:=a.1<b.1∨(a.1=b.1/\a.2.1<b.2.1)
def edG (n:Int)(l:List Keep)(i k:Int):Prop:=(∀ x∈l,GW n x=true)/\l.Pairwise Qe6∧ ∀ x∈l,Qe6 x (i,(k,()))
theorem Qe7 {n:Int}{l:List Keep}{i k i' k':Int}(h:edG n l i k)(hl:i<i'∨(i=i'/\k<=k')):edG n l i' k':=by
 refine ⟨h.1,h.2.1,fun x hx=> ?_⟩
 have:=h.2.2 x hx
 simp only [Qe6] at this ⊢
 omega
theorem Qe8 {n:Int}: ∀ (m:Nat) (i k:Int) (l:List Keep) (d:Dice),0<=i->i<n->0<=k->k+m<=n->edG n l i k->edG n (edZ m i k l d).1 i (k+m)
 |0,i,k,l,d,_,_,_,_,h=>Qe7 h (.inr ⟨rfl,by omega⟩)
 |m+1,i,k,l,d,h0,h1,h2,h3,h=>by
  have hs:edG n l i (k+1):=Qe7 h (.inr ⟨rfl,by omega⟩)
  have e:k+((m+1:Nat):Int)=k+1+m:=by omega
  unfold edZ
  rw [e]
  cases hn:ine i k with
  |false=>exact Qe8 m i (k+1) l d h0 h1 (by omega) (by omega) hs
  |true=>
   cases h4:(igt (Qn d 3) 0&&ilt (Qa l) 3) with
   |false=>exact Qe8 m i (k+1) l (Qh d 3) h0 h1 (by omega) (by omega) hs
   |true=>
    have hne:i≠k:=by simpa [ine] using hn
    refine Qe8 m i (k+1) (l++[(i,(k,()))]) (Qh d 3) h0 h1 (by omega) (by omega) ⟨fun x hx=> ?_, ?_,fun x hx=> ?_⟩
    ·rcases BC.1 hx with hx|hx
     ·exact h.1 x hx
     ·rw [Dq.1 hx]
      simp only [GW,ilt,ige,YA,Bc,Br,Bo]
      exact ⟨by omega,by omega,by omega,by omega,hne⟩
    ·rw [List.pairwise_append]
     refine ⟨h.2.1,List.pairwise_singleton _ _,fun x hx y hy=> ?_⟩
     rw [Dq.1 hy]
     exact h.2.2 x hx
    ·rcases BC.1 hx with hx|hx
     ·exact hs.2.2 x hx
     ·rw [Dq.1 hx]
      exact .inr ⟨rfl,by show k<k+1;omega⟩
theorem Qyx {n:Int}: ∀ (m nn:Nat) (i:Int) (l:List Keep) (d:Dice),(nn:Int)<=n->0<=i->i+m<=n->edG n l i 0->edG n (edY m nn i l d).1 (i+m) 0
 |0,nn,i,l,d,_,_,_,h=>Qe7 h (by omega)
 |m+1,nn,i,l,d,hnn,h0,h1,h=>by
  have:=Qe8 nn i 0 l d h0 (by omega) (by omega) (by omega) h
  have e:i+((m+1:Nat):Int)=i+1+m:=by omega
  unfold edY
  rw [e]
  exact Qyx m nn (i+1) _ _ hnn (by omega) (by omega) (Qe7 this (.inl (by omega)))
theorem Qyy {n i k:Int}{l:List Keep}(h:edG n l i k):J4 n l 0=true:=by
 unfold J4
 rw [Bg]
 intro j hj
 have hj:j<l.length:=by
  rw [List.mem_range'] at hj
  obtain ⟨a,ha,rfl⟩:=hj
  omega
 have at_: ∀ q (hq:q<l.length),Jn l q=l[q]:=fun q hq=>by simp only [Jn,Bk,Bf hq,BI]
 unfold EP
 rw [at_ j hj,h.1 _ (Bw hj),BE]
 by_cases h0:j=0
 ·rw [Be h0,Bool.true_or]
 ·rw [Bn h0,Df,at_ (j-1) (by omega)]
  have hp:=List.pairwise_iff_getElem.1 h.2.1 (j-1) j (by omega) hj (by omega)
  simp only [Qe6] at hp
  simp only [egLt,igt,ige,YA,Bc,Br,Bo,Bool.and_eq_false_imp,Ba]
  refine ⟨by omega,fun he=>by omega⟩
theorem Qe9 (d:Dice):J4 (Qa (Qw (Qx d))) (QL (Qx d)) 0=true/\(QL (Qx d)).length<=3/\0<(QL (Qx d)).length:=by
 have hn:=Vg d
 have hl:Qa (Qw (Qx d))=((JN d).length:Int):=by rw [Qa,QlV]
 rw [hl]
 show J4 _ (GP d) 0=true/\(GP d).length<=3/\0<(GP d).length
 unfold GP
 cases hq:ieq (Qa (Zb d).1) 0 with
 |true=>
  refine ⟨?_,(show 1<=3 by decide),(show 0<1 by decide)⟩
  show J4 _ [(0,(1,()))] 0=true
  refine Qyy (i:=5) (k:=5) ⟨fun x hx=> ?_,List.pairwise_singleton _ _,fun x hx=> ?_⟩<;>rw [Dq.1 hx]
  ·simp only [GW,ilt,ige,YA,Bc,Br,Bo]
   exact ⟨by omega,by omega,by omega,by omega,by omega⟩
  ·exact .inl (by decide)
 |false=>
  have hy:=Qyx (n:=((JN d).length:Int)) (JN d).length (JN d).length 0 [] (ZJ (JN d) 0 (Qh d 2)).2 (BX _) (BX _) (by omega) (⟨fun x hx=>(nomatch hx),List.Pairwise.nil,fun x hx=>(nomatch hx)⟩:edG _ [] 0 0)
  refine ⟨Qyy hy, ?_, ?_⟩
  ·have hp: ∀ (m:Nat) (i k:Int) (l:List Keep) (d:Dice),l.length<=3->(edZ m i k l d).1.length<=3:=by
    intro m
    induction m with
    |zero=>exact fun _ _ _ _ h=>h
    |succ m ih=>
     intro i k l d h
     unfold edZ
     cases ine i k with
     |false=>exact ih _ _ _ _ h
     |true=>
      cases h1:igt (Qn d 3) 0 with
      |false=>exact ih _ _ _ _ h
      |true=>
       cases h2:ilt (Qa l) 3 with
       |false=>exact ih _ _ _ _ h
       |true=>
        have:=Bx h2
        simp only [Qa] at this
        exact ih _ _ _ _ (by simp only [Bl,Bp];omega)
   have hr: ∀ (m n:Nat) (i:Int) (l:List Keep) (d:Dice),l.length<=3->(edY m n i l d).1.length<=3:=by
    intro m
    induction m with
    |zero=>exact fun _ _ _ _ h=>h
    |succ m ih=>exact fun n i l d h=>ih n (i+1) _ _ (hp n i 0 l d h)
   exact hr _ _ _ [] _ (by decide)
  ·simp only [YA,Qa,Bo] at hq
   show 0<(Zb d).1.length
   omega
theorem QKJ {d:Dice}:Jt (Xc d sIt)=true:=by
 have hv:=Zz (d:=d) (n:=2) (by omega)
 unfold Xc
 show Jt (sIt.getD (Qn d 2).toNat ByteArray.empty)=true
 rcases (show Qn d 2=0∨Qn d 2=1 by omega) with h|h<;>rw [h]<;>kernel_rfl
theorem QKK {d:Dice}:Ja (Xc d sIt)=true:=by
 have hv:=Zz (d:=d) (n:=2) (by omega)
 unfold Xc
 show Ja (sIt.getD (Qn d 2).toNat ByteArray.empty)=true
 rcases (show Qn d 2=0∨Qn d 2=1 by omega) with h|h<;>rw [h]<;>kernel_rfl
theorem Qyz: ∀ (n:Nat) (d:Dice),(itZ n d).1.all JW=true/\(itZ n d).1.all ZZ=true/\(itZ n d).1.length=n
 |0,_=>⟨rfl,rfl,rfl⟩
 |n+1,d=>by
  have:=Qyz n (Gw (WT d sIt) (Xc d sIt))
  simp only [itZ,BU,Bt,this,B6,and_true]
  exact ⟨QGi _ QKJ,QKK⟩
theorem VF (d:Dice):JO (Qx d)=true/\Jv (Qx d)=true:=by
 have hn:=Vg d
 have h1:=snd_up d
 obtain ⟨h2,h3,h4⟩:=Qe9 d
 have hv3:=Zz (d:=(Zb d).2) (n:=3) (by omega)
 have hi:=Qyz (Qn (Zb d).2 3).toNat (Qh (Zb d).2 3)
 have hl:(Qw (Qx d)).length<=3:=by rw [QlV];omega
 have hx:Zn (Qx d)=(itZ (Qn (Zb d).2 3).toNat (Qh (Zb d).2 3)).1:=rfl
 constructor
 ·unfold JO
  rw [h1,h2,hx,hi.1,show ile (Qa (Qw (Qx d))) 16=true from Be (by simp only [Qa];omega),show ile (Qa (QL (Qx d))) 40=true from Be (by simp only [Qa];omega),show ile (Qa (itZ (Qn (Zb d).2 3).toNat (Qh (Zb d).2 3)).1) 30=true from Be (by simp only [Qa];omega)]
  rfl
 ·unfold Jv ZU
  rw [hx,hi.2.1,Be (show (Qw (Qx d)).length<=99999/\(QL (Qx d)).length<=99999 by omega),Be (show (itZ (Qn (Zb d).2 3).toNat (Qh (Zb d).2 3)).1.length<=100000 by omega),BE,BE,B6]
  exact Bg.2 fun e he=>QlT (QlU d e he)
end Go.Proofs.YtmjnnemhoeolgaaGreat.K
noncomputable section
namespace Go.Proofs.YtmjnnemhoeolgaaGreat.K
open Go.RowKit
noncomputable section
open Classical in
end
end Go.Proofs.YtmjnnemhoeolgaaGreat.K
noncomputable section
namespace Go.Proofs.YtmjnnemhoeolgaaGreat.K
open Go.RowKit
noncomputable section
def UY (x:Identity):Identity:=x
abbrev VX:Sh:=⟨[(2,.ptr 2 0),(3,.ptr 3 0),(12,.ty (.sl QV)),(13,.ty tI),(14,.ty tI)],[(2,.box Q0),(3,.bag [.ty tI,.ty tI,.ty tI,.ms 20303]),(26,.no),(20303,.arr 149 QV)]⟩
abbrev Qy3:Sh:=⟨[(2,.ptr 2 0),(3,.ptr 3 0)],[(2,.box Q0),(3,.bag [.ty tI,.ty tI,.ty tI,.ms 20303]),(26,.no),(20303,.arr 149 QV)]⟩
def Qfq:Fg:=VX.f
def Qmy:TC:=aF Tryz.f160 [(58,.nf 3 3 149 20303),(58,.nf 5 12 9 20512),(58,pL 0 Qfq),(933,.fg ⟨[(2,none),(3,none)],[(2,some Q0),(3,some Q0),(26,none),(20303,none)]⟩)]
def Qmz:TC:=lb 0 Qmy
def QmA (x12:List Certificate)(x13 x14:Int)(y2:Identity)(y3_0 y3_1 y3_2:Int)(JG:List Certificate):VS:=VX.st ((),(),x12,x13,x14,()) (y2,(y3_0,y3_1,y3_2,(),()),(),JG,())
def Qfr (y2:Identity)(y3_0 y3_1 y3_2:Int)(JG:List Certificate):VS:=Qy3.st ((),(),()) (y2,(y3_0,y3_1,y3_2,(),()),(),JG,())
def Qy4:VS->Option (Bool×List (Bool×Exit×VS)):=mkL VX (fun x y=>(Qt x.2.2.1 x.2.2.2.1 x.2.2.2.2.1&&(Js x.2.2.1&&decide (y.2.2.2.1.length<=x.2.2.2.2.1)))) (fun x y=>[(true,.exit 0,Qfr (y.1) (y.2.1.1) (y.2.1.2.1) (y.2.1.2.2.1) (y.2.2.2.1++x.2.2.1.drop x.2.2.2.2.1.toNat))])
def Qfs:G:=gG 30 [] (Ls [Qy4])
def VY (x12:List Certificate)(x13 x14:Int)(y2:Identity)(y3_0 y3_1 y3_2:Int)(JG:List Certificate):OX:=Qv (QB Qfs Qfq Qmz) (QmA x12 x13 x14 y2 y3_0 y3_1 y3_2 JG)
def E3 (kk:List Certificate->Int->Int->Identity->Int->Int->Int->List Certificate->OX)(x12:List Certificate)(x13 x14:Int)(y2:Identity)(y3_0 y3_1 y3_2:Int)(JG:List Certificate):OX:=
 let a1:=((((lgt QV x12 (Int.toNat x14)).2).2).2)
 let a2:=((lgt QV x12 (Int.toNat x14)).1,(((lgt QV x12 (Int.toNat x14)).2).1,((((lgt QV x12 (Int.toNat x14)).2).2).1,(((a1.1).1,(((a1.1).2).1,())),((a1.2).1,(((((a1.2).2).1).1,(((((a1.2).2).1).2).1,())),((((a1.2).2).2).1,(((((a1.2).2).2).2).1,((((((a1.2).2).2).2).2).1,(((((((a1.2).2).2).2).2).2).1,((([]:List ByteArray)++((((((((a1.2).2).2).2).2).2).2).1)),(((((((((((a1.2).2).2).2).2).2).2).2).1).1,(((((((((((a1.2).2).2).2).2).2).2).2).1).2).1,())),()))))))))))))
 br (ilt x14 x13) (br (cIx x12 x14) (br (QJ ([]:List ByteArray) ((((((((a1.2).2).2).2).2).2).2).1) 16) (br (QJ JG ([a2]) 152) (kk x12 x13 (Qg .i64 x14 1) y2 y3_0 y3_1 y3_2 (JG++([a2]))) none) none) none) (some (.exit 0,Qfr y2 y3_0 y3_1 y3_2 JG))
def VZ (x12:List Certificate)(x13 x14:Int)(y2:Identity)(y3_0 y3_1 y3_2:Int)(JG:List Certificate):OX:=some (.exit 0,Qfr (y2) (y3_0) (y3_1) (y3_2) (JG++x12.drop x14.toNat))
theorem QmB (x12:List Certificate)(x13 x14:Int)(y2:Identity)(y3_0 y3_1 y3_2:Int)(JG:List Certificate):VY x12 x13 x14 y2 y3_0 y3_1 y3_2 JG=E3 VY x12 x13 x14 y2 y3_0 y3_1 y3_2 JG:=lnT (x:=E3 (fun x12 x13 x14 y2 y3_0 y3_1 y3_2 JG=>some (.normal,QmA x12 x13 x14 y2 y3_0 y3_1 y3_2 JG)) x12 x13 x14 y2 y3_0 y3_1 y3_2 JG) (by simp only [E3,nxA];rfl)
def QmC (p0:Identity):OV:=br (Qt p0.2.2.1 (Qa p0.2.2.1) (0:Int)&&(Js p0.2.2.1&&decide (([]:List Certificate).length<=(0:Int)))) (some (.t Q0 (((p0.1.1),((p0.1.2.1),())),((p0.2.1),((([]:List Certificate)++p0.2.2.1.drop (0:Int).toNat),()))),[])) none
theorem Qy5 (x12:List Certificate)(x13 x14:Int)(y2:Identity)(y3_0 y3_1 y3_2:Int)(JG:List Certificate)(h:(Qt x12 x13 x14&&(Js x12&&decide (JG.length<=x14)))=true):VY x12 x13 x14 y2 y3_0 y3_1 y3_2 JG=VZ x12 x13 x14 y2 y3_0 y3_1 y3_2 JG:=by
 simp only [Bc,Ba] at h
 obtain ⟨h0,hc,hl⟩:=h
 obtain ⟨rfl,h3,k,rfl,hk⟩:=Jy h0
 clear h0
 revert JG
 refine QR x12 (fun k=> ∀ (JG:List Certificate),(JG.length:Int)<=(k:Int)->VY x12 (x12.length:Int) (k:Int) y2 y3_0 y3_1 y3_2 JG=VZ x12 (x12.length:Int) (k:Int) y2 y3_0 y3_1 y3_2 JG) ?_ ?_ k hk
 ·intro JG _
  rw [QmB]
  simp only [E3,VZ,QC,BV,B2,Qf,Bd,BQ,BO]
 ·intro k hk ih JG hl
  rw [QmB]
  have c1:QJ ([]:List ByteArray) (Qr x12[k]) 16=true:=Ji (by decide) (by have:=Qfh (QnR hc hk);simp only [BD];omega)
  have c2: ∀ v,QJ JG [v] 152=true:=fun v=>Ji (by omega) (by simp only [Bp];omega)
  simp only [E3,QC,QI,hk,Bv,Qc,Bd,QQ (show k<4611686018427387904 by omega),QP (y:=QV) hk]
  refine brY c1 (brY (Ji (by omega) (by simp only [Bp];omega)) ?_)
  refine Eq.trans (ih (JG++[x12[k]]) (by simp only [Bl,Bp];omega)) ?_
  simp only [VZ,Bd,Bj hk,BR,BN]
theorem Qy6:LO Qfs Qfq Qmz 0:=QH (s:=VX) fun x y h _ q=>by simp only [QF,QG] at q;exact (Qy5 x.2.2.1 x.2.2.2.1 x.2.2.2.2.1 y.1 y.2.1.1 y.2.1.2.1 y.2.1.2.2.1 y.2.2.2.1 h).trans q
theorem s_f160 (x:Identity)(h:Jm x=true):QmC x=some (.t Q0 (UY x),[]):=by
 have h:Js x.2.2.1=true:=h
 unfold QmC
 refine brY ?_ rfl
 rw [Jz (QnS h),h,BE,BE]
 exact Be (BX _)
def Qft:Ent:=Qk (.pr Q0 .nil) (fun x=>(Jm x.1)) (fun x=>(.t Q0 (UY x.1)))
theorem QmD:EM 160 Qft:=mS (lk:=lkL (lkc Qy6 lkn)) Qfs Qmy [((.c 2 true 4),some Q0)] false (gB gN) fun m=>Qm m fun x hok=>kT (s_f160 x.1 hok)
def JH (x:Endpoint):Endpoint:=x
abbrev V0:Sh:=⟨[(2,.ptr 2 0),(3,.ptr 3 0),(21,.ty (.sl Q0)),(22,.ty tI),(23,.ty tI)],[(2,.box Qo),(3,.bag [.ty .str,.ty tI,.ty tI,.ms 9,.ty .bool,.ms 20305,.ms 12,.ms 15,.ty .bool]),(9,.arr 3 tI),(12,.arr 3 tI),(15,.arr 3 tI),(32,.no),(20303,.no),(20305,.arr 67 Q0),(20306,.no),(20307,.no)]⟩
abbrev Qy7:Sh:=⟨[(2,.ptr 2 0),(3,.ptr 3 0)],[(2,.box Qo),(3,.bag [.ty .str,.ty tI,.ty tI,.ms 9,.ty .bool,.ms 20305,.ms 12,.ms 15,.ty .bool]),(9,.arr 3 tI),(12,.arr 3 tI),(15,.arr 3 tI),(32,.no),(20303,.no),(20305,.arr 67 Q0),(20306,.no),(20307,.no)]⟩
def Qfu:Fg:=V0.f
def QmE:TC:=aF Tryz.f120 [(14,pD [(0,[1]),(1,[1]),(2,[9,5009,10009,15009]),(3,[1]),(4,[1]),(5,[12,5012,10012,15012]),(6,[1]),(7,[1]),(8,[15,5015,10015,15015]),(9,[3,9,12,15,32,20303,20305,20306,20307]),(10,[2,3,9,12,15,32,20303,20305,20306,20307]),(11,[3,9,12,15,32,20303,20305,20306,20307]),(12,[2,3,9,12,15,32,20303,20305,20306,20307]),(13,[3,9,12,15,32,20303,20305,20306,20307]),(14,[2,3,9,12,15,32,20303,20305,20306,20307])] (.one 0 (.one 1 (.one 3 (.one 4 (.one 6 (.one 7 (.one 2 (.alt 5 (.alt 8 (.of [9,10,11,12,13,14]) (.of [9,8,10,11,12,13,14])) (.of [9,5,8,10,11,12,13,14])))))))))),(250,.nf 3 7 3 20307),(250,.nf 3 6 3 20306),(250,.nf 3 3 3 20303),(250,.nf 3 5 67 20305),(250,pL 0 Qfu),(4005,.fg ⟨[(2,none),(3,none)],[(2,some Qo),(3,some Qo),(9,none),(12,none),(15,none),(32,none),(20303,none),(20305,none),(20306,none),(20307,none)]⟩),(16025,pD [(0,[3,9,12,15,32,20303,20305,20306,20307]),(1,[3,9,12,15,32,20303,20305,20306,20307]),(2,[5]),(3,[]),(4,[]),(5,[2,3,9,12,15,32,5032,10032,15032,20303,20305,20306,20307]),(6,[3,9,12,15,32,20303,20305,20306,20307]),(7,[2,3,9,12,15,32,20303,20305,20306,20307])] (.of [0,1,2,3,4,5,6,7]))]
def QmF:TC:=lb 0 QmE
def QmG (x21:List Identity)(x22 x23:Int)(y2:Endpoint)(y3_0:ByteArray)(y3_1 y3_2:Int)(y3_4 y3_8:Bool)(y9 y12 y15:List Int)(JP:List Identity):VS:=V0.st ((),(),x21,x22,x23,()) (y2,(y3_0,y3_1,y3_2,(),y3_4,(),(),(),y3_8,()),y9,y12,y15,(),(),JP,(),(),())
def Qfv (y2:Endpoint)(y3_0:ByteArray)(y3_1 y3_2:Int)(y3_4 y3_8:Bool)(y9 y12 y15:List Int)(JP:List Identity):VS:=Qy7.st ((),(),()) (y2,(y3_0,y3_1,y3_2,(),y3_4,(),(),(),y3_8,()),y9,y12,y15,(),(),JP,(),(),())
def Qy8:VS->Option (Bool×List (Bool×Exit×VS)):=mkL V0 (fun x y=>(Qt x.2.2.1 x.2.2.2.1 x.2.2.2.2.1&&(x.2.2.1.all Jm&&decide (y.2.2.2.2.2.2.2.1.length<=x.2.2.2.2.1)))) (fun x y=>[(true,.exit 0,Qfv (y.1) (y.2.1.1) (y.2.1.2.1) (y.2.1.2.2.1) (y.2.1.2.2.2.2.1) (y.2.1.2.2.2.2.2.2.2.2.1) (y.2.2.1) (y.2.2.2.1) (y.2.2.2.2.1) (y.2.2.2.2.2.2.2.1++x.2.2.1.drop x.2.2.2.2.1.toNat))])
def Qfw:G:=gG 36 [(160,Qft)] (Ls [Qy8])
def V1 (x21:List Identity)(x22 x23:Int)(y2:Endpoint)(y3_0:ByteArray)(y3_1 y3_2:Int)(y3_4 y3_8:Bool)(y9 y12 y15:List Int)(JP:List Identity):OX:=Qv (QB Qfw Qfu QmF) (QmG x21 x22 x23 y2 y3_0 y3_1 y3_2 y3_4 y3_8 y9 y12 y15 JP)
def E4 (kk:List Identity->Int->Int->Endpoint->ByteArray->Int->Int->Bool->Bool->List Int->List Int->List Int->List Identity->OX)(x21:List Identity)(x22 x23:Int)(y2:Endpoint)(y3_0:ByteArray)(y3_1 y3_2:Int)(y3_4 y3_8:Bool)(y9 y12 y15:List Int)(JP:List Identity):OX:=
 let a1:=UY (lgt Q0 x21 (Int.toNat x23))
 let a2:=(((a1.1).1,(((a1.1).2).1,())),((a1.2).1,(((a1.2).2).1,())))
 br (ilt x23 x22) (br (cIx x21 x23) (br (Jm (lgt Q0 x21 (Int.toNat x23))) (br (QJ JP ([a2]) 48) (kk x21 x22 (Qg .i64 x23 1) y2 y3_0 y3_1 y3_2 y3_4 y3_8 y9 y12 y15 (JP++([a2]))) none) none) none) (some (.exit 0,Qfv y2 y3_0 y3_1 y3_2 y3_4 y3_8 y9 y12 y15 JP))
def V2 (x21:List Identity)(x22 x23:Int)(y2:Endpoint)(y3_0:ByteArray)(y3_1 y3_2:Int)(y3_4 y3_8:Bool)(y9 y12 y15:List Int)(JP:List Identity):OX:=some (.exit 0,Qfv (y2) (y3_0) (y3_1) (y3_2) (y3_4) (y3_8) (y9) (y12) (y15) (JP++x21.drop x23.toNat))
theorem QmH (x21:List Identity)(x22 x23:Int)(y2:Endpoint)(y3_0:ByteArray)(y3_1 y3_2:Int)(y3_4 y3_8:Bool)(y9 y12 y15:List Int)(JP:List Identity):V1 x21 x22 x23 y2 y3_0 y3_1 y3_2 y3_4 y3_8 y9 y12 y15 JP=E4 V1 x21 x22 x23 y2 y3_0 y3_1 y3_2 y3_4 y3_8 y9 y12 y15 JP:=lnT (x:=E4 (fun x21 x22 x23 y2 y3_0 y3_1 y3_2 y3_4 y3_8 y9 y12 y15 JP=>some (.normal,QmG x21 x22 x23 y2 y3_0 y3_1 y3_2 y3_4 y3_8 y9 y12 y15 JP)) x21 x22 x23 y2 y3_0 y3_1 y3_2 y3_4 y3_8 y9 y12 y15 JP) (by simp only [E4,nxA];rfl)
def V3 (p0:Endpoint):OV:=br (QJ ([]:List Int) p0.2.2.2.2.2.2.2.1 8) (br (Qt p0.2.2.2.2.2.1 (Qa p0.2.2.2.2.2.1) (0:Int)&&(p0.2.2.2.2.2.1.all Jm&&decide (([]:List Identity).length<=(0:Int)))) (some (.t Qo ((p0.1),((p0.2.1),((p0.2.2.1),((([]:List Int)++p0.2.2.2.1),((p0.2.2.2.2.1),((([]:List Identity)++p0.2.2.2.2.2.1.drop (0:Int).toNat),((([]:List Int)++p0.2.2.2.2.2.2.1),((([]:List Int)++p0.2.2.2.2.2.2.2.1),((p0.2.2.2.2.2.2.2.2.1),()))))))))),[])) none) none
def QmI (p0:Endpoint):OV:=
 let a1:=(QJ ([]:List Int) p0.2.2.2.2.2.2.1 8)
 br (QJ ([]:List Int) p0.2.2.2.1 8) (frk (br a1 (frk (V3 p0) (V3 p0)) none) (br a1 (V3 p0) none)) none
theorem Qy9 (x21:List Identity)(x22 x23:Int)(y2:Endpoint)(y3_0:ByteArray)(y3_1 y3_2:Int)(y3_4 y3_8:Bool)(y9 y12 y15:List Int)(JP:List Identity)(h:(Qt x21 x22 x23&&(x21.all Jm&&decide (JP.length<=x23)))=true):V1 x21 x22 x23 y2 y3_0 y3_1 y3_2 y3_4 y3_8 y9 y12 y15 JP=V2 x21 x22 x23 y2 y3_0 y3_1 y3_2 y3_4 y3_8 y9 y12 y15 JP:=by
 simp only [Bc,Ba] at h
 obtain ⟨h0,hc,hl⟩:=h
 obtain ⟨rfl,h3,k,rfl,hk⟩:=Jy h0
 clear h0
 revert JP
 refine QR x21 (fun k=> ∀ (JP:List Identity),(JP.length:Int)<=(k:Int)->V1 x21 (x21.length:Int) (k:Int) y2 y3_0 y3_1 y3_2 y3_4 y3_8 y9 y12 y15 JP=V2 x21 (x21.length:Int) (k:Int) y2 y3_0 y3_1 y3_2 y3_4 y3_8 y9 y12 y15 JP) ?_ ?_ k hk
 ·intro JP _
  rw [QmH]
  simp only [E4,V2,QC,BV,B2,Qf,Bd,BQ,BO]
 ·intro k hk ih JP hl
  rw [QmH]
  have c1:Jm x21[k]=true:=Bg.1 hc _ (Bw hk)
  simp only [E4,QC,QI,hk,Bv,Qc,Bd,QQ (show k<4611686018427387904 by omega),QP (y:=Q0) hk,c1]
  refine brY (Ji (by omega) (by simp only [Bp];omega)) ?_
  refine Eq.trans (ih (JP++[x21[k]]) (by simp only [Bl,Bp];omega)) ?_
  simp only [V2,Bd,Bj hk,BR,BN]
theorem Qza:LO Qfw Qfu QmF 0:=QH (s:=V0) fun x y h _ q=>by simp only [QF,QG] at q;exact (Qy9 x.2.2.1 x.2.2.2.1 x.2.2.2.2.1 y.1 y.2.1.1 y.2.1.2.1 y.2.1.2.2.1 y.2.1.2.2.2.2.1 y.2.1.2.2.2.2.2.2.2.2.1 y.2.2.1 y.2.2.2.1 y.2.2.2.2.1 y.2.2.2.2.2.2.2.1 h).trans q
theorem s_f120 (x:Endpoint)(h:QU x=true):QmI x=some (.t Qo (JH x),[]):=by
 obtain ⟨_,h1,h2,h3,h4,h5⟩:=Gm h
 have c1:QJ ([]:List Int) (Qu x) 8=true:=Ji (by decide) (by simp only [BD];omega)
 have c2:QJ ([]:List Int) (Q3 x) 8=true:=Ji (by decide) (by simp only [BD];omega)
 have c3:QJ ([]:List Int) (Q6 x) 8=true:=Ji (by decide) (by simp only [BD];omega)
 simp only [QmI,V3,Wt,Wt]
 refine brY c1 (brY c2 (brY c3 (brY ?_ rfl)))
 rw [Jz h2,h5,BE,BE]
 exact Be (BX _)
def Qfx:Ent:=Qk (.pr Qo .nil) (fun x=>(QU x.1)) (fun x=>(.t Qo (JH x.1)))
theorem QmJ:EM 120 Qfx:=mS (lk:=lkL (lkc Qza lkn)) Qfw QmE [((.c 2 true 9),some Qo)] false (gB (gD QmD gN)) fun m=>Qm m fun x hok=>kT (s_f120 x.1 hok)
def XF (x:Estate):Estate:=x
def UZ (i:Item):Bool:=decide (i.2.2.2.1.length<=1000)
def V4 (x:Estate):Bool:=Jv x&&(Zn x).all UZ
abbrev V5:Sh:=⟨[(1,.ptr 1 0),(2,.ptr 2 0),(3,.ptr 3 0),(13,.ty (.sl Qo)),(14,.ty tI),(15,.ty tI)],[(1,.box QE),(2,.box QE),(3,.bag [.ms 20300,.ms 10,.ms 20302]),(10,.arr 47 Qd),(24,.no),(42,.no),(20300,.arr 61 Qo),(20302,.arr 106 Jd)]⟩
abbrev Qzb:Sh:=⟨[(1,.ptr 1 0),(2,.ptr 2 0),(3,.ptr 3 0)],[(1,.box QE),(2,.box QE),(3,.bag [.ms 20300,.ms 10,.ms 20302]),(10,.arr 47 Qd),(24,.no),(42,.no),(20300,.arr 61 Qo),(20302,.arr 106 Jd)]⟩
abbrev V6:Sh:=⟨[(2,.ptr 2 0),(3,.ptr 3 0),(28,.ty (.sl Jd)),(29,.ty tI),(30,.ty tI)],[(2,.box QE),(3,.bag [.ms 20300,.ms 10,.ms 20302]),(10,.arr 47 Qd),(24,.no),(42,.no),(20300,.arr 61 Qo),(20302,.arr 106 Jd)]⟩
abbrev Qzc:Sh:=⟨[(2,.ptr 2 0),(3,.ptr 3 0)],[(2,.box QE),(3,.bag [.ms 20300,.ms 10,.ms 20302]),(10,.arr 47 Qd),(24,.no),(42,.no),(20300,.arr 61 Qo),(20302,.arr 106 Jd)]⟩
def Qfy:Fg:=V5.f
def Qfz:Fg:=V6.f
def QfA:TC:=aF Tryz.f71 [(58,.nf 3 2 106 20302),(58,.nf 3 0 61 20300),(58,pL 0 Qfy),(933,.fg ⟨[(1,none),(2,none),(3,none)],[(1,some QE),(2,some QE),(3,some QE),(10,none),(24,none),(42,none),(20300,none),(20302,none)]⟩),(3737,pD [(0,[3,10,24,42,20300,20302]),(1,[3,10,24,42,20300,20302]),(2,[5]),(3,[]),(4,[]),(5,[2,3,10,24,42,5024,10024,15024,20300,20302]),(6,[3,10,24,42,20300,20302]),(7,[2,3,10,24,42,20300,20302])] (.of [0,1,2,3,4,5,6,7])),(122,.nf 3 0 61 20300),(122,.nf 3 2 106 20302),(122,.nf 7 3 153 20703),(122,pL 1 Qfz),(1957,.fg ⟨[(2,none),(3,none)],[(2,some QE),(3,some QE),(10,none),(24,none),(42,none),(20300,none),(20302,none)]⟩)]
def QmK:TC:=lb 0 QfA
def QmL:TC:=lb 1 QfA
def QmM (x13:List Endpoint)(x14 x15:Int)(y1 y2:Estate)(y10:List Keep)(Qi:List Endpoint)(Qj:List Item):VS:=V5.st ((),(),(),x13,x14,x15,()) (y1,y2,((),(),(),()),y10,(),(),Qi,Qj,())
def QfB (y1 y2:Estate)(y10:List Keep)(Qi:List Endpoint)(Qj:List Item):VS:=Qzb.st ((),(),(),()) (y1,y2,((),(),(),()),y10,(),(),Qi,Qj,())
def QmN (x28:List Item)(x29 x30:Int)(y2:Estate)(y10:List Keep)(Qi:List Endpoint)(Qj:List Item):VS:=V6.st ((),(),x28,x29,x30,()) (y2,((),(),(),()),y10,(),(),Qi,Qj,())
def QfC (y2:Estate)(y10:List Keep)(Qi:List Endpoint)(Qj:List Item):VS:=Qzc.st ((),(),()) (y2,((),(),(),()),y10,(),(),Qi,Qj,())
def Qzd:VS->Option (Bool×List (Bool×Exit×VS)):=mkL V5 (fun x y=>(Qt x.2.2.2.1 x.2.2.2.2.1 x.2.2.2.2.2.1&&(x.2.2.2.1.all QU&&decide (y.2.2.2.2.2.2.1.length<=x.2.2.2.2.2.1)))) (fun x y=>[(true,.exit 0,QfB (y.1) (y.2.1) (y.2.2.2.1) (y.2.2.2.2.2.2.1++x.2.2.2.1.drop x.2.2.2.2.2.1.toNat) (y.2.2.2.2.2.2.2.1))])
def Qze:VS->Option (Bool×List (Bool×Exit×VS)):=mkL V6 (fun x y=>(Qt x.2.2.1 x.2.2.2.1 x.2.2.2.2.1&&(x.2.2.1.all UZ&&decide (y.2.2.2.2.2.2.1.length<=x.2.2.2.2.1)))) (fun x y=>[(true,.exit 2,QfC (y.1) (y.2.2.1) (y.2.2.2.2.2.1) (y.2.2.2.2.2.2.1++x.2.2.1.drop x.2.2.2.2.1.toNat))])
def E5:G:=gG 46 [(120,Qfx)] (Ls [Qzd,Qze])
def V7 (x13:List Endpoint)(x14 x15:Int)(y1 y2:Estate)(y10:List Keep)(Qi:List Endpoint)(Qj:List Item):OX:=Qv (QB E5 Qfy QmK) (QmM x13 x14 x15 y1 y2 y10 Qi Qj)
def E6 (kk:List Endpoint->Int->Int->Estate->Estate->List Keep->List Endpoint->List Item->OX)(x13:List Endpoint)(x14 x15:Int)(y1 y2:Estate)(y10:List Keep)(Qi:List Endpoint)(Qj:List Item):OX:=
 let a1:=JH (lgt Qo x13 (Int.toNat x15))
 let a2:=((a1.2).1,(((a1.2).2).1,((((a1.2).2).2).1,(((((a1.2).2).2).2).1,((((((a1.2).2).2).2).2).1,(((((((a1.2).2).2).2).2).2).1,((((((((a1.2).2).2).2).2).2).2).1,(((((((((a1.2).2).2).2).2).2).2).2).1,()))))))))
 br (ilt x15 x14) (br (cIx x13 x15) (br (QU (lgt Qo x13 (Int.toNat x15))) (br (QJ Qi ([(a1.1,a2)]) 144) (kk x13 x14 (Qg .i64 x15 1) y1 y2 y10 (Qi++([(a1.1,a2)])) Qj) none) none) none) (some (.exit 0,QfB y1 y2 y10 Qi Qj))
def V8 (x13:List Endpoint)(x14 x15:Int)(y1 y2:Estate)(y10:List Keep)(Qi:List Endpoint)(Qj:List Item):OX:=some (.exit 0,QfB (y1) (y2) (y10) (Qi++x13.drop x15.toNat) (Qj))
theorem QmO (x13:List Endpoint)(x14 x15:Int)(y1 y2:Estate)(y10:List Keep)(Qi:List Endpoint)(Qj:List Item):V7 x13 x14 x15 y1 y2 y10 Qi Qj=E6 V7 x13 x14 x15 y1 y2 y10 Qi Qj:=lnT (x:=E6 (fun x13 x14 x15 y1 y2 y10 Qi Qj=>some (.normal,QmM x13 x14 x15 y1 y2 y10 Qi Qj)) x13 x14 x15 y1 y2 y10 Qi Qj) (by simp only [E6,nxA];rfl)
def V9 (x28:List Item)(x29 x30:Int)(y2:Estate)(y10:List Keep)(Qi:List Endpoint)(Qj:List Item):OX:=Qv (QB E5 Qfz QmL) (QmN x28 x29 x30 y2 y10 Qi Qj)
def E7 (kk:List Item->Int->Int->Estate->List Keep->List Endpoint->List Item->OX)(x28:List Item)(x29 x30:Int)(y2:Estate)(y10:List Keep)(Qi:List Endpoint)(Qj:List Item):OX:=
 let a1:=lgt Jd x28 (Int.toNat x30)
 let a2:=(((a1.2).2).2)
 br (ilt x30 x29) (br (cIx x28 x30) (br (QJ ([]:List Link) (a2.1) 24) (br (QJ Qj ([(a1.1,((a1.2).1,(((a1.2).2).1,((([]:List Link)++(a2.1)),((a2.2).1,())))))]) 64) (kk x28 x29 (Qg .i64 x30 1) y2 y10 Qi (Qj++([(a1.1,((a1.2).1,(((a1.2).2).1,((([]:List Link)++(a2.1)),((a2.2).1,())))))]))) none) none) none) (some (.exit 2,QfC y2 y10 Qi Qj))
def Qaa (x28:List Item)(x29 x30:Int)(y2:Estate)(y10:List Keep)(Qi:List Endpoint)(Qj:List Item):OX:=some (.exit 2,QfC (y2) (y10) (Qi) (Qj++x28.drop x30.toNat))
theorem QmP (x28:List Item)(x29 x30:Int)(y2:Estate)(y10:List Keep)(Qi:List Endpoint)(Qj:List Item):V9 x28 x29 x30 y2 y10 Qi Qj=E7 V9 x28 x29 x30 y2 y10 Qi Qj:=lnT (x:=E7 (fun x28 x29 x30 y2 y10 Qi Qj=>some (.normal,QmN x28 x29 x30 y2 y10 Qi Qj)) x28 x29 x30 y2 y10 Qi Qj) (by simp only [E7,nxA];rfl)
def r_f71 (p0:Estate):OV:=
 let a1:=((((p0).2).2).1)
 br (QJ ([]:List Keep) p0.2.1 16) (br (Qt p0.1 (Qa p0.1) (0:Int)&&(p0.1.all QU&&decide (([]:List Endpoint).length<=(0:Int)))) (br (Qt a1 (Qa a1) (0:Int)&&(a1.all UZ&&decide (([]:List Item).length<=(0:Int)))) (some (.ag [(.ms 50000),(.ms 50001),(.ms 50002)],[.arr 61 Qo (([]:List Endpoint)++p0.1.drop (0:Int).toNat),.arr 47 Qd (([]:List Keep)++p0.2.1),.arr 106 Jd (([]:List Item)++a1.drop (0:Int).toNat)])) none) none) none
theorem Qzf (x13:List Endpoint)(x14 x15:Int)(y1 y2:Estate)(y10:List Keep)(Qi:List Endpoint)(Qj:List Item)(h:(Qt x13 x14 x15&&(x13.all QU&&decide (Qi.length<=x15)))=true):V7 x13 x14 x15 y1 y2 y10 Qi Qj=V8 x13 x14 x15 y1 y2 y10 Qi Qj:=by
 simp only [Bc,Ba] at h
 obtain ⟨h0,hc,hl⟩:=h
 obtain ⟨rfl,h3,k,rfl,hk⟩:=Jy h0
 clear h0
 revert Qi
 refine QR x13 (fun k=> ∀ (Qi:List Endpoint),(Qi.length:Int)<=(k:Int)->V7 x13 (x13.length:Int) (k:Int) y1 y2 y10 Qi Qj=V8 x13 (x13.length:Int) (k:Int) y1 y2 y10 Qi Qj) ?_ ?_ k hk
 ·intro Qi _
  rw [QmO]
  simp only [E6,V8,QC,BV,B2,Qf,Bd,BQ,BO]
 ·intro k hk ih Qi hl
  rw [QmO]
  have c1:QU x13[k]=true:=Bg.1 hc _ (Bw hk)
  simp only [E6,QC,QI,hk,Bv,Qc,Bd,QQ (show k<4611686018427387904 by omega),QP (y:=Qo) hk,c1]
  refine brY (Ji (by omega) (by simp only [Bp];omega)) ?_
  refine Eq.trans (ih (Qi++[x13[k]]) (by simp only [Bl,Bp];omega)) ?_
  simp only [V8,Bd,Bj hk,BR,BN]
theorem Qzg (x28:List Item)(x29 x30:Int)(y2:Estate)(y10:List Keep)(Qi:List Endpoint)(Qj:List Item)(h:(Qt x28 x29 x30&&(x28.all UZ&&decide (Qj.length<=x30)))=true):V9 x28 x29 x30 y2 y10 Qi Qj=Qaa x28 x29 x30 y2 y10 Qi Qj:=by
 simp only [Bc,Ba] at h
 obtain ⟨h0,hc,hl⟩:=h
 obtain ⟨rfl,h3,k,rfl,hk⟩:=Jy h0
 clear h0
 revert Qj
 refine QR x28 (fun k=> ∀ (Qj:List Item),(Qj.length:Int)<=(k:Int)->V9 x28 (x28.length:Int) (k:Int) y2 y10 Qi Qj=Qaa x28 (x28.length:Int) (k:Int) y2 y10 Qi Qj) ?_ ?_ k hk
 ·intro Qj _
  rw [QmP]
  simp only [E7,Qaa,QC,BV,B2,Qf,Bd,BQ,BO]
 ·intro k hk ih Qj hl
  rw [QmP]
  have c1:x28[k].2.2.2.1.length<=1000:=Bx (Bg.1 hc _ (Bw hk))
  simp only [E7,QC,QI,hk,Bv,Qc,Bd,QQ (show k<4611686018427387904 by omega),QP (y:=Jd) hk]
  refine brY (Ji (by decide) (by simp only [BD];omega)) (brY (Ji (by omega) (by simp only [Bp];omega)) ?_)
  refine Eq.trans (ih (Qj++[x28[k]]) (by simp only [Bl,Bp];omega)) ?_
  simp only [Qaa,Bd,Bj hk,BR,BN]
theorem Qzh:LO E5 Qfy QmK 0:=QH (s:=V5) fun x y h _ q=>by simp only [QF,QG] at q;exact (Qzf x.2.2.2.1 x.2.2.2.2.1 x.2.2.2.2.2.1 y.1 y.2.1 y.2.2.2.1 y.2.2.2.2.2.2.1 y.2.2.2.2.2.2.2.1 h).trans q
theorem Qzi:LO E5 Qfz QmL 1:=QH (s:=V6) fun x y h _ q=>by simp only [QF,QG] at q;exact (Qzg x.2.2.1 x.2.2.2.1 x.2.2.2.2.1 y.1 y.2.2.1 y.2.2.2.2.2.1 y.2.2.2.2.2.2.1 h).trans q
theorem s_f71 (x:Estate)(h:V4 x=true):r_f71 x=some (.ag [.ms 50000,.ms 50001,.ms 50002],[.arr 61 Qo (XF x).1,.arr 47 Qd (XF x).2.1,.arr 106 Jd (XF x).2.2.1]):=by
 obtain ⟨h,h6⟩:=Bi.1 h
 simp only [Jv,Bc,Ba] at h
 obtain ⟨⟨h1,h2⟩,h3,h4⟩:=h
 have h5:=Qx1 h4
 unfold r_f71
 have hx:x.2.1.length<=99999:=h2
 refine brY (Ji (by decide) (by simp only [BD];omega)) (brY ?_ (brY ?_ rfl))
 ·rw [Jz (show (Qw x).length<=100000 by omega),h3,BE,BE]
  exact Be (BX _)
 ·rw [Jz h5,h6,BE,BE]
  exact Be (BX _)
def QmQ:Ent:=WD (.pr QE .nil) (fun x=>(V4 x.1)) (fun x=>(.ag [(.ms 50000),(.ms 50001),(.ms 50002)])) (fun x=>[.arr 61 Qo ((XF x.1).1),.arr 47 Qd (((XF x.1).2).1),.arr 106 Jd ((((XF x.1).2).2).1)])
theorem ms_f71:EM 71 QmQ:=mS (lk:=lkL (lkc Qzh (lkc Qzi lkn))) E5 QfA [((.c 2 true 3),none)] true (gB (gD QmJ gN)) fun m=>QgM m fun x hok=>kT (s_f71 x.1 hok)
end
end Go.Proofs.YtmjnnemhoeolgaaGreat.K
noncomputable section
namespace Go.Proofs.YtmjnnemhoeolgaaGreat.K
open Go.RowKit
noncomputable section
def noAn (e:Endpoint):Endpoint:=(e.1,(e.2.1,(e.2.2.1,(e.2.2.2.1,(e.2.2.2.2.1,(e.2.2.2.2.2.1,(([]:List Int),e.2.2.2.2.2.2.2)))))))
def an (b:Bool)(e:Endpoint):Endpoint:=bif b then noAn e else e
theorem Ot (d:Dice){j:Nat}(hj:j<(Qw (Qx d)).length):JC (Jo (Qw (Qx d)) j):=by
 rw [show Jo (Qw (Qx d)) j=(Qw (Qx d))[j] by simp only [Jo,Bk,Bf hj,BI]]
 exact QlU d _ (Bw hj)
end
end Go.Proofs.YtmjnnemhoeolgaaGreat.K
noncomputable section
namespace Go.Proofs.YtmjnnemhoeolgaaGreat.K.PE
open Go.RowKit
noncomputable section
attribute [local irreducible] epV epN
open Classical in
end
end Go.Proofs.YtmjnnemhoeolgaaGreat.K.PE
namespace Go.Proofs.YtmjnnemhoeolgaaGreat.K
open Go.RowKit PE
end Go.Proofs.YtmjnnemhoeolgaaGreat.K
noncomputable section
namespace Go.Proofs.YtmjnnemhoeolgaaGreat.K
open Go.RowKit
noncomputable section
theorem brF {c v:Bool}{X:OV}(h:X=some (.t .bool v,[])):br c (some (.t .bool false,[])) X=some (.t .bool (!c&&v),[]):=by
 subst h
 cases c<;>rfl
def WA (a b:List ByteArray)(k:Nat):Bool:=(List.range' k (a.length-k)).all fun j=> !sne (a.getD j ByteArray.empty) (b.getD j ByteArray.empty)
def U7 (a b:Certificate):Bool:=
 !ine a.1 b.1&&(!sne a.2.1 b.2.1&&(!sne a.2.2.1 b.2.2.1&&(!(!(and (ieq a.2.2.2.1.1 b.2.2.2.1.1) (and (ieq a.2.2.2.1.2.1 b.2.2.2.1.2.1) true)))&&(!ine a.2.2.2.2.1 b.2.2.2.2.1&&(!(!(and (ieq a.2.2.2.2.2.1.1 b.2.2.2.2.2.1.1) (and (ieq a.2.2.2.2.2.1.2.1 b.2.2.2.2.2.1.2.1) true)))&&
 (!ine a.2.2.2.2.2.2.1 b.2.2.2.2.2.2.1&&(!ine a.2.2.2.2.2.2.2.1 b.2.2.2.2.2.2.2.1&&(!Fx a.2.2.2.2.2.2.2.2.1 b.2.2.2.2.2.2.2.2.1&&(!ine a.2.2.2.2.2.2.2.2.2.1 b.2.2.2.2.2.2.2.2.2.1&&(!(!(and (ieq a.2.2.2.2.2.2.2.2.2.2.2.1.1 b.2.2.2.2.2.2.2.2.2.2.2.1.1) (and (ieq a.2.2.2.2.2.2.2.2.2.2.2.1.2.1 b.2.2.2.2.2.2.2.2.2.2.2.1.2.1) true)))&&
 (!ine (Qa (Qr a)) (Qa (Qr b))&&WA (Qr a) (Qr b) 0)))))))))))
def Qam (a _b:Certificate):Bool:=decide ((Qr a).length<=100000)
abbrev Qan:Sh:=⟨[(2,.ptr 2 0),(3,.ptr 3 0),(92,.ty tI),(93,.ty tI)],[(2,.box QV),(3,.box QV)]⟩
abbrev QfY:Sh:=⟨[(4,.ty .bool)],[]⟩
abbrev Fd:Sh:=⟨[],[]⟩
def QfZ:Fg:=Qan.f
def Qnr:TC:=aF Tryz.f213 [(58,pL 0 QfZ),(933,.fg Fd.f),(7474,pD [(0,[2]),(1,[2]),(2,[]),(3,[]),(4,[]),(5,[3]),(6,[3]),(7,[]),(8,[]),(9,[]),(10,[])] (.of [0,1,2,3,4,5,6,7,8,9,10])),(29901,.fg QfY.f)]
def Qns:TC:=lb 0 Qnr
def Qnt (x92 x93:Int)(y2 y3:Certificate):VS:=Qan.st ((),(),x92,x93,()) (y2,y3,())
def Fe (x4:Bool):VS:=QfY.st (x4,()) ()
def Qf0  : VS:=Fd.st () ()
def QzL:VS->Option (Bool×List (Bool×Exit×VS)):=mkL Qan (fun x y=>(decide (x.2.2.1=(Qr y.1).length/\0<=x.2.2.2.1/\x.2.2.2.1<=x.2.2.1/\(Qr y.1).length=(Qr y.2.1).length/\x.2.2.1<=100000))) (fun x y=>[((!WA (Qr y.1) (Qr y.2.1) x.2.2.2.1.toNat),.ret,Fe (false)),(true,.exit 0,Qf0)])
def Qf1:G:=gG 108 [] (Ls [QzL])
def Qao (x92 x93:Int)(y2 y3:Certificate):OX:=Qv (QB Qf1 QfZ Qns) (Qnt x92 x93 y2 y3)
def Ie (kk:Int->Int->Certificate->Certificate->OX)(x92 x93:Int)(y2 y3:Certificate):OX:=br (ilt x93 x92) (br (cIx y2.2.2.2.2.2.2.2.2.2.2.1 x93) (br (cIx y3.2.2.2.2.2.2.2.2.2.2.1 x93) (br (sne (lgt .str y2.2.2.2.2.2.2.2.2.2.2.1 (Int.toNat x93)) (lgt .str y3.2.2.2.2.2.2.2.2.2.2.1 (Int.toNat x93))) (some (.ret,Fe false)) (kk x92 (Qg .i64 x93 1) y2 y3)) none) none) (some (.exit 0,Qf0))
def Qap (x92 x93:Int)(y2 y3:Certificate):OX:=br (!WA (Qr y2) (Qr y3) x93.toNat) (some (.ret,Fe (false)))<|some (.exit 0,Qf0)
theorem Qnu (x92 x93:Int)(y2 y3:Certificate):Qao x92 x93 y2 y3=Ie Qao x92 x93 y2 y3:=lnT (x:=Ie (fun x92 x93 y2 y3=>some (.normal,Qnt x92 x93 y2 y3)) x92 x93 y2 y3) (by simp only [Ie,nxA];rfl)
def Qnv (p0 p1:Certificate):OV:=
 let a1:=Qa p0.2.2.2.2.2.2.2.2.2.2.1
 br (ine p0.1 p1.1) (some (.t .bool false,[])) (br (sne p0.2.1 p1.2.1) (some (.t .bool false,[])) (br (sne p0.2.2.1 p1.2.2.1) (some (.t .bool false,[])) (br (!(and (ieq p0.2.2.2.1.1 p1.2.2.2.1.1) (and (ieq p0.2.2.2.1.2.1 p1.2.2.2.1.2.1) true))) (some (.t .bool false,[])) (br (ine p0.2.2.2.2.1 p1.2.2.2.2.1) (some (.t .bool false,[])) (br (!(and (ieq p0.2.2.2.2.2.1.1 p1.2.2.2.2.2.1.1) (and (ieq p0.2.2.2.2.2.1.2.1 p1.2.2.2.2.2.1.2.1) true))) (some (.t .bool false,[])) (br (ine p0.2.2.2.2.2.2.1 p1.2.2.2.2.2.2.1) (some (.t .bool false,[])) (br (ine p0.2.2.2.2.2.2.2.1 p1.2.2.2.2.2.2.2.1) (some (.t .bool false,[])) (br (Fx p0.2.2.2.2.2.2.2.2.1 p1.2.2.2.2.2.2.2.2.1) (some (.t .bool false,[])) (br (ine p0.2.2.2.2.2.2.2.2.2.1 p1.2.2.2.2.2.2.2.2.2.1) (some (.t .bool false,[])) (br (!(and (ieq p0.2.2.2.2.2.2.2.2.2.2.2.1.1 p1.2.2.2.2.2.2.2.2.2.2.2.1.1) (and (ieq p0.2.2.2.2.2.2.2.2.2.2.2.1.2.1 p1.2.2.2.2.2.2.2.2.2.2.2.1.2.1) true))) (some (.t .bool false,[])) (br (ine a1 (Qa p1.2.2.2.2.2.2.2.2.2.2.1)) (some (.t .bool false,[])) (br (decide (a1=(Qr p0).length/\0<=(0:Int)/\(0:Int)<=a1/\(Qr p0).length=(Qr p1).length/\a1<=100000)) (br (!WA (Qr p0) (Qr p1) (0:Int).toNat) (some (.t .bool (false),[])) (some (.t .bool true,[]))) none))))))))))))
theorem QzM (x92 x93:Int)(y2 y3:Certificate)(h:(decide (x92=(Qr y2).length/\0<=x93/\x93<=x92/\(Qr y2).length=(Qr y3).length/\x92<=100000))=true):Qao x92 x93 y2 y3=Qap x92 x93 y2 y3:=by
 obtain ⟨rfl,h0,h1,h2,h3⟩:=Bx h
 obtain ⟨k,rfl⟩:=Bq h0
 refine QR (Qr y2) (fun k=>Qao ((Qr y2).length:Int) (k:Int) y2 y3=Qap ((Qr y2).length:Int) (k:Int) y2 y3) ?_ ?_ k (by omega)
 ·rw [Qnu]
  simp only [Ie,Qap,QC,BV,B2,Qf,Bd,WA,Nat.sub_self]
  rfl
 ·intro k hk ih
  rw [Qnu]
  have hk2:k<(Qr y3).length:=by omega
  have e1:cIx (Qr y2) (k:Int)=true:=by rw [QI];exact Be hk
  have e2:cIx (Qr y3) (k:Int)=true:=by rw [QI];exact Be hk2
  have hs:WA (Qr y2) (Qr y3) k=(!sne ((Qr y2).getD k ByteArray.empty) ((Qr y3).getD k ByteArray.empty)&&WA (Qr y2) (Qr y3) (k+1)):=by
   have:(Qr y2).length-k=((Qr y2).length-(k+1))+1:=by omega
   unfold WA
   rw [this,Du,BU]
  simp only [Ie,QC,hk,Bv,Qc,Bd,QQ (show k<4611686018427387904 by omega),ih]
  refine brY e1 (brY e2 ?_)
  simp only [Qap,Bd,hs]
  show br (sne ((Qr y2).getD k ByteArray.empty) ((Qr y3).getD k ByteArray.empty)) _ _=_
  cases sne ((Qr y2).getD k ByteArray.empty) ((Qr y3).getD k ByteArray.empty)<;>rfl
theorem QzN:LO Qf1 QfZ Qns 0:=QH (s:=Qan) fun x y h _ q=>by simp only [QF,QG] at q;exact (QzM x.2.2.1 x.2.2.2.1 y.1 y.2.1 h).trans q
theorem s_f213 (a b:Certificate)(h:Qam a b=true):Qnv a b=some (.t .bool (U7 a b),[]):=by
 have h:(Qr a).length<=100000:=Bx h
 unfold Qnv
 refine brF (brF (brF (brF (brF (brF (brF (brF (brF (brF (brF ?_))))))))))
 refine QY (fun g=> ?_) (fun g=> ?_)
 ·have g:ine (Qa (Qr a)) (Qa (Qr b))=true:=g
  rw [g]
  rfl
 ·have g:ine (Qa (Qr a)) (Qa (Qr b))=false:=g
  rw [g]
  have gl:(Qr a).length=(Qr b).length:=by
   simp only [ine,Qa,bne_eq_false_iff_eq] at g
   omega
  refine brY (Be ⟨rfl,BX _,by simp only [Qa];omega,gl,by show ((Qr a).length:Int)<=100000;omega⟩) ?_
  rw [Bu]
  cases WA (Qr a) (Qr b) 0<;>rfl
def Qnw:Ent:=Qk (.pr QV (.pr QV .nil)) (fun x=>(Qam x.1 x.2.1)) (fun x=>(.t .bool (U7 x.1 x.2.1)))
theorem QzO:EM 213 Qnw:=mS (lk:=lkL (lkc QzN lkn)) Qf1 Qnr [((.t 4),some .bool)] false (gB gN) fun m=>Qm m fun x hok=>kT (s_f213 x.1 x.2.1 hok)
def WB (a b:List Certificate)(k:Nat):Bool:=(List.range' k (a.length-k)).all fun j=>U7 (cAt a j) (cAt b j)
def Um (a b:Identity):Bool:= !(!(and (ieq a.1.1 b.1.1) (and (ieq a.1.2.1 b.1.2.1) true)))&&(!ine a.2.1 b.2.1&&(!ine (Qa a.2.2.1) (Qa b.2.2.1)&&WB a.2.2.1 b.2.2.1 0))
def Qf2 (a b:Identity):Bool:=Jm a&&Jm b
abbrev Qaq:Sh:=⟨[(2,.ptr 2 0),(3,.ptr 3 0),(29,.ty tI),(30,.ty tI)],[(2,.box Q0),(3,.box Q0)]⟩
def Qf3:Fg:=Qaq.f
def Qnx:TC:=aF Tryz.f193 [(58,pL 0 Qf3),(933,.fg Fd.f),(7474,pD [(0,[2]),(1,[2]),(2,[]),(3,[]),(4,[]),(5,[3]),(6,[3]),(7,[]),(8,[]),(9,[]),(10,[]),(11,[])] (.of [0,1,2,3,4,5,6,7,8,9,10,11])),(29901,.fg QfY.f)]
def Qny:TC:=lb 0 Qnx
def Qnz (x29 x30:Int)(y2 y3:Identity):VS:=Qaq.st ((),(),x29,x30,()) (y2,y3,())
def Qf4  : VS:=Fd.st () ()
def QzP:VS->Option (Bool×List (Bool×Exit×VS)):=mkL Qaq (fun x y=>(decide (x.2.2.1=y.1.2.2.1.length/\0<=x.2.2.2.1/\x.2.2.2.1<=x.2.2.1/\y.1.2.2.1.length=y.2.1.2.2.1.length/\x.2.2.1<=100000)&&(Js y.1.2.2.1&&Js y.2.1.2.2.1))) (fun x y=>[((!WB y.1.2.2.1 y.2.1.2.2.1 x.2.2.2.1.toNat),.ret,Fe (false)),(true,.exit 0,Qf4)])
def Qf5:G:=gG 46 [(213,Qnw)] (Ls [QzP])
def Qar (x29 x30:Int)(y2 y3:Identity):OX:=Qv (QB Qf5 Qf3 Qny) (Qnz x29 x30 y2 y3)
def If (kk:Int->Int->Identity->Identity->OX)(x29 x30:Int)(y2 y3:Identity):OX:=
 let a1:=lgt QV y2.2.2.1 (Int.toNat x30)
 let a2:=lgt QV y3.2.2.1 (Int.toNat x30)
 br (ilt x30 x29) (br (cIx y2.2.2.1 x30) (br (cIx y3.2.2.1 x30) (br (Qam a1 a2) (br (!(U7 a1 a2)) (some (.ret,Fe false)) (kk x29 (Qg .i64 x30 1) y2 y3)) none) none) none) (some (.exit 0,Qf4))
def Qas (x29 x30:Int)(y2 y3:Identity):OX:=br (!WB y2.2.2.1 y3.2.2.1 x30.toNat) (some (.ret,Fe (false)))<|some (.exit 0,Qf4)
theorem QnA (x29 x30:Int)(y2 y3:Identity):Qar x29 x30 y2 y3=If Qar x29 x30 y2 y3:=lnT (x:=If (fun x29 x30 y2 y3=>some (.normal,Qnz x29 x30 y2 y3)) x29 x30 y2 y3) (by simp only [If,nxA];rfl)
def QnB (p0 p1:Identity):OV:=
 let a1:=Qa p0.2.2.1
 br (!(and (ieq p0.1.1 p1.1.1) (and (ieq p0.1.2.1 p1.1.2.1) true))) (some (.t .bool false,[])) (br (ine p0.2.1 p1.2.1) (some (.t .bool false,[])) (br (ine a1 (Qa p1.2.2.1)) (some (.t .bool false,[])) (br (decide (a1=p0.2.2.1.length/\0<=(0:Int)/\(0:Int)<=a1/\p0.2.2.1.length=p1.2.2.1.length/\a1<=100000)&&(Js p0.2.2.1&&Js p1.2.2.1)) (br (!WB p0.2.2.1 p1.2.2.1 (0:Int).toNat) (some (.t .bool (false),[])) (some (.t .bool true,[]))) none)))
theorem QzQ (x29 x30:Int)(y2 y3:Identity)(h:(decide (x29=y2.2.2.1.length/\0<=x30/\x30<=x29/\y2.2.2.1.length=y3.2.2.1.length/\x29<=100000)&&(Js y2.2.2.1&&Js y3.2.2.1))=true):Qar x29 x30 y2 y3=Qas x29 x30 y2 y3:=by
 simp only [Bc,Ba] at h
 obtain ⟨⟨rfl,h0,h1,h2,h3⟩,hc,hc2⟩:=h
 obtain ⟨k,rfl⟩:=Bq h0
 refine QR y2.2.2.1 (fun k=>Qar (y2.2.2.1.length:Int) (k:Int) y2 y3=Qas (y2.2.2.1.length:Int) (k:Int) y2 y3) ?_ ?_ k (by omega)
 ·rw [QnA]
  simp only [If,Qas,QC,BV,B2,Qf,Bd,WB,Nat.sub_self]
  rfl
 ·intro k hk ih
  rw [QnA]
  have hk2:k<y3.2.2.1.length:=by omega
  have hs:WB y2.2.2.1 y3.2.2.1 k=(U7 (cAt y2.2.2.1 k) (cAt y3.2.2.1 k)&&WB y2.2.2.1 y3.2.2.1 (k+1)):=by
   have:y2.2.2.1.length-k=(y2.2.2.1.length-(k+1))+1:=by omega
   unfold WB
   rw [this,Du,BU]
  have hq:Qam (cAt y2.2.2.1 k) (cAt y3.2.2.1 k)=true:=by
   rw [Qz4 hk]
   exact Be (Qfh (QnR hc hk))
  simp only [If,QC,QI,hk,hk2,Bv,Qc,Bd,QQ (show k<4611686018427387904 by omega),ih]
  refine brY hq ?_
  simp only [Qas,Bd,hs]
  show br (!U7 (cAt y2.2.2.1 k) (cAt y3.2.2.1 k)) _ _=_
  cases U7 (cAt y2.2.2.1 k) (cAt y3.2.2.1 k)<;>rfl
theorem QzR:LO Qf5 Qf3 Qny 0:=QH (s:=Qaq) fun x y h _ q=>by simp only [QF,QG] at q;exact (QzQ x.2.2.1 x.2.2.2.1 y.1 y.2.1 h).trans q
theorem s_f193 (a b:Identity)(h:Qf2 a b=true):QnB a b=some (.t .bool (Um a b),[]):=by
 obtain ⟨ha,hb⟩:=Bi.1 h
 have ha:Js a.2.2.1=true:=ha
 have hb:Js b.2.2.1=true:=hb
 have hl:=QnS ha
 unfold QnB
 refine brF (brF ?_)
 refine QY (fun g=> ?_) (fun g=> ?_)
 ·rw [g]
  rfl
 ·rw [g]
  have gl:a.2.2.1.length=b.2.2.1.length:=by
   simp only [ine,Qa,bne_eq_false_iff_eq] at g
   omega
  refine brY ?_ ?_
  ·rw [ha,hb,Be ⟨rfl,BX _,by simp only [Qa];omega,gl,by simp only [Qa];omega⟩]
   rfl
  ·rw [Bu]
   cases WB a.2.2.1 b.2.2.1 0<;>rfl
def QnC:Ent:=Qk (.pr Q0 (.pr Q0 .nil)) (fun x=>(Qf2 x.1 x.2.1)) (fun x=>(.t .bool (Um x.1 x.2.1)))
theorem QzS:EM 193 QnC:=mS (lk:=lkL (lkc QzR lkn)) Qf5 Qnx [((.t 4),some .bool)] false (gB (gD QzO gN)) fun m=>Qm m fun x hok=>kT (s_f193 x.1 x.2.1 hok)
def J6 (l:List Int)(n:Int):Int:=match QD (fun y=>ieq y n) l with|some k=>(k:Int)|none=> -1
abbrev Qat:Sh:=⟨[(1,.ty tI),(7,.ty (.sl tI)),(8,.ty tI),(9,.ty tI)],[]⟩
abbrev QnD:Sh:=⟨[(4,.ty tI)],[]⟩
def Qf6:Fg:=Qat.f
def QnE:TC:=aF Tryz.f155 [(26,pL 0 Qf6),(421,.fg Fd.f),(13517,.fg QnD.f)]
def QnF:TC:=lb 0 QnE
def QnG (x1:Int)(x7:List Int)(x8 x9:Int):VS:=Qat.st (x1,x7,x8,x9,()) ()
def Qf7 (x4:Int):VS:=QnD.st (x4,()) ()
def Qf8  : VS:=Fd.st () ()
def QzT:VS->Option (Bool×List (Bool×Exit×VS)):=mkL Qat (fun x y=>(Qt x.2.1 x.2.2.1 x.2.2.2.1)) (fun x y=>[(((QD (fun y=>ieq y x.1) (x.2.1.drop x.2.2.2.1.toNat)).isSome),.ret,Qf7 (x.2.2.2.1+((QD (fun y=>ieq y x.1) (x.2.1.drop x.2.2.2.1.toNat)).getD 0:Nat))),(true,.exit 0,Qf8)])
def Qf9:G:=gG 19 [] (Ls [QzT])
def Qau (x1:Int)(x7:List Int)(x8 x9:Int):OX:=Qv (QB Qf9 Qf6 QnF) (QnG x1 x7 x8 x9)
def Ig (kk:Int->List Int->Int->Int->OX)(x1:Int)(x7:List Int)(x8 x9:Int):OX:=br (ilt x9 x8) (br (cIx x7 x9) (br (ieq (lgt tI x7 (Int.toNat x9)) x1) (some (.ret,Qf7 x9)) (kk x1 x7 x8 (Qg .i64 x9 1))) none) (some (.exit 0,Qf8))
def Qav (x1:Int)(x7:List Int)(x8 x9:Int):OX:=br ((QD (fun y=>ieq y x1) (x7.drop x9.toNat)).isSome) (some (.ret,Qf7 (x9+((QD (fun y=>ieq y x1) (x7.drop x9.toNat)).getD 0:Nat))))<|some (.exit 0,Qf8)
theorem QnH (x1:Int)(x7:List Int)(x8 x9:Int):Qau x1 x7 x8 x9=Ig Qau x1 x7 x8 x9:=lnT (x:=Ig (fun x1 x7 x8 x9=>some (.normal,QnG x1 x7 x8 x9)) x1 x7 x8 x9) (by simp only [Ig,nxA];rfl)
def QnI (p0:List Int)(p1:Int):OV:=
 let a1:=(p0.drop (0:Int).toNat)
 br (Qt p0 (Qa p0) (0:Int)) (br ((QD (fun y=>ieq y p1) a1).isSome) (some (.t tI ((0:Int)+((QD (fun y=>ieq y p1) a1).getD 0:Nat)),[])) (some (.t tI (-1),[]))) none
theorem QzU (x1:Int)(x7:List Int)(x8 x9:Int)(h:(Qt x7 x8 x9)=true):Qau x1 x7 x8 x9=Qav x1 x7 x8 x9:=by
 obtain ⟨rfl,h3,k,rfl,hk⟩:=Jy h
 clear h
 refine QR x7 (fun k=>Qau x1 x7 (x7.length:Int) (k:Int)=Qav x1 x7 (x7.length:Int) (k:Int)) ?_ ?_ k hk
 ·rw [QnH]
  simp [Ig,Qav,QC,Qf,QD]
 ·intro k hk ih
  rw [QnH]
  simp only [Ig,QC,QI,hk,Bv,Qc,Bd,QQ (show k<4611686018427387904 by omega),ih,QP (y:=tI) hk]
  simp only [Qav,Bd,Bj hk,QD]
  cases h:(ieq x7[k] x1) with
  |true=>simp [Qc]
  |false=>
   simp only [Qf,BK,Do]
   cases hq:QD (fun y=>ieq y x1) (x7.drop (k+1)) with
   |none=>rfl
   |some j=>
    simp only [B0,B8,BI,Qc]
    congr 3
    omega
theorem QzV:LO Qf9 Qf6 QnF 0:=QH (s:=Qat) fun x y h _ q=>by simp only [QF,QG] at q;exact (QzU x.1 x.2.1 x.2.2.1 x.2.2.2.1 h).trans q
theorem s_f155 (l:List Int)(n:Int)(h:Jk l n=true):QnI l n=some (.t tI (J6 l n),[]):=by
 have hl:l.length<=100000:=Bx h
 simp only [QnI,Jz hl,Qc,Bu,BA,J6]
 cases QD (fun y=>ieq y n) l<;>simp [Qc,Qf]
def Qga:Ent:=Qk (.pr (.sl tI) (.pr tI .nil)) (fun x=>(Jk x.1 x.2.1)) (fun x=>(.t tI (J6 x.1 x.2.1)))
theorem QnJ:EM 155 Qga:=mS (lk:=lkL (lkc QzV lkn)) Qf9 QnE [((.t 4),some tI)] false (gB gN) fun m=>Qm m fun x hok=>kT (s_f155 x.1 x.2.1 hok)
def Ff (b:Bool):Int:=bif b then 1 else 0
def QzW:TC:=aF Tryz.f194 []
def g_f194:G:=gG 4 [] (fun _ _=>none)
def QnK (p0:Bool):OV:=br (p0) (some (.t tI 1,[])) (some (.t tI 0,[]))
theorem s_f194 (b:Bool):QnK b=some (.t tI (Ff b),[]):=by
 simp only [QnK]
 cases b<;>rfl
def QnL:Ent:=Qk (.pr .bool .nil) (fun x=>true) (fun x=>(.t tI (Ff x.1)))
theorem QzX:EM 194 QnL:=mS g_f194 QzW [((.t 2),some tI)] false (gB gN) fun m=>Qm m fun x _=>kT (s_f194 x.1)
def WC (e:Endpoint)(k:Int):Int×Bool:=bif ieq k 3 then (e.2.2.1,true) else bif ieq k 4 then (e.2.1,true) else bif ieq k 11 then (Ff e.2.2.2.2.2.2.2.2.1,true) else bif ieq k 12 then (Ff e.2.2.2.2.1,true) else (0,false)
def QzY:TC:=aF Tryz.f156 []
def g_f156:G:=gG 25 [(194,QnL)] (fun _ _=>none)
def QnM (p0:Endpoint)(p1:Int):OV:=br (ieq p1 3) (some (.tu [(.t tI p0.2.2.1),(.t .bool true)],[])) (br (ieq p1 4) (some (.tu [(.t tI p0.2.1),(.t .bool true)],[])) (br (ieq p1 11) (some (.tu [(.t tI (Ff p0.2.2.2.2.2.2.2.2.1)),(.t .bool true)],[])) (br (ieq p1 12) (some (.tu [(.t tI (Ff p0.2.2.2.2.1)),(.t .bool true)],[])) (some (.tu [(.t tI 0),(.t .bool false)],[])))))
theorem s_f156 (e:Endpoint)(k:Int):QnM e k=some (.tu [.t tI (WC e k).1,.t .bool (WC e k).2],[]):=by
 simp only [QnM]
 unfold WC
 cases ieq k 3<;>cases ieq k 4<;>cases ieq k 11<;>cases ieq k 12<;>rfl
def QnN:Ent:=Qk (.pr Qo (.pr tI .nil)) (fun x=>true) (fun x=>(.tu [(.t tI ((WC x.1 x.2.1).1)),(.t .bool ((WC x.1 x.2.1).2))]))
theorem QzZ:EM 156 QnN:=mS g_f156 QzY [((.t 4),some tI),((.t 5),some .bool)] false (gB (gD QzX gN)) fun m=>Qm m fun x _=>kT (s_f156 x.1 x.2.1)
def Zt (e:Endpoint)(k:Int):List Int×Bool×Bool:=
 bif ieq k 1||ieq k 2 then (Qu e,ieq k 1,true) else bif ieq k 7||ieq k 8 then (Q3 e,ieq k 7,true) else bif ieq k 9||ieq k 10 then (Q6 e,ieq k 9,true) else ([],false,false)
def Qz0:TC:=aF Tryz.f154 []
def g_f154:G:=gG 29 [] (fun _ _=>none)
def Qgb (p0:Endpoint)(p1:Int):OV:=br (ieq p1 9) (br (ieq p1 9) (some (.tu [(.t (.sl tI) p0.2.2.2.2.2.2.2.1),(.t .bool (ieq p1 9)),(.t .bool true)],[])) (some (.tu [(.t (.sl tI) ([]:List Int)),(.t .bool false),(.t .bool false)],[]))) (br (ieq p1 10) (some (.tu [(.t (.sl tI) p0.2.2.2.2.2.2.2.1),(.t .bool (ieq p1 9)),(.t .bool true)],[])) (some (.tu [(.t (.sl tI) ([]:List Int)),(.t .bool false),(.t .bool false)],[])))
def Qgc (p0:Endpoint)(p1:Int):OV:=br (ieq p1 7) (br (ieq p1 7) (some (.tu [(.t (.sl tI) p0.2.2.2.2.2.2.1),(.t .bool (ieq p1 7)),(.t .bool true)],[])) (Qgb p0 p1)) (br (ieq p1 8) (some (.tu [(.t (.sl tI) p0.2.2.2.2.2.2.1),(.t .bool (ieq p1 7)),(.t .bool true)],[])) (Qgb p0 p1))
def QnO (p0:Endpoint)(p1:Int):OV:=br (ieq p1 1) (br (ieq p1 1) (some (.tu [(.t (.sl tI) p0.2.2.2.1),(.t .bool (ieq p1 1)),(.t .bool true)],[])) (Qgc p0 p1)) (br (ieq p1 2) (some (.tu [(.t (.sl tI) p0.2.2.2.1),(.t .bool (ieq p1 1)),(.t .bool true)],[])) (Qgc p0 p1))
theorem s_f154 (e:Endpoint)(k:Int):QnO e k=some (.tu [.t (.sl tI) (Zt e k).1,.t .bool (Zt e k).2.1,.t .bool (Zt e k).2.2],[]):=by
 simp only [QnO,Qgc,Qgb]
 unfold Zt
 cases ieq k 1<;>cases ieq k 2<;>cases ieq k 7<;>cases ieq k 8<;>cases ieq k 9<;>cases ieq k 10<;>rfl
def QnP:Ent:=Qk (.pr Qo (.pr tI .nil)) (fun x=>true) (fun x=>(.tu [(.t (.sl tI) ((Zt x.1 x.2.1).1)),(.t .bool (((Zt x.1 x.2.1).2).1)),(.t .bool (((Zt x.1 x.2.1).2).2))]))
theorem Qz1:EM 154 QnP:=mS g_f154 Qz0 [((.t 4),some (.sl tI)),((.t 5),some .bool),((.t 6),some .bool)] false (gB gN) fun m=>Qm m fun x _=>kT (s_f154 x.1 x.2.1)
end
end Go.Proofs.YtmjnnemhoeolgaaGreat.K
noncomputable section
namespace Go.Proofs.YtmjnnemhoeolgaaGreat.K
open Go.RowKit
noncomputable section
theorem Ux {y:Ty}{l:List y.T}{a:Int}(h0:0<=a)(h1:a<=l.length):(lsl l 0 a).length=a.toNat:=by
 simp only [lsl,B7,Dn,Bu]
 omega
theorem Uy {y:Ty}{l:List y.T}{a:Int}(h0:0<=a)(h1:a<=l.length):(lsl l a (l.length:Int)).length=l.length-a.toNat:=by
 simp only [lsl,B7,Dn,Bd]
 omega
def Xq (l:List Int)(a n:Int):List Int:=((([]:List Int)++(lsl l 0 a))++([n]))++(lsl l a ((List.length l:Nat):Int))
def QbF (l:List Int)(a _n:Int):Bool:=decide (0<=a/\a<=l.length/\l.length<=100000)
theorem QqT {l:List Int}{a n:Int}(h0:0<=a)(h1:a<=l.length):(Xq l a n).length=l.length+1:=by
 have e1:=Ux (y:=tI) (l:=l) h0 h1
 have e2:=Uy (y:=tI) (l:=l) h0 h1
 unfold Xq
 simp only [Bl,BD,Bp]
 omega
def QDi:TC:=aF Tryz.f158 []
def g_f158:G:=gG 21 [] (fun _ _=>none)
def QqU (p0:List Int)(p1 p2:Int):OV:=
 let a1:=(List.length p0:Nat)
 br (cSl p0 0 p1 (a1:Int)) (br (QJ ([]:List Int) (lsl p0 0 p1) 8) (br (QJ (([]:List Int)++(lsl p0 0 p1)) ([p2]) 8) (br (cSl p0 p1 (a1:Int) (a1:Int)) (br (QJ ((([]:List Int)++(lsl p0 0 p1))++([p2])) (lsl p0 p1 (a1:Int)) 8) (some (.t (.sl tI) (((([]:List Int)++(lsl p0 0 p1))++([p2]))++(lsl p0 p1 (a1:Int))),[])) none) none) none) none) none
theorem s_f158 (l:List Int)(a n:Int)(h:QbF l a n=true):QqU l a n=some (.t (.sl tI) (Xq l a n),[]):=by
 obtain ⟨h0,h1,h2⟩:=Bx h
 have e1:=Ux (y:=tI) (l:=l) h0 h1
 have e2:=Uy (y:=tI) (l:=l) h0 h1
 simp only [QqU]
 refine brY (Be ⟨by omega,by omega,by omega,by omega⟩) (brY (Ji (by decide) (by simp only [BD];omega)) (brY (Ji (by decide) (by simp only [Bl,BD,Bp];omega)) (brY (Be ⟨by omega,by omega,by omega,by omega⟩) (brY (Ji (by decide) (by simp only [Bl,BD,Bp];omega)) rfl))))
def QhK:Ent:=Qk (.pr (.sl tI) (.pr tI (.pr tI .nil))) (fun x=>(QbF x.1 x.2.1 x.2.2.1)) (fun x=>(.t (.sl tI) (Xq x.1 x.2.1 x.2.2.1)))
theorem QqV:EM 158 QhK:=mS g_f158 QDi [((.t 6),some (.sl tI))] false (gB gN) fun m=>Qm m fun x hok=>kT (s_f158 x.1 x.2.1 x.2.2.1 hok)
def woF (l:List Int)(a:Int):List Int:=(([]:List Int)++(lsl l 0 a))++(lsl l (Qg .i64 a 1) ((List.length l:Nat):Int))
def Uz (l:List Int)(a:Int):Bool:=decide (0<=a/\a<l.length/\l.length<=100000)
theorem QhL {l:List Int}{a:Int}(h:Uz l a=true):(woF l a).length+1=l.length:=by
 obtain ⟨h0,h1,h2⟩:=Bx h
 have e0:Qg .i64 a 1=a+1:=J5 (by omega)
 have e1:=Ux (y:=tI) (l:=l) (a:=a) h0 (by omega)
 have e2:=Uy (y:=tI) (l:=l) (a:=a+1) (by omega) (by omega)
 unfold woF
 rw [e0]
 simp only [Bl,BD]
 omega
def QDj:TC:=aF Tryz.f159 []
def g_f159:G:=gG 16 [] (fun _ _=>none)
def QqW (p0:List Int)(p1:Int):OV:=
 let a1:=(List.length p0:Nat)
 let a2:=(lsl p0 (Qg .i64 p1 1) (a1:Int))
 br (cSl p0 0 p1 (a1:Int)) (br (QJ ([]:List Int) (lsl p0 0 p1) 8) (br (cSl p0 (Qg .i64 p1 1) (a1:Int) (a1:Int)) (br (QJ (([]:List Int)++(lsl p0 0 p1)) a2 8) (some (.t (.sl tI) ((([]:List Int)++(lsl p0 0 p1))++a2),[])) none) none) none) none
theorem s_f159 (l:List Int)(a:Int)(h:Uz l a=true):QqW l a=some (.t (.sl tI) (woF l a),[]):=by
 obtain ⟨h0,h1,h2⟩:=Bx h
 have e0:Qg .i64 a 1=a+1:=J5 (by omega)
 have e1:=Ux (y:=tI) (l:=l) (a:=a) h0 (by omega)
 have e2:=Uy (y:=tI) (l:=l) (a:=a+1) (by omega) (by omega)
 unfold woF
 simp only [QqW,e0]
 refine brY (Be ⟨by omega,by omega,by omega,by omega⟩) (brY (Ji (by decide) (by simp only [BD];omega)) (brY (Be ⟨by omega,by omega,by omega,by omega⟩) (brY (Ji (by decide) (by simp only [Bl,BD];omega)) rfl)))
def QqX:Ent:=Qk (.pr (.sl tI) (.pr tI .nil)) (fun x=>(Uz x.1 x.2.1)) (fun x=>(.t (.sl tI) (woF x.1 x.2.1)))
theorem QDk:EM 159 QqX:=mS g_f159 QDj [((.t 4),some (.sl tI))] false (gB gN) fun m=>Qm m fun x hok=>kT (s_f159 x.1 x.2.1 hok)
def Xs (n:Int):List Int->Nat
 | []=>0
 |x::r=>bif ilt x n then Xs n r+1 else 0
theorem QhM (n:Int): ∀ l:List Int,Xs n l<=l.length
 | []=>BJ _
 |x::r=>by
  have:=QhM n r
  unfold Xs
  cases ilt x n<;>simp only [Dl,Di,Bt]<;>omega
def Gn (l:List Int)(n:Int):List Int:=Xq l (Xs n l) n
abbrev IV:Sh:=⟨[(0,.ty (.sl tI)),(1,.ty tI),(5,.ty tI)],[]⟩
def QhN:Fg:=IV.f
def QqY:TC:=aF Tryz.f161 [(28,pL 0 QhN),(451,.fg IV.f)]
def QqZ:TC:=lb 0 QqY
def FX (x0:List Int)(x1 x5:Int):VS:=IV.st (x0,x1,x5,()) ()
def QDl:VS->Option (Bool×List (Bool×Exit×VS)):=mkL IV (fun x y=>(decide (0<=x.2.2.1/\x.2.2.1<=x.1.length/\x.1.length<=100000))) (fun x y=>[(true,.exit 0,FX (x.1) (x.2.1) (x.2.2.1+Xs x.2.1 (x.1.drop x.2.2.1.toNat)))])
def QhO:G:=gG 24 [(158,QhK)] (Ls [QDl])
def QbG (x0:List Int)(x1 x5:Int):OX:=Qv (QB QhO QhN QqZ) (FX x0 x1 x5)
def IW (kk:List Int->Int->Int->OX)(x0:List Int)(x1 x5:Int):OX:=br (ilt x5 (Qa x0)) (br (cIx x0 x5) (br (ilt (lgt tI x0 (Int.toNat x5)) x1) (kk x0 x1 (Qg .i64 x5 1)) (some (.exit 0,FX x0 x1 x5))) none) (some (.exit 0,FX x0 x1 x5))
def QbH (x0:List Int)(x1 x5:Int):OX:=some (.exit 0,FX (x0) (x1) (x5+Xs x1 (x0.drop x5.toNat)))
theorem Qq0 (x0:List Int)(x1 x5:Int):QbG x0 x1 x5=IW QbG x0 x1 x5:=lnT (x:=IW (fun x0 x1 x5=>some (.normal,FX x0 x1 x5)) x0 x1 x5) (by simp only [IW,nxA];rfl)
def Qq1 (p0:List Int)(p1:Int):OV:=
 let a1:=(p0.drop (0:Int).toNat)
 br (decide (0<=(0:Int)/\(0:Int)<=p0.length/\p0.length<=100000)) (br (QbF (p0) ((0:Int)+Xs p1 a1) (p1)) (some (.t (.sl tI) (Xq (p0) ((0:Int)+Xs p1 a1) (p1)),[])) none) none
theorem QDm (x0:List Int)(x1 x5:Int)(h:(decide (0<=x5/\x5<=x0.length/\x0.length<=100000))=true):QbG x0 x1 x5=QbH x0 x1 x5:=by
 obtain ⟨h0,h1,h2⟩:=Bx h
 obtain ⟨k,rfl⟩:=Bq h0
 refine QR x0 (fun k=>QbG x0 x1 (k:Int)=QbH x0 x1 (k:Int)) ?_ ?_ k (by omega)
 ·rw [Qq0]
  simp only [IW,QbH,Qa,QC,BV,B2,Qf,Bd,BQ,Xs,Int.natCast_zero,Int.add_zero]
 ·intro k hk ih
  rw [Qq0]
  simp only [IW,Qa,QC,QI,hk,Bv,Qc,Bd,QQ (show k<4611686018427387904 by omega),ih,QP (y:=tI) hk]
  simp only [QbH,Bd,Bj hk,Xs]
  cases ilt x0[k] x1 with
  |false=>simp only [Qf,Di,Int.natCast_zero,Int.add_zero]
  |true=>simp only [Qc,Dl,Int.natCast_add,Int.natCast_one,show (k:Int)+1+(Xs x1 (x0.drop (k+1)):Int)=k+(Xs x1 (x0.drop (k+1))+1) by omega]
theorem QDn:LO QhO QhN QqZ 0:=QH (s:=IV) fun x y h _ q=>by simp only [QF,QG] at q;exact (QDm x.1 x.2.1 x.2.2.1 h).trans q
theorem s_f161 (l:List Int)(n:Int)(h:Jk l n=true):Qq1 l n=some (.t (.sl tI) (Gn l n),[]):=by
 have hl:l.length<=100000:=Bx h
 have hz:=QhM n l
 simp only [Qq1,Bu,BA,Int.zero_add]
 exact brY (Be ⟨by omega,by omega,hl⟩) (brY (Be ⟨by omega,by omega,hl⟩) rfl)
def Qq2:Ent:=Qk (.pr (.sl tI) (.pr tI .nil)) (fun x=>(Jk x.1 x.2.1)) (fun x=>(.t (.sl tI) (Gn x.1 x.2.1)))
theorem QDo:EM 161 Qq2:=mS (lk:=lkL (lkc QDn lkn)) QhO QqY [((.t 4),some (.sl tI))] false (gB (gD QqV gN)) fun m=>Qm m fun x hok=>kT (s_f161 x.1 x.2.1 hok)
def YK (id:Int):List Identity->Int->Int×Int->Int×Int
 | [],_,p=>p
 |x::r,i,p=>YK id r (i+1) (bif ieq x.2.1 id then (p.1+1,bif ieq p.1 0 then i else p.2) else p)
def JE (e:Endpoint)(id:Int):Int×Int:=YK id (QA e) 0 (0, -1)
theorem QhP (id:Int): ∀ (l:List Identity) (i:Int) (p:Int×Int),0<=i->0<=p.1->(0<p.1->0<=p.2/\p.2<i)->0<=(YK id l i p).1/\(0<(YK id l i p).1->0<=(YK id l i p).2/\(YK id l i p).2<i+l.length)
 | [],i,p,h0,h1,h2=>⟨h1,fun h=>by have:=h2 h;simp only [YK,BD];omega⟩
 |x::r,i,p,h0,h1,h2=>by
  unfold YK
  have e:i+((x::r).length:Int)=i+1+r.length:=by simp only [Bt];omega
  rw [e]
  cases hq:ieq x.2.1 id with
  |false=>exact QhP id r (i+1) p (by omega) h1 (fun h=>by have:=h2 h;omega)
  |true=>
   refine QhP id r (i+1) _ (by omega) (by simp only [Dl];omega) (fun _=> ?_)
   simp only [Dl]
   cases hz:ieq p.1 0 with
   |true=>simp only [Dl];omega
   |false=>
    have:0<p.1:=by simp only [YA,Bo] at hz;omega
    have:=h2 this
    simp only [Di]
    omega
abbrev QbI:Sh:=⟨[(1,.ty tI),(6,.ty tI),(7,.ty tI),(11,.ty (.sl Q0)),(12,.ty tI),(13,.ty tI)],[]⟩
abbrev Qq3:Sh:=⟨[(6,.ty tI),(7,.ty tI)],[]⟩
def QhQ:Fg:=QbI.f
def Qq4:TC:=aF Tryz.f157 [(58,pL 0 QhQ),(933,.fg Qq3.f)]
def Qq5:TC:=lb 0 Qq4
def Qq6 (x1 x6 x7:Int)(x11:List Identity)(x12 x13:Int):VS:=QbI.st (x1,x6,x7,x11,x12,x13,()) ()
def QhR (x6 x7:Int):VS:=Qq3.st (x6,x7,()) ()
def QDp:VS->Option (Bool×List (Bool×Exit×VS)):=mkL QbI (fun x y=>(Qt x.2.2.2.1 x.2.2.2.2.1 x.2.2.2.2.2.1&&decide (0<=x.2.1/\x.2.1<=x.2.2.2.2.2.1))) (fun x y=>[(true,.exit 0,QhR ((YK x.1 (x.2.2.2.1.drop x.2.2.2.2.2.1.toNat) x.2.2.2.2.2.1 (x.2.1,x.2.2.1)).1) ((YK x.1 (x.2.2.2.1.drop x.2.2.2.2.2.1.toNat) x.2.2.2.2.2.1 (x.2.1,x.2.2.1)).2))])
def QhS:G:=gG 30 [] (Ls [QDp])
def QbJ (x1 x6 x7:Int)(x11:List Identity)(x12 x13:Int):OX:=Qv (QB QhS QhQ Qq5) (Qq6 x1 x6 x7 x11 x12 x13)
def IX (kk:Int->Int->Int->List Identity->Int->Int->OX)(x1 x6 x7:Int)(x11:List Identity)(x12 x13:Int):OX:=
 let a1:=Qg .i64 x13 1
 br (ilt x13 x12) (br (cIx x11 x13) (br (ieq (((lgt Q0 x11 (Int.toNat x13)).2).1) x1) (br (ieq x6 0) (kk x1 (Qg .i64 x6 1) x13 x11 x12 a1) (kk x1 (Qg .i64 x6 1) x7 x11 x12 a1)) (kk x1 x6 x7 x11 x12 a1)) none) (some (.exit 0,QhR x6 x7))
def QbK (x1 x6 x7:Int)(x11:List Identity)(x12 x13:Int):OX:=
 let a1:=(YK x1 (x11.drop x13.toNat) x13 (x6,x7))
 some (.exit 0,QhR (a1.1) (a1.2))
theorem Qq7 (x1 x6 x7:Int)(x11:List Identity)(x12 x13:Int):QbJ x1 x6 x7 x11 x12 x13=IX QbJ x1 x6 x7 x11 x12 x13:=lnT (x:=IX (fun x1 x6 x7 x11 x12 x13=>some (.normal,Qq6 x1 x6 x7 x11 x12 x13)) x1 x6 x7 x11 x12 x13) (by simp only [IX,nxA];rfl)
def Qq8 (p0:Endpoint)(p1:Int):OV:=
 let a1:=(YK p1 (p0.2.2.2.2.2.1.drop (0:Int).toNat) (0:Int) ((0:Int),(-1)))
 br (Qt p0.2.2.2.2.2.1 (Qa p0.2.2.2.2.2.1) (0:Int)&&decide (0<=(0:Int)/\(0:Int)<=(0:Int))) (some (.tu [(.t tI (a1.1)),(.t tI (a1.2))],[])) none
theorem QDq (x1 x6 x7:Int)(x11:List Identity)(x12 x13:Int)(h:(Qt x11 x12 x13&&decide (0<=x6/\x6<=x13))=true):QbJ x1 x6 x7 x11 x12 x13=QbK x1 x6 x7 x11 x12 x13:=by
 simp only [Bc,Ba] at h
 obtain ⟨h,g0,g1⟩:=h
 obtain ⟨rfl,h3,k,rfl,hk⟩:=Jy h
 clear h
 revert x6 x7
 refine QR x11 (fun k=> ∀ x6 x7:Int,0<=x6->x6<=(k:Int)->QbJ x1 x6 x7 x11 (x11.length:Int) (k:Int)=QbK x1 x6 x7 x11 (x11.length:Int) (k:Int)) ?_ ?_ k hk
 ·intro x6 x7 _ _
  rw [Qq7]
  simp only [IX,QbK,QC,BV,B2,Qf,Bd,BQ,YK]
 ·intro k hk ih x6 x7 g0 g1
  rw [Qq7]
  have e1:Qg .i64 x6 1=x6+1:=J5 (by omega)
  simp only [IX,QC,QI,hk,Bv,Qc,Bd,QQ (show k<4611686018427387904 by omega),e1,QP (y:=Q0) hk]
  rw [ih (x6+1) (k:Int) (by omega) (by omega),ih (x6+1) x7 (by omega) (by omega),ih x6 x7 g0 (by omega)]
  simp only [QbK,Bd,Bj hk,YK,Int.natCast_add,Int.natCast_one]
  cases ieq x11[k].2.1 x1<;>cases ieq x6 0<;>rfl
theorem QDr:LO QhS QhQ Qq5 0:=QH (s:=QbI) fun x y h _ q=>by simp only [QF,QG] at q;exact (QDq x.1 x.2.1 x.2.2.1 x.2.2.2.1 x.2.2.2.2.1 x.2.2.2.2.2.1 h).trans q
theorem s_f157 (e:Endpoint)(id:Int)(h:Xx e id=true):Qq8 e id=some (.tu [.t tI (JE e id).1,.t tI (JE e id).2],[]):=by
 have hl:(QA e).length<=100000:=Bx h
 simp only [Qq8,Bu,BA]
 refine brY ?_ rfl
 rw [Jz hl,BE]
 exact Be ⟨BX _,BX _⟩
def QhT:Ent:=Qk (.pr Qo (.pr tI .nil)) (fun x=>(Xx x.1 x.2.1)) (fun x=>(.tu [(.t tI ((JE x.1 x.2.1).1)),(.t tI ((JE x.1 x.2.1).2))]))
theorem Qq9:EM 157 QhT:=mS (lk:=lkL (lkc QDr lkn)) QhS Qq4 [((.t 4),some tI),((.t 5),some tI)] false (gB gN) fun m=>Qm m fun x hok=>kT (s_f157 x.1 x.2.1 hok)
def FY:Identity:=((0,(0,())),(0,(([]:List Certificate),())))
abbrev QZ (c:Change):Int:=c.2.1
abbrev Q8 (c:Change):Int:=c.2.2.1
abbrev ZQ (c:Change):Int:=c.2.2.2.1
abbrev Z1 (c:Change):Identity:=c.2.2.2.2.1
def fmC (c:Change):Bool:=bif ieq (QZ c) 1 then Um (Z1 c) FY else bif ieq (QZ c) 5 then ieq (Q8 c) 0 else ige (QZ c) 1&&(ile (QZ c) 12&&(Um (Z1 c) FY&&ieq (ZQ c) 0))
def QhU (c:Change):Bool:=Jm (Z1 c)
def QDs:TC:=aF Tryz.f153 []
def g_f153:G:=gG 34 [(193,QnC)] (fun _ _=>none)
def Qra (p0:Change):OV:=
 let a1:=(Um p0.2.2.2.2.1 ((0,(0,())),(0,(([]:List Certificate),()))))
 br (Qf2 p0.2.2.2.2.1 ((0,(0,())),(0,(([]:List Certificate),())))) (br (ieq p0.2.1 1) (some (.t .bool a1,[])) (br (ieq p0.2.1 5) (some (.t .bool (ieq p0.2.2.1 0),[])) (br (ige p0.2.1 1) (br (ile p0.2.1 12) (br a1 (some (.t .bool (ieq p0.2.2.2.1 0),[])) (some (.t .bool false,[]))) (some (.t .bool false,[]))) (some (.t .bool false,[]))))) none
theorem s_f153 (c:Change)(h:QhU c=true):Qra c=some (.t .bool (fmC c),[]):=by
 have h:Jm (Z1 c)=true:=h
 simp only [Qra]
 refine brY (Bi.2 ⟨h,(show Jm FY=true from rfl)⟩) ?_
 unfold fmC
 show br (ieq (QZ c) 1) (some (V.t .bool (Um (Z1 c) FY),([]:List VO))) (br (ieq (QZ c) 5) (some (V.t .bool (ieq (Q8 c) 0),([]:List VO))) (br (ige (QZ c) 1) (br (ile (QZ c) 12) (br (Um (Z1 c) FY) (some (V.t .bool (ieq (ZQ c) 0),([]:List VO))) (some (V.t .bool false,([]:List VO)))) (some (V.t .bool false,([]:List VO)))) (some (V.t .bool false,([]:List VO)))))=_
 cases ieq (QZ c) 1<;>cases ieq (QZ c) 5<;>cases ige (QZ c) 1<;>cases ile (QZ c) 12<;>cases Um (Z1 c) FY<;>rfl
def Qrb:Ent:=Qk (.pr UJ .nil) (fun x=>(QhU x.1)) (fun x=>(.t .bool (fmC x.1)))
theorem QDt:EM 153 Qrb:=mS g_f153 QDs [((.t 2),some .bool)] false (gB (gD QzS gN)) fun m=>Qm m fun x hok=>kT (s_f153 x.1 hok)
end
end Go.Proofs.YtmjnnemhoeolgaaGreat.K
