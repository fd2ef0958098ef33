import Derived.Test.YtckcgijklnloiaaGreatQ6
import Derived.Test.YtckcgijklnloiaaGreatQ4
set_option linter.unusedSimpArgs false
set_option linter.unusedVariables false
noncomputable section
namespace Go.Proofs.YtckcgijklnloiaaGreat.K
open Go.RowKit
noncomputable section
abbrev Qbg (l:List Qf):Qf:=cAt l (l.length-1)
def Wi (l:List Qf)(a h:List Int)(d:Int)(n:ByteArray):Int:=
 if l.length=0 then 4 else if 8<l.length then 3 else
 bif Ug l then 9 else bif !XG (QO (cAt l 0)) n then 14 else bif Xd l h d 13 then 13 else bif Xd l h d 7 then 7 else
 bif ZR l 11 then 11 else bif ZR l 15 then 15 else bif ZR l 10 then 10 else bif !QY a (Xb (Qbg l)).1 then 12 else 0
def XD (l:List Qf)(a h:List Int)(_d:Int)(_n:ByteArray):Bool:=Jf l&&decide (a.length<=100000/\h.length<=100000)
def EG (l:List Qf)(h:List Int)(d:Int)(k:Nat):Option Int:=(([13,7]:List Int).drop k).find? fun e=>Xd l h d e
def GK (l:List Qf)(k:Nat):Option Int:=(([11,15,10]:List Int).drop k).find? fun e=>ZR l e
theorem QzF {l:List Qf}(h:Jf l=true){k:Nat}(hk:k<l.length):(QO (cAt l k)).length<=100000:=Qip (Qnk h hk)
abbrev GL:Type:=Int×Int×Int×Unit
abbrev Qf4:Sh:=⟨[(0,.ty (.sl QE)),(1,.ty (.sl tI)),(7,.ptr 7 0),(8,.ptr 8 0),(34,.ty Qh),(35,.ty tI)],[(7,.box (.sl tI)),(8,.box tI)]⟩
abbrev Qf5:Sh:=⟨[(10,.ty tI)],[]⟩
abbrev Qn1:Sh:=⟨[(0,.ty (.sl QE)),(1,.ty (.sl tI))],[]⟩
def Qn2:Fg:=Qf4.f
def Qn3:TC:=(.sq (.reg (rT Tryz.f57 10)) (.sq (.cd (.t 36) .sk (.fg Qn1.f (.ex 1))) (.sq (.bk 2 (.sq (.reg (rT Tryz.f57 11)) (.sq (.reg (rT Tryz.f57 12)) (.cd (.t 40) (.sq (.reg (rT Tryz.f57 13)) (.fg Qf5.f .rt)) .sk)))) (.reg (rT Tryz.f57 14)))))
def Qf6:Fg:=⟨[(0,some (.sl QE)),(1,some (.sl tI)),(43,some (.pr tI (.pr tI (.pr tI .nil)))),(44,some tI)],[]⟩
def Qn4:TC:=(.sq (.reg (rT Tryz.f57 16)) (.sq (.cd (.t 45) .sk (.fg Qn1.f (.ex 3))) (.sq (.bk 4 (.sq (.reg (rT Tryz.f57 17)) (.sq (.reg (rT Tryz.f57 18)) (.cd (.t 49) (.sq (.reg (rT Tryz.f57 19)) (.fg Qf5.f .rt)) .sk)))) (.reg (rT Tryz.f57 20)))))
def tc_f57:TC:=(.sq (.reg (rT Tryz.f57 0)) (.sq (.bk 0 (.sq (.reg (rT Tryz.f57 1)) (.cd (.t 15) (.sq (.reg (rT Tryz.f57 2)) .rt) (.sq (.reg (rT Tryz.f57 3)) (.cd (.t 19) (.sq (.reg (rT Tryz.f57 4)) .rt) (.sq (.reg (rT Tryz.f57 5)) (.cd (.t 23) (.sq (.reg (rT Tryz.f57 6)) .rt) (.sq (.reg (rT Tryz.f57 7)) (.cd (.t 26) (.sq (.reg (rT Tryz.f57 8)) .rt) .sk))))))))) (.sq (.sq (.reg (rT Tryz.f57 9)) (.bk 1 (.lp 0 Qn2 Qn3))) (.sq (.sq (.reg (rT Tryz.f57 15)) (.bk 3 (.lp 1 Qf6 Qn4))) (.sq (.sq (.reg (rT Tryz.f57 21)) (.cd (.t 62) (.sq (.reg (rT Tryz.f57 22)) .rt) .sk)) (.sq (.reg (rT Tryz.f57 23)) .rt))))))
def QzG (x0:List Qf)(x1:List Int)(x34:Qb)(x35:Int)(y7:List Int)(y8:Int):VS:=Qf4.st (x0,x1,(),(),x34,x35,()) (y7,y8,())
def Uk (x10:Int):VS:=Qf5.st (x10,()) ()
def Oo (x0:List Qf)(x1:List Int):VS:=Qn1.st (x0,x1,()) ()
abbrev Qn5:Sh:=⟨[(0,.ty (.sl QE)),(1,.ty (.sl tI)),(43,.ty (.pr tI (.pr tI (.pr tI .nil)))),(44,.ty tI)],[]⟩
def QzH (x0:List Qf)(x1:List Int)(x43:(Int×(Int×(Int×Unit))))(x44:Int):VS:=Qn5.st (x0,x1,x43,x44,()) ()
def QPa:VS->Option (Bool×List (Bool×Exit×VS)):=mkL Qf4 (fun x y=>(x.2.2.2.2.1==((13,(7,())):Qb)&&decide (0<=x.2.2.2.2.2.1/\x.2.2.2.2.2.1<=2)&&XC x.1 y.1 y.2.1 0)) (fun x y=>[(((EG x.1 y.1 y.2.1 x.2.2.2.2.2.1.toNat).isSome),.ret,Uk ((EG x.1 y.1 y.2.1 x.2.2.2.2.2.1.toNat).getD 0)),(true,.exit 1,Oo (x.1) (x.2.1))])
def L_f95:VS->Option (Bool×List (Bool×Exit×VS)):=mkL Qn5 (fun x y=>(x.2.2.1==((11,(15,(10,()))):GL)&&decide (0<=x.2.2.2.1/\x.2.2.2.1<=3)&&Jf x.1)) (fun x y=>[(((GK x.1 x.2.2.2.1.toNat).isSome),.ret,Uk ((GK x.1 x.2.2.2.1.toNat).getD 0)),(true,.exit 3,Oo (x.1) (x.2.1))])
def Oq:G:=gG 63 [(94,Qyz),(94,Qyo),(97,QAe),(100,Qyd),(101,Vb),(1002562,Quw),(1002594,Qux)] (Ls [QPa,L_f95])
def Or (x0:List Qf)(x1:List Int)(x34:Qb)(x35:Int)(y7:List Int)(y8:Int):OX:=QB (QD Oq Qn2 Qn3) (QzG x0 x1 x34 x35 y7 y8)
def Qbh (kk:List Qf->List Int->Qb->Int->List Int->Int->OX)(x0:List Qf)(x1:List Int)(x34:Qb)(x35:Int)(y7:List Int)(y8:Int):OX:=
 let a1:=Xz tI 2 x34 x35
 br (ilt x35 2) (br (YE tI 2 x34 x35) (br (XC x0 y7 y8 a1) (br (Xd x0 y7 y8 a1) (some (.ret,Uk a1)) (kk x0 x1 x34 (Qk .i64 x35 1) y7 y8)) none) none) (some (.exit 1,Oo x0 x1))
def Ot (x0:List Qf)(x1:List Int)(x34:Qb)(x35:Int)(y7:List Int)(y8:Int):OX:=
 let a1:=EG x0 y7 y8 x35.toNat
 br (a1.isSome) (some (.ret,Uk (a1.getD 0)))<|some (.exit 1,Oo (x0) (x1))
theorem Qn6 (x0:List Qf)(x1:List Int)(x34:Qb)(x35:Int)(y7:List Int)(y8:Int):Or x0 x1 x34 x35 y7 y8=Qbh Or x0 x1 x34 x35 y7 y8:=lnT (x:=Qbh (fun x0 x1 x34 x35 y7 y8=>some (.normal,QzG x0 x1 x34 x35 y7 y8)) x0 x1 x34 x35 y7 y8) (by simp only [Qbh,nxA];rfl)
def EH (x0:List Qf)(x1:List Int)(x43:(Int×(Int×(Int×Unit))))(x44:Int):OX:=QB (QD Oq Qf6 Qn4) (QzH x0 x1 x43 x44)
def Ou (kk:List Qf->List Int->(Int×(Int×(Int×Unit)))->Int->OX)(x0:List Qf)(x1:List Int)(x43:(Int×(Int×(Int×Unit))))(x44:Int):OX:=
 let a1:=Xz tI 3 x43 x44
 br (ilt x44 3) (br (YE tI 3 x43 x44) (br (QfA x0 a1) (br (ZR x0 a1) (some (.ret,Uk a1)) (kk x0 x1 x43 (Qk .i64 x44 1))) none) none) (some (.exit 3,Oo x0 x1))
def FC (x0:List Qf)(x1:List Int)(x43:(Int×(Int×(Int×Unit))))(x44:Int):OX:=br ((GK x0 x44.toNat).isSome) (some (.ret,Uk ((GK x0 x44.toNat).getD 0)))<|some (.exit 3,Oo (x0) (x1))
theorem Qf7 (x0:List Qf)(x1:List Int)(x43:(Int×(Int×(Int×Unit))))(x44:Int):EH x0 x1 x43 x44=Ou EH x0 x1 x43 x44:=lnT (x:=Ou (fun x0 x1 x43 x44=>some (.normal,QzH x0 x1 x43 x44)) x0 x1 x43 x44) (by simp only [Ou,nxA];rfl)
def Qf8 (p0:List Qf)(p1 p2:List Int)(p3:Int)(p4:ByteArray):OV:=
 let a1:=((((((((((((((lgt QE (p0) (Int.toNat (QT .i64 (Qc (p0)) 1))).2).2).2).2).2).2).2).2).2).2).2).1).1)
 let a2:=((((((((((((lgt QE p0 (Int.toNat 0)).2).2).2).2).2).2).2).2).2).2).1)
 let a3:=(EG p0 p2 p3 (0:Int).toNat)
 let a4:=(GK (p0) (0:Int).toNat)
 br (ieq (Qc p0) 0) (some (.t tI 4,[])) (br (igt (Qc p0) 8) (some (.t tI 3,[])) (br (UC p0) (br (Ug p0) (some (.t tI 9,[])) (br (cIx p0 0) (br (GN a2 p4) (br (!(XG a2 p4)) (some (.t tI 14,[])) (br ((13,(7,()))==((13,(7,())):Qb)&&decide (0<=(0:Int)/\(0:Int)<=2)&&XC p0 p2 p3 0) (br (a3.isSome) (some (.t tI (a3.getD 0),[])) (br ((11,(15,(10,())))==((11,(15,(10,()))):GL)&&decide (0<=(0:Int)/\(0:Int)<=3)&&Jf (p0)) (br (a4.isSome) (some (.t tI (a4.getD 0),[])) (br (cIx (p0) (QT .i64 (Qc (p0)) 1)) (br (Q9 (p1) a1) (br (!(QY (p1) a1)) (some (.t tI 12,[])) (some (.t tI 0,[]))) none) none)) none)) none)) none) none)) none))
theorem QPb (x0:List Qf)(x1:List Int)(x34:Qb)(x35:Int)(y7:List Int)(y8:Int)(h:(x34==((13,(7,())):Qb)&&decide (0<=x35/\x35<=2)&&XC x0 y7 y8 0)=true):Or x0 x1 x34 x35 y7 y8=Ot x0 x1 x34 x35 y7 y8:=by
 simp only [Bc,Ba,Db] at h
 obtain ⟨⟨rfl,h1,h2⟩,hc⟩:=h
 have hc: ∀ e,XC x0 y7 y8 e=true:=fun e=>hc
 obtain ⟨k,rfl⟩:=Bm h1
 have k2:Or x0 x1 (13,(7,())) ((2:Nat):Int) y7 y8=Ot x0 x1 (13,(7,())) ((2:Nat):Int) y7 y8:=by
  rw [Qn6]
  rfl
 have k1:Or x0 x1 (13,(7,())) ((1:Nat):Int) y7 y8=Ot x0 x1 (13,(7,())) ((1:Nat):Int) y7 y8:=by
  rw [Qn6]
  simp only [Qbh,hc,show ilt ((1:Nat):Int) 2=true from rfl,show YE tI 2 ((13,(7,())):Qb) ((1:Nat):Int)=true from rfl,show Xz tI 2 ((13,(7,())):Qb) ((1:Nat):Int)=7 from rfl,Qe,show Qk .i64 ((1:Nat):Int) 1=((2:Nat):Int) from rfl,k2]
  simp only [Ot,EG,Bb,DF,Bx,List.drop_nil,DE,List.find?_nil]
  cases Xd x0 y7 y8 7<;>rfl
 have k0:Or x0 x1 (13,(7,())) ((0:Nat):Int) y7 y8=Ot x0 x1 (13,(7,())) ((0:Nat):Int) y7 y8:=by
  rw [Qn6]
  simp only [Qbh,hc,show ilt ((0:Nat):Int) 2=true from rfl,show YE tI 2 ((13,(7,())):Qb) ((0:Nat):Int)=true from rfl,show Xz tI 2 ((13,(7,())):Qb) ((0:Nat):Int)=13 from rfl,Qe,show Qk .i64 ((0:Nat):Int) 1=((1:Nat):Int) from rfl,k1]
  simp only [Ot,EG,Bb,DF,Bx,List.drop_nil,DE,List.find?_nil]
  cases Xd x0 y7 y8 13<;>rfl
 have:k=0∨k=1∨k=2:=by omega
 rcases this with rfl|rfl|rfl
 ·exact k0
 ·exact k1
 ·exact k2
theorem l_f95 (x0:List Qf)(x1:List Int)(x43:(Int×(Int×(Int×Unit))))(x44:Int)(h:(x43==((11,(15,(10,()))):GL)&&decide (0<=x44/\x44<=3)&&Jf x0)=true):EH x0 x1 x43 x44=FC x0 x1 x43 x44:=by
 simp only [Bc,Ba,Db] at h
 obtain ⟨⟨rfl,h1,h2⟩,hc⟩:=h
 have hc: ∀ e,QfA x0 e=true:=fun e=>hc
 obtain ⟨k,rfl⟩:=Bm h1
 have k3:EH x0 x1 (11,(15,(10,()))) ((3:Nat):Int)=FC x0 x1 (11,(15,(10,()))) ((3:Nat):Int):=by
  rw [Qf7]
  rfl
 have k2:EH x0 x1 (11,(15,(10,()))) ((2:Nat):Int)=FC x0 x1 (11,(15,(10,()))) ((2:Nat):Int):=by
  rw [Qf7]
  simp only [Ou,hc,show ilt ((2:Nat):Int) 3=true from rfl,show YE tI 3 ((11,(15,(10,()))):GL) ((2:Nat):Int)=true from rfl,show Xz tI 3 ((11,(15,(10,()))):GL) ((2:Nat):Int)=10 from rfl,Qe,show Qk .i64 ((2:Nat):Int) 1=((3:Nat):Int) from rfl,k3]
  simp only [FC,GK,Bb,DF,Bx,List.drop_nil,DE,List.find?_nil]
  cases ZR x0 10<;>rfl
 have k1:EH x0 x1 (11,(15,(10,()))) ((1:Nat):Int)=FC x0 x1 (11,(15,(10,()))) ((1:Nat):Int):=by
  rw [Qf7]
  simp only [Ou,hc,show ilt ((1:Nat):Int) 3=true from rfl,show YE tI 3 ((11,(15,(10,()))):GL) ((1:Nat):Int)=true from rfl,show Xz tI 3 ((11,(15,(10,()))):GL) ((1:Nat):Int)=15 from rfl,Qe,show Qk .i64 ((1:Nat):Int) 1=((2:Nat):Int) from rfl,k2]
  simp only [FC,GK,Bb,DF,Bx,List.drop_nil,DE,List.find?_nil]
  cases ZR x0 15<;>rfl
 have k0:EH x0 x1 (11,(15,(10,()))) ((0:Nat):Int)=FC x0 x1 (11,(15,(10,()))) ((0:Nat):Int):=by
  rw [Qf7]
  simp only [Ou,hc,show ilt ((0:Nat):Int) 3=true from rfl,show YE tI 3 ((11,(15,(10,()))):GL) ((0:Nat):Int)=true from rfl,show Xz tI 3 ((11,(15,(10,()))):GL) ((0:Nat):Int)=11 from rfl,Qe,show Qk .i64 ((0:Nat):Int) 1=((1:Nat):Int) from rfl,k1]
  simp only [FC,GK,Bb,DF,Bx,List.drop_nil,DE,List.find?_nil]
  cases ZR x0 11<;>rfl
 have:k=0∨k=1∨k=2∨k=3:=by omega
 rcases this with rfl|rfl|rfl|rfl
 ·exact k0
 ·exact k1
 ·exact k2
 ·exact k3
theorem QPc:LO Oq Qn2 Qn3 0:=QN (s:=Qf4) fun x y h _ q=>by simp only [QJ,QK] at q;exact (QPb x.1 x.2.1 x.2.2.2.2.1 x.2.2.2.2.2.1 y.1 y.2.1 h).trans q
theorem lo_f95: ∀ S l p,Oq.L 1 (fgt Qf6 S)=some (true,l)->Yz l=some p->QB (QD Oq Qf6 Qn4) S=some p:=QN (s:=Qn5) fun x y h _ q=>by simp only [QJ,QK] at q;exact (l_f95 x.1 x.2.1 x.2.2.1 x.2.2.2.1 h).trans q
theorem s_f57 (l:List Qf)(a h:List Int)(d:Int)(n:ByteArray)(hok:XD l a h d n=true):Qf8 l a h d n=some (.t tI (Wi l a h d n),[]):=by
 simp only [XD,Bc,Ba] at hok
 obtain ⟨hc,ha,hh⟩:=hok
 have hl:=U8 hc
 unfold Wi
 by_cases h0:l.length=0
 ·simp only [Qf8,show ieq (Qc l) 0=true from Db.2 (by simp only [Qc];omega),Qe,if_pos h0]
 by_cases h8:8<l.length
 ·simp only [Qf8,show ieq (Qc l) 0=false from Dr.2 (by simp only [Qc];omega),Qi,show igt (Qc l) 8=true from Bd (by simp only [Qc];omega),Qe,if_neg h0,if_pos h8]
 have c1: ∀ e,XC l h d e=true:=fun e=>Bd ⟨hl,hh⟩
 have c2:cIx l 0=true:=by simp only [cIx,Ba];omega
 have c3:GN (QO (cAt l 0)) n=true:=by
  have:=QzF hc (show 0<l.length by omega)
  exact Bd (by omega)
 have c4:QT .i64 (Qc l) 1=((l.length-1:Nat):Int):=by rw [Zu (by simp only [Qc];omega)];simp only [Qc];omega
 have c5:cIx l ((l.length-1:Nat):Int)=true:=by simp only [cIx,Ba];omega
 have c6: ∀ v,Q9 a v=true:=fun v=>Bd ha
 have d1:decide ((0:Int)<=0/\(0:Int)<=2)=true:=rfl
 have d2:decide ((0:Int)<=0/\(0:Int)<=3)=true:=rfl
 simp only [Qf8,show ieq (Qc l) 0=false from Dr.2 (by simp only [Qc];omega),Qi,show igt (Qc l) 8=false from Bn (by simp only [Qc];omega),if_neg h0,if_neg h8,show UC l=true from hc,hc,c1,c2,c4,c5,c6,d1,d2,Qe,Bb,Bt,show lgt QE l 0=cAt l 0 from rfl,show lgt QE l (l.length-1)=Qbg l from rfl,beq_self_eq_true,BX]
 rw [show (GN (cAt l 0).2.2.2.2.2.2.2.2.2.2.1 n)=true from c3,Qe]
 cases Ug l with
 |true=>rfl
 |false=>
  rw [Qi,BM]
  cases XG (QO (cAt l 0)) n with
  |false=>rfl
  |true=>
   rw [BC,Qi,BM]
   simp only [EG,GK,Bx,DE,List.find?_nil]
   cases Xd l h d 13 with
   |true=>rfl
   |false=>
    rw [BM]
    cases Xd l h d 7 with
    |true=>rfl
    |false=>
     rw [BM]
     simp only [Option.isSome_none,Qi]
     cases ZR l 11 with
     |true=>rfl
     |false=>
      rw [BM]
      cases ZR l 15 with
      |true=>rfl
      |false=>
       rw [BM]
       cases ZR l 10 with
       |true=>rfl
       |false=>
        simp only [Option.isSome_none,Qi,BM]
        cases QY a (Xb (Qbg l)).1<;>rfl
def Qn7:Ent:=Qq (.pr (.sl QE) (.pr (.sl tI) (.pr (.sl tI) (.pr tI (.pr .str .nil))))) (fun x=>(XD x.1 x.2.1 x.2.2.1 x.2.2.2.1 x.2.2.2.2.1)) (fun x=>(.t tI (Wi x.1 x.2.1 x.2.2.1 x.2.2.2.1 x.2.2.2.2.1)))
theorem QzI:EM 57 Qn7:=mS (lk:=(by repeat first|exact trivial|exact QPc|exact lo_f95|constructor)) Oq tc_f57 [((.t 10),some tI)] false (gB (gD QOq (gD QOg (gD ms_f97 (gD QN6 (gD Qb8 (gC QKQ QKR (gC QKS QKT gN)))))))) fun m=>Qu m fun x hok=>kT (s_f57 x.1 x.2.1 x.2.2.1 x.2.2.2.1 x.2.2.2.2.1 hok)
def Ov (l:List ByteArray)(_v:ByteArray):Bool:=decide (l.length<=100000)
abbrev Qf9:Sh:=⟨[(0,.ty (.sl .str)),(1,.ty .str),(5,.ty tI)],[]⟩
abbrev QzJ:Sh:=⟨[(4,.ty .bool)],[]⟩
abbrev Qga:Sh:=⟨[],[]⟩
def Qn8:Fg:=Qf9.f
def QzK:TC:=aF Tryz.f150 [(26,pL 0 Qn8),(419,.fg Qga.f),(3365,.fg QzJ.f)]
def QzL:TC:=lb 0 QzK
def QzM (x0:List ByteArray)(x1:ByteArray)(x5:Int):VS:=Qf9.st (x0,x1,x5,()) ()
def Qn9 (x4:Bool):VS:=QzJ.st (x4,()) ()
def Qoa  : VS:=Qga.st () ()
def QPd:VS->Option (Bool×List (Bool×Exit×VS)):=mkL Qf9 (fun x y=>(XE x.1 x.2.2.1)) (fun x y=>[(((x.1.drop x.2.2.1.toNat).any (seq x.2.1)),.ret,Qn9 (true)),(true,.exit 0,Qoa)])
def Qob:G:=gG 18 [] (Ls [QPd])
def Qgb (x0:List ByteArray)(x1:ByteArray)(x5:Int):OX:=QB (QD Qob Qn8 QzL) (QzM x0 x1 x5)
def Qbi (kk:List ByteArray->ByteArray->Int->OX)(x0:List ByteArray)(x1:ByteArray)(x5:Int):OX:=br (ilt x5 (Qc x0)) (br (cIx x0 x5) (br (seq (lgt .str x0 (Int.toNat x5)) x1) (some (.ret,Qn9 true)) (kk x0 x1 (Qk .i64 x5 1))) none) (some (.exit 0,Qoa))
def Qgc (x0:List ByteArray)(x1:ByteArray)(x5:Int):OX:=br ((x0.drop x5.toNat).any (seq x1)) (some (.ret,Qn9 (true)))<|some (.exit 0,Qoa)
theorem QzN (x0:List ByteArray)(x1:ByteArray)(x5:Int):Qgb x0 x1 x5=Qbi Qgb x0 x1 x5:=lnT (x:=Qbi (fun x0 x1 x5=>some (.normal,QzM x0 x1 x5)) x0 x1 x5) (by simp only [Qbi,nxA];rfl)
def QzO (p0:List ByteArray)(p1:ByteArray):OV:=br (XE p0 (0:Int)) (br ((p0.drop (0:Int).toNat).any (seq p1)) (some (.t .bool (true),[])) (some (.t .bool false,[]))) none
theorem QPe (x0:List ByteArray)(x1:ByteArray)(x5:Int)(h:(XE x0 x5)=true):Qgb x0 x1 x5=Qgc x0 x1 x5:=by
 simp only [XE,Ba] at h
 obtain ⟨h0,h1,h2⟩:=h
 obtain ⟨k,rfl⟩:=Bm h0
 refine QW x0 (fun k=>Qgb x0 x1 (k:Int)=Qgc x0 x1 (k:Int)) ?_ ?_ k (by omega)
 ·rw [QzN]
  simp only [Qbi,Qgc,show ilt (x0.length:Int) (Qc x0)=false from Bn (by simp only [Qc];omega),Qi,Bb,BE,List.any_nil]
 ·intro k hk ih
  rw [QzN]
  have hc:seq x0[k] x1=seq x1 x0[k]:=Bool.beq_comm
  simp only [Qbi,show ilt (k:Int) (Qc x0)=true from Bd (by simp only [Qc];omega),QS,hk,Bu,Qe,Bb,QU (show k<4611686018427387904 by omega),QX (y:= .str) hk,ih,hc]
  simp only [Qgc,Bb,Bi hk,List.any_cons]
  cases seq x1 x0[k]<;>rfl
theorem QPf:LO Qob Qn8 QzL 0:=QN (s:=Qf9) fun x y h _ q=>by simp only [QJ,QK] at q;exact (QPe x.1 x.2.1 x.2.2.1 h).trans q
theorem s_f150 (l:List ByteArray)(v:ByteArray)(h:Ov l v=true):QzO l v=some (.t .bool (XG l v),[]):=by
 simp only [Ov,Ba] at h
 simp only [QzO,show XE l 0=true from Bd (by omega),Qe,Bt,Bx]
 unfold XG
 cases l.any (seq v)<;>rfl
def QzP:Ent:=Qq (.pr (.sl .str) (.pr .str .nil)) (fun x=>(Ov x.1 x.2.1)) (fun x=>(.t .bool (XG x.1 x.2.1)))
theorem QPg:EM 150 QzP:=mS (lk:=lkL (lkc QPf lkn)) Qob QzK [((.t 4),some .bool)] false (gB gN) fun m=>Qu m fun x hok=>kT (s_f150 x.1 x.2.1 hok)
def Ow (e:Int)(l:List Qf)(a h:List Int)(d:Int)(n:ByteArray)(k:Nat):Bool:=
 bif ieq e 9 then Xc (cAt l k) else bif ieq e 14 then ieq (k:Int) 0&& !XG (QO (cAt l k)) n else bif ieq e 13 then ZS (cAt l k) h d 13 else bif ieq e 7 then ZS (cAt l k) h d 7 else
 bif ieq e 11 then Od l 11 k else bif ieq e 15 then Od l 15 k else bif ieq e 10 then Od l 10 k else decide (k+1=l.length)&& !QY a (Xb (cAt l k)).1
def Qbj (e:Int)(l:List Qf)(i:Int)(a h:List Int)(d:Int)(n:ByteArray):Bool:=Ow e l a h d n i.toNat
def Ox (_e:Int)(l:List Qf)(i:Int)(a h:List Int)(_d:Int)(_n:ByteArray):Bool:=Jf l&&decide (0<=i/\i<l.length/\a.length<=100000/\h.length<=100000)
def QPh:TC:=aF Tryz.f109 [(120828,pD [(0,[]),(1,[]),(2,[]),(3,[15]),(4,[15]),(5,[]),(6,[]),(7,[]),(8,[]),(9,[]),(10,[]),(11,[]),(12,[]),(13,[])] (.of [0,1,2,3,4,5,6,7,8,9,10,11,12,13])),(3866618,pD [(0,[15]),(1,[]),(2,[]),(3,[]),(4,[]),(5,[]),(6,[]),(7,[]),(8,[]),(9,[])] (.of [0,1,2,3,4,5,6,7,8,9]))]
def g_f109:G:=gG 111 [(104,Qb5),(130,Qa2),(150,QzP),(151,Qx4),(152,QEj)] (fun _ _=>none)
def QzQ (p0:Int)(p1:List Qf)(p2:Int)(p3 p4:List Int)(p5:Int)(p6:ByteArray):OV:=
 let a1:=lgt QE p1 (Int.toNat p2)
 let a5:=(((((a1.2).2).2).2).2)
 let a2:=(((((a5.2).2).2).2).2)
 let a3:=(((lgt QE p1 (Int.toNat (Qk .i64 p2 1))).2).2)
 let a4:=ieq p2 (QT .i64 (Qc p1) 1)
 let a6:=(((a2.2).1).1)
 let a7:=cIx p1 (Qk .i64 p2 1)
 br (cIx p1 p2) (br (ieq p0 9) (br (Jr a1) (some (.t .bool (ine (We a1) 0),[])) none) (br (ieq p0 14) (br (ieq p2 0) (br (Ov (a2.1) p6) (some (.t .bool (!(XG (a2.1) p6)),[])) none) (some (.t .bool false,[]))) (br (ieq p0 13) (br (ilt p5 ((a5.2).1)) (some (.t .bool true,[])) (some (.t .bool (ige p5 (((a5.2).2).1)),[]))) (br (ieq p0 7) (br (Q9 p4 ((a5.1).1)) (some (.t .bool (!(QY p4 ((a5.1).1))),[])) none) (br (ieq p0 11) (br (!a4) (br a7 (some (.t .bool (sne ((a1.2).1) (a3.1)),[])) none) (some (.t .bool false,[]))) (br (ieq p0 15) (br (Ga p1 p2) (some (.t .bool (!(U9 p1 p2)),[])) none) (br (ieq p0 10) (br a4 (br (YJ a1 a6) (some (.t .bool (!(Gj a1 a6)),[])) none) (br a7 (br (YJ a1 (((a3.2).2).1)) (some (.t .bool (!(Gj a1 (((a3.2).2).1))),[])) none) none)) (br a4 (br (Q9 p3 a6) (some (.t .bool (!(QY p3 a6)),[])) none) (some (.t .bool false,[])))))))))) none
theorem s_f109 (e:Int)(l:List Qf)(i:Int)(a h:List Int)(d:Int)(n:ByteArray)(hok:Ox e l i a h d n=true):QzQ e l i a h d n=some (.t .bool (Qbj e l i a h d n),[]):=by
 simp only [Ox,Bc,Ba] at hok
 obtain ⟨hc,h1,h2,ha,hh⟩:=hok
 obtain ⟨k,rfl⟩:=Bm h1
 have hl:=U8 hc
 have hk:k<l.length:=by omega
 have c1:cIx l (k:Int)=true:=by rw [QS];exact Bd hk
 have c2:Jr (cAt l k)=true:=Qnk hc hk
 have c3:Ov (QO (cAt l k)) n=true:=Bd (QzF hc hk)
 have c4: ∀ v,Q9 h v=true:=fun v=>Bd hh
 have c5: ∀ v,Q9 a v=true:=fun v=>Bd ha
 have c6:Ga l (k:Int)=true:=Bd hl
 have c7:ieq (k:Int) (QT .i64 (Qc l) 1)=decide (k+1=l.length):=by
  rw [Zu (by simp only [Qc];omega)]
  simp only [ieq,Qc]
  rw [DQ,Db,Ba]
  omega
 have c8: ∀ q,YJ (cAt l k) q=true:=fun q=>c2
 simp only [QzQ,c1,c2,c4,c5,c6,c7,c8,Qe,Bb,show lgt QE l k=cAt l k from rfl,EB,Qnl (show k<4611686018427387904 by omega),QU (show k<4611686018427387904 by omega),QS]
 rw [show (Ov (cAt l k).2.2.2.2.2.2.2.2.2.2.1 n)=true from c3,Qe]
 unfold Qbj Ow
 rw [Bb]
 cases ieq e 9 with
 |true=>rfl
 |false=>
  rw [Qi,BM]
  cases ieq e 14 with
  |true=>
   rw [Qe,BZ]
   exact brA rfl
  |false=>
   rw [Qi,BM]
   cases ieq e 13 with
   |true=>
    rw [Qe,BZ]
    show br (ilt d _) _ _=some (V.t .bool (ilt d (cAt l k).2.2.2.2.2.2.1||ige d (cAt l k).2.2.2.2.2.2.2.1),[])
    cases ilt d (cAt l k).2.2.2.2.2.2.1<;>rfl
   |false=>
    rw [Qi,BM]
    cases ieq e 7 with
    |true=>rfl
    |false=>
     rw [Qi,BM]
     cases ieq e 11 with
     |true=>
      rw [Qe,BZ]
      show _=some (V.t .bool (decide (k+1<l.length)&&sne (cAt l k).2.1 (cAt l (k+1)).2.2.1),[])
      by_cases hk2:k+1<l.length
      ·rw [Bn (show ¬ k+1=l.length by omega),Bd hk2,Dy,Qe,Qe,BB]
      ·rw [Bd (show k+1=l.length by omega),Bn hk2,BC,Qi,DU]
     |false=>
      rw [Qi,BM]
      cases ieq e 15 with
      |true=>rfl
      |false=>
       rw [Qi,BM]
       cases ieq e 10 with
       |true=>
        rw [Qe,BZ]
        show _=some (V.t .bool (!Gj (cAt l k) (Ob l k)),[])
        unfold Ob
        by_cases hk2:k+1<l.length
        ·rw [Bn (show ¬ k+1=l.length by omega),Bd hk2,Qi,Qe,if_pos hk2]
        ·rw [Bd (show k+1=l.length by omega),Qe,if_neg hk2]
       |false=>
        rw [Qi,BM]
        exact brA rfl
def QzR:Ent:=Qq (.pr tI (.pr (.sl QE) (.pr tI (.pr (.sl tI) (.pr (.sl tI) (.pr tI (.pr .str .nil))))))) (fun x=>(Ox x.1 x.2.1 x.2.2.1 x.2.2.2.1 x.2.2.2.2.1 x.2.2.2.2.2.1 x.2.2.2.2.2.2.1)) (fun x=>(.t .bool (Qbj x.1 x.2.1 x.2.2.1 x.2.2.2.1 x.2.2.2.2.1 x.2.2.2.2.2.1 x.2.2.2.2.2.2.1)))
theorem QPi:EM 109 QzR:=mS g_f109 QPh [((.t 14),some .bool)] false (gB (gD Qb6 (gD Qfz (gD QPg (gD QNY (gD QSQ gN)))))) fun m=>Qu m fun x hok=>kT (s_f109 x.1 x.2.1 x.2.2.1 x.2.2.2.1 x.2.2.2.2.1 x.2.2.2.2.2.1 x.2.2.2.2.2.2.1 hok)
def Yf (e:Int)(l:List Qf)(a h:List Int)(d:Int)(n:ByteArray)(k:Nat):Bool:=(List.range' k (l.length-k)).any (Ow e l a h d n)
def FD (l:List Qf)(a h:List Int)(d:Int)(n:ByteArray)(es:List Int):Option Int:=es.find? fun e=>Yf e l a h d n 0
theorem QPj (e:Int)(l:List Qf)(a h:List Int)(d:Int)(n:ByteArray):Yf e l a h d n l.length=false:=by
 unfold Yf
 rw [DA]
 rfl
theorem QPk {e:Int}{l:List Qf}{a h:List Int}{d:Int}{n:ByteArray}{k:Nat}(hk:k<l.length):Yf e l a h d n k=(Ow e l a h d n k||Yf e l a h d n (k+1)):=by
 have:l.length-k=(l.length-(k+1))+1:=by omega
 unfold Yf
 rw [this,Dd,List.any_cons]
def Ul (l:List Qf)(a h es:List Int):Bool:=Jf l&&decide (a.length<=100000/\h.length<=100000/\es.length<=100)
abbrev Qgd:Sh:=⟨[(0,.ty (.sl QE)),(1,.ty (.sl tI)),(2,.ty (.sl tI)),(3,.ty tI),(4,.ty .str),(11,.ty (.sl tI)),(12,.ty tI),(13,.ty tI)],[]⟩
abbrev Qbk:Sh:=⟨[(0,.ty (.sl QE)),(1,.ty (.sl tI)),(2,.ty (.sl tI)),(3,.ty tI),(4,.ty .str),(11,.ty (.sl tI)),(12,.ty tI)],[]⟩
def Qoc:Fg:=Qgd.f
def Qod:Fg:=Qbk.f
def Qoe:TC:=aF Tryz.f69 [(250,pL 1 Qod),(4003,.fg Qga.f),(16018,pL 0 Qoc),(256291,.fg Qbk.f),(2050341,.fg Qf5.f)]
def QzS:TC:=lb 0 Qoe
def QzT:TC:=lb 1 Qoe
def QzU (x0:List Qf)(x1 x2:List Int)(x3:Int)(x4:ByteArray)(x11:List Int)(x12 x13:Int):VS:=Qgd.st (x0,x1,x2,x3,x4,x11,x12,x13,()) ()
def Qbl (x0:List Qf)(x1 x2:List Int)(x3:Int)(x4:ByteArray)(x11:List Int)(x12:Int):VS:=Qbk.st (x0,x1,x2,x3,x4,x11,x12,()) ()
def Qof  : VS:=Qga.st () ()
def QPl:VS->Option (Bool×List (Bool×Exit×VS)):=mkL Qgd (fun x y=>(Ul x.1 x.2.1 x.2.2.1 x.2.2.2.2.2.1&&decide (0<=x.2.2.2.2.2.2.2.1/\x.2.2.2.2.2.2.2.1<=x.1.length/\0<=x.2.2.2.2.2.2.1/\x.2.2.2.2.2.2.1<x.2.2.2.2.2.1.length))) (fun x y=>[((Yf (x.2.2.2.2.2.1.getD x.2.2.2.2.2.2.1.toNat 0) x.1 x.2.1 x.2.2.1 x.2.2.2.1 x.2.2.2.2.1 x.2.2.2.2.2.2.2.1.toNat),.ret,Uk (x.2.2.2.2.2.1.getD x.2.2.2.2.2.2.1.toNat 0)),(true,.exit 2,Qbl (x.1) (x.2.1) (x.2.2.1) (x.2.2.2.1) (x.2.2.2.2.1) (x.2.2.2.2.2.1) (x.2.2.2.2.2.2.1))])
def QPm:VS->Option (Bool×List (Bool×Exit×VS)):=mkL Qbk (fun x y=>(Ul x.1 x.2.1 x.2.2.1 x.2.2.2.2.2.1&&decide (0<=x.2.2.2.2.2.2.1/\x.2.2.2.2.2.2.1<=x.2.2.2.2.2.1.length))) (fun x y=>[(((FD x.1 x.2.1 x.2.2.1 x.2.2.2.1 x.2.2.2.2.1 (x.2.2.2.2.2.1.drop x.2.2.2.2.2.2.1.toNat)).isSome),.ret,Uk ((FD x.1 x.2.1 x.2.2.1 x.2.2.2.1 x.2.2.2.2.1 (x.2.2.2.2.2.1.drop x.2.2.2.2.2.2.1.toNat)).getD 0)),(true,.exit 0,Qof)])
def Qbm:G:=gG 48 [(109,QzR)] (Ls [QPl,QPm])
def Qge (x0:List Qf)(x1 x2:List Int)(x3:Int)(x4:ByteArray)(x11:List Int)(x12 x13:Int):OX:=QB (QD Qbm Qoc QzS) (QzU x0 x1 x2 x3 x4 x11 x12 x13)
def Qbn (kk:List Qf->List Int->List Int->Int->ByteArray->List Int->Int->Int->OX)(x0:List Qf)(x1 x2:List Int)(x3:Int)(x4:ByteArray)(x11:List Int)(x12 x13:Int):OX:=
 let a1:=lgt tI x11 (Int.toNat x12)
 br (ilt x13 (Qc x0)) (br (cIx x11 x12) (br (Ox a1 x0 x13 x1 x2 x3 x4) (br (Qbj a1 x0 x13 x1 x2 x3 x4) (br (cIx x11 x12) (some (.ret,Uk a1)) none) (kk x0 x1 x2 x3 x4 x11 x12 (Qk .i64 x13 1))) none) none) (some (.exit 2,Qbl x0 x1 x2 x3 x4 x11 x12))
def Qgf (x0:List Qf)(x1 x2:List Int)(x3:Int)(x4:ByteArray)(x11:List Int)(x12 x13:Int):OX:=br (Yf (x11.getD x12.toNat 0) x0 x1 x2 x3 x4 x13.toNat) (some (.ret,Uk (x11.getD x12.toNat 0)))<|some (.exit 2,Qbl (x0) (x1) (x2) (x3) (x4) (x11) (x12))
theorem QzV (x0:List Qf)(x1 x2:List Int)(x3:Int)(x4:ByteArray)(x11:List Int)(x12 x13:Int):Qge x0 x1 x2 x3 x4 x11 x12 x13=Qbn Qge x0 x1 x2 x3 x4 x11 x12 x13:=lnT (x:=Qbn (fun x0 x1 x2 x3 x4 x11 x12 x13=>some (.normal,QzU x0 x1 x2 x3 x4 x11 x12 x13)) x0 x1 x2 x3 x4 x11 x12 x13) (by simp only [Qbn,nxA];rfl)
def Qgg (x0:List Qf)(x1 x2:List Int)(x3:Int)(x4:ByteArray)(x11:List Int)(x12:Int):OX:=QB (QD Qbm Qod QzT) (Qbl x0 x1 x2 x3 x4 x11 x12)
def Qbo (kk:List Qf->List Int->List Int->Int->ByteArray->List Int->Int->OX)(x0:List Qf)(x1 x2:List Int)(x3:Int)(x4:ByteArray)(x11:List Int)(x12:Int):OX:=br (ilt x12 (Qc x11)) (br (Ul x0 x1 x2 x11&&decide (0<=(0:Int)/\(0:Int)<=x0.length/\0<=x12/\x12<x11.length)) (br (Yf (x11.getD x12.toNat 0) x0 x1 x2 x3 x4 (0:Int).toNat) (some (.ret,Uk (x11.getD x12.toNat 0))) (kk (x0) (x1) (x2) (x3) (x4) (x11) (Qk .i64 (x12) 1))) none) (some (.exit 0,Qof))
def Qgh (x0:List Qf)(x1 x2:List Int)(x3:Int)(x4:ByteArray)(x11:List Int)(x12:Int):OX:=
 let a1:=FD x0 x1 x2 x3 x4 (x11.drop x12.toNat)
 br (a1.isSome) (some (.ret,Uk (a1.getD 0)))<|some (.exit 0,Qof)
theorem QzW (x0:List Qf)(x1 x2:List Int)(x3:Int)(x4:ByteArray)(x11:List Int)(x12:Int):Qgg x0 x1 x2 x3 x4 x11 x12=Qbo Qgg x0 x1 x2 x3 x4 x11 x12:=lnT (x:=Qbo (fun x0 x1 x2 x3 x4 x11 x12=>some (.normal,Qbl x0 x1 x2 x3 x4 x11 x12)) x0 x1 x2 x3 x4 x11 x12) (by simp only [Qbo,nxA];rfl)
def Qgi (p0:List Qf)(p1 p2:List Int)(p3:Int)(p4:ByteArray):OV:=
 let a1:=(FD p0 p1 p2 p3 p4 (([9,14,13,7,11,15,10,12]).drop (0:Int).toNat))
 br (ieq (Qc p0) 0) (some (.t tI 4,[])) (br (igt (Qc p0) 8) (some (.t tI 3,[])) (br (Ul p0 p1 p2 ([9,14,13,7,11,15,10,12])&&decide (0<=(0:Int)/\(0:Int)<=([9,14,13,7,11,15,10,12]).length)) (br (a1.isSome) (some (.t tI (a1.getD 0),[])) (some (.t tI 0,[]))) none))
theorem QPn (x0:List Qf)(x1 x2:List Int)(x3:Int)(x4:ByteArray)(x11:List Int)(x12 x13:Int)(h:(Ul x0 x1 x2 x11&&decide (0<=x13/\x13<=x0.length/\0<=x12/\x12<x11.length))=true):Qge x0 x1 x2 x3 x4 x11 x12 x13=Qgf x0 x1 x2 x3 x4 x11 x12 x13:=by
 simp only [Ul,Bc,Ba] at h
 obtain ⟨⟨hc,ha,hh,he⟩,h0,h1,h2,h3⟩:=h
 obtain ⟨k,rfl⟩:=Bm h0
 obtain ⟨j,rfl⟩:=Bm h2
 have hl:=U8 hc
 have hj:j<x11.length:=by omega
 refine QW x0 (fun k=>Qge x0 x1 x2 x3 x4 x11 (j:Int) (k:Int)=Qgf x0 x1 x2 x3 x4 x11 (j:Int) (k:Int)) ?_ ?_ k (by omega)
 ·rw [QzV]
  simp only [Qbn,Qgf,show ilt (x0.length:Int) (Qc x0)=false from Bn (by simp only [Qc];omega),Qi,Bb,QPj]
 ·intro k hk ih
  rw [QzV]
  have hw: ∀ e,Ox e x0 (k:Int) x1 x2 x3 x4=true:=fun e=>by
   simp only [Ox,Bc,Ba]
   exact ⟨hc,by omega,by omega,ha,hh⟩
  simp only [Qbn,show ilt (k:Int) (Qc x0)=true from Bd (by simp only [Qc];omega),QS,hj,Bu,Qe,Bb,QU (show k<4611686018427387904 by omega),hw,ih,Qbj]
  simp only [Qgf,Bb,QPk hk]
  show br (Ow (x11.getD j 0) x0 x1 x2 x3 x4 k) _ _=_
  cases Ow (x11.getD j 0) x0 x1 x2 x3 x4 k<;>rfl
theorem QPo (x0:List Qf)(x1 x2:List Int)(x3:Int)(x4:ByteArray)(x11:List Int)(x12:Int)(h:(Ul x0 x1 x2 x11&&decide (0<=x12/\x12<=x11.length))=true):Qgg x0 x1 x2 x3 x4 x11 x12=Qgh x0 x1 x2 x3 x4 x11 x12:=by
 simp only [Ul,Bc,Ba] at h
 obtain ⟨⟨hc,ha,hh,he⟩,h0,h1⟩:=h
 obtain ⟨k,rfl⟩:=Bm h0
 have hw:Ul x0 x1 x2 x11=true:=by
  simp only [Ul,Bc,Ba]
  exact ⟨hc,ha,hh,he⟩
 refine QW x11 (fun k=>Qgg x0 x1 x2 x3 x4 x11 (k:Int)=Qgh x0 x1 x2 x3 x4 x11 (k:Int)) ?_ ?_ k (by omega)
 ·rw [QzW]
  simp only [Qbo,Qgh,show ilt (x11.length:Int) (Qc x11)=false from Bn (by simp only [Qc];omega),Qi,Bb,BE]
  rfl
 ·intro k hk ih
  rw [QzW]
  have hd:decide ((0:Int)<=0/\(0:Int)<=x0.length/\(0:Int)<=(k:Int)/\(k:Int)<x11.length)=true:=Bd (by omega)
  have hg:x11.getD k 0=x11[k]:=by simp only [Bo,Bl hk,BK]
  simp only [Qbo,show ilt (k:Int) (Qc x11)=true from Bd (by simp only [Qc];omega),hw,hd,BX,Qe,Bb,Bt,QU (show k<4611686018427387904 by omega),ih,hg]
  simp only [Qgh,Bb,Bi hk,FD,DE]
  cases Yf x11[k] x0 x1 x2 x3 x4 0<;>rfl
theorem QPp:LO Qbm Qoc QzS 0:=QN (s:=Qgd) fun x y h _ q=>by simp only [QJ,QK] at q;exact (QPn x.1 x.2.1 x.2.2.1 x.2.2.2.1 x.2.2.2.2.1 x.2.2.2.2.2.1 x.2.2.2.2.2.2.1 x.2.2.2.2.2.2.2.1 h).trans q
theorem QPq:LO Qbm Qod QzT 1:=QN (s:=Qbk) fun x y h _ q=>by simp only [QJ,QK] at q;exact (QPo x.1 x.2.1 x.2.2.1 x.2.2.2.1 x.2.2.2.2.1 x.2.2.2.2.2.1 x.2.2.2.2.2.2.1 h).trans q
theorem Qog (l:List Qf)(p:Qf->Bool): ∀ k,k<=l.length->(List.range' k (l.length-k)).any (fun j=>p (cAt l j))=(l.drop k).any p:=by
 refine QW l _ ?_ ?_
 ·rw [DA,BE];rfl
 ·intro k hk ih
  have:l.length-k=(l.length-(k+1))+1:=by omega
  rw [this,Dd,List.any_cons,ih,Bi hk,List.any_cons,Qnj hk]
theorem QzX (n m:Nat)(hm:m<n)(q:Nat->Bool)(p:Nat->Bool)(hp: ∀ k,k<n->p k=true->k=m)(hm2:p m=true):(List.range' 0 n).any (fun k=>p k&&q k)=q m:=by
 rw [DQ,List.any_eq_true]
 constructor
 ·rintro ⟨k,hk,h⟩
  rw [List.mem_range'_1] at hk
  rw [Bc] at h
  rw [←hp k (by omega) h.1]
  exact h.2
 ·intro h
  exact ⟨m,List.mem_range'_1.2 ⟨by omega,by omega⟩,by rw [hm2,h];rfl⟩
theorem s_f69 (l:List Qf)(a h:List Int)(d:Int)(n:ByteArray)(hok:XD l a h d n=true):Qgi l a h d n=some (.t tI (Wi l a h d n),[]):=by
 simp only [XD,Bc,Ba] at hok
 obtain ⟨hc,ha,hh⟩:=hok
 have hl:=U8 hc
 unfold Wi
 by_cases h0:l.length=0
 ·simp only [Qgi,show ieq (Qc l) 0=true from Db.2 (by simp only [Qc];omega),Qe,if_pos h0]
 by_cases h8:8<l.length
 ·simp only [Qgi,show ieq (Qc l) 0=false from Dr.2 (by simp only [Qc];omega),Qi,show igt (Qc l) 8=true from Bd (by simp only [Qc];omega),Qe,if_neg h0,if_pos h8]
 have hw:Ul l a h [9,14,13,7,11,15,10,12]=true:=by
  simp only [Ul,Bc,Ba]
  exact ⟨hc,ha,hh,by simp⟩
 have w9:Yf 9 l a h d n 0=Ug l:=Qog l Xc 0 (B2 _)
 have w14:Yf 14 l a h d n 0= !XG (QO (cAt l 0)) n:=by
  unfold Yf
  exact QzX l.length 0 (by omega) (fun k=> !XG (QO (cAt l k)) n) (fun k=>ieq (k:Int) 0) (fun k _ hk=>by simp only [ieq,Db] at hk;omega) rfl
 have w13:Yf 13 l a h d n 0=Xd l h d 13:=Qog l (fun c=>ZS c h d 13) 0 (B2 _)
 have w7:Yf 7 l a h d n 0=Xd l h d 7:=Qog l (fun c=>ZS c h d 7) 0 (B2 _)
 have w11:Yf 11 l a h d n 0=ZR l 11:=rfl
 have w15:Yf 15 l a h d n 0=ZR l 15:=rfl
 have w10:Yf 10 l a h d n 0=ZR l 10:=rfl
 have w12:Yf 12 l a h d n 0= !QY a (Xb (Qbg l)).1:=by
  unfold Yf
  exact QzX l.length (l.length-1) (by omega) (fun k=> !QY a (Xb (cAt l k)).1) (fun k=>decide (k+1=l.length)) (fun k _ hk=>by simp only [Ba] at hk;omega) (Bd (by omega))
 simp only [Qgi,show ieq (Qc l) 0=false from Dr.2 (by simp only [Qc];omega),Qi,show igt (Qc l) 8=false from Bn (by simp only [Qc];omega),if_neg h0,if_neg h8,hw,BB,Bt,Bx]
 refine Eq.trans (b:=br (FD l a h d n [9,14,13,7,11,15,10,12]).isSome (some (V.t tI ((FD l a h d n [9,14,13,7,11,15,10,12]).getD 0),[])) (some (V.t tI 0,[]))) rfl ?_
 simp only [FD,DE,List.find?_nil,w9,w14,w13,w7,w11,w15,w10,w12]
 cases Ug l with
 |true=>rfl
 |false=>
  cases XG (QO (cAt l 0)) n with
  |false=>rfl
  |true=>
   cases Xd l h d 13 with
   |true=>rfl
   |false=>
    cases Xd l h d 7 with
    |true=>rfl
    |false=>
     cases ZR l 11 with
     |true=>rfl
     |false=>
      cases ZR l 15 with
      |true=>rfl
      |false=>
       cases ZR l 10 with
       |true=>rfl
       |false=>cases QY a (Xb (Qbg l)).1<;>rfl
def Qoh:Ent:=Qq (.pr (.sl QE) (.pr (.sl tI) (.pr (.sl tI) (.pr tI (.pr .str .nil))))) (fun x=>(XD x.1 x.2.1 x.2.2.1 x.2.2.2.1 x.2.2.2.2.1)) (fun x=>(.t tI (Wi x.1 x.2.1 x.2.2.1 x.2.2.2.1 x.2.2.2.2.1)))
theorem QzY:EM 69 Qoh:=mS (lk:=lkL (lkc QPq (lkc QPp lkn))) Qbm Qoe [((.t 10),some tI)] false (gB (gD QPi gN)) fun m=>Qu m fun x hok=>kT (s_f69 x.1 x.2.1 x.2.2.1 x.2.2.2.1 x.2.2.2.2.1 hok)
end
end Go.Proofs.YtckcgijklnloiaaGreat.K
noncomputable section
namespace Go.Proofs.YtckcgijklnloiaaGreat.K
open Go.RowKit
noncomputable section
theorem brOr {β:Type}{a b:Bool}{X Y:Option β}:br a X (br b X Y)=br (a||b) X Y:=by cases a<;>cases b<;>rfl
def ZG (x:QA)(s:JM):Bool:=ieq s.2.2.2.1.1 0||ieq x.1.1 s.2.2.2.1.1
def tc_f93:TC:=aF Tryz.f93 []
def g_f93:G:=gG 17 [] (fun _ _=>none)
def r_f93 (p0:QA)(d0:JM):OV:=br (ieq d0.2.2.2.1.1 0) (some (.t .bool true,[.box (.t Jn d0)])) (some (.t .bool (ieq p0.1.1 d0.2.2.2.1.1),[.box (.t Jn d0)]))
theorem s_f93 (x:QA)(s:JM):r_f93 x s=some (.t .bool (ZG x s),[.box (.t Jn s)]):=by
 simp only [r_f93]
 unfold ZG
 cases ieq s.2.2.2.1.1 0<;>rfl
def QC8:Ent:=W8 [.ty Q1,.ptr 50000 0] [Jn] (fun x d=>true) (fun x d=>(.t .bool (ZG x.1 d.1)))
theorem ms_f93:EM 93 QC8:=mS g_f93 tc_f93 [((.t 3),some .bool)] false (gB gN) fun m=>UA (YQ m fun x d _=>kT (s_f93 x.1 d.1))
def QhT (l:List QA)(_s:JM):Bool:=decide (l.length<=100000)
def FL (l:List QA)(s:JM):Int:=match Qx (fun x=>ZG x s) l with|some k=>(k:Int)|none=> -1
abbrev QhU:Sh:=⟨[(0,.ty (.sl Q1)),(1,.fn 93 [(50000,0)]),(7,.ty tI),(8,.ty tI)],[(50000,.box Jn)]⟩
abbrev QC9:Sh:=⟨[(4,.ty tI)],[(50000,.box Jn)]⟩
abbrev QDa:Sh:=⟨[],[(50000,.box Jn)]⟩
def QpZ:Fg:=QhU.f
def QDb:TC:=aF Tryz.f92 [(26,pL 0 QpZ),(421,.fg QDa.f),(13517,.fg QC9.f)]
def QDc:TC:=lb 0 QDb
def QDd (x0:List QA)(x7 x8:Int)(Qa:JM):VS:=QhU.st (x0,(),x7,x8,()) (Qa,())
def Qp0 (x4:Int)(Qa:JM):VS:=QC9.st (x4,()) (Qa,())
def Qp1 (Qa:JM):VS:=QDa.st () (Qa,())
def QRY:VS->Option (Bool×List (Bool×Exit×VS)):=mkL QhU (fun x y=>(Qz x.1 x.2.2.1 x.2.2.2.1)) (fun x y=>[(((Qx (fun x=>ZG x y.1) (x.1.drop x.2.2.2.1.toNat)).isSome),.ret,Qp0 (x.2.2.2.1+((Qx (fun x=>ZG x y.1) (x.1.drop x.2.2.2.1.toNat)).getD 0:Nat)) (y.1)),(true,.exit 0,Qp1 (y.1))])
def Qp2:G:=gG 19 [(93,QC8)] (Ls [QRY])
def QhV (x0:List QA)(x7 x8:Int)(Qa:JM):OX:=QB (QD Qp2 QpZ QDc) (QDd x0 x7 x8 Qa)
def Qb9 (kk:List QA->Int->Int->JM->OX)(x0:List QA)(x7 x8:Int)(Qa:JM):OX:=br (ilt x8 x7) (br (cIx x0 x8) (br (ZG (lgt Q1 x0 (Int.toNat x8)) Qa) (some (.ret,Qp0 x8 Qa)) (kk x0 x7 (Qk .i64 x8 1) Qa)) none) (some (.exit 0,Qp1 Qa))
def QhW (x0:List QA)(x7 x8:Int)(Qa:JM):OX:=br ((Qx (fun x=>ZG x Qa) (x0.drop x8.toNat)).isSome) (some (.ret,Qp0 (x8+((Qx (fun x=>ZG x Qa) (x0.drop x8.toNat)).getD 0:Nat)) (Qa)))<|some (.exit 0,Qp1 (Qa))
theorem QDe (x0:List QA)(x7 x8:Int)(Qa:JM):QhV x0 x7 x8 Qa=Qb9 QhV x0 x7 x8 Qa:=lnT (x:=Qb9 (fun x0 x7 x8 Qa=>some (.normal,QDd x0 x7 x8 Qa)) x0 x7 x8 Qa) (by simp only [Qb9,nxA];rfl)
def QDf (p0:List QA)(d0:JM):OV:=
 let a1:=(p0.drop (0:Int).toNat)
 br (Qz p0 (Qc p0) (0:Int)) (br ((Qx (fun x=>ZG x d0) a1).isSome) (some (.t tI ((0:Int)+((Qx (fun x=>ZG x d0) a1).getD 0:Nat)),[.box (.t Jn (d0))])) (some (.t tI (-1),[.box (.t Jn (d0))]))) none
theorem QRZ (x0:List QA)(x7 x8:Int)(Qa:JM)(h:(Qz x0 x7 x8)=true):QhV x0 x7 x8 Qa=QhW x0 x7 x8 Qa:=by
 obtain ⟨rfl,h3,k,rfl,hk⟩:=Js h
 clear h
 refine QW x0 (fun k=>QhV x0 (x0.length:Int) (k:Int) Qa=QhW x0 (x0.length:Int) (k:Int) Qa) ?_ ?_ k hk
 ·rw [QDe]
  simp [Qb9,QhW,QC,Qi,Qx]
 ·intro k hk ih
  rw [QDe]
  simp only [Qb9,QC,QS,hk,Bu,Qe,Bb,QU (show k<4611686018427387904 by omega),ih,QX (y:=Q1) hk]
  simp only [QhW,Bb,Bi hk,Qx]
  cases h:(ZG x0[k] Qa) with
  |true=>simp [Qe]
  |false=>
   simp only [Qi,BW,Ds]
   cases hq:Qx (fun x=>ZG x Qa) (x0.drop (k+1)) with
   |none=>rfl
   |some j=>
    simp only [B6,B1,BK,Qe]
    congr 3
    omega
theorem QR0:LO Qp2 QpZ QDc 0:=QN (s:=QhU) fun x y h _ q=>by simp only [QJ,QK] at q;exact (QRZ x.1 x.2.2.1 x.2.2.2.1 y.1 h).trans q
theorem QR1 (l:List QA)(s:JM)(h:QhT l s=true):QDf l s=some (.t tI (FL l s),[.box (.t Jn s)]):=by
 have hl:l.length<=100000:=Bv h
 simp only [QDf,Jy hl,Qe,Bt,Bx,FL]
 cases Qx (fun x=>ZG x s) l<;>simp [Qe,Qi]
def QDg:Ent:=W8 [.ty (.sl Q1),.fn 93 [(50000,0)]] [Jn] (fun x d=>(QhT x.1 d.1)) (fun x d=>(.t tI (FL x.1 d.1)))
theorem QR2:EM 92 QDg:=mS (lk:=lkL (lkc QR0 lkn)) Qp2 QDb [((.t 4),some tI)] false (gB (gD ms_f93 gN)) fun m=>UA (YQ m fun x d hok=>kT (QR1 x.1 d.1 hok))
def Je (e:Endpoint)(c:Int):Int×Bool:=bif ine (Q4 c).2 0 then (-1,false) else (FL (QH e) (Q4 c).1,ige (FL (QH e) (Q4 c).1) 0)
def JT (e:Endpoint)(_c:Int):Bool:=decide ((QH e).length<=100000)
def tc_f56:TC:=aF Tryz.f56 []
def g_f56:G:=gG 23 [(85,Qb2),(92,QDg)] (fun _ _=>none)
def r_f56 (p0:Endpoint)(p1:Int):OV:=
 let a1:=FL p0.2.2.2.2.2.1 ((Q4 p1).1)
 br (ine ((Q4 p1).2) 0) (some (.tu [(.t tI (-1)),(.t .bool false)],[])) (br (QhT p0.2.2.2.2.2.1 ((Q4 p1).1)) (some (.tu [(.t tI a1),(.t .bool (ige a1 0))],[])) none)
theorem s_f56 (e:Endpoint)(c:Int)(h:JT e c=true):r_f56 e c=some (.tu [.t tI (Je e c).1,.t .bool (Je e c).2],[]):=by
 have hk:QhT (QH e) (Q4 c).1=true:=h
 simp only [r_f56,hk,Qe]
 unfold Je
 cases ine (Q4 c).2 0<;>rfl
def Vc:Ent:=Qq (.pr Qj (.pr tI .nil)) (fun x=>(JT x.1 x.2.1)) (fun x=>(.tu [(.t tI ((Je x.1 x.2.1).1)),(.t .bool ((Je x.1 x.2.1).2))]))
theorem Qca:EM 56 Vc:=mS g_f56 tc_f56 [((.t 4),some tI),((.t 5),some .bool)] false (gB (gD QhI (gD QR2 gN))) fun m=>Qu m fun x hok=>kT (s_f56 x.1 x.2.1 hok)
abbrev QhX:Sh:=⟨[(2,.ptr 2 0),(6,.ptr 6 0),(8,.ty tI)],[(2,.box Qj),(6,.box Jn)]⟩
abbrev QDh:Sh:=⟨[(4,.ty tI),(5,.ty .bool)],[]⟩
abbrev QDi:Sh:=⟨[],[]⟩
def Qp3:Fg:=QhX.f
def QDj:TC:=aF Tryz.f67 [(122,pL 0 Qp3),(1955,.fg QDi.f),(3912,pD [(0,[6]),(1,[6]),(2,[6]),(3,[]),(4,[]),(5,[2]),(6,[2]),(7,[]),(8,[]),(9,[]),(10,[]),(11,[]),(12,[6]),(13,[6]),(14,[6]),(15,[]),(16,[])] (.of [0,1,2,3,4,5,6,7,8,9,10,11,12,13,14,15,16])),(15653,.fg QDh.f)]
def QDk:TC:=lb 0 QDj
def QDl (x8:Int)(y2:Endpoint)(y6:JM):VS:=QhX.st ((),(),x8,()) (y2,y6,())
def QhY (x4:Int)(x5:Bool):VS:=QDh.st (x4,x5,()) ()
def Qp4  : VS:=QDi.st () ()
def QR3:VS->Option (Bool×List (Bool×Exit×VS)):=mkL QhX (fun x y=>(JT y.1 0&&decide (0<=x.2.2.1/\x.2.2.1<=(QH y.1).length))) (fun x y=>[(((Qx (fun x=>ZG x y.2.1) ((QH y.1).drop x.2.2.1.toNat)).isSome),.ret,QhY (x.2.2.1+((Qx (fun x=>ZG x y.2.1) ((QH y.1).drop x.2.2.1.toNat)).getD 0:Nat)) (true)),(true,.exit 0,Qp4)])
def Qp5:G:=gG 41 [(103,O7)] (Ls [QR3])
def QhZ (x8:Int)(y2:Endpoint)(y6:JM):OX:=QB (QD Qp5 Qp3 QDk) (QDl x8 y2 y6)
def Qcb (kk:Int->Endpoint->JM->OX)(x8:Int)(y2:Endpoint)(y6:JM):OX:=br (ilt x8 (Qc y2.2.2.2.2.2.1)) (br (ieq y6.2.2.2.1.1 0) (some (.ret,QhY x8 true)) (br (cIx y2.2.2.2.2.2.1 x8) (br (ieq (((lgt Q1 y2.2.2.2.2.2.1 (Int.toNat x8)).1).1) y6.2.2.2.1.1) (some (.ret,QhY x8 true)) (kk (Qk .i64 x8 1) y2 y6)) none)) (some (.exit 0,Qp4))
def Qh0 (x8:Int)(y2:Endpoint)(y6:JM):OX:=
 let a1:=((QH y2).drop x8.toNat)
 br ((Qx (fun x=>ZG x y6) a1).isSome) (some (.ret,QhY (x8+((Qx (fun x=>ZG x y6) a1).getD 0:Nat)) (true)))<|some (.exit 0,Qp4)
theorem QDm (x8:Int)(y2:Endpoint)(y6:JM):QhZ x8 y2 y6=Qcb QhZ x8 y2 y6:=lnT (x:=Qcb (fun x8 y2 y6=>some (.normal,QDl x8 y2 y6)) x8 y2 y6) (by simp only [Qcb,nxA];rfl)
def r_f67 (p0:Endpoint)(p1:Int):OV:=br (ine ((Q4 p1).2) 0) (some (.tu [(.t tI (-1)),(.t .bool false)],[])) (br (JT p0 0&&decide (0<=(0:Int)/\(0:Int)<=(QH p0).length)) (br ((Qx (fun x=>ZG x ((Q4 p1).1)) ((QH p0).drop (0:Int).toNat)).isSome) (some (.tu [(.t tI ((0:Int)+((Qx (fun x=>ZG x ((Q4 p1).1)) ((QH p0).drop (0:Int).toNat)).getD 0:Nat))),(.t .bool (true))],[])) (some (.tu [(.t tI (-1)),(.t .bool false)],[]))) none)
theorem QR4 (x8:Int)(y2:Endpoint)(y6:JM)(h:(JT y2 0&&decide (0<=x8/\x8<=(QH y2).length))=true):QhZ x8 y2 y6=Qh0 x8 y2 y6:=by
 simp only [JT,Bc,Ba] at h
 obtain ⟨hl,h0,h1⟩:=h
 obtain ⟨k,rfl⟩:=Bm h0
 refine QW (QH y2) (fun k=>QhZ (k:Int) y2 y6=Qh0 (k:Int) y2 y6) ?_ ?_ k (by omega)
 ·rw [QDm]
  simp only [Qcb,show ilt ((QH y2).length:Int) (Qc (QH y2))=false from Bn (by simp only [Qc];omega),Qi,Qh0,Bb,BE,Qx]
  rfl
 ·intro k hk ih
  rw [QDm]
  simp only [Qcb,show ilt (k:Int) (Qc (QH y2))=true from Bd (by simp only [Qc];omega),QS,hk,Bu,Qe,Bb,QU (show k<4611686018427387904 by omega),QX (y:=Q1) hk,ih]
  simp only [Qh0,Bb,Bi hk,Qx]
  rw [brOr]
  show br (ZG (QH y2)[k] y6) _ _=_
  cases h:ZG (QH y2)[k] y6 with
  |true=>simp [Qe]
  |false=>
   simp only [Qi,BW,Ds]
   cases hq:Qx (fun x=>ZG x y6) ((QH y2).drop (k+1)) with
   |none=>rfl
   |some j=>
    simp only [B6,B1,BK,Qe]
    congr 3
    omega
theorem QR5:LO Qp5 Qp3 QDk 0:=QN (s:=QhX) fun x y h _ q=>by simp only [QJ,QK] at q;exact (QR4 x.2.2.1 y.1 y.2.1 h).trans q
theorem s_f67 (e:Endpoint)(c:Int)(h:JT e c=true):r_f67 e c=some (.tu [.t tI (Je e c).1,.t .bool (Je e c).2],[]):=by
 have hd:decide ((0:Int)<=0/\(0:Int)<=(QH e).length)=true:=Bd (by omega)
 have hk:JT e 0=true:=h
 simp only [r_f67,hk,hd,BX,Qe,Bt,Bx]
 unfold Je FL
 cases ine (Q4 c).2 0 with
 |true=>rfl
 |false=>
  rw [Qi,BM]
  cases Qx (fun x=>ZG x (Q4 c).1) (QH e) with
  |none=>rfl
  |some k=>
   have:ige (k:Int) 0=true:=Bd (by omega)
   simp [Qe,this]
def Vd:Ent:=Qq (.pr Qj (.pr tI .nil)) (fun x=>(JT x.1 x.2.1)) (fun x=>(.tu [(.t tI ((Je x.1 x.2.1).1)),(.t .bool ((Je x.1 x.2.1).2))]))
theorem Qcc:EM 67 Vd:=mS (lk:=lkL (lkc QR5 lkn)) Qp5 QDj [((.t 4),some tI),((.t 5),some .bool)] false (gB (gD Qb3 gN)) fun m=>Qu m fun x hok=>kT (s_f67 x.1 x.2.1 hok)
def YG (e:Endpoint)(o:List Int):Bool:=decide ((QH e).length<=100000/\(QI e).length<=100000/\o.length<=100000)
def J1 (e:Endpoint)(o:List Int)(v c:Int):Bool:=
 ieq (Q4 c).2 0&&(ige v (Q4 c).1.2.2.2.2.2.2.1&&(ige (Q4 c).1.2.2.2.2.2.2.2.1 v&&(QY o c&&(QY (QI e) c&&(Je e c).2))))
def EX (e:Endpoint)(o:List Int)(_v _c:Int):Bool:=YG e o
abbrev tkE (t:JW):Endpoint:=t.1
abbrev tkV (t:JW):Int:=t.2.1
abbrev tkO (t:JW):List Int:=t.2.2.1
def Xm (t:JW)(c:Int):Bool:=J1 (tkE t) (tkO t) (tkV t) c
def UH (t:JW)(_c:Int):Bool:=YG (tkE t) (tkO t)
def tc_f90:TC:=aF Tryz.f90 []
def g_f90:G:=gG 53 [(56,Vc),(85,Qb2),(101,Vb)] (fun _ _=>none)
def r_f90 (p0:JW)(p1:Int):OV:=
 let a1:=((((((((Q4 p1).1).2).2).2).2).2).2)
 br (ine ((Q4 p1).2) 0) (some (.t .bool false,[])) (br (ilt p0.2.1 (a1.1)) (some (.t .bool false,[])) (br (igt p0.2.1 ((a1.2).1)) (some (.t .bool false,[])) (br (Q9 p0.2.2.1 p1) (br (!(QY p0.2.2.1 p1)) (some (.t .bool false,[])) (br (Q9 p0.1.2.2.2.1 p1) (br (!(QY p0.1.2.2.2.1 p1)) (some (.t .bool false,[])) (br (JT p0.1 p1) (some (.t .bool ((Je p0.1 p1).2),[])) none)) none)) none)))
theorem QDn (a b:Int):ine a b= !ieq a b:=rfl
theorem QDo (a b:Int):ilt a b= !ige a b:=by simp only [ilt,ige];by_cases h:a<b<;>simp [h]<;>omega
theorem s_f90 (t:JW)(c:Int)(h:UH t c=true):r_f90 t c=some (.t .bool (Xm t c),[]):=by
 simp only [UH,YG,Ba] at h
 have c1:Q9 t.2.2.1 c=true:=Bd h.2.2
 have c2:Q9 t.1.2.2.2.1 c=true:=Bd h.2.1
 have c3:JT t.1 c=true:=Bd h.1
 simp only [r_f90,c1,c2,c3,Qe,QDn,QDo]
 show _=some (V.t .bool (J1 t.1 t.2.2.1 t.2.1 c),[])
 unfold J1
 cases ieq (Q4 c).2 0 with
 |false=>rfl
 |true=>
  cases ige t.2.1 (Q4 c).1.2.2.2.2.2.2.1 with
  |false=>rfl
  |true=>
   cases ige (Q4 c).1.2.2.2.2.2.2.2.1 t.2.1 with
   |false=>rfl
   |true=>
    cases QY t.2.2.1 c with
    |false=>rfl
    |true=>cases QY t.1.2.2.2.1 c<;>rfl
def Qp6:Ent:=Qq (.pr Fi (.pr tI .nil)) (fun x=>(UH x.1 x.2.1)) (fun x=>(.t .bool (Xm x.1 x.2.1)))
theorem QDp:EM 90 Qp6:=mS g_f90 tc_f90 [((.t 4),some .bool)] false (gB (gD Qca (gD QhI (gD Qb8 gN)))) fun m=>Qu m fun x hok=>kT (s_f90 x.1 x.2.1 hok)
def tc_f59:TC:=aF Tryz.f59 []
def g_f59:G:=gG 52 [(67,Vd),(103,O7),(104,Qb5)] (fun _ _=>none)
def r_f59 (p0:Endpoint)(p1:List Int)(p2 p3:Int):OV:=
 let a1:=((((((((Q4 p3).1).2).2).2).2).2).2)
 br (ine ((Q4 p3).2) 0) (some (.t .bool false,[])) (br (Q9 p1 p3) (br (!(QY p1 p3)) (some (.t .bool false,[])) (br (Q9 p0.2.2.2.1 p3) (br (!(QY p0.2.2.2.1 p3)) (some (.t .bool false,[])) (br (ilt p2 (a1.1)) (some (.t .bool false,[])) (br (igt p2 ((a1.2).1)) (some (.t .bool false,[])) (br (JT p0 p3) (some (.t .bool ((Je p0 p3).2),[])) none)))) none)) none)
theorem s_f59 (e:Endpoint)(o:List Int)(v c:Int)(h:EX e o v c=true):r_f59 e o v c=some (.t .bool (J1 e o v c),[]):=by
 simp only [EX,YG,Ba] at h
 have c1:Q9 o c=true:=Bd h.2.2
 have c2:Q9 e.2.2.2.1 c=true:=Bd h.2.1
 have c3:JT e c=true:=Bd h.1
 simp only [r_f59,c1,c2,c3,Qe,QDn,QDo]
 unfold J1
 cases ieq (Q4 c).2 0<;>cases ige v (Q4 c).1.2.2.2.2.2.2.1<;>cases ige (Q4 c).1.2.2.2.2.2.2.2.1 v<;>cases QY o c<;>cases QY e.2.2.2.1 c<;>rfl
def Qp7:Ent:=Qq (.pr Qj (.pr (.sl tI) (.pr tI (.pr tI .nil)))) (fun x=>(EX x.1 x.2.1 x.2.2.1 x.2.2.2.1)) (fun x=>(.t .bool (J1 x.1 x.2.1 x.2.2.1 x.2.2.2.1)))
theorem QDq:EM 59 Qp7:=mS g_f59 tc_f59 [((.t 8),some .bool)] false (gB (gD Qcc (gD Qb3 (gD Qb6 gN)))) fun m=>Qu m fun x hok=>kT (s_f59 x.1 x.2.1 x.2.2.1 x.2.2.2.1 hok)
def FM (t:JW):List Int:=tkO t
def FN (t:JW):List Int:=QI (tkE t)
def QR6:TC:=aF Tryz.f126 []
def g_f126:G:=gG 5 [] (fun _ _=>none)
def r_f126 (p0:JW):OV:=some (.t (.sl tI) p0.2.2.1,[])
theorem s_f126 (t:JW):r_f126 t=some (.t (.sl tI) (FM t),[]):=rfl
def QDr:Ent:=Qq (.pr Fi .nil) (fun x=>true) (fun x=>(.t (.sl tI) (FM x.1)))
theorem QR7:EM 126 QDr:=mS g_f126 QR6 [((.t 2),some (.sl tI))] false (gB gN) fun m=>Qu m fun x _=>kT (s_f126 x.1)
def QR8:TC:=aF Tryz.f127 []
def g_f127:G:=gG 6 [] (fun _ _=>none)
def r_f127 (p0:JW):OV:=some (.t (.sl tI) p0.1.2.2.2.1,[])
theorem s_f127 (t:JW):r_f127 t=some (.t (.sl tI) (FN t),[]):=rfl
def QDs:Ent:=Qq (.pr Fi .nil) (fun x=>true) (fun x=>(.t (.sl tI) (FN x.1)))
theorem QR9:EM 127 QDs:=mS g_f127 QR8 [((.t 2),some (.sl tI))] false (gB gN) fun m=>Qu m fun x _=>kT (s_f127 x.1)
def YX (c s:Endpoint):Bool:=Q3 c&&Q3 s
def ZH (c s:Endpoint):Bool:=Q2 c&&Q2 s
def tc_f82:TC:=aF Tryz.f82 []
def g_f82:G:=gG 13 [(76,QgC)] (fun _ _=>none)
def r_f82 (p0 p1:Endpoint):OV:=br (Q2 p0) (br (ieq (Zp p0) 0) (br (Q2 p1) (some (.t .bool (ieq (Zp p1) 0),[])) none) (some (.t .bool false,[]))) none
theorem s_f82 (c s:Endpoint)(h:ZH c s=true):r_f82 c s=some (.t .bool (YX c s),[]):=by
 simp only [ZH,Bc] at h
 simp only [r_f82,h.1,h.2,Qe,QPX]
 unfold YX
 cases Q3 c<;>rfl
def Qh1:Ent:=Qq (.pr Qj (.pr Qj .nil)) (fun x=>(ZH x.1 x.2.1)) (fun x=>(.t .bool (YX x.1 x.2.1)))
theorem Qp8:EM 82 Qh1:=mS g_f82 tc_f82 [((.t 4),some .bool)] false (gB (gD QoI gN)) fun m=>Qu m fun x hok=>kT (s_f82 x.1 x.2.1 hok)
end
end Go.Proofs.YtckcgijklnloiaaGreat.K
noncomputable section
namespace Go.Proofs.YtckcgijklnloiaaGreat.K
open Go.RowKit
noncomputable section
def Gc (l:List Int)(t:JW):Bool:=decide (l.length<=100000)&&YG (tkE t) (tkO t)
def On (l:List Int)(t:JW):Int:=match Qx (Xm t) l with|some k=>(k:Int)|none=> -1
abbrev QfY:Sh:=⟨[(0,.ty (.sl tI)),(1,.bf 90 Fi),(7,.ty tI),(8,.ty tI)],[]⟩
abbrev Qzh:Sh:=⟨[(4,.ty tI)],[]⟩
abbrev Qzi:Sh:=⟨[],[]⟩
def QnN:Fg:=QfY.f
def Qzj:TC:=aF Tryz.f128 [(26,pL 0 QnN),(421,.fg Qzi.f),(13517,.fg Qzh.f)]
def Qzk:TC:=lb 0 Qzj
def Qzl (x0:List Int)(x1:JW)(x7 x8:Int):VS:=QfY.st (x0,x1,x7,x8,()) ()
def QnO (x4:Int):VS:=Qzh.st (x4,()) ()
def QnP  : VS:=Qzi.st () ()
def QOZ:VS->Option (Bool×List (Bool×Exit×VS)):=mkL QfY (fun x y=>(Qz x.1 x.2.2.1 x.2.2.2.1&&Gc x.1 x.2.1)) (fun x y=>[(((Qx (Xm x.2.1) (x.1.drop x.2.2.2.1.toNat)).isSome),.ret,QnO (x.2.2.2.1+((Qx (Xm x.2.1) (x.1.drop x.2.2.2.1.toNat)).getD 0:Nat))),(true,.exit 0,QnP)])
def QnQ:G:=gG 19 [(90,Qp6)] (Ls [QOZ])
def QfZ (x0:List Int)(x1:JW)(x7 x8:Int):OX:=QB (QD QnQ QnN Qzk) (Qzl x0 x1 x7 x8)
def Qbd (kk:List Int->JW->Int->Int->OX)(x0:List Int)(x1:JW)(x7 x8:Int):OX:=
 let a1:=lgt tI x0 (Int.toNat x8)
 br (ilt x8 x7) (br (cIx x0 x8) (br (UH x1 a1) (br (Xm x1 a1) (some (.ret,QnO x8)) (kk x0 x1 x7 (Qk .i64 x8 1))) none) none) (some (.exit 0,QnP))
def Qf0 (x0:List Int)(x1:JW)(x7 x8:Int):OX:=
 let a1:=Qx (Xm x1) (x0.drop x8.toNat)
 br (a1.isSome) (some (.ret,QnO (x8+(a1.getD 0:Nat))))<|some (.exit 0,QnP)
theorem Qzm (x0:List Int)(x1:JW)(x7 x8:Int):QfZ x0 x1 x7 x8=Qbd QfZ x0 x1 x7 x8:=lnT (x:=Qbd (fun x0 x1 x7 x8=>some (.normal,Qzl x0 x1 x7 x8)) x0 x1 x7 x8) (by simp only [Qbd,nxA];rfl)
def Qzn (p0:List Int)(p1:JW):OV:=
 let a1:=(Qx (Xm p1) (p0.drop (0:Int).toNat))
 br (Qz p0 (Qc p0) (0:Int)&&Gc p0 p1) (br (a1.isSome) (some (.t tI ((0:Int)+(a1.getD 0:Nat)),[])) (some (.t tI (-1),[]))) none
theorem QO0 (x0:List Int)(x1:JW)(x7 x8:Int)(h:(Qz x0 x7 x8&&Gc x0 x1)=true):QfZ x0 x1 x7 x8=Qf0 x0 x1 x7 x8:=by
 simp only [Bc,Gc] at h
 obtain ⟨h0,_,hc⟩:=h
 obtain ⟨rfl,h3,k,rfl,hk⟩:=Js h0
 clear h0
 refine QW x0 (fun k=>QfZ x0 x1 (x0.length:Int) (k:Int)=Qf0 x0 x1 (x0.length:Int) (k:Int)) ?_ ?_ k hk
 ·rw [Qzm]
  simp [Qbd,Qf0,QC,Qi,Qx]
 ·intro k hk ih
  rw [Qzm]
  have hx:UH x1 x0[k]=true:=hc
  simp only [Qbd,QC,QS,hk,Bu,Qe,Bb,QU (show k<4611686018427387904 by omega),ih,QX (y:=tI) hk,hx]
  simp only [Qf0,Bb,Bi hk,Qx]
  cases h:Xm x1 x0[k] with
  |true=>simp [Qe]
  |false=>
   simp only [Qi,BW,Ds]
   cases hq:Qx (Xm x1) (x0.drop (k+1)) with
   |none=>rfl
   |some j=>
    simp only [B6,B1,BK,Qe]
    congr 3
    omega
theorem QO1:LO QnQ QnN Qzk 0:=QN (s:=QfY) fun x y h _ q=>by simp only [QJ,QK] at q;exact (QO0 x.1 x.2.1 x.2.2.1 x.2.2.2.1 h).trans q
theorem QO2 (l:List Int)(t:JW)(h:Gc l t=true):Qzn l t=some (.t tI (On l t),[]):=by
 have hl:l.length<=100000:=Bv (Bf.1 h).1
 simp only [Qzn,Jy hl,h,BX,Qe,Bt,Bx,On]
 cases Qx (Xm t) l<;>simp [Qe,Qi]
def Qzo:Ent:=Wb [.ty (.sl tI),.bf 90 Fi] [] (fun x y=>(Gc x.1 x.2.1)) (fun x y=>(.t tI (On x.1 x.2.1))) (fun x y=>[])
theorem QO3:EM 128 Qzo:=mS (lk:=lkL (lkc QO1 lkn)) QnQ Qzj [((.t 4),some tI)] false (gB (gD QDp gN)) fun m=>WD (YR m fun x y hok=>kT (QO2 x.1 x.2.1 hok))
abbrev zK:Qb:=(0,(0,()))
abbrev Uh (s:Endpoint)(x:Int):List Qf:=(lgt Q1 (QH s) (Je s x).1.toNat).2.2.1
def EE (c s:Endpoint)(d x:Int):Int:=Wi (Uh s x) (Jh c) (Jj c) d s.1
def QnR (c s:Endpoint)(v d x:Int):Qb×Int:=bif ine (EE c s d x) 0 then (zK,29) else ((v,(x,())),0)
def Wh (c s:Endpoint)(v d:Int)(o l:List Int):Qb×Int:=match Qx (J1 s o v) l with|none=>(zK,28)|some k=>QnR c s v d (l.getD k 0)
abbrev Ui (s:Endpoint)(o:List Int):List Int:=bif s.2.2.2.2.1 then QI s else o
def Z6 (c s:Endpoint)(d m:Int)(o:List Int):Qb×Int:=
 bif !YX c s then (zK,19) else bif ilt d 0 then (zK,2) else bif igt d 40000 then (zK,2) else bif ilt m 1 then (zK,2) else bif igt m 4 then (zK,2) else
 bif ilt (imn m s.2.2.1) c.2.1 then (zK,27) else bif ilt (imn m s.2.2.1) s.2.1 then (zK,27) else Wh c s (imn m s.2.2.1) d o (Ui s o)
def Xg (c s:Endpoint)(_d _m:Int)(o:List Int):Bool:=ZH c s&&decide (o.length<=100000)
theorem Z1 {e:Endpoint}(h:Q2 e=true):JB e.1=true/\(QI e).length<=100000/\(QH e).length<=100000/\(Jh e).length<=100000/\(Jj e).length<=100000/\(QH e).all Jz=true:=by
 simp only [Q2,Bc,Ba] at h
 exact ⟨h.1.1,h.1.2.1,h.1.2.2.1,h.1.2.2.2.1,h.1.2.2.2.2,h.2⟩
theorem QnS {e:Endpoint}{c:Int}(h:(Je e c).2=true): ∃ k,(Je e c).1=((k:Nat):Int)/\k<(QH e).length:=by
 unfold Je FL at h ⊢
 cases hi:ine (Q4 c).2 0 with
 |true=>rw [hi] at h;cases h
 |false=>
  rw [hi] at h
  cases hq:Qx (fun x=>ZG x (Q4 c).1) (QH e) with
  |none=>rw [hq] at h;cases h
  |some k=>exact ⟨k,rfl,(OA hq).1⟩
theorem Qzp {e:Endpoint}{o:List Int}{v c:Int}(h:J1 e o v c=true):(Je e c).2=true:=by
 simp only [J1,Bc] at h
 exact h.2.2.2.2.2
theorem QnT {c s:Endpoint}{d v x:Int}{o:List Int}(hc:Q2 c=true)(hs:Q2 s=true)(h:J1 s o v x=true):cIx (QH s) (Je s x).1=true/\XD (Uh s x) (Jh c) (Jj c) d s.1=true:=by
 obtain ⟨k,hk,hl⟩:=QnS (Qzp h)
 obtain ⟨_,_,_,h4,h5,_⟩:=Z1 hc
 have h6:=(Z1 hs).2.2.2.2.2
 unfold Uh
 rw [hk,QS,Bb,QX (y:=Q1) hl]
 refine ⟨Bd hl, ?_⟩
 have:=Bg.1 h6 _ (BA hl)
 simp only [XD,Bc,Ba]
 exact ⟨this,h4,h5⟩
theorem Qzq {e:Endpoint}{o l:List Int}{v:Int}{k:Nat}(h:Qx (J1 e o v) l=some k):k<l.length/\J1 e o v (l.getD k 0)=true:=by
 obtain ⟨q,h1⟩:=OA h
 refine ⟨q, ?_⟩
 rw [Bo,Bl q,BK]
 exact h1
theorem eEta (p1:Endpoint):(p1.1,(p1.2.1,(p1.2.2.1,(p1.2.2.2.1,(p1.2.2.2.2.1,(p1.2.2.2.2.2.1,(p1.2.2.2.2.2.2.1,(p1.2.2.2.2.2.2.2.1,(p1.2.2.2.2.2.2.2.2.1,())))))))))=p1:=rfl
def GJ (p:Qb×Int):OV:=some (.tu [.t Qh p.1,.t tI p.2],[])
theorem brT {a:Bool}{X Y:OV}{x y:Qb×Int}(hx:X=GJ x)(hy:Y=GJ y):br a X Y=GJ (bif a then x else y):=by
 cases a
 ·exact hy
 ·exact hx
def tc_f83:TC:=aF Tryz.f83 [(2046,pD [(0,[6]),(1,[]),(2,[]),(3,[]),(4,[]),(5,[]),(6,[]),(7,[]),(8,[]),(9,[]),(10,[])] (.of [0,1,2,3,4,5,6,7,8,9,10])),(8188,pD [(0,[6]),(1,[6]),(2,[]),(3,[]),(4,[]),(5,[]),(6,[5]),(7,[5]),(8,[5]),(9,[5]),(10,[]),(11,[6]),(12,[6]),(13,[]),(14,[])] (.of [0,1,2,3,4,5,6,7,8,9,10,11,12,13,14])),(8190,pD [(0,[12]),(1,[12]),(2,[]),(3,[]),(4,[]),(5,[]),(6,[]),(7,[10]),(8,[])] (.of [0,1,2,3,4,5,6,7,8]))]
def g_f83:G:=gG 107 [(56,Vc),(57,Qn7),(82,Qh1),(126,QDr),(127,QDs),(128,Qzo)] (fun _ _=>none)
def r_f83 (p0 p1:Endpoint)(p2 p3:Int)(p4:List Int):OV:=
 let a6:=imn p3 p1.2.2.1
 let a1:=((p1.1,(p1.2.1,(p1.2.2.1,(p1.2.2.2.1,(p1.2.2.2.2.1,(p1.2.2.2.2.2.1,(p1.2.2.2.2.2.2.1,(p1.2.2.2.2.2.2.2.1,(p1.2.2.2.2.2.2.2.2.1,()))))))))),(a6,(p4,())))
 let a7:=On (FM a1) a1
 let a2:=lgt tI (FM a1) (Int.toNat a7)
 let a8:=On (FN a1) a1
 let a3:=lgt tI (FN a1) (Int.toNat a8)
 let a4:=((((lgt Q1 p1.2.2.2.2.2.1 (Int.toNat ((Je p1 a3).1))).2).2).1)
 let a5:=((((lgt Q1 p1.2.2.2.2.2.1 (Int.toNat ((Je p1 a2).1))).2).2).1)
 br (ZH p0 p1) (br (!(YX p0 p1)) (some (.tu [(.t Qh (0,(0,()))),(.t tI 19)],[])) (br (ilt p2 0) (some (.tu [(.t Qh (0,(0,()))),(.t tI 2)],[])) (br (igt p2 40000) (some (.tu [(.t Qh (0,(0,()))),(.t tI 2)],[])) (br (ilt p3 1) (some (.tu [(.t Qh (0,(0,()))),(.t tI 2)],[])) (br (igt p3 4) (some (.tu [(.t Qh (0,(0,()))),(.t tI 2)],[])) (br (ilt a6 p0.2.1) (some (.tu [(.t Qh (0,(0,()))),(.t tI 27)],[])) (br (ilt a6 p1.2.1) (some (.tu [(.t Qh (0,(0,()))),(.t tI 27)],[])) (br (p1.2.2.2.2.1) (br (Gc (FN a1) a1) (br (ilt a8 0) (some (.tu [(.t Qh (0,(0,()))),(.t tI 28)],[])) (br (cIx (FN a1) a8) (br (JT p1 a3) (br (cIx p1.2.2.2.2.2.1 ((Je p1 a3).1)) (br (XD a4 p0.2.2.2.2.2.2.1 p0.2.2.2.2.2.2.2.1 p2 p1.1) (br (ine (Wi a4 p0.2.2.2.2.2.2.1 p0.2.2.2.2.2.2.2.1 p2 p1.1) 0) (some (.tu [(.t Qh (0,(0,()))),(.t tI 29)],[])) (br (cIx (FN a1) a8) (some (.tu [(.t Qh (a6,(a3,()))),(.t tI 0)],[])) none)) none) none) none) none)) none) (br (Gc (FM a1) a1) (br (ilt a7 0) (some (.tu [(.t Qh (0,(0,()))),(.t tI 28)],[])) (br (cIx (FM a1) a7) (br (JT p1 a2) (br (cIx p1.2.2.2.2.2.1 ((Je p1 a2).1)) (br (XD a5 p0.2.2.2.2.2.2.1 p0.2.2.2.2.2.2.2.1 p2 p1.1) (br (ine (Wi a5 p0.2.2.2.2.2.2.1 p0.2.2.2.2.2.2.2.1 p2 p1.1) 0) (some (.tu [(.t Qh (0,(0,()))),(.t tI 29)],[])) (br (cIx (FM a1) a7) (some (.tu [(.t Qh (a6,(a2,()))),(.t tI 0)],[])) none)) none) none) none) none)) none))))))))) none
theorem s_f83 (c s:Endpoint)(d m:Int)(o:List Int)(h:Xg c s d m o=true):r_f83 c s d m o=some (.tu [.t Qh (Z6 c s d m o).1,.t tI (Z6 c s d m o).2],[]):=by
 simp only [Xg,Bc,Ba] at h
 obtain ⟨hr,ho⟩:=h
 obtain ⟨hc,hs⟩:=Bf.1 hr
 have hs':=Z1 hs
 have hle:YG s o=true:=Bd ⟨hs'.2.2.1,hs'.2.1,ho⟩
 have hid: ∀ x,JT s x=true:=fun x=>Bd hs'.2.2.1
 have hb1: ∀ v,Gc (QI s) (s,(v,(o,())))=true:=fun v=>Bf.2 ⟨Bd hs'.2.1,hle⟩
 have hb2: ∀ v,Gc o (s,(v,(o,())))=true:=fun v=>Bf.2 ⟨Bd ho,hle⟩
 have hp: ∀ v,Xm (s,(v,(o,())))=J1 s o v:=fun v=>rfl
 simp only [r_f83,eEta,FN,FM,tkE,tkO,hr,Qe,hb1,hb2,hid,On,hp]
 show _=GJ (Z6 c s d m o)
 have hg: ∀ (l:List Int) (k:Nat),lgt tI l k=l.getD k 0:=fun _ _=>rfl
 unfold Z6
 refine brT rfl<|brT rfl<|brT rfl<|brT rfl<|brT rfl<|brT rfl<|brT rfl ?_
 cases hw:s.2.2.2.2.1 with
 |true=>
  rw [Qe]
  rw [show Ui s o=QI s by unfold Ui;rw [hw];rfl]
  unfold Wh
  cases hq:Qx (J1 s o (imn m s.2.2.1)) (QI s) with
  |none=>rfl
  |some k=>
   obtain ⟨hk,hp⟩:=Qzq hq
   obtain ⟨h1,h2⟩:=QnT (d:=d) hc hs hp
   simp only [show ilt (k:Int) 0=false from Bn (by omega),Qi,QS,hk,Bu,Qe,Bb,hg,h1]
   refine Eq.trans (congrArg (fun b=>br b _ _) h2) ?_
   rw [Qe]
   exact brT rfl rfl
 |false=>
  rw [Qi]
  rw [show Ui s o=o by unfold Ui;rw [hw];rfl]
  unfold Wh
  cases hq:Qx (J1 s o (imn m s.2.2.1)) (o) with
  |none=>rfl
  |some k=>
   obtain ⟨hk,hp⟩:=Qzq hq
   obtain ⟨h1,h2⟩:=QnT (d:=d) hc hs hp
   simp only [show ilt (k:Int) 0=false from Bn (by omega),Qi,QS,hk,Bu,Qe,Bb,hg,h1]
   refine Eq.trans (congrArg (fun b=>br b _ _) h2) ?_
   rw [Qe]
   exact brT rfl rfl
def Qzr:Ent:=Qq (.pr Qj (.pr Qj (.pr tI (.pr tI (.pr (.sl tI) .nil))))) (fun x=>(Xg x.1 x.2.1 x.2.2.1 x.2.2.2.1 x.2.2.2.2.1)) (fun x=>(.tu [(.t Qh ((Z6 x.1 x.2.1 x.2.2.1 x.2.2.2.1 x.2.2.2.2.1).1)),(.t tI ((Z6 x.1 x.2.1 x.2.2.1 x.2.2.2.1 x.2.2.2.2.1).2))]))
theorem ms_f83:EM 83 Qzr:=mS g_f83 tc_f83 [((.c 10 true 2),some Qh),((.t 11),some tI)] false (gB (gD Qca (gD QzI (gD Qp8 (gD QR7 (gD QR9 (gD QO3 gN))))))) fun m=>Qu m fun x hok=>kT (s_f83 x.1 x.2.1 x.2.2.1 x.2.2.2.1 x.2.2.2.2.1 hok)
abbrev Qbe:Sh:=⟨[(2,.ty tI),(4,.ty (.sl tI)),(5,.ptr 5 0),(6,.ptr 6 0),(10,.ptr 10 0),(12,.ty tI),(13,.ty (.sl tI)),(14,.ty tI)],[(5,.box Qj),(6,.box Qj),(10,.box Qh)]⟩
abbrev QnU:Sh:=⟨[(10,.ptr 10 0),(11,.ty tI)],[(10,.box Qh)]⟩
abbrev Qzs:Sh:=⟨[(10,.ptr 10 0)],[(10,.box Qh)]⟩
def QnV:Fg:=Qbe.f
def Qzt:TC:=aF Tryz.f108 [(2042,pL 0 QnV),(32675,.fg Qzs.f),(130704,pD [(0,[6]),(1,[]),(2,[]),(3,[]),(4,[]),(5,[]),(6,[]),(7,[]),(8,[])] (.of [0,1,2,3,4,5,6,7,8])),(261410,.fg Qbe.f),(130706,pD [(0,[6]),(1,[]),(2,[]),(3,[]),(4,[]),(5,[]),(6,[]),(7,[]),(8,[]),(9,[]),(10,[])] (.of [0,1,2,3,4,5,6,7,8,9,10])),(522828,pD [(0,[6]),(1,[6]),(2,[]),(3,[]),(4,[]),(5,[]),(6,[5]),(7,[5]),(8,[5]),(9,[5]),(10,[]),(11,[6]),(12,[6]),(13,[]),(14,[])] (.of [0,1,2,3,4,5,6,7,8,9,10,11,12,13,14])),(2091317,.fg QnU.f),(522831,.fg QnU.f)]
def Qzu:TC:=lb 0 Qzt
def Qzv (x2:Int)(x4:List Int)(x12:Int)(x13:List Int)(x14:Int)(y5 y6:Endpoint)(y10:Qb):VS:=Qbe.st (x2,x4,(),(),(),x12,x13,x14,()) (y5,y6,y10,())
def Qf1 (x11:Int)(y10:Qb):VS:=QnU.st ((),x11,()) (y10,())
def QnW (y10:Qb):VS:=Qzs.st ((),()) (y10,())
def QO4:VS->Option (Bool×List (Bool×Exit×VS)):=mkL Qbe (fun x y=>(Xg y.1 y.2.1 0 0 x.2.1&&decide (0<=x.2.2.2.2.2.2.2.1/\x.2.2.2.2.2.2.2.1<=x.2.2.2.2.2.2.1.length/\x.2.2.2.2.2.2.1.length<=100000))) (fun x y=>[(((Qx (J1 y.2.1 x.2.1 x.2.2.2.2.2.1) (x.2.2.2.2.2.2.1.drop x.2.2.2.2.2.2.2.1.toNat)).isSome),.ret,Qf1 ((Wh y.1 y.2.1 x.2.2.2.2.2.1 x.1 x.2.1 (x.2.2.2.2.2.2.1.drop x.2.2.2.2.2.2.2.1.toNat)).2) ((Wh y.1 y.2.1 x.2.2.2.2.2.1 x.1 x.2.1 (x.2.2.2.2.2.2.1.drop x.2.2.2.2.2.2.2.1.toNat)).1)),(true,.exit 0,QnW (y.2.2.1))])
def QnX:G:=gG 108 [(58,EP),(59,Qp7),(67,Vd),(69,Qoh)] (Ls [QO4])
def Qf2 (x2:Int)(x4:List Int)(x12:Int)(x13:List Int)(x14:Int)(y5 y6:Endpoint)(y10:Qb):OX:=QB (QD QnX QnV Qzu) (Qzv x2 x4 x12 x13 x14 y5 y6 y10)
def Qbf (kk:Int->List Int->Int->List Int->Int->Endpoint->Endpoint->Qb->OX)(x2:Int)(x4:List Int)(x12:Int)(x13:List Int)(x14:Int)(y5 y6:Endpoint)(y10:Qb):OX:=
 let a1:=lgt tI x13 (Int.toNat x14)
 let a2:=((((lgt Q1 y6.2.2.2.2.2.1 (Int.toNat ((Je y6 a1).1))).2).2).1)
 br (ilt x14 (Qc x13)) (br (cIx x13 x14) (br (EX y6 x4 x12 a1) (br (!(J1 y6 x4 x12 a1)) (kk x2 x4 x12 x13 (Qk .i64 x14 1) y5 y6 y10) (br (cIx x13 x14) (br (JT y6 a1) (br (cIx y6.2.2.2.2.2.1 ((Je y6 a1).1)) (br (XD a2 y5.2.2.2.2.2.2.1 y5.2.2.2.2.2.2.2.1 x2 y6.1) (br (ine (Wi a2 y5.2.2.2.2.2.2.1 y5.2.2.2.2.2.2.2.1 x2 y6.1) 0) (some (.ret,Qf1 29 (0,(0,())))) (br (cIx x13 x14) (some (.ret,Qf1 0 (x12,(a1,())))) none)) none) none) none) none)) none) none) (some (.exit 0,QnW y10))
def Qf3 (x2:Int)(x4:List Int)(x12:Int)(x13:List Int)(x14:Int)(y5 y6:Endpoint)(y10:Qb):OX:=
 let a1:=Wh y5 y6 x12 x2 x4 (x13.drop x14.toNat)
 br ((Qx (J1 y6 x4 x12) (x13.drop x14.toNat)).isSome) (some (.ret,Qf1 (a1.2) (a1.1)))<|some (.exit 0,QnW (y10))
theorem Qzw (x2:Int)(x4:List Int)(x12:Int)(x13:List Int)(x14:Int)(y5 y6:Endpoint)(y10:Qb):Qf2 x2 x4 x12 x13 x14 y5 y6 y10=Qbf Qf2 x2 x4 x12 x13 x14 y5 y6 y10:=lnT (x:=Qbf (fun x2 x4 x12 x13 x14 y5 y6 y10=>some (.normal,Qzv x2 x4 x12 x13 x14 y5 y6 y10)) x2 x4 x12 x13 x14 y5 y6 y10) (by simp only [Qbf,nxA];rfl)
def Qzx (p0 p1:Endpoint)(p2 p3:Int)(p4:List Int):OV:=
 let a1:=imn p3 p1.2.2.1
 let a2:=(p1.2.2.2.1.drop (0:Int).toNat)
 let a3:=(Wh p0 p1 a1 p2 p4 (p4.drop (0:Int).toNat))
 let a4:=Wh p0 p1 a1 p2 p4 a2
 br (Q2 p0) (br (ine (Zp p0) 0) (some (.tu [(.t Qh (0,(0,()))),(.t tI 19)],[])) (br (Q2 p1) (br (ine (Zp p1) 0) (some (.tu [(.t Qh (0,(0,()))),(.t tI 19)],[])) (br (ilt p2 0) (some (.tu [(.t Qh (0,(0,()))),(.t tI 2)],[])) (br (igt p2 40000) (some (.tu [(.t Qh (0,(0,()))),(.t tI 2)],[])) (br (ilt p3 1) (some (.tu [(.t Qh (0,(0,()))),(.t tI 2)],[])) (br (igt p3 4) (some (.tu [(.t Qh (0,(0,()))),(.t tI 2)],[])) (br (ilt a1 p0.2.1) (some (.tu [(.t Qh (0,(0,()))),(.t tI 27)],[])) (br (ilt a1 p1.2.1) (some (.tu [(.t Qh (0,(0,()))),(.t tI 27)],[])) (br (p1.2.2.2.2.1) (br (Xg p0 p1 0 0 p4&&decide (0<=(0:Int)/\(0:Int)<=p1.2.2.2.1.length/\p1.2.2.2.1.length<=100000)) (br ((Qx (J1 p1 p4 a1) a2).isSome) (some (.tu [(.t Qh (a4.1)),(.t tI (a4.2))],[])) (some (.tu [(.t Qh (0,(0,()))),(.t tI 28)],[]))) none) (br (Xg p0 p1 0 0 p4&&decide (0<=(0:Int)/\(0:Int)<=p4.length/\p4.length<=100000)) (br ((Qx (J1 p1 p4 a1) (p4.drop (0:Int).toNat)).isSome) (some (.tu [(.t Qh (a3.1)),(.t tI (a3.2))],[])) (some (.tu [(.t Qh (0,(0,()))),(.t tI 28)],[]))) none))))))))) none)) none
theorem QO5 (x2:Int)(x4:List Int)(x12:Int)(x13:List Int)(x14:Int)(y5 y6:Endpoint)(y10:Qb)(h:(Xg y5 y6 0 0 x4&&decide (0<=x14/\x14<=x13.length/\x13.length<=100000))=true):Qf2 x2 x4 x12 x13 x14 y5 y6 y10=Qf3 x2 x4 x12 x13 x14 y5 y6 y10:=by
 simp only [Xg,Bc,Ba] at h
 obtain ⟨⟨hr,ho⟩,h0,h1,h2⟩:=h
 obtain ⟨hc,hs⟩:=Bf.1 hr
 have hs':=Z1 hs
 obtain ⟨k,rfl⟩:=Bm h0
 have hle: ∀ v w,EX y6 x4 v w=true:=fun _ _=>Bd ⟨hs'.2.2.1,hs'.2.1,ho⟩
 have hid: ∀ x,JT y6 x=true:=fun x=>Bd hs'.2.2.1
 refine QW x13 (fun k=>Qf2 x2 x4 x12 x13 (k:Int) y5 y6 y10=Qf3 x2 x4 x12 x13 (k:Int) y5 y6 y10) ?_ ?_ k (by omega)
 ·rw [Qzw]
  simp only [Qbf,show ilt (x13.length:Int) (Qc x13)=false from Bn (by simp only [Qc];omega),Qi,Qf3,Bb,BE,Qx]
  rfl
 ·intro k hk ih
  rw [Qzw]
  simp only [Qbf,show ilt (k:Int) (Qc x13)=true from Bd (by simp only [Qc];omega),QS,hk,Bu,Qe,Bb,QU (show k<4611686018427387904 by omega),QX (y:=tI) hk,ih,hle,hid]
  simp only [Qf3,Bb,Bi hk,Wh,Qx]
  cases hp:J1 y6 x4 x12 x13[k] with
  |true=>
   obtain ⟨g1,g2⟩:=QnT (d:=x2) hc hs hp
   simp only [BC,Qi,if_true,B1,Qe,g1,List.getD_cons_zero]
   refine Eq.trans (congrArg (fun b=>br b _ _) g2) ?_
   rw [Qe]
   show br (ine (EE y5 y6 x2 x13[k]) 0) _ _=_
   unfold QnR
   cases ine (EE y5 y6 x2 x13[k]) 0<;>rfl
  |false=>
   simp only [Dy,Qe,BW,Ds]
   cases hq:Qx (J1 y6 x4 x12) (x13.drop (k+1)) with
   |none=>rfl
   |some j=>
    simp only [B6,B1,Qe,List.getD_cons_succ]
theorem QO6:LO QnX QnV Qzu 0:=QN (s:=Qbe) fun x y h _ q=>by simp only [QJ,QK] at q;exact (QO5 x.1 x.2.1 x.2.2.2.2.2.1 x.2.2.2.2.2.2.1 x.2.2.2.2.2.2.2.1 y.1 y.2.1 y.2.2.1 h).trans q
theorem s_f108 (c s:Endpoint)(d m:Int)(o:List Int)(h:Xg c s d m o=true):Qzx c s d m o=some (.tu [.t Qh (Z6 c s d m o).1,.t tI (Z6 c s d m o).2],[]):=by
 simp only [Xg,Bc,Ba] at h
 obtain ⟨hr,ho⟩:=h
 obtain ⟨hc,hs⟩:=Bf.1 hr
 have hs':=Z1 hs
 have hw:Xg c s 0 0 o=true:=Bf.2 ⟨hr,Bd ho⟩
 simp only [Qzx,hc,hs,hw,Qe,OP,BB,Bt,Bx]
 show _=GJ (Z6 c s d m o)
 have hd: ∀ l:List Int,l.length<=100000->decide ((0:Int)<=0/\(0:Int)<=l.length/\l.length<=100000)=true:=fun l hl=>Bd (by omega)
 have ho2: ∀ l:List Int,br (Qx (J1 s o (imn m s.2.2.1)) l).isSome (some (V.tu [.t Qh (Wh c s (imn m s.2.2.1) d o l).1,.t tI (Wh c s (imn m s.2.2.1) d o l).2],[])) (some (V.tu [.t Qh (0,(0,())),.t tI 28],[]))=GJ (Wh c s (imn m s.2.2.1) d o l):=fun l=>by
  unfold Wh
  cases Qx (J1 s o (imn m s.2.2.1)) l<;>rfl
 unfold Z6 YX
 cases Q3 c with
 |false=>rfl
 |true=>
  cases Q3 s with
  |false=>rfl
  |true=>
   simp only [BC,Qi,BX,BM]
   refine brT rfl<|brT rfl<|brT rfl<|brT rfl<|brT rfl<|brT rfl ?_
   cases hw:s.2.2.2.2.1 with
   |true=>
    rw [Qe,show Ui s o=QI s by unfold Ui;rw [hw];rfl]
    refine Eq.trans (congrArg (fun b=>br b _ _) (hd _ hs'.2.1)) ?_
    exact ho2 _
   |false=>
    rw [Qi,show Ui s o=o by unfold Ui;rw [hw];rfl]
    refine Eq.trans (congrArg (fun b=>br b _ _) (hd _ ho)) ?_
    exact ho2 _
def Qzy:Ent:=Qq (.pr Qj (.pr Qj (.pr tI (.pr tI (.pr (.sl tI) .nil))))) (fun x=>(Xg x.1 x.2.1 x.2.2.1 x.2.2.2.1 x.2.2.2.2.1)) (fun x=>(.tu [(.t Qh ((Z6 x.1 x.2.1 x.2.2.1 x.2.2.2.1 x.2.2.2.2.1).1)),(.t tI ((Z6 x.1 x.2.1 x.2.2.1 x.2.2.2.1 x.2.2.2.2.1).2))]))
theorem QO7:EM 108 Qzy:=mS (lk:=lkL (lkc QO6 lkn)) QnX Qzt [((.c 10 true 2),some Qh),((.t 11),some tI)] false (gB (gD OR (gD QDq (gD Qcc (gD QzY gN))))) fun m=>Qu m fun x hok=>kT (s_f108 x.1 x.2.1 x.2.2.1 x.2.2.2.1 x.2.2.2.2.1 hok)
def Zn (c s:Endpoint)(d:Int):Qb×Int:=Z6 c s d c.2.2.1 (QI c)
def Uj (c s:Endpoint)(_d:Int):Bool:=ZH c s
theorem EF {c:Endpoint}(h:Q3 c=true):1<=c.2.1/\c.2.1<=c.2.2.1/\c.2.2.1<=4:=by
 simp only [Q3,Bc,By] at h
 obtain ⟨_,h1,h2,h3,_⟩:=h
 have h1:=DN h1
 have h2:=DN h2
 have h3:=DN h3
 omega
def tc_f42:TC:=aF Tryz.f42 []
def g_f42:G:=gG 23 [(82,Qh1),(83,Qzr)] (fun _ _=>none)
def r_f42 (p0 p1:Endpoint)(p2:Int):OV:=
 let a1:=Z6 p0 p1 p2 p0.2.2.1 p0.2.2.2.1
 br (ZH p0 p1) (br (!(YX p0 p1)) (some (.tu [(.t Qh (0,(0,()))),(.t tI 19)],[])) (br (Xg p0 p1 p2 p0.2.2.1 p0.2.2.2.1) (some (.tu [(.t Qh (a1.1)),(.t tI (a1.2))],[])) none)) none
theorem s_f42 (c s:Endpoint)(d:Int)(h:Uj c s d=true):r_f42 c s d=some (.tu [.t Qh (Zn c s d).1,.t tI (Zn c s d).2],[]):=by
 have hr:ZH c s=true:=h
 have hw:Xg c s d c.2.2.1 (QI c)=true:=Bf.2 ⟨h,Bd (Z1 (Bf.1 h).1).2.1⟩
 simp only [r_f42,hr,hw,Qe]
 show _=GJ (Zn c s d)
 unfold Zn Z6
 cases YX c s<;>rfl
def QnY:Ent:=Qq (.pr Qj (.pr Qj (.pr tI .nil))) (fun x=>(Uj x.1 x.2.1 x.2.2.1)) (fun x=>(.tu [(.t Qh ((Zn x.1 x.2.1 x.2.2.1).1)),(.t tI ((Zn x.1 x.2.1 x.2.2.1).2))]))
theorem Qzz:EM 42 QnY:=mS g_f42 tc_f42 [((.c 6 true 2),some Qh),((.t 7),some tI)] false (gB (gD Qp8 (gD ms_f83 gN))) fun m=>Qu m fun x hok=>kT (s_f42 x.1 x.2.1 x.2.2.1 hok)
def tc_f65:TC:=aF Tryz.f65 []
def g_f65:G:=gG 20 [(108,Qzy)] (fun _ _=>none)
def r_f65 (p0 p1:Endpoint)(p2:Int):OV:=
 let a1:=Z6 p0 p1 p2 (imx 1 (imn 4 p0.2.2.1)) p0.2.2.2.1
 br (Xg p0 p1 p2 (imx 1 (imn 4 p0.2.2.1)) p0.2.2.2.1) (some (.tu [(.t Qh (a1.1)),(.t tI (a1.2))],[])) none
theorem s_f65 (c s:Endpoint)(d:Int)(h:Uj c s d=true):r_f65 c s d=some (.tu [.t Qh (Zn c s d).1,.t tI (Zn c s d).2],[]):=by
 have hr:ZH c s=true:=h
 have hw: ∀ m,Xg c s d m (QI c)=true:=fun m=>Bf.2 ⟨h,Bd (Z1 (Bf.1 h).1).2.1⟩
 simp only [r_f65,hw,Qe]
 show GJ (Z6 c s d (imx 1 (imn 4 c.2.2.1)) (QI c))=GJ (Z6 c s d c.2.2.1 (QI c))
 cases hv:Q3 c with
 |true=>
  have:=EF hv
  rw [show imx 1 (imn 4 c.2.2.1)=c.2.2.1 by simp only [imx,imn];omega]
 |false=>
  have:YX c s=false:=by unfold YX;rw [hv];rfl
  unfold Z6
  rw [this]
  rfl
def QnZ:Ent:=Qq (.pr Qj (.pr Qj (.pr tI .nil))) (fun x=>(Uj x.1 x.2.1 x.2.2.1)) (fun x=>(.tu [(.t Qh ((Zn x.1 x.2.1 x.2.2.1).1)),(.t tI ((Zn x.1 x.2.1 x.2.2.1).2))]))
theorem QzA:EM 65 QnZ:=mS g_f65 tc_f65 [((.c 6 true 2),some Qh),((.t 7),some tI)] false (gB (gD QO7 gN)) fun m=>Qu m fun x hok=>kT (s_f65 x.1 x.2.1 x.2.2.1 hok)
def Qn0 (e:Endpoint)(c:Int):List Qb:=
 [bif ieq (Q4 c).1.2.2.1.2.1 0 then ((Q4 c).1.2.2.1.1,((lgt Q1 (QH e) (Je e c).1.toNat).1.2.1,())) else (Q4 c).1.2.2.1,(lgt Q1 (QH e) (Je e c).1.toNat).1,(Q4 c).1.2.2.2.2.1,(Q4 c).1.2.2.2.2.2.1]
def Zo (e:Endpoint)(o:Qb):List Qb×Int:=
 bif !Q3 e then ([],19) else bif ine (Q4 o.2.1).2 0 then ([],(Q4 o.2.1).2) else bif !(Je e o.2.1).2 then ([],4) else (Qn0 e o.2.1,0)
def FB (e:Endpoint)(_o:Qb):Bool:=Q2 e
def outLI (p:List Qb×Int):OV:=some (.tu [.t (.sl Qh) p.1,.t tI p.2],[])
theorem QzB {e:Endpoint}{c:Int}(h:(Je e c).2=true):cIx (QH e) (Je e c).1=true:=by
 obtain ⟨k,hk,hl⟩:=QnS h
 rw [hk,QS]
 exact Bd hl
def tc_f50:TC:=aF Tryz.f50 []
def g_f50:G:=gG 57 [(56,Vc),(76,QgC),(85,Qb2)] (fun _ _=>none)
def r_f50 (p0:Endpoint)(p1:Qb):OV:=
 let a1:=((lgt Q1 p0.2.2.2.2.2.1 (Int.toNat ((Je p0 p1.2.1).1))).1)
 let a2:=((((Q4 p1.2.1).1).2).2)
 let a3:=(((((a2.2).2).2).1).1,((((((a2.2).2).2).1).2).1,()))
 let a4:=((((a2.2).2).1).1,(((((a2.2).2).1).2).1,()))
 let a5:=((a1.2).1,())
 br (Q2 p0) (br (ine (Zp p0) 0) (some (.tu [(.t (.sl Qh) ([]:List Qb)),(.t tI (Zp p0))],[])) (br (ine ((Q4 p1.2.1).2) 0) (some (.tu [(.t (.sl Qh) ([]:List Qb)),(.t tI ((Q4 p1.2.1).2))],[])) (br (JT p0 p1.2.1) (br (!((Je p0 p1.2.1).2)) (some (.tu [(.t (.sl Qh) ([]:List Qb)),(.t tI 4)],[])) (br (cIx p0.2.2.2.2.2.1 ((Je p0 p1.2.1).1)) (br (ieq (((a2.1).2).1) 0) (some (.tu [(.t (.sl Qh) ([((a2.1).1,a5),(a1.1,a5),a4,a3])),(.t tI 0)],[])) (some (.tu [(.t (.sl Qh) ([((a2.1).1,(((a2.1).2).1,())),(a1.1,a5),a4,a3])),(.t tI 0)],[]))) none)) none))) none
theorem s_f50 (e:Endpoint)(o:Qb)(h:FB e o=true):r_f50 e o=some (.tu [.t (.sl Qh) (Zo e o).1,.t tI (Zo e o).2],[]):=by
 have hr:Q2 e=true:=h
 have hid: ∀ x,JT e x=true:=fun x=>Bd (Z1 hr).2.2.1
 simp only [r_f50,hr,hid,Qe,OP]
 show _=outLI (Zo e o)
 unfold Zo Zp
 cases Q3 e with
 |false=>rfl
 |true=>
  rw [BC,Qi,BM]
  cases ine (Q4 o.2.1).2 0 with
  |true=>rfl
  |false=>
   rw [Qi,BM]
   cases hi:(Je e o.2.1).2 with
   |false=>rfl
   |true=>
    rw [BC,Qi,BM]
    refine Eq.trans (congrArg (fun b=>br b _ _) (QzB hi)) ?_
    rw [Qe]
    unfold Qn0
    cases ieq (Q4 o.2.1).1.2.2.1.2.1 0<;>rfl
def QzC:Ent:=Qq (.pr Qj (.pr Qh .nil)) (fun x=>(FB x.1 x.2.1)) (fun x=>(.tu [(.t (.sl Qh) ((Zo x.1 x.2.1).1)),(.t tI ((Zo x.1 x.2.1).2))]))
theorem ms_f50:EM 50 QzC:=mS g_f50 tc_f50 [((.t 4),some (.sl Qh)),((.t 5),some tI)] false (gB (gD Qca (gD QoI (gD QhI gN)))) fun m=>Qu m fun x hok=>kT (s_f50 x.1 x.2.1 hok)
def QO8:TC:=aF Tryz.f111 []
def g_f111:G:=gG 54 [(58,EP),(67,Vd),(103,O7)] (fun _ _=>none)
def QzD (p0:Endpoint)(p1:Qb):OV:=
 let a1:=((lgt Q1 p0.2.2.2.2.2.1 (Int.toNat ((Je p0 p1.2.1).1))).1)
 let a2:=((((Q4 p1.2.1).1).2).2)
 let a3:=(((((a2.2).2).2).1).1,((((((a2.2).2).2).1).2).1,()))
 let a4:=((((a2.2).2).1).1,(((((a2.2).2).1).2).1,()))
 let a5:=((a1.2).1,())
 br (Q2 p0) (br (ine (Zp p0) 0) (some (.tu [(.t (.sl Qh) ([]:List Qb)),(.t tI 19)],[])) (br (ine ((Q4 p1.2.1).2) 0) (some (.tu [(.t (.sl Qh) ([]:List Qb)),(.t tI ((Q4 p1.2.1).2))],[])) (br (JT p0 p1.2.1) (br (!((Je p0 p1.2.1).2)) (some (.tu [(.t (.sl Qh) ([]:List Qb)),(.t tI 4)],[])) (br (cIx p0.2.2.2.2.2.1 ((Je p0 p1.2.1).1)) (br (ieq (((a2.1).2).1) 0) (some (.tu [(.t (.sl Qh) ([((a2.1).1,a5),(a1.1,a5),a4,a3])),(.t tI 0)],[])) (some (.tu [(.t (.sl Qh) ([((a2.1).1,(((a2.1).2).1,())),(a1.1,a5),a4,a3])),(.t tI 0)],[]))) none)) none))) none
theorem s_f111 (e:Endpoint)(o:Qb)(h:FB e o=true):QzD e o=some (.tu [.t (.sl Qh) (Zo e o).1,.t tI (Zo e o).2],[]):=by
 have hr:Q2 e=true:=h
 have hid: ∀ x,JT e x=true:=fun x=>Bd (Z1 hr).2.2.1
 simp only [QzD,hr,hid,Qe,OP]
 show _=outLI (Zo e o)
 unfold Zo
 cases Q3 e with
 |false=>rfl
 |true=>
  rw [BC,Qi,BM]
  cases ine (Q4 o.2.1).2 0 with
  |true=>rfl
  |false=>
   rw [Qi,BM]
   cases hi:(Je e o.2.1).2 with
   |false=>rfl
   |true=>
    rw [BC,Qi,BM]
    refine Eq.trans (congrArg (fun b=>br b _ _) (QzB hi)) ?_
    rw [Qe]
    unfold Qn0
    cases ieq (Q4 o.2.1).1.2.2.1.2.1 0<;>rfl
def QzE:Ent:=Qq (.pr Qj (.pr Qh .nil)) (fun x=>(FB x.1 x.2.1)) (fun x=>(.tu [(.t (.sl Qh) ((Zo x.1 x.2.1).1)),(.t tI ((Zo x.1 x.2.1).2))]))
theorem QO9:EM 111 QzE:=mS g_f111 QO8 [((.t 4),some (.sl Qh)),((.t 5),some tI)] false (gB (gD OR (gD Qcc (gD Qb3 gN)))) fun m=>Qu m fun x hok=>kT (s_f111 x.1 x.2.1 hok)
end
end Go.Proofs.YtckcgijklnloiaaGreat.K
noncomputable section
namespace Go.Proofs.YtckcgijklnloiaaGreat.K
open Go.RowKit
noncomputable section
def EK (a b:List Qb):Bool:=a==b
def GP (a b:List Qb):Bool:=decide (a.length<=100000/\b.length<=100000)
theorem brN {β:Type}{p q:Bool}{X:Option β}:br p (br q X none) none=br (p&&q) X none:=by cases p<;>rfl
def WK (c:Int):Int:=bif ine (Q4 c).2 0 then 0 else Wp (Q4 c).1.2.2.2.2.1
def QPI:TC:=aF Tryz.f153 []
def g_f153:G:=gG 15 [(103,O7),(170,Qrs)] (fun _ _=>none)
def QAt (p0:Int):OV:=br (ine ((Q4 p0).2) 0) (some (.t tI 0,[])) (some (.t tI (Wp (((((((Q4 p0).1).2).2).2).2).1)),[]))
theorem s_f153 (c:Int):QAt c=some (.t tI (WK c),[]):=by
 simp only [QAt]
 unfold WK
 cases ine (Q4 c).2 0<;>rfl
def QAu:Ent:=Qq (.pr tI .nil) (fun x=>true) (fun x=>(.t tI (WK x.1)))
theorem QPJ:EM 153 QAu:=mS g_f153 QPI [((.t 2),some tI)] false (gB (gD Qb3 (gD QFL gN))) fun m=>Qu m fun x _=>kT (s_f153 x.1)
def Za (x:Int)(l:List Int):Nat->Nat
 |0=>0
 |k+1=>if ilt (WK (l.getD k 0)) (WK x)=true then Za x l k else k+1
theorem QoA (x:Int)(l:List Int): ∀ k,Za x l k<=k
 |0=>BS _
 |k+1=>by
  unfold Za
  split
  ·exact Nat.le_succ_of_le (QoA x l k)
  ·exact BS _
def Wk (l:List Int)(x:Int):List Int:=(l.take (Za x l l.length)++[x])++l.drop (Za x l l.length)
theorem QAv (l:List Int)(x:Int):(Wk l x).length=l.length+1:=by
 have:=QoA x l l.length
 simp only [Wk,Bj,B5,Dk,Bh]
 omega
def FG (l:List Int):List Int:=l.foldl Wk []
def Qbw (l:List Int):Bool:=decide (l.length<=1000)
abbrev Qbx:Sh:=⟨[(0,.ty (.sl tI)),(3,.ms 3),(4,.ty tI),(5,.ty tI)],[(3,.arr 3 tI),(32,.no),(36,.no),(42,.no),(46,.no)]⟩
abbrev Qgu:Sh:=⟨[(0,.ty (.sl tI)),(3,.ms 3),(4,.ty tI)],[(3,.arr 3 tI),(32,.no),(36,.no),(42,.no),(46,.no)]⟩
abbrev QAw:Sh:=⟨[(3,.ms 3)],[(3,.arr 3 tI),(32,.no),(36,.no),(42,.no),(46,.no)]⟩
def QoB:Fg:=Qbx.f
def QoC:Fg:=Qgu.f
def QoD:TC:=aF Tryz.f112 [(58,.nw 3 3),(58,pL 1 QoC),(116,.mv [(32,3)]),(931,.fg QAw.f),(7460,pL 0 QoB),(59680,pD [(0,[]),(1,[]),(2,[]),(3,[3,32,36,42,46]),(4,[]),(5,[]),(6,[3,32,36,42,46]),(7,[3,32,36,42,46]),(8,[]),(9,[]),(10,[]),(11,[]),(12,[]),(13,[]),(14,[]),(15,[])] (.of [0,1,2,3,4,5,6,7,8,9,10,11,12,13,14,15])),(119363,.fg Qbx.f),(3731,pD [(0,[32,5032,10032,15032]),(1,[3,32,36,42,46]),(2,[]),(3,[3,32,36,42,46]),(4,[3,32,36,42,46,5036,10036,15036]),(5,[]),(6,[]),(7,[]),(8,[]),(9,[]),(10,[32,36,42,5042,10042,15042]),(11,[3,32,36,42,46]),(12,[]),(13,[3,32,36,42,46]),(14,[3,32,36,42,46,5046,10046,15046]),(15,[32,36,42,46])] (.one 2 (.one 5 (.one 6 (.one 7 (.one 8 (.one 9 (.one 12 (.alt 0 (.one 1 (.one 3 (.alt 4 (.alt 10 (.of [11,13,14,15]) (.one 11 (.alt 10 (.of [13,14,15]) (.of [13,10,14,15])))) (.one 11 (.alt 4 (.alt 10 (.of [13,14,15]) (.of [13,10,14,15])) (.of [13,4,10,14,15])))))) (.alt 1 (.alt 0 (.one 3 (.alt 4 (.alt 10 (.of [11,13,14,15]) (.one 11 (.alt 10 (.of [13,14,15]) (.of [13,10,14,15])))) (.one 11 (.alt 4 (.alt 10 (.of [13,14,15]) (.of [13,10,14,15])) (.of [13,4,10,14,15]))))) (.alt 3 (.alt 0 (.alt 4 (.alt 10 (.of [11,13,14,15]) (.one 11 (.alt 10 (.of [13,14,15]) (.of [13,10,14,15])))) (.one 11 (.alt 4 (.alt 10 (.of [13,14,15]) (.of [13,10,14,15])) (.of [13,4,10,14,15])))) (.one 11 (.alt 0 (.alt 4 (.alt 10 (.of [13,14,15]) (.of [13,10,14,15])) (.of [13,4,10,14,15])) (.of [13,0,4,10,14,15])))) (.one 11 (.alt 0 (.one 3 (.alt 4 (.alt 10 (.of [13,14,15]) (.of [13,10,14,15])) (.of [13,4,10,14,15]))) (.alt 3 (.alt 0 (.alt 4 (.alt 10 (.of [13,14,15]) (.of [13,10,14,15])) (.of [13,4,10,14,15])) (.of [13,0,4,10,14,15])) (.one 13 (.alt 0 (.of [3,4,10,14,15]) (.of [3,0,4,10,14,15])))))))) (.one 11 (.alt 0 (.one 1 (.one 3 (.alt 4 (.alt 10 (.of [13,14,15]) (.of [13,10,14,15])) (.of [13,4,10,14,15])))) (.alt 1 (.alt 0 (.one 3 (.alt 4 (.alt 10 (.of [13,14,15]) (.of [13,10,14,15])) (.of [13,4,10,14,15]))) (.alt 3 (.alt 0 (.alt 4 (.alt 10 (.of [13,14,15]) (.of [13,10,14,15])) (.of [13,4,10,14,15])) (.of [13,0,4,10,14,15])) (.one 13 (.alt 0 (.of [3,4,10,14,15]) (.of [3,0,4,10,14,15]))))) (.one 13 (.alt 0 (.of [1,3,4,10,14,15]) (.one 1 (.alt 0 (.of [3,4,10,14,15]) (.of [3,0,4,10,14,15]))))))))))))))))))]
def QAx:TC:=lb 0 QoD
def QAy:TC:=lb 1 QoD
def OB (x0:List Int)(x4 x5:Int)(y3:List Int):VS:=Qbx.st (x0,(),x4,x5,()) (y3,(),(),(),(),())
def QAz (x0:List Int)(x4:Int)(y3:List Int):VS:=Qgu.st (x0,(),x4,()) (y3,(),(),(),(),())
def QoE (y3:List Int):VS:=QAw.st ((),()) (y3,(),(),(),(),())
def QPK:VS->Option (Bool×List (Bool×Exit×VS)):=mkL Qbx (fun x y=>(decide (0<=x.2.2.2.1/\x.2.2.2.1<=y.1.length/\y.1.length<=1000)&&cIx x.1 x.2.2.1)) (fun x y=>[(true,.exit 2,OB (x.1) (x.2.2.1) ((Za (lgt tI x.1 x.2.2.1.toNat) y.1 x.2.2.2.1.toNat:Nat):Int) (y.1))])
def QPL:VS->Option (Bool×List (Bool×Exit×VS)):=mkL Qgu (fun x y=>(decide (0<=x.2.2.1/\x.2.2.1<=x.1.length/\x.1.length<=1000/\y.1.length<=x.2.2.1.toNat))) (fun x y=>[(true,.exit 0,QoE ((x.1.drop x.2.2.1.toNat).foldl Wk y.1))])
def Qby:G:=⟨TYs,[32],48,EL [(153,QAu)],YD,(Ls [QPK,QPL]),IL [],RL []⟩
def Qgv (x0:List Int)(x4 x5:Int)(y3:List Int):OX:=QB (QD Qby QoB QAx) (OB x0 x4 x5 y3)
def Qbz (kk:List Int->Int->Int->List Int->OX)(x0:List Int)(x4 x5:Int)(y3:List Int):OX:=
 let a1:=QT .i64 x5 1
 br (igt x5 0) (br (cIx y3 a1) (br (cLd y3 (Int.toNat a1)) (br (cIx x0 x4) (br (ilt (WK (lgt tI y3 (Int.toNat a1))) (WK (lgt tI x0 (Int.toNat x4)))) (kk x0 x4 a1 y3) (some (.exit 2,OB x0 x4 x5 y3))) none) none) none) (some (.exit 2,OB x0 x4 x5 y3))
def Qgw (x0:List Int)(x4 x5:Int)(y3:List Int):OX:=some (.exit 2,OB (x0) (x4) ((Za (lgt tI x0 x4.toNat) y3 x5.toNat:Nat):Int) (y3))
theorem QAA (x0:List Int)(x4 x5:Int)(y3:List Int):Qgv x0 x4 x5 y3=Qbz Qgv x0 x4 x5 y3:=lnT (x:=Qbz (fun x0 x4 x5 y3=>some (.normal,OB x0 x4 x5 y3)) x0 x4 x5 y3) (by simp only [Qbz,nxA];rfl)
def Qgx (x0:List Int)(x4:Int)(y3:List Int):OX:=QB (QD Qby QoC QAy) (QAz x0 x4 y3)
def OC (kk:List Int->Int->List Int->OX)(x0:List Int)(x4:Int)(y3:List Int):OX:=
 let a1:=((Za (lgt tI x0 x4.toNat) y3 (Qc y3).toNat:Nat):Int)
 let a2:=(wnL tI (y3) (Int.toNat a1) (Int.toNat ((List.length (y3):Nat):Int)-Int.toNat a1))
 let a3:=wnL tI (y3) (Int.toNat 0) (Int.toNat a1-Int.toNat 0)
 let a4:=lgt tI (x0) (Int.toNat (x4))
 br (Qr ((([]:List Int)++a3)++([a4])) a2 8) (kk (x0) (Qk .i64 (x4) 1) (((([]:List Int)++a3)++([a4]))++a2)) none
def OD (kk:List Int->Int->List Int->OX)(x0:List Int)(x4:Int)(y3:List Int):OX:=
 let a1:=((Za (lgt tI x0 x4.toNat) y3 (Qc y3).toNat:Nat):Int)
 br (Qr (([]:List Int)++(wnL tI (y3) (Int.toNat 0) (Int.toNat a1-Int.toNat 0))) ([(lgt tI (x0) (Int.toNat (x4)))]) 8) (br (cWn (y3) a1 ((List.length (y3):Nat):Int)) (OC kk x0 x4 y3) none) none
def OE (kk:List Int->Int->List Int->OX)(x0:List Int)(x4:Int)(y3:List Int):OX:=br (Qr (([]:List Int)++(wnL tI (y3) (Int.toNat 0) (Int.toNat ((Za (lgt tI x0 x4.toNat) y3 (Qc y3).toNat:Nat):Int)-Int.toNat 0))) ([(lgt tI (x0) (Int.toNat (x4)))]) 8) (OC kk x0 x4 y3) none
def OF (kk:List Int->Int->List Int->OX)(x0:List Int)(x4:Int)(y3:List Int):OX:=frk (OD kk x0 x4 y3) (br (cWn (y3) ((Za (lgt tI x0 x4.toNat) y3 (Qc y3).toNat:Nat):Int) ((List.length (y3):Nat):Int)) (OE kk x0 x4 y3) none)
def OG (kk:List Int->Int->List Int->OX)(x0:List Int)(x4:Int)(y3:List Int):OX:=br (Qr ([]:List Int) (wnL tI (y3) (Int.toNat 0) (Int.toNat ((Za (lgt tI x0 x4.toNat) y3 (Qc y3).toNat:Nat):Int)-Int.toNat 0)) 8) (OE kk x0 x4 y3) none
def OH (kk:List Int->Int->List Int->OX)(x0:List Int)(x4:Int)(y3:List Int):OX:=br (cWn (y3) ((Za (lgt tI x0 x4.toNat) y3 (Qc y3).toNat:Nat):Int) ((List.length (y3):Nat):Int)) (OG kk x0 x4 y3) none
def EN (kk:List Int->Int->List Int->OX)(x0:List Int)(x4:Int)(y3:List Int):OX:=frk (br (Qr ([]:List Int) (wnL tI (y3) (Int.toNat 0) (Int.toNat ((Za (lgt tI x0 x4.toNat) y3 (Qc y3).toNat:Nat):Int)-Int.toNat 0)) 8) (OF kk x0 x4 y3) none) (OH kk x0 x4 y3)
def OI (kk:List Int->Int->List Int->OX)(x0:List Int)(x4:Int)(y3:List Int):OX:=frk (br (Qr ([]:List Int) (wnL tI (y3) (Int.toNat 0) (Int.toNat ((Za (lgt tI x0 x4.toNat) y3 (Qc y3).toNat:Nat):Int)-Int.toNat 0)) 8) (frk (OD kk x0 x4 y3) (OF kk x0 x4 y3)) none) (EN kk x0 x4 y3)
def OJ (kk:List Int->Int->List Int->OX)(x0:List Int)(x4:Int)(y3:List Int):OX:=br (cWn (y3) 0 ((Za (lgt tI x0 x4.toNat) y3 (Qc y3).toNat:Nat):Int)) (OI kk x0 x4 y3) none
def OK (kk:List Int->Int->List Int->OX)(x0:List Int)(x4:Int)(y3:List Int):OX:=frk (EN kk x0 x4 y3) (OH kk x0 x4 y3)
def OL (kk:List Int->Int->List Int->OX)(x0:List Int)(x4:Int)(y3:List Int):OX:=br (cWn (y3) 0 ((Za (lgt tI x0 x4.toNat) y3 (Qc y3).toNat:Nat):Int)) (EN kk x0 x4 y3) none
def EO (kk:List Int->Int->List Int->OX)(x0:List Int)(x4:Int)(y3:List Int):OX:=br (cWn (y3) 0 ((Za (lgt tI x0 x4.toNat) y3 (Qc y3).toNat:Nat):Int)) (OG kk x0 x4 y3) none
def OM (kk:List Int->Int->List Int->OX)(x0:List Int)(x4:Int)(y3:List Int):OX:=frk (EO kk x0 x4 y3) (EO kk x0 x4 y3)
def ON (kk:List Int->Int->List Int->OX)(x0:List Int)(x4:Int)(y3:List Int):OX:=
 let a1:=((Za (lgt tI x0 x4.toNat) y3 (Qc y3).toNat:Nat):Int)
 frk (OL kk x0 x4 y3) (frk (br (cWn (y3) 0 a1) (OK kk x0 x4 y3) none) (br (cWn (y3) a1 ((List.length (y3):Nat):Int)) (OM kk x0 x4 y3) none))
def OO (kk:List Int->Int->List Int->OX)(x0:List Int)(x4:Int)(y3:List Int):OX:=
 let a1:=((Za (lgt tI x0 x4.toNat) y3 (Qc y3).toNat:Nat):Int)
 br (ilt x4 (Qc x0)) (br (decide (0<=(Qc y3)/\(Qc y3)<=y3.length/\y3.length<=1000)&&cIx x0 x4) (br (cIx (x0) (x4)) (frk (OJ kk x0 x4 y3) (frk (frk (OJ kk x0 x4 y3) (frk (br (cWn (y3) 0 a1) (frk (OI kk x0 x4 y3) (OK kk x0 x4 y3)) none) (ON kk x0 x4 y3))) (frk (OL kk x0 x4 y3) (frk (ON kk x0 x4 y3) (br (cWn (y3) a1 ((List.length (y3):Nat):Int)) (frk (EO kk x0 x4 y3) (OM kk x0 x4 y3)) none))))) none) none) (some (.exit 0,QoE y3))
def Qgy (x0:List Int)(x4:Int)(y3:List Int):OX:=some (.exit 0,QoE ((x0.drop x4.toNat).foldl Wk y3))
theorem QAB (x0:List Int)(x4:Int)(y3:List Int):Qgx x0 x4 y3=OO Qgx x0 x4 y3:=lnT (x:=OO (fun x0 x4 y3=>some (.normal,QAz x0 x4 y3)) x0 x4 y3) (by
 first
 |(simp only [Jt,OO,OJ,OI,OD,OC,OF,OE,EN,OH,OG,OK,ON,OL,OM,EO,Jt,Xy,X7,X8,X9,Wa]
   rfl)
 |(simp only [Jt,OO,OJ,OI,OD,OC,OF,OE,EN,OH,OG,OK,ON,OL,OM,EO,Jt]
   try generalize (Qr ((([]:List Int)++(wnL tI (y3) (Int.toNat 0) (Int.toNat (((Za (lgt tI x0 x4.toNat) y3 (Qc y3).toNat:Nat):Int))-Int.toNat 0)))++([(lgt tI (x0) (Int.toNat (x4)))])) (wnL tI (y3) (Int.toNat (((Za (lgt tI x0 x4.toNat) y3 (Qc y3).toNat:Nat):Int))) (Int.toNat ((List.length (y3):Nat):Int)-Int.toNat (((Za (lgt tI x0 x4.toNat) y3 (Qc y3).toNat:Nat):Int)))) 8)=cq0
   try generalize (cWn (y3) (((Za (lgt tI x0 x4.toNat) y3 (Qc y3).toNat:Nat):Int)) ((List.length (y3):Nat):Int))=cq1
   try generalize (Qr (([]:List Int)++(wnL tI (y3) (Int.toNat 0) (Int.toNat (((Za (lgt tI x0 x4.toNat) y3 (Qc y3).toNat:Nat):Int))-Int.toNat 0))) ([(lgt tI (x0) (Int.toNat (x4)))]) 8)=cq2
   try generalize (Qr ([]:List Int) (wnL tI (y3) (Int.toNat 0) (Int.toNat (((Za (lgt tI x0 x4.toNat) y3 (Qc y3).toNat:Nat):Int))-Int.toNat 0)) 8)=cq3
   try generalize (cWn (y3) 0 (((Za (lgt tI x0 x4.toNat) y3 (Qc y3).toNat:Nat):Int)))=cq4
   try generalize (cIx (x0) (x4))=cq5
   try generalize ((decide (0<=(Qc y3)/\(Qc y3)<=y3.length/\y3.length<=1000)&&cIx x0 x4))=cq6
   simp only [brN,Jt,Bool.and_assoc,Bool.and_comm,Bool.and_left_comm,BX,Bool.and_self_left,Xy,X7,X8,X9,Wa]
   try rfl))
def r_f112 (p0:List Int):OV:=br (decide (0<=(0:Int)/\(0:Int)<=p0.length/\p0.length<=1000/\([]:List Int).length<=(0:Int).toNat)) (some (.ms 50000,[.arr 3 tI ((p0.drop (0:Int).toNat).foldl Wk ([]:List Int))])) none
theorem QPM (x0:List Int)(x4 x5:Int)(y3:List Int)(h:(decide (0<=x5/\x5<=y3.length/\y3.length<=1000)&&cIx x0 x4)=true):Qgv x0 x4 x5 y3=Qgw x0 x4 x5 y3:=by
 obtain ⟨h,hc⟩:=Bf.1 h
 obtain ⟨h0,h1,h2⟩:=Bv h
 obtain ⟨k,rfl⟩:=Bm h0
 have key: ∀ k:Nat,k<=y3.length->Qgv x0 x4 (k:Int) y3=Qgw x0 x4 (k:Int) y3:=by
  intro k
  induction k with
  |zero=>
   intro _
   rw [QAA]
   simp only [Qbz,Qgw,show igt ((0:Nat):Int) 0=false from rfl,Qi,Bb]
   rfl
  |succ k ih=>
   intro hk
   rw [QAA]
   have e1:QT .i64 ((k+1:Nat):Int) 1=(k:Int):=by rw [Zu (by omega)];omega
   have e2:cLd y3 k=true:=Bd (by omega)
   simp only [Qbz,show igt ((k+1:Nat):Int) 0=true from Bd (by omega),Qe,e1,QS,show k<y3.length by omega,Bu,Bb,e2,hc,ih (by omega)]
   simp only [Qgw,Bb]
   rw [show Za (lgt tI x0 x4.toNat) y3 (k+1)=if ilt (WK (y3.getD k 0)) (WK (lgt tI x0 x4.toNat))=true then Za (lgt tI x0 x4.toNat) y3 k else k+1 from rfl]
   show br (ilt (WK (y3.getD k 0)) (WK (lgt tI x0 x4.toNat))) _ _=_
   cases ilt (WK (y3.getD k 0)) (WK (lgt tI x0 x4.toNat))<;>rfl
 exact key k (by omega)
theorem QPN (x0:List Int)(x4:Int)(y3:List Int)(h:(decide (0<=x4/\x4<=x0.length/\x0.length<=1000/\y3.length<=x4.toNat))=true):Qgx x0 x4 y3=Qgy x0 x4 y3:=by
 simp only [Ba] at h
 obtain ⟨h0,h1,h2,h3⟩:=h
 obtain ⟨k,rfl⟩:=Bm h0
 rw [Bb] at h3
 revert y3
 refine QW x0 (fun k=> ∀ y3:List Int,y3.length<=k->Qgx x0 (k:Int) y3=Qgy x0 (k:Int) y3) ?_ ?_ k (by omega)
 ·intro y3 _
  rw [QAB]
  simp only [OO,OJ,OI,OD,OC,OF,OE,EN,OH,OG,OK,ON,OL,OM,EO,Jt,Qgy,show ilt (x0.length:Int) (Qc x0)=false from Bn (by simp only [Qc];omega),Qi,Bb,BE,List.foldl_nil]
 ·intro k hk ih y3 hy
  rw [QAB]
  have hle:=QoA x0[k] y3 y3.length
  obtain ⟨q,hq⟩: ∃ q,q=Za x0[k] y3 y3.length:=⟨_,rfl⟩
  rw [←hq] at hle
  have c0:decide ((0:Int)<=(y3.length:Nat)/\((y3.length:Nat):Int)<=y3.length/\y3.length<=1000)=true:=Bd (by omega)
  have c1:cWn y3 0 (q:Int)=true:=Bd (by omega)
  have c2:cWn y3 (q:Int) (y3.length:Nat)=true:=Bd (by omega)
  have w1:wnL tI y3 0 (q-0)=y3.take q:=by rw [QdS (by omega),Bx,Nat.sub_zero]
  have w2:wnL tI y3 q (y3.length-q)=y3.drop q:=by rw [QdS (by omega),DK (by rw [Dk];omega)]
  have a1:Qr ([]:List Int) (y3.take q) 8=true:=Q7 (by omega) (by simp only [Bw,B5];omega)
  have a2:Qr (y3.take q) [x0[k]] 8=true:=Q7 (by omega) (by simp only [Bh,B5];omega)
  have a3:Qr (y3.take q++[x0[k]]) (y3.drop q) 8=true:=Q7 (by omega) (by simp only [Bj,Bh,B5,Dk];omega)
  simp only [OO,OJ,OI,OD,OC,OF,OE,EN,OH,OG,OK,ON,OL,OM,EO,Jt,show ilt (k:Int) (Qc x0)=true from Bd (by simp only [Qc];omega),QS,hk,Bu,B8,Qe,Bb,Bt,QU (show k<4611686018427387904 by omega),QX (y:=tI) hk,Qc,c0, ← hq,c1,c2,w1,w2,BO,a1,a2,a3,Jt]
  have e:=ih (Wk y3 x0[k]) (by rw [QAv];omega)
  simp only [Wk, ← hq] at e
  rw [e]
  simp only [Qgy,Bb,Bi hk,Dz,Wk, ← hq]
theorem QPO:LO Qby QoB QAx 0:=QN (s:=Qbx) fun x y h _ q=>by simp only [QJ,QK] at q;exact (QPM x.1 x.2.2.1 x.2.2.2.1 y.1 h).trans q
theorem QPP:LO Qby QoC QAy 1:=QN (s:=Qgu) fun x y h _ q=>by simp only [QJ,QK] at q;exact (QPN x.1 x.2.2.1 y.1 h).trans q
theorem s_f112 (l:List Int)(h:Qbw l=true):r_f112 l=some (.ms 50000,[.arr 3 tI (FG l)]):=by
 simp only [Qbw,Ba] at h
 refine Eq.trans (congrArg (fun b=>br b _ _) (Bd ⟨B3 _,by omega,h,by simp⟩)) ?_
 rfl
def QAC:Ent:=U3 (.pr (.sl tI) .nil) (fun x=>(Qbw x.1)) (fun x=>(.ms 50000)) (fun x=>[.arr 3 tI (FG x.1)])
theorem QPQ:EM 112 QAC:=mS (lk:=lkL (lkc QPP (lkc QPO lkn))) Qby QoD [((.t 2),none)] true (Zz _ (gA (gD QPJ gN))) fun m=>Qe4 m fun x hok=>kT (s_f112 x.1 hok)
end
end Go.Proofs.YtckcgijklnloiaaGreat.K
noncomputable section
namespace Go.Proofs.YtckcgijklnloiaaGreat.K
open Go.RowKit
noncomputable section
theorem XA {d:Qd}{l:List Int}(h:dOk d=true)(h1:l≠[])(h2:l.length<=100):Jc d l=true:=by
 have:0<l.length:=List.length_pos_iff.2 h1
 simp only [Jc,h,BB,Ba]
 omega
theorem ZA {d:Qd}{n:Int}(h:dOk d=true)(hn:n<=1000000):QL d n=true:=by
 simp only [QL,h,BB,Ba]
 omega
theorem WE {d:Qd}{n:Int}(h:dOk d=true)(h0:0<=n)(hn:n<=1000000):JS d n=true:=by
 simp only [JS,ZA h hn,BB,Ba]
 omega
abbrev QaX (d:Qd):Int:=dof d [5,7,5,6,8,9]
def Yr (d:Qd):Qb:=(QaX d,(Y9 (Qt d [5,7,5,6,8,9]) (QaX d),()))
def JF (d:Qd):Qd:=Z5 (Qt d [5,7,5,6,8,9]) (QaX d)
theorem Qfk {d:Qd}(h:dOk d=true):dOk (JF d)=true:=Qfo (JH h)
def tc_f73:TC:=aF Tryz.f73 []
def g_f73:G:=gG 12 [(45,Ge),(74,Qfn)] (fun _ _=>none)
def r_f73 (d0:Qd):OV:=
 let a1:=(dof d0 ([5,7,5,6,8,9]))
 let a2:=(Qt d0 ([5,7,5,6,8,9]))
 br (Jc d0 ([5,7,5,6,8,9])) (br (GH a2 a1) (some (.t Qh (a1,((Y9 a2 a1),())),[.box (.t QM (Z5 a2 a1))])) none) none
theorem s_f73 (d:Qd)(h:dOk d=true):r_f73 d=some (.t Qh (Yr d),[.box (.t QM (JF d))]):=by
 have h1:Jc d [5,7,5,6,8,9]=true:=XA h (by decide) (by decide)
 have h2:GH (Qt d [5,7,5,6,8,9]) (dof d [5,7,5,6,8,9])=true:=JH (l:=[5,7,5,6,8,9]) h
 simp only [r_f73,h1,h2,Qe]
 rfl
def QmY:Ent:=Y8 QM .nil (fun d x=>(dOk d)) (fun d x=>(.t Qh (Yr d))) (fun d x=>(JF d))
theorem Qxs:EM 73 QmY:=mS g_f73 tc_f73 [((.c 2 true 2),some Qh)] false (gB (gD GM (gD Qm4 gN))) fun m=>X6 m rfl fun d x hok=>kT (s_f73 d hok)
abbrev cD1 (d:Qd):Qd:=Qg d 1000
abbrev cD2 (d:Qd):Qd:=Qt (cD1 d) [3,2,4,1]
abbrev cD3 (d:Qd):Qd:=Qt (cD2 d) [0,5,10]
abbrev cD4 (d:Qd):Qd:=Qt (cD3 d) [1000,100,50,20]
def cD5 (d:Qd)(a:Bool):Qd:=bif a then Qt (cD4 d) [3,0,1] else cD4 d
def Ue (d:Qd)(a:Bool):Int:=bif a then dof (cD4 d) [3,0,1] else 0
def cNm (d:Qd)(a:Bool)(s:ByteArray):List ByteArray:=bif done (cD5 d a) 3 then [s,Fv s (ByteArray.mk #[120])] else [s]
def U7 (d:Qd)(i s:ByteArray)(k:Qb)(id:Int)(a:Bool):Qf:=
 (Ql d 1000,(i,(s,(k,(id,((dof (cD1 d) [3,2,4,1],(0,())),(dof (cD2 d) [0,5,10],(dof (cD3 d) [1000,100,50,20],(a,(Ue d a,(cNm d a s,((0,(0,())),()))))))))))))
def Wc (d:Qd)(i s:ByteArray)(k:Qb)(id g:Int)(a:Bool):Qf:=(XN (U7 d i s k id a) g).1
def GG (d:Qd)(_i _s:ByteArray)(_k:Qb)(_id _g:Int)(a:Bool):Qd:=Qg (cD5 d a) 3
def Ey (d:Qd)(i s:ByteArray)(_k:Qb)(_id _g:Int)(_a:Bool):Bool:=dOk d&&decide (i.size<=1000/\s.size<=1000)
theorem Qxt {d:Qd}(h:dOk d=true):dOk (cD4 d)=true:=JH (JH (JH (QG h)))
theorem dOk_c5 {d:Qd}{a:Bool}(h:dOk d=true):dOk (cD5 d a)=true:=by
 cases a
 ·exact Qxt h
 ·exact JH (l:=[3,0,1]) (Qxt h)
theorem Qxu {d:Qd}{i s:ByteArray}{k:Qb}{id g:Int}{a:Bool}(h:dOk d=true):dOk (GG d i s k id g a)=true:=QG (dOk_c5 h)
theorem Qxv (a b:ByteArray):(Fv a b).size=a.size+b.size:=by simp [Fv]
theorem Qfl {i s:ByteArray}{k:Qb}{id:Int}{a:Bool}{q p:Int}{u v:Qb}{x y:Int}(hi:i.size<=1000)(hs:s.size<=1000){l:List ByteArray}(hl:l.length<=2)(hn: ∀ t∈l,t.size<=1001):
  Jr (q,(i,(s,(k,(id,(u,(x,(y,(a,(p,(l,(v,()))))))))))))=true:=by
 have hg: ∀ t:ByteArray,t.size<=1001->JB t=true:=fun t ht=>Bd (by omega)
 simp only [Jr,Bc]
 refine ⟨hg _ (by omega),hg _ (by omega), ?_⟩
 simp only [XB,Bc,Bg]
 exact ⟨Bd (by show l.length<=_;omega),fun t ht=>hg t (hn t ht)⟩
def QNE:TC:=aF Tryz.f113 [(6,pD [(0,[50000]),(1,[17,5017,10017,15017,50000]),(2,[]),(3,[]),(4,[10]),(5,[]),(6,[50000]),(7,[]),(8,[24,5024,10024,15024,50000]),(9,[]),(10,[50000]),(11,[]),(12,[28,5028,10028,15028,50000]),(13,[50000]),(14,[]),(15,[31,5031,10031,15031,50000]),(16,[]),(17,[]),(18,[15,5015,10015,15015]),(19,[14,15,40,49])] (.one 0 (.one 2 (.one 3 (.one 4 (.one 5 (.one 6 (.one 7 (.one 10 (.one 11 (.one 13 (.one 14 (.one 16 (.alt 1 (.alt 8 (.one 9 (.alt 12 (.alt 15 (.of [17,18,19]) (.of [18,15,17,19])) (.of [18,12,15,17,19]))) (.of [18,8,9,12,15,17,19])) (.of [18,1,8,9,12,15,17,19])))))))))))))))]
def g_f113:G:=⟨TYs,[40],58,EL [(35,Wj),(45,Ge),(46,Oz),(84,QqC)],YD,(fun _ _=>none),IL [],RL []⟩
def Qfm (d0:Qd)(p1 p2:ByteArray)(p3:Qb)(p4 p5:Int)(p6:Bool):OV:=
 let a1:=(Qt (Qt (Qg d0 1000) ([3,2,4,1])) ([0,5,10]))
 let a2:=(dof (Qt (Qg d0 1000) ([3,2,4,1])) ([0,5,10]))
 let a3:=(Qt a1 ([1000,100,50,20]))
 let a4:=(dof (Qg d0 1000) ([3,2,4,1]))
 let a5:=(dof a1 ([1000,100,50,20]))
 let a6:=Fv p2 (ByteArray.mk #[120])
 let a7:=Ql d0 1000
 let a8:=(Qt a3 ([3,0,1]))
 let a9:=(dof a3 ([3,0,1]))
 let a10:=cCat p2 (ByteArray.mk #[120])
 let a11:=Qr ([p2]) ([a6]) 16
 br (Jc a1 ([1000,100,50,20])) (br (p6) (br (Jc a3 ([3,0,1])) (br (JS a8 3) (br (done a8 3) (br a10 (br a11 (br (YJ (a7,(p1,(p2,((p3.1,(p3.2.1,())),(p4,((a4,(0,())),(a2,(a5,(p6,(a9,((([p2])++([a6])),((0,(0,())),())))))))))))) p5) (some (.t QE ((XN (a7,(p1,(p2,((p3.1,(p3.2.1,())),(p4,((a4,(0,())),(a2,(a5,(p6,(a9,((([p2])++([a6])),((0,(0,())),())))))))))))) p5).1),[.box (.t QM (Qg a8 3))])) none) none) none) (br (YJ (a7,(p1,(p2,((p3.1,(p3.2.1,())),(p4,((a4,(0,())),(a2,(a5,(p6,(a9,([p2],((0,(0,())),())))))))))))) p5) (some (.t QE ((XN (a7,(p1,(p2,((p3.1,(p3.2.1,())),(p4,((a4,(0,())),(a2,(a5,(p6,(a9,([p2],((0,(0,())),())))))))))))) p5).1),[.box (.t QM (Qg a8 3))])) none)) none) none) (br (JS a3 3) (br (done a3 3) (br a10 (br a11 (br (YJ (a7,(p1,(p2,((p3.1,(p3.2.1,())),(p4,((a4,(0,())),(a2,(a5,(p6,(0,((([p2])++([a6])),((0,(0,())),())))))))))))) p5) (some (.t QE ((XN (a7,(p1,(p2,((p3.1,(p3.2.1,())),(p4,((a4,(0,())),(a2,(a5,(p6,(0,((([p2])++([a6])),((0,(0,())),())))))))))))) p5).1),[.box (.t QM (Qg a3 3))])) none) none) none) (br (YJ (a7,(p1,(p2,((p3.1,(p3.2.1,())),(p4,((a4,(0,())),(a2,(a5,(p6,(0,([p2],((0,(0,())),())))))))))))) p5) (some (.t QE ((XN (a7,(p1,(p2,((p3.1,(p3.2.1,())),(p4,((a4,(0,())),(a2,(a5,(p6,(0,([p2],((0,(0,())),())))))))))))) p5).1),[.box (.t QM (Qg a3 3))])) none)) none)) none
def QmZ (d0:Qd)(p1 p2:ByteArray)(p3:Qb)(p4 p5:Int)(p6:Bool):OV:=br (Jc (Qt (Qg d0 1000) ([3,2,4,1])) ([0,5,10])) (Qfm d0 p1 p2 p3 p4 p5 p6) none
def Qm0 (d0:Qd)(p1 p2:ByteArray)(p3:Qb)(p4 p5:Int)(p6:Bool):OV:=br (Jc (Qg d0 1000) ([3,2,4,1])) (QmZ d0 p1 p2 p3 p4 p5 p6) none
def Qxw (d0:Qd)(p1 p2:ByteArray)(p3:Qb)(p4 p5:Int)(p6:Bool):OV:=frk (br (QL d0 1000) (frk (br (Jc (Qg d0 1000) ([3,2,4,1])) (frk (br (Jc (Qt (Qg d0 1000) ([3,2,4,1])) ([0,5,10])) (frk (Qfm d0 p1 p2 p3 p4 p5 p6) (Qfm d0 p1 p2 p3 p4 p5 p6)) none) (QmZ d0 p1 p2 p3 p4 p5 p6)) none) (Qm0 d0 p1 p2 p3 p4 p5 p6)) none) (br (QL d0 1000) (Qm0 d0 p1 p2 p3 p4 p5 p6) none)
theorem s_f113 (d:Qd)(i s:ByteArray)(k:Qb)(id g:Int)(a:Bool)(h:Ey d i s k id g a=true):Qxw d i s k id g a=some (.t QE (Wc d i s k id g a),[.box (.t QM (GG d i s k id g a))]):=by
 simp only [Ey,Bc,Ba] at h
 obtain ⟨h,hi,hs⟩:=h
 have h1:QL d 1000=true:=ZA h (by omega)
 have k1:=QG (n:=1000) h
 have h2:Jc (Qg d 1000) [3,2,4,1]=true:=XA k1 (by decide) (by decide)
 have k2:=JH (l:=[3,2,4,1]) k1
 have h3:Jc (Qt (Qg d 1000) [3,2,4,1]) [0,5,10]=true:=XA k2 (by decide) (by decide)
 have k3:=JH (l:=[0,5,10]) k2
 have h4:Jc (Qt (Qt (Qg d 1000) [3,2,4,1]) [0,5,10]) [1000,100,50,20]=true:=XA k3 (by decide) (by decide)
 have k4:=JH (l:=[1000,100,50,20]) k3
 have h5:Jc (Qt (Qt (Qt (Qg d 1000) [3,2,4,1]) [0,5,10]) [1000,100,50,20]) [3,0,1]=true:=XA k4 (by decide) (by decide)
 have h6:JS (Qt (Qt (Qt (Qt (Qg d 1000) [3,2,4,1]) [0,5,10]) [1000,100,50,20]) [3,0,1]) 3=true:=WE (JH k4) (by omega) (by omega)
 have h7:JS (Qt (Qt (Qt (Qg d 1000) [3,2,4,1]) [0,5,10]) [1000,100,50,20]) 3=true:=WE k4 (by omega) (by omega)
 have c1:cCat s (ByteArray.mk #[120])=true:=Bd (by show ((s.size+1:Nat):Int)<=_;omega)
 have c2:Qr [s] [Fv s (ByteArray.mk #[120])] 16=true:=by rfl
 have hn1: ∀ t∈[s],t.size<=1001:=fun t ht=>by
  rw [Dh] at ht
  subst ht
  omega
 have hn2: ∀ t∈[s]++[Fv s (ByteArray.mk #[120])],t.size<=1001:=fun t ht=>by
  simp only [BH,Dh] at ht
  rcases ht with rfl|rfl
  ·omega
  ·rw [Qxv];show s.size+1<=_;omega
 have c3: ∀ (q p x y:Int) (u v:Qb) (kk:Qb),YJ (q,(i,(s,(kk,(id,(u,(x,(y,(a,(p,([s],(v,())))))))))))) g=true:=fun q p x y u v kk=>Qfl hi hs (by simp) hn1
 have c4: ∀ (q p x y:Int) (u v:Qb) (kk:Qb),YJ (q,(i,(s,(kk,(id,(u,(x,(y,(a,(p,([s]++[Fv s (ByteArray.mk #[120])],(v,())))))))))))) g=true:=fun q p x y u v kk=>Qfl hi hs (by simp) hn2
 simp only [Qxw,Qfm,QmZ,Qm0,Jt,h1,h2,h3,h4,h5,h6,h7,c1,c2,c3,c4,Qe,Jt]
 unfold Wc GG U7 cNm cD5 Ue
 cases a with
 |true=>
  rw [Qe]
  simp only [BZ]
  cases done (Qt (Qt (Qt (Qt (Qg d 1000) [3,2,4,1]) [0,5,10]) [1000,100,50,20]) [3,0,1]) 3<;>rfl
 |false=>
  rw [Qi]
  simp only [BM]
  cases done (Qt (Qt (Qt (Qg d 1000) [3,2,4,1]) [0,5,10]) [1000,100,50,20]) 3<;>rfl
def Qxx:Ent:=Y8 QM (.pr .str (.pr .str (.pr Qh (.pr tI (.pr tI (.pr .bool .nil)))))) (fun d x=>(Ey d x.1 x.2.1 x.2.2.1 x.2.2.2.1 x.2.2.2.2.1 x.2.2.2.2.2.1)) (fun d x=>(.t QE (Wc d x.1 x.2.1 x.2.2.1 x.2.2.2.1 x.2.2.2.2.1 x.2.2.2.2.2.1))) (fun d x=>(GG d x.1 x.2.1 x.2.2.1 x.2.2.2.1 x.2.2.2.2.1 x.2.2.2.2.2.1))
theorem QNF:EM 113 Qxx:=mS g_f113 QNE [((.c 14 true 15),some QE)] false (Zz _ (gA (gD WI (gD GM (gD Qbq (gD QEm gN)))))) fun m=>X6 m rfl fun d x hok=>kT (s_f113 d x.1 x.2.1 x.2.2.1 x.2.2.2.1 x.2.2.2.2.1 x.2.2.2.2.2.1 hok)
end
end Go.Proofs.YtckcgijklnloiaaGreat.K
noncomputable section
namespace Go.Proofs.YtckcgijklnloiaaGreat.K
open Go.RowKit
noncomputable section
abbrev W6:ByteArray:=ByteArray.mk #[114,111,111,116]
abbrev XX:List ByteArray:=[ByteArray.mk #[99,97],ByteArray.mk #[99,98],ByteArray.mk #[99,99]]
abbrev Up:Type:=List Qf×Qd×ByteArray×Int
def W7:Nat->Nat->Up->Up
 |0,_,u=>u
 |m+1,i,(ab,d,iss,g)=>W7 m (i+1) (Wc d iss (XX.getD i ByteArray.empty) (5,(2048,())) ((11+i:Nat):Int) g true::ab,GG d iss (XX.getD i ByteArray.empty) (5,(2048,())) ((11+i:Nat):Int) g true,XX.getD i ByteArray.empty,((11+i:Nat):Int))
def XY (u:Up):Bool:=dOk u.2.1&&decide (u.2.2.1.size<=1000)
def chU (d:Qd):Up:=W7 (dof d [1,0,2]).toNat 0 ([],Qg (Qt d [1,0,2]) 2,W6,1+Ql (Qt d [1,0,2]) 2)
def Y7 (d:Qd)(nm:ByteArray)(k:Qb)(id:Int):List Qf:=Wc (chU d).2.1 (chU d).2.2.1 nm k id (chU d).2.2.2 false::(chU d).1
def U2 (d:Qd)(nm:ByteArray)(k:Qb)(id:Int):Qd:=GG (chU d).2.1 (chU d).2.2.1 nm k id (chU d).2.2.2 false
def WB (d:Qd)(nm:ByteArray)(_k:Qb)(_id:Int):Bool:=dOk d&&decide (nm.size<=1000)
theorem Qms (i:Nat):(XX.getD i ByteArray.empty).size<=2:=by
 rcases i with _|_|_|i
 ·exact BS 2
 ·exact BS 2
 ·exact BS 2
 ·exact B2 _
theorem QwE {ab:List Qf}{d:Qd}{iss:ByteArray}{g:Int}{i:Nat}(h:XY (ab,d,iss,g)=true):XY (Wc d iss (XX.getD i ByteArray.empty) (5,(2048,())) ((11+i:Nat):Int) g true::ab,GG d iss (XX.getD i ByteArray.empty) (5,(2048,())) ((11+i:Nat):Int) g true,XX.getD i ByteArray.empty,((11+i:Nat):Int))=true:=by
 simp only [XY,Bc,Ba] at h ⊢
 exact ⟨Qxu h.1,by have:=Qms i;omega⟩
theorem QaJ: ∀ (m i:Nat) (u:Up),XY u=true->XY (W7 m i u)=true/\(W7 m i u).1.length=u.1.length+m
 |0,_,u,h=>⟨h,rfl⟩
 |m+1,i,(ab,d,iss,g),h=>by
  have:=QaJ m (i+1) _ (QwE (i:=i) h)
  refine ⟨this.1,this.2.trans ?_⟩
  simp only [Bp]
  omega
theorem cEta (c:Qf):(c.1,(c.2.1,(c.2.2.1,((c.2.2.2.1.1,(c.2.2.2.1.2.1,())),(c.2.2.2.2.1,((c.2.2.2.2.2.1.1,(c.2.2.2.2.2.1.2.1,())),(c.2.2.2.2.2.2.1,(c.2.2.2.2.2.2.2.1,(c.2.2.2.2.2.2.2.2.1,(c.2.2.2.2.2.2.2.2.2.1,(c.2.2.2.2.2.2.2.2.2.2.1,((c.2.2.2.2.2.2.2.2.2.2.2.1.1,(c.2.2.2.2.2.2.2.2.2.2.2.1.2.1,())),()))))))))))))=c:=rfl
abbrev upQ (n i:Int)(ab:List Qf)(d:Qd)(iss:ByteArray)(g:Int):Up:=W7 (n-i).toNat i.toNat (ab,d,iss,g)
abbrev QeU:Sh:=⟨[(0,.ptr 50000 0),(1,.ty .str),(3,.ty tI),(6,.ptr 6 0),(9,.ty tI),(10,.ty tI),(11,.ty .str),(12,.ms 12),(13,.ty tI)],[(6,.box Qh),(12,.arr 138 QE),(40,.no),(42,.no),(50000,.box QM)]⟩
abbrev QwF:Sh:=⟨[(0,.ptr 50000 0),(1,.ty .str),(3,.ty tI),(6,.ptr 6 0),(10,.ty tI),(11,.ty .str),(12,.ms 12)],[(6,.box Qh),(12,.arr 138 QE),(40,.no),(42,.no),(50000,.box QM)]⟩
def Qmt:Fg:=QeU.f
def QwG:TC:=aF Tryz.f75 [(250,.nw 12 138),(250,pL 0 Qmt),(500,.mv [(40,12)]),(4003,.fg QwF.f)]
def QwH:TC:=lb 0 QwG
def QwI (x1:ByteArray)(x3 x9 x10:Int)(x11:ByteArray)(x13:Int)(y6:Qb)(y12:List Qf)(Qa:Qd):VS:=QeU.st ((),x1,x3,(),x9,x10,x11,(),x13,()) (y6,y12,(),(),Qa,())
def Qmu (x1:ByteArray)(x3 x10:Int)(x11:ByteArray)(y6:Qb)(y12:List Qf)(Qa:Qd):VS:=QwF.st ((),x1,x3,(),x10,x11,(),()) (y6,y12,(),(),Qa,())
def QMR:VS->Option (Bool×List (Bool×Exit×VS)):=mkL QeU (fun x y=>(decide (0<=x.2.2.2.2.2.2.2.2.1/\x.2.2.2.2.2.2.2.2.1<=x.2.2.2.2.1/\x.2.2.2.2.1<=3/\y.2.1.length<=x.2.2.2.2.2.2.2.2.1)&&XY (y.2.1,y.2.2.2.2.1,x.2.2.2.2.2.2.1,x.2.2.2.2.2.1))) (fun x y=>[(true,.exit 0,Qmu (x.2.1) (x.2.2.1) ((upQ x.2.2.2.2.1 x.2.2.2.2.2.2.2.2.1 y.2.1 y.2.2.2.2.1 x.2.2.2.2.2.2.1 x.2.2.2.2.2.1).2.2.2) ((upQ x.2.2.2.2.1 x.2.2.2.2.2.2.2.2.1 y.2.1 y.2.2.2.2.1 x.2.2.2.2.2.2.1 x.2.2.2.2.2.1).2.2.1) (y.1) ((upQ x.2.2.2.2.1 x.2.2.2.2.2.2.2.2.1 y.2.1 y.2.2.2.2.1 x.2.2.2.2.2.2.1 x.2.2.2.2.2.1).1) ((upQ x.2.2.2.2.1 x.2.2.2.2.2.2.2.2.1 y.2.1 y.2.2.2.2.1 x.2.2.2.2.2.2.1 x.2.2.2.2.2.1).2.1))])
def Qmv:G:=⟨TYs,[40,53],56,EL [(35,Wj),(45,Ge),(113,Qxx)],YD,(Ls [QMR]),IL [],RL []⟩
def QeV (x1:ByteArray)(x3 x9 x10:Int)(x11:ByteArray)(x13:Int)(y6:Qb)(y12:List Qf)(Qa:Qd):OX:=QB (QD Qmv Qmt QwH) (QwI x1 x3 x9 x10 x11 x13 y6 y12 Qa)
def QaK (kk:ByteArray->Int->Int->Int->ByteArray->Int->Qb->List Qf->Qd->OX)(x1:ByteArray)(x3 x9 x10:Int)(x11:ByteArray)(x13:Int)(y6:Qb)(y12:List Qf)(Qa:Qd):OX:=
 let a3:=(lgt .str ([(ByteArray.mk #[99,97]),(ByteArray.mk #[99,98]),(ByteArray.mk #[99,99])]) (Int.toNat x13))
 let a4:=Qk .i64 11 x13
 let a1:=(Wc Qa x11 a3 (5,(2048,())) a4 x10 true)
 let a2:=((a1.2).1,(((a1.2).2).1,((((((a1.2).2).2).1).1,((((((a1.2).2).2).1).2).1,())),(((((a1.2).2).2).2).1,((((((((a1.2).2).2).2).2).1).1,((((((((a1.2).2).2).2).2).1).2).1,())),(((((((a1.2).2).2).2).2).2).1,((((((((a1.2).2).2).2).2).2).2).1,(((((((((a1.2).2).2).2).2).2).2).2).1,((((((((((a1.2).2).2).2).2).2).2).2).2).1,(((((((((((a1.2).2).2).2).2).2).2).2).2).2).1,((((((((((((((a1.2).2).2).2).2).2).2).2).2).2).2).1).1,((((((((((((((a1.2).2).2).2).2).2).2).2).2).2).2).1).2).1,())),())))))))))))
 br (ilt x13 x9) (br (cIx ([(ByteArray.mk #[99,97]),(ByteArray.mk #[99,98]),(ByteArray.mk #[99,99])]) x13) (br (Ey Qa x11 a3 (5,(2048,())) a4 x10 true) (br (Qr ([(a1.1,a2)]) y12 152) (kk x1 x3 x9 a4 a3 (Qk .i64 x13 1) y6 (([(a1.1,a2)])++y12) (GG Qa x11 a3 (5,(2048,())) a4 x10 true)) none) none) none) (some (.exit 0,Qmu x1 x3 x10 x11 y6 y12 Qa))
def QeW (x1:ByteArray)(x3 x9 x10:Int)(x11:ByteArray)(x13:Int)(y6:Qb)(y12:List Qf)(Qa:Qd):OX:=
 let a1:=upQ x9 x13 y12 Qa x11 x10
 some (.exit 0,Qmu (x1) (x3) (a1.2.2.2) (a1.2.2.1) (y6) (a1.1) (a1.2.1))
theorem QwJ (x1:ByteArray)(x3 x9 x10:Int)(x11:ByteArray)(x13:Int)(y6:Qb)(y12:List Qf)(Qa:Qd):QeV x1 x3 x9 x10 x11 x13 y6 y12 Qa=QaK QeV x1 x3 x9 x10 x11 x13 y6 y12 Qa:=lnT (x:=QaK (fun x1 x3 x9 x10 x11 x13 y6 y12 Qa=>some (.normal,QwI x1 x3 x9 x10 x11 x13 y6 y12 Qa)) x1 x3 x9 x10 x11 x13 y6 y12 Qa) (by simp only [QaK,nxA];rfl)
def r_f75 (d0:Qd)(p1:ByteArray)(p2:Qb)(p3:Int):OV:=
 let a4:=(Qt d0 ([1,0,2]))
 let a1:=(upQ (dof d0 ([1,0,2])) (0:Int) ([]:List Qf) (Qg a4 2) (ByteArray.mk #[114,111,111,116]) (Qk .i64 1 (Ql a4 2)))
 let a2:=Wc (a1.2.1) (a1.2.2.1) (p1) (p2) (p3) (a1.2.2.2) false
 let a3:=((a2.2).1,(((a2.2).2).1,((((((a2.2).2).2).1).1,((((((a2.2).2).2).1).2).1,())),(((((a2.2).2).2).2).1,((((((((a2.2).2).2).2).2).1).1,((((((((a2.2).2).2).2).2).1).2).1,())),(((((((a2.2).2).2).2).2).2).1,((((((((a2.2).2).2).2).2).2).2).1,(((((((((a2.2).2).2).2).2).2).2).2).1,((((((((((a2.2).2).2).2).2).2).2).2).2).1,(((((((((((a2.2).2).2).2).2).2).2).2).2).2).1,((((((((((((((a2.2).2).2).2).2).2).2).2).2).2).2).1).1,((((((((((((((a2.2).2).2).2).2).2).2).2).2).2).2).1).2).1,())),())))))))))))
 br (Jc d0 ([1,0,2])) (br (QL a4 2) (br (decide (0<=(0:Int)/\(0:Int)<=(dof d0 ([1,0,2]))/\(dof d0 ([1,0,2]))<=3/\([]:List Qf).length<=(0:Int))&&XY (([]:List Qf),(Qg a4 2),(ByteArray.mk #[114,111,111,116]),(Qk .i64 1 (Ql a4 2)))) (br (Ey (a1.2.1) (a1.2.2.1) (p1) (p2) (p3) (a1.2.2.2) false) (br (Qr ([(a2.1,a3)]) (a1.1) 152) (some (.t (.sl QE) (([(a2.1,a3)])++(a1.1)),[.box (.t QM (GG (a1.2.1) (a1.2.2.1) (p1) (p2) (p3) (a1.2.2.2) false))])) none) none) none) none) none
theorem QMS (x1:ByteArray)(x3 x9 x10:Int)(x11:ByteArray)(x13:Int)(y6:Qb)(y12:List Qf)(Qa:Qd)(h:(decide (0<=x13/\x13<=x9/\x9<=3/\y12.length<=x13)&&XY (y12,Qa,x11,x10))=true):QeV x1 x3 x9 x10 x11 x13 y6 y12 Qa=QeW x1 x3 x9 x10 x11 x13 y6 y12 Qa:=by
 obtain ⟨h,hu⟩:=Bf.1 h
 obtain ⟨h0,h1,h2,h3⟩:=Bv h
 clear h
 obtain ⟨k,rfl⟩:=Bm h0
 obtain ⟨n,rfl⟩:=Bm (show 0<=x9 by omega)
 have key: ∀ (m k:Nat) (x10:Int) (x11:ByteArray) (y12:List Qf) (Qa:Qd),m=n-k->k<=n->y12.length<=k->XY (y12,Qa,x11,x10)=true->QeV x1 x3 (n:Int) x10 x11 (k:Int) y6 y12 Qa=QeW x1 x3 (n:Int) x10 x11 (k:Int) y6 y12 Qa:=by
  intro m
  induction m with
  |zero=>
   intro k x10 x11 y12 Qa hm h1 h3 hu
   have:k=n:=by omega
   subst this
   rw [QwJ]
   simp only [QaK,QeW,show ilt (k:Int) (k:Int)=false from Bn (by omega),Qi,upQ,Int.sub_self,Bt,W7]
  |succ m ih=>
   intro k x10 x11 y12 Qa hm h1 h3 hu
   rw [QwJ]
   have hk:k<3:=by omega
   have c1:cIx XX (k:Int)=true:=by rw [QS];exact Bd hk
   have e1:Qk .i64 11 (k:Int)=((11+k:Nat):Int):=(JK (by omega)).trans (by omega)
   have hu2:=Bf.1 hu
   have hu3:x11.size<=1000:=Bv hu2.2
   have c2:Ey Qa x11 (XX.getD k ByteArray.empty) (5,(2048,())) ((11+k:Nat):Int) x10 true=true:=Bf.2 ⟨hu2.1,Bd ⟨hu3,by have:=Qms k;omega⟩⟩
   have c3: ∀ c:Qf,Qr [c] y12 152=true:=fun c=>Q7 (by omega) (by simp only [Bh];omega)
   have hg:lgt .str XX k=XX.getD k ByteArray.empty:=rfl
   simp only [QaK,cEta,show ilt (k:Int) (n:Int)=true from Bd (by omega),Qe,c1,e1,Bb,hg,c2,c3,QU (show k<4611686018427387904 by omega),BD]
   rw [ih (k+1) _ _ _ _ (by omega) (by omega) (by simp only [Bp];omega) (QwE hu)]
   have q1:((n:Int)-(k:Int)).toNat=m+1:=by omega
   have q2:((n:Int)-((k+1:Nat):Int)).toNat=m:=by omega
   simp only [QeW,upQ,q1,q2,Bb,W7]
 exact key _ k _ _ _ _ rfl (by omega) (by omega) hu
theorem QMT:LO Qmv Qmt QwH 0:=QN (s:=QeU) fun x y h _ q=>by simp only [QJ,QK] at q;exact (QMS x.2.1 x.2.2.1 x.2.2.2.2.1 x.2.2.2.2.2.1 x.2.2.2.2.2.2.1 x.2.2.2.2.2.2.2.2.1 y.1 y.2.1 y.2.2.2.2.1 h).trans q
theorem s_f75 (d:Qd)(nm:ByteArray)(k:Qb)(id:Int)(h:WB d nm k id=true):r_f75 d nm k id=some (.t (.sl QE) (Y7 d nm k id),[.box (.t QM (U2 d nm k id))]):=by
 simp only [WB,Bc,Ba] at h
 obtain ⟨h,hn⟩:=h
 have h1:Jc d [1,0,2]=true:=XA h (by decide) (by decide)
 have k1:=JH (l:=[1,0,2]) h
 have h2:QL (Qt d [1,0,2]) 2=true:=ZA k1 (by omega)
 have b2:=JA (d:=Qt d [1,0,2]) (n:=2) (by omega)
 have e2:Qk .i64 1 (Ql (Qt d [1,0,2]) 2)=1+Ql (Qt d [1,0,2]) 2:=JK (by omega)
 have hm:=Z0 (d:=d) (l:=[1,0,2]) (by decide)
 simp only [BT,B0,Dn] at hm
 have hu0:XY ([],Qg (Qt d [1,0,2]) 2,W6,1+Ql (Qt d [1,0,2]) 2)=true:=Bf.2 ⟨QG (n:=2) k1,rfl⟩
 obtain ⟨hv,hl⟩:=QaJ (dof d [1,0,2]).toNat 0 _ hu0
 have hv2:=Bf.1 hv
 have hv3:(chU d).2.2.1.size<=1000:=Bv hv2.2
 have c5:Ey (chU d).2.1 (chU d).2.2.1 nm k id (chU d).2.2.2 false=true:=Bf.2 ⟨hv2.1,Bd ⟨hv3,hn⟩⟩
 have hl2:(chU d).1.length<=3:=by
  unfold chU
  rw [hl]
  simp only [Bw]
  omega
 have c6: ∀ c:Qf,Qr [c] (chU d).1 152=true:=fun c=>Q7 (by omega) (by simp only [Bh];omega)
 have c7:(decide ((0:Int)<=0/\(0:Int)<=dof d [1,0,2]/\dof d [1,0,2]<=3/\(([]:List Qf).length:Int)<=0)&&XY ([],Qg (Qt d [1,0,2]) 2,W6,1+Ql (Qt d [1,0,2]) 2))=true:=Bf.2 ⟨Bd ⟨B3 _,by omega,by omega,B3 _⟩,hu0⟩
 have e3:upQ (dof d [1,0,2]) 0 [] (Qg (Qt d [1,0,2]) 2) W6 (1+Ql (Qt d [1,0,2]) 2)=chU d:=by
  unfold upQ chU
  rw [Int.sub_zero,Bt]
 simp only [r_f75,h1,h2,e2,Qe,cEta,e3,c5,c6]
 refine Eq.trans (congrArg (fun b=>br b _ _) c7) ?_
 rfl
def Qmw:Ent:=Y8 QM (.pr .str (.pr Qh (.pr tI .nil))) (fun d x=>(WB d x.1 x.2.1 x.2.2.1)) (fun d x=>(.t (.sl QE) (Y7 d x.1 x.2.1 x.2.2.1))) (fun d x=>(U2 d x.1 x.2.1 x.2.2.1))
theorem QwK:EM 75 Qmw:=mS (lk:=lkL (lkc QMT lkn)) Qmv QwG [((.t 8),some (.sl QE))] false (Zz _ (gA (gD WI (gD GM (gD QNF gN))))) fun m=>X6 m rfl fun d x hok=>kT (s_f75 d x.1 x.2.1 x.2.2.1 hok)
end
end Go.Proofs.YtckcgijklnloiaaGreat.K
noncomputable section
namespace Go.Proofs.YtckcgijklnloiaaGreat.K
open Go.RowKit
noncomputable section
def QFp:Ent:=Qoj Qb5
theorem QTI:QQ Tryz.prog 104 (QP QFp):=QPx Qb6.2
def suZ:Nat->List Int->Qd->List Int×Qd
 |0,l,d=>(l,d)
 |n+1,l,d=>suZ n (bif !QY l (1+Ql d 16) then l++[1+Ql d 16] else l) (Qg d 16)
def suI (d:Qd):List Int×Qd:=suZ (2+Ql d 9).toNat [] (Qg d 9)
def WN (d:Qd):List Int:=bif done (suI d).2 4 then FG (suI d).1 else (suI d).1
def Y0 (d:Qd):Qd:=Qg (suI d).2 4
theorem QFq: ∀ (n:Nat) (l:List Int) (d:Qd),dOk d=true->dOk (suZ n l d).2=true/\(suZ n l d).1.length<=l.length+n
 |0,l,d,h=>⟨h,BS _⟩
 |n+1,l,d,h=>by
  have:=QFq n (bif !QY l (1+Ql d 16) then l++[1+Ql d 16] else l) (Qg d 16) (QG h)
  refine ⟨this.1,B4 this.2 ?_⟩
  cases !QY l (1+Ql d 16)<;>simp only [BZ,BM,Bj,Bh]<;>omega
theorem Qrd {d:Qd}(h:dOk d=true):dOk (suI d).2=true/\(suI d).1.length<=10:=by
 have h2:=QFq (2+Ql d 9).toNat [] (Qg d 9) (QG h)
 have b:=JA (d:=d) (n:=9) (by omega)
 refine ⟨h2.1,B4 h2.2 ?_⟩
 simp only [Bw]
 omega
theorem QcH {d:Qd}(h:dOk d=true):dOk (Y0 d)=true:=QG (n:=4) (Qrd h).1
abbrev QiV:Sh:=⟨[(0,.ptr 50000 0),(3,.ms 3),(4,.ty tI)],[(3,.arr 3 tI),(23,.no),(27,.no),(5027,.no),(10027,.no),(15027,.no),(50000,.box QM)]⟩
abbrev QFr:Sh:=⟨[(0,.ptr 50000 0),(3,.ms 3)],[(3,.arr 3 tI),(23,.no),(27,.no),(5027,.no),(10027,.no),(15027,.no),(50000,.box QM)]⟩
def Qre:Fg:=QiV.f
def QFs:TC:=aF Tryz.f72 [(58,.nw 3 3),(58,pL 0 Qre),(931,.fg QFr.f)]
def QFt:TC:=lb 0 QFs
def QFu (x4:Int)(y3:List Int)(Qa:Qd):VS:=QiV.st ((),(),x4,()) (y3,(),(),(),(),(),Qa,())
def Qrf (y3:List Int)(Qa:Qd):VS:=QFr.st ((),(),()) (y3,(),(),(),(),(),Qa,())
def QTJ:VS->Option (Bool×List (Bool×Exit×VS)):=mkL QiV (fun x y=>(decide (0<=x.2.2.1/\(y.1.length:Int)+x.2.2.1<=10)&&dOk y.2.2.2.2.2.2.1)) (fun x y=>[(true,.exit 0,Qrf ((suZ x.2.2.1.toNat y.1 y.2.2.2.2.2.2.1).1) ((suZ x.2.2.1.toNat y.1 y.2.2.2.2.2.2.1).2))])
def Qrg:G:=⟨TYs,[],29,EL [(35,Wj),(46,Oz),(104,QFp),(112,QAC)],(104::YD),(Ls [QTJ]),IL [],RL []⟩
def QiW (x4:Int)(y3:List Int)(Qa:Qd):OX:=QB (QD Qrg Qre QFt) (QFu x4 y3 Qa)
def QcI (kk:Int->List Int->Qd->OX)(x4:Int)(y3:List Int)(Qa:Qd):OX:=
 let a1:=Qk .i64 1 (Ql Qa 16)
 br (igt x4 0) (br (QL Qa 16) (br (Q9 y3 a1) (br (!(QY y3 a1)) (br (Qr y3 ([a1]) 8) (kk (QT .i64 x4 1) (y3++([a1])) (Qg Qa 16)) none) (kk (QT .i64 x4 1) y3 (Qg Qa 16))) none) none) (some (.exit 0,Qrf y3 Qa))
def QiX (x4:Int)(y3:List Int)(Qa:Qd):OX:=
 let a1:=suZ x4.toNat y3 Qa
 some (.exit 0,Qrf (a1.1) (a1.2))
theorem QFv (x4:Int)(y3:List Int)(Qa:Qd):QiW x4 y3 Qa=QcI QiW x4 y3 Qa:=lnT (x:=QcI (fun x4 y3 Qa=>some (.normal,QFu x4 y3 Qa)) x4 y3 Qa) (by simp only [QcI,nxA];rfl)
def r_f72 (d0:Qd):OV:=
 let a2:=Qk .i64 2 (Ql d0 9)
 let a1:=(suZ a2.toNat ([]:List Int) (Qg d0 9))
 br (QL d0 9) (br (decide (0<=a2/\(([]:List Int).length:Int)+a2<=10)&&dOk (Qg d0 9)) (br (JS (a1.2) 4) (br (done (a1.2) 4) (br (Qbw (a1.1)) (some (.ms 50001,[.box (.t QM (Qg (a1.2) 4)),.arr 3 tI (FG (a1.1))])) none) (some (.ms 50001,[.box (.t QM (Qg (a1.2) 4)),.arr 3 tI (a1.1)]))) none) none) none
theorem QTK (x4:Int)(y3:List Int)(Qa:Qd)(h:(decide (0<=x4/\(y3.length:Int)+x4<=10)&&dOk Qa)=true):QiW x4 y3 Qa=QiX x4 y3 Qa:=by
 obtain ⟨h,hd⟩:=Bf.1 h
 obtain ⟨h0,h1⟩:=Bv h
 clear h
 obtain ⟨n,rfl⟩:=Bm h0
 have key: ∀ (n:Nat) (y3:List Int) (Qa:Qd),y3.length+n<=10->dOk Qa=true->QiW (n:Int) y3 Qa=QiX (n:Int) y3 Qa:=by
  intro n
  induction n with
  |zero=>
   intro y3 Qa _ _
   rw [QFv]
   simp only [QcI,QiX,show igt ((0:Nat):Int) 0=false from rfl,Qi,Bb,suZ]
  |succ n ih=>
   intro y3 Qa hl hd
   rw [QFv]
   have b:=JA (d:=Qa) (n:=16) (by omega)
   have e1:Qk .i64 1 (Ql Qa 16)=1+Ql Qa 16:=JK (by omega)
   have e2:QT .i64 ((n+1:Nat):Int) 1=(n:Int):=(Zu (by omega)).trans (by omega)
   have c1:QL Qa 16=true:=ZA hd (by omega)
   have c2: ∀ v,Q9 y3 v=true:=fun v=>Bd (by omega)
   have c3: ∀ v,Qr y3 [v] 8=true:=fun v=>Q7 (by omega) (by simp only [Bh];omega)
   simp only [QcI,show igt ((n+1:Nat):Int) 0=true from Bd (by omega),Qe,e1,e2,c1,c2,c3]
   rw [ih y3 (Qg Qa 16) (by omega) (QG hd),ih (y3++[1+Ql Qa 16]) (Qg Qa 16) (by simp only [Bj,Bh];omega) (QG hd)]
   simp only [QiX,Bb,suZ]
   cases !QY y3 (1+Ql Qa 16)<;>rfl
 exact key n y3 Qa (by omega) hd
theorem QTL:LO Qrg Qre QFt 0:=QN (s:=QiV) fun x y h _ q=>by simp only [QJ,QK] at q;exact (QTK x.2.2.1 y.1 y.2.2.2.2.2.2.1 h).trans q
theorem s_f72 (d:Qd)(h:dOk d=true):r_f72 d=some (.ms 50001,[.box (.t QM (Y0 d)),.arr 3 tI (WN d)]):=by
 have b:=JA (d:=d) (n:=9) (by omega)
 have e1:Qk .i64 2 (Ql d 9)=2+Ql d 9:=JK (by omega)
 have c1:QL d 9=true:=ZA h (by omega)
 obtain ⟨k1,k2⟩:=Qrd h
 have c2:JS (suI d).2 4=true:=WE k1 (by omega) (by omega)
 have c3:Qbw (suI d).1=true:=Bd (by omega)
 have c4:(decide ((0:Int)<=2+Ql d 9/\(([]:List Int).length:Int)+(2+Ql d 9)<=10)&&dOk (Qg d 9))=true:=Bf.2 ⟨Bd ⟨by omega,by simp only [Bw];omega⟩,QG h⟩
 have e2:suZ (2+Ql d 9).toNat [] (Qg d 9)=suI d:=rfl
 simp only [r_f72,c1,e1,Qe,e2,c2,c3]
 refine Eq.trans (congrArg (fun b=>br b _ _) c4) ?_
 rw [Qe]
 unfold WN Y0
 cases done (suI d).2 4<;>rfl
def Qrh:Ent:=UB [.ptr 50000 0] [.box QM] (fun x y=>(dOk y.1)) (fun x y=>(.ms 50001)) (fun x y=>[.box (.t QM (Y0 y.1)),.arr 3 tI (WN y.1)])
theorem QFw:EM 72 Qrh:=mS (lk:=lkL (lkc QTL lkn)) Qrg QFs [((.t 2),none)] true (Zz _ (gA (gD WI (gD Qbq (gC Qb6.1 QTI (gD QPQ gN)))))) fun m=>YR m fun x y hok=>kT (s_f72 y.1 hok)
end
end Go.Proofs.YtckcgijklnloiaaGreat.K
