import Derived.Test.YtkmobehaikjdjaaGreatQ7
import Derived.Test.YtkmobehaikjdjaaGreatQ3
set_option maxRecDepth 100000
set_option linter.unusedSimpArgs false
set_option linter.unusedVariables false
noncomputable section
namespace Go.Proofs.YtkmobehaikjdjaaGreat
namespace K
open Go.RowKit
abbrev Xa:List ByteArray:=[(ByteArray.mk #[97,112,112]),(ByteArray.mk #[100,98]),(ByteArray.mk #[119,101,98])]
abbrev sSu:List (List Int):=[[10,8,2],[8,2],[2,10,8,3]]
abbrev sIt:List ByteArray:=[(ByteArray.mk #[98,97,99,107,117,112]),(ByteArray.mk #[100,101,101,100])]
def nm1 (s:ByteArray):Bool:=decide (s.size<=1000)
def Fx (d:Ab):List Int:=bif ieq (dof d [3,3,4]) 4 then [14]++lgt (.sl tI) sSu (Qg (Qr d [3,3,4]) 3).toNat else lgt (.sl tI) sSu (Qg (Qr d [3,3,4]) 3).toNat
def Qhu (d:Ab)(k:Nat)(s:ByteArray):Ac:=(s,(1,(dof d [3,3,4],(Fx d,(done (Qc (Qr d [3,3,4]) 3) 2,([YM s Zo (Qi .i64 100 (k:Int)) 1 901],([1],([2,3],(done (Qc (Qc (Qr d [3,3,4]) 3) 2) 3,())))))))))
def GF (d:Ab):Ab:=Qc (Qc (Qc (Qr d [3,3,4]) 3) 2) 3
def Xb:List ByteArray->Nat->Ab->List Ac×Ab
 | [],_,d=>([],d)
 |s::r,k,d=>(Qhu d k s::(Xb r (k+1) (GF d)).1,(Xb r (k+1) (GF d)).2)
def edZ:Nat->Int->Int->List Aa->Ab->List Aa×Ab
 |0,_,_,l,d=>(l,d)
 |m+1,i,k,l,d=>bif ine i k then (bif igt (Qg d 3) 0&&ilt (Qb l) 3 then edZ m i (k+1) (l++[(i,(k,()))]) (Qc d 3) else edZ m i (k+1) l (Qc d 3)) else edZ m i (k+1) l d
def edY:Nat->Nat->Int->List Aa->Ab->List Aa×Ab
 |0,_,_,l,d=>(l,d)
 |m+1,n,i,l,d=>edY m n (i+1) (edZ n i 0 l d).1 (edZ n i 0 l d).2
def itZ:Nat->Ab->List Ag×Ab
 |0,d=>([],d)
 |n+1,d=>(It (Uj d sIt) (YD d sIt)::(itZ n (G8 (Uj d sIt) (YD d sIt))).1,(itZ n (G8 (Uj d sIt) (YD d sIt))).2)
def Zw (d:Ab):List ByteArray:=lsl Xa 0 (Qi .i64 2 (Qg d 2))
def ZZ (d:Ab):List Aa×Ab:=edY (Zw d).length (Zw d).length 0 [] (Xb (Zw d) 0 (Qc d 2)).2
def QbT (d:Ab):List Aa:=bif ieq (Qb (ZZ d).1) 0 then [(0,(1,()))] else (ZZ d).1
def sndIt (d:Ab):List Ag×Ab:=itZ (Qg (ZZ d).2 3).toNat (Qc (ZZ d).2 3)
def Jd (d:Ab):Ad:=((Xb (Zw d) 0 (Qc d 2)).1,(QbT d,((sndIt d).1,())))
def Xt (d:Ab):Ab:=(sndIt d).2
theorem QDQ {d:Ab}(h:dOk d=true):dOk (GF d)=true:=Qz (Qz (Qz (JB (l:=[3,3,4]) h)))
theorem Qqn: ∀ (l:List ByteArray) (k:Nat) (d:Ab),dOk d=true->dOk (Xb l k d).2=true
 | [],_,_,h=>h
 |_::r,k,d,h=>Qqn r (k+1) (GF d) (QDQ h)
theorem OG: ∀ (m:Nat) (i k:Int) (l:List Aa) (d:Ab),dOk d=true->l.length<=3->dOk (edZ m i k l d).2=true/\(edZ m i k l d).1.length<=3
 |0,_,_,_,_,h,hl=>⟨h,hl⟩
 |m+1,i,k,l,d,h,hl=>by
  unfold edZ
  cases ine i k with
  |false=>exact OG m i (k+1) l d h hl
  |true=>
   cases h1:igt (Qg d 3) 0 with
   |false=>exact OG m i (k+1) l (Qc d 3) (Qz h) hl
   |true=>
    cases h2:ilt (Qb l) 3 with
    |false=>exact OG m i (k+1) l (Qc d 3) (Qz h) hl
    |true=>
     have:l.length<3:=by have:=Bw h2;simp only [Qb] at this;omega
     exact OG m i (k+1) _ (Qc d 3) (Qz h) (by simp only [Bj,Bh];omega)
theorem Qqo: ∀ (m n:Nat) (i:Int) (l:List Aa) (d:Ab),dOk d=true->l.length<=3->dOk (edY m n i l d).2=true/\(edY m n i l d).1.length<=3
 |0,_,_,_,_,h,hl=>⟨h,hl⟩
 |m+1,n,i,l,d,h,hl=>by
  have:=OG n i 0 l d h hl
  exact Qqo m n (i+1) _ _ this.1 this.2
theorem OH {d:Ab}(h:dOk d=true):dOk (Uj d sIt)=true:=Qz (n:=2) h
theorem QDR (d:Ab):Zw d=Xa.take 2∨Zw d=Xa:=by
 have hv:=Q8 (d:=d) (n:=2) (by omega)
 have e:Qi .i64 2 (Qg d 2)=2+Qg d 2:=Ja (by omega)
 unfold Zw
 rw [e]
 rcases (show Qg d 2=0∨Qg d 2=1 by omega) with h|h<;>rw [h]
 ·exact .inl rfl
 ·exact .inr rfl
theorem QbU (d:Ab):2<=(Zw d).length/\(Zw d).length<=3/\(Zw d).all nm1=true:=by
 rcases QDR d with h|h<;>rw [h]<;>exact ⟨by decide,by decide,by decide⟩
abbrev Qhv:Sh:=⟨[(0,.ptr 50000 0),(2,.ptr 2 0),(3,.ptr 3 0),(4,.ty (.sl .str)),(16,.ty (.sl .str)),(17,.ty tI),(18,.ty tI)],[(2,.box Qo),(3,.bag [.ms 20300,.ms 20301,.ms 20302]),(61,.no),(94,.no),(103,.no),(119,.no),(20300,.arr 82 Qp),(20301,.arr 85 Qe),(20302,.arr 88 Jf),(50000,.box Qn)]⟩
abbrev QTV:Sh:=⟨[(0,.ptr 50000 0),(2,.ptr 2 0),(3,.ptr 3 0),(4,.ty (.sl .str))],[(2,.box Qo),(3,.bag [.ms 20300,.ms 20301,.ms 20302]),(61,.no),(94,.no),(103,.no),(119,.no),(20300,.arr 82 Qp),(20301,.arr 85 Qe),(20302,.arr 88 Jf),(50000,.box Qn)]⟩
abbrev Qhw:Sh:=⟨[(0,.ptr 50000 0),(2,.ptr 2 0),(3,.ptr 3 0),(4,.ty (.sl .str)),(8,.ty tI),(65,.ty tI),(66,.ty tI),(70,.ty tI),(71,.ty tI)],[(2,.box Qo),(3,.bag [.ms 20300,.ms 20301,.ms 20302]),(61,.no),(94,.no),(103,.no),(119,.no),(20300,.arr 82 Qp),(20301,.arr 85 Qe),(20302,.arr 88 Jf),(50000,.box Qn)]⟩
abbrev Qhx:Sh:=⟨[(0,.ptr 50000 0),(2,.ptr 2 0),(3,.ptr 3 0),(4,.ty (.sl .str)),(65,.ty tI),(66,.ty tI)],[(2,.box Qo),(3,.bag [.ms 20300,.ms 20301,.ms 20302]),(61,.no),(94,.no),(103,.no),(119,.no),(20300,.arr 82 Qp),(20301,.arr 85 Qe),(20302,.arr 88 Jf),(50000,.box Qn)]⟩
abbrev QTW:Sh:=⟨[(0,.ptr 50000 0),(2,.ptr 2 0),(3,.ptr 3 0)],[(2,.box Qo),(3,.bag [.ms 20300,.ms 20301,.ms 20302]),(61,.no),(94,.no),(103,.no),(119,.no),(20300,.arr 82 Qp),(20301,.arr 85 Qe),(20302,.arr 88 Jf),(50000,.box Qn)]⟩
abbrev Qhy:Sh:=⟨[(0,.ptr 50000 0),(2,.ptr 2 0),(3,.ptr 3 0),(10,.ty tI)],[(2,.box Qo),(3,.bag [.ms 20300,.ty (.sl Qe),.ms 20302]),(61,.no),(94,.no),(103,.no),(119,.no),(20300,.arr 82 Qp),(20301,.no),(20302,.arr 88 Jf),(50000,.box Qn)]⟩
abbrev QTX:Sh:=⟨[(2,.ptr 2 0),(3,.ptr 3 0)],[(2,.box Qo),(3,.bag [.ms 20300,.ty (.sl Qe),.ms 20302]),(61,.no),(94,.no),(103,.no),(119,.no),(20300,.arr 82 Qp),(20301,.no),(20302,.arr 88 Jf),(50000,.box Qn)]⟩
def Qqp:Fg:=Qhv.f
def Qqq:Fg:=Qhw.f
def Qqr:Fg:=Qhx.f
def Qqs:Fg:=Qhy.f
def QbV:TC:=aF Tryz.f27 [(122,.nf 3 2 88 20302),(122,.nf 3 1 85 20301),(122,.nf 3 0 82 20300),(122,.nf 7 3 3 20703),(122,pL 0 Qqp),(1957,.fg ⟨[(0,none),(2,none),(3,none),(4,some (.sl .str))],[(2,some Qo),(3,some Qo),(61,none),(94,none),(103,none),(119,none),(20300,none),(20301,none),(20302,none),(50000,some Qn)]⟩),(15666,pE [[],[50000],[],[26,5026,10026,15026,50000],[],[],[],[],[50000],[32,5032,10032,15032,50000],[],[],[50000],[36,5036,10036,15036,50000],[],[],[50000],[40,5040,10040,15040,50000],[],[7,5007,10007,15007],[7,45,48,20703]] (.one 0 (.one 1 (.one 2 (.one 4 (.one 5 (.one 6 (.one 7 (.one 8 (.one 12 (.one 14 (.one 15 (.one 16 (.alt 3 (.alt 9 (.one 10 (.one 11 (.alt 13 (.alt 17 (.of [18,19,20]) (.of [19,17,18,20])) (.of [19,13,17,18,20])))) (.of [19,9,10,11,13,17,18,20])) (.of [19,3,9,10,11,13,17,18,20]))))))))))))))),(250,.nf 3 2 88 20302),(250,.nf 3 0 82 20300),(250,.nf 3 1 85 20301),(250,pL 2 Qqr),(4005,.fg ⟨[(0,none),(2,none),(3,none)],[(2,some Qo),(3,some Qo),(61,none),(94,none),(103,none),(119,none),(20300,none),(20301,none),(20302,none),(50000,some Qn)]⟩),(64102,.nf 3 2 88 20302),(64102,.nf 3 0 82 20300),(64102,.nf 3 1 85 20301),(64102,pL 1 Qqq),(1025637,.fg ⟨[(0,none),(2,none),(3,none),(4,some (.sl .str)),(65,some tI),(66,some tI)],[(2,some Qo),(3,some Qo),(61,none),(94,none),(103,none),(119,none),(20300,none),(20301,none),(20302,none),(50000,some Qn)]⟩),(1018,.fz [20301,103]),(1018,.nf 3 1 85 20301),(1018,.nf 3 0 82 20300),(1018,.nf 3 2 88 20302),(1018,pL 3 Qqs),(16291,.fg ⟨[(2,none),(3,none)],[(2,some Qo),(3,some Qo),(61,none),(94,none),(103,none),(119,none),(20300,none),(20301,none),(20302,none),(50000,some Qn)]⟩),(16292,pE [[3,61,94,103,119,20300,20301,20302],[3,61,94,103,119,20300,20301,20302],[50000],[50000],[],[116,5116,10116,15116,50000],[117,5117,10117,15117,50000],[],[2,3,61,94,103,119,5119,10119,15119,20300,20301,20302],[3,61,94,103,119,20300,20301,20302],[2,3,61,94,103,119,20300,20301,20302]] (oN 11))]
def QDS:TC:=lb 0 QbV
def QDT:TC:=lb 1 QbV
def QDU:TC:=lb 2 QbV
def QDV:TC:=lb 3 QbV
def QDW (x4 x16:List ByteArray)(x17 x18:Int)(y2:Ad)(Qf:List Ac)(Qj:List Aa)(Qk:List Ag)(Qa:Ab):VS:=Qhv.st ((),(),(),x4,x16,x17,x18,()) (y2,((),(),(),()),(),(),(),(),Qf,Qj,Qk,Qa,())
def Qqt (x4:List ByteArray)(y2:Ad)(Qf:List Ac)(Qj:List Aa)(Qk:List Ag)(Qa:Ab):VS:=QTV.st ((),(),(),x4,()) (y2,((),(),(),()),(),(),(),(),Qf,Qj,Qk,Qa,())
def QDX (x4:List ByteArray)(x8 x65 x66 x70 x71:Int)(y2:Ad)(Qf:List Ac)(Qj:List Aa)(Qk:List Ag)(Qa:Ab):VS:=Qhw.st ((),(),(),x4,x8,x65,x66,x70,x71,()) (y2,((),(),(),()),(),(),(),(),Qf,Qj,Qk,Qa,())
def QbW (x4:List ByteArray)(x65 x66:Int)(y2:Ad)(Qf:List Ac)(Qj:List Aa)(Qk:List Ag)(Qa:Ab):VS:=Qhx.st ((),(),(),x4,x65,x66,()) (y2,((),(),(),()),(),(),(),(),Qf,Qj,Qk,Qa,())
def Qqu (y2:Ad)(Qf:List Ac)(Qj:List Aa)(Qk:List Ag)(Qa:Ab):VS:=QTW.st ((),(),(),()) (y2,((),(),(),()),(),(),(),(),Qf,Qj,Qk,Qa,())
def QDY (x10:Int)(y2:Ad)(y3_1:List Aa)(Qf:List Ac)(Qk:List Ag)(Qa:Ab):VS:=Qhy.st ((),(),(),x10,()) (y2,((),y3_1,(),()),(),(),(),(),Qf,(),Qk,Qa,())
def Qqv (y2:Ad)(y3_1:List Aa)(Qf:List Ac)(Qk:List Ag)(Qa:Ab):VS:=QTX.st ((),(),()) (y2,((),y3_1,(),()),(),(),(),(),Qf,(),Qk,Qa,())
def QTY:VS->Option (Bool×List (Bool×Exit×VS)):=mkL Qhv (fun x y=>(Qw x.2.2.2.2.1 x.2.2.2.2.2.1 x.2.2.2.2.2.2.1&&(dOk y.2.2.2.2.2.2.2.2.2.1&&(decide (y.2.2.2.2.2.2.1.length<=x.2.2.2.2.2.2.1)&&x.2.2.2.2.1.all nm1)))) (fun x y=>[(true,.exit 0,Qqt (x.2.2.2.1) (y.1) (y.2.2.2.2.2.2.1++(Xb (x.2.2.2.2.1.drop x.2.2.2.2.2.2.1.toNat) x.2.2.2.2.2.2.1.toNat y.2.2.2.2.2.2.2.2.2.1).1) (y.2.2.2.2.2.2.2.1) (y.2.2.2.2.2.2.2.2.1) ((Xb (x.2.2.2.2.1.drop x.2.2.2.2.2.2.1.toNat) x.2.2.2.2.2.2.1.toNat y.2.2.2.2.2.2.2.2.2.1).2))])
def QTZ:VS->Option (Bool×List (Bool×Exit×VS)):=mkL Qhw (fun x y=>(dOk y.2.2.2.2.2.2.2.2.2.1&&decide (0<=x.2.2.2.2.2.2.2.2.1/\x.2.2.2.2.2.2.2.2.1<=x.2.2.2.2.2.2.2.1/\x.2.2.2.2.2.2.2.1<=3/\y.2.2.2.2.2.2.2.1.length<=3))) (fun x y=>[(true,.exit 4,QbW (x.2.2.2.1) (x.2.2.2.2.2.1) (x.2.2.2.2.2.2.1) (y.1) (y.2.2.2.2.2.2.1) ((edZ (x.2.2.2.2.2.2.2.1-x.2.2.2.2.2.2.2.2.1).toNat x.2.2.2.2.1 x.2.2.2.2.2.2.2.2.1 y.2.2.2.2.2.2.2.1 y.2.2.2.2.2.2.2.2.2.1).1) (y.2.2.2.2.2.2.2.2.1) ((edZ (x.2.2.2.2.2.2.2.1-x.2.2.2.2.2.2.2.2.1).toNat x.2.2.2.2.1 x.2.2.2.2.2.2.2.2.1 y.2.2.2.2.2.2.2.1 y.2.2.2.2.2.2.2.2.2.1).2))])
def QT0:VS->Option (Bool×List (Bool×Exit×VS)):=mkL Qhx (fun x y=>(dOk y.2.2.2.2.2.2.2.2.2.1&&decide (0<=x.2.2.2.2.2.1/\x.2.2.2.2.2.1<=x.2.2.2.2.1/\x.2.2.2.2.1<=3/\x.2.2.2.1.length<=3/\y.2.2.2.2.2.2.2.1.length<=3))) (fun x y=>[(true,.exit 2,Qqu (y.1) (y.2.2.2.2.2.2.1) ((edY (x.2.2.2.2.1-x.2.2.2.2.2.1).toNat x.2.2.2.1.length x.2.2.2.2.2.1 y.2.2.2.2.2.2.2.1 y.2.2.2.2.2.2.2.2.2.1).1) (y.2.2.2.2.2.2.2.2.1) ((edY (x.2.2.2.2.1-x.2.2.2.2.2.1).toNat x.2.2.2.1.length x.2.2.2.2.2.1 y.2.2.2.2.2.2.2.1 y.2.2.2.2.2.2.2.2.2.1).2))])
def QT1:VS->Option (Bool×List (Bool×Exit×VS)):=mkL Qhy (fun x y=>(dOk y.2.2.2.2.2.2.2.2.2.1&&decide (0<=x.2.2.2.1/\x.2.2.2.1<=3/\y.2.2.2.2.2.2.2.2.1.length+x.2.2.2.1.toNat<=100))) (fun x y=>[(true,.exit 6,Qqv (y.1) (y.2.1.2.1) (y.2.2.2.2.2.2.1) (y.2.2.2.2.2.2.2.2.1++(itZ x.2.2.2.1.toNat y.2.2.2.2.2.2.2.2.2.1).1) ((itZ x.2.2.2.1.toNat y.2.2.2.2.2.2.2.2.2.1).2))])
def GG:G:=⟨TYs,[45,103],122,EL [(10,Y9),(13,Fq),(31,Ql3),(32,Qp5),(33,Ug),(50,Qme),(51,Qmd)],Yx,(Ls [QTY,QTZ,QT0,QT1]),IL [],RL []⟩
def QbX (x4 x16:List ByteArray)(x17 x18:Int)(y2:Ad)(Qf:List Ac)(Qj:List Aa)(Qk:List Ag)(Qa:Ab):OX:=Qu (Qx GG Qqp QDS) (QDW x4 x16 x17 x18 y2 Qf Qj Qk Qa)
def EI (kk:List ByteArray->List ByteArray->Int->Int->Ad->List Ac->List Aa->List Ag->Ab->OX)(x4 x16:List ByteArray)(x17 x18:Int)(y2:Ad)(Qf:List Ac)(Qj:List Aa)(Qk:List Ag)(Qa:Ab):OX:=
 let a5:=lgt .str x16 (Int.toNat x18)
 let a1:=YM a5 Zo (Qi .i64 100 x18) 1 901
 let a2:=(lgt (.sl tI) ([[10,8,2],[8,2],[2,10,8,3]]) (Int.toNat (Qg (Qr Qa ([3,3,4])) 3)))
 let a3:=(Qc (Qr Qa ([3,3,4])) 3)
 let a4:=((done a3 2),([(((a1.1).1,(((a1.1).2).1,())),((a1.2).1,(((a1.2).2).1,())))],([1],([2,3],((done (Qc a3 2) 3),())))))
 let a6:=(dof Qa ([3,3,4]))
 let a7:=Iw a5 Zo (Qi .i64 100 x18) 1 901
 br (Jb (Qc a3 2) 3) (br (ieq a6 4) (br (Qt ([14]) a2 8) (br a7 (br (Qt Qf ([(a5,(1,(a6,((([14])++a2),a4))))]) 144) (kk x4 x16 x17 (Qi .i64 x18 1) y2 (Qf++([(a5,(1,(a6,((([14])++a2),a4))))])) Qj Qk (Qc (Qc a3 2) 3)) none) none) none) (br a7 (br (Qt Qf ([(a5,(1,(a6,(a2,a4))))]) 144) (kk x4 x16 x17 (Qi .i64 x18 1) y2 (Qf++([(a5,(1,(a6,(a2,a4))))])) Qj Qk (Qc (Qc a3 2) 3)) none) none)) none
def OI (kk:List ByteArray->List ByteArray->Int->Int->Ad->List Ac->List Aa->List Ag->Ab->OX)(x4 x16:List ByteArray)(x17 x18:Int)(y2:Ad)(Qf:List Ac)(Qj:List Aa)(Qk:List Ag)(Qa:Ab):OX:=br (Jb (Qc (Qr Qa ([3,3,4])) 3) 2) (EI kk x4 x16 x17 x18 y2 Qf Qj Qk Qa) none
def OJ (kk:List ByteArray->List ByteArray->Int->Int->Ad->List Ac->List Aa->List Ag->Ab->OX)(x4 x16:List ByteArray)(x17 x18:Int)(y2:Ad)(Qf:List Ac)(Qj:List Aa)(Qk:List Ag)(Qa:Ab):OX:=
 let a1:=(Qr Qa ([3,3,4]))
 br (QE a1 3) (br (cIx ([[10,8,2],[8,2],[2,10,8,3]]) (Qg a1 3)) (OI kk x4 x16 x17 x18 y2 Qf Qj Qk Qa) none) none
def OK (kk:List ByteArray->List ByteArray->Int->Int->Ad->List Ac->List Aa->List Ag->Ab->OX)(x4 x16:List ByteArray)(x17 x18:Int)(y2:Ad)(Qf:List Ac)(Qj:List Aa)(Qk:List Ag)(Qa:Ab):OX:=
 let a1:=(Qr Qa ([3,3,4]))
 let a2:=(QR Qa ([3,3,4]))
 br (ilt x18 x17) (br (cIx x16 x18) (frk (br a2 (frk (br (QE a1 3) (br (cIx ([[10,8,2],[8,2],[2,10,8,3]]) (Qg a1 3)) (frk (br (Jb (Qc a1 3) 2) (frk (EI kk x4 x16 x17 x18 y2 Qf Qj Qk Qa) (EI kk x4 x16 x17 x18 y2 Qf Qj Qk Qa)) none) (OI kk x4 x16 x17 x18 y2 Qf Qj Qk Qa)) none) none) (OJ kk x4 x16 x17 x18 y2 Qf Qj Qk Qa)) none) (br a2 (OJ kk x4 x16 x17 x18 y2 Qf Qj Qk Qa) none)) none) (some (.exit 0,Qqt x4 y2 Qf Qj Qk Qa))
def EJ (x4 x16:List ByteArray)(x17 x18:Int)(y2:Ad)(Qf:List Ac)(Qj:List Aa)(Qk:List Ag)(Qa:Ab):OX:=
 let a1:=Xb (x16.drop x18.toNat) x18.toNat Qa
 some (.exit 0,Qqt (x4) (y2) (Qf++a1.1) (Qj) (Qk) (a1.2))
theorem QDZ (x4 x16 x17 x18 y2 Qf Qj Qk Qa):QbX x4 x16 x17 x18 y2 Qf Qj Qk Qa=OK QbX x4 x16 x17 x18 y2 Qf Qj Qk Qa:=lnT (x:=OK (fun x4 x16 x17 x18 y2 Qf Qj Qk Qa=>some (.normal,QDW x4 x16 x17 x18 y2 Qf Qj Qk Qa)) x4 x16 x17 x18 y2 Qf Qj Qk Qa) (by
 first
 |(simp only [JG,OK,EI,OI,OJ,JG,Ud,UR,US,UT,UU]
   rfl)
 |(simp only [JG,OK,EI,OI,OJ,JG]
   try generalize (Qt Qf ([((lgt .str x16 (Int.toNat x18)),(1,((dof Qa ([3,3,4])),((([14])++(lgt (.sl tI) ([[10,8,2],[8,2],[2,10,8,3]]) (Int.toNat (Qg (Qr Qa ([3,3,4])) 3)))),((done (Qc (Qr Qa ([3,3,4])) 3) 2),([((((YM (lgt .str x16 (Int.toNat x18)) Zo (Qi .i64 100 x18) 1 901).1).1,((((YM (lgt .str x16 (Int.toNat x18)) Zo (Qi .i64 100 x18) 1 901).1).2).1,())),(((YM (lgt .str x16 (Int.toNat x18)) Zo (Qi .i64 100 x18) 1 901).2).1,((((YM (lgt .str x16 (Int.toNat x18)) Zo (Qi .i64 100 x18) 1 901).2).2).1,())))],([1],([2,3],((done (Qc (Qc (Qr Qa ([3,3,4])) 3) 2) 3),())))))))))]) 144)=cq0
   try generalize ((Iw (lgt .str x16 (Int.toNat x18)) Zo (Qi .i64 100 x18) 1 901))=cq1
   try generalize (Qt ([14]) (lgt (.sl tI) ([[10,8,2],[8,2],[2,10,8,3]]) (Int.toNat (Qg (Qr Qa ([3,3,4])) 3))) 8)=cq2
   try generalize (Qt Qf ([((lgt .str x16 (Int.toNat x18)),(1,((dof Qa ([3,3,4])),((lgt (.sl tI) ([[10,8,2],[8,2],[2,10,8,3]]) (Int.toNat (Qg (Qr Qa ([3,3,4])) 3))),((done (Qc (Qr Qa ([3,3,4])) 3) 2),([((((YM (lgt .str x16 (Int.toNat x18)) Zo (Qi .i64 100 x18) 1 901).1).1,((((YM (lgt .str x16 (Int.toNat x18)) Zo (Qi .i64 100 x18) 1 901).1).2).1,())),(((YM (lgt .str x16 (Int.toNat x18)) Zo (Qi .i64 100 x18) 1 901).2).1,((((YM (lgt .str x16 (Int.toNat x18)) Zo (Qi .i64 100 x18) 1 901).2).2).1,())))],([1],([2,3],((done (Qc (Qc (Qr Qa ([3,3,4])) 3) 2) 3),())))))))))]) 144)=cq3
   try generalize ((Jb (Qc (Qc (Qr Qa ([3,3,4])) 3) 2) 3))=cq4
   try generalize ((Jb (Qc (Qr Qa ([3,3,4])) 3) 2))=cq5
   try generalize (cIx ([[10,8,2],[8,2],[2,10,8,3]]) (Qg (Qr Qa ([3,3,4])) 3))=cq6
   try generalize ((QE (Qr Qa ([3,3,4])) 3))=cq7
   try generalize ((QR Qa ([3,3,4])))=cq8
   try generalize (cIx x16 x18)=cq9
   simp only [brN,JG,Bool.and_assoc,Bool.and_comm,Bool.and_left_comm,B1,Bool.and_self_left,Ud,UR,US,UT,UU]
   try rfl))
def Qhz (x4:List ByteArray)(x8 x65 x66 x70 x71:Int)(y2:Ad)(Qf:List Ac)(Qj:List Aa)(Qk:List Ag)(Qa:Ab):OX:=Qu (Qx GG Qqq QDT) (QDX x4 x8 x65 x66 x70 x71 y2 Qf Qj Qk Qa)
def QbY (kk:List ByteArray->Int->Int->Int->Int->Int->Ad->List Ac->List Aa->List Ag->Ab->OX)(x4:List ByteArray)(x8 x65 x66 x70 x71:Int)(y2:Ad)(Qf:List Ac)(Qj:List Aa)(Qk:List Ag)(Qa:Ab):OX:=
 let a1:=Qi .i64 x71 1
 let a2:=Qc Qa 3
 br (ilt x71 x70) (br (ine x8 x71) (br (QE Qa 3) (br (igt (Qg Qa 3) 0) (br (ilt (Qb Qj) 3) (br (Qt Qj ([(x8,(x71,()))]) 16) (kk x4 x8 x65 x66 x70 a1 y2 Qf (Qj++([(x8,(x71,()))])) Qk a2) none) (kk x4 x8 x65 x66 x70 a1 y2 Qf Qj Qk a2)) (kk x4 x8 x65 x66 x70 a1 y2 Qf Qj Qk a2)) none) (kk x4 x8 x65 x66 x70 a1 y2 Qf Qj Qk Qa)) (some (.exit 4,QbW x4 x65 x66 y2 Qf Qj Qk Qa))
def EK (x4:List ByteArray)(x8 x65 x66 x70 x71:Int)(y2:Ad)(Qf:List Ac)(Qj:List Aa)(Qk:List Ag)(Qa:Ab):OX:=
 let a1:=edZ (x70-x71).toNat x8 x71 Qj Qa
 some (.exit 4,QbW (x4) (x65) (x66) (y2) (Qf) (a1.1) (Qk) (a1.2))
theorem QD0 (x4 x8 x65 x66 x70 x71 y2 Qf Qj Qk Qa):Qhz x4 x8 x65 x66 x70 x71 y2 Qf Qj Qk Qa=QbY Qhz x4 x8 x65 x66 x70 x71 y2 Qf Qj Qk Qa:=lnT (x:=QbY (fun x4 x8 x65 x66 x70 x71 y2 Qf Qj Qk Qa=>some (.normal,QDX x4 x8 x65 x66 x70 x71 y2 Qf Qj Qk Qa)) x4 x8 x65 x66 x70 x71 y2 Qf Qj Qk Qa) (by simp only [QbY,nxA];rfl)
def QhA (x4:List ByteArray)(x65 x66:Int)(y2:Ad)(Qf:List Ac)(Qj:List Aa)(Qk:List Ag)(Qa:Ab):OX:=Qu (Qx GG Qqr QDU) (QbW x4 x65 x66 y2 Qf Qj Qk Qa)
def QbZ (kk:List ByteArray->Int->Int->Ad->List Ac->List Aa->List Ag->Ab->OX)(x4:List ByteArray)(x65 x66:Int)(y2:Ad)(Qf:List Ac)(Qj:List Aa)(Qk:List Ag)(Qa:Ab):OX:=
 let a1:=(edZ ((Qb x4)-(0:Int)).toNat x66 (0:Int) Qj Qa)
 br (ilt x66 x65) (br (dOk Qa&&decide (0<=(0:Int)/\(0:Int)<=(Qb x4)/\(Qb x4)<=3/\Qj.length<=3)) (kk (x4) (x65) (Qi .i64 (x66) 1) (y2) (Qf) (a1.1) (Qk) (a1.2)) none) (some (.exit 2,Qqu y2 Qf Qj Qk Qa))
def QhB (x4:List ByteArray)(x65 x66:Int)(y2:Ad)(Qf:List Ac)(Qj:List Aa)(Qk:List Ag)(Qa:Ab):OX:=
 let a1:=edY (x65-x66).toNat x4.length x66 Qj Qa
 some (.exit 2,Qqu (y2) (Qf) (a1.1) (Qk) (a1.2))
theorem QD1 (x4 x65 x66 y2 Qf Qj Qk Qa):QhA x4 x65 x66 y2 Qf Qj Qk Qa=QbZ QhA x4 x65 x66 y2 Qf Qj Qk Qa:=lnT (x:=QbZ (fun x4 x65 x66 y2 Qf Qj Qk Qa=>some (.normal,QbW x4 x65 x66 y2 Qf Qj Qk Qa)) x4 x65 x66 y2 Qf Qj Qk Qa) (by simp only [QbZ,nxA];rfl)
def QhC (x10:Int)(y2:Ad)(y3_1:List Aa)(Qf:List Ac)(Qk:List Ag)(Qa:Ab):OX:=Qu (Qx GG Qqs QDV) (QDY x10 y2 y3_1 Qf Qk Qa)
def Qb0 (kk:Int->Ad->List Aa->List Ac->List Ag->Ab->OX)(x10:Int)(y2:Ad)(y3_1:List Aa)(Qf:List Ac)(Qk:List Ag)(Qa:Ab):OX:=
 let a2:=(ByteArray.mk #[98,97,99,107,117,112])
 let a3:=(ByteArray.mk #[100,101,101,100])
 let a5:=(Uj Qa ([a2,a3]))
 let a6:=(YD Qa ([a2,a3]))
 let a1:=It a5 a6
 let a4:=((a1.2).1,(((a1.2).2).1,((((a1.2).2).2).1,(((((a1.2).2).2).2).1,()))))
 br (igt x10 0) (br (GC Qa ([a2,a3])) (br (Iu a5 a6) (br (Qt Qk ([(a1.1,a4)]) 64) (kk (QQ .i64 x10 1) y2 y3_1 Qf (Qk++([(a1.1,a4)])) (G8 a5 a6)) none) none) none) (some (.exit 6,Qqv y2 y3_1 Qf Qk Qa))
def QhD (x10:Int)(y2:Ad)(y3_1:List Aa)(Qf:List Ac)(Qk:List Ag)(Qa:Ab):OX:=some (.exit 6,Qqv (y2) (y3_1) (Qf) (Qk++(itZ x10.toNat Qa).1) ((itZ x10.toNat Qa).2))
theorem QD2 (x10 y2 y3_1 Qf Qk Qa):QhC x10 y2 y3_1 Qf Qk Qa=Qb0 QhC x10 y2 y3_1 Qf Qk Qa:=lnT (x:=Qb0 (fun x10 y2 y3_1 Qf Qk Qa=>some (.normal,QDY x10 y2 y3_1 Qf Qk Qa)) x10 y2 y3_1 Qf Qk Qa) (by simp only [Qb0,nxA];rfl)
def r_f27 (d0:Ab):OV:=
 let a6:=(ByteArray.mk #[97,112,112])
 let a8:=(ByteArray.mk #[100,98])
 let a7:=(ByteArray.mk #[119,101,98])
 let a2:=(lsl ([a6,a8,a7]) 0 (Qi .i64 2 (Qg d0 2)))
 let a5:=(Xb (a2.drop (0:Int).toNat) (0:Int).toNat (Qc d0 2))
 let a1:=(edY ((Qb a2)-(0:Int)).toNat a2.length (0:Int) ([]:List Aa) (a5.2))
 let a3:=(dOk (Qc (a1.2) 3)&&decide (0<=(Qg (a1.2) 3)/\(Qg (a1.2) 3)<=3/\([]:List Ag).length+(Qg (a1.2) 3).toNat<=100))
 let a4:=itZ (Qg (a1.2) 3).toNat (Qc (a1.2) 3)
 br (QE d0 2) (br (cSl ([a6,a8,a7]) 0 (Qi .i64 2 (Qg d0 2)) ((List.length ([a6,a8,a7]):Nat):Int)) (br (Qw a2 (Qb a2) (0:Int)&&(dOk (Qc d0 2)&&(decide (([]:List Ac).length<=(0:Int))&&a2.all nm1))) (br (dOk (a5.2)&&decide (0<=(0:Int)/\(0:Int)<=(Qb a2)/\(Qb a2)<=3/\a2.length<=3/\([]:List Aa).length<=3)) (br (ieq (Qb (a1.1)) 0) (br (QE (a1.2) 3) (br a3 (some (.t Qo ((([]:List Ac)++a5.1),(([(0,(1,()))]),((([]:List Ag)++a4.1),()))),[.box (.t Qn (a4.2))])) none) none) (br (QE (a1.2) 3) (br a3 (some (.t Qo ((([]:List Ac)++a5.1),((a1.1),((([]:List Ag)++a4.1),()))),[.box (.t Qn (a4.2))])) none) none)) none) none) none) none
theorem QT2 (x4 x16:List ByteArray)(x17 x18:Int)(y2:Ad)(Qf:List Ac)(Qj:List Aa)(Qk:List Ag)(Qa:Ab)(h:(Qw x16 x17 x18&&(dOk Qa&&(decide (Qf.length<=x18)&&x16.all nm1)))=true):QbX x4 x16 x17 x18 y2 Qf Qj Qk Qa=EJ x4 x16 x17 x18 y2 Qf Qj Qk Qa:=by
 simp only [Bd,Ba] at h
 obtain ⟨h0,hd,hl,ha⟩:=h
 obtain ⟨rfl,h3,k,rfl,hk⟩:=Jv h0
 clear h0
 revert Qf Qa
 refine QP x16 (fun k=> ∀ (Qf:List Ac) (Qa:Ab),dOk Qa=true->(Qf.length:Int)<=(k:Int)->QbX x4 x16 (x16.length:Int) (k:Int) y2 Qf Qj Qk Qa=EJ x4 x16 (x16.length:Int) (k:Int) y2 Qf Qj Qk Qa) ?_ ?_ k hk
 ·intro Qf Qa _ _
  rw [QDZ]
  simp only [OK,EI,OI,OJ,JG,EJ,Qv,BK,BP,Qh,Bb,BF,Xb,BH]
 ·intro k hk ih Qf Qa hd hl
  rw [QDZ]
  have c1:QR Qa [3,3,4]=true:=XJ hd (by decide) (by decide)
  have d1:=JB (l:=[3,3,4]) hd
  have c2:QE (Qr Qa [3,3,4]) 3=true:=Zp d1 (by omega)
  have d2:=Qz (n:=3) d1
  have c3:Jb (Qc (Qr Qa [3,3,4]) 3) 2=true:=WA d2 (by omega) (by omega)
  have c4:Jb (Qc (Qc (Qr Qa [3,3,4]) 3) 2) 3=true:=WA (Qz d2) (by omega) (by omega)
  have b3:=Q8 (d:=Qr Qa [3,3,4]) (n:=3) (by omega)
  have c5:cIx ([[10,8,2],[8,2],[2,10,8,3]]:List (List Int)) (Qg (Qr Qa [3,3,4]) 3)=true:=Bc ⟨b3.1,b3.2⟩
  have c6:Iw x16[k] Zo (Qi .i64 100 (k:Int)) 1 901=true:=Bi.1 ha _ (BC hk)
  have c7: ∀ v,Qt Qf [v] 144=true:=fun v=>QX (by omega) (by simp only [Bh];omega)
  have b4: ∀ q,(lgt (.sl tI) [[10,8,2],[8,2],[2,10,8,3]] q).length<=4:=fun q=>QvN (by simp) q
  have c8:Qt ([14]:List Int) (lgt (.sl tI) [[10,8,2],[8,2],[2,10,8,3]] (Qg (Qr Qa [3,3,4]) 3).toNat) 8=true:=QX (by decide) (by have:=b4 (Qg (Qr Qa [3,3,4]) 3).toNat;simp only [Bh];omega)
  simp only [OK,EI,OI,OJ,JG,Qv,QM,hk,Bu,Qd,Bb,QO (k:=k),QN (y:= .str) hk,c1,c2,c3,c4,c6,c7,JG]
  have hi: ∀ v,QbX x4 x16 (x16.length:Int) ((k+1:Nat):Int) y2 (Qf++[v]) Qj Qk (GF Qa)=EJ x4 x16 (x16.length:Int) ((k+1:Nat):Int) y2 (Qf++[v]) Qj Qk (GF Qa):=fun v=>ih _ _ (QDQ hd) (by simp only [Bj,Bh];omega)
  have goal2:EJ x4 x16 (x16.length:Int) ((k+1:Nat):Int) y2 (Qf++[Qhu Qa k x16[k]]) Qj Qk (GF Qa)=EJ x4 x16 (x16.length:Int) (k:Int) y2 Qf Qj Qk Qa:=by
   simp only [EJ,Bb,Bg hk,Xb,BG,BD]
  refine Eq.trans ?_ ((hi _).trans goal2)
  unfold Qhu Fx
  refine brY c5 ?_
  cases ieq (dof Qa [3,3,4]) 4 with
  |false=>rfl
  |true=>exact brY rfl (brY c8 rfl)
theorem QT3 (x4:List ByteArray)(x8 x65 x66 x70 x71:Int)(y2:Ad)(Qf:List Ac)(Qj:List Aa)(Qk:List Ag)(Qa:Ab)(h:(dOk Qa&&decide (0<=x71/\x71<=x70/\x70<=3/\Qj.length<=3))=true):Qhz x4 x8 x65 x66 x70 x71 y2 Qf Qj Qk Qa=EK x4 x8 x65 x66 x70 x71 y2 Qf Qj Qk Qa:=by
 simp only [Bd,Ba] at h
 obtain ⟨hd,h0,h1,h2,hl⟩:=h
 have key: ∀ (m:Nat) (x71:Int) (Qj:List Aa) (Qa:Ab),x71+m=x70->0<=x71->dOk Qa=true->Qj.length<=3->Qhz x4 x8 x65 x66 x70 x71 y2 Qf Qj Qk Qa=EK x4 x8 x65 x66 x70 x71 y2 Qf Qj Qk Qa:=by
  intro m
  induction m with
  |zero=>
   intro x71 Qj Qa e _ _ _
   rw [QD0]
   have:x70=x71:=by omega
   subst this
   simp only [QbY,EK,show ilt x70 x70=false from Bn (by omega),Qh,Int.sub_self,Bt,edZ]
  |succ m ih=>
   intro x71 Qj Qa e h0 hd hl
   rw [QD0]
   have c1:QE Qa 3=true:=Zp hd (by omega)
   have c2:Qt Qj [(x8,(x71,()))] 16=true:=QX (by omega) (by simp only [Bh];omega)
   have e1:Qi .i64 x71 1=x71+1:=Ja (by omega)
   have e2:(x70-x71).toNat=m+1:=by omega
   have e3:(x70-(x71+1)).toNat=m:=by omega
   simp only [QbY,show ilt x71 x70=true from Bc (by omega),Qd,c1,c2,e1]
   have i0:=ih (x71+1) Qj Qa (by omega) (by omega) hd hl
   have i1:=ih (x71+1) Qj (Qc Qa 3) (by omega) (by omega) (Qz hd) hl
   rw [i0,i1]
   cases hn:ine x8 x71 with
   |false=>simp only [Qh,EK,e2,e3,edZ,hn,BW]
   |true=>
    cases hg:igt (Qg Qa 3) 0 with
    |false=>simp only [Qd,Qh,EK,e2,e3,edZ,hn,hg,B6,DK,BW]
    |true=>
     cases hq:ilt (Qb Qj) 3 with
     |false=>simp only [Qd,Qh,EK,e2,e3,edZ,hn,hg,hq,B6,D2,BW]
     |true=>
      have hl3:Qj.length<3:=by have:=Bw hq;simp only [Qb] at this;omega
      have i2:=ih (x71+1) (Qj++[(x8,(x71,()))]) (Qc Qa 3) (by omega) (by omega) (Qz hd) (by simp only [Bj,Bh];omega)
      rw [i2]
      simp only [Qd,EK,e2,e3,edZ,hn,hg,hq,B6,B1]
 exact key (x70-x71).toNat x71 Qj Qa (by omega) h0 hd hl
theorem QT4 (x4:List ByteArray)(x65 x66:Int)(y2:Ad)(Qf:List Ac)(Qj:List Aa)(Qk:List Ag)(Qa:Ab)(h:(dOk Qa&&decide (0<=x66/\x66<=x65/\x65<=3/\x4.length<=3/\Qj.length<=3))=true):QhA x4 x65 x66 y2 Qf Qj Qk Qa=QhB x4 x65 x66 y2 Qf Qj Qk Qa:=by
 simp only [Bd,Ba] at h
 obtain ⟨hd,h0,h1,h2,h3,hl⟩:=h
 have key: ∀ (m:Nat) (x66:Int) (Qj:List Aa) (Qa:Ab),x66+m=x65->0<=x66->dOk Qa=true->Qj.length<=3->QhA x4 x65 x66 y2 Qf Qj Qk Qa=QhB x4 x65 x66 y2 Qf Qj Qk Qa:=by
  intro m
  induction m with
  |zero=>
   intro x66 Qj Qa e _ _ _
   rw [QD1]
   have:x65=x66:=by omega
   subst this
   simp only [QbZ,QhB,show ilt x65 x65=false from Bn (by omega),Qh,Int.sub_self,Bt,edY]
  |succ m ih=>
   intro x66 Qj Qa e h0 hd hl
   rw [QD1]
   have e1:Qi .i64 x66 1=x66+1:=Ja (by omega)
   have e2:(x65-x66).toNat=m+1:=by omega
   have e3:(x65-(x66+1)).toNat=m:=by omega
   have e4:(Qb x4-0).toNat=x4.length:=by simp only [Qb];omega
   have hz:=OG x4.length x66 0 Qj Qa hd hl
   simp only [QbZ,show ilt x66 x65=true from Bc (by omega),Qd,e1,e4,hd,By]
   refine brY (Bc (by simp only [Qb];omega)) ?_
   rw [ih (x66+1) _ _ (by omega) (by omega) hz.1 hz.2]
   simp only [QhB,e2,e3,edY]
 exact key (x65-x66).toNat x66 Qj Qa (by omega) h0 hd hl
theorem QT5 (x10:Int)(y2:Ad)(y3_1:List Aa)(Qf:List Ac)(Qk:List Ag)(Qa:Ab)(h:(dOk Qa&&decide (0<=x10/\x10<=3/\Qk.length+x10.toNat<=100))=true):QhC x10 y2 y3_1 Qf Qk Qa=QhD x10 y2 y3_1 Qf Qk Qa:=by
 simp only [Bd,Ba] at h
 obtain ⟨hd,h0,h1,hl⟩:=h
 obtain ⟨n,rfl⟩:=Bm h0
 rw [Bb] at hl
 have key: ∀ (n:Nat) (Qk:List Ag) (Qa:Ab),dOk Qa=true->Qk.length+n<=100->QhC (n:Int) y2 y3_1 Qf Qk Qa=QhD (n:Int) y2 y3_1 Qf Qk Qa:=by
  intro n
  induction n with
  |zero=>
   intro Qk Qa _ _
   rw [QD2]
   simp only [Qb0,QhD,show igt ((0:Nat):Int) 0=false from rfl,Qh,Bb,itZ,BH]
  |succ n ih=>
   intro Qk Qa hd hl
   rw [QD2]
   have e2:QQ .i64 ((n+1:Nat):Int) 1=(n:Int):=(Zv (by omega)).trans (by omega)
   have c1:GC Qa sIt=true:=by simp [GC,hd]
   have c2:Iu (Uj Qa sIt) (YD Qa sIt)=true:=OH hd
   have c3: ∀ v,Qt Qk [v] 64=true:=fun v=>QX (by omega) (by simp only [Bh];omega)
   simp only [Qb0,show igt ((n+1:Nat):Int) 0=true from Bc (by omega),Qd,e2,c1,c2,c3]
   refine Eq.trans (ih _ _ (Qd4 (s:=YD Qa sIt) (OH hd)) (by simp only [Bj,Bh];omega)) ?_
   simp only [QhD,Bb,itZ,BG,BD]
 exact key n Qk Qa hd (by omega)
theorem QT6:LO GG Qqp QDS 0:=QC (s:=Qhv) fun x y h _ q=>by simp only [QA,QB] at q;exact (QT2 x.2.2.2.1 x.2.2.2.2.1 x.2.2.2.2.2.1 x.2.2.2.2.2.2.1 y.1 y.2.2.2.2.2.2.1 y.2.2.2.2.2.2.2.1 y.2.2.2.2.2.2.2.2.1 y.2.2.2.2.2.2.2.2.2.1 h).trans q
theorem QT7:LO GG Qqq QDT 1:=QC (s:=Qhw) fun x y h _ q=>by simp only [QA,QB] at q;exact (QT3 x.2.2.2.1 x.2.2.2.2.1 x.2.2.2.2.2.1 x.2.2.2.2.2.2.1 x.2.2.2.2.2.2.2.1 x.2.2.2.2.2.2.2.2.1 y.1 y.2.2.2.2.2.2.1 y.2.2.2.2.2.2.2.1 y.2.2.2.2.2.2.2.2.1 y.2.2.2.2.2.2.2.2.2.1 h).trans q
theorem QT8:LO GG Qqr QDU 2:=QC (s:=Qhx) fun x y h _ q=>by simp only [QA,QB] at q;exact (QT4 x.2.2.2.1 x.2.2.2.2.1 x.2.2.2.2.2.1 y.1 y.2.2.2.2.2.2.1 y.2.2.2.2.2.2.2.1 y.2.2.2.2.2.2.2.2.1 y.2.2.2.2.2.2.2.2.2.1 h).trans q
theorem QT9:LO GG Qqs QDV 3:=QC (s:=Qhy) fun x y h _ q=>by simp only [QA,QB] at q;exact (QT5 x.2.2.2.1 y.1 y.2.1.2.1 y.2.2.2.2.2.2.1 y.2.2.2.2.2.2.2.2.1 y.2.2.2.2.2.2.2.2.2.1 h).trans q
theorem s_f27 (d)(h:dOk d=true):r_f27 d=some (.t Qo (Jd d),[.box (.t Qn (Xt d))]):=by
 have hv:=Q8 (d:=d) (n:=2) (by omega)
 have e:Qi .i64 2 (Qg d 2)=2+Qg d 2:=Ja (by omega)
 have c1:QE d 2=true:=Zp h (by omega)
 have hn:=QbU d
 have hd:=Qz (n:=2) h
 have hz:=Qqn (Zw d) 0 (Qc d 2) hd
 have hy:=Qqo (Zw d).length (Zw d).length 0 [] _ hz (B0 _)
 have hy1:dOk (ZZ d).2=true:=hy.1
 have hv3:=Q8 (d:=(ZZ d).2) (n:=3) (by omega)
 simp only [r_f27,show lsl Xa 0 (Qi .i64 2 (Qg d 2))=Zw d from rfl,BM,Bt,Bx,Int.sub_zero,show (Qb (Zw d)).toNat=(Zw d).length by simp only [Qb];omega]
 simp only [show edY (Zw d).length (Zw d).length 0 [] (Xb (Zw d) 0 (Qc d 2)).2=ZZ d from rfl]
 refine brY c1 (brY (Bc (by rw [e];refine ⟨by omega,by omega, ?_, ?_⟩<;>simp<;>omega)) (brY ?_ (brY ?_ ?_)))
 ·rw [Jw (by omega),hd,hn.2.2]
  rfl
 ·rw [hz]
  exact Bc (by simp only [Qb,Bv];omega)
 ·have c2:QE (ZZ d).2 3=true:=Zp hy1 (by omega)
  have c3:(dOk (Qc (ZZ d).2 3)&&decide (0<=Qg (ZZ d).2 3/\Qg (ZZ d).2 3<=3/\([]:List Ag).length+(Qg (ZZ d).2 3).toNat<=100))=true:=by
   rw [Qz hy1,Bc (by simp only [Bv];omega)]
   rfl
  cases hq:ieq (Qb (ZZ d).1) 0 with
  |true=>
   rw [Qd]
   refine brY c2 (brY c3 ?_)
   unfold Jd QbT
   rw [hq]
   rfl
  |false=>
   rw [Qh]
   refine brY c2 (brY c3 ?_)
   unfold Jd QbT
   rw [hq]
   rfl
def QD3:Ent:=Yz Qn .nil (fun d x=>(dOk d)) (fun d x=>(.t Qo (Jd d))) (fun d x=>(Xt d))
theorem ms_f27:EM 27 QD3:=mS (lk:=lkL (lkc QT6 (lkc QT8 (lkc QT7 (lkc QT9 lkn))))) GG QbV [((.c 2 true 3),some Qo)] false (Zq _ (gA (gD Xq (gD EG (gD QvZ (gD QDr (gD UY (gD Qwd (gD Qwc gN))))))))) fun m=>Y7 m rfl fun d x hok=>kT (s_f27 d hok)
def subOk (s:ByteArray):Bool:=JF s&&WU [s]&&WU [s,Fn s (ByteArray.mk #[120])]
attribute [local irreducible] epV epN prZ
theorem QZO {c s:Ac}{x:Aa}(hx:x∈Xo c s):Xz s (QI c) x.1 x.2.1=true/\loC c s<=x.1/\x.1<=hiC c s:=by
 unfold Xo at hx
 cases hr:Uw c s with
 |false=>rw [hr] at hx;cases hx
 |true=>
  rw [hr] at hx
  obtain ⟨hv,hw⟩:=Bf.1 hr
  have v1:=FT hv
  have v2:=FT hw
  have b1:1<=loC c s:=by simp only [loC,imx];omega
  change x∈XM s (QI c) (loC c s).toNat (hiC c s+1-loC c s).toNat at hx
  unfold XM YQ at hx
  simp only [DJ,List.mem_range'_1,Dd,DL] at hx
  obtain ⟨j,hj,k,⟨_,hp⟩,rfl⟩:=hx
  exact ⟨hp,by show loC c s<=(j:Int);omega,by show (j:Int)<=hiC c s;omega⟩
abbrev WM (s:ByteArray)(k:Nat):Af:=(XP (leafC s Zo (Qi .i64 100 (k:Int)) 901) 1).1
def Qpv (s:ByteArray)(k:Nat):Bool:=
 JR (WM s k)&&(Q5 (WM s k)&&(Qhm Zo (Qi .i64 100 (k:Int)) [WM s k]&&(Zr (Qi .i64 100 (k:Int))&&(hasS (QL (WM s k)) s&&(!Qri [WM s k] 11&&(!Qri [WM s k] 15&&(!Qri [WM s k] 10&&(ieq (U7 (WM s k)).1 1&&(ieq (WM s k).2.2.2.2.2.2.1 0&&(ieq (WM s k).2.2.2.2.2.2.2.1 901&&(ieq (WM s k).2.2.2.2.2.1.1 3&&(WK s&&Jc s))))))))))))
theorem QSP:(Xa.all fun s=>(List.range 3).all fun k=>Qpv s k)=true:=by kernel_rfl
theorem QSQ {s:ByteArray}{k:Nat}(hs:s∈Xa)(hk:k<3):Qpv s k=true:=
 Bi.1 (Bi.1 QSP s hs) k (Dl.2 hk)
def QbB (e:Ac):Prop:= ∃ d k s,e=Qhu d k s/\s∈Xa/\k<3
theorem most_snd (d:Ab):dof d [3,3,4]=3∨dof d [3,3,4]=4:=by
 have h:=X9 (d:=d) (l:=[3,3,4]) (by decide)
 simp only [BQ,B3,Dt] at h
 omega
theorem QSR (d:Ab):Fx d∈[[10,8,2],[8,2],[2,10,8,3],[14,10,8,2],[14,8,2],([14,2,10,8,3]:List Int)]:=by
 have b3:=Q8 (d:=Qr d [3,3,4]) (n:=3) (by omega)
 unfold Fx
 rcases (show Qg (Qr d [3,3,4]) 3=0∨Qg (Qr d [3,3,4]) 3=1∨Qg (Qr d [3,3,4]) 3=2 by omega) with h|h|h<;>rw [h]<;>cases ieq (dof d [3,3,4]) 4<;>decide
theorem QCz {p:List Int->Bool}(h:[[10,8,2],[8,2],[2,10,8,3],[14,10,8,2],[14,8,2],([14,2,10,8,3]:List Int)].all p=true)(d:Ab):p (Fx d)=true:=Bi.1 h _ (QSR d)
theorem Qpw {e:Ac}(h:QbB e):QY e=true:=by
 obtain ⟨d,k,s,rfl,hs,hk⟩:=h
 have hg:=QSQ hs hk
 simp only [Qpv,Bd] at hg
 have hsu:(Fx d).length<=5:=Bw (QCz (p:=fun l=>decide (l.length<=5)) (by decide) d)
 have hc:JN [WM s k]=true:=by
  simp only [JN,B2,DC,hg.1,Db]
  rfl
 unfold QY
 simp only [Bd,Ba]
 refine ⟨⟨hg.2.2.2.2.2.2.2.2.2.2.2.2.2,⟨?_, ?_, ?_, ?_⟩⟩, ?_⟩
 ·show (Fx d).length<=100000
  omega
 ·exact (show 1<=100000 by decide)
 ·exact (show 1<=100000 by decide)
 ·exact (show 2<=100000 by decide)
 ·show (Jn (YM s Zo (Qi .i64 100 (k:Int)) 1 901)&&true)=true
  rw [Db]
  exact hc
theorem QCA: ∀ (l:List ByteArray) (k:Nat) (d:Ab),(Xb l k d).1.length=l.length
 | [],_,_=>rfl
 |_::r,k,d=>by simp only [Xb,Br,QCA r (k+1) (GF d)]
theorem QCB: ∀ (l:List ByteArray) (k:Nat) (d:Ab),(∀ s∈l,s∈Xa)->k+l.length<=3→ ∀ e∈(Xb l k d).1,QbB e
 | [],_,_,_,_,e,he=>by cases he
 |s::r,k,d,h,hk,e,he=>by
  simp only [Xb,BQ] at he
  simp only [Br] at hk
  rcases he with rfl|he
  ·exact ⟨d,k,s,rfl,h s Df,by omega⟩
  ·exact QCB r (k+1) (GF d) (fun s hs=>h s (B8 _ hs)) (by omega) e he
theorem QSS (d:Ab): ∀ s∈Zw d,s∈Xa:=by
 rcases QDR d with h|h<;>rw [h]
 ·exact fun s hs=>DA hs
 ·exact fun s hs=>hs
theorem QbC (d:Ab): ∀ e∈QT (Jd d),QbB e:=QCB (Zw d) 0 (Qc d 2) (QSS d) (by have:=QbU d;omega)
theorem Qpx (d:Ab):(QT (Jd d)).length=(Zw d).length:=QCA _ _ _
theorem QST {d:Ab}:JF (YD d sIt)=true:=by
 have hv:=Q8 (d:=d) (n:=2) (by omega)
 unfold YD
 show JF (sIt.getD (Qg d 2).toNat ByteArray.empty)=true
 rcases (show Qg d 2=0∨Qg d 2=1 by omega) with h|h<;>rw [h]<;>kernel_rfl
theorem QSU {d:Ab}:Jc (YD d sIt)=true:=by
 have hv:=Q8 (d:=d) (n:=2) (by omega)
 unfold YD
 show Jc (sIt.getD (Qg d 2).toNat ByteArray.empty)=true
 rcases (show Qg d 2=0∨Qg d 2=1 by omega) with h|h<;>rw [h]<;>kernel_rfl
theorem Qpy: ∀ (n:Nat) (d:Ab),(itZ n d).1.all Zx=true/\(itZ n d).1.all YY=true/\(itZ n d).1.length=n
 |0,_=>⟨rfl,rfl,rfl⟩
 |n+1,d=>by
  have:=Qpy n (G8 (Uj d sIt) (YD d sIt))
  simp only [itZ,B2,Br,this,Db,and_true]
  exact ⟨QNn _ QST,QSU⟩
open Classical in
def Eb (x:Aj):Aj:=x
abbrev QeA:Sh:=⟨[(2,.ptr 2 0),(3,.ptr 3 0),(12,.ty (.sl QW)),(13,.ty tI),(14,.ty tI)],[(2,.box Q2),(3,.bag [.ty tI,.ty tI,.ty tI,.ms 20303]),(26,.no),(20303,.arr 153 QW)]⟩
abbrev QOw:Sh:=⟨[(2,.ptr 2 0),(3,.ptr 3 0)],[(2,.box Q2),(3,.bag [.ty tI,.ty tI,.ty tI,.ms 20303]),(26,.no),(20303,.arr 153 QW)]⟩
def QmL:Fg:=QeA.f
def Qxj:TC:=aF Tryz.f169 [(58,.nf 3 3 153 20303),(58,.nf 5 12 9 20512),(58,pL 0 QmL),(933,.fg ⟨[(2,none),(3,none)],[(2,some Q2),(3,some Q2),(26,none),(20303,none)]⟩)]
def Qxk:TC:=lb 0 Qxj
def Qxl (x12:List Af)(x13 x14:Int)(y2:Aj)(y3_0 y3_1 y3_2:Int)(Ze:List Af):VS:=QeA.st ((),(),x12,x13,x14,()) (y2,(y3_0,y3_1,y3_2,(),()),(),Ze,())
def QmM (y2:Aj)(y3_0 y3_1 y3_2:Int)(Ze:List Af):VS:=QOw.st ((),(),()) (y2,(y3_0,y3_1,y3_2,(),()),(),Ze,())
def QOx:VS->Option (Bool×List (Bool×Exit×VS)):=mkL QeA (fun x y=>(Qw x.2.2.1 x.2.2.2.1 x.2.2.2.2.1&&(JN x.2.2.1&&decide (y.2.2.2.1.length<=x.2.2.2.2.1)))) (fun x y=>[(true,.exit 0,QmM (y.1) (y.2.1.1) (y.2.1.2.1) (y.2.1.2.2.1) (y.2.2.2.1++x.2.2.1.drop x.2.2.2.2.1.toNat))])
def QmN:G:=gG 30 [] (Ls [QOx])
def QeB (x12:List Af)(x13 x14:Int)(y2:Aj)(y3_0 y3_1 y3_2:Int)(Ze:List Af):OX:=Qu (Qx QmN QmL Qxk) (Qxl x12 x13 x14 y2 y3_0 y3_1 y3_2 Ze)
def Qap (kk:List Af->Int->Int->Aj->Int->Int->Int->List Af->OX)(x12:List Af)(x13 x14:Int)(y2:Aj)(y3_0 y3_1 y3_2:Int)(Ze:List Af):OX:=
 let a1:=((((lgt QW x12 (Int.toNat x14)).2).2).2)
 let a2:=((lgt QW x12 (Int.toNat x14)).1,(((lgt QW x12 (Int.toNat x14)).2).1,((((lgt QW x12 (Int.toNat x14)).2).2).1,(((a1.1).1,(((a1.1).2).1,())),((a1.2).1,(((((a1.2).2).1).1,(((((a1.2).2).1).2).1,())),((((a1.2).2).2).1,(((((a1.2).2).2).2).1,((((((a1.2).2).2).2).2).1,(((((((a1.2).2).2).2).2).2).1,((([]:List ByteArray)++((((((((a1.2).2).2).2).2).2).2).1)),(((((((((((a1.2).2).2).2).2).2).2).2).1).1,(((((((((((a1.2).2).2).2).2).2).2).2).1).2).1,())),()))))))))))))
 br (ilt x14 x13) (br (cIx x12 x14) (br (Qt ([]:List ByteArray) ((((((((a1.2).2).2).2).2).2).2).1) 16) (br (Qt Ze ([a2]) 152) (kk x12 x13 (Qi .i64 x14 1) y2 y3_0 y3_1 y3_2 (Ze++([a2]))) none) none) none) (some (.exit 0,QmM y2 y3_0 y3_1 y3_2 Ze))
def QeC (x12:List Af)(x13 x14:Int)(y2:Aj)(y3_0 y3_1 y3_2:Int)(Ze:List Af):OX:=some (.exit 0,QmM (y2) (y3_0) (y3_1) (y3_2) (Ze++x12.drop x14.toNat))
theorem Qxm (x12 x13 x14 y2 y3_0 y3_1 y3_2 Ze):QeB x12 x13 x14 y2 y3_0 y3_1 y3_2 Ze=Qap QeB x12 x13 x14 y2 y3_0 y3_1 y3_2 Ze:=lnT (x:=Qap (fun x12 x13 x14 y2 y3_0 y3_1 y3_2 Ze=>some (.normal,Qxl x12 x13 x14 y2 y3_0 y3_1 y3_2 Ze)) x12 x13 x14 y2 y3_0 y3_1 y3_2 Ze) (by simp only [Qap,nxA];rfl)
def Qxn (p0:Aj):OV:=br (Qw p0.2.2.1 (Qb p0.2.2.1) (0:Int)&&(JN p0.2.2.1&&decide (([]:List Af).length<=(0:Int)))) (some (.t Q2 (((p0.1.1),((p0.1.2.1),())),((p0.2.1),((([]:List Af)++p0.2.2.1.drop (0:Int).toNat),()))),[])) none
theorem QOy (x12:List Af)(x13 x14:Int)(y2:Aj)(y3_0 y3_1 y3_2:Int)(Ze:List Af)(h:(Qw x12 x13 x14&&(JN x12&&decide (Ze.length<=x14)))=true):QeB x12 x13 x14 y2 y3_0 y3_1 y3_2 Ze=QeC x12 x13 x14 y2 y3_0 y3_1 y3_2 Ze:=by
 simp only [Bd,Ba] at h
 obtain ⟨h0,hc,hl⟩:=h
 obtain ⟨rfl,h3,k,rfl,hk⟩:=Jv h0
 clear h0
 revert Ze
 refine QP x12 (fun k=> ∀ (Ze:List Af),(Ze.length:Int)<=(k:Int)->QeB x12 (x12.length:Int) (k:Int) y2 y3_0 y3_1 y3_2 Ze=QeC x12 (x12.length:Int) (k:Int) y2 y3_0 y3_1 y3_2 Ze) ?_ ?_ k hk
 ·intro Ze _
  rw [Qxm]
  simp only [Qap,QeC,Qv,BK,BP,Qh,Bb,BF,BH]
 ·intro k hk ih Ze hl
  rw [Qxm]
  have c1:Qt ([]:List ByteArray) (QL x12[k]) 16=true:=QX (by decide) (by have:=Qqe (QFJ hc hk);simp only [Bv];omega)
  have c2: ∀ v,Qt Ze [v] 152=true:=fun v=>QX (by omega) (by simp only [Bh];omega)
  simp only [Qap,Qv,QM,hk,Bu,Qd,Bb,QO (k:=k),QN (y:=QW) hk]
  refine brY c1 (brY (QX (by omega) (by simp only [Bh];omega)) ?_)
  refine Eq.trans (ih (Ze++[x12[k]]) (by simp only [Bj,Bh];omega)) ?_
  simp only [QeC,Bb,Bg hk,BG,BD]
theorem QOz:LO QmN QmL Qxk 0:=QC (s:=QeA) fun x y h _ q=>by simp only [QA,QB] at q;exact (QOy x.2.2.1 x.2.2.2.1 x.2.2.2.2.1 y.1 y.2.1.1 y.2.1.2.1 y.2.1.2.2.1 y.2.2.2.1 h).trans q
theorem s_f169 (x)(h:Jn x=true):Qxn x=some (.t Q2 (Eb x),[]):=by
 have h:JN x.2.2.1=true:=h
 unfold Qxn
 refine brY ?_ rfl
 rw [Jw (QFK h),h,By,By]
 exact Bc (BY _)
def QmO:Ent:=Qm (.pr Q2 .nil) (fun x=>(Jn x.1)) (fun x=>(.t Q2 (Eb x.1)))
theorem Qxo:EM 169 QmO:=mS (lk:=lkL (lkc QOz lkn)) QmN Qxj [((.c 2 true 4),some Q2)] false (gB gN) fun m=>Qq m fun x hok=>kT (s_f169 x.1 hok)
def Zf (x:Ac):Ac:=x
abbrev QeD:Sh:=⟨[(2,.ptr 2 0),(3,.ptr 3 0),(21,.ty (.sl Q2)),(22,.ty tI),(23,.ty tI)],[(2,.box Qp),(3,.bag [.ty .str,.ty tI,.ty tI,.ms 9,.ty .bool,.ms 20305,.ms 12,.ms 15,.ty .bool]),(9,.arr 3 tI),(12,.arr 3 tI),(15,.arr 3 tI),(32,.no),(20303,.no),(20305,.arr 75 Q2),(20306,.no),(20307,.no)]⟩
abbrev QOA:Sh:=⟨[(2,.ptr 2 0),(3,.ptr 3 0)],[(2,.box Qp),(3,.bag [.ty .str,.ty tI,.ty tI,.ms 9,.ty .bool,.ms 20305,.ms 12,.ms 15,.ty .bool]),(9,.arr 3 tI),(12,.arr 3 tI),(15,.arr 3 tI),(32,.no),(20303,.no),(20305,.arr 75 Q2),(20306,.no),(20307,.no)]⟩
def QmP:Fg:=QeD.f
def Qxp:TC:=aF Tryz.f130 [(14,pE [[1],[1],[9,5009,10009,15009],[1],[1],[12,5012,10012,15012],[1],[1],[15,5015,10015,15015],[3,9,12,15,32,20303,20305,20306,20307],[2,3,9,12,15,32,20303,20305,20306,20307],[3,9,12,15,32,20303,20305,20306,20307],[2,3,9,12,15,32,20303,20305,20306,20307],[3,9,12,15,32,20303,20305,20306,20307],[2,3,9,12,15,32,20303,20305,20306,20307]] (.one 0 (.one 1 (.one 3 (.one 4 (.one 6 (.one 7 (.one 2 (.alt 5 (.alt 8 (.of [9,10,11,12,13,14]) (.of [9,8,10,11,12,13,14])) (.of [9,5,8,10,11,12,13,14])))))))))),(250,.nf 3 7 3 20307),(250,.nf 3 6 3 20306),(250,.nf 3 3 3 20303),(250,.nf 3 5 75 20305),(250,pL 0 QmP),(4005,.fg ⟨[(2,none),(3,none)],[(2,some Qp),(3,some Qp),(9,none),(12,none),(15,none),(32,none),(20303,none),(20305,none),(20306,none),(20307,none)]⟩),(16025,pE [[3,9,12,15,32,20303,20305,20306,20307],[3,9,12,15,32,20303,20305,20306,20307],[5],[],[],[2,3,9,12,15,32,5032,10032,15032,20303,20305,20306,20307],[3,9,12,15,32,20303,20305,20306,20307],[2,3,9,12,15,32,20303,20305,20306,20307]] (oN 8))]
def Qxq:TC:=lb 0 Qxp
def Qxr (x21:List Aj)(x22 x23:Int)(y2:Ac)(y3_0:ByteArray)(y3_1 y3_2:Int)(y3_4 y3_8:Bool)(y9 y12 y15:List Int)(Zj:List Aj):VS:=QeD.st ((),(),x21,x22,x23,()) (y2,(y3_0,y3_1,y3_2,(),y3_4,(),(),(),y3_8,()),y9,y12,y15,(),(),Zj,(),(),())
def QmQ (y2:Ac)(y3_0:ByteArray)(y3_1 y3_2:Int)(y3_4 y3_8:Bool)(y9 y12 y15:List Int)(Zj:List Aj):VS:=QOA.st ((),(),()) (y2,(y3_0,y3_1,y3_2,(),y3_4,(),(),(),y3_8,()),y9,y12,y15,(),(),Zj,(),(),())
def QOB:VS->Option (Bool×List (Bool×Exit×VS)):=mkL QeD (fun x y=>(Qw x.2.2.1 x.2.2.2.1 x.2.2.2.2.1&&(x.2.2.1.all Jn&&decide (y.2.2.2.2.2.2.2.1.length<=x.2.2.2.2.1)))) (fun x y=>[(true,.exit 0,QmQ (y.1) (y.2.1.1) (y.2.1.2.1) (y.2.1.2.2.1) (y.2.1.2.2.2.2.1) (y.2.1.2.2.2.2.2.2.2.2.1) (y.2.2.1) (y.2.2.2.1) (y.2.2.2.2.1) (y.2.2.2.2.2.2.2.1++x.2.2.1.drop x.2.2.2.2.1.toNat))])
def QmR:G:=gG 36 [(169,QmO)] (Ls [QOB])
def QeE (x21:List Aj)(x22 x23:Int)(y2:Ac)(y3_0:ByteArray)(y3_1 y3_2:Int)(y3_4 y3_8:Bool)(y9 y12 y15:List Int)(Zj:List Aj):OX:=Qu (Qx QmR QmP Qxq) (Qxr x21 x22 x23 y2 y3_0 y3_1 y3_2 y3_4 y3_8 y9 y12 y15 Zj)
def Qaq (kk:List Aj->Int->Int->Ac->ByteArray->Int->Int->Bool->Bool->List Int->List Int->List Int->List Aj->OX)(x21:List Aj)(x22 x23:Int)(y2:Ac)(y3_0:ByteArray)(y3_1 y3_2:Int)(y3_4 y3_8:Bool)(y9 y12 y15:List Int)(Zj:List Aj):OX:=
 let a1:=Eb (lgt Q2 x21 (Int.toNat x23))
 let a2:=(((a1.1).1,(((a1.1).2).1,())),((a1.2).1,(((a1.2).2).1,())))
 br (ilt x23 x22) (br (cIx x21 x23) (br (Jn (lgt Q2 x21 (Int.toNat x23))) (br (Qt Zj ([a2]) 48) (kk x21 x22 (Qi .i64 x23 1) y2 y3_0 y3_1 y3_2 y3_4 y3_8 y9 y12 y15 (Zj++([a2]))) none) none) none) (some (.exit 0,QmQ y2 y3_0 y3_1 y3_2 y3_4 y3_8 y9 y12 y15 Zj))
def QeF (x21:List Aj)(x22 x23:Int)(y2:Ac)(y3_0:ByteArray)(y3_1 y3_2:Int)(y3_4 y3_8:Bool)(y9 y12 y15:List Int)(Zj:List Aj):OX:=some (.exit 0,QmQ (y2) (y3_0) (y3_1) (y3_2) (y3_4) (y3_8) (y9) (y12) (y15) (Zj++x21.drop x23.toNat))
theorem Qxs (x21 x22 x23 y2 y3_0 y3_1 y3_2 y3_4 y3_8 y9 y12 y15 Zj):QeE x21 x22 x23 y2 y3_0 y3_1 y3_2 y3_4 y3_8 y9 y12 y15 Zj=Qaq QeE x21 x22 x23 y2 y3_0 y3_1 y3_2 y3_4 y3_8 y9 y12 y15 Zj:=lnT (x:=Qaq (fun x21 x22 x23 y2 y3_0 y3_1 y3_2 y3_4 y3_8 y9 y12 y15 Zj=>some (.normal,Qxr x21 x22 x23 y2 y3_0 y3_1 y3_2 y3_4 y3_8 y9 y12 y15 Zj)) x21 x22 x23 y2 y3_0 y3_1 y3_2 y3_4 y3_8 y9 y12 y15 Zj) (by simp only [Qaq,nxA];rfl)
def QeG (p0:Ac):OV:=br (Qt ([]:List Int) p0.2.2.2.2.2.2.2.1 8) (br (Qw p0.2.2.2.2.2.1 (Qb p0.2.2.2.2.2.1) (0:Int)&&(p0.2.2.2.2.2.1.all Jn&&decide (([]:List Aj).length<=(0:Int)))) (some (.t Qp ((p0.1),((p0.2.1),((p0.2.2.1),((([]:List Int)++p0.2.2.2.1),((p0.2.2.2.2.1),((([]:List Aj)++p0.2.2.2.2.2.1.drop (0:Int).toNat),((([]:List Int)++p0.2.2.2.2.2.2.1),((([]:List Int)++p0.2.2.2.2.2.2.2.1),((p0.2.2.2.2.2.2.2.2.1),()))))))))),[])) none) none
def Qxt (p0:Ac):OV:=
 let a1:=(Qt ([]:List Int) p0.2.2.2.2.2.2.1 8)
 br (Qt ([]:List Int) p0.2.2.2.1 8) (frk (br a1 (frk (QeG p0) (QeG p0)) none) (br a1 (QeG p0) none)) none
theorem QOC (x21:List Aj)(x22 x23:Int)(y2:Ac)(y3_0:ByteArray)(y3_1 y3_2:Int)(y3_4 y3_8:Bool)(y9 y12 y15:List Int)(Zj:List Aj)(h:(Qw x21 x22 x23&&(x21.all Jn&&decide (Zj.length<=x23)))=true):QeE x21 x22 x23 y2 y3_0 y3_1 y3_2 y3_4 y3_8 y9 y12 y15 Zj=QeF x21 x22 x23 y2 y3_0 y3_1 y3_2 y3_4 y3_8 y9 y12 y15 Zj:=by
 simp only [Bd,Ba] at h
 obtain ⟨h0,hc,hl⟩:=h
 obtain ⟨rfl,h3,k,rfl,hk⟩:=Jv h0
 clear h0
 revert Zj
 refine QP x21 (fun k=> ∀ (Zj:List Aj),(Zj.length:Int)<=(k:Int)->QeE x21 (x21.length:Int) (k:Int) y2 y3_0 y3_1 y3_2 y3_4 y3_8 y9 y12 y15 Zj=QeF x21 (x21.length:Int) (k:Int) y2 y3_0 y3_1 y3_2 y3_4 y3_8 y9 y12 y15 Zj) ?_ ?_ k hk
 ·intro Zj _
  rw [Qxs]
  simp only [Qaq,QeF,Qv,BK,BP,Qh,Bb,BF,BH]
 ·intro k hk ih Zj hl
  rw [Qxs]
  have c1:Jn x21[k]=true:=Bi.1 hc _ (BC hk)
  simp only [Qaq,Qv,QM,hk,Bu,Qd,Bb,QO (k:=k),QN (y:=Q2) hk,c1]
  refine brY (QX (by omega) (by simp only [Bh];omega)) ?_
  refine Eq.trans (ih (Zj++[x21[k]]) (by simp only [Bj,Bh];omega)) ?_
  simp only [QeF,Bb,Bg hk,BG,BD]
theorem QOD:LO QmR QmP Qxq 0:=QC (s:=QeD) fun x y h _ q=>by simp only [QA,QB] at q;exact (QOC x.2.2.1 x.2.2.2.1 x.2.2.2.2.1 y.1 y.2.1.1 y.2.1.2.1 y.2.1.2.2.1 y.2.1.2.2.2.2.1 y.2.1.2.2.2.2.2.2.2.2.1 y.2.2.1 y.2.2.2.1 y.2.2.2.2.1 y.2.2.2.2.2.2.2.1 h).trans q
theorem s_f130 (x)(h:QY x=true):Qxt x=some (.t Qp (Zf x),[]):=by
 obtain ⟨_,h1,h2,h3,h4,h5⟩:=Gc h
 have c1:Qt ([]:List Int) (QI x) 8=true:=QX (by decide) (by simp only [Bv];omega)
 have c2:Qt ([]:List Int) (Ji x) 8=true:=QX (by decide) (by simp only [Bv];omega)
 have c3:Qt ([]:List Int) (Jk x) 8=true:=QX (by decide) (by simp only [Bv];omega)
 simp only [Qxt,QeG,JG,JG]
 refine brY c1 (brY c2 (brY c3 (brY ?_ rfl)))
 rw [Jw h2,h5,By,By]
 exact Bc (BY _)
def QmS:Ent:=Qm (.pr Qp .nil) (fun x=>(QY x.1)) (fun x=>(.t Qp (Zf x.1)))
theorem Qxu:EM 130 QmS:=mS (lk:=lkL (lkc QOD lkn)) QmR Qxp [((.c 2 true 9),some Qp)] false (gB (gD Qxo gN)) fun m=>Qq m fun x hok=>kT (s_f130 x.1 hok)
def Ub (x:Ad):Ad:=x
def Ec (i:Ag):Bool:=decide (i.2.2.2.1.length<=1000)
def QeH (x:Ad):Bool:=Jh x&&(Z4 x).all Ec
abbrev QeI:Sh:=⟨[(1,.ptr 1 0),(2,.ptr 2 0),(3,.ptr 3 0),(13,.ty (.sl Qp)),(14,.ty tI),(15,.ty tI)],[(1,.box Qo),(2,.box Qo),(3,.bag [.ms 20300,.ms 10,.ms 20302]),(10,.arr 85 Qe),(24,.no),(42,.no),(20300,.arr 82 Qp),(20302,.arr 88 Jf)]⟩
abbrev QOE:Sh:=⟨[(1,.ptr 1 0),(2,.ptr 2 0),(3,.ptr 3 0)],[(1,.box Qo),(2,.box Qo),(3,.bag [.ms 20300,.ms 10,.ms 20302]),(10,.arr 85 Qe),(24,.no),(42,.no),(20300,.arr 82 Qp),(20302,.arr 88 Jf)]⟩
abbrev QeJ:Sh:=⟨[(2,.ptr 2 0),(3,.ptr 3 0),(28,.ty (.sl Jf)),(29,.ty tI),(30,.ty tI)],[(2,.box Qo),(3,.bag [.ms 20300,.ms 10,.ms 20302]),(10,.arr 85 Qe),(24,.no),(42,.no),(20300,.arr 82 Qp),(20302,.arr 88 Jf)]⟩
abbrev QOF:Sh:=⟨[(2,.ptr 2 0),(3,.ptr 3 0)],[(2,.box Qo),(3,.bag [.ms 20300,.ms 10,.ms 20302]),(10,.arr 85 Qe),(24,.no),(42,.no),(20300,.arr 82 Qp),(20302,.arr 88 Jf)]⟩
def QmT:Fg:=QeI.f
def QmU:Fg:=QeJ.f
def QmV:TC:=aF Tryz.f84 [(58,.nf 3 2 88 20302),(58,.nf 3 0 82 20300),(58,pL 0 QmT),(933,.fg ⟨[(1,none),(2,none),(3,none)],[(1,some Qo),(2,some Qo),(3,some Qo),(10,none),(24,none),(42,none),(20300,none),(20302,none)]⟩),(3737,pE [[3,10,24,42,20300,20302],[3,10,24,42,20300,20302],[5],[],[],[2,3,10,24,42,5024,10024,15024,20300,20302],[3,10,24,42,20300,20302],[2,3,10,24,42,20300,20302]] (oN 8)),(122,.nf 3 0 82 20300),(122,.nf 3 2 88 20302),(122,.nf 7 3 122 20703),(122,pL 1 QmU),(1957,.fg ⟨[(2,none),(3,none)],[(2,some Qo),(3,some Qo),(10,none),(24,none),(42,none),(20300,none),(20302,none)]⟩)]
def Qxv:TC:=lb 0 QmV
def Qxw:TC:=lb 1 QmV
def Qxx (x13:List Ac)(x14 x15:Int)(y1 y2:Ad)(y10:List Aa)(Qf:List Ac)(Qk:List Ag):VS:=QeI.st ((),(),(),x13,x14,x15,()) (y1,y2,((),(),(),()),y10,(),(),Qf,Qk,())
def QmW (y1 y2:Ad)(y10:List Aa)(Qf:List Ac)(Qk:List Ag):VS:=QOE.st ((),(),(),()) (y1,y2,((),(),(),()),y10,(),(),Qf,Qk,())
def Qxy (x28:List Ag)(x29 x30:Int)(y2:Ad)(y10:List Aa)(Qf:List Ac)(Qk:List Ag):VS:=QeJ.st ((),(),x28,x29,x30,()) (y2,((),(),(),()),y10,(),(),Qf,Qk,())
def QmX (y2:Ad)(y10:List Aa)(Qf:List Ac)(Qk:List Ag):VS:=QOF.st ((),(),()) (y2,((),(),(),()),y10,(),(),Qf,Qk,())
def QOG:VS->Option (Bool×List (Bool×Exit×VS)):=mkL QeI (fun x y=>(Qw x.2.2.2.1 x.2.2.2.2.1 x.2.2.2.2.2.1&&(x.2.2.2.1.all QY&&decide (y.2.2.2.2.2.2.1.length<=x.2.2.2.2.2.1)))) (fun x y=>[(true,.exit 0,QmW (y.1) (y.2.1) (y.2.2.2.1) (y.2.2.2.2.2.2.1++x.2.2.2.1.drop x.2.2.2.2.2.1.toNat) (y.2.2.2.2.2.2.2.1))])
def QOH:VS->Option (Bool×List (Bool×Exit×VS)):=mkL QeJ (fun x y=>(Qw x.2.2.1 x.2.2.2.1 x.2.2.2.2.1&&(x.2.2.1.all Ec&&decide (y.2.2.2.2.2.2.1.length<=x.2.2.2.2.1)))) (fun x y=>[(true,.exit 2,QmX (y.1) (y.2.2.1) (y.2.2.2.2.2.1) (y.2.2.2.2.2.2.1++x.2.2.1.drop x.2.2.2.2.1.toNat))])
def Qar:G:=gG 46 [(130,QmS)] (Ls [QOG,QOH])
def QeK (x13:List Ac)(x14 x15:Int)(y1 y2:Ad)(y10:List Aa)(Qf:List Ac)(Qk:List Ag):OX:=Qu (Qx Qar QmT Qxv) (Qxx x13 x14 x15 y1 y2 y10 Qf Qk)
def Qas (kk:List Ac->Int->Int->Ad->Ad->List Aa->List Ac->List Ag->OX)(x13:List Ac)(x14 x15:Int)(y1 y2:Ad)(y10:List Aa)(Qf:List Ac)(Qk:List Ag):OX:=
 let a1:=Zf (lgt Qp x13 (Int.toNat x15))
 let a2:=((a1.2).1,(((a1.2).2).1,((((a1.2).2).2).1,(((((a1.2).2).2).2).1,((((((a1.2).2).2).2).2).1,(((((((a1.2).2).2).2).2).2).1,((((((((a1.2).2).2).2).2).2).2).1,(((((((((a1.2).2).2).2).2).2).2).2).1,()))))))))
 br (ilt x15 x14) (br (cIx x13 x15) (br (QY (lgt Qp x13 (Int.toNat x15))) (br (Qt Qf ([(a1.1,a2)]) 144) (kk x13 x14 (Qi .i64 x15 1) y1 y2 y10 (Qf++([(a1.1,a2)])) Qk) none) none) none) (some (.exit 0,QmW y1 y2 y10 Qf Qk))
def QeL (x13:List Ac)(x14 x15:Int)(y1 y2:Ad)(y10:List Aa)(Qf:List Ac)(Qk:List Ag):OX:=some (.exit 0,QmW (y1) (y2) (y10) (Qf++x13.drop x15.toNat) (Qk))
theorem Qxz (x13 x14 x15 y1 y2 y10 Qf Qk):QeK x13 x14 x15 y1 y2 y10 Qf Qk=Qas QeK x13 x14 x15 y1 y2 y10 Qf Qk:=lnT (x:=Qas (fun x13 x14 x15 y1 y2 y10 Qf Qk=>some (.normal,Qxx x13 x14 x15 y1 y2 y10 Qf Qk)) x13 x14 x15 y1 y2 y10 Qf Qk) (by simp only [Qas,nxA];rfl)
def QeM (x28:List Ag)(x29 x30:Int)(y2:Ad)(y10:List Aa)(Qf:List Ac)(Qk:List Ag):OX:=Qu (Qx Qar QmU Qxw) (Qxy x28 x29 x30 y2 y10 Qf Qk)
def Qat (kk:List Ag->Int->Int->Ad->List Aa->List Ac->List Ag->OX)(x28:List Ag)(x29 x30:Int)(y2:Ad)(y10:List Aa)(Qf:List Ac)(Qk:List Ag):OX:=
 let a1:=lgt Jf x28 (Int.toNat x30)
 let a2:=(((a1.2).2).2)
 br (ilt x30 x29) (br (cIx x28 x30) (br (Qt ([]:List Ap) (a2.1) 24) (br (Qt Qk ([(a1.1,((a1.2).1,(((a1.2).2).1,((([]:List Ap)++(a2.1)),((a2.2).1,())))))]) 64) (kk x28 x29 (Qi .i64 x30 1) y2 y10 Qf (Qk++([(a1.1,((a1.2).1,(((a1.2).2).1,((([]:List Ap)++(a2.1)),((a2.2).1,())))))]))) none) none) none) (some (.exit 2,QmX y2 y10 Qf Qk))
def QeN (x28:List Ag)(x29 x30:Int)(y2:Ad)(y10:List Aa)(Qf:List Ac)(Qk:List Ag):OX:=some (.exit 2,QmX (y2) (y10) (Qf) (Qk++x28.drop x30.toNat))
theorem QxA (x28 x29 x30 y2 y10 Qf Qk):QeM x28 x29 x30 y2 y10 Qf Qk=Qat QeM x28 x29 x30 y2 y10 Qf Qk:=lnT (x:=Qat (fun x28 x29 x30 y2 y10 Qf Qk=>some (.normal,Qxy x28 x29 x30 y2 y10 Qf Qk)) x28 x29 x30 y2 y10 Qf Qk) (by simp only [Qat,nxA];rfl)
def r_f84 (p0:Ad):OV:=
 let a1:=((((p0).2).2).1)
 br (Qt ([]:List Aa) p0.2.1 16) (br (Qw p0.1 (Qb p0.1) (0:Int)&&(p0.1.all QY&&decide (([]:List Ac).length<=(0:Int)))) (br (Qw a1 (Qb a1) (0:Int)&&(a1.all Ec&&decide (([]:List Ag).length<=(0:Int)))) (some (.ag [(.ms 50000),(.ms 50001),(.ms 50002)],[.arr 82 Qp (([]:List Ac)++p0.1.drop (0:Int).toNat),.arr 85 Qe (([]:List Aa)++p0.2.1),.arr 88 Jf (([]:List Ag)++a1.drop (0:Int).toNat)])) none) none) none
theorem QOI (x13:List Ac)(x14 x15:Int)(y1 y2:Ad)(y10:List Aa)(Qf:List Ac)(Qk:List Ag)(h:(Qw x13 x14 x15&&(x13.all QY&&decide (Qf.length<=x15)))=true):QeK x13 x14 x15 y1 y2 y10 Qf Qk=QeL x13 x14 x15 y1 y2 y10 Qf Qk:=by
 simp only [Bd,Ba] at h
 obtain ⟨h0,hc,hl⟩:=h
 obtain ⟨rfl,h3,k,rfl,hk⟩:=Jv h0
 clear h0
 revert Qf
 refine QP x13 (fun k=> ∀ (Qf:List Ac),(Qf.length:Int)<=(k:Int)->QeK x13 (x13.length:Int) (k:Int) y1 y2 y10 Qf Qk=QeL x13 (x13.length:Int) (k:Int) y1 y2 y10 Qf Qk) ?_ ?_ k hk
 ·intro Qf _
  rw [Qxz]
  simp only [Qas,QeL,Qv,BK,BP,Qh,Bb,BF,BH]
 ·intro k hk ih Qf hl
  rw [Qxz]
  have c1:QY x13[k]=true:=Bi.1 hc _ (BC hk)
  simp only [Qas,Qv,QM,hk,Bu,Qd,Bb,QO (k:=k),QN (y:=Qp) hk,c1]
  refine brY (QX (by omega) (by simp only [Bh];omega)) ?_
  refine Eq.trans (ih (Qf++[x13[k]]) (by simp only [Bj,Bh];omega)) ?_
  simp only [QeL,Bb,Bg hk,BG,BD]
theorem QOJ (x28:List Ag)(x29 x30:Int)(y2:Ad)(y10:List Aa)(Qf:List Ac)(Qk:List Ag)(h:(Qw x28 x29 x30&&(x28.all Ec&&decide (Qk.length<=x30)))=true):QeM x28 x29 x30 y2 y10 Qf Qk=QeN x28 x29 x30 y2 y10 Qf Qk:=by
 simp only [Bd,Ba] at h
 obtain ⟨h0,hc,hl⟩:=h
 obtain ⟨rfl,h3,k,rfl,hk⟩:=Jv h0
 clear h0
 revert Qk
 refine QP x28 (fun k=> ∀ (Qk:List Ag),(Qk.length:Int)<=(k:Int)->QeM x28 (x28.length:Int) (k:Int) y2 y10 Qf Qk=QeN x28 (x28.length:Int) (k:Int) y2 y10 Qf Qk) ?_ ?_ k hk
 ·intro Qk _
  rw [QxA]
  simp only [Qat,QeN,Qv,BK,BP,Qh,Bb,BF,BH]
 ·intro k hk ih Qk hl
  rw [QxA]
  have c1:x28[k].2.2.2.1.length<=1000:=Bw (Bi.1 hc _ (BC hk))
  simp only [Qat,Qv,QM,hk,Bu,Qd,Bb,QO (k:=k),QN (y:=Jf) hk]
  refine brY (QX (by decide) (by simp only [Bv];omega)) (brY (QX (by omega) (by simp only [Bh];omega)) ?_)
  refine Eq.trans (ih (Qk++[x28[k]]) (by simp only [Bj,Bh];omega)) ?_
  simp only [QeN,Bb,Bg hk,BG,BD]
theorem QOK:LO Qar QmT Qxv 0:=QC (s:=QeI) fun x y h _ q=>by simp only [QA,QB] at q;exact (QOI x.2.2.2.1 x.2.2.2.2.1 x.2.2.2.2.2.1 y.1 y.2.1 y.2.2.2.1 y.2.2.2.2.2.2.1 y.2.2.2.2.2.2.2.1 h).trans q
theorem QOL:LO Qar QmU Qxw 1:=QC (s:=QeJ) fun x y h _ q=>by simp only [QA,QB] at q;exact (QOJ x.2.2.1 x.2.2.2.1 x.2.2.2.2.1 y.1 y.2.2.1 y.2.2.2.2.2.1 y.2.2.2.2.2.2.1 h).trans q
theorem s_f84 (x)(h:QeH x=true):r_f84 x=some (.ag [.ms 50000,.ms 50001,.ms 50002],[.arr 82 Qp (Ub x).1,.arr 85 Qe (Ub x).2.1,.arr 88 Jf (Ub x).2.2.1]):=by
 obtain ⟨h,h6⟩:=Bf.1 h
 simp only [Jh,Bd,Ba] at h
 obtain ⟨⟨h1,h2⟩,h3,h4⟩:=h
 have h5:=QG1 h4
 unfold r_f84
 have hx:x.2.1.length<=99999:=h2
 refine brY (QX (by decide) (by simp only [Bv];omega)) (brY ?_ (brY ?_ rfl))
 ·rw [Jw (show (QT x).length<=100000 by omega),h3,By,By]
  exact Bc (BY _)
 ·rw [Jw h5,h6,By,By]
  exact Bc (BY _)
def QxB:Ent:=UQ (.pr Qo .nil) (fun x=>(QeH x.1)) (fun x=>(.ag [(.ms 50000),(.ms 50001),(.ms 50002)])) (fun x=>[.arr 82 Qp ((Ub x.1).1),.arr 85 Qe (((Ub x.1).2).1),.arr 88 Jf ((((Ub x.1).2).2).1)])
theorem ms_f84:EM 84 QxB:=mS (lk:=lkL (lkc QOK (lkc QOL lkn))) Qar QmV [((.c 2 true 3),none)] true (gB (gD Qxu gN)) fun m=>QgW m fun x hok=>kT (s_f84 x.1 hok)
theorem brF {c v:Bool}{X:OV}(h:X=some (.t .bool v,[])):br c (some (.t .bool false,[])) X=some (.t .bool (!c&&v),[]):=by
 subst h
 cases c<;>rfl
def Gs (a b:List ByteArray)(k:Nat):Bool:=(List.range' k (a.length-k)).all fun j=> !sne (a.getD j ByteArray.empty) (b.getD j ByteArray.empty)
def Ep (a b:Af):Bool:=
 !ine a.1 b.1&&(!sne a.2.1 b.2.1&&(!sne a.2.2.1 b.2.2.1&&(!(!(and (ieq a.2.2.2.1.1 b.2.2.2.1.1) (and (ieq a.2.2.2.1.2.1 b.2.2.2.1.2.1) true)))&&(!ine a.2.2.2.2.1 b.2.2.2.2.1&&(!(!(and (ieq a.2.2.2.2.2.1.1 b.2.2.2.2.2.1.1) (and (ieq a.2.2.2.2.2.1.2.1 b.2.2.2.2.2.1.2.1) true)))&&
 (!ine a.2.2.2.2.2.2.1 b.2.2.2.2.2.2.1&&(!ine a.2.2.2.2.2.2.2.1 b.2.2.2.2.2.2.2.1&&(!Ox a.2.2.2.2.2.2.2.2.1 b.2.2.2.2.2.2.2.2.1&&(!ine a.2.2.2.2.2.2.2.2.2.1 b.2.2.2.2.2.2.2.2.2.1&&(!(!(and (ieq a.2.2.2.2.2.2.2.2.2.2.2.1.1 b.2.2.2.2.2.2.2.2.2.2.2.1.1) (and (ieq a.2.2.2.2.2.2.2.2.2.2.2.1.2.1 b.2.2.2.2.2.2.2.2.2.2.2.1.2.1) true)))&&
 (!ine (Qb (QL a)) (Qb (QL b))&&Gs (QL a) (QL b) 0)))))))))))
def Qgu (a _b:Af):Bool:=decide ((QL a).length<=100000)
abbrev Qgv:Sh:=⟨[(2,.ptr 2 0),(3,.ptr 3 0),(92,.ty tI),(93,.ty tI)],[(2,.box QW),(3,.box QW)]⟩
abbrev QoM:Sh:=⟨[(4,.ty .bool)],[]⟩
abbrev Ol:Sh:=⟨[],[]⟩
def QoN:Fg:=Qgv.f
def QA7:TC:=aF Tryz.f217 [(58,pL 0 QoN),(933,.fg Ol.f),(7474,pE [[2],[2],[],[],[],[3],[3],[],[],[],[]] (oN 11)),(29901,.fg QoM.f)]
def QA8:TC:=lb 0 QA7
def QA9 (x92 x93:Int)(y2 y3:Af):VS:=Qgv.st ((),(),x92,x93,()) (y2,y3,())
def Om (x4:Bool):VS:=QoM.st (x4,()) ()
def QoO  : VS:=Ol.st () ()
def QRP:VS->Option (Bool×List (Bool×Exit×VS)):=mkL Qgv (fun x y=>(decide (x.2.2.1=(QL y.1).length/\0<=x.2.2.2.1/\x.2.2.2.1<=x.2.2.1/\(QL y.1).length=(QL y.2.1).length/\x.2.2.1<=100000))) (fun x y=>[((!Gs (QL y.1) (QL y.2.1) x.2.2.2.1.toNat),.ret,Om (false)),(true,.exit 0,QoO)])
def QoP:G:=gG 108 [] (Ls [QRP])
def Qgw (x92 x93:Int)(y2 y3:Af):OX:=Qu (Qx QoP QoN QA8) (QA9 x92 x93 y2 y3)
def Qbj (kk:Int->Int->Af->Af->OX)(x92 x93:Int)(y2 y3:Af):OX:=br (ilt x93 x92) (br (cIx y2.2.2.2.2.2.2.2.2.2.2.1 x93) (br (cIx y3.2.2.2.2.2.2.2.2.2.2.1 x93) (br (sne (lgt .str y2.2.2.2.2.2.2.2.2.2.2.1 (Int.toNat x93)) (lgt .str y3.2.2.2.2.2.2.2.2.2.2.1 (Int.toNat x93))) (some (.ret,Om false)) (kk x92 (Qi .i64 x93 1) y2 y3)) none) none) (some (.exit 0,QoO))
def Qgx (x92 x93:Int)(y2 y3:Af):OX:=br (!Gs (QL y2) (QL y3) x93.toNat) (some (.ret,Om (false)))<|some (.exit 0,QoO)
theorem QBa (x92 x93 y2 y3):Qgw x92 x93 y2 y3=Qbj Qgw x92 x93 y2 y3:=lnT (x:=Qbj (fun x92 x93 y2 y3=>some (.normal,QA9 x92 x93 y2 y3)) x92 x93 y2 y3) (by simp only [Qbj,nxA];rfl)
def QBb (p0 p1:Af):OV:=
 let a1:=Qb p0.2.2.2.2.2.2.2.2.2.2.1
 br (ine p0.1 p1.1) (some (.t .bool false,[])) (br (sne p0.2.1 p1.2.1) (some (.t .bool false,[])) (br (sne p0.2.2.1 p1.2.2.1) (some (.t .bool false,[])) (br (!(and (ieq p0.2.2.2.1.1 p1.2.2.2.1.1) (and (ieq p0.2.2.2.1.2.1 p1.2.2.2.1.2.1) true))) (some (.t .bool false,[])) (br (ine p0.2.2.2.2.1 p1.2.2.2.2.1) (some (.t .bool false,[])) (br (!(and (ieq p0.2.2.2.2.2.1.1 p1.2.2.2.2.2.1.1) (and (ieq p0.2.2.2.2.2.1.2.1 p1.2.2.2.2.2.1.2.1) true))) (some (.t .bool false,[])) (br (ine p0.2.2.2.2.2.2.1 p1.2.2.2.2.2.2.1) (some (.t .bool false,[])) (br (ine p0.2.2.2.2.2.2.2.1 p1.2.2.2.2.2.2.2.1) (some (.t .bool false,[])) (br (Ox p0.2.2.2.2.2.2.2.2.1 p1.2.2.2.2.2.2.2.2.1) (some (.t .bool false,[])) (br (ine p0.2.2.2.2.2.2.2.2.2.1 p1.2.2.2.2.2.2.2.2.2.1) (some (.t .bool false,[])) (br (!(and (ieq p0.2.2.2.2.2.2.2.2.2.2.2.1.1 p1.2.2.2.2.2.2.2.2.2.2.2.1.1) (and (ieq p0.2.2.2.2.2.2.2.2.2.2.2.1.2.1 p1.2.2.2.2.2.2.2.2.2.2.2.1.2.1) true))) (some (.t .bool false,[])) (br (ine a1 (Qb p1.2.2.2.2.2.2.2.2.2.2.1)) (some (.t .bool false,[])) (br (decide (a1=(QL p0).length/\0<=(0:Int)/\(0:Int)<=a1/\(QL p0).length=(QL p1).length/\a1<=100000)) (br (!Gs (QL p0) (QL p1) (0:Int).toNat) (some (.t .bool (false),[])) (some (.t .bool true,[]))) none))))))))))))
theorem QRQ (x92 x93:Int)(y2 y3:Af)(h:(decide (x92=(QL y2).length/\0<=x93/\x93<=x92/\(QL y2).length=(QL y3).length/\x92<=100000))=true):Qgw x92 x93 y2 y3=Qgx x92 x93 y2 y3:=by
 obtain ⟨rfl,h0,h1,h2,h3⟩:=Bw h
 obtain ⟨k,rfl⟩:=Bm h0
 refine QP (QL y2) (fun k=>Qgw ((QL y2).length:Int) (k:Int) y2 y3=Qgx ((QL y2).length:Int) (k:Int) y2 y3) ?_ ?_ k (by omega)
 ·rw [QBa]
  simp only [Qbj,Qgx,Qv,BK,BP,Qh,Bb,Gs,D0]
  rfl
 ·intro k hk ih
  rw [QBa]
  have hk2:k<(QL y3).length:=by omega
  have e1:cIx (QL y2) (k:Int)=true:=by rw [QM];exact Bc hk
  have e2:cIx (QL y3) (k:Int)=true:=by rw [QM];exact Bc hk2
  have hs:Gs (QL y2) (QL y3) k=(!sne ((QL y2).getD k ByteArray.empty) ((QL y3).getD k ByteArray.empty)&&Gs (QL y2) (QL y3) (k+1)):=by
   have:(QL y2).length-k=((QL y2).length-(k+1))+1:=by omega
   unfold Gs
   rw [this,Dr,B2]
  simp only [Qbj,Qv,hk,Bu,Qd,Bb,QO (k:=k),ih]
  refine brY e1 (brY e2 ?_)
  simp only [Qgx,Bb,hs]
  show br (sne ((QL y2).getD k ByteArray.empty) ((QL y3).getD k ByteArray.empty)) _ _=_
  cases sne ((QL y2).getD k ByteArray.empty) ((QL y3).getD k ByteArray.empty)<;>rfl
theorem QRR:LO QoP QoN QA8 0:=QC (s:=Qgv) fun x y h _ q=>by simp only [QA,QB] at q;exact (QRQ x.2.2.1 x.2.2.2.1 y.1 y.2.1 h).trans q
theorem s_f217 (a b)(h:Qgu a b=true):QBb a b=some (.t .bool (Ep a b),[]):=by
 have h:(QL a).length<=100000:=Bw h
 unfold QBb
 refine brF (brF (brF (brF (brF (brF (brF (brF (brF (brF (brF ?_))))))))))
 refine Q1 (fun g=> ?_) (fun g=> ?_)
 ·have g:ine (Qb (QL a)) (Qb (QL b))=true:=g
  rw [g]
  rfl
 ·have g:ine (Qb (QL a)) (Qb (QL b))=false:=g
  rw [g]
  have gl:(QL a).length=(QL b).length:=by
   simp only [ine,Qb,DM] at g
   omega
  refine brY (Bc ⟨rfl,BY _,by simp only [Qb];omega,gl,by show ((QL a).length:Int)<=100000;omega⟩) ?_
  rw [Bt]
  cases Gs (QL a) (QL b) 0<;>rfl
def QBc:Ent:=Qm (.pr QW (.pr QW .nil)) (fun x=>(Qgu x.1 x.2.1)) (fun x=>(.t .bool (Ep x.1 x.2.1)))
theorem QRS:EM 217 QBc:=mS (lk:=lkL (lkc QRR lkn)) QoP QA7 [((.t 4),some .bool)] false (gB gN) fun m=>Qq m fun x hok=>kT (s_f217 x.1 x.2.1 hok)
def Gt (a b:List Af)(k:Nat):Bool:=(List.range' k (a.length-k)).all fun j=>Ep (cAt a j) (cAt b j)
def Fi (a b:Aj):Bool:= !(!(and (ieq a.1.1 b.1.1) (and (ieq a.1.2.1 b.1.2.1) true)))&&(!ine a.2.1 b.2.1&&(!ine (Qb a.2.2.1) (Qb b.2.2.1)&&Gt a.2.2.1 b.2.2.1 0))
def QoQ (a b:Aj):Bool:=Jn a&&Jn b
abbrev Qgy:Sh:=⟨[(2,.ptr 2 0),(3,.ptr 3 0),(29,.ty tI),(30,.ty tI)],[(2,.box Q2),(3,.box Q2)]⟩
def QoR:Fg:=Qgy.f
def QBd:TC:=aF Tryz.f201 [(58,pL 0 QoR),(933,.fg Ol.f),(7474,pE [[2],[2],[],[],[],[3],[3],[],[],[],[],[]] (oN 12)),(29901,.fg QoM.f)]
def QBe:TC:=lb 0 QBd
def QBf (x29 x30:Int)(y2 y3:Aj):VS:=Qgy.st ((),(),x29,x30,()) (y2,y3,())
def QoS  : VS:=Ol.st () ()
def QRT:VS->Option (Bool×List (Bool×Exit×VS)):=mkL Qgy (fun x y=>(decide (x.2.2.1=y.1.2.2.1.length/\0<=x.2.2.2.1/\x.2.2.2.1<=x.2.2.1/\y.1.2.2.1.length=y.2.1.2.2.1.length/\x.2.2.1<=100000)&&(JN y.1.2.2.1&&JN y.2.1.2.2.1))) (fun x y=>[((!Gt y.1.2.2.1 y.2.1.2.2.1 x.2.2.2.1.toNat),.ret,Om (false)),(true,.exit 0,QoS)])
def QoT:G:=gG 46 [(217,QBc)] (Ls [QRT])
def Qgz (x29 x30:Int)(y2 y3:Aj):OX:=Qu (Qx QoT QoR QBe) (QBf x29 x30 y2 y3)
def Qbk (kk:Int->Int->Aj->Aj->OX)(x29 x30:Int)(y2 y3:Aj):OX:=
 let a1:=lgt QW y2.2.2.1 (Int.toNat x30)
 let a2:=lgt QW y3.2.2.1 (Int.toNat x30)
 br (ilt x30 x29) (br (cIx y2.2.2.1 x30) (br (cIx y3.2.2.1 x30) (br (Qgu a1 a2) (br (!(Ep a1 a2)) (some (.ret,Om false)) (kk x29 (Qi .i64 x30 1) y2 y3)) none) none) none) (some (.exit 0,QoS))
def QgA (x29 x30:Int)(y2 y3:Aj):OX:=br (!Gt y2.2.2.1 y3.2.2.1 x30.toNat) (some (.ret,Om (false)))<|some (.exit 0,QoS)
theorem QBg (x29 x30 y2 y3):Qgz x29 x30 y2 y3=Qbk Qgz x29 x30 y2 y3:=lnT (x:=Qbk (fun x29 x30 y2 y3=>some (.normal,QBf x29 x30 y2 y3)) x29 x30 y2 y3) (by simp only [Qbk,nxA];rfl)
def QBh (p0 p1:Aj):OV:=
 let a1:=Qb p0.2.2.1
 br (!(and (ieq p0.1.1 p1.1.1) (and (ieq p0.1.2.1 p1.1.2.1) true))) (some (.t .bool false,[])) (br (ine p0.2.1 p1.2.1) (some (.t .bool false,[])) (br (ine a1 (Qb p1.2.2.1)) (some (.t .bool false,[])) (br (decide (a1=p0.2.2.1.length/\0<=(0:Int)/\(0:Int)<=a1/\p0.2.2.1.length=p1.2.2.1.length/\a1<=100000)&&(JN p0.2.2.1&&JN p1.2.2.1)) (br (!Gt p0.2.2.1 p1.2.2.1 (0:Int).toNat) (some (.t .bool (false),[])) (some (.t .bool true,[]))) none)))
theorem QRU (x29 x30:Int)(y2 y3:Aj)(h:(decide (x29=y2.2.2.1.length/\0<=x30/\x30<=x29/\y2.2.2.1.length=y3.2.2.1.length/\x29<=100000)&&(JN y2.2.2.1&&JN y3.2.2.1))=true):Qgz x29 x30 y2 y3=QgA x29 x30 y2 y3:=by
 simp only [Bd,Ba] at h
 obtain ⟨⟨rfl,h0,h1,h2,h3⟩,hc,hc2⟩:=h
 obtain ⟨k,rfl⟩:=Bm h0
 refine QP y2.2.2.1 (fun k=>Qgz (y2.2.2.1.length:Int) (k:Int) y2 y3=QgA (y2.2.2.1.length:Int) (k:Int) y2 y3) ?_ ?_ k (by omega)
 ·rw [QBg]
  simp only [Qbk,QgA,Qv,BK,BP,Qh,Bb,Gt,D0]
  rfl
 ·intro k hk ih
  rw [QBg]
  have hk2:k<y3.2.2.1.length:=by omega
  have hs:Gt y2.2.2.1 y3.2.2.1 k=(Ep (cAt y2.2.2.1 k) (cAt y3.2.2.1 k)&&Gt y2.2.2.1 y3.2.2.1 (k+1)):=by
   have:y2.2.2.1.length-k=(y2.2.2.1.length-(k+1))+1:=by omega
   unfold Gt
   rw [this,Dr,B2]
  have hq:Qgu (cAt y2.2.2.1 k) (cAt y3.2.2.1 k)=true:=by
   rw [QVI hk]
   exact Bc (Qqe (QFJ hc hk))
  simp only [Qbk,Qv,QM,hk,hk2,Bu,Qd,Bb,QO (k:=k),ih]
  refine brY hq ?_
  simp only [QgA,Bb,hs]
  show br (!Ep (cAt y2.2.2.1 k) (cAt y3.2.2.1 k)) _ _=_
  cases Ep (cAt y2.2.2.1 k) (cAt y3.2.2.1 k)<;>rfl
theorem QRV:LO QoT QoR QBe 0:=QC (s:=Qgy) fun x y h _ q=>by simp only [QA,QB] at q;exact (QRU x.2.2.1 x.2.2.2.1 y.1 y.2.1 h).trans q
theorem s_f201 (a b)(h:QoQ a b=true):QBh a b=some (.t .bool (Fi a b),[]):=by
 obtain ⟨ha,hb⟩:=Bf.1 h
 have ha:JN a.2.2.1=true:=ha
 have hb:JN b.2.2.1=true:=hb
 have hl:=QFK ha
 unfold QBh
 refine brF (brF ?_)
 refine Q1 (fun g=> ?_) (fun g=> ?_)
 ·rw [g]
  rfl
 ·rw [g]
  have gl:a.2.2.1.length=b.2.2.1.length:=by
   simp only [ine,Qb,DM] at g
   omega
  refine brY ?_ ?_
  ·rw [ha,hb,Bc ⟨rfl,BY _,by simp only [Qb];omega,gl,by simp only [Qb];omega⟩]
   rfl
  ·rw [Bt]
   cases Gt a.2.2.1 b.2.2.1 0<;>rfl
def QBi:Ent:=Qm (.pr Q2 (.pr Q2 .nil)) (fun x=>(QoQ x.1 x.2.1)) (fun x=>(.t .bool (Fi x.1 x.2.1)))
theorem QRW:EM 201 QBi:=mS (lk:=lkL (lkc QRV lkn)) QoT QBd [((.t 4),some .bool)] false (gB (gD QRS gN)) fun m=>Qq m fun x hok=>kT (s_f201 x.1 x.2.1 hok)
def Z7 (l:List Int)(n:Int):Int:=match QG (fun y=>ieq y n) l with|some k=>(k:Int)|none=> -1
abbrev QgB:Sh:=⟨[(1,.ty tI),(7,.ty (.sl tI)),(8,.ty tI),(9,.ty tI)],[]⟩
abbrev QBj:Sh:=⟨[(4,.ty tI)],[]⟩
def QoU:Fg:=QgB.f
def QBk:TC:=aF Tryz.f164 [(26,pL 0 QoU),(421,.fg Ol.f),(13517,.fg QBj.f)]
def QBl:TC:=lb 0 QBk
def QBm (x1:Int)(x7:List Int)(x8 x9:Int):VS:=QgB.st (x1,x7,x8,x9,()) ()
def QoV (x4:Int):VS:=QBj.st (x4,()) ()
def QoW  : VS:=Ol.st () ()
def QRX:VS->Option (Bool×List (Bool×Exit×VS)):=mkL QgB (fun x y=>(Qw x.2.1 x.2.2.1 x.2.2.2.1)) (fun x y=>[(((QG (fun y=>ieq y x.1) (x.2.1.drop x.2.2.2.1.toNat)).isSome),.ret,QoV (x.2.2.2.1+((QG (fun y=>ieq y x.1) (x.2.1.drop x.2.2.2.1.toNat)).getD 0:Nat))),(true,.exit 0,QoW)])
def QoX:G:=gG 19 [] (Ls [QRX])
def QgC (x1:Int)(x7:List Int)(x8 x9:Int):OX:=Qu (Qx QoX QoU QBl) (QBm x1 x7 x8 x9)
def Qbl (kk:Int->List Int->Int->Int->OX)(x1:Int)(x7:List Int)(x8 x9:Int):OX:=br (ilt x9 x8) (br (cIx x7 x9) (br (ieq (lgt tI x7 (Int.toNat x9)) x1) (some (.ret,QoV x9)) (kk x1 x7 x8 (Qi .i64 x9 1))) none) (some (.exit 0,QoW))
def QgD (x1:Int)(x7:List Int)(x8 x9:Int):OX:=br ((QG (fun y=>ieq y x1) (x7.drop x9.toNat)).isSome) (some (.ret,QoV (x9+((QG (fun y=>ieq y x1) (x7.drop x9.toNat)).getD 0:Nat))))<|some (.exit 0,QoW)
theorem QBn (x1 x7 x8 x9):QgC x1 x7 x8 x9=Qbl QgC x1 x7 x8 x9:=lnT (x:=Qbl (fun x1 x7 x8 x9=>some (.normal,QBm x1 x7 x8 x9)) x1 x7 x8 x9) (by simp only [Qbl,nxA];rfl)
def QBo (p0:List Int)(p1:Int):OV:=
 let a1:=(p0.drop (0:Int).toNat)
 br (Qw p0 (Qb p0) (0:Int)) (br ((QG (fun y=>ieq y p1) a1).isSome) (some (.t tI ((0:Int)+((QG (fun y=>ieq y p1) a1).getD 0:Nat)),[])) (some (.t tI (-1),[]))) none
theorem QRY (x1:Int)(x7:List Int)(x8 x9:Int)(h:(Qw x7 x8 x9)=true):QgC x1 x7 x8 x9=QgD x1 x7 x8 x9:=by
 obtain ⟨rfl,h3,k,rfl,hk⟩:=Jv h
 clear h
 refine QP x7 (fun k=>QgC x1 x7 (x7.length:Int) (k:Int)=QgD x1 x7 (x7.length:Int) (k:Int)) ?_ ?_ k hk
 ·rw [QBn]
  simp [Qbl,QgD,Qv,Qh,QG]
 ·intro k hk ih
  rw [QBn]
  simp only [Qbl,Qv,QM,hk,Bu,Qd,Bb,QO (k:=k),ih,QN (y:=tI) hk]
  simp only [QgD,Bb,Bg hk,QG]
  cases h:(ieq x7[k] x1) with
  |true=>simp [Qd]
  |false=>
   simp only [Qh,BE,Dc]
   cases hq:QG (fun y=>ieq y x1) (x7.drop (k+1)) with
   |none=>rfl
   |some j=>
    simp only [B4,Da,BU,Qd]
    congr 3
    omega
theorem QRZ:LO QoX QoU QBl 0:=QC (s:=QgB) fun x y h _ q=>by simp only [QA,QB] at q;exact (QRY x.1 x.2.1 x.2.2.1 x.2.2.2.1 h).trans q
theorem s_f164 (l n)(h:Jm l n=true):QBo l n=some (.t tI (Z7 l n),[]):=by
 have hl:l.length<=100000:=Bw h
 simp only [QBo,Jw hl,Qd,Bt,Bx,Z7]
 cases QG (fun y=>ieq y n) l<;>simp [Qd,Qh]
def QoY:Ent:=Qm (.pr (.sl tI) (.pr tI .nil)) (fun x=>(Jm x.1 x.2.1)) (fun x=>(.t tI (Z7 x.1 x.2.1)))
theorem QBp:EM 164 QoY:=mS (lk:=lkL (lkc QRZ lkn)) QoX QBk [((.t 4),some tI)] false (gB gN) fun m=>Qq m fun x hok=>kT (s_f164 x.1 x.2.1 hok)
def On (b:Bool):Int:=bif b then 1 else 0
def QR0:TC:=aF Tryz.f202 []
def g_f202:G:=gG 4 [] (fun _ _=>none)
def QBq (p0:Bool):OV:=br (p0) (some (.t tI 1,[])) (some (.t tI 0,[]))
theorem s_f202 (b):QBq b=some (.t tI (On b),[]):=by
 simp only [QBq]
 cases b<;>rfl
def QBr:Ent:=Qm (.pr .bool .nil) (fun x=>true) (fun x=>(.t tI (On x.1)))
theorem QR1:EM 202 QBr:=mS g_f202 QR0 [((.t 2),some tI)] false (gB gN) fun m=>Qq m fun x _=>kT (s_f202 x.1)
def Gu (e:Ac)(k:Int):Int×Bool:=bif ieq k 3 then (e.2.2.1,true) else bif ieq k 4 then (e.2.1,true) else bif ieq k 11 then (On e.2.2.2.2.2.2.2.2.1,true) else bif ieq k 12 then (On e.2.2.2.2.1,true) else (0,false)
def QR2:TC:=aF Tryz.f165 []
def g_f165:G:=gG 25 [(202,QBr)] (fun _ _=>none)
def QBs (p0:Ac)(p1:Int):OV:=br (ieq p1 3) (some (.tu [(.t tI p0.2.2.1),(.t .bool true)],[])) (br (ieq p1 4) (some (.tu [(.t tI p0.2.1),(.t .bool true)],[])) (br (ieq p1 11) (some (.tu [(.t tI (On p0.2.2.2.2.2.2.2.2.1)),(.t .bool true)],[])) (br (ieq p1 12) (some (.tu [(.t tI (On p0.2.2.2.2.1)),(.t .bool true)],[])) (some (.tu [(.t tI 0),(.t .bool false)],[])))))
theorem s_f165 (e k):QBs e k=some (.tu [.t tI (Gu e k).1,.t .bool (Gu e k).2],[]):=by
 simp only [QBs]
 unfold Gu
 cases ieq k 3<;>cases ieq k 4<;>cases ieq k 11<;>cases ieq k 12<;>rfl
def QBt:Ent:=Qm (.pr Qp (.pr tI .nil)) (fun x=>true) (fun x=>(.tu [(.t tI ((Gu x.1 x.2.1).1)),(.t .bool ((Gu x.1 x.2.1).2))]))
theorem QR3:EM 165 QBt:=mS g_f165 QR2 [((.t 4),some tI),((.t 5),some .bool)] false (gB (gD QR1 gN)) fun m=>Qq m fun x _=>kT (s_f165 x.1 x.2.1)
def Z8 (e:Ac)(k:Int):List Int×Bool×Bool:=
 bif ieq k 1||ieq k 2 then (QI e,ieq k 1,true) else bif ieq k 7||ieq k 8 then (Ji e,ieq k 7,true) else bif ieq k 9||ieq k 10 then (Jk e,ieq k 9,true) else ([],false,false)
def QR4:TC:=aF Tryz.f163 []
def g_f163:G:=gG 29 [] (fun _ _=>none)
def QoZ (p0:Ac)(p1:Int):OV:=br (ieq p1 9) (br (ieq p1 9) (some (.tu [(.t (.sl tI) p0.2.2.2.2.2.2.2.1),(.t .bool (ieq p1 9)),(.t .bool true)],[])) (some (.tu [(.t (.sl tI) ([]:List Int)),(.t .bool false),(.t .bool false)],[]))) (br (ieq p1 10) (some (.tu [(.t (.sl tI) p0.2.2.2.2.2.2.2.1),(.t .bool (ieq p1 9)),(.t .bool true)],[])) (some (.tu [(.t (.sl tI) ([]:List Int)),(.t .bool false),(.t .bool false)],[])))
def Qo0 (p0:Ac)(p1:Int):OV:=br (ieq p1 7) (br (ieq p1 7) (some (.tu [(.t (.sl tI) p0.2.2.2.2.2.2.1),(.t .bool (ieq p1 7)),(.t .bool true)],[])) (QoZ p0 p1)) (br (ieq p1 8) (some (.tu [(.t (.sl tI) p0.2.2.2.2.2.2.1),(.t .bool (ieq p1 7)),(.t .bool true)],[])) (QoZ p0 p1))
def QBu (p0:Ac)(p1:Int):OV:=br (ieq p1 1) (br (ieq p1 1) (some (.tu [(.t (.sl tI) p0.2.2.2.1),(.t .bool (ieq p1 1)),(.t .bool true)],[])) (Qo0 p0 p1)) (br (ieq p1 2) (some (.tu [(.t (.sl tI) p0.2.2.2.1),(.t .bool (ieq p1 1)),(.t .bool true)],[])) (Qo0 p0 p1))
theorem s_f163 (e k):QBu e k=some (.tu [.t (.sl tI) (Z8 e k).1,.t .bool (Z8 e k).2.1,.t .bool (Z8 e k).2.2],[]):=by
 simp only [QBu,Qo0,QoZ]
 unfold Z8
 cases ieq k 1<;>cases ieq k 2<;>cases ieq k 7<;>cases ieq k 8<;>cases ieq k 9<;>cases ieq k 10<;>rfl
def QBv:Ent:=Qm (.pr Qp (.pr tI .nil)) (fun x=>true) (fun x=>(.tu [(.t (.sl tI) ((Z8 x.1 x.2.1).1)),(.t .bool (((Z8 x.1 x.2.1).2).1)),(.t .bool (((Z8 x.1 x.2.1).2).2))]))
theorem QR5:EM 163 QBv:=mS g_f163 QR4 [((.t 4),some (.sl tI)),((.t 5),some .bool),((.t 6),some .bool)] false (gB gN) fun m=>Qq m fun x _=>kT (s_f163 x.1 x.2.1)
theorem FJ {y:Ty}{l:List y.T}{a:Int}(h0:0<=a)(h1:a<=l.length):(lsl l 0 a).length=a.toNat:=by
 simp only [lsl,B9,Di,Bt]
 omega
theorem FK {y:Ty}{l:List y.T}{a:Int}(h0:0<=a)(h1:a<=l.length):(lsl l a (l.length:Int)).length=l.length-a.toNat:=by
 simp only [lsl,B9,Di,Bb]
 omega
def GQ (l:List Int)(a n:Int):List Int:=((([]:List Int)++(lsl l 0 a))++([n]))++(lsl l a ((List.length l:Nat):Int))
def Qis (l:List Int)(a _n:Int):Bool:=decide (0<=a/\a<=l.length/\l.length<=100000)
theorem QF6 {l:List Int}{a n:Int}(h0:0<=a)(h1:a<=l.length):(GQ l a n).length=l.length+1:=by
 have e1:=FJ (y:=tI) (l:=l) h0 h1
 have e2:=FK (y:=tI) (l:=l) h0 h1
 unfold GQ
 simp only [Bj,Bv,Bh]
 omega
def QWE:TC:=aF Tryz.f167 []
def g_f167:G:=gG 21 [] (fun _ _=>none)
def QF7 (p0:List Int)(p1 p2:Int):OV:=
 let a1:=(List.length p0:Nat)
 br (cSl p0 0 p1 (a1:Int)) (br (Qt ([]:List Int) (lsl p0 0 p1) 8) (br (Qt (([]:List Int)++(lsl p0 0 p1)) ([p2]) 8) (br (cSl p0 p1 (a1:Int) (a1:Int)) (br (Qt ((([]:List Int)++(lsl p0 0 p1))++([p2])) (lsl p0 p1 (a1:Int)) 8) (some (.t (.sl tI) (((([]:List Int)++(lsl p0 0 p1))++([p2]))++(lsl p0 p1 (a1:Int))),[])) none) none) none) none) none
theorem s_f167 (l a n)(h:Qis l a n=true):QF7 l a n=some (.t (.sl tI) (GQ l a n),[]):=by
 obtain ⟨h0,h1,h2⟩:=Bw h
 have e1:=FJ (y:=tI) (l:=l) h0 h1
 have e2:=FK (y:=tI) (l:=l) h0 h1
 simp only [QF7]
 refine brY (Bc ⟨by omega,by omega,by omega,by omega⟩) (brY (QX (by decide) (by simp only [Bv];omega)) (brY (QX (by decide) (by simp only [Bj,Bv,Bh];omega)) (brY (Bc ⟨by omega,by omega,by omega,by omega⟩) (brY (QX (by decide) (by simp only [Bj,Bv,Bh];omega)) rfl))))
def Qrz:Ent:=Qm (.pr (.sl tI) (.pr tI (.pr tI .nil))) (fun x=>(Qis x.1 x.2.1 x.2.2.1)) (fun x=>(.t (.sl tI) (GQ x.1 x.2.1 x.2.2.1)))
theorem QF8:EM 167 Qrz:=mS g_f167 QWE [((.t 6),some (.sl tI))] false (gB gN) fun m=>Qq m fun x hok=>kT (s_f167 x.1 x.2.1 x.2.2.1 hok)
def woF (l:List Int)(a:Int):List Int:=(([]:List Int)++(lsl l 0 a))++(lsl l (Qi .i64 a 1) ((List.length l:Nat):Int))
def FL (l:List Int)(a:Int):Bool:=decide (0<=a/\a<l.length/\l.length<=100000)
theorem QrA {l:List Int}{a:Int}(h:FL l a=true):(woF l a).length+1=l.length:=by
 obtain ⟨h0,h1,h2⟩:=Bw h
 have e0:Qi .i64 a 1=a+1:=Ja (by omega)
 have e1:=FJ (y:=tI) (l:=l) (a:=a) h0 (by omega)
 have e2:=FK (y:=tI) (l:=l) (a:=a+1) (by omega) (by omega)
 unfold woF
 rw [e0]
 simp only [Bj,Bv]
 omega
def QWF:TC:=aF Tryz.f168 []
def g_f168:G:=gG 16 [] (fun _ _=>none)
def QF9 (p0:List Int)(p1:Int):OV:=
 let a1:=(List.length p0:Nat)
 let a2:=(lsl p0 (Qi .i64 p1 1) (a1:Int))
 br (cSl p0 0 p1 (a1:Int)) (br (Qt ([]:List Int) (lsl p0 0 p1) 8) (br (cSl p0 (Qi .i64 p1 1) (a1:Int) (a1:Int)) (br (Qt (([]:List Int)++(lsl p0 0 p1)) a2 8) (some (.t (.sl tI) ((([]:List Int)++(lsl p0 0 p1))++a2),[])) none) none) none) none
theorem s_f168 (l a)(h:FL l a=true):QF9 l a=some (.t (.sl tI) (woF l a),[]):=by
 obtain ⟨h0,h1,h2⟩:=Bw h
 have e0:Qi .i64 a 1=a+1:=Ja (by omega)
 have e1:=FJ (y:=tI) (l:=l) (a:=a) h0 (by omega)
 have e2:=FK (y:=tI) (l:=l) (a:=a+1) (by omega) (by omega)
 unfold woF
 simp only [QF9,e0]
 refine brY (Bc ⟨by omega,by omega,by omega,by omega⟩) (brY (QX (by decide) (by simp only [Bv];omega)) (brY (Bc ⟨by omega,by omega,by omega,by omega⟩) (brY (QX (by decide) (by simp only [Bj,Bv];omega)) rfl)))
def QGa:Ent:=Qm (.pr (.sl tI) (.pr tI .nil)) (fun x=>(FL x.1 x.2.1)) (fun x=>(.t (.sl tI) (woF x.1 x.2.1)))
theorem QWG:EM 168 QGa:=mS g_f168 QWF [((.t 4),some (.sl tI))] false (gB gN) fun m=>Qq m fun x hok=>kT (s_f168 x.1 x.2.1 hok)
def WS (n:Int):List Int->Nat
 | []=>0
 |x::r=>bif ilt x n then WS n r+1 else 0
theorem QrB (n:Int): ∀ l:List Int,WS n l<=l.length
 | []=>BI _
 |x::r=>by
  have:=QrB n r
  unfold WS
  cases ilt x n<;>simp only [B6,BW,Br]<;>omega
def EX (l:List Int)(n:Int):List Int:=GQ l (WS n l) n
abbrev Qcq:Sh:=⟨[(0,.ty (.sl tI)),(1,.ty tI),(5,.ty tI)],[]⟩
def QrC:Fg:=Qcq.f
def QGb:TC:=aF Tryz.f170 [(28,pL 0 QrC),(451,.fg Qcq.f)]
def QGc:TC:=lb 0 QGb
def Vd (x0:List Int)(x1 x5:Int):VS:=Qcq.st (x0,x1,x5,()) ()
def QWH:VS->Option (Bool×List (Bool×Exit×VS)):=mkL Qcq (fun x y=>(decide (0<=x.2.2.1/\x.2.2.1<=x.1.length/\x.1.length<=100000))) (fun x y=>[(true,.exit 0,Vd (x.1) (x.2.1) (x.2.2.1+WS x.2.1 (x.1.drop x.2.2.1.toNat)))])
def QrD:G:=gG 24 [(167,Qrz)] (Ls [QWH])
def Qit (x0:List Int)(x1 x5:Int):OX:=Qu (Qx QrD QrC QGc) (Vd x0 x1 x5)
def Qcr (kk:List Int->Int->Int->OX)(x0:List Int)(x1 x5:Int):OX:=br (ilt x5 (Qb x0)) (br (cIx x0 x5) (br (ilt (lgt tI x0 (Int.toNat x5)) x1) (kk x0 x1 (Qi .i64 x5 1)) (some (.exit 0,Vd x0 x1 x5))) none) (some (.exit 0,Vd x0 x1 x5))
def Qiu (x0:List Int)(x1 x5:Int):OX:=some (.exit 0,Vd (x0) (x1) (x5+WS x1 (x0.drop x5.toNat)))
theorem QGd (x0 x1 x5):Qit x0 x1 x5=Qcr Qit x0 x1 x5:=lnT (x:=Qcr (fun x0 x1 x5=>some (.normal,Vd x0 x1 x5)) x0 x1 x5) (by simp only [Qcr,nxA];rfl)
def QGe (p0:List Int)(p1:Int):OV:=
 let a1:=(p0.drop (0:Int).toNat)
 br (decide (0<=(0:Int)/\(0:Int)<=p0.length/\p0.length<=100000)) (br (Qis (p0) ((0:Int)+WS p1 a1) (p1)) (some (.t (.sl tI) (GQ (p0) ((0:Int)+WS p1 a1) (p1)),[])) none) none
theorem QWI (x0:List Int)(x1 x5:Int)(h:(decide (0<=x5/\x5<=x0.length/\x0.length<=100000))=true):Qit x0 x1 x5=Qiu x0 x1 x5:=by
 obtain ⟨h0,h1,h2⟩:=Bw h
 obtain ⟨k,rfl⟩:=Bm h0
 refine QP x0 (fun k=>Qit x0 x1 (k:Int)=Qiu x0 x1 (k:Int)) ?_ ?_ k (by omega)
 ·rw [QGd]
  simp only [Qcr,Qiu,Qb,Qv,BK,BP,Qh,Bb,BF,WS,Int.natCast_zero,Int.add_zero]
 ·intro k hk ih
  rw [QGd]
  simp only [Qcr,Qb,Qv,QM,hk,Bu,Qd,Bb,QO (k:=k),ih,QN (y:=tI) hk]
  simp only [Qiu,Bb,Bg hk,WS]
  cases ilt x0[k] x1 with
  |false=>simp only [Qh,BW,Int.natCast_zero,Int.add_zero]
  |true=>simp only [Qd,B6,Int.natCast_add,Int.natCast_one,show (k:Int)+1+(WS x1 (x0.drop (k+1)):Int)=k+(WS x1 (x0.drop (k+1))+1) by omega]
theorem QWJ:LO QrD QrC QGc 0:=QC (s:=Qcq) fun x y h _ q=>by simp only [QA,QB] at q;exact (QWI x.1 x.2.1 x.2.2.1 h).trans q
theorem s_f170 (l n)(h:Jm l n=true):QGe l n=some (.t (.sl tI) (EX l n),[]):=by
 have hl:l.length<=100000:=Bw h
 have hz:=QrB n l
 simp only [QGe,Bt,Bx,Int.zero_add]
 exact brY (Bc ⟨by omega,by omega,hl⟩) (brY (Bc ⟨by omega,by omega,hl⟩) rfl)
def QGf:Ent:=Qm (.pr (.sl tI) (.pr tI .nil)) (fun x=>(Jm x.1 x.2.1)) (fun x=>(.t (.sl tI) (EX x.1 x.2.1)))
theorem QWK:EM 170 QGf:=mS (lk:=lkL (lkc QWJ lkn)) QrD QGb [((.t 4),some (.sl tI))] false (gB (gD QF8 gN)) fun m=>Qq m fun x hok=>kT (s_f170 x.1 x.2.1 hok)
def XS (id:Int):List Aj->Int->Int×Int->Int×Int
 | [],_,p=>p
 |x::r,i,p=>XS id r (i+1) (bif ieq x.2.1 id then (p.1+1,bif ieq p.1 0 then i else p.2) else p)
def Zc (e:Ac)(id:Int):Int×Int:=XS id (QF e) 0 (0, -1)
theorem QrE (id:Int): ∀ (l:List Aj) (i:Int) (p:Int×Int),0<=i->0<=p.1->(0<p.1->0<=p.2/\p.2<i)->0<=(XS id l i p).1/\(0<(XS id l i p).1->0<=(XS id l i p).2/\(XS id l i p).2<i+l.length)
 | [],i,p,h0,h1,h2=>⟨h1,fun h=>by have:=h2 h;simp only [XS,Bv];omega⟩
 |x::r,i,p,h0,h1,h2=>by
  unfold XS
  have e:i+((x::r).length:Int)=i+1+r.length:=by simp only [Br];omega
  rw [e]
  cases hq:ieq x.2.1 id with
  |false=>exact QrE id r (i+1) p (by omega) h1 (fun h=>by have:=h2 h;omega)
  |true=>
   refine QrE id r (i+1) _ (by omega) (by simp only [B6];omega) (fun _=> ?_)
   simp only [B6]
   cases hz:ieq p.1 0 with
   |true=>simp only [B6];omega
   |false=>
    have:0<p.1:=by simp only [Fp,Bo] at hz;omega
    have:=h2 this
    simp only [BW]
    omega
abbrev Qiv:Sh:=⟨[(1,.ty tI),(6,.ty tI),(7,.ty tI),(11,.ty (.sl Q2)),(12,.ty tI),(13,.ty tI)],[]⟩
abbrev QGg:Sh:=⟨[(6,.ty tI),(7,.ty tI)],[]⟩
def QrF:Fg:=Qiv.f
def QGh:TC:=aF Tryz.f166 [(58,pL 0 QrF),(933,.fg QGg.f)]
def QGi:TC:=lb 0 QGh
def QGj (x1 x6 x7:Int)(x11:List Aj)(x12 x13:Int):VS:=Qiv.st (x1,x6,x7,x11,x12,x13,()) ()
def QrG (x6 x7:Int):VS:=QGg.st (x6,x7,()) ()
def QWL:VS->Option (Bool×List (Bool×Exit×VS)):=mkL Qiv (fun x y=>(Qw x.2.2.2.1 x.2.2.2.2.1 x.2.2.2.2.2.1&&decide (0<=x.2.1/\x.2.1<=x.2.2.2.2.2.1))) (fun x y=>[(true,.exit 0,QrG ((XS x.1 (x.2.2.2.1.drop x.2.2.2.2.2.1.toNat) x.2.2.2.2.2.1 (x.2.1,x.2.2.1)).1) ((XS x.1 (x.2.2.2.1.drop x.2.2.2.2.2.1.toNat) x.2.2.2.2.2.1 (x.2.1,x.2.2.1)).2))])
def QrH:G:=gG 30 [] (Ls [QWL])
def Qiw (x1 x6 x7:Int)(x11:List Aj)(x12 x13:Int):OX:=Qu (Qx QrH QrF QGi) (QGj x1 x6 x7 x11 x12 x13)
def Qcs (kk:Int->Int->Int->List Aj->Int->Int->OX)(x1 x6 x7:Int)(x11:List Aj)(x12 x13:Int):OX:=
 let a1:=Qi .i64 x13 1
 br (ilt x13 x12) (br (cIx x11 x13) (br (ieq (((lgt Q2 x11 (Int.toNat x13)).2).1) x1) (br (ieq x6 0) (kk x1 (Qi .i64 x6 1) x13 x11 x12 a1) (kk x1 (Qi .i64 x6 1) x7 x11 x12 a1)) (kk x1 x6 x7 x11 x12 a1)) none) (some (.exit 0,QrG x6 x7))
def Qix (x1 x6 x7:Int)(x11:List Aj)(x12 x13:Int):OX:=
 let a1:=(XS x1 (x11.drop x13.toNat) x13 (x6,x7))
 some (.exit 0,QrG (a1.1) (a1.2))
theorem QGk (x1 x6 x7 x11 x12 x13):Qiw x1 x6 x7 x11 x12 x13=Qcs Qiw x1 x6 x7 x11 x12 x13:=lnT (x:=Qcs (fun x1 x6 x7 x11 x12 x13=>some (.normal,QGj x1 x6 x7 x11 x12 x13)) x1 x6 x7 x11 x12 x13) (by simp only [Qcs,nxA];rfl)
def QGl (p0:Ac)(p1:Int):OV:=
 let a1:=(XS p1 (p0.2.2.2.2.2.1.drop (0:Int).toNat) (0:Int) ((0:Int),(-1)))
 br (Qw p0.2.2.2.2.2.1 (Qb p0.2.2.2.2.2.1) (0:Int)&&decide (0<=(0:Int)/\(0:Int)<=(0:Int))) (some (.tu [(.t tI (a1.1)),(.t tI (a1.2))],[])) none
theorem QWM (x1 x6 x7:Int)(x11:List Aj)(x12 x13:Int)(h:(Qw x11 x12 x13&&decide (0<=x6/\x6<=x13))=true):Qiw x1 x6 x7 x11 x12 x13=Qix x1 x6 x7 x11 x12 x13:=by
 simp only [Bd,Ba] at h
 obtain ⟨h,g0,g1⟩:=h
 obtain ⟨rfl,h3,k,rfl,hk⟩:=Jv h
 clear h
 revert x6 x7
 refine QP x11 (fun k=> ∀ x6 x7:Int,0<=x6->x6<=(k:Int)->Qiw x1 x6 x7 x11 (x11.length:Int) (k:Int)=Qix x1 x6 x7 x11 (x11.length:Int) (k:Int)) ?_ ?_ k hk
 ·intro x6 x7 _ _
  rw [QGk]
  simp only [Qcs,Qix,Qv,BK,BP,Qh,Bb,BF,XS]
 ·intro k hk ih x6 x7 g0 g1
  rw [QGk]
  have e1:Qi .i64 x6 1=x6+1:=Ja (by omega)
  simp only [Qcs,Qv,QM,hk,Bu,Qd,Bb,QO (k:=k),e1,QN (y:=Q2) hk]
  rw [ih (x6+1) (k:Int) (by omega) (by omega),ih (x6+1) x7 (by omega) (by omega),ih x6 x7 g0 (by omega)]
  simp only [Qix,Bb,Bg hk,XS,Int.natCast_add,Int.natCast_one]
  cases ieq x11[k].2.1 x1<;>cases ieq x6 0<;>rfl
theorem QWN:LO QrH QrF QGi 0:=QC (s:=Qiv) fun x y h _ q=>by simp only [QA,QB] at q;exact (QWM x.1 x.2.1 x.2.2.1 x.2.2.2.1 x.2.2.2.2.1 x.2.2.2.2.2.1 h).trans q
theorem s_f166 (e id)(h:ZM e id=true):QGl e id=some (.tu [.t tI (Zc e id).1,.t tI (Zc e id).2],[]):=by
 have hl:(QF e).length<=100000:=Bw h
 simp only [QGl,Bt,Bx]
 refine brY ?_ rfl
 rw [Jw hl,By]
 exact Bc ⟨BY _,BY _⟩
def QrI:Ent:=Qm (.pr Qp (.pr tI .nil)) (fun x=>(ZM x.1 x.2.1)) (fun x=>(.tu [(.t tI ((Zc x.1 x.2.1).1)),(.t tI ((Zc x.1 x.2.1).2))]))
theorem QGm:EM 166 QrI:=mS (lk:=lkL (lkc QWN lkn)) QrH QGh [((.t 4),some tI),((.t 5),some tI)] false (gB gN) fun m=>Qq m fun x hok=>kT (s_f166 x.1 x.2.1 hok)
def GR:Aj:=((0,(0,())),(0,(([]:List Af),())))
abbrev Q7 (c:Am):Int:=c.2.1
abbrev Jr (c:Am):Int:=c.2.2.1
abbrev YK (c:Am):Int:=c.2.2.2.1
abbrev ZV (c:Am):Aj:=c.2.2.2.2.1
def fmC (c:Am):Bool:=bif ieq (Q7 c) 1 then Fi (ZV c) GR else bif ieq (Q7 c) 5 then ieq (Jr c) 0 else ige (Q7 c) 1&&(ile (Q7 c) 12&&(Fi (ZV c) GR&&ieq (YK c) 0))
def QrJ (c:Am):Bool:=Jn (ZV c)
def QWO:TC:=aF Tryz.f162 []
def g_f162:G:=gG 34 [(201,QBi)] (fun _ _=>none)
def QGn (p0:Am):OV:=
 let a1:=(Fi p0.2.2.2.2.1 ((0,(0,())),(0,(([]:List Af),()))))
 br (QoQ p0.2.2.2.2.1 ((0,(0,())),(0,(([]:List Af),())))) (br (ieq p0.2.1 1) (some (.t .bool a1,[])) (br (ieq p0.2.1 5) (some (.t .bool (ieq p0.2.2.1 0),[])) (br (ige p0.2.1 1) (br (ile p0.2.1 12) (br a1 (some (.t .bool (ieq p0.2.2.2.1 0),[])) (some (.t .bool false,[]))) (some (.t .bool false,[]))) (some (.t .bool false,[]))))) none
theorem s_f162 (c)(h:QrJ c=true):QGn c=some (.t .bool (fmC c),[]):=by
 have h:Jn (ZV c)=true:=h
 simp only [QGn]
 refine brY (Bf.2 ⟨h,(show Jn GR=true from rfl)⟩) ?_
 unfold fmC
 show br (ieq (Q7 c) 1) (some (V.t .bool (Fi (ZV c) GR),([]:List VO))) (br (ieq (Q7 c) 5) (some (V.t .bool (ieq (Jr c) 0),([]:List VO))) (br (ige (Q7 c) 1) (br (ile (Q7 c) 12) (br (Fi (ZV c) GR) (some (V.t .bool (ieq (YK c) 0),([]:List VO))) (some (V.t .bool false,([]:List VO)))) (some (V.t .bool false,([]:List VO)))) (some (V.t .bool false,([]:List VO)))))=_
 cases ieq (Q7 c) 1<;>cases ieq (Q7 c) 5<;>cases ige (Q7 c) 1<;>cases ile (Q7 c) 12<;>cases Fi (ZV c) GR<;>rfl
def QGo:Ent:=Qm (.pr ZD .nil) (fun x=>(QrJ x.1)) (fun x=>(.t .bool (fmC x.1)))
theorem QWP:EM 162 QGo:=mS g_f162 QWO [((.t 2),some .bool)] false (gB (gD QRW gN)) fun m=>Qq m fun x hok=>kT (s_f162 x.1 hok)
def Yp (n:Nat)(e:Ac):Bool:=(Jc e.1&&decide ((QI e).length<=n/\(QF e).length<=n/\(Ji e).length<=n/\(Jk e).length<=n))&&(QF e).all Jn
theorem QqP {n:Nat}{e:Ac}(h:Yp n e=true):Jc e.1=true/\((QI e).length<=n/\(QF e).length<=n/\(Ji e).length<=n/\(Jk e).length<=n)/\(QF e).all Jn=true:=by
 simp only [Yp,Bd,Ba] at h
 exact ⟨h.1.1,h.1.2,h.2⟩
theorem QqQ {n:Nat}{e:Ac}(h:Yp n e=true)(hn:n<=100000):QY e=true:=by
 obtain ⟨h1,⟨h2,h3,h4,h5⟩,h6⟩:=QqP h
 unfold QY
 simp only [Bd,Ba]
 exact ⟨⟨h1,by omega,by omega,by omega,by omega⟩,h6⟩
theorem QqR {n m:Nat}{e:Ac}(h:Yp n e=true)(hn:n<=m):Yp m e=true:=by
 obtain ⟨h1,⟨h2,h3,h4,h5⟩,h6⟩:=QqP h
 unfold Yp
 simp only [Bd,Ba]
 exact ⟨⟨h1,by omega,by omega,by omega,by omega⟩,h6⟩
def OP (e:Ac)(c:Am):Int:=bif ieq (Q7 c) 6 then (bif ieq (Zc e (Jr c)).1 0 then 41 else bif igt (Zc e (Jr c)).1 1 then 5 else 0) else 0
def OQ (e:Ac)(c:Am):Int:=bif ieq (Q7 c) 5 then (bif igt (Zc e (ZV c).2.1).1 0 then 41 else OP e c) else OP e c
def EP (e:Ac)(c:Am):Int:=bif (Gu e (Q7 c)).2 then (bif ieq (Gu e (Q7 c)).1 (Jr c) then 41 else OQ e c) else OQ e c
def WQ (e:Ac)(c:Am):Int:=bif (Z8 e (Q7 c)).2.2 then (bif Qg0 (ige (Z7 (Z8 e (Q7 c)).1 (Jr c)) 0) (Z8 e (Q7 c)).2.1 then 41 else EP e c) else EP e c
def Qb8 (e:Ac)(c:Am):Int:=bif ine (Jr c) 0 then (bif ine (Jr c) 1 then 2 else WQ e c) else WQ e c
def ZU (e:Ac)(c:Am):Int:=
 bif ine (Zy e) 0 then 19 else bif !fmC c then 40 else
 bif ieq (Q7 c) 1 then (bif ilt (YK c) 0 then 2 else bif igt (YK c) (Qb (QI e)) then 2 else WQ e c) else
 bif ieq (Q7 c) 5 then (bif ilt (YK c) 0 then 2 else bif igt (YK c) (Qb (QF e)) then 2 else WQ e c) else
 bif ieq (Q7 c) 11 then Qb8 e c else bif ieq (Q7 c) 12 then Qb8 e c else WQ e c
def QqS (e:Ac)(c:Am):Bool:=QY e&&Jn (ZV c)
def QUN:TC:=aF Tryz.f128 []
def g_f128:G:=gG 118 [(71,VA),(162,QGo),(163,QBv),(164,QoY),(165,QBt),(166,QrI)] (fun _ _=>none)
def QhV (p0:Ac)(p1:Am):OV:=br (ieq p1.2.1 6) (br (ZM p0 p1.2.2.1) (br (ieq ((Zc p0 p1.2.2.1).1) 0) (some (.t tI 41,[])) (br (igt ((Zc p0 p1.2.2.1).1) 1) (some (.t tI 5,[])) (some (.t tI 0,[])))) none) (some (.t tI 0,[]))
def QhW (p0:Ac)(p1:Am):OV:=br (ieq p1.2.1 5) (br (ZM p0 p1.2.2.2.2.1.2.1) (br (igt ((Zc p0 p1.2.2.2.2.1.2.1).1) 0) (some (.t tI 41,[])) (QhV p0 p1)) none) (QhV p0 p1)
def QhX (p0:Ac)(p1:Am):OV:=br ((Gu p0 p1.2.1).2) (br (ieq ((Gu p0 p1.2.1).1) p1.2.2.1) (some (.t tI 41,[])) (QhW p0 p1)) (QhW p0 p1)
def GI (p0:Ac)(p1:Am):OV:=
 let a1:=Z8 p0 p1.2.1
 br ((a1.2).2) (br (Jm (a1.1) p1.2.2.1) (br (Qg0 (ige (Z7 (a1.1) p1.2.2.1) 0) ((a1.2).1)) (some (.t tI 41,[])) (QhX p0 p1)) none) (QhX p0 p1)
def Qb9 (p0:Ac)(p1:Am):OV:=br (ine p1.2.2.1 0) (br (ine p1.2.2.1 1) (some (.t tI 2,[])) (GI p0 p1)) (GI p0 p1)
def QEO (p0:Ac)(p1:Am):OV:=br (QY p0) (br (ine (Zy p0) 0) (some (.t tI 19,[])) (br (QrJ p1) (br (!(fmC p1)) (some (.t tI 40,[])) (br (ieq p1.2.1 1) (br (ilt p1.2.2.2.1 0) (some (.t tI 2,[])) (br (igt p1.2.2.2.1 (Qb p0.2.2.2.1)) (some (.t tI 2,[])) (GI p0 p1))) (br (ieq p1.2.1 5) (br (ilt p1.2.2.2.1 0) (some (.t tI 2,[])) (br (igt p1.2.2.2.1 (Qb p0.2.2.2.2.2.1)) (some (.t tI 2,[])) (GI p0 p1))) (br (ieq p1.2.1 11) (br (ieq p1.2.1 11) (Qb9 p0 p1) (GI p0 p1)) (br (ieq p1.2.1 12) (Qb9 p0 p1) (GI p0 p1)))))) none)) none
theorem brC {c:Bool}{x y:Int}{A B:OV}(h1:A=some (.t tI x,[]))(h2:B=some (.t tI y,[])):br c A B=some (.t tI (bif c then x else y),[]):=by
 subst h1 h2
 cases c<;>rfl
theorem s_f128 (e c)(h:QqS e c=true):QEO e c=some (.t tI (ZU e c),[]):=by
 obtain ⟨h1,h2⟩:=Bf.1 h
 have hb:=(Gc h1).2
 have hk: ∀ n,ZM e n=true:=fun n=>Bc hb.2.1
 have hl: ∀ k n,Jm (Z8 e k).1 n=true:=fun k n=>by
  have:(Z8 e k).1.length<=100000:=by
   unfold Z8
   cases ieq k 1||ieq k 2 with
   |true=>exact hb.1
   |false=>
    cases ieq k 7||ieq k 8 with
    |true=>exact hb.2.2.1
    |false=>
     cases ieq k 9||ieq k 10 with
     |true=>exact hb.2.2.2.1
     |false=>exact B0 _
  exact Bc this
 have g4:QhV e c=some (.t tI (OP e c),[]):=by
  unfold QhV OP
  exact brC (brY (hk _) (brC rfl (brC rfl rfl))) rfl
 have g3:QhW e c=some (.t tI (OQ e c),[]):=by
  unfold QhW OQ
  exact brC (brY (hk _) (brC rfl g4)) g4
 have g2:QhX e c=some (.t tI (EP e c),[]):=by
  unfold QhX EP
  exact brC (brC rfl g3) g3
 have g1:GI e c=some (.t tI (WQ e c),[]):=by
  unfold GI WQ
  exact brC (brY (hl _ _) (brC rfl g2)) g2
 have g5:Qb9 e c=some (.t tI (Qb8 e c),[]):=by
  unfold Qb9 Qb8
  exact brC (brC rfl g1) g1
 unfold QEO ZU
 refine brY h1 (brC rfl (brY h2 (brC rfl (brC (brC rfl (brC rfl g1)) (brC (brC rfl (brC rfl g1)) ?_)))))
 cases h11:ieq (Q7 c) 11 with
 |true=>exact g5
 |false=>exact (brC g5 g1:br (ieq (Q7 c) 12) (Qb9 e c) (GI e c)=some (.t tI (bif ieq (Q7 c) 12 then Qb8 e c else WQ e c),[]))
def QEP:Ent:=Qm (.pr Qp (.pr ZD .nil)) (fun x=>(QqS x.1 x.2.1)) (fun x=>(.t tI (ZU x.1 x.2.1)))
theorem QUO:EM 128 QEP:=mS g_f128 QUN [((.t 4),some tI)] false (gB (gD Qdj (gD QWP (gD QR5 (gD QBp (gD QR3 (gD QGm gN))))))) fun m=>Qq m fun x hok=>kT (s_f128 x.1 x.2.1 hok)
theorem XQ {b:Bool}{x y:Int}(hx:x≠0)(h:(bif b then x else y)=0):b=false/\y=0:=by
 cases b with
 |true=>exact absurd h hx
 |false=>exact ⟨rfl,h⟩
theorem QUP {b:Bool}(h:Qg0 b false=false):b=true:=by
 cases b with
 |true=>rfl
 |false=>exact absurd h (by decide)
theorem plc_in {l:List Int}{n:Int}(h:ige (Z7 l n) 0=true)(hl:l.length<=100000):FL l (Z7 l n)=true:=by
 unfold Z7 at h ⊢
 cases hq:QG (fun y=>ieq y n) l with
 |none=>rw [hq] at h;exact absurd (show ige (-1) 0=true from h) (by decide)
 |some k=>
  obtain ⟨hk,_⟩:=Qg4 hq
  exact Bc ⟨by show (0:Int)<=(k:Int);omega,by show (k:Int)<(l.length:Int);omega,hl⟩
theorem alw_1 {e:Ac}{c:Am}(h:ZU e c=0)(hk:Q7 c=1):0<=YK c/\YK c<=(QI e).length:=by
 unfold ZU at h
 obtain ⟨h1,h⟩:=XQ (by decide) h
 obtain ⟨h2,h⟩:=XQ (by decide) h
 rw [hk] at h
 simp only [show ieq (1:Int) 1=true from rfl,B6] at h
 obtain ⟨h3,h⟩:=XQ (by decide) h
 obtain ⟨h4,_⟩:=XQ (by decide) h
 simp only [ilt,igt,Qb,Bo] at h3 h4
 omega
theorem alw_5 {e:Ac}{c:Am}(h:ZU e c=0)(hk:Q7 c=5):0<=YK c/\YK c<=(QF e).length:=by
 unfold ZU at h
 obtain ⟨h1,h⟩:=XQ (by decide) h
 obtain ⟨h2,h⟩:=XQ (by decide) h
 rw [hk] at h
 simp only [show ieq (5:Int) 1=false from rfl,show ieq (5:Int) 5=true from rfl,B6,BW] at h
 obtain ⟨h3,h⟩:=XQ (by decide) h
 obtain ⟨h4,_⟩:=XQ (by decide) h
 simp only [ilt,igt,Qb,Bo] at h3 h4
 omega
theorem OR {e:Ac}{c:Am}(h:ZU e c=0){k:Int}(hk:Q7 c=k)(hd:k=2∨k=8∨k=10)(hl:(Z8 e k).1.length<=100000):FL (Z8 e k).1 (Z7 (Z8 e k).1 (Jr c))=true:=by
 unfold ZU at h
 obtain ⟨h1,h⟩:=XQ (by decide) h
 obtain ⟨h2,h⟩:=XQ (by decide) h
 rw [hk] at h
 have h:WQ e c=0:=by rcases hd with rfl|rfl|rfl<;>exact h
 unfold WQ at h
 rw [hk] at h
 have h5:(Z8 e k).2.2=true/\(Z8 e k).2.1=false:=by rcases hd with rfl|rfl|rfl<;>exact ⟨rfl,rfl⟩
 rw [h5.1,h5.2] at h
 obtain ⟨h6,_⟩:=XQ (by decide) (show (bif Qg0 (ige (Z7 (Z8 e k).1 (Jr c)) 0) false then 41 else EP e c)=0 from h)
 exact plc_in (QUP h6) hl
theorem alw_6 {e:Ac}{c:Am}(h:ZU e c=0)(hk:Q7 c=6):0<=(Zc e (Jr c)).2/\(Zc e (Jr c)).2<(QF e).length:=by
 unfold ZU at h
 obtain ⟨h1,h⟩:=XQ (by decide) h
 obtain ⟨h2,h⟩:=XQ (by decide) h
 rw [hk] at h
 have h:WQ e c=0:=h
 unfold WQ at h
 rw [hk] at h
 have h:EP e c=0:=h
 unfold EP at h
 rw [hk] at h
 have h:OQ e c=0:=h
 unfold OQ at h
 rw [hk] at h
 have h:OP e c=0:=h
 unfold OP at h
 rw [hk] at h
 obtain ⟨h3,_⟩:=XQ (by decide) (show (bif ieq (Zc e (Jr c)).1 0 then 41 else bif igt (Zc e (Jr c)).1 1 then 5 else 0)=0 from h)
 have:=QrE (Jr c) (QF e) 0 (0, -1) (BY _) (BY _) (fun h=>absurd h (by decide))
 have h4:0<(Zc e (Jr c)).1:=by
  simp only [Fp,Bo] at h3
  have:=this.1
  unfold Zc at h3 ⊢
  omega
 have h5:=this.2 h4
 rw [Int.zero_add] at h5
 exact h5
def suE (e:Ac)(l:List Int):Ac:=(e.1,(e.2.1,(e.2.2.1,(l,e.2.2.2.2))))
def idE (e:Ac)(l:List Aj):Ac:=(e.1,(e.2.1,(e.2.2.1,(e.2.2.2.1,(e.2.2.2.2.1,(l,e.2.2.2.2.2.2))))))
def anE (e:Ac)(l:List Int):Ac:=(e.1,(e.2.1,(e.2.2.1,(e.2.2.2.1,(e.2.2.2.2.1,(e.2.2.2.2.2.1,(l,e.2.2.2.2.2.2.2)))))))
def hsE (e:Ac)(l:List Int):Ac:=(e.1,(e.2.1,(e.2.2.1,(e.2.2.2.1,(e.2.2.2.2.1,(e.2.2.2.2.2.1,(e.2.2.2.2.2.2.1,(l,e.2.2.2.2.2.2.2.2))))))))
def adI (e:Ac)(c:Am):List Aj:=((([]:List Aj)++(lsl (QF e) 0 (YK c)))++([ZV c]))++(lsl (QF e) (YK c) ((List.length (QF e):Nat):Int))
def drI (e:Ac)(c:Am):List Aj:=(([]:List Aj)++(lsl (QF e) 0 (Zc e (Jr c)).2))++(lsl (QF e) (Qi .i64 (Zc e (Jr c)).2 1) ((List.length (QF e):Nat):Int))
def WL (e:Ac)(c:Am):Ac:=
 bif ieq (Q7 c) 1 then suE e (GQ (QI e) (YK c) (Jr c)) else bif ieq (Q7 c) 2 then suE e (woF (QI e) (Z7 (QI e) (Jr c))) else
 bif ieq (Q7 c) 3 then (e.1,(e.2.1,(Jr c,e.2.2.2))) else bif ieq (Q7 c) 4 then (e.1,(Jr c,e.2.2)) else
 bif ieq (Q7 c) 5 then idE e (adI e c) else bif ieq (Q7 c) 6 then idE e (drI e c) else
 bif ieq (Q7 c) 7 then anE e (EX (Ji e) (Jr c)) else bif ieq (Q7 c) 8 then anE e (woF (Ji e) (Z7 (Ji e) (Jr c))) else
 bif ieq (Q7 c) 9 then hsE e (EX (Jk e) (Jr c)) else bif ieq (Q7 c) 10 then hsE e (woF (Jk e) (Z7 (Jk e) (Jr c))) else
 bif ieq (Q7 c) 11 then (e.1,(e.2.1,(e.2.2.1,(e.2.2.2.1,(e.2.2.2.2.1,(e.2.2.2.2.2.1,(e.2.2.2.2.2.2.1,(e.2.2.2.2.2.2.2.1,(ieq (Jr c) 1,()))))))))) else
 bif ieq (Q7 c) 12 then (e.1,(e.2.1,(e.2.2.1,(e.2.2.2.1,(ieq (Jr c) 1,e.2.2.2.2.2))))) else e
def QgF (e:Ac)(c:Am):Bool:=(QY e&&Jn (ZV c))&&ieq (ZU e c) 0
def QR9:TC:=aF Tryz.f129 [(942,pE [[2],[2],[2],[2],[3],[3],[],[],[5,52,58,65,80,87],[4,5,52,58,65,80,87]] (oN 10)),(3866622,pE [[2],[2],[2],[2],[3],[3],[],[],[5,52,58,65,80,87],[4,5,52,58,65,80,87]] (oN 10)),(61865982,pE [[2],[2],[2],[2],[3],[3],[],[],[5,52,58,65,80,87],[4,5,52,58,65,80,87]] (oN 10))]
def g_f129:G:=gG 140 [(130,QmS),(164,QoY),(166,QrI),(167,Qrz),(168,QGa),(169,QmO),(170,QGf)] (fun _ _=>none)
def QBD (p0:Ac)(p1:Am):OV:=
 let a2:=(((Zf p0).2).2)
 let a1:=((a2.2).2)
 let a3:=((((Eb p1.2.2.2.2.1).1).1,((((Eb p1.2.2.2.2.1).1).2).1,())),(((Eb p1.2.2.2.2.1).2).1,((((Eb p1.2.2.2.2.1).2).2).1,())))
 let a4:=(List.length ((a1.2).1):Nat)
 let a5:=((Zc p0 p1.2.2.1).2)
 let a6:=lsl ((a1.2).1) 0 p1.2.2.2.1
 let a7:=(((a1.2).2).2)
 let a8:=(lsl ((a1.2).1) (Qi .i64 a5 1) (a4:Int))
 let a9:=lsl ((a1.2).1) 0 a5
 let a10:=(lsl ((a1.2).1) p1.2.2.2.1 (a4:Int))
 let a11:=(((a1.2).2).1,(a7.1,((a7.2).1,())))
 let a12:=Jm p0.2.2.2.2.2.2.2.1 p1.2.2.1
 let a13:=Jm p0.2.2.2.2.2.2.1 p1.2.2.1
 let a14:=Z7 p0.2.2.2.2.2.2.2.1 p1.2.2.1
 let a15:=Z7 p0.2.2.2.2.2.2.1 p1.2.2.1
 let a16:=Z7 p0.2.2.2.1 p1.2.2.1
 br (QY p0) (br (ieq p1.2.1 1) (br (Qis p0.2.2.2.1 p1.2.2.2.1 p1.2.2.1) (some (.t Qp ((Zf p0).1,(((Zf p0).2).1,(a2.1,((GQ p0.2.2.2.1 p1.2.2.2.1 p1.2.2.1),(a2.2).2)))),[])) none) (br (ieq p1.2.1 2) (br (Jm p0.2.2.2.1 p1.2.2.1) (br (FL p0.2.2.2.1 a16) (some (.t Qp ((Zf p0).1,(((Zf p0).2).1,(a2.1,((woF p0.2.2.2.1 a16),(a2.2).2)))),[])) none) none) (br (ieq p1.2.1 3) (some (.t Qp ((Zf p0).1,(((Zf p0).2).1,(p1.2.2.1,a2.2))),[])) (br (ieq p1.2.1 4) (some (.t Qp ((Zf p0).1,(p1.2.2.1,((Zf p0).2).2)),[])) (br (ieq p1.2.1 5) (br (cSl ((a1.2).1) 0 p1.2.2.2.1 (a4:Int)) (br (Qt ([]:List Aj) a6 48) (br (Jn p1.2.2.2.2.1) (br (Qt (([]:List Aj)++a6) ([a3]) 48) (br (cSl ((a1.2).1) p1.2.2.2.1 (a4:Int) (a4:Int)) (br (Qt ((([]:List Aj)++a6)++([a3])) a10 48) (some (.t Qp ((Zf p0).1,(((Zf p0).2).1,(a2.1,((a2.2).1,(a1.1,((((([]:List Aj)++a6)++([a3]))++a10),a11)))))),[])) none) none) none) none) none) none) (br (ieq p1.2.1 6) (br (ZM p0 p1.2.2.1) (br (cSl ((a1.2).1) 0 a5 (a4:Int)) (br (Qt ([]:List Aj) a9 48) (br (cSl ((a1.2).1) (Qi .i64 a5 1) (a4:Int) (a4:Int)) (br (Qt (([]:List Aj)++a9) a8 48) (some (.t Qp ((Zf p0).1,(((Zf p0).2).1,(a2.1,((a2.2).1,(a1.1,(((([]:List Aj)++a9)++a8),a11)))))),[])) none) none) none) none) none) (br (ieq p1.2.1 7) (br a13 (some (.t Qp ((Zf p0).1,(((Zf p0).2).1,(a2.1,((a2.2).1,(a1.1,((a1.2).1,((EX p0.2.2.2.2.2.2.1 p1.2.2.1),((a1.2).2).2))))))),[])) none) (br (ieq p1.2.1 8) (br a13 (br (FL p0.2.2.2.2.2.2.1 a15) (some (.t Qp ((Zf p0).1,(((Zf p0).2).1,(a2.1,((a2.2).1,(a1.1,((a1.2).1,((woF p0.2.2.2.2.2.2.1 a15),((a1.2).2).2))))))),[])) none) none) (br (ieq p1.2.1 9) (br a12 (some (.t Qp ((Zf p0).1,(((Zf p0).2).1,(a2.1,((a2.2).1,(a1.1,((a1.2).1,(((a1.2).2).1,((EX p0.2.2.2.2.2.2.2.1 p1.2.2.1),a7.2)))))))),[])) none) (br (ieq p1.2.1 10) (br a12 (br (FL p0.2.2.2.2.2.2.2.1 a14) (some (.t Qp ((Zf p0).1,(((Zf p0).2).1,(a2.1,((a2.2).1,(a1.1,((a1.2).1,(((a1.2).2).1,((woF p0.2.2.2.2.2.2.2.1 a14),a7.2)))))))),[])) none) none) (br (ieq p1.2.1 11) (some (.t Qp ((Zf p0).1,(((Zf p0).2).1,(a2.1,((a2.2).1,(a1.1,((a1.2).1,(((a1.2).2).1,(a7.1,((ieq p1.2.2.1 1),(a7.2).2))))))))),[])) (br (ieq p1.2.1 12) (some (.t Qp ((Zf p0).1,(((Zf p0).2).1,(a2.1,((a2.2).1,((ieq p1.2.2.1 1),a1.2))))),[])) (some (.t Qp (Zf p0),[])))))))))))))) none
theorem brE {c:Bool}{x y:Ac}{A B:OV}(h1:c=true->A=some (.t Qp x,[]))(h2:B=some (.t Qp y,[])):br c A B=some (.t Qp (bif c then x else y),[]):=by
 cases c with
 |true=>exact h1 rfl
 |false=>exact h2
theorem Qbn {l1 l2:List Aj}(h1:l1.length<=300000)(h2:l2.length<=300000):Qt l1 l2 48=true:=QX (by decide) (by omega)
theorem Wj {a b:Int}(h:ieq a b=true):a=b:=by
 simpa [Fp] using h
theorem s_f129 (e c)(h:QgF e c=true):QBD e c=some (.t Qp (WL e c),[]):=by
 obtain ⟨h,hz⟩:=Bf.1 h
 obtain ⟨h1,h2⟩:=Bf.1 h
 have hz:ZU e c=0:=Wj hz
 obtain ⟨b1,b2,b3,b4,b5⟩:=(Gc h1).2
 unfold QBD WL
 refine brY h1 (brE (fun g=> ?_) (brE (fun g=> ?_) (brE (fun _=>rfl) (brE (fun _=>rfl) (brE (fun g=> ?_) (brE (fun g=> ?_) (brE (fun _=> ?_) (brE (fun g=> ?_) (brE (fun _=> ?_) (brE (fun g=> ?_) (brE (fun _=>rfl) (brE (fun _=>rfl) rfl))))))))))))
 ·obtain ⟨p1,p2⟩:=alw_1 hz (Wj g)
  exact brY (Bc ⟨p1,p2,b1⟩) rfl
 ·exact brY (Bc b1) (brY (OR hz (Wj g) (.inl rfl) b1) rfl)
 ·obtain ⟨p1,p2⟩:=alw_5 hz (Wj g)
  have e1:=FJ (y:=Q2) (l:=QF e) p1 p2
  have e2:=FK (y:=Q2) (l:=QF e) p1 p2
  have a1:(lsl (QF e) 0 (YK c)).length<=300000:=by omega
  have a2:(lsl (QF e) (YK c) ((List.length (QF e):Nat):Int)).length<=300000:=by omega
  have a3:(([]:List Aj)++lsl (QF e) 0 (YK c)).length<=300000:=a1
  have a4:((([]:List Aj)++lsl (QF e) 0 (YK c))++[ZV c]).length<=300000:=by
   rw [Bj,BM,Bh]
   omega
  exact brY (Bc ⟨BY 0,p1,p2,BY _⟩) (brY (Qbn (show 0<=300000 by decide) a1) (brY h2 (brY (Qbn a3 (show 1<=300000 by decide)) (brY (Bc ⟨p1,p2,BY _,BY _⟩) (brY (Qbn a4 a2) rfl)))))
 ·obtain ⟨p1,p2⟩:=alw_6 hz (Wj g)
  have e0:Qi .i64 (Zc e (Jr c)).2 1=(Zc e (Jr c)).2+1:=Ja (by omega)
  have e1:=FJ (y:=Q2) (l:=QF e) p1 (by omega)
  have e2:=FK (y:=Q2) (l:=QF e) (a:=(Zc e (Jr c)).2+1) (by omega) (by omega)
  have a1:(lsl (QF e) 0 (Zc e (Jr c)).2).length<=300000:=by omega
  have a2:(lsl (QF e) (Qi .i64 (Zc e (Jr c)).2 1) ((List.length (QF e):Nat):Int)).length<=300000:=by rw [e0];omega
  have a3:(([]:List Aj)++lsl (QF e) 0 (Zc e (Jr c)).2).length<=300000:=a1
  have q:cSl (QF e) (Qi .i64 (Zc e (Jr c)).2 1) ((List.length (QF e):Nat):Int) ((List.length (QF e):Nat):Int)=true:=by
   rw [e0]
   exact Bc ⟨by omega,by omega,BY _,BY _⟩
  exact brY (Bc b2) (brY (Bc ⟨BY 0,p1,(show (Zc e (Jr c)).2<=((QF e).length:Int) by omega),BY _⟩) (brY (Qbn (show 0<=300000 by decide) a1) (brY q (brY (Qbn a3 a2) rfl))))
 ·exact brY (Bc b3) rfl
 ·exact brY (Bc b3) (brY (OR hz (Wj g) (.inr (.inl rfl)) b3) rfl)
 ·exact brY (Bc b4) rfl
 ·exact brY (Bc b4) (brY (OR hz (Wj g) (.inr (.inr rfl)) b4) rfl)
def QBE:Ent:=Qm (.pr Qp (.pr ZD .nil)) (fun x=>(QgF x.1 x.2.1)) (fun x=>(.t Qp (WL x.1 x.2.1)))
theorem QSa:EM 129 QBE:=mS g_f129 QR9 [((.c 4 true 9),some Qp)] false (gB (gD Qxu (gD QBp (gD QGm (gD QF8 (gD QWG (gD Qxo (gD QWK gN)))))))) fun m=>Qq m fun x hok=>kT (s_f129 x.1 x.2.1 hok)
theorem QBF {l:List Int}{n:Int}:(EX l n).length=l.length+1:=by
 have:=QrB n l
 exact QF6 (by omega) (by omega)
theorem QgG {p:Aj->Bool}{l:List Aj}(h:l.all p=true)(a b:Int):(lsl l a b).all p=true:=by
 rw [Bi] at h ⊢
 exact fun x hx=>h x (List.mem_of_mem_drop (DA hx))
theorem QBG {n:Nat}{e:Ac}{c:Am}(h:Yp n e=true)(hn:n<=90000)(hi:Jn (ZV c)=true)(hz:ZU e c=0):Yp (n+1) (WL e c)=true:=by
 obtain ⟨h1,⟨h2,h3,h4,h5⟩,h6⟩:=QqP h
 have hm:=QqR h (Nat.le_succ n)
 have mk: ∀ x:Ac,x.1=e.1->(QI x).length<=n+1->(QF x).length<=n+1->(Ji x).length<=n+1->(Jk x).length<=n+1->(QF x).all Jn=true->Yp (n+1) x=true:=fun x g0 g1 g2 g3 g4 g5=>by
  unfold Yp
  rw [g0]
  simp only [Bd,Ba]
  exact ⟨⟨h1,g1,g2,g3,g4⟩,g5⟩
 unfold WL
 cases g1:ieq (Q7 c) 1 with
 |true=>
  obtain ⟨p1,p2⟩:=alw_1 hz (Wj g1)
  have:=QF6 (l:=QI e) (n:=Jr c) p1 p2
  exact mk _ rfl (by show (GQ (QI e) (YK c) (Jr c)).length<=n+1;omega) (by show (QF e).length<=n+1;omega) (by show (Ji e).length<=n+1;omega) (by show (Jk e).length<=n+1;omega) h6
 |false=>
  cases g2:ieq (Q7 c) 2 with
  |true=>
   have:=QrA (OR hz (Wj g2) (.inl rfl) (show (QI e).length<=100000 by omega))
   have this:(woF (QI e) (Z7 (QI e) (Jr c))).length+1=(QI e).length:=this
   exact mk _ rfl (by show (woF (QI e) (Z7 (QI e) (Jr c))).length<=n+1;omega) (by show (QF e).length<=n+1;omega) (by show (Ji e).length<=n+1;omega) (by show (Jk e).length<=n+1;omega) h6
  |false=>
   cases ieq (Q7 c) 3 with
   |true=>exact hm
   |false=>
    cases ieq (Q7 c) 4 with
    |true=>exact hm
    |false=>
     cases g5:ieq (Q7 c) 5 with
     |true=>
      obtain ⟨p1,p2⟩:=alw_5 hz (Wj g5)
      have e1:=FJ (y:=Q2) (l:=QF e) p1 p2
      have e2:=FK (y:=Q2) (l:=QF e) p1 p2
      have hal:(adI e c).length=(QF e).length+1:=by
       unfold adI
       rw [Bj,Bj,BM,Bh]
       omega
      refine mk _ rfl (by show (QI e).length<=n+1;omega) (by show (adI e c).length<=n+1;omega) (by show (Ji e).length<=n+1;omega) (by show (Jk e).length<=n+1;omega) ?_
      show (adI e c).all Jn=true
      unfold adI
      rw [List.all_append,List.all_append,BM,QgG h6,QgG h6]
      simp only [B2,DC,hi,B1]
     |false=>
      cases g6:ieq (Q7 c) 6 with
      |true=>
       obtain ⟨p1,p2⟩:=alw_6 hz (Wj g6)
       have e0:Qi .i64 (Zc e (Jr c)).2 1=(Zc e (Jr c)).2+1:=Ja (by omega)
       have e1:=FJ (y:=Q2) (l:=QF e) p1 (by omega)
       have e2:=FK (y:=Q2) (l:=QF e) (a:=(Zc e (Jr c)).2+1) (by omega) (by omega)
       have hal:(drI e c).length<=(QF e).length:=by
        unfold drI
        rw [e0,Bj,BM]
        omega
       refine mk _ rfl (by show (QI e).length<=n+1;omega) (by show (drI e c).length<=n+1;omega) (by show (Ji e).length<=n+1;omega) (by show (Jk e).length<=n+1;omega) ?_
       show (drI e c).all Jn=true
       unfold drI
       rw [List.all_append,BM,QgG h6,QgG h6]
       rfl
      |false=>
       have fin: ∀ l m:List Int,l.length<=n+1->m.length<=n+1->Yp (n+1) (anE e l)=true/\Yp (n+1) (hsE e m)=true:=fun l m hl hm=>⟨mk _ rfl (by show (QI e).length<=n+1;omega) (by show (QF e).length<=n+1;omega) hl (by show (Jk e).length<=n+1;omega) h6,mk _ rfl (by show (QI e).length<=n+1;omega) (by show (QF e).length<=n+1;omega) (by show (Ji e).length<=n+1;omega) hm h6⟩
       cases ieq (Q7 c) 7 with
       |true=>exact (fin _ [] (by rw [QBF];omega) (B0 _)).1
       |false=>
        cases g8:ieq (Q7 c) 8 with
        |true=>
         have:=QrA (OR hz (Wj g8) (.inr (.inl rfl)) (show (Ji e).length<=100000 by omega))
         have this:(woF (Ji e) (Z7 (Ji e) (Jr c))).length+1=(Ji e).length:=this
         exact (fin _ [] (by omega) (B0 _)).1
        |false=>
         cases ieq (Q7 c) 9 with
         |true=>exact (fin [] _ (B0 _) (by rw [QBF];omega)).2
         |false=>
          cases g10:ieq (Q7 c) 10 with
          |true=>
           have:=QrA (OR hz (Wj g10) (.inr (.inr rfl)) (show (Jk e).length<=100000 by omega))
           have this:(woF (Jk e) (Z7 (Jk e) (Jr c))).length+1=(Jk e).length:=this
           exact (fin [] _ (B0 _) (by omega)).2
          |false=>
           cases ieq (Q7 c) 11 with
           |true=>exact hm
           |false=>
            cases ieq (Q7 c) 12 with
            |true=>exact hm
            |false=>exact hm
def Yy (e:Ac)(c:Am):Ac×Int:=bif ine (ZU e c) 0 then (zEp,ZU e c) else bif ine (Zy (WL e c)) 0 then (zEp,18) else (WL e c,0)
def QgH (e:Ac)(c:Am):Bool:=Yp 80000 e&&Jn (ZV c)
def tc_f83:TC:=aF Tryz.f83 []
def g_f83:G:=gG 23 [(71,VA),(128,QEP),(129,QBE)] (fun _ _=>none)
def r_f83 (p0:Ac)(p1:Am):OV:=br (QqS p0 p1) (br (ine (ZU p0 p1) 0) (some (.tu [(.t Qp ((ByteArray.mk #[]),(0,(0,(([]:List Int),(false,(([]:List Aj),(([]:List Int),(([]:List Int),(false,())))))))))),(.t tI (ZU p0 p1))],[])) (br (QgF p0 p1) (br (QY (WL p0 p1)) (br (ine (Zy (WL p0 p1)) 0) (some (.tu [(.t Qp ((ByteArray.mk #[]),(0,(0,(([]:List Int),(false,(([]:List Aj),(([]:List Int),(([]:List Int),(false,())))))))))),(.t tI 18)],[])) (some (.tu [(.t Qp (WL p0 p1)),(.t tI 0)],[]))) none) none)) none
theorem s_f83 (e c)(h:QgH e c=true):r_f83 e c=some (.tu [.t Qp (Yy e c).1,.t tI (Yy e c).2],[]):=by
 obtain ⟨hb,hi⟩:=Bf.1 h
 have hl:=QqQ hb (by decide)
 unfold r_f83 Yy
 refine brY (Bf.2 ⟨hl,hi⟩) ?_
 cases hz:ine (ZU e c) 0 with
 |true=>rfl
 |false=>
  have hz0:ZU e c=0:=Qve hz
  have hq:QgF e c=true:=Bf.2 ⟨Bf.2 ⟨hl,hi⟩,by rw [hz0];rfl⟩
  rw [Qh]
  refine brY hq (brY (QqQ (QBG hb (by decide) hi hz0) (by decide)) ?_)
  cases ine (Zy (WL e c)) 0<;>rfl
def QBH:Ent:=Qm (.pr Qp (.pr ZD .nil)) (fun x=>(QgH x.1 x.2.1)) (fun x=>(.tu [(.t Qp ((Yy x.1 x.2.1).1)),(.t tI ((Yy x.1 x.2.1).2))]))
theorem ms_f83:EM 83 QBH:=mS g_f83 tc_f83 [((.c 4 true 9),some Qp),((.t 5),some tI)] false (gB (gD Qdj (gD QUO (gD QSa gN)))) fun m=>Qq m fun x hok=>kT (s_f83 x.1 x.2.1 hok)
theorem QSb {n:Nat}{e:Ac}{c:Am}(h:Yp n e=true)(hn:n<=80000)(hi:Jn (ZV c)=true)(hz:(Yy e c).2=0):Yp (n+1) (Yy e c).1=true:=by
 unfold Yy at hz ⊢
 cases h1:ine (ZU e c) 0 with
 |true=>
  rw [h1] at hz
  have:ZU e c=0:=hz
  rw [this] at h1
  exact absurd h1 (by decide)
 |false=>
  cases h2:ine (Zy (WL e c)) 0 with
  |true=>
   rw [h1,h2] at hz
   exact absurd (show (18:Int)=0 from hz) (by decide)
  |false=>exact QBG h (by omega) hi (Qve h1)
def vsOk (l:List Int)(n:Int)(k:Nat):Bool:= !ilt (l.getD k 0) 0&&(!ige (l.getD k 0) n&&(decide (k=0)|| !ige (l.getD (k-1) 0) (l.getD k 0)))
def vsUp (l:List Int)(n:Int)(k:Nat):Bool:=(List.range' k (l.length-k)).all (vsOk l n)
def vstF (l:List Int)(n:Int):Bool:=vsUp l n 0
theorem vs_in {l:List Int}{n:Int}(h:vstF l n=true): ∀ x∈l,0<=x/\x<n:=fun x hx=>by
 obtain ⟨k,hk⟩:=DX.1 hx
 obtain ⟨hk1,rfl⟩:=BN.1 hk
 unfold vstF vsUp at h
 rw [Bi] at h
 have:=h k (by rw [List.mem_range'];exact ⟨k,by omega,by omega⟩)
 unfold vsOk at this
 rw [show l.getD k 0=l[k] by simp only [Bp,Bl hk1,BU]] at this
 simp only [Bd,BB,ilt,ige,Bo] at this
 omega
abbrev zX:Ad:=(([]:List Ac),(([]:List Aa),(([]:List Ag),())))
def ZP (n:Nat)(x:Ad):Bool:=(QT x).all (Yp n)&&(decide ((QT x).length<=1000/\(J3 x).length<=1000)&&(Yd (Z4 x)&&(Z4 x).all Ec))
theorem Qln {n:Nat}{x:Ad}(h:ZP n x=true):(QT x).all (Yp n)=true/\((QT x).length<=1000/\(J3 x).length<=1000)/\Yd (Z4 x)=true/\(Z4 x).all Ec=true:=by
 simp only [ZP,Bd,Ba] at h
 exact ⟨h.1,h.2.1,h.2.2.1,h.2.2.2⟩
theorem Qvf {n:Nat}{x:Ad}(h:ZP n x=true)(hn:n<=90000):Jh x=true/\QeH x=true:=by
 obtain ⟨h1,⟨h2,h3⟩,h4,h5⟩:=Qln h
 have:Jh x=true:=by
  unfold Jh
  simp only [Bd,Ba]
  exact ⟨⟨by omega,by omega⟩,Bi.2 fun e he=>QqQ (Bi.1 h1 e he) (by omega),h4⟩
 exact ⟨this,Bf.2 ⟨this,h5⟩⟩
def Gh (x:Ad)(c:Am):Ad×Int:=
 bif ilt c.1 0 then (zX,40) else bif ige c.1 (Qb (QT x)) then (zX,40) else
 bif ine (Yy (Yr (QT x) c.1.toNat) c).2 0 then (zX,(Yy (Yr (QT x) c.1.toNat) c).2) else (((QT x).set c.1.toNat (Yy (Yr (QT x) c.1.toNat) c).1,(J3 x,(Z4 x,()))),0)
def F4 (x:Ad)(c:Am):Bool:=ZP 80000 x&&Jn (ZV c)
theorem QMa {p:Ac->Bool}{l:List Ac}(h:l.all p=true){k:Nat}(hk:k<l.length):p (Yr l k)=true:=by
 rw [show Yr l k=l[k] by simp only [Yr,Bp,Bl hk,BU]]
 exact Bi.1 h _ (BC hk)
def tc_f52:TC:=aF Tryz.f52 [(14,pE [[2],[2],[3],[3],[],[],[3],[],[],[],[],[6,5006,10006,15006],[6],[]] (oN 14))]
def g_f52:G:=gG 45 [(83,QBH),(84,QxB)] (fun _ _=>none)
def r_f52 (p0:Ad)(p1:Am):OV:=
 let a1:=lgt Qp p0.1 (Int.toNat p1.1)
 br (ilt p1.1 0) (some (.tu [(.t Qo (([]:List Ac),(([]:List Aa),(([]:List Ag),())))),(.t tI 40)],[])) (br (ige p1.1 (Qb p0.1)) (some (.tu [(.t Qo (([]:List Ac),(([]:List Aa),(([]:List Ag),())))),(.t tI 40)],[])) (br (cIx p0.1 p1.1) (br (QgH a1 p1) (br (ine ((Yy a1 p1).2) 0) (some (.tu [(.t Qo (([]:List Ac),(([]:List Aa),(([]:List Ag),())))),(.t tI ((Yy a1 p1).2))],[])) (br (QeH p0) (br (cIx ((Ub p0).1) p1.1) (br (cLd ((Ub p0).1) (Int.toNat p1.1)) (some (.tu [(.t Qo ((List.set ((Ub p0).1) (Int.toNat p1.1) ((Yy a1 p1).1)),(((Ub p0).2).1,((((Ub p0).2).2).1,())))),(.t tI 0)],[])) none) none) none)) none) none))
theorem s_f52 (x c)(h:F4 x c=true):r_f52 x c=some (.tu [.t Qo (Gh x c).1,.t tI (Gh x c).2],[]):=by
 obtain ⟨hb,hi⟩:=Bf.1 h
 obtain ⟨_,hcp⟩:=Qvf hb (by decide)
 unfold r_f52 Gh
 cases h1:ilt c.1 0 with
 |true=>rfl
 |false=>
  cases h2:ige c.1 (Qb (QT x)) with
  |true=>rfl
  |false=>
   simp only [ilt,ige,Qb,Bo] at h1 h2
   have hix:cIx (QT x) c.1=true:=Bc ⟨by omega,by omega⟩
   have hk:c.1.toNat<(QT x).length:=by omega
   have ha:QgH (Yr (QT x) c.1.toNat) c=true:=Bf.2 ⟨QMa (Qln hb).1 hk,hi⟩
   rw [Qh,Qh]
   refine brY hix (brY ha ?_)
   cases h3:ine (Yy (Yr (QT x) c.1.toNat) c).2 0 with
   |true=>rfl
   |false=>
    rw [Qh]
    exact brY hcp (brY hix (brY (Bc hk) rfl))
def QMb:Ent:=Qm (.pr Qo (.pr ZD .nil)) (fun x=>(F4 x.1 x.2.1)) (fun x=>(.tu [(.t Qo ((Gh x.1 x.2.1).1)),(.t tI ((Gh x.1 x.2.1).2))]))
theorem ms_f52:EM 52 QMb:=mS g_f52 tc_f52 [((.c 4 true 3),some Qo),((.t 5),some tI)] false (gB (gD ms_f83 (gD ms_f84 gN))) fun m=>Qq m fun x hok=>kT (s_f52 x.1 x.2.1 hok)
theorem QbS {n m:Nat}{x:Ad}(h:ZP n x=true)(hn:n<=m):ZP m x=true:=by
 obtain ⟨h1,h2,h3,h4⟩:=Qln h
 unfold ZP
 simp only [Bd,Ba]
 exact ⟨Bi.2 fun e he=>QqR (Bi.1 h1 e he) hn,h2,h3,h4⟩
theorem Qht (n:Nat):ZP n zX=true:=rfl
theorem QTU {n:Nat}{x:Ad}{c:Am}(h:ZP n x=true)(hn:n<=80000)(hi:Jn (ZV c)=true):ZP (n+1) (Gh x c).1=true:=by
 unfold Gh
 cases h1:ilt c.1 0 with
 |true=>exact Qht _
 |false=>
  cases h2:ige c.1 (Qb (QT x)) with
  |true=>exact Qht _
  |false=>
   cases h3:ine (Yy (Yr (QT x) c.1.toNat) c).2 0 with
   |true=>exact Qht _
   |false=>
    simp only [ilt,ige,Qb,Bo] at h1 h2
    have hk:c.1.toNat<(QT x).length:=by omega
    obtain ⟨g1,g2,g3,g4⟩:=Qln h
    have ha:=QSb (QMa g1 hk) hn hi (Qve h3)
    show ZP (n+1) ((QT x).set c.1.toNat (Yy (Yr (QT x) c.1.toNat) c).1,(J3 x,(Z4 x,())))=true
    unfold ZP
    simp only [Bd,Ba]
    refine ⟨Bi.2 fun e he=> ?_,⟨?_,g2.2⟩,g3,g4⟩
    ·rcases List.mem_or_eq_of_mem_set he with he|rfl
     ·exact QqR (Bi.1 g1 e he) (Nat.le_succ n)
     ·exact ha
    ·show ((QT x).set c.1.toNat (Yy (Yr (QT x) c.1.toNat) c).1).length<=1000
     rw [List.length_set]
     exact g2.1
def Ft (r:Ai)(u:Aa)(p:Int):Bool:=(r.Alg==0||r.Alg==u.1)&&(r.Purpose==0||r.Purpose==p)&&(r.Below==0||(decide (u.2.1 > 0)&&decide (u.2.1<r.Below)))
def QpR (r:Ai)(day:Int):Bool:=decide (r.From<=day)&&decide (day<r.To)
def Uh (r:Ai)(u:Aa)(p day:Int):Bool:=Ft r u p&&QpR r day
def QTn:TC:=aF Tryz.f213 []
def g_f213:G:=gG 43 [] (fun _ _=>none)
def QpS (p0:Ai)(p1:Aa)(p2:Int):OV:=br (ieq p0.2.2.1 0) (some (.t .bool true,[])) (br (igt p1.2.1 0) (some (.t .bool (ilt p1.2.1 p0.2.2.1),[])) (some (.t .bool false,[])))
def QpT (p0:Ai)(p1:Aa)(p2:Int):OV:=br (ine p0.2.2.2.1 0) (br (ine p0.2.2.2.1 p2) (some (.t .bool false,[])) (QpS p0 p1 p2)) (QpS p0 p1 p2)
def QC8 (p0:Ai)(p1:Aa)(p2:Int):OV:=br (ine p0.2.1 0) (br (ine p0.2.1 p1.1) (some (.t .bool false,[])) (QpT p0 p1 p2)) (QpT p0 p1 p2)
theorem s_f213 (p0 p1 p2):QC8 p0 p1 p2=some (.t .bool (Ft p0 p1 p2),[]):=by
 simp only [QC8,QpT,QpS]
 repeat' (refine Q1 ?_ ?_<;>intro _)
 all_goals (simp_all [Ft,Aa.Alg,Ae.Purpose,Ab.L,Ag.Purpose,Ai.Alg,Ai.Below,Ai.Purpose,Ai.From,Ai.To,Ak.p,Ak.l,Ak.o,Ak.day,Aq.outcome,Aq.uses,Af.From,Af.To,An.server,An.version,An.suites,Ar.name,Ar.kind,Al.name,Al.kind,Al.way,Al.sizes,Al.strengths]<;>omega)
def QC9:Ent:=Qm (.pr Jz (.pr Qe (.pr tI .nil))) (fun x=>true) (fun x=>(.t .bool (Ft x.1 x.2.1 x.2.2.1)))
theorem QTo:EM 213 QC9:=mS g_f213 QTn [((.t 6),some .bool)] false (gB gN) fun m=>Qq m fun x _=>kT (s_f213 x.1 x.2.1 x.2.2.1)
def QTp:TC:=aF Tryz.f216 []
def g_f216:G:=gG 59 [] (fun _ _=>none)
def QpU (p0:Ai)(p1:Aa)(p2 p3:Int):OV:=br (ige p3 p0.2.2.2.2.1) (some (.t .bool (ilt p3 p0.2.2.2.2.2.1),[])) (some (.t .bool false,[]))
def QpV (p0:Ai)(p1:Aa)(p2 p3:Int):OV:=br (ieq p0.2.2.2.1 0) (QpU p0 p1 p2 p3) (br (ieq p0.2.2.2.1 p2) (QpU p0 p1 p2 p3) (some (.t .bool false,[])))
def QpW (p0:Ai)(p1:Aa)(p2 p3:Int):OV:=br (ieq p0.2.2.1 0) (QpV p0 p1 p2 p3) (br (igt p1.2.1 0) (br (ilt p1.2.1 p0.2.2.1) (QpV p0 p1 p2 p3) (some (.t .bool false,[]))) (some (.t .bool false,[])))
def QDa (p0:Ai)(p1:Aa)(p2 p3:Int):OV:=br (ieq p0.2.1 0) (QpW p0 p1 p2 p3) (br (ieq p0.2.1 p1.1) (QpW p0 p1 p2 p3) (some (.t .bool false,[])))
theorem s_f216 (p0 p1 p2 p3):QDa p0 p1 p2 p3=some (.t .bool (Uh p0 p1 p2 p3),[]):=by
 simp only [QDa,QpW,QpV,QpU]
 repeat' (refine Q1 ?_ ?_<;>intro _)
 all_goals (simp_all [Uh,Ft,QpR,Aa.Alg,Ae.Purpose,Ab.L,Ag.Purpose,Ai.Alg,Ai.Below,Ai.Purpose,Ai.From,Ai.To,Ak.p,Ak.l,Ak.o,Ak.day,Aq.outcome,Aq.uses,Af.From,Af.To,An.server,An.version,An.suites,Ar.name,Ar.kind,Al.name,Al.kind,Al.way,Al.sizes,Al.strengths]<;>omega)
def QDb:Ent:=Qm (.pr Jz (.pr Qe (.pr tI (.pr tI .nil)))) (fun x=>true) (fun x=>(.t .bool (Uh x.1 x.2.1 x.2.2.1 x.2.2.2.1)))
theorem QTq:EM 216 QDb:=mS g_f216 QTp [((.t 8),some .bool)] false (gB gN) fun m=>Qq m fun x _=>kT (s_f216 x.1 x.2.1 x.2.2.1 x.2.2.2.1)
def same (a b:List Aa):Bool:=a==b
end K
end Go.Proofs.YtkmobehaikjdjaaGreat
