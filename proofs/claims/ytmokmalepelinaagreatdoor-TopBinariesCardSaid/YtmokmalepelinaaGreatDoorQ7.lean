import Derived.Test.YtmokmalepelinaaGreatDoorQ6
import Derived.Test.YtmokmalepelinaaGreatDoorQ5
set_option linter.unusedSimpArgs false
set_option linter.unusedVariables false
namespace Go.Proofs.YtmokmalepelinaaGreatDoor.K
open Go.RowKit Go.Shelf
noncomputable section
def bytsG:Nat->Dice->List Int×Dice
 |0,d=>([],d)
 |n+1,d=>(icv .u8 (dof d [0,1,2,103,230,9])::(bytsG n (dofN d [0,1,2,103,230,9])).1,(bytsG n (dofN d [0,1,2,103,230,9])).2)
def nmS (i:Int):ByteArray:=scat (lgt .str ([(ByteArray.mk #[46,116,101,120,116]),(ByteArray.mk #[46,100,97,116,97]),(ByteArray.mk #[46,98,115,115])]) (Int.toNat (irem i 3))) (lgt .str ([(ByteArray.mk #[]),(ByteArray.mk #[49])]) (Int.toNat (iquo .i64 i 3)))
def secD (d:Dice):List Int×Dice:=bytsG (dval (dnext d 4) 40).toNat (dnext (dnext d 4) 40)
def secsG:Nat->Int->Dice->List Section×Dice
 |0,_,d=>([],d)
 |n+1,i,d=>bif ilt i (dval d 4) then ((nmS i,((secD d).1,()))::(secsG n (iadd .i64 i 1) (secD d).2).1,(secsG n (iadd .i64 i 1) (secD d).2).2) else ([],dnext d 4)
def symsG:List ByteArray->Dice->List Symbol×Dice
 | [],d=>([],d)
 |s::l,d=>bif done d 2 then ((s,(dval (dnext d 2) 1048576,()))::(symsG l (dnext (dnext d 2) 1048576)).1,(symsG l (dnext (dnext d 2) 1048576)).2) else symsG l (dnext d 2)
theorem dok_next {d:Dice}(n:Int)(h:dOk d=true):dOk (dnext d n)=true:=by
 simp only [dOk,decide_eq_true_eq] at h
 unfold dnext
 split
 ·simpa only [dOk,decide_eq_true_eq] using h
 ·simp only [dOk,decide_eq_true_eq]
  exact ⟨by omega,h.2⟩
theorem byts_ok: ∀ (n:Nat) {d:Dice},dOk d=true->dOk (bytsG n d).2=true
 |0,_,h=>h
 |n+1,d,h=>byts_ok n (d:=dofN d [0,1,2,103,230,9]) (dok_next ([0,1,2,103,230,9]:List Int).length h)
theorem byts_len: ∀ (n:Nat) (d:Dice),(bytsG n d).1.length=n
 |0,_=>rfl
 |n+1,d=>by
  have:=byts_len n (dofN d [0,1,2,103,230,9])
  simp only [bytsG,List.length_cons,this]
theorem secD_ok {d:Dice}(h:dOk d=true):dOk (secD d).2=true:=byts_ok _ (dok_next _ (dok_next _ h))
theorem secs_okG: ∀ (n:Nat) (i:Int) {d:Dice},dOk d=true->dOk (secsG n i d).2=true
 |0,_,_,h=>h
 |n+1,i,d,h=>by
  unfold secsG
  cases ilt i (dval d 4) with
  |true=>exact secs_okG n _ (secD_ok h)
  |false=>exact dok_next 4 h
theorem syms_okG: ∀ (l:List ByteArray) {d:Dice},dOk d=true->dOk (symsG l d).2=true
 | [],_,h=>h
 |s::l,d,h=>by
  unfold symsG
  cases done d 2 with
  |true=>exact syms_okG l (dok_next 1048576 (dok_next 2 h))
  |false=>exact syms_okG l (dok_next 2 h)
def namesG:List ByteArray:=[(ByteArray.mk #[109,100,53,95,105,110,105,116]),(ByteArray.mk #[115,104,97,49]),(ByteArray.mk #[109,97,105,110]),(ByteArray.mk #[97,101,115,103,99,109,95,120]),(ByteArray.mk #[109,100,95,53]),(ByteArray.mk #[114,115,97,95,115,105,103,110]),(ByteArray.mk #[95,114,115,97])]
def imgV (d:Dice):Image:=((secsG 4 0 d).1,((symsG namesG (secsG 4 0 d).2).1,()))
def imgN (d:Dice):Dice:=(symsG namesG (secsG 4 0 d).2).2
noncomputable def dr_f7_0:List DO:=dT Tryz.f7 9
noncomputable def dr_f7_1:List DO:=dT Tryz.f7 15
def fg_f7_0:Fg:=⟨[(0,none),(2,none),(3,none),(4,some tI),(5,none),(6,some tI)],[(2,some tyImage),(3,none),(5,none),(27,none),(44,none),(65,none),(20300,none),(20301,none),(50000,some tyDice)]⟩
noncomputable def tb_f7_0:TC:=(.sq (.sq (.reg (rT Tryz.f7 6)) (.cd (.t 18) .sk (.fg ⟨[(0,none),(2,none),(3,none),(4,some tI),(5,none)],[(2,some tyImage),(3,some tyImage),(5,none),(27,none),(44,none),(65,none),(20300,none),(20301,none),(50000,some tyDice)]⟩ (.ex 2)))) (.sq (.bk 3 (.reg (rT Tryz.f7 7))) (.reg (rT Tryz.f7 8))))
def fg_f7_1:Fg:=⟨[(0,none),(2,none),(3,none),(4,some tI)],[(2,some tyImage),(3,none),(44,none),(65,none),(20300,none),(20301,none),(50000,some tyDice)]⟩
noncomputable def tb_f7_1:TC:=(.sq (.sq (.reg (rT Tryz.f7 3)) (.cd (.t 12) .sk (.fg ⟨[(0,none),(2,none),(3,none)],[(2,some tyImage),(3,some tyImage),(44,none),(65,none),(20300,none),(20301,none),(50000,some tyDice)]⟩ (.ex 0)))) (.sq (.bk 1 (.sq (.reg (rT Tryz.f7 4)) (.sq (.sq (.reg (rT Tryz.f7 5)) (.bk 2 (.nw 5 5 (.lp 0 fg_f7_0 tb_f7_0)))) (.dr dr_f7_0 [(0,[3,44,65,20300,20301]),(1,[3,44,65,20300,20301]),(2,[]),(3,[]),(4,[]),(5,[]),(6,[]),(7,[]),(8,[]),(9,[]),(10,[]),(11,[]),(12,[]),(13,[5,27]),(14,[5,27]),(15,[5,27,43,5043,10043,15043]),(16,[2,3,43,44,65,5044,10044,15044,20300,20301]),(17,[3,44,65,20300,20301]),(18,[2,3,44,65,20300,20301])] (.of [0,1,2,3,4,5,6,7,8,9,10,11,12,13,14,15,16,17,18]))))) (.reg (rT Tryz.f7 10))))
def fg_f7_2:Fg:=⟨[(0,none),(2,none),(3,none),(7,some (.sl .str)),(8,some tI)],[(2,some tyImage),(3,none),(44,none),(65,none),(20300,none),(20301,none),(50000,some tyDice)]⟩
noncomputable def tb_f7_2:TC:=(.sq (.sq (.reg (rT Tryz.f7 13)) (.cd (.t 50) .sk (.fg ⟨[(2,none),(3,none)],[(2,some tyImage),(3,some tyImage),(44,none),(65,none),(20300,none),(20301,none),(50000,some tyDice)]⟩ (.ex 4)))) (.sq (.bk 5 (.sq (.reg (rT Tryz.f7 14)) (.cd (.t 54) (.dr dr_f7_1 [(0,[3,44,65,20300,20301]),(1,[3,44,65,20300,20301]),(2,[]),(3,[]),(4,[]),(5,[]),(6,[50000]),(7,[62,5062,10062,15062,50000]),(8,[]),(9,[]),(10,[2,3,44,65,5065,10065,15065,20300,20301]),(11,[3,44,65,20300,20301]),(12,[2,3,44,65,20300,20301])] (.of [0,1,2,3,4,5,6,7,8,9,10,11,12])) .sk))) (.reg (rT Tryz.f7 16))))
noncomputable def tc_f7:TC:=(.sq (.reg (rT Tryz.f7 0)) (.sq (.reg (rT Tryz.f7 1)) (.sq (.sq (.reg (rT Tryz.f7 2)) (.bk 0 (.nf 3 1 94 20301 (.nf 3 0 91 20300 (.lp 1 fg_f7_1 tb_f7_1))))) (.sq (.reg (rT Tryz.f7 11)) (.sq (.sq (.reg (rT Tryz.f7 12)) (.bk 4 (.nf 3 0 91 20300 (.nf 3 1 94 20301 (.lp 2 fg_f7_2 tb_f7_2))))) (.sq (.reg (rT Tryz.f7 17)) .rt))))))
def rv_f7:List (RV×Option Ty):=[((.c 2 true 2),some tyImage)]
abbrev sh_f7_0:Sh:=⟨[(0,.ptr 50000 0),(2,.ptr 2 0),(3,.ptr 3 0),(4,.ty tI),(5,.ms 5),(6,.ty tI)],[(2,.box tyImage),(3,.bag [.ms 20300,.ms 20301]),(5,.arr 5 (.int .u8)),(27,.no),(44,.no),(65,.no),(20300,.arr 91 tySection),(20301,.arr 94 tySymbol),(50000,.box tyDice)]⟩
def st_f7_0 (x4 x6:Int)(y2:Image)(y5:List Int)(y20300:List Section)(y20301:List Symbol)(y50000:Dice):VS:=sh_f7_0.st ((),(),(),x4,(),x6,()) (y2,((),(),()),y5,(),(),(),y20300,y20301,y50000,())
abbrev sh_f7_0_e2:Sh:=⟨[(0,.ptr 50000 0),(2,.ptr 2 0),(3,.ptr 3 0),(4,.ty tI),(5,.ms 5)],[(2,.box tyImage),(3,.bag [.ms 20300,.ms 20301]),(5,.arr 5 (.int .u8)),(27,.no),(44,.no),(65,.no),(20300,.arr 91 tySection),(20301,.arr 94 tySymbol),(50000,.box tyDice)]⟩
def st_f7_0_e2 (x4:Int)(y2:Image)(y5:List Int)(y20300:List Section)(y20301:List Symbol)(y50000:Dice):VS:=sh_f7_0_e2.st ((),(),(),x4,(),()) (y2,((),(),()),y5,(),(),(),y20300,y20301,y50000,())
abbrev sh_f7_1:Sh:=⟨[(0,.ptr 50000 0),(2,.ptr 2 0),(3,.ptr 3 0),(4,.ty tI)],[(2,.box tyImage),(3,.bag [.ms 20300,.ms 20301]),(44,.no),(65,.no),(20300,.arr 91 tySection),(20301,.arr 94 tySymbol),(50000,.box tyDice)]⟩
def st_f7_1 (x4:Int)(y2:Image)(y20300:List Section)(y20301:List Symbol)(y50000:Dice):VS:=sh_f7_1.st ((),(),(),x4,()) (y2,((),(),()),(),(),y20300,y20301,y50000,())
abbrev sh_f7_1_e0:Sh:=⟨[(0,.ptr 50000 0),(2,.ptr 2 0),(3,.ptr 3 0)],[(2,.box tyImage),(3,.bag [.ms 20300,.ms 20301]),(44,.no),(65,.no),(20300,.arr 91 tySection),(20301,.arr 94 tySymbol),(50000,.box tyDice)]⟩
def st_f7_1_e0 (y2:Image)(y20300:List Section)(y20301:List Symbol)(y50000:Dice):VS:=sh_f7_1_e0.st ((),(),(),()) (y2,((),(),()),(),(),y20300,y20301,y50000,())
abbrev sh_f7_2:Sh:=⟨[(0,.ptr 50000 0),(2,.ptr 2 0),(3,.ptr 3 0),(7,.ty (.sl .str)),(8,.ty tI)],[(2,.box tyImage),(3,.bag [.ms 20300,.ms 20301]),(44,.no),(65,.no),(20300,.arr 91 tySection),(20301,.arr 94 tySymbol),(50000,.box tyDice)]⟩
def st_f7_2 (x7:List ByteArray)(x8:Int)(y2:Image)(y20300:List Section)(y20301:List Symbol)(y50000:Dice):VS:=sh_f7_2.st ((),(),(),x7,x8,()) (y2,((),(),()),(),(),y20300,y20301,y50000,())
abbrev sh_f7_2_e4:Sh:=⟨[(2,.ptr 2 0),(3,.ptr 3 0)],[(2,.box tyImage),(3,.bag [.ms 20300,.ms 20301]),(44,.no),(65,.no),(20300,.arr 91 tySection),(20301,.arr 94 tySymbol),(50000,.box tyDice)]⟩
def st_f7_2_e4 (y2:Image)(y20300:List Section)(y20301:List Symbol)(y50000:Dice):VS:=sh_f7_2_e4.st ((),(),()) (y2,((),(),()),(),(),y20300,y20301,y50000,())
def L_f7_0:VS->Option (Bool×List (Bool×Exit×VS)):=mkL sh_f7_0 (fun x y=>(dOk y.2.2.2.2.2.2.2.2.1&&decide (0<=x.2.2.2.2.2.1/\y.2.2.1.length+x.2.2.2.2.2.1.toNat<=100))) (fun x y=>[(true,.exit 2,st_f7_0_e2 (x.2.2.2.1) (y.1) (y.2.2.1++(bytsG x.2.2.2.2.2.1.toNat y.2.2.2.2.2.2.2.2.1).1) (y.2.2.2.2.2.2.1) (y.2.2.2.2.2.2.2.1) ((bytsG x.2.2.2.2.2.1.toNat y.2.2.2.2.2.2.2.2.1).2))])
def L_f7_1:VS->Option (Bool×List (Bool×Exit×VS)):=mkL sh_f7_1 (fun x y=>(dOk y.2.2.2.2.2.2.1&&decide (0<=x.2.2.2.1/\x.2.2.2.1<=3/\y.2.2.2.2.1.length+(3-x.2.2.2.1.toNat)<=100))) (fun x y=>[(true,.exit 0,st_f7_1_e0 (y.1) (y.2.2.2.2.1++(secsG (4-x.2.2.2.1.toNat) x.2.2.2.1 y.2.2.2.2.2.2.1).1) (y.2.2.2.2.2.1) ((secsG (4-x.2.2.2.1.toNat) x.2.2.2.1 y.2.2.2.2.2.2.1).2))])
def L_f7_2:VS->Option (Bool×List (Bool×Exit×VS)):=mkL sh_f7_2 (fun x y=>(dOk y.2.2.2.2.2.2.1&&decide (0<=x.2.2.2.2.1/\x.2.2.2.2.1<=x.2.2.2.1.length/\x.2.2.2.1.length<=100/\y.2.2.2.2.2.1.length+(x.2.2.2.1.length-x.2.2.2.2.1.toNat)<=100))) (fun x y=>[(true,.exit 4,st_f7_2_e4 (y.1) (y.2.2.2.2.1) (y.2.2.2.2.2.1++(symsG (x.2.2.2.1.drop x.2.2.2.2.1.toNat) y.2.2.2.2.2.2.1).1) ((symsG (x.2.2.2.1.drop x.2.2.2.2.1.toNat) y.2.2.2.2.2.2.1).2))])
def g_f7:G:=⟨TYs,[43],68,EL [(25,sp_f25),(26,sp_f26),(27,sp_f27)],keeps,(Ls [L_f7_0,L_f7_1,L_f7_2]),IL [],RL []⟩
def b_f7_0 (x4 x6:Int)(y2:Image)(y5:List Int)(y20300:List Section)(y20301:List Symbol)(y50000:Dice):Option (Exit×VS):=
 let a1:=(icv .u8 (dof y50000 ([0,1,2,103,230,9])))
 br (igt x6 0) (br (ofOk y50000 ([0,1,2,103,230,9])) (br (cApp y5 ([a1]) 1) (some (.normal,st_f7_0 x4 (isub .i64 x6 1) y2 (y5++([a1])) y20300 y20301 (dofN y50000 ([0,1,2,103,230,9])))) none) none) (some (.exit 2,st_f7_0_e2 x4 y2 y5 y20300 y20301 y50000))
noncomputable def lp_f7_0 (x4 x6:Int)(y2:Image)(y5:List Int)(y20300:List Section)(y20301:List Symbol)(y50000:Dice):Option (Exit×VS):=loopF (roundF g_f7 fg_f7_0 tb_f7_0) (st_f7_0 x4 x6 y2 y5 y20300 y20301 y50000)
noncomputable def n_f7_0 (x4 x6:Int)(y2:Image)(y5:List Int)(y20300:List Section)(y20301:List Symbol)(y50000:Dice):Option (Exit×VS):=
 let a1:=(icv .u8 (dof y50000 ([0,1,2,103,230,9])))
 br (igt x6 0) (br (ofOk y50000 ([0,1,2,103,230,9])) (br (cApp y5 ([a1]) 1) (lp_f7_0 x4 (isub .i64 x6 1) y2 (y5++([a1])) y20300 y20301 (dofN y50000 ([0,1,2,103,230,9]))) none) none) (some (.exit 2,st_f7_0_e2 x4 y2 y5 y20300 y20301 y50000))
def la_f7_0 (x4 x6:Int)(y2:Image)(y5:List Int)(y20300:List Section)(y20301:List Symbol)(y50000:Dice):Option (Exit×VS):=
 let a1:=bytsG x6.toNat y50000
 some (.exit 2,st_f7_0_e2 (x4) (y2) (y5++a1.1) (y20300) (y20301) (a1.2))
theorem be_f7_0 (x4 x6:Int)(y2:Image)(y5:List Int)(y20300:List Section)(y20301:List Symbol)(y50000:Dice):roundF g_f7 fg_f7_0 tb_f7_0 (st_f7_0 x4 x6 y2 y5 y20300 y20301 y50000)=b_f7_0 x4 x6 y2 y5 y20300 y20301 y50000:=by kernel_rfl
theorem ln_f7_0 (x4 x6:Int)(y2:Image)(y5:List Int)(y20300:List Section)(y20301:List Symbol)(y50000:Dice):lp_f7_0 x4 x6 y2 y5 y20300 y20301 y50000=n_f7_0 x4 x6 y2 y5 y20300 y20301 y50000:=(loopF_nxt _ _).trans (by
 rw [be_f7_0]
 simp only [b_f7_0,n_f7_0,nxt_br,nxt_n,nxt_r,nxt_e,nxt_0]
 rfl)
def b_f7_1 (x4:Int)(y2:Image)(y20300:List Section)(y20301:List Symbol)(y50000:Dice):Option (Exit×VS):=
 let a1:=(lgt .str ([(ByteArray.mk #[46,116,101,120,116]),(ByteArray.mk #[46,100,97,116,97]),(ByteArray.mk #[46,98,115,115])]) (Int.toNat (irem (x4) 3)))
 let a3:=dnext y50000 4
 let a2:=((scat a1 (lgt .str ([(ByteArray.mk #[]),(ByteArray.mk #[49])]) (Int.toNat (iquo .i64 (x4) 3)))),((([]:List Int)++(bytsG (dval a3 40).toNat (dnext a3 40)).1),()))
 br (nextOk y50000 4) (br (ilt x4 (dval y50000 4)) (br (nextOk a3 40) (br (dOk (dnext a3 40)&&decide (0<=(dval a3 40)/\([]:List Int).length+(dval a3 40).toNat<=100)) (br (cNz 3) (br (cIx ([(ByteArray.mk #[46,116,101,120,116]),(ByteArray.mk #[46,100,97,116,97]),(ByteArray.mk #[46,98,115,115])]) (irem (x4) 3)) (br (cNz 3) (br (cIx ([(ByteArray.mk #[]),(ByteArray.mk #[49])]) (iquo .i64 (x4) 3)) (br (cCat a1 (lgt .str ([(ByteArray.mk #[]),(ByteArray.mk #[49])]) (Int.toNat (iquo .i64 (x4) 3)))) (br (cApp (y20300) ([a2]) 40) (some (.normal,st_f7_1 (iadd .i64 (x4) 1) (y2) ((y20300)++([a2])) (y20301) ((bytsG (dval a3 40).toNat (dnext a3 40)).2))) none) none) none) none) none) none) none) none) (some (.exit 0,st_f7_1_e0 y2 y20300 y20301 a3))) none
noncomputable def lp_f7_1 (x4:Int)(y2:Image)(y20300:List Section)(y20301:List Symbol)(y50000:Dice):Option (Exit×VS):=loopF (roundF g_f7 fg_f7_1 tb_f7_1) (st_f7_1 x4 y2 y20300 y20301 y50000)
noncomputable def n_f7_1 (x4:Int)(y2:Image)(y20300:List Section)(y20301:List Symbol)(y50000:Dice):Option (Exit×VS):=
 let a1:=(lgt .str ([(ByteArray.mk #[46,116,101,120,116]),(ByteArray.mk #[46,100,97,116,97]),(ByteArray.mk #[46,98,115,115])]) (Int.toNat (irem (x4) 3)))
 let a3:=dnext y50000 4
 let a2:=((scat a1 (lgt .str ([(ByteArray.mk #[]),(ByteArray.mk #[49])]) (Int.toNat (iquo .i64 (x4) 3)))),((([]:List Int)++(bytsG (dval a3 40).toNat (dnext a3 40)).1),()))
 br (nextOk y50000 4) (br (ilt x4 (dval y50000 4)) (br (nextOk a3 40) (br (dOk (dnext a3 40)&&decide (0<=(dval a3 40)/\([]:List Int).length+(dval a3 40).toNat<=100)) (br (cNz 3) (br (cIx ([(ByteArray.mk #[46,116,101,120,116]),(ByteArray.mk #[46,100,97,116,97]),(ByteArray.mk #[46,98,115,115])]) (irem (x4) 3)) (br (cNz 3) (br (cIx ([(ByteArray.mk #[]),(ByteArray.mk #[49])]) (iquo .i64 (x4) 3)) (br (cCat a1 (lgt .str ([(ByteArray.mk #[]),(ByteArray.mk #[49])]) (Int.toNat (iquo .i64 (x4) 3)))) (br (cApp (y20300) ([a2]) 40) (lp_f7_1 (iadd .i64 (x4) 1) (y2) ((y20300)++([a2])) (y20301) ((bytsG (dval a3 40).toNat (dnext a3 40)).2)) none) none) none) none) none) none) none) none) (some (.exit 0,st_f7_1_e0 y2 y20300 y20301 a3))) none
def la_f7_1 (x4:Int)(y2:Image)(y20300:List Section)(y20301:List Symbol)(y50000:Dice):Option (Exit×VS):=
 let a1:=secsG (4-x4.toNat) x4 y50000
 some (.exit 0,st_f7_1_e0 (y2) (y20300++a1.1) (y20301) (a1.2))
theorem be_f7_1 (x4:Int)(y2:Image)(y20300:List Section)(y20301:List Symbol)(y50000:Dice):roundF g_f7 fg_f7_1 tb_f7_1 (st_f7_1 x4 y2 y20300 y20301 y50000)=b_f7_1 x4 y2 y20300 y20301 y50000:=by kernel_rfl
theorem ln_f7_1 (x4:Int)(y2:Image)(y20300:List Section)(y20301:List Symbol)(y50000:Dice):lp_f7_1 x4 y2 y20300 y20301 y50000=n_f7_1 x4 y2 y20300 y20301 y50000:=(loopF_nxt _ _).trans (by
 rw [be_f7_1]
 simp only [b_f7_1,n_f7_1,nxt_br,nxt_n,nxt_r,nxt_e,nxt_0]
 rfl)
def b_f7_2 (x7:List ByteArray)(x8:Int)(y2:Image)(y20300:List Section)(y20301:List Symbol)(y50000:Dice):Option (Exit×VS):=
 let a2:=dnext y50000 2
 let a1:=((lgt .str x7 (Int.toNat x8)),((dval a2 1048576),()))
 br (ilt x8 (llen x7)) (br (oneOk y50000 2) (br (done y50000 2) (br (cIx x7 x8) (br (nextOk a2 1048576) (br (cApp y20301 ([a1]) 24) (some (.normal,st_f7_2 x7 (iadd .i64 x8 1) y2 y20300 (y20301++([a1])) (dnext a2 1048576))) none) none) none) (some (.normal,st_f7_2 x7 (iadd .i64 x8 1) y2 y20300 y20301 a2))) none) (some (.exit 4,st_f7_2_e4 y2 y20300 y20301 y50000))
noncomputable def lp_f7_2 (x7:List ByteArray)(x8:Int)(y2:Image)(y20300:List Section)(y20301:List Symbol)(y50000:Dice):Option (Exit×VS):=loopF (roundF g_f7 fg_f7_2 tb_f7_2) (st_f7_2 x7 x8 y2 y20300 y20301 y50000)
noncomputable def n_f7_2 (x7:List ByteArray)(x8:Int)(y2:Image)(y20300:List Section)(y20301:List Symbol)(y50000:Dice):Option (Exit×VS):=
 let a2:=dnext y50000 2
 let a1:=((lgt .str x7 (Int.toNat x8)),((dval a2 1048576),()))
 br (ilt x8 (llen x7)) (br (oneOk y50000 2) (br (done y50000 2) (br (cIx x7 x8) (br (nextOk a2 1048576) (br (cApp y20301 ([a1]) 24) (lp_f7_2 x7 (iadd .i64 x8 1) y2 y20300 (y20301++([a1])) (dnext a2 1048576)) none) none) none) (lp_f7_2 x7 (iadd .i64 x8 1) y2 y20300 y20301 a2)) none) (some (.exit 4,st_f7_2_e4 y2 y20300 y20301 y50000))
def la_f7_2 (x7:List ByteArray)(x8:Int)(y2:Image)(y20300:List Section)(y20301:List Symbol)(y50000:Dice):Option (Exit×VS):=
 let a1:=symsG (x7.drop x8.toNat) y50000
 some (.exit 4,st_f7_2_e4 (y2) (y20300) (y20301++a1.1) (a1.2))
theorem be_f7_2 (x7:List ByteArray)(x8:Int)(y2:Image)(y20300:List Section)(y20301:List Symbol)(y50000:Dice):roundF g_f7 fg_f7_2 tb_f7_2 (st_f7_2 x7 x8 y2 y20300 y20301 y50000)=b_f7_2 x7 x8 y2 y20300 y20301 y50000:=by kernel_rfl
theorem ln_f7_2 (x7:List ByteArray)(x8:Int)(y2:Image)(y20300:List Section)(y20301:List Symbol)(y50000:Dice):lp_f7_2 x7 x8 y2 y20300 y20301 y50000=n_f7_2 x7 x8 y2 y20300 y20301 y50000:=(loopF_nxt _ _).trans (by
 rw [be_f7_2]
 simp only [b_f7_2,n_f7_2,nxt_br,nxt_n,nxt_r,nxt_e,nxt_0]
 rfl)
def r_f7 (d0:Dice):Option (V×List VO):=
 let a2:=(ByteArray.mk #[109,100,53,95,105,110,105,116])
 let a6:=(ByteArray.mk #[115,104,97,49])
 let a5:=(ByteArray.mk #[109,97,105,110])
 let a4:=(ByteArray.mk #[97,101,115,103,99,109,95,120])
 let a7:=(ByteArray.mk #[109,100,95,53])
 let a3:=(ByteArray.mk #[114,115,97,95,115,105,103,110])
 let a8:=(ByteArray.mk #[95,114,115,97])
 let a9:=(secsG (4-(0:Int).toNat) (0:Int) d0)
 let a1:=(symsG (([a2,a6,a5,a4,a7,a3,a8]).drop (0:Int).toNat) (a9.2))
 br (dOk d0&&decide (0<=(0:Int)/\(0:Int)<=3/\([]:List Section).length+(3-(0:Int).toNat)<=100)) (br (dOk (a9.2)&&decide (0<=(0:Int)/\(0:Int)<=([a2,a6,a5,a4,a7,a3,a8]).length/\([a2,a6,a5,a4,a7,a3,a8]).length<=100/\([]:List Symbol).length+(([a2,a6,a5,a4,a7,a3,a8]).length-(0:Int).toNat)<=100)) (some (.t tyImage ((([]:List Section)++a9.1),((([]:List Symbol)++a1.1),())),[.box (.t tyDice (a1.2))])) none) none
theorem e_f7 (d0:Dice):runF g_f7 tc_f7 rv_f7 false [.ptr 50000 0] [.box (.t tyDice d0)]=r_f7 d0:=by kernel_rfl
theorem en_f7:Entered Tryz.prog 7:= .inr ⟨by decide,_,Tryz.func7,by kernel_rfl,by kernel_rfl⟩
theorem gk_f7:GOk Tryz.prog g_f7:=gok_of _ (gA (gC en_f25 ms_f25 (gC en_f26 ms_f26 (gC en_f27 ms_f27 gN))))
theorem l_f7_0 (x4 x6:Int)(y2:Image)(y5:List Int)(y20300:List Section)(y20301:List Symbol)(y50000:Dice)(h:(dOk y50000&&decide (0<=x6/\y5.length+x6.toNat<=100))=true):lp_f7_0 x4 x6 y2 y5 y20300 y20301 y50000=la_f7_0 x4 x6 y2 y5 y20300 y20301 y50000:=by
 simp only [Bool.and_eq_true,decide_eq_true_eq] at h
 obtain ⟨h1,h2,h3⟩:=h
 obtain ⟨n,rfl⟩:=Int.eq_ofNat_of_zero_le h2
 rw [Int.toNat_natCast] at h3
 induction n generalizing y5 y50000 with
 |zero=>
  rw [ln_f7_0]
  simp [n_f7_0,la_f7_0,igt,br_false,bytsG]
 |succ n ih=>
  rw [ln_f7_0]
  have e1:igt ((n+1:Nat):Int) 0=true:=by simp only [igt,decide_eq_true_eq];omega
  have e2:isub .i64 ((n+1:Nat):Int) 1=(n:Int):=by rw [isub_in (by omega)];omega
  have e3:ofOk y50000 [0,1,2,103,230,9]=true:=by simp only [ofOk,h1,Bool.true_and];rfl
  have:=ih (y5++[icv .u8 (dof y50000 [0,1,2,103,230,9])]) (dofN y50000 [0,1,2,103,230,9]) (dok_next _ h1) (by omega) (by rw [List.length_append];simp only [List.length_singleton];omega)
  simp only [n_f7_0,e1,e2,e3,br_true]
  rw [cApp_ok (by simp only [List.length_singleton];omega) (by omega),br_true,this]
  simp only [la_f7_0,Int.toNat_natCast,bytsG,List.append_assoc,List.singleton_append]
theorem l_f7_1 (x4:Int)(y2:Image)(y20300:List Section)(y20301:List Symbol)(y50000:Dice)(h:(dOk y50000&&decide (0<=x4/\x4<=3/\y20300.length+(3-x4.toNat)<=100))=true):lp_f7_1 x4 y2 y20300 y20301 y50000=la_f7_1 x4 y2 y20300 y20301 y50000:=by
 simp only [Bool.and_eq_true,decide_eq_true_eq] at h
 obtain ⟨h1,h2,h3,h4⟩:=h
 obtain ⟨k,rfl⟩:=Int.eq_ofNat_of_zero_le h2
 rw [Int.toNat_natCast] at h4
 obtain ⟨n,hn⟩: ∃ n,n=3-k:=⟨_,rfl⟩
 induction n generalizing k y20300 y50000 with
 |zero=>
  have hk:k=3:=by omega
  subst hk
  have e0:nextOk y50000 4=true:=by simp only [nextOk,h1,Bool.true_and];rfl
  have e1:ilt ((3:Nat):Int) (dval y50000 4)=false:=by
   have:=dval_lt (d:=y50000) (n:=4) (by omega)
   simp only [ilt,decide_eq_false_iff_not];omega
  rw [ln_f7_1]
  simp only [n_f7_1,e0,e1,br_true,br_false,la_f7_1,Int.toNat_natCast,secsG,cond_false,List.append_nil]
 |succ n ih=>
  have e0:nextOk y50000 4=true:=by simp only [nextOk,h1,Bool.true_and];rfl
  rw [ln_f7_1]
  simp only [n_f7_1,e0,br_true,la_f7_1,Int.toNat_natCast]
  rw [show 4-k=(4-(k+1))+1 by omega]
  unfold secsG
  cases hc:ilt (k:Int) (dval y50000 4) with
  |false=>simp only [br_false,cond_false,List.append_nil]
  |true=>
   have e2:nextOk (dnext y50000 4) 40=true:=by simp only [nextOk,dok_next _ h1,Bool.true_and];rfl
   have hb:=dval_lt (d:=dnext y50000 4) (n:=40) (by omega)
   have hk3:k=0∨k=1∨k=2:=by omega
   have c1:cIx ([(ByteArray.mk #[46,116,101,120,116]),(ByteArray.mk #[46,100,97,116,97]),(ByteArray.mk #[46,98,115,115])]) (irem (k:Int) 3)=true:=by rcases hk3 with rfl|rfl|rfl<;>rfl
   have c2:cIx ([(ByteArray.mk #[]),(ByteArray.mk #[49])]) (iquo .i64 (k:Int) 3)=true:=by rcases hk3 with rfl|rfl|rfl<;>rfl
   have c3:cCat (lgt .str ([(ByteArray.mk #[46,116,101,120,116]),(ByteArray.mk #[46,100,97,116,97]),(ByteArray.mk #[46,98,115,115])]) (Int.toNat (irem (k:Int) 3))) (lgt .str ([(ByteArray.mk #[]),(ByteArray.mk #[49])]) (Int.toNat (iquo .i64 (k:Int) 3)))=true:=by rcases hk3 with rfl|rfl|rfl<;>rfl
   rw [br_true,e2,br_true]
   have q0:([]:List Int).length+(dval (dnext y50000 4) 40).toNat<=100:=by rw [List.length_nil];omega
   refine (br_of (and_dec (dok_next _ (dok_next _ h1)) ⟨hb.1,q0⟩)).trans ?_
   rw [show cNz 3=true from rfl,br_true,c1,br_true,br_true,c2,br_true,c3,br_true,cApp_ok (by simp only [List.length_singleton];omega) (by omega),br_true,add1 (by omega)]
   refine (ih (y20300:=y20300++[(nmS k,((secD y50000).1,()))]) (y50000:=(secD y50000).2) (secD_ok h1) (k:=k+1) (by omega) (by omega) (by rw [List.length_append];simp only [List.length_singleton];omega) (by omega)).trans ?_
   simp only [la_f7_1,Int.toNat_natCast,cond_true,List.append_assoc,List.singleton_append]
theorem l_f7_2 (x7:List ByteArray)(x8:Int)(y2:Image)(y20300:List Section)(y20301:List Symbol)(y50000:Dice)(h:(dOk y50000&&decide (0<=x8/\x8<=x7.length/\x7.length<=100/\y20301.length+(x7.length-x8.toNat)<=100))=true):lp_f7_2 x7 x8 y2 y20300 y20301 y50000=la_f7_2 x7 x8 y2 y20300 y20301 y50000:=by
 simp only [Bool.and_eq_true,decide_eq_true_eq] at h
 obtain ⟨h1,h2,h3,h4,h5⟩:=h
 obtain ⟨k,rfl⟩:=Int.eq_ofNat_of_zero_le h2
 rw [Int.toNat_natCast] at h5
 revert y20301 y50000
 refine range_ind x7 (fun k=> ∀ (y20301:List Symbol) (y50000:Dice),dOk y50000=true->y20301.length+(x7.length-k)<=100->lp_f7_2 x7 (k:Int) y2 y20300 y20301 y50000=la_f7_2 x7 (k:Int) y2 y20300 y20301 y50000) ?_ ?_ k (by omega)
 ·intro y20301 y50000 h1 _
  rw [ln_f7_2]
  simp [n_f7_2,la_f7_2,ilt_llen,br_false,symsG]
 ·intro k hk ih y20301 y50000 h1 hy
  have e1:oneOk y50000 2=true:=by simp only [oneOk,nextOk,h1,Bool.true_and];rfl
  have e2:nextOk (dnext y50000 2) 1048576=true:=by simp only [nextOk,dok_next _ h1,Bool.true_and];rfl
  rw [ln_f7_2]
  simp only [n_f7_2,ilt_llen,cIx_nat,hk,decide_true,br_true,Int.toNat_natCast,add1 (k:=k),lgt_get (y:= .str) hk,e1,e2,la_f7_2,List.drop_eq_getElem_cons hk,symsG]
  cases hd:done y50000 2 with
  |false=>
   rw [br_false,ih _ _ (dok_next _ h1) (by omega)]
   simp only [la_f7_2,Int.toNat_natCast,cond_false]
  |true=>
   rw [br_true,cApp_ok (by simp only [List.length_singleton];omega) (by omega),br_true,ih _ _ (dok_next _ (dok_next _ h1)) (by rw [List.length_append];simp only [List.length_singleton];omega)]
   simp only [la_f7_2,Int.toNat_natCast,cond_true,List.append_assoc,List.singleton_append]
theorem lo_f7_0: ∀ S l p,g_f7.L 0 (fgt fg_f7_0 S)=some (true,l)->pickA l=some p->loopF (roundF g_f7 fg_f7_0 tb_f7_0) S=some p:=
 lok_of (s:=sh_f7_0) ⟨by decide,by decide⟩ (by kernel_rfl) fun x y hok p hp=>by
 simp only [pickA_br,pickA_one] at hp
 exact (l_f7_0 x.2.2.2.1 x.2.2.2.2.2.1 y.1 y.2.2.1 y.2.2.2.2.2.2.1 y.2.2.2.2.2.2.2.1 y.2.2.2.2.2.2.2.2.1 (by simpa using hok)).trans hp
theorem lo_f7_1: ∀ S l p,g_f7.L 1 (fgt fg_f7_1 S)=some (true,l)->pickA l=some p->loopF (roundF g_f7 fg_f7_1 tb_f7_1) S=some p:=
 lok_of (s:=sh_f7_1) ⟨by decide,by decide⟩ (by kernel_rfl) fun x y hok p hp=>by
 simp only [pickA_br,pickA_one] at hp
 exact (l_f7_1 x.2.2.2.1 y.1 y.2.2.2.2.1 y.2.2.2.2.2.1 y.2.2.2.2.2.2.1 (by simpa using hok)).trans hp
theorem lo_f7_2: ∀ S l p,g_f7.L 2 (fgt fg_f7_2 S)=some (true,l)->pickA l=some p->loopF (roundF g_f7 fg_f7_2 tb_f7_2) S=some p:=
 lok_of (s:=sh_f7_2) ⟨by decide,by decide⟩ (by kernel_rfl) fun x y hok p hp=>by
 simp only [pickA_br,pickA_one] at hp
 exact (l_f7_2 x.2.2.2.1 x.2.2.2.2.1 y.1 y.2.2.2.2.1 y.2.2.2.2.2.1 y.2.2.2.2.2.2.1 (by simpa using hok)).trans hp
theorem lk_f7:tc_f7.lok g_f7:=by
 repeat (first|exact trivial|exact lo_f7_0|exact lo_f7_1|exact lo_f7_2|refine ⟨?_, ?_⟩)
theorem s_f7 (d:Dice)(h:dOk d=true):r_f7 d=some (.t tyImage (imgV d),[.box (.t tyDice (imgN d))]):=by
 simp only [r_f7]
 refine (br_of (and_dec h (by simp))).trans ?_
 refine (br_of (and_dec (secs_okG 4 0 h) (by simp))).trans ?_
 rfl
def sp_f7:Ent:=specP tyDice .nil (fun d x=>(dOk d)) (fun d x=>(.t tyImage (imgV d))) (fun d x=>(imgN d))
theorem ms_f7:Meets Tryz.prog 7 (strip sp_f7):=meets_specP (R:=runF g_f7 tc_f7 rv_f7 false) (mG Tryz.func7 (by kernel_rfl) Tryz.ntmps7 (by kernel_rfl) gk_f7 lk_f7) rfl fun d x hok=>(e_f7 d).trans (s_f7 d hok)
end
end Go.Proofs.YtmokmalepelinaaGreatDoor.K
namespace Go.Proofs.YtmokmalepelinaaGreatDoor.K
open Go.RowKit Go.Shelf
noncomputable section
theorem byG_nat (n k:Nat)(hk:k<=7):byG (n:Int) k=((n / 256 ^ k % 256:Nat):Int):=by
 show IntKind.u8.wrap (Int.fdiv (n:Int) (2 ^ (min ((8*k:Nat):Int).toNat 64)))=_
 rw [Int.toNat_natCast,Nat.min_eq_left (by omega)]
 have e:((2:Int) ^ (8*k))=((256 ^ k:Nat):Int):=by
  rw [show (256 ^ k:Nat)=2 ^ (8*k) by rw [Nat.pow_mul],Int.natCast_pow]
  rfl
 rw [e, ← Int.ofNat_fdiv,IntKind.wrap_u8]
 omega
theorem numL_isB (n:Nat): ∀ k,k<=8->(numL (n:Int) k).all isBy=true
 |0,_=>rfl
 |k+1,h=>by
  rw [numL,List.all_cons,numL_isB n k (by omega),byG_nat n k (by omega),Bool.and_true]
  have:=Nat.mod_lt (n / 256 ^ k) (show 0<256 by omega)
  exact decide_eq_true (by omega)
theorem valN_numL (n:Nat): ∀ k,k<=8→ ∀ x,valN x (numL (n:Int) k)=x*256 ^ k+n % 256 ^ k
 |0,_,x=>by simp [numL,valN,Nat.mod_one]
 |k+1,h,x=>by
  have ih:=valN_numL n k (by omega)
  show valN (x*256+(byG (n:Int) k).toNat) (numL (n:Int) k)=_
  rw [ih,byG_nat n k (by omega),Int.toNat_natCast,Nat.pow_succ,Nat.mod_mul,Nat.add_mul,Nat.mul_assoc,Nat.mul_comm 256 (256 ^ k),Nat.mul_comm (n / 256 ^ k % 256) (256 ^ k)]
  omega
theorem str_bytes (s:ByteArray):strOf (bytesL s)=s:=by
 obtain ⟨⟨l⟩⟩:=s
 unfold strOf bytesL
 congr 1
 rw [List.map_map]
 have:(l.map ((fun n:Int=>UInt8.ofNat n.toNat) ∘ fun b:UInt8=>(b.toNat:Int)))=l:=by
  conv=>rhs;rw [←List.map_id l]
  refine List.map_congr_left fun b _=> ?_
  simp
 show (l.map _).toArray=_
 rw [this]
theorem bytesL_isB (s:ByteArray):(bytesL s).all isBy=true:=by
 rw [List.all_eq_true]
 intro x hx
 obtain ⟨b,_,rfl⟩:=List.mem_map.1 hx
 have:=b.toNat_lt
 exact decide_eq_true (by omega)
def rdr (l:List Int):Reader:=(l,(false,()))
theorem take_app (a r:List Int):takeV (rdr (a++r)) (a.length:Int)=a/\takeN (rdr (a++r)) (a.length:Int)=rdr r:=by
 have hf:rdFail (rdr (a++r)) (a.length:Int)=false:=by
  simp only [rdFail,rdr,Bool.false_or,igt,llen,List.length_append,decide_eq_false_iff_not]
  omega
 constructor
 ·unfold takeV
  rw [hf]
  show (a++r).take ((a.length:Int)).toNat=a
  rw [Int.toNat_natCast,List.take_left' rfl]
 ·unfold takeN
  rw [hf]
  show ((a++r).drop ((a.length:Int)).toNat,(false,()))=_
  rw [Int.toNat_natCast,List.drop_left' rfl]
  rfl
theorem take_app' {a r:List Int}{n:Int}(h:n=a.length):takeV (rdr (a++r)) n=a/\takeN (rdr (a++r)) n=rdr r:=by
 subst h
 exact take_app a r
theorem rnum_app (n c:Nat)(hc:c<=5)(hn:n<256 ^ c)(r:List Int):rnumV (rdr (numL (n:Int) c++r)) (c:Int)=(n:Int)/\rnumN (rdr (numL (n:Int) c++r)) (c:Int)=rdr r:=by
 obtain ⟨h1,h2⟩:=take_app' (a:=numL (n:Int) c) (r:=r) (n:=(c:Int)) (by rw [numL_len])
 refine ⟨?_,h2⟩
 unfold rnumV
 rw [h1,fold8_0 _ (numL_isB n c (by omega)) (by rw [numL_len];exact hc),valN_numL n c (by omega),Nat.zero_mul,Nat.zero_add,Nat.mod_eq_of_lt hn]
theorem rname_app {s:ByteArray}(hs:s.size<256)(r:List Int):rnameV (rdr (numL (slen s) 1++(bytesL s++r)))=s/\rnameN (rdr (numL (slen s) 1++(bytesL s++r)))=rdr r:=by
 obtain ⟨h1,h2⟩:=rnum_app s.size 1 (by omega) (by omega) (bytesL s++r)
 obtain ⟨h3,h4⟩:=take_app' (a:=bytesL s) (r:=r) (n:=(s.size:Int)) (by rw [bytesG_len])
 have h1:rnumV (rdr (numL (slen s) 1++(bytesL s++r))) 1=(s.size:Int):=h1
 have h2:rnumN (rdr (numL (slen s) 1++(bytesL s++r))) 1=rdr (bytesL s++r):=h2
 unfold rnameV rnameN
 rw [h1,h2,h3,h4,str_bytes]
 exact ⟨rfl,rfl⟩
theorem sec_app {z:Section}(h1:z.1.size<256)(h2:z.2.1.length<65536)(r:List Int):secV (rdr (secB z++r))=z/\secN (rdr (secB z++r))=rdr r:=by
 obtain ⟨s,b,u⟩:=z
 have e:secB (s,(b,u))++r=numL (slen s) 1++(bytesL s++(numL (llen b) 2++(b++r))):=by simp only [secB,List.append_assoc]
 obtain ⟨q1,q2⟩:=rname_app h1 (numL (llen b) 2++(b++r))
 obtain ⟨q3,q4⟩:=rnum_app b.length 2 (by omega) (by simpa using h2) (b++r)
 have q3:rnumV (rdr (numL (llen b) 2++(b++r))) 2=(b.length:Int):=q3
 have q4:rnumN (rdr (numL (llen b) 2++(b++r))) 2=rdr (b++r):=q4
 obtain ⟨q5,q6⟩:=take_app b r
 unfold secV secN
 rw [e,q1,q2,q3,q4,q5,q6]
 exact ⟨rfl,rfl⟩
theorem sym_app {z:Symbol}(h1:z.1.size<256)(h2:0<=z.2.1/\z.2.1<4294967296)(r:List Int):symV (rdr (symB z++r))=z/\symN (rdr (symB z++r))=rdr r:=by
 obtain ⟨s,v,u⟩:=z
 simp only at h1 h2
 obtain ⟨n,rfl⟩:=Int.eq_ofNat_of_zero_le h2.1
 have e:symB (s,((n:Int),u))++r=numL (slen s) 1++(bytesL s++(numL (n:Int) 4++r)):=by simp only [symB,List.append_assoc]
 obtain ⟨q1,q2⟩:=rname_app h1 (numL (n:Int) 4++r)
 obtain ⟨q3,q4⟩:=rnum_app n 4 (by omega) (by omega) r
 have q3:rnumV (rdr (numL (n:Int) 4++r)) 4=(n:Int):=q3
 have q4:rnumN (rdr (numL (n:Int) 4++r)) 4=rdr r:=q4
 unfold symV symN
 rw [e,q1,q2,q3,q4]
 exact ⟨rfl,rfl⟩
theorem secs_app: ∀ (l:List Section) (r:List Int),(∀ z∈l,z.1.size<256/\z.2.1.length<65536)->secsP l.length (rdr (l.flatMap secB++r))=(l,rdr r)
 | [],r,_=>rfl
 |z::l,r,h=>by
  obtain ⟨h1,h2⟩:=h z (by simp)
  obtain ⟨q1,q2⟩:=sec_app h1 h2 (l.flatMap secB++r)
  have ih:=secs_app l r fun x hx=>h x (by simp [hx])
  rw [List.length_cons,List.flatMap_cons,List.append_assoc]
  show (bif false then _ else (secV (rdr (secB z++(l.flatMap secB++r)))::(secsP l.length (secN (rdr (secB z++(l.flatMap secB++r))))).1,(secsP l.length (secN (rdr (secB z++(l.flatMap secB++r))))).2))=_
  rw [q1,q2,ih]
  rfl
theorem syms_app: ∀ (l:List Symbol) (r:List Int),(∀ z∈l,z.1.size<256/\0<=z.2.1/\z.2.1<4294967296)->symsP l.length (rdr (l.flatMap symB++r))=(l,rdr r)
 | [],r,_=>rfl
 |z::l,r,h=>by
  obtain ⟨h1,h2⟩:=h z (by simp)
  obtain ⟨q1,q2⟩:=sym_app h1 h2 (l.flatMap symB++r)
  have ih:=syms_app l r fun x hx=>h x (by simp [hx])
  rw [List.length_cons,List.flatMap_cons,List.append_assoc]
  show (bif false then _ else (symV (rdr (symB z++(l.flatMap symB++r)))::(symsP l.length (symN (rdr (symB z++(l.flatMap symB++r))))).1,(symsP l.length (symN (rdr (symB z++(l.flatMap symB++r))))).2))=_
  rw [q1,q2,ih]
  rfl
theorem wrong_all {l:List ByteArray}(h:wrongF l=false): ∀ s∈l,namedG s=true:=by
 intro s hs
 obtain ⟨j,hj,rfl⟩:=List.getElem_of_mem hs
 have:=List.any_eq_false.1 h j (by simpa using hj)
 simp only [List.getD_eq_getElem?_getD,List.getElem?_eq_getElem hj,Option.getD_some,Bool.or_eq_true,not_or,Bool.not_eq_true'] at this
 simpa using this.1
theorem bad_facts {x:Image}(h:badX x=false):x.1.length<=16/\x.2.1.length<=64/\(∀ z∈x.1,z.1.size<256/\z.2.1.length<65536)/\(∀ z∈x.2.1,z.1.size<256/\0<=z.2.1/\z.2.1<4294967296)/\(writtenF x).length<=4096:=by
 simp only [badX,Bool.or_eq_false_iff,decide_eq_false_iff_not] at h
 obtain ⟨⟨⟨⟨⟨h1,h2⟩,h3⟩,h4⟩,h5⟩,h6⟩:=h
 have hw:=written_len x
 refine ⟨by omega,by omega,fun z hz=> ?_,fun z hz=> ?_,by omega⟩
 ·have:=wrong_all h3 z.1 (List.mem_map.2 ⟨z,hz,rfl⟩)
  simp only [namedG,Bool.and_eq_true,decide_eq_true_eq] at this
  have hl:=flat_le secB x.1 z hz
  rw [secB_len] at hl
  omega
 ·have:=wrong_all h4 z.1 (List.mem_map.2 ⟨z,hz,rfl⟩)
  simp only [namedG,Bool.and_eq_true,decide_eq_true_eq] at this
  have hv:=List.any_eq_false.1 h5 z hz
  simp only [badV,ilt,ige,Bool.or_eq_true,decide_eq_true_eq,not_or] at hv
  omega
theorem dec_written {x:Image}(h:badX x=false):decX (writtenF x)=(x,0):=by
 obtain ⟨h1,h2,h3,h4,h5⟩:=bad_facts h
 have e:writtenF x=[88,69,1]++(numL (llen x.1) 1++(x.1.flatMap secB++(numL (llen x.2.1) 1++(x.2.1.flatMap symB++[])))):=by simp only [writtenF,List.append_assoc,List.append_nil]
 generalize hw:writtenF x=w at e h5
 obtain ⟨q1,q2⟩:=take_app' (a:=[88,69,1]) (r:=numL (llen x.1) 1++(x.1.flatMap secB++(numL (llen x.2.1) 1++(x.2.1.flatMap symB++[])))) (n:=3) rfl
 obtain ⟨q3,q4⟩:=rnum_app x.1.length 1 (by omega) (by omega) (x.1.flatMap secB++(numL (llen x.2.1) 1++(x.2.1.flatMap symB++[])))
 obtain ⟨q5,q6⟩:=rnum_app x.2.1.length 1 (by omega) (by omega) (x.2.1.flatMap symB++[])
 have q7:=secs_app x.1 (numL (llen x.2.1) 1++(x.2.1.flatMap symB++[])) h3
 have q8:=syms_app x.2.1 [] h4
 have e0:d0D w=rdr ([88,69,1]++(numL (llen x.1) 1++(x.1.flatMap secB++(numL (llen x.2.1) 1++(x.2.1.flatMap symB++[]))))):=by rw [e];rfl
 have a1:n1D w=x.1.length:=by
  show (rnumV (takeN (d0D w) 3) 1).toNat=_
  rw [e0,q2]
  show (rnumV (rdr (numL ((x.1.length:Nat):Int) 1++_)) ((1:Nat):Int)).toNat=_
  rw [q3,Int.toNat_natCast]
 have a2:d1D w=rdr (x.1.flatMap secB++(numL (llen x.2.1) 1++(x.2.1.flatMap symB++[]))):=by
  show rnumN (takeN (d0D w) 3) 1=_
  rw [e0,q2]
  exact q4
 have a3:secsP (n1D w) (d1D w)=(x.1,rdr (numL (llen x.2.1) 1++(x.2.1.flatMap symB++[]))):=by rw [a1,a2,q7]
 have a4:d2D w=rdr (numL (llen x.2.1) 1++(x.2.1.flatMap symB++[])):=by rw [d2D,a3]
 have a5:n2D w=x.2.1.length:=by
  show (rnumV (d2D w) 1).toNat=_
  rw [a4]
  show (rnumV (rdr (numL ((x.2.1.length:Nat):Int) 1++_)) ((1:Nat):Int)).toNat=_
  rw [q5,Int.toNat_natCast]
 have a6:d3D w=rdr (x.2.1.flatMap symB++[]):=by
  show rnumN (d2D w) 1=_
  rw [a4]
  exact q6
 have a7:symsP (n2D w) (d3D w)=(x.2.1,rdr []):=by rw [a5,a6,q8]
 have a8:imD w=x:=by
  unfold imD
  rw [a3,a7]
 have a9:d4D w=rdr []:=by rw [d4D,a7]
 have b1:mgD w=false:=by
  unfold mgD
  rw [e0,q1,show strOf [88,69,1]=ByteArray.mk #[88,69,1] from rfl]
  simp [sne]
 unfold decX
 rw [decide_eq_false (by omega),b1,a9,a8,h]
 rfl
end
end Go.Proofs.YtmokmalepelinaaGreatDoor.K
namespace Go.Proofs.YtmokmalepelinaaGreatDoor.K
open Go.RowKit Go.Shelf
noncomputable section
theorem seq_iff {a b:ByteArray}:seq a b=true↔a=b:=by
 simp only [seq,beq_iff_eq,Lib.toList_data]
 constructor
 ·intro h
  obtain ⟨⟨l⟩⟩:=a
  obtain ⟨⟨r⟩⟩:=b
  have h:l=r:=h
  rw [h]
 ·rintro rfl
  rfl
theorem seq_self (a:ByteArray):seq a a=true:=seq_iff.2 rfl
theorem sne_not (a b:ByteArray):sne a b= !seq a b:=rfl
theorem ieq_self (a:Int):ieq a a=true:=by simp [ieq]
theorem zipA_self {α:Type}{p:α->α->Bool}(h: ∀ x,p x x=true): ∀ l:List α,zipA p l l=true
 | []=>rfl
 |a::l=>by
  show (p a a&&zipA p l l)=true
  rw [h a,zipA_self h l]
  rfl
theorem sameX_self (x:Image):sameX x x=true:=by
 unfold sameX eqSecs eqSyms eqL
 rw [zipA_self (fun z=>by simp [eqSec,eqB,seq_self]),zipA_self (fun z=>by simp [eqSym,seq_self,ieq_self])]
 simp
theorem wrong_nodup {l L:List ByteArray}(h:l.Sublist L)(h1: ∀ s∈L,namedG s=true)(h2:L.Pairwise (fun a b=>seq a b=false)):wrongF l=false:=by
 have h2:=h2.sublist h
 refine List.any_eq_false.2 fun j hj=> ?_
 have hj:j<l.length:=by simpa using hj
 simp only [List.getD_eq_getElem?_getD,List.getElem?_eq_getElem hj,Option.getD_some]
 rw [h1 _ (h.subset (List.getElem_mem hj))]
 simp only [Bool.not_true,Bool.false_or,hasS,Bool.not_eq_true,List.any_eq_false]
 intro x hx
 obtain ⟨i,hi,rfl⟩:=List.getElem_of_mem hx
 rw [List.length_take] at hi
 rw [List.getElem_take,seq_comm]
 simpa using List.pairwise_iff_getElem.1 h2 i j (by omega) hj (by omega)
def namS:List ByteArray:=[nmS 0,nmS 1,nmS 2,nmS 3]
theorem secs_names: ∀ (n:Nat) (k:Nat) (d:Dice),k+n<=4->((secsG n k d).1.map (·.1)).Sublist (namS.drop k)
 |0,_,_,_=>List.nil_sublist _
 |n+1,k,d,h=>by
  unfold secsG
  cases ilt (k:Int) (dval d 4) with
  |false=>exact List.nil_sublist _
  |true=>
   have hk:k<namS.length:=by simp [namS];omega
   rw [List.drop_eq_getElem_cons hk]
   have e:namS[k]=nmS (k:Int):=by
    match k,hk with
    |0,_=>rfl
    |1,_=>rfl
    |2,_=>rfl
    |3,_=>rfl
   rw [e]
   show (nmS (k:Int)::((secsG n (iadd .i64 (k:Int) 1) (secD d).2).1.map (·.1))).Sublist _
   rw [add1 (by omega)]
   exact (secs_names n (k+1) _ (by omega)).cons_cons _
theorem secs_bytes: ∀ (n:Nat) (i:Int) (d:Dice), ∀ z∈(secsG n i d).1,z.2.1.all isBy=true/\z.2.1.length<=40
 |0,_,_,z,h=>by cases h
 |n+1,i,d,z,h=>by
  unfold secsG at h
  cases hc:ilt i (dval d 4) with
  |false=>rw [hc] at h;cases h
  |true=>
   rw [hc] at h
   rcases List.mem_cons.1 h with rfl|h
   ·have hb:=dval_lt (d:=dnext d 4) (n:=40) (by omega)
    refine ⟨?_, ?_⟩
    ·show (secD d).1.all isBy=true
     unfold secD
     generalize (dval (dnext d 4) 40).toNat=m
     generalize dnext (dnext d 4) 40=e
     induction m generalizing e with
     |zero=>rfl
     |succ m ih=>
      show (isBy (icv .u8 (dof e [0,1,2,103,230,9]))&&(bytsG m (dofN e [0,1,2,103,230,9])).1.all isBy)=true
      rw [ih,Bool.and_true]
      show decide (0<=IntKind.u8.wrap _/\IntKind.u8.wrap _<=255)=true
      rw [IntKind.wrap_u8]
      exact decide_eq_true (by omega)
    ·show (secD d).1.length<=40
     rw [secD,byts_len]
     omega
   ·exact secs_bytes n _ _ z h
theorem secs_lenG: ∀ (n:Nat) (i:Int) (d:Dice),(secsG n i d).1.length<=n
 |0,_,_=>Nat.le_refl _
 |n+1,i,d=>by
  unfold secsG
  cases ilt i (dval d 4) with
  |false=>exact Nat.zero_le _
  |true=>exact Nat.succ_le_succ (secs_lenG n _ _)
theorem syms_names: ∀ (l:List ByteArray) (d:Dice),((symsG l d).1.map (·.1)).Sublist l
 | [],_=>List.nil_sublist _
 |s::l,d=>by
  unfold symsG
  cases done d 2 with
  |true=>exact (syms_names l _).cons_cons _
  |false=>exact (syms_names l _).cons _
theorem syms_vals: ∀ (l:List ByteArray) (d:Dice), ∀ z∈(symsG l d).1,0<=z.2.1/\z.2.1<1048576
 | [],_,z,h=>by cases h
 |s::l,d,z,h=>by
  unfold symsG at h
  cases hc:done d 2 with
  |false=>rw [hc] at h;exact syms_vals l _ z h
  |true=>
   rw [hc] at h
   rcases List.mem_cons.1 h with rfl|h
   ·exact dval_lt (by omega)
   ·exact syms_vals l _ z h
theorem seq_data (a b:ByteArray):seq a b=(a.data.toList==b.data.toList):=by simp only [seq,Lib.toList_data]
theorem named_le {s:ByteArray}(h:namedG s=true):s.size<=32:=by
 simp only [namedG,Bool.and_eq_true,decide_eq_true_eq] at h
 exact h.2.2
theorem namS_ok:(∀ s∈namS,namedG s=true)/\namS.Pairwise (fun a b=>seq a b=false):=by
 simp only [seq_data]
 exact ⟨by decide,by decide⟩
theorem namesG_ok:(∀ s∈namesG,namedG s=true)/\namesG.Pairwise (fun a b=>seq a b=false):=by
 simp only [seq_data]
 exact ⟨by decide,by decide⟩
theorem img_ok (d:Dice):badX (imgV d)=false:=by
 have a1:(imgV d).1.length<=4:=secs_lenG 4 0 d
 have t1:=secs_names 4 0 d (by omega)
 have t2:=syms_names namesG (secsG 4 0 d).2
 have a2:(imgV d).2.1.length<=7:=by
  have:=t2.length_le
  rw [List.length_map] at this
  exact this
 have w1:wrongF (namesF (imgV d)).1=false:=wrong_nodup t1 namS_ok.1 namS_ok.2
 have w2:wrongF (namesF (imgV d)).2=false:=wrong_nodup t2 namesG_ok.1 namesG_ok.2
 have v1:(imgV d).2.1.any badV=false:=List.any_eq_false.2 fun z hz=>by
  have:=syms_vals namesG (secsG 4 0 d).2 z hz
  simp only [badV,ilt,ige,Bool.or_eq_true,decide_eq_true_eq,not_or]
  omega
 have b1:=flat_bound secB 80 (imgV d).1 fun z hz=>by
  have h1:=named_le (namS_ok.1 z.1 (t1.subset (List.mem_map.2 ⟨z,hz,rfl⟩)))
  have h2:=secs_bytes 4 0 d z hz
  rw [secB_len]
  omega
 have b2:=flat_bound symB 40 (imgV d).2.1 fun z hz=>by
  have h1:=named_le (namesG_ok.1 z.1 (t2.subset (List.mem_map.2 ⟨z,hz,rfl⟩)))
  rw [symB_len]
  omega
 have hw:=written_len (imgV d)
 unfold badX
 rw [w1,w2,v1,decide_eq_false (by omega),decide_eq_false (by omega),decide_eq_false (by omega)]
 rfl
theorem img_chk (d:Dice):chkOk (imgV d)=true:=by
 obtain ⟨h1,h2,h3,h4,h5⟩:=bad_facts (img_ok d)
 have hw:=written_len (imgV d)
 simp only [chkOk,wrOk,imgOk,Bool.and_eq_true,decide_eq_true_eq]
 omega
theorem flat_isB {α:Type}{f:α->List Int}{l:List α}(h: ∀ x∈l,(f x).all isBy=true):(l.flatMap f).all isBy=true:=by
 rw [List.all_eq_true]
 intro b hb
 obtain ⟨x,hx,hbx⟩:=List.mem_flatMap.1 hb
 exact List.all_eq_true.1 (h x hx) b hbx
theorem img_dec (d:Dice):decOkX (writtenF (imgV d))=true:=by
 obtain ⟨h1,h2,h3,h4,h5⟩:=bad_facts (img_ok d)
 have c1:((imgV d).1.flatMap secB).all isBy=true:=flat_isB fun z hz=>by
  simp only [secB,List.all_append,Bool.and_eq_true]
  exact ⟨numL_isB z.1.size 1 (by omega),bytesL_isB _,numL_isB z.2.1.length 2 (by omega),(secs_bytes 4 0 d z hz).1⟩
 have c2:((imgV d).2.1.flatMap symB).all isBy=true:=flat_isB fun z hz=>by
  obtain ⟨n,hn⟩:=Int.eq_ofNat_of_zero_le (h4 z hz).2.1
  simp only [symB,List.all_append,Bool.and_eq_true,hn]
  exact ⟨numL_isB z.1.size 1 (by omega),bytesL_isB _,numL_isB n 4 (by omega)⟩
 simp only [decOkX,writtenF,List.all_append,Bool.and_eq_true,decide_eq_true_eq]
 refine ⟨⟨⟨⟨⟨rfl,numL_isB (imgV d).1.length 1 (by omega)⟩,c1⟩,numL_isB (imgV d).2.1.length 1 (by omega)⟩,c2⟩, ?_⟩
 exact decide_eq_true (show (writtenF (imgV d)).length<=100000 from by omega)
end
end Go.Proofs.YtmokmalepelinaaGreatDoor.K
namespace Go.Proofs.YtmokmalepelinaaGreatDoor.K
open Go.RowKit
noncomputable section
theorem img_okB {d:Dice}(h:dOk d=true):dOk (imgN d)=true:=syms_okG _ (secs_okG 4 0 h)
theorem dok_ptZ: ∀ (n:Nat) {d:Dice},dOk d=true->dOk (ptZ n d).2=true
 |0,_,h=>h
 |n+1,_,h=>dok_ptZ n (dOk_use (ptL_ok h))
theorem dok_pat {d:Dice}(h:dOk d=true):dOk (patN d)=true:=dok_ptZ _ (dOk_next h)
theorem size_small {d:Dice}{a:Int}(h1:1<=a)(h2:a<=22):okU (a,(sizeV d a,()))=true:=by
 have hm:sizeV d a∈(if szL a=[] then [0] else szL a):=by
  unfold sizeV
  split
  ·simp
  ·rename_i h
   exact dof_mem h
 have ha: ∀ l:List Int,(∀ x,x∈l->okU (a,(x,()))=true)->sizeV d a∈l->okU (a,(sizeV d a,()))=true:=fun l h hm=>h _ hm
 have hc:a=1∨a=2∨a=3∨a=4∨a=5∨a=6∨a=7∨a=8∨a=9∨a=10∨a=11∨a=12∨a=13∨a=14∨a=15∨a=16∨a=17∨a=18∨a=19∨a=20∨a=21∨a=22:=by omega
 rcases hc with rfl|rfl|rfl|rfl|rfl|rfl|rfl|rfl|rfl|rfl|rfl|rfl|rfl|rfl|rfl|rfl|rfl|rfl|rfl|rfl|rfl|rfl<;>exact ha _ (by decide) hm
theorem use_okU (d:Dice):okU (useV d)=true:=by
 have h2:=dval_lt (d:=d) (n:=22) (by omega)
 exact size_small (by omega) (by omega)
theorem ptB_all: ∀ (n:Nat) (d:Dice),(ptB n d).1.length=n∧ ∀ c∈(ptB n d).1,0<=c/\c<256
 |0,_=>⟨rfl,fun c h=>by cases h⟩
 |n+1,d=>by
  obtain ⟨h1,h2⟩:=ptB_all n (dofN d [0,1,2,103])
  refine ⟨by simp only [ptB,List.length_cons,h1],fun c hc=> ?_⟩
  rcases List.mem_cons.1 hc with rfl|hc
  ·show 0<=IntKind.u8.wrap _/\IntKind.u8.wrap _<256
   rw [IntKind.wrap_u8]
   omega
  ·exact h2 c hc
structure PatD (x:Pattern):Prop where
 ok:okU x.1=true
 va:validF x.1=true
 by_: ∀ c∈x.2.1,0<=c/\c<256
 lo:1<=x.2.1.length
 hi:x.2.1.length<=5
theorem ptZ_all: ∀ (n:Nat) (d:Dice),(ptZ n d).1.length=n∧ ∀ x∈(ptZ n d).1,PatD x
 |0,_=>⟨rfl,fun c h=>by cases h⟩
 |n+1,d=>by
  obtain ⟨h1,h2⟩:=ptZ_all n (useN (ptL d).2)
  refine ⟨by simp only [ptZ,List.length_cons,h1],fun x hx=> ?_⟩
  rcases List.mem_cons.1 hx with rfl|hx
  ·have hk:=ptK_in d
   obtain ⟨g1,g2⟩:=ptB_all (ptK d).toNat (dnext d 5)
   exact ⟨use_okU _,use_valid _,g2,by show 1<=(ptB (ptK d).toNat (dnext d 5)).1.length;omega,by show (ptB (ptK d).toNat (dnext d 5)).1.length<=5;omega⟩
  ·exact h2 x hx
theorem pat_all (d:Dice):(patV d).length<=5∧ ∀ x∈patV d,PatD x:=by
 have hk:=ptK_in d
 obtain ⟨h1,h2⟩:=ptZ_all (ptK d).toNat (dnext d 5)
 exact ⟨by show (ptZ (ptK d).toNat (dnext d 5)).1.length<=5;omega,h2⟩
theorem pat_chk {p:List Pattern}(h1:p.length<=5)(h2: ∀ x∈p,PatD x):ptChk p=0:=by
 have hb:p.any badP=false:=List.any_eq_false.2 fun x hx=>by
  have h:=h2 x hx
  have a1:=h.lo
  have a2:=h.hi
  simp only [badP,h.va,Bool.not_true,Bool.or_false,ilt,igt,llen,Bool.or_eq_true,decide_eq_true_eq]
  omega
 unfold ptChk
 rw [hb,show igt (llen p) 32=false from decide_eq_false (by simp only [llen];omega)]
 rfl
theorem usp_ok {p:List Pattern}(h1:p.length<=5)(h2: ∀ x∈p,PatD x)(d:Dice):uspOk p (imgV d)=true:=by
 have hs:(imgV d).1.length<=4:=secs_lenG 4 0 d
 have hp:ptOkB p=true:=Bool.and_eq_true_iff.2 ⟨List.all_eq_true.2 fun x hx=>Bool.and_eq_true_iff.2 ⟨List.all_eq_true.2 fun c hc=>decide_eq_true ((h2 x hx).by_ c hc),decide_eq_true (by have:=(h2 x hx).hi;omega)⟩,decide_eq_true (by omega)⟩
 refine Bool.and_eq_true_iff.2 ⟨decide_eq_true (by omega),Bool.and_eq_true_iff.2 ⟨img_chk d,Bool.and_eq_true_iff.2 ⟨List.all_eq_true.2 fun x hx=>(h2 x hx).ok,Bool.and_eq_true_iff.2 ⟨List.all_eq_true.2 fun z hz=> ?_,decide_eq_true (by omega)⟩⟩⟩⟩
 obtain ⟨b1,b2⟩:=secs_bytes 4 0 d z hz
 refine Bool.and_eq_true_iff.2 ⟨hp,Bool.and_eq_true_iff.2 ⟨List.all_eq_true.2 fun c hc=> ?_,decide_eq_true (by omega)⟩⟩
 have:=of_decide_eq_true (List.all_eq_true.1 b1 c hc)
 exact decide_eq_true (by omega)
def fndU (p:List Pattern)(x:Image):List Keep:=nrmC lesU (x.1.flatMap (secU p))
theorem usp_eq {p:List Pattern}(h1:p.length<=5)(h2: ∀ x∈p,PatD x)(d:Dice):uspF p (imgV d)=(fndU p (imgV d),0):=by
 unfold uspF
 rw [pat_chk h1 h2]
 unfold checkX
 rw [img_ok d]
 rfl
theorem nd_le: ∀ {l m:List Keep},ascC lesU l->(∀ x∈l,x∈m)->l.length<=m.length
 | [],_,_,_=>Nat.zero_le _
 |x::l,m,h,hm=>by
  obtain ⟨h1,h2⟩:=List.pairwise_cons.1 h
  have hx:=hm x List.mem_cons_self
  have:=nd_le (m:=m.erase x) h2 fun y hy=>(List.mem_erase_of_ne fun e=>by
   have h3:=h1 y hy
   rw [e,les_lc.self] at h3
   omega).2 (hm y (List.mem_cons_of_mem _ hy))
  rw [List.length_erase_of_mem hx] at this
  have:0<m.length:=List.length_pos_of_mem hx
  simp only [List.length_cons]
  omega
theorem fnd_all {p:List Pattern}(h1:p.length<=5)(h2: ∀ x∈p,PatD x)(x:Image):ascC lesU (fndU p x)/\(fndU p x).length<=5∧ ∀ u∈fndU p x,okU u=true/\validF u=true:=by
 obtain ⟨k1,k2⟩:=nrmC_asc les_lc les_zero (x.1.flatMap (secU p))
 have hm: ∀ u∈fndU p x, ∃ q∈p,u=q.1:=fun u hu=>by
  obtain ⟨s,hs1,hs2⟩:=List.mem_flatMap.1 ((k2 u).1 hu)
  exact hitsU_mem _ _ _ hs2
 refine ⟨k1, ?_,fun u hu=> ?_⟩
 ·have:=nd_le (m:=p.map (·.1)) k1 fun u hu=>by
   obtain ⟨q,hq,rfl⟩:=hm u hu
   exact List.mem_map.2 ⟨q,hq,rfl⟩
  rw [List.length_map] at this
  show (nrmC lesU (x.1.flatMap (secU p))).length<=5
  omega
 ·obtain ⟨q,hq,rfl⟩:=hm u hu
  exact ⟨(h2 q hq).ok,(h2 q hq).va⟩
theorem any_kn {u:List Keep}(h: ∀ x∈u,validF x=true):anyK (knC u)=false:=by
 show (u.any wrgW||false)=false
 rw [Bool.or_false]
 refine List.any_eq_false.2 fun x hx=> ?_
 unfold wrgW
 rw [h x hx]
 simp
theorem pkg_eq {u:List Keep}(h1:ascC lesU u)(h: ∀ x∈u,validF x=true):pkgF pkC (knC u) kwApp=(u,0):=by
 unfold pkgF
 rw [any_kn h]
 show (nrmC lesU u,(0:Int))=_
 rw [nrmC_eq les_lc les_zero h1 fun _=>Iff.rfl]
theorem pkg_ok {u:List Keep}(h1:u.length<=6)(h:u.all okU=true):pkgOk pkC (knC u) kwApp=true:= @decide_eq_true _ (Classical.propDecidable _) ⟨rfl,rfl,u,rfl,h1,h⟩
theorem dwdG_memB {d:Dice}{l:List ByteArray}(h:0<l.length):dwdG d l∈l:=by
 have hv:=dval_lt (d:=d) (n:=l.length) (by omega)
 unfold dwdG
 have hlt:(dval d l.length).toNat<l.length:=by omega
 rw [List.getD_eq_getElem?_getD,List.getElem?_eq_getElem hlt]
 exact List.getElem_mem hlt
theorem fin_where (d:Dice):whereF (finV d)=true/\whenF (finV d)=true/\ilt (finV d).1 1=false/\igt (finV d).1 7=false/\nameG (fHost (finV d))=true/\nameG (fSubj (finV d))=true/\nameG (fText (finV d))=true:=by
 have v1:=dval_lt (d:=d) (n:=7) (by omega)
 have m1:dwdG (fd1 d) fdW1∈fdW1:=dwdG_memB (by decide)
 have m2:dwdG (fd6 d) fdW2∈fdW2:=dwdG_memB (by decide)
 have m3:dof (fd2 d) [0,1,2,0,3]∈([0,1,2,0,3]:List Int):=dof_mem (by decide)
 have m4:dof (fd4 d) [90,50,100,1]∈([90,50,100,1]:List Int):=dof_mem (by decide)
 have v2:=dval_lt (d:=fd3 d) (n:=12) (by omega)
 have a1: ∀ s∈fdW1,namedG s=true/\nameG s=true:=by decide
 have a2: ∀ s∈fdW2,namedG s=true/\nameG s=true:=by decide
 have a3: ∀ n∈([0,1,2,0,3]:List Int),ige n 0=true/\ile n 1099511627776=true:=by decide
 have a4: ∀ n∈([90,50,100,1]:List Int),ige n 1=true/\ile n 100=true:=by decide
 have s1:iadd .i64 1 (dval d 7)=1+dval d 7:=iadd_in (by omega)
 refine ⟨?_, ?_, ?_, ?_,(a1 _ m1).2,(a2 _ m2).2, ?_⟩
 ·show (namedG (dwdG (fd1 d) fdW1)&&(namedG (dwdG (fd6 d) fdW2)&&(ige (dof (fd2 d) [0,1,2,0,3]) 0&&ile (dof (fd2 d) [0,1,2,0,3]) 1099511627776)))=true
  rw [(a1 _ m1).1,(a2 _ m2).1,(a3 _ m3).1,(a3 _ m3).2]
  rfl
 ·show (ige (dval (fd3 d) 12) 0&&(ile (dval (fd3 d) 12) 40000&&(ige (dof (fd4 d) [90,50,100,1]) 1&&ile (dof (fd4 d) [90,50,100,1]) 100)))=true
  rw [(a4 _ m4).1,(a4 _ m4).2,show ige (dval (fd3 d) 12) 0=true from decide_eq_true (by omega),show ile (dval (fd3 d) 12) 40000=true from decide_eq_true (by omega)]
  rfl
 ·show ilt (iadd .i64 1 (dval d 7)) 1=false
  rw [s1]
  exact decide_eq_false (by omega)
 ·show igt (iadd .i64 1 (dval d 7)) 7=false
  rw [s1]
  exact decide_eq_false (by omega)
 ·show nameG (fdX (fdK d) (fd7 d)).2.2.1=true
  have m5:dwdG (fd7 d) fdW3∈fdW3:=dwdG_memB (by decide)
  have a5: ∀ s∈fdW3,nameG s=true:=by decide
  unfold fdX
  repeat' split
  all_goals first
   |exact a5 _ m5
   |rfl
theorem fin_ok (d:Dice):fdOk (finV d)=true:=by
 obtain ⟨_,_,_,_,h1,h2,h3⟩:=fin_where d
 exact Bool.and_eq_true_iff.2 ⟨h1,Bool.and_eq_true_iff.2 ⟨h2,h3⟩⟩
theorem emT_nil:emT (ByteArray.mk #[])=true:=seq_self _
theorem at0_cont (d:Dice):contF (at0 (finV d))=true:=by
 show (no0 (0,(0,()))&&(emT (ByteArray.mk #[])&&(ige 1 1&&ile 1 4)))=true
 rw [emT_nil]
 rfl
theorem at0_chk (d:Dice):fdChk (at0 (finV d))=0:=by
 obtain ⟨h1,h2,h3,h4,_⟩:=fin_where d
 have:fdGood (at0 (finV d))=true:=by
  unfold fdGood
  rw [show whereF (at0 (finV d))=true from h1,show whenF (at0 (finV d))=true from h2,show ilt (at0 (finV d)).1 1=false from h3,show igt (at0 (finV d)).1 7=false from h4,at0_cont d]
  rfl
 unfold fdChk
 rw [this]
 rfl
theorem ntU_good (d:Dice){u:Keep}(h:validF u=true):fdGood (ntU (finV d) u)=true:=by
 obtain ⟨h1,h2,h3,h4,_⟩:=fin_where d
 have hc:contF (ntU (finV d) u)=true:=by
  show (validF u&&(ieq 0 0&&emT (ByteArray.mk #[])))=true
  rw [h,emT_nil]
  rfl
 unfold fdGood
 rw [show whereF (ntU (finV d) u)=true from h1,show whenF (ntU (finV d) u)=true from h2,show ilt (ntU (finV d) u).1 1=false from h3,show igt (ntU (finV d) u).1 7=false from h4,hc]
 rfl
theorem cmpI_self (n:Int):Go.Lib.compareInt n n=0:=LC.int.self n
theorem cmpB_self (s:ByteArray):Go.Lib.compareBytes s.data.toList s.data.toList=0:=LC.bytes.self s
theorem ord_nt (x:Finding)(a b:Keep):ordF (ntU x a) (ntU x b)=if Go.Lib.compareInt a.1 b.1=0 then Go.Lib.compareInt a.2.1 b.2.1 else Go.Lib.compareInt a.1 b.1:=by
 unfold ordF
 simp only [ordL,firstC,kI,kB,ntU,setFd,at0,cmpI_self,cmpB_self,if_true]
 by_cases h1:Go.Lib.compareInt a.1 b.1=0
 ·rw [if_pos h1,if_pos h1]
  by_cases h2:Go.Lib.compareInt a.2.1 b.2.1=0
  ·rw [if_pos h2,h2,if_pos (show Go.Lib.compareBytes [] []=0 from rfl)]
  ·rw [if_neg h2]
 ·rw [if_neg h1,if_neg h1]
theorem ord_lt (x:Finding){a b:Keep}(h:lesU a b<0):ordF (ntU x a) (ntU x b)<0:=by
 rw [ord_nt]
 unfold lesU at h
 unfold Go.Lib.compareInt
 by_cases e:a.1=b.1
 ·rw [if_pos e] at h
  rw [if_neg (show ¬ a.1<b.1 by omega),if_neg (show ¬ a.1 > b.1 by omega),if_pos rfl,if_pos (show a.2.1<b.2.1 by omega)]
  decide
 ·rw [if_neg e] at h
  rw [if_pos (show a.1<b.1 by omega),if_neg (by decide)]
  decide
theorem fus_eq (d:Dice){u:List Keep}(h1:ascC lesU u)(h2:u.length<=5)(h: ∀ x∈u,validF x=true):fusF (finV d) (u++u)=(u.map (ntU (finV d)),0):=by
 have hv:(u++u).all validF=true:=List.all_eq_true.2 fun x hx=>by
  rcases List.mem_append.1 hx with hx|hx<;>exact h x hx
 have hg:((u++u).map (ntU (finV d))).all fdGood=true:=List.all_eq_true.2 fun f hf=>by
  obtain ⟨x,hx,rfl⟩:=List.mem_map.1 hf
  exact ntU_good d (List.all_eq_true.1 hv x hx)
 have hn:nrmC ordF ((u++u).map (ntU (finV d)))=u.map (ntU (finV d)):=by
  refine nrmC_eq ord_lc ord_zero (List.pairwise_map.2 (h1.imp fun hab=>ord_lt _ hab)) fun f=> ?_
  rw [List.map_append,List.mem_append,or_self]
 unfold fusF
 rw [at0_chk d,hv]
 show nrmFd _=_
 unfold nrmFd
 rw [hg,hn,show igt (llen (u.map (ntU (finV d)))) 400=false from decide_eq_false (by simp only [llen,List.length_map];omega)]
 rfl
end
end Go.Proofs.YtmokmalepelinaaGreatDoor.K
namespace Go.Proofs.YtmokmalepelinaaGreatDoor.K
open Go.RowKit
noncomputable section
def tbT (_:List Int):Bool:=true
def tbOk (_:List Int):Bool:=true
def okN (at_:Finding)(f:Finding):Bool:=ieq (fKind f) 1&&(seq (fHost f) (fHost at_)&&validF (fUse f))
def idxG (l:List Finding)(i:Int):Bool:=decide (0<=i/\i<=l.length/\l.length<=100000)
noncomputable def dr_f3_0:List DO:=dT Tryz.f3 12
noncomputable def dr_f3_1:List DO:=dT Tryz.f3 17
noncomputable def dr_f3_2:List DO:=dT Tryz.f3 20
def fg_f3_0:Fg:=⟨[(4,none),(6,none),(9,none),(19,some (.sl tyFinding)),(21,some tI)],[(4,some tyImage),(6,some tyFinding),(9,some tyImage)]⟩
noncomputable def tb_f3_0:TC:=(.sq (.sq (.reg (rT Tryz.f3 16)) (.cd (.t 134) .sk (.fg ⟨[(4,none),(9,none)],[(4,some tyImage),(9,some tyImage)]⟩ (.ex 0)))) (.sq (.bk 1 (.sq (.dr dr_f3_1 [(0,[]),(1,[]),(2,[]),(3,[]),(4,[]),(5,[]),(6,[]),(7,[]),(8,[]),(9,[]),(10,[]),(11,[]),(12,[6]),(13,[6]),(14,[]),(15,[]),(16,[]),(17,[]),(18,[]),(19,[]),(20,[]),(21,[]),(22,[]),(23,[]),(24,[])] (.of [0,1,2,3,4,5,6,7,8,9,10,11,12,13,14,15,16,17,18,19,20,21,22,23,24])) (.cd (.t 161) (.sq (.reg (rT Tryz.f3 18)) (.fg ⟨[(2,some .bool)],[]⟩ .rt)) .sk))) (.reg (rT Tryz.f3 19))))
noncomputable def tc_f3:TC:=(.sq (.reg (rT Tryz.f3 0)) (.sq (.sq (.reg (rT Tryz.f3 1)) (.cd (.t 24) (.sq (.reg (rT Tryz.f3 2)) .rt) .sk)) (.sq (.reg (rT Tryz.f3 3)) (.sq (.reg (rT Tryz.f3 4)) (.sq (.reg (rT Tryz.f3 5)) (.sq (.reg (rT Tryz.f3 6)) (.sq (.reg (rT Tryz.f3 7)) (.sq (.reg (rT Tryz.f3 8)) (.sq (.reg (rT Tryz.f3 9)) (.sq (.reg (rT Tryz.f3 10)) (.sq (.reg (rT Tryz.f3 11)) (.sq (.dr dr_f3_0 [(0,[6]),(1,[76,5076,10076,15076]),(2,[]),(3,[76,78,5078,10078,15078]),(4,[]),(5,[76,78,80,5080,10080,15080]),(6,[76,78,80,81,5081,10081,15081]),(7,[]),(8,[]),(9,[]),(10,[]),(11,[])] (.of [0,2,4,1,3,5,6,7,8,9,10,11])) (.sq (.sq (.reg (rT Tryz.f3 13)) (.cd (.t 130) (.sq (.reg (rT Tryz.f3 14)) .rt) .sk)) (.sq (.sq (.reg (rT Tryz.f3 15)) (.bk 0 (.lp 0 fg_f3_0 tb_f3_0))) (.sq (.dr dr_f3_2 [(0,[4]),(1,[]),(2,[9]),(3,[]),(4,[]),(5,[]),(6,[]),(7,[]),(8,[])] (.of [0,1,2,3,4,5,6,7,8])) .rt)))))))))))))))
def rv_f3:List (RV×Option Ty):=[((.t 2),some .bool)]
abbrev sh_f3_0:Sh:=⟨[(4,.ptr 4 0),(6,.ptr 6 0),(9,.ptr 9 0),(19,.ty (.sl tyFinding)),(21,.ty tI)],[(4,.box tyImage),(6,.box tyFinding),(9,.box tyImage)]⟩
def st_f3_0 (x19:List Finding)(x21:Int)(y4:Image)(y6:Finding)(y9:Image):VS:=sh_f3_0.st ((),(),(),x19,x21,()) (y4,y6,y9,())
abbrev sh_f3_0_ret:Sh:=⟨[(2,.ty .bool)],[]⟩
def st_f3_0_ret (x2:Bool):VS:=sh_f3_0_ret.st (x2,()) ()
abbrev sh_f3_0_e0:Sh:=⟨[(4,.ptr 4 0),(9,.ptr 9 0)],[(4,.box tyImage),(9,.box tyImage)]⟩
def st_f3_0_e0 (y4 y9:Image):VS:=sh_f3_0_e0.st ((),(),()) (y4,y9,())
def L_f3_0:VS->Option (Bool×List (Bool×Exit×VS)):=mkL sh_f3_0 (fun x y=>(idxG x.2.2.2.1 x.2.2.2.2.1)) (fun x y=>[((!((x.2.2.2.1.drop x.2.2.2.2.1.toNat).all (okN y.2.1))),.ret,st_f3_0_ret (false)),(true,.exit 0,st_f3_0_e0 (y.1) (y.2.2.1))])
def g_f3:G:=⟨TYs,[76],170,EL [(4,sp_f4),(5,sp_f5),(6,sp_f6),(7,sp_f7),(8,sp_f8),(9,sp_f9),(10,sp_f10),(11,sp_f11),(12,sp_f12),(13,sp_f13),(14,sp_f14),(15,sp_f15),(16,sp_f16),(17,sp_f17),(18,sp_f18),(19,sp_f19)],keeps,(Ls [L_f3_0]),IL [],RL []⟩
def b_f3_0 (x19:List Finding)(x21:Int)(y4:Image)(y6:Finding)(y9:Image):Option (Exit×VS):=
 let a1:=((lgt tyFinding x19 (Int.toNat x21)).2)
 br (ilt x21 (llen x19)) (br (cIx x19 x21) (br (ine (((((a1.2).2).2).2).1) 1) (some (.ret,st_f3_0_ret false)) (br (cIx x19 x21) (br (sne (a1.1) y6.2.1) (some (.ret,st_f3_0_ret false)) (br (cIx x19 x21) (br (!(validF (((((((a1.2).2).2).2).2).2).1))) (some (.ret,st_f3_0_ret false)) (some (.normal,st_f3_0 x19 (iadd .i64 x21 1) y4 y6 y9))) none)) none)) none) (some (.exit 0,st_f3_0_e0 y4 y9))
noncomputable def lp_f3_0 (x19:List Finding)(x21:Int)(y4:Image)(y6:Finding)(y9:Image):Option (Exit×VS):=loopF (roundF g_f3 fg_f3_0 tb_f3_0) (st_f3_0 x19 x21 y4 y6 y9)
noncomputable def n_f3_0 (x19:List Finding)(x21:Int)(y4:Image)(y6:Finding)(y9:Image):Option (Exit×VS):=
 let a1:=((lgt tyFinding x19 (Int.toNat x21)).2)
 br (ilt x21 (llen x19)) (br (cIx x19 x21) (br (ine (((((a1.2).2).2).2).1) 1) (some (.ret,st_f3_0_ret false)) (br (cIx x19 x21) (br (sne (a1.1) y6.2.1) (some (.ret,st_f3_0_ret false)) (br (cIx x19 x21) (br (!(validF (((((((a1.2).2).2).2).2).2).1))) (some (.ret,st_f3_0_ret false)) (lp_f3_0 x19 (iadd .i64 x21 1) y4 y6 y9)) none)) none)) none) (some (.exit 0,st_f3_0_e0 y4 y9))
def la_f3_0 (x19:List Finding)(x21:Int)(y4:Image)(y6:Finding)(y9:Image):Option (Exit×VS):=br (!((x19.drop x21.toNat).all (okN y6))) (some (.ret,st_f3_0_ret (false)))<|some (.exit 0,st_f3_0_e0 (y4) (y9))
theorem be_f3_0 (x19:List Finding)(x21:Int)(y4:Image)(y6:Finding)(y9:Image):roundF g_f3 fg_f3_0 tb_f3_0 (st_f3_0 x19 x21 y4 y6 y9)=b_f3_0 x19 x21 y4 y6 y9:=by kernel_rfl
theorem ln_f3_0 (x19:List Finding)(x21:Int)(y4:Image)(y6:Finding)(y9:Image):lp_f3_0 x19 x21 y4 y6 y9=n_f3_0 x19 x21 y4 y6 y9:=(loopF_nxt _ _).trans (by
 rw [be_f3_0]
 simp only [b_f3_0,n_f3_0,nxt_br,nxt_n,nxt_r,nxt_e,nxt_0]
 rfl)
def r_f3 (p0:List Int):Option (V×List VO):=
 let a9:=(ByteArray.mk #[97,112,112])
 let a8:=(ByteArray.mk #[115,115,108])
 let a7:=imgN (roll p0)
 let a3:=imgV (roll p0)
 let a5:=uspF (patV a7) a3
 let a1:=(pkgF ([(a9,([2],([(a8,((([]:List Int),(([]:List Int),())),()))],()))),(a8,([1,4],(([]:List Need),())))]) ([(a8,(([1],(([]:List Int),())),(a5.1,())))]) a9)
 let a6:=((decX ((encX a3).1)).1)
 let a2:=uspF (patV a7) a6
 let a4:=(fusF (finV (patN a7)) ((([]:List Keep)++(a1.1))++(a2.1)))
 br (!(light p0)) (some (.t .bool fawB,[])) (br (dOk (roll p0)) (br (dOk a7) (br (dOk (patN a7)) (br (chkOk a3) (br (decOkX ((encX a3).1)) (br (uspOk (patV a7) a3) (br (uspOk (patV a7) a6) (br (pkgOk ([(a9,([2],([(a8,((([]:List Int),(([]:List Int),())),()))],()))),(a8,([1,4],(([]:List Need),())))]) ([(a8,(([1],(([]:List Int),())),(a5.1,())))]) a9) (br (cApp ([]:List Keep) (a1.1) 16) (br (cApp (([]:List Keep)++(a1.1)) (a2.1) 16) (br (fusOk (finV (patN a7)) ((([]:List Keep)++(a1.1))++(a2.1))) (br (ine ((encX a3).2) 0) (some (.t .bool false,[])) (br (ine ((decX ((encX a3).1)).2) 0) (some (.t .bool false,[])) (br (ine (a5.2) 0) (some (.t .bool false,[])) (br (ine (a2.2) 0) (some (.t .bool false,[])) (br (ine (a1.2) 0) (some (.t .bool false,[])) (br (ine (a4.2) 0) (some (.t .bool false,[])) (br (sameXOk a3 a6) (br (!(sameX a3 a6)) (some (.t .bool false,[])) (br (sameUOk (a5.1) (a2.1)) (br (!(sameU (a5.1) (a2.1))) (some (.t .bool false,[])) (br (sameUOk (a5.1) (a1.1)) (br (!(sameU (a5.1) (a1.1))) (some (.t .bool false,[])) (br (ine (llen (a4.1)) (llen (a5.1))) (some (.t .bool false,[])) (br (idxG (a4.1) (0:Int)) (br (!(((a4.1).drop (0:Int).toNat).all (okN (finV (patN a7))))) (some (.t .bool (false),[])) (br (algOk a3) (br (algOk a6) (br (sameIOk (algX a3) (algX a6)) (br (sameI (algX a3) (algX a6)) (some (.t .bool fawB,[])) (some (.t .bool false,[]))) none) none) none)) none))) none)) none)) none))))))) none) none) none) none) none) none) none) none) none) none) none)
theorem e_f3 (p0:List Int):runF g_f3 tc_f3 rv_f3 false [.t (.sl tI) p0] []=r_f3 p0:=by kernel_rfl
theorem gk_f3:GOk Tryz.prog g_f3:=gok_of _ (gA (gC en_f4 ms_f4 (gC en_f5 ms_f5 (gC en_f6 ms_f6 (gC en_f7 ms_f7 (gC en_f8 ms_f8 (gC en_f9 ms_f9 (gC en_f10 ms_f10 (gC en_f11 ms_f11 (gC en_f12 ms_f12 (gC en_f13 ms_f13 (gC en_f14 ms_f14 (gC en_f15 ms_f15 (gC en_f16 ms_f16 (gC en_f17 ms_f17 (gC en_f18 ms_f18 (gC en_f19 ms_f19 gN)))))))))))))))))
theorem l_f3_0 (x19:List Finding)(x21:Int)(y4:Image)(y6:Finding)(y9:Image)(h:(idxG x19 x21)=true):lp_f3_0 x19 x21 y4 y6 y9=la_f3_0 x19 x21 y4 y6 y9:=by
 obtain ⟨h1,h2,h3⟩:0<=x21/\x21<=x19.length/\x19.length<=100000:=of_decide_eq_true h
 obtain ⟨k,rfl⟩:=Int.eq_ofNat_of_zero_le h1
 refine range_ind x19 (fun k=>lp_f3_0 x19 (k:Int) y4 y6 y9=la_f3_0 x19 (k:Int) y4 y6 y9) ?_ ?_ k (by omega)
 ·rw [ln_f3_0]
  have e0:ilt ((x19.length:Nat):Int) (llen x19)=false:=decide_eq_false (by simp only [llen];omega)
  simp [n_f3_0,la_f3_0,e0,br_false]
 ·intro k hk ih
  rw [ln_f3_0]
  have e0:ilt ((k:Nat):Int) (llen x19)=true:=decide_eq_true (by simp only [llen];omega)
  have e1: ∀ a:Int,ine a 1= !(ieq a 1):=fun a=>rfl
  simp only [n_f3_0,e0,cIx_nat,hk,decide_true,br_true,Int.toNat_natCast,add1 (k:=k),lgt_get (y:=tyFinding) hk,ih,e1,sne_not]
  simp only [la_f3_0,Int.toNat_natCast,List.drop_eq_getElem_cons hk,List.all_cons,okN,fKind,fHost,fUse]
  cases ieq x19[k].2.2.2.2.2.1 1<;>cases seq x19[k].2.1 y6.2.1<;>cases validF x19[k].2.2.2.2.2.2.2.1<;>rfl
theorem lo_f3_0: ∀ S l p,g_f3.L 0 (fgt fg_f3_0 S)=some (true,l)->pickA l=some p->loopF (roundF g_f3 fg_f3_0 tb_f3_0) S=some p:=
 lok_of (s:=sh_f3_0) ⟨by decide,by decide⟩ (by kernel_rfl) fun x y hok p hp=>by
 simp only [pickA_br,pickA_one] at hp
 exact (l_f3_0 x.2.2.2.1 x.2.2.2.2.1 y.1 y.2.1 y.2.2.1 (by simpa using hok)).trans hp
theorem lk_f3:tc_f3.lok g_f3:=by
 repeat (first|exact trivial|exact lo_f3_0|refine ⟨?_, ?_⟩)
theorem algX_few {x:Image}(h:x.2.1.length<=64):(algX x).length<=128:=by
 have h1:(algX x).length<=(sortI (x.2.1.flatMap algS)).length:=by
  unfold algX Lib.compact Lib.compactUpTo
  rw [List.length_map]
  exact Nat.le_trans (List.length_filter_le _ _) (by simp)
 have h2:(sortI (x.2.1.flatMap algS)).length=(x.2.1.flatMap algS).length:=List.length_mergeSort _
 have h3: ∀ l:List Symbol,(l.flatMap algS).length<=2*l.length:=fun l=>by
  induction l with
  |nil=>simp
  |cons z l ih=>
   have:=algS_len z
   simp only [List.flatMap_cons,List.length_append,List.length_cons]
   omega
 have:=h3 x.2.1
 omega
theorem s_f3 (l:List Int)(h:tbOk l=true):r_f3 l=some (.t .bool (tbT l),[]):=by
 simp only [r_f3]
 cases hl:light l with
 |false=>rfl
 |true=>
  have hd:=dOk_roll hl
  obtain ⟨d,ed⟩: ∃ d,d=roll l:=⟨_,rfl⟩
  rw [←ed] at hd ⊢
  clear ed hl
  have hi:=img_okB hd
  have hp:=dok_pat hi
  obtain ⟨p1,p2⟩:=pat_all (imgN d)
  have hu1:=usp_ok p1 p2 d
  have hu2:=usp_eq p1 p2 d
  obtain ⟨u1,u2,u3⟩:=fnd_all p1 p2 (imgV d)
  have hen:encX (imgV d)=(writtenF (imgV d),0):=by
   unfold encX
   rw [img_ok]
   rfl
  have hde:decX (writtenF (imgV d))=(imgV d,0):=dec_written (img_ok d)
  have hfo:=fin_ok (patN (imgN d))
  have hfe:=fus_eq (patN (imgN d)) u1 u2 fun x hx=>(u3 x hx).2
  obtain ⟨b1,b2,b3,b4,b5⟩:=bad_facts (img_ok d)
  have hck:=img_chk d
  have hdc:=img_dec d
  have hsx:=sameX_self (imgV d)
  have hal:algOk (imgV d)=true:=Bool.and_eq_true_iff.2 ⟨decide_eq_true (by omega),List.all_eq_true.2 fun z hz=>decide_eq_true (by have:=(b4 z hz).1;omega)⟩
  have hio:sameIOk (algX (imgV d)) (algX (imgV d))=true:=decide_eq_true (by have:=algX_few b2;omega)
  have hii:sameI (algX (imgV d)) (algX (imgV d))=true:=by simp [sameI]
  have hsk:sameXOk (imgV d) (imgV d)=true:=decide_eq_true ⟨by omega,by omega⟩
  simp only [Bool.not_true,br_false,hd,hi,hp,br_true,hck,hen,hdc,hde,hu1,hu2]
  obtain ⟨u,eu⟩: ∃ u,u=fndU (patV (imgN d)) (imgV d):=⟨_,rfl⟩
  rw [←eu] at u1 u2 u3 hfe ⊢
  clear eu hu1 hu2
  have hka:u.all okU=true:=List.all_eq_true.2 fun x hx=>(u3 x hx).1
  have k1:pkgOk [((ByteArray.mk #[97,112,112]),([2],([((ByteArray.mk #[115,115,108]),((([]:List Int),(([]:List Int),())),()))],()))),((ByteArray.mk #[115,115,108]),([1,4],(([]:List Need),())))] [((ByteArray.mk #[115,115,108]),(([1],(([]:List Int),())),(u,())))] (ByteArray.mk #[97,112,112])=true:=pkg_ok (by omega) hka
  have k2:pkgF [((ByteArray.mk #[97,112,112]),([2],([((ByteArray.mk #[115,115,108]),((([]:List Int),(([]:List Int),())),()))],()))),((ByteArray.mk #[115,115,108]),([1,4],(([]:List Need),())))] [((ByteArray.mk #[115,115,108]),(([1],(([]:List Int),())),(u,())))] (ByteArray.mk #[97,112,112])=(u,0):=pkg_eq u1 fun x hx=>(u3 x hx).2
  have c1:cApp ([]:List Keep) u 16=true:=cApp_ok (by simp only [List.length_nil];omega) (by decide)
  have c2:cApp u u 16=true:=cApp_ok (by omega) (by decide)
  have c3:fusOk (finV (patN (imgN d))) (u++u)=true:=Bool.and_eq_true_iff.2 ⟨hfo,decide_eq_true (by rw [List.length_append];omega)⟩
  have c4:sameUOk u u=true:=decide_eq_true ⟨by omega,by omega⟩
  have c5:sameU u u=true:=by simp [sameU]
  have c6:ine (llen (u.map (ntU (finV (patN (imgN d)))))) (llen u)=false:=by simp [ine,llen]
  have c7:idxG (u.map (ntU (finV (patN (imgN d))))) 0=true:=decide_eq_true ⟨by omega,by rw [List.length_map];omega,by rw [List.length_map];omega⟩
  have c8:(u.map (ntU (finV (patN (imgN d))))).all (okN (finV (patN (imgN d))))=true:=List.all_eq_true.2 fun f hf=>by
   obtain ⟨x,hx,rfl⟩:=List.mem_map.1 hf
   show (ieq 1 1&&(seq (fHost (finV (patN (imgN d)))) (fHost (finV (patN (imgN d))))&&validF x))=true
   rw [seq_self,(u3 x hx).2]
   rfl
  have i0:ine (0:Int) 0=false:=rfl
  simp only [k1,k2,List.nil_append,c1,c2,c3,hfe,i0,br_true,br_false,hsk,hsx,Bool.not_true,c4,c5,c6,c7,Int.toNat_zero,List.drop_zero,c8,hal,hio,hii]
  rfl
def sp_f3:Ent:=spec (.pr (.sl tI) .nil) (fun x=>(tbOk x.1)) (fun x=>(.t .bool (tbT x.1)))
theorem ms_f3:Meets Tryz.prog 3 (strip sp_f3):=meets_spec (R:=runF g_f3 tc_f3 rv_f3 false) (mG Tryz.func3 (by kernel_rfl) Tryz.ntmps3 (by kernel_rfl) gk_f3 lk_f3) fun x hok=>(e_f3 x.1).trans (s_f3 x.1 hok)
theorem okw_TopBinaries (z0:List Int)(w0:Ty.wf (.sl (.int .i64)) z0):tbOk z0=true:=rfl
theorem walkTopBinaries (z0:(List Int))(W:World)(v0:Value)(c0:C noX W (fun _=> .no) (V.t (.sl tI) z0).d v0)(w0:Ty.wf (.sl tI) z0)(T:TabI noX W):
  Calls Tryz.prog 3 #[v0] W fun r w'=>r= .returned (.bool true)/\Below W.heap.size W w':=
 calls_true (by decide) ms_f3 (args:=[.t (.sl tI) z0]) (strip_spec (x:=(z0,())) rfl (okw_TopBinaries z0 w0)) (by simp only [V.ds,Cs];exact ⟨_,_,rfl,c0,rfl⟩) (ht:=T)
end
end Go.Proofs.YtmokmalepelinaaGreatDoor.K
