import Derived.Test.YtkkoedniahnneaaDoorQ6
set_option linter.unusedSimpArgs false
set_option linter.unusedVariables false
set_option linter.unusedSectionVars false
namespace Go.Proofs.YtkkoedniahnneaaDoor.K
open Go.RowKit
noncomputable section
set_option linter.unusedSectionVars false
abbrev bw1:List ByteArray:=[(ByteArray.mk #[]),(ByteArray.mk #[32]),(ByteArray.mk #[10]),(ByteArray.mk #[35,32,110,111,116,101,10]),(ByteArray.mk #[9])]
abbrev bw2:List ByteArray:=[(ByteArray.mk #[97]),(ByteArray.mk #[115,101,114,118,101,114]),(ByteArray.mk #[98,45,49]),(ByteArray.mk #[120,58,121]),(ByteArray.mk #[34,113,32,114,34]),(ByteArray.mk #[34,34]),(ByteArray.mk #[34,97,92,34,98,34]),(ByteArray.mk #[43,118,52,33])]
abbrev bw3:List ByteArray:=[(ByteArray.mk #[32]),(ByteArray.mk #[32,32]),(ByteArray.mk #[10]),(ByteArray.mk #[32]),(ByteArray.mk #[])]
abbrev bw4:List ByteArray:=[(ByteArray.mk #[125]),(ByteArray.mk #[125]),(ByteArray.mk #[125,10]),(ByteArray.mk #[])]
abbrev bw5:List ByteArray:=[(ByteArray.mk #[59]),(ByteArray.mk #[59,10]),(ByteArray.mk #[59,32]),(ByteArray.mk #[])]
abbrev SD:Type:=ByteArray×Dice
def tx0G:Nat->ByteArray->Dice->SD
 |0,s,d=>(s,d)
 |k+1,s,d=>tx0G k (scat (scat s (dwdG d bw2)) (dwdG (dwdGN d bw2) bw3)) (dwdGN (dwdGN d bw2) bw3)
def txB (rec:Dice->SD)(dep:Bool)(r:SD):SD:=
 bif dep then (bif done r.2 3 then (scat (scat (scat r.1 (ByteArray.mk #[123])) (rec (dnext r.2 3)).1) (dwdG (rec (dnext r.2 3)).2 bw4),dwdGN (rec (dnext r.2 3)).2 bw4)
  else (scat r.1 (dwdG (dnext r.2 3) bw5),dwdGN (dnext r.2 3) bw5)) else (scat r.1 (dwdG r.2 bw5),dwdGN r.2 bw5)
def txA (s:ByteArray)(d:Dice):SD:=tx0G (1+dval (dwdGN d bw1) 3).toNat (scat s (dwdG d bw1)) (dnext (dwdGN d bw1) 3)
def tx1G (rec:Dice->SD)(dep:Bool):Nat->ByteArray->Dice->SD
 |0,s,d=>(s,d)
 |i+1,s,d=>tx1G rec dep i (txB rec dep (txA s d)).1 (txB rec dep (txA s d)).2
def txG:Nat->Dice->SD
 |0,d=>tx1G (fun d=>(ByteArray.mk #[],d)) false (dval d 5).toNat (ByteArray.mk #[]) (dnext d 5)
 |n+1,d=>tx1G (txG n) true (dval d 5).toNat (ByteArray.mk #[]) (dnext d 5)
def tx7F (d:Dice)(n:Int):ByteArray:=(txG n.toNat d).1
def tx7N (d:Dice)(n:Int):Dice:=(txG n.toNat d).2
def tx7S:Nat->Dice->Int->Bool
 |0,_,_=>false
 |k+1,d,n=>dOk d&&cP (0<=n/\n<=k/\n<=3)
def tx7Ok (d:Dice)(n:Int):Bool:=dOk d&&cP (0<=n/\n<=3)
theorem fuel_law07_text (d:Dice)(n:Int)(h:tx7Ok d n=true): ∃ N,tx7S N d n=true:=by
 obtain ⟨h1,h2⟩:=Bool.and_eq_true_iff.1 h
 obtain ⟨h2,h3⟩:=cP_of h2
 exact ⟨4,Bool.and_eq_true_iff.2 ⟨h1,cP_in ⟨h2,h3,h3⟩⟩⟩
def Bn:Nat->Nat
 |0=>150
 |n+1=>5*Bn n
theorem Bn_le: ∀ n,n<=3->Bn n<=20000
 |0,_=>by decide
 |1,_=>by decide
 |2,_=>by decide
 |3,_=>by decide
 |n+4,h=>by omega
theorem Bn_ge (n:Nat):150<=Bn n:=by
 induction n with
 |zero=>exact Nat.le_refl _
 |succ n ih=>unfold Bn;omega
theorem sct (a b:ByteArray):(scat a b).size=a.size+b.size:=ByteArray.size_append
theorem bz1 (d:Dice):(dwdG d bw1).size<=7:=dwd_size (by kernel_rfl)
theorem bz2 (d:Dice):(dwdG d bw2).size<=6:=dwd_size (by kernel_rfl)
theorem bz3 (d:Dice):(dwdG d bw3).size<=2:=dwd_size (by kernel_rfl)
theorem bz4 (d:Dice):(dwdG d bw4).size<=2:=dwd_size (by kernel_rfl)
theorem bz5 (d:Dice):(dwdG d bw5).size<=2:=dwd_size (by kernel_rfl)
theorem tx0_ok: ∀ (k:Nat) (s:ByteArray) (d:Dice),dOk d=true->(tx0G k s d).1.size<=s.size+8*k/\dOk (tx0G k s d).2=true
 |0,s,d,h=>⟨by show s.size<=_;omega,h⟩
 |k+1,s,d,h=>by
  obtain ⟨h1,h2⟩:=tx0_ok k (scat (scat s (dwdG d bw2)) (dwdG (dwdGN d bw2) bw3)) (dwdGN (dwdGN d bw2) bw3) (dOk_next (dOk_next h))
  have:=bz2 d
  have:=bz3 (dwdGN d bw2)
  rw [sct,sct] at h1
  exact ⟨by show (tx0G k _ _).1.size<=_;omega,h2⟩
theorem txA_ok (s:ByteArray)(d:Dice)(h:dOk d=true):(txA s d).1.size<=s.size+31/\dOk (txA s d).2=true:=by
 have hv:=dval_lt (d:=dwdGN d bw1) (n:=3) (by omega)
 have hv0:0<=dval (dwdGN d bw1) 3:=by omega
 obtain ⟨h1,h2⟩:=tx0_ok (1+dval (dwdGN d bw1) 3).toNat (scat s (dwdG d bw1)) (dnext (dwdGN d bw1) 3) (dOk_next (dOk_next h))
 have:=bz1 d
 rw [sct] at h1
 exact ⟨by show (tx0G _ _ _).1.size<=_;omega,h2⟩
theorem txB_ok {rec:Dice->SD}{dep:Bool}{B:Nat}(hr:dep=true→ ∀ d,dOk d=true->(rec d).1.size<=B/\dOk (rec d).2=true)(r:SD)(h:dOk r.2=true):(txB rec dep r).1.size<=r.1.size+B+3/\dOk (txB rec dep r).2=true:=by
 unfold txB
 cases dep with
 |false=>
  have:=bz5 r.2
  exact ⟨by show (scat _ _).size<=_;rw [sct];omega,show dOk (dwdGN r.2 bw5)=true from dOk_next h⟩
 |true=>
  rw [cond_true]
  obtain ⟨h1,h2⟩:=hr rfl (dnext r.2 3) (dOk_next h)
  cases done r.2 3 with
  |true=>
   have:=bz4 (rec (dnext r.2 3)).2
   have e:(ByteArray.mk #[123]).size=1:=rfl
   exact ⟨by show (scat (scat (scat _ _) _) _).size<=_;rw [sct,sct,sct];omega,show dOk (dwdGN (rec (dnext r.2 3)).2 bw4)=true from dOk_next h2⟩
  |false=>
   have:=bz5 (dnext r.2 3)
   exact ⟨by show (scat _ _).size<=_;rw [sct];omega,show dOk (dwdGN (dnext r.2 3) bw5)=true from dOk_next (dOk_next h)⟩
theorem tx1_ok {rec:Dice->SD}{dep:Bool}{B:Nat}(hr:dep=true→ ∀ d,dOk d=true->(rec d).1.size<=B/\dOk (rec d).2=true): ∀ (i:Nat) (s:ByteArray) (d:Dice),dOk d=true->(tx1G rec dep i s d).1.size<=s.size+i*(34+B)/\dOk (tx1G rec dep i s d).2=true
 |0,s,d,h=>⟨by show s.size<=_;omega,h⟩
 |i+1,s,d,h=>by
  obtain ⟨h1,h2⟩:=txA_ok s d h
  obtain ⟨h3,h4⟩:=txB_ok hr (txA s d) h2
  obtain ⟨h5,h6⟩:=tx1_ok hr i (txB rec dep (txA s d)).1 (txB rec dep (txA s d)).2 h4
  rw [Nat.succ_mul]
  exact ⟨by show (tx1G rec dep i _ _).1.size<=_;omega,h6⟩
theorem txG_ok: ∀ (n:Nat) (d:Dice),dOk d=true->(txG n d).1.size<=Bn n/\dOk (txG n d).2=true
 |0,d,h=>by
  have hv:=dval_lt (d:=d) (n:=5) (by omega)
  obtain ⟨h1,h2⟩:=tx1_ok (rec:=fun d=>(ByteArray.mk #[],d)) (dep:=false) (B:=0) (fun h=>by cases h) (dval d 5).toNat (ByteArray.mk #[]) (dnext d 5) (dOk_next h)
  have e:(ByteArray.mk #[]).size=0:=rfl
  refine ⟨?_,h2⟩
  show (tx1G _ _ _ _ _).1.size<=150
  have:(dval d 5).toNat<=4:=by omega
  have:=Nat.mul_le_mul_right (34+0) this
  omega
 |n+1,d,h=>by
  have hv:=dval_lt (d:=d) (n:=5) (by omega)
  obtain ⟨h1,h2⟩:=tx1_ok (rec:=txG n) (dep:=true) (B:=Bn n) (fun _ d hd=>txG_ok n d hd) (dval d 5).toNat (ByteArray.mk #[]) (dnext d 5) (dOk_next h)
  have e:(ByteArray.mk #[]).size=0:=rfl
  refine ⟨?_,h2⟩
  show (tx1G _ _ _ _ _).1.size<=5*Bn n
  have:(dval d 5).toNat<=4:=by omega
  have:=Nat.mul_le_mul_right (34+Bn n) this
  have:=Bn_ge n
  omega
def tb0 (s:ByteArray)(k:Int)(d:Dice):Bool:=dOk d&&cP (0<=k/\k<=3/\s.size+8*k.toNat<=2000000)
def txRec (n:Int):Dice->SD:=if n.toNat=0 then fun d=>(ByteArray.mk #[],d) else txG (n.toNat-1)
def txDep (n:Int):Bool:=igt n 0
theorem en_f22:Entered Tryd.prog 22:= .inr ⟨by decide,_,Tryd.func22,by kernel_rfl,by kernel_rfl⟩
def sp_f22R [Fuel]:Ent:=specP tyDice (.pr tI .nil) (fun d x=>(tx7S fuel d x.1)) (fun d x=>(.t .str (tx7F d x.1))) (fun d x=>(tx7N d x.1))
theorem en_f22R:Entered Tryd.prog 22:=en_f22
section
variable [Fuel][Nonempty (PLift (Meets Tryd.prog 22 (strip sp_f22R)))]
theorem ms_f22R:Meets Tryd.prog 22 (strip sp_f22R):=(Classical.choice (inferInstance:Nonempty (PLift (Meets Tryd.prog 22 (strip sp_f22R))))).down
def tb1 [Fuel](n:Int)(s:ByteArray)(i:Int)(d:Dice):Bool:=dOk d&&cP (0<=n/\n<=fuel/\n<=3/\0<=i/\i<=4/\s.size+i.toNat*20034<=1000000)
def fg_f22_0:Fg:=⟨[(0,none),(1,some tI),(5,some .str),(6,some tI),(7,some tI)],[(50000,some tyDice)]⟩
def tb_f22_0:TC:=(.sq (.sq (.reg [(oV 22 7),(oP 23 (.bin false .gtr (.t 22) (cI 0)))]) (.cd (.t 23) .sk (.fg ⟨[(0,none),(1,some tI),(5,some .str),(6,some tI)],[(50000,some tyDice)]⟩ (.ex 2)))) (.sq (.bk 3 (.reg [(oV 26 5),(oV 27 0),(oM 28 (.bs 9 1 8 [(.v (.string (ByteArray.mk #[]))),(.v (.string (ByteArray.mk #[]))),(.v (.string (ByteArray.mk #[]))),(.v (.string (ByteArray.mk #[]))),(.v (.string (ByteArray.mk #[]))),(.v (.string (ByteArray.mk #[]))),(.v (.string (ByteArray.mk #[]))),(.v (.string (ByteArray.mk #[])))] [(0,1,(.c (.v (.string (ByteArray.mk #[97]))))),(1,1,(.c (.v (.string (ByteArray.mk #[115,101,114,118,101,114]))))),(2,1,(.c (.v (.string (ByteArray.mk #[98,45,49]))))),(3,1,(.c (.v (.string (ByteArray.mk #[120,58,121]))))),(4,1,(.c (.v (.string (ByteArray.mk #[34,113,32,114,34]))))),(5,1,(.c (.v (.string (ByteArray.mk #[34,34]))))),(6,1,(.c (.v (.string (ByteArray.mk #[34,97,92,34,98,34]))))),(7,1,(.c (.v (.string (ByteArray.mk #[43,118,52,33])))))])),(oC 29 32 [(.t 27),(.t 28)]),(oP 30 (.bin false .add (.t 26) (.t 29))),(oV 31 0),(oM 32 (.bs 9 1 5 [(.v (.string (ByteArray.mk #[]))),(.v (.string (ByteArray.mk #[]))),(.v (.string (ByteArray.mk #[]))),(.v (.string (ByteArray.mk #[]))),(.v (.string (ByteArray.mk #[])))] [(0,1,(.c (.v (.string (ByteArray.mk #[32]))))),(1,1,(.c (.v (.string (ByteArray.mk #[32,32]))))),(2,1,(.c (.v (.string (ByteArray.mk #[10]))))),(3,1,(.c (.v (.string (ByteArray.mk #[32]))))),(4,1,(.c (.v (.string (ByteArray.mk #[])))))])),(oC 33 32 [(.t 31),(.t 32)]),(oP 34 (.bin false .add (.t 30) (.t 33))),(oV 5 34)])) (.reg [(oV 24 7),(oP 25 (.bin false .sub (.t 24) (cI 1))),(oV 7 25)])))
def fg_f22_1:Fg:=⟨[(0,none),(1,some tI),(5,some .str),(6,some tI)],[(50000,some tyDice)]⟩
def tb_f22_1:TC:=(.sq (.sq (.reg [(oV 10 6),(oP 11 (.bin false .gtr (.t 10) (cI 0)))]) (.cd (.t 11) .sk (.fg ⟨[(5,some .str)],[(50000,some tyDice)]⟩ (.ex 0)))) (.sq (.bk 1 (.sq (.reg [(oV 14 5),(oV 15 0),(oM 16 (.bs 9 1 5 [(.v (.string (ByteArray.mk #[]))),(.v (.string (ByteArray.mk #[]))),(.v (.string (ByteArray.mk #[]))),(.v (.string (ByteArray.mk #[]))),(.v (.string (ByteArray.mk #[])))] [(0,1,(.c (.v (.string (ByteArray.mk #[]))))),(1,1,(.c (.v (.string (ByteArray.mk #[32]))))),(2,1,(.c (.v (.string (ByteArray.mk #[10]))))),(3,1,(.c (.v (.string (ByteArray.mk #[35,32,110,111,116,101,10]))))),(4,1,(.c (.v (.string (ByteArray.mk #[9])))))])),(oC 17 32 [(.t 15),(.t 16)]),(oP 18 (.bin false .add (.t 14) (.t 17))),(oV 5 18)]) (.sq (.sq (.reg [(oV 19 0),(oC 20 18 [(.t 19),(cI 3)]),(oP 21 (.bin false .add (cI 1) (.t 20))),(oV 7 21)]) (.bk 2 (.lp 0 fg_f22_0 tb_f22_0))) (.sq (.reg [(oV 35 1),(oP 36 (.bin false .gtr (.t 35) (cI 0))),(oV 37 36),(oQ 38 37 true (.mv (.t 0))),(oG 39 37 true (.call 52 [(.t 38),(cI 3)])),(oP 40 (.pick (.t 37) (.t 39) (cB false)))]) (.cd (.t 40) (.reg [(oV 41 5),(oP 42 (.bin false .add (.t 41) (.c (.v (.string (ByteArray.mk #[123])))))),(oV 43 0),(oV 44 1),(oP 45 (.bin false .sub (.t 44) (cI 1))),(oC 46 22 [(.t 43),(.t 45)]),(oP 47 (.bin false .add (.t 42) (.t 46))),(oV 48 0),(oM 49 (.bs 9 1 4 [(.v (.string (ByteArray.mk #[]))),(.v (.string (ByteArray.mk #[]))),(.v (.string (ByteArray.mk #[]))),(.v (.string (ByteArray.mk #[])))] [(0,1,(.c (.v (.string (ByteArray.mk #[125]))))),(1,1,(.c (.v (.string (ByteArray.mk #[125]))))),(2,1,(.c (.v (.string (ByteArray.mk #[125,10]))))),(3,1,(.c (.v (.string (ByteArray.mk #[])))))])),(oC 50 32 [(.t 48),(.t 49)]),(oP 51 (.bin false .add (.t 47) (.t 50))),(oV 5 51)]) (.reg [(oV 52 5),(oV 53 0),(oM 54 (.bs 9 1 4 [(.v (.string (ByteArray.mk #[]))),(.v (.string (ByteArray.mk #[]))),(.v (.string (ByteArray.mk #[]))),(.v (.string (ByteArray.mk #[])))] [(0,1,(.c (.v (.string (ByteArray.mk #[59]))))),(1,1,(.c (.v (.string (ByteArray.mk #[59,10]))))),(2,1,(.c (.v (.string (ByteArray.mk #[59,32]))))),(3,1,(.c (.v (.string (ByteArray.mk #[])))))])),(oC 55 32 [(.t 53),(.t 54)]),(oP 56 (.bin false .add (.t 52) (.t 55))),(oV 5 56)])))))) (.reg [(oV 12 6),(oP 13 (.bin false .sub (.t 12) (cI 1))),(oV 6 13)])))
def tc_f22:TC:=(.sq (.reg [(oP 4 (.mv (.c (.v (.string (ByteArray.mk #[]))))))]) (.sq (.reg [(oP 5 (.mv (.c (.v (.string (ByteArray.mk #[]))))))]) (.sq (.sq (.reg [(oV 8 0),(oC 9 18 [(.t 8),(cI 5)]),(oV 6 9)]) (.bk 0 (.lp 1 fg_f22_1 tb_f22_1))) (.sq (.reg [(oV 57 5),(oV 4 57)]) .rt))))
def rv_f22:List (RV×Option Ty):=[((.t 4),some .str)]
abbrev sh_f22_0:Sh:=⟨[(0,.ptr 50000 0),(1,.ty tI),(5,.ty .str),(6,.ty tI),(7,.ty tI)],[(50000,.box tyDice)]⟩
def st_f22_0 (x1:Int)(x5:ByteArray)(x6:Int)(x7:Int)(y50000:Dice):VS:=sh_f22_0.st ((),x1,x5,x6,x7,()) (y50000,())
abbrev sh_f22_0_e2:Sh:=⟨[(0,.ptr 50000 0),(1,.ty tI),(5,.ty .str),(6,.ty tI)],[(50000,.box tyDice)]⟩
def st_f22_0_e2 (x1:Int)(x5:ByteArray)(x6:Int)(y50000:Dice):VS:=sh_f22_0_e2.st ((),x1,x5,x6,()) (y50000,())
-- loop 0: (x1 : Int) (x5 : ByteArray) (x6 : Int) (x7 : Int) (y50000 : Dice); out: ('exit', 2) (x1 : Int) (x5 : ByteArray) (x6 : Int) (y50000 : Dice)
abbrev sh_f22_1:Sh:=⟨[(0,.ptr 50000 0),(1,.ty tI),(5,.ty .str),(6,.ty tI)],[(50000,.box tyDice)]⟩
def st_f22_1 (x1:Int)(x5:ByteArray)(x6:Int)(y50000:Dice):VS:=sh_f22_1.st ((),x1,x5,x6,()) (y50000,())
abbrev sh_f22_1_e0:Sh:=⟨[(5,.ty .str)],[(50000,.box tyDice)]⟩
def st_f22_1_e0 (x5:ByteArray)(y50000:Dice):VS:=sh_f22_1_e0.st (x5,()) (y50000,())
-- loop 1: (x1 : Int) (x5 : ByteArray) (x6 : Int) (y50000 : Dice); out: ('exit', 0) (x5 : ByteArray) (y50000 : Dice)
def L_f22_0:VS->Option (Bool×List (Bool×Exit×VS)):=mkL sh_f22_0 (fun x y=>(tb0 x.2.2.1 x.2.2.2.2.1 y.1)) (fun x y=>[(true,.exit 2,st_f22_0_e2 (x.2.1) ((tx0G x.2.2.2.2.1.toNat x.2.2.1 y.1).1) (x.2.2.2.1) ((tx0G x.2.2.2.2.1.toNat x.2.2.1 y.1).2))])
def L_f22_1:VS->Option (Bool×List (Bool×Exit×VS)):=mkL sh_f22_1 (fun x y=>(tb1 x.2.1 x.2.2.1 x.2.2.2.1 y.1)) (fun x y=>[(true,.exit 0,st_f22_1_e0 ((tx1G (txRec x.2.1) (txDep x.2.1) x.2.2.2.1.toNat x.2.2.1 y.1).1) ((tx1G (txRec x.2.1) (txDep x.2.1) x.2.2.2.1.toNat x.2.2.1 y.1).2))])
def g_f22:G:=⟨TYs,[],58,EL [(18,sp_f18),(22,sp_f22R),(32,sp_f32),(52,sp_f52)],keeps,(Ls [L_f22_0,L_f22_1]),IL [],RL []⟩
def b_f22_0 (x1:Int)(x5:ByteArray)(x6:Int)(x7:Int)(y50000:Dice):Option (Exit×VS):=
 br ((igt x7 0))
  (br ((wdGOk y50000 ([(ByteArray.mk #[97]),(ByteArray.mk #[115,101,114,118,101,114]),(ByteArray.mk #[98,45,49]),(ByteArray.mk #[120,58,121]),(ByteArray.mk #[34,113,32,114,34]),(ByteArray.mk #[34,34]),(ByteArray.mk #[34,97,92,34,98,34]),(ByteArray.mk #[43,118,52,33])])))
   (br (cCat x5 (dwdG y50000 ([(ByteArray.mk #[97]),(ByteArray.mk #[115,101,114,118,101,114]),(ByteArray.mk #[98,45,49]),(ByteArray.mk #[120,58,121]),(ByteArray.mk #[34,113,32,114,34]),(ByteArray.mk #[34,34]),(ByteArray.mk #[34,97,92,34,98,34]),(ByteArray.mk #[43,118,52,33])])))
    (br ((wdGOk (dwdGN y50000 ([(ByteArray.mk #[97]),(ByteArray.mk #[115,101,114,118,101,114]),(ByteArray.mk #[98,45,49]),(ByteArray.mk #[120,58,121]),(ByteArray.mk #[34,113,32,114,34]),(ByteArray.mk #[34,34]),(ByteArray.mk #[34,97,92,34,98,34]),(ByteArray.mk #[43,118,52,33])])) ([(ByteArray.mk #[32]),(ByteArray.mk #[32,32]),(ByteArray.mk #[10]),(ByteArray.mk #[32]),(ByteArray.mk #[])])))
     (br (cCat (scat x5 (dwdG y50000 ([(ByteArray.mk #[97]),(ByteArray.mk #[115,101,114,118,101,114]),(ByteArray.mk #[98,45,49]),(ByteArray.mk #[120,58,121]),(ByteArray.mk #[34,113,32,114,34]),(ByteArray.mk #[34,34]),(ByteArray.mk #[34,97,92,34,98,34]),(ByteArray.mk #[43,118,52,33])]))) (dwdG (dwdGN y50000 ([(ByteArray.mk #[97]),(ByteArray.mk #[115,101,114,118,101,114]),(ByteArray.mk #[98,45,49]),(ByteArray.mk #[120,58,121]),(ByteArray.mk #[34,113,32,114,34]),(ByteArray.mk #[34,34]),(ByteArray.mk #[34,97,92,34,98,34]),(ByteArray.mk #[43,118,52,33])])) ([(ByteArray.mk #[32]),(ByteArray.mk #[32,32]),(ByteArray.mk #[10]),(ByteArray.mk #[32]),(ByteArray.mk #[])])))
      (some (.normal,st_f22_0 x1 (scat (scat x5 (dwdG y50000 ([(ByteArray.mk #[97]),(ByteArray.mk #[115,101,114,118,101,114]),(ByteArray.mk #[98,45,49]),(ByteArray.mk #[120,58,121]),(ByteArray.mk #[34,113,32,114,34]),(ByteArray.mk #[34,34]),(ByteArray.mk #[34,97,92,34,98,34]),(ByteArray.mk #[43,118,52,33])]))) (dwdG (dwdGN y50000 ([(ByteArray.mk #[97]),(ByteArray.mk #[115,101,114,118,101,114]),(ByteArray.mk #[98,45,49]),(ByteArray.mk #[120,58,121]),(ByteArray.mk #[34,113,32,114,34]),(ByteArray.mk #[34,34]),(ByteArray.mk #[34,97,92,34,98,34]),(ByteArray.mk #[43,118,52,33])])) ([(ByteArray.mk #[32]),(ByteArray.mk #[32,32]),(ByteArray.mk #[10]),(ByteArray.mk #[32]),(ByteArray.mk #[])]))) x6 (isub .i64 x7 1) (dwdGN (dwdGN y50000 ([(ByteArray.mk #[97]),(ByteArray.mk #[115,101,114,118,101,114]),(ByteArray.mk #[98,45,49]),(ByteArray.mk #[120,58,121]),(ByteArray.mk #[34,113,32,114,34]),(ByteArray.mk #[34,34]),(ByteArray.mk #[34,97,92,34,98,34]),(ByteArray.mk #[43,118,52,33])])) ([(ByteArray.mk #[32]),(ByteArray.mk #[32,32]),(ByteArray.mk #[10]),(ByteArray.mk #[32]),(ByteArray.mk #[])]))))
      (none))
     (none))
    (none))
   (none))
  (some (.exit 2,st_f22_0_e2 x1 x5 x6 y50000))
noncomputable def lp_f22_0 (x1:Int)(x5:ByteArray)(x6:Int)(x7:Int)(y50000:Dice):Option (Exit×VS):=loopF (roundF g_f22 fg_f22_0 tb_f22_0) (st_f22_0 x1 x5 x6 x7 y50000)
noncomputable def n_f22_0 (x1:Int)(x5:ByteArray)(x6:Int)(x7:Int)(y50000:Dice):Option (Exit×VS):=
 br ((igt x7 0))
  (br ((wdGOk y50000 ([(ByteArray.mk #[97]),(ByteArray.mk #[115,101,114,118,101,114]),(ByteArray.mk #[98,45,49]),(ByteArray.mk #[120,58,121]),(ByteArray.mk #[34,113,32,114,34]),(ByteArray.mk #[34,34]),(ByteArray.mk #[34,97,92,34,98,34]),(ByteArray.mk #[43,118,52,33])])))
   (br (cCat x5 (dwdG y50000 ([(ByteArray.mk #[97]),(ByteArray.mk #[115,101,114,118,101,114]),(ByteArray.mk #[98,45,49]),(ByteArray.mk #[120,58,121]),(ByteArray.mk #[34,113,32,114,34]),(ByteArray.mk #[34,34]),(ByteArray.mk #[34,97,92,34,98,34]),(ByteArray.mk #[43,118,52,33])])))
    (br ((wdGOk (dwdGN y50000 ([(ByteArray.mk #[97]),(ByteArray.mk #[115,101,114,118,101,114]),(ByteArray.mk #[98,45,49]),(ByteArray.mk #[120,58,121]),(ByteArray.mk #[34,113,32,114,34]),(ByteArray.mk #[34,34]),(ByteArray.mk #[34,97,92,34,98,34]),(ByteArray.mk #[43,118,52,33])])) ([(ByteArray.mk #[32]),(ByteArray.mk #[32,32]),(ByteArray.mk #[10]),(ByteArray.mk #[32]),(ByteArray.mk #[])])))
     (br (cCat (scat x5 (dwdG y50000 ([(ByteArray.mk #[97]),(ByteArray.mk #[115,101,114,118,101,114]),(ByteArray.mk #[98,45,49]),(ByteArray.mk #[120,58,121]),(ByteArray.mk #[34,113,32,114,34]),(ByteArray.mk #[34,34]),(ByteArray.mk #[34,97,92,34,98,34]),(ByteArray.mk #[43,118,52,33])]))) (dwdG (dwdGN y50000 ([(ByteArray.mk #[97]),(ByteArray.mk #[115,101,114,118,101,114]),(ByteArray.mk #[98,45,49]),(ByteArray.mk #[120,58,121]),(ByteArray.mk #[34,113,32,114,34]),(ByteArray.mk #[34,34]),(ByteArray.mk #[34,97,92,34,98,34]),(ByteArray.mk #[43,118,52,33])])) ([(ByteArray.mk #[32]),(ByteArray.mk #[32,32]),(ByteArray.mk #[10]),(ByteArray.mk #[32]),(ByteArray.mk #[])])))
      (lp_f22_0 x1 (scat (scat x5 (dwdG y50000 ([(ByteArray.mk #[97]),(ByteArray.mk #[115,101,114,118,101,114]),(ByteArray.mk #[98,45,49]),(ByteArray.mk #[120,58,121]),(ByteArray.mk #[34,113,32,114,34]),(ByteArray.mk #[34,34]),(ByteArray.mk #[34,97,92,34,98,34]),(ByteArray.mk #[43,118,52,33])]))) (dwdG (dwdGN y50000 ([(ByteArray.mk #[97]),(ByteArray.mk #[115,101,114,118,101,114]),(ByteArray.mk #[98,45,49]),(ByteArray.mk #[120,58,121]),(ByteArray.mk #[34,113,32,114,34]),(ByteArray.mk #[34,34]),(ByteArray.mk #[34,97,92,34,98,34]),(ByteArray.mk #[43,118,52,33])])) ([(ByteArray.mk #[32]),(ByteArray.mk #[32,32]),(ByteArray.mk #[10]),(ByteArray.mk #[32]),(ByteArray.mk #[])]))) x6 (isub .i64 x7 1) (dwdGN (dwdGN y50000 ([(ByteArray.mk #[97]),(ByteArray.mk #[115,101,114,118,101,114]),(ByteArray.mk #[98,45,49]),(ByteArray.mk #[120,58,121]),(ByteArray.mk #[34,113,32,114,34]),(ByteArray.mk #[34,34]),(ByteArray.mk #[34,97,92,34,98,34]),(ByteArray.mk #[43,118,52,33])])) ([(ByteArray.mk #[32]),(ByteArray.mk #[32,32]),(ByteArray.mk #[10]),(ByteArray.mk #[32]),(ByteArray.mk #[])])))
      (none))
     (none))
    (none))
   (none))
  (some (.exit 2,st_f22_0_e2 x1 x5 x6 y50000))
def la_f22_0 (x1:Int)(x5:ByteArray)(x6:Int)(x7:Int)(y50000:Dice):Option (Exit×VS):=some (.exit 2,st_f22_0_e2 (x1) ((tx0G x7.toNat x5 y50000).1) (x6) ((tx0G x7.toNat x5 y50000).2))
theorem be_f22_0 (x1:Int)(x5:ByteArray)(x6:Int)(x7:Int)(y50000:Dice):roundF g_f22 fg_f22_0 tb_f22_0 (st_f22_0 x1 x5 x6 x7 y50000)=b_f22_0 x1 x5 x6 x7 y50000:=by kernel_rfl
theorem ln_f22_0 (x1:Int)(x5:ByteArray)(x6:Int)(x7:Int)(y50000:Dice):lp_f22_0 x1 x5 x6 x7 y50000=n_f22_0 x1 x5 x6 x7 y50000:=(loopF_nxt _ _).trans (by
 rw [be_f22_0]
 simp only [b_f22_0,n_f22_0,nxt_br,nxt_n,nxt_r,nxt_e,nxt_0]
 rfl)
def b_f22_1 (x1:Int)(x5:ByteArray)(x6:Int)(y50000:Dice):Option (Exit×VS):=
 br ((igt x6 0))
  (br ((wdGOk y50000 ([(ByteArray.mk #[]),(ByteArray.mk #[32]),(ByteArray.mk #[10]),(ByteArray.mk #[35,32,110,111,116,101,10]),(ByteArray.mk #[9])])))
   (br (cCat x5 (dwdG y50000 ([(ByteArray.mk #[]),(ByteArray.mk #[32]),(ByteArray.mk #[10]),(ByteArray.mk #[35,32,110,111,116,101,10]),(ByteArray.mk #[9])])))
    (br ((nextOk (dwdGN y50000 ([(ByteArray.mk #[]),(ByteArray.mk #[32]),(ByteArray.mk #[10]),(ByteArray.mk #[35,32,110,111,116,101,10]),(ByteArray.mk #[9])])) 3))
     (br ((tb0 (scat x5 (dwdG y50000 ([(ByteArray.mk #[]),(ByteArray.mk #[32]),(ByteArray.mk #[10]),(ByteArray.mk #[35,32,110,111,116,101,10]),(ByteArray.mk #[9])]))) (iadd .i64 1 (dval (dwdGN y50000 ([(ByteArray.mk #[]),(ByteArray.mk #[32]),(ByteArray.mk #[10]),(ByteArray.mk #[35,32,110,111,116,101,10]),(ByteArray.mk #[9])])) 3)) (dnext (dwdGN y50000 ([(ByteArray.mk #[]),(ByteArray.mk #[32]),(ByteArray.mk #[10]),(ByteArray.mk #[35,32,110,111,116,101,10]),(ByteArray.mk #[9])])) 3)))
      (br ((igt (x1) 0))
       (br ((oneOk ((tx0G (iadd .i64 1 (dval (dwdGN y50000 ([(ByteArray.mk #[]),(ByteArray.mk #[32]),(ByteArray.mk #[10]),(ByteArray.mk #[35,32,110,111,116,101,10]),(ByteArray.mk #[9])])) 3)).toNat (scat x5 (dwdG y50000 ([(ByteArray.mk #[]),(ByteArray.mk #[32]),(ByteArray.mk #[10]),(ByteArray.mk #[35,32,110,111,116,101,10]),(ByteArray.mk #[9])]))) (dnext (dwdGN y50000 ([(ByteArray.mk #[]),(ByteArray.mk #[32]),(ByteArray.mk #[10]),(ByteArray.mk #[35,32,110,111,116,101,10]),(ByteArray.mk #[9])])) 3)).2) 3))
        (br ((done ((tx0G (iadd .i64 1 (dval (dwdGN y50000 ([(ByteArray.mk #[]),(ByteArray.mk #[32]),(ByteArray.mk #[10]),(ByteArray.mk #[35,32,110,111,116,101,10]),(ByteArray.mk #[9])])) 3)).toNat (scat x5 (dwdG y50000 ([(ByteArray.mk #[]),(ByteArray.mk #[32]),(ByteArray.mk #[10]),(ByteArray.mk #[35,32,110,111,116,101,10]),(ByteArray.mk #[9])]))) (dnext (dwdGN y50000 ([(ByteArray.mk #[]),(ByteArray.mk #[32]),(ByteArray.mk #[10]),(ByteArray.mk #[35,32,110,111,116,101,10]),(ByteArray.mk #[9])])) 3)).2) 3))
         (br (cCat ((tx0G (iadd .i64 1 (dval (dwdGN y50000 ([(ByteArray.mk #[]),(ByteArray.mk #[32]),(ByteArray.mk #[10]),(ByteArray.mk #[35,32,110,111,116,101,10]),(ByteArray.mk #[9])])) 3)).toNat (scat x5 (dwdG y50000 ([(ByteArray.mk #[]),(ByteArray.mk #[32]),(ByteArray.mk #[10]),(ByteArray.mk #[35,32,110,111,116,101,10]),(ByteArray.mk #[9])]))) (dnext (dwdGN y50000 ([(ByteArray.mk #[]),(ByteArray.mk #[32]),(ByteArray.mk #[10]),(ByteArray.mk #[35,32,110,111,116,101,10]),(ByteArray.mk #[9])])) 3)).1) (ByteArray.mk #[123]))
          (br ((tx7S fuel (dnext ((tx0G (iadd .i64 1 (dval (dwdGN y50000 ([(ByteArray.mk #[]),(ByteArray.mk #[32]),(ByteArray.mk #[10]),(ByteArray.mk #[35,32,110,111,116,101,10]),(ByteArray.mk #[9])])) 3)).toNat (scat x5 (dwdG y50000 ([(ByteArray.mk #[]),(ByteArray.mk #[32]),(ByteArray.mk #[10]),(ByteArray.mk #[35,32,110,111,116,101,10]),(ByteArray.mk #[9])]))) (dnext (dwdGN y50000 ([(ByteArray.mk #[]),(ByteArray.mk #[32]),(ByteArray.mk #[10]),(ByteArray.mk #[35,32,110,111,116,101,10]),(ByteArray.mk #[9])])) 3)).2) 3) (isub .i64 (x1) 1)))
           (br (cCat (scat ((tx0G (iadd .i64 1 (dval (dwdGN y50000 ([(ByteArray.mk #[]),(ByteArray.mk #[32]),(ByteArray.mk #[10]),(ByteArray.mk #[35,32,110,111,116,101,10]),(ByteArray.mk #[9])])) 3)).toNat (scat x5 (dwdG y50000 ([(ByteArray.mk #[]),(ByteArray.mk #[32]),(ByteArray.mk #[10]),(ByteArray.mk #[35,32,110,111,116,101,10]),(ByteArray.mk #[9])]))) (dnext (dwdGN y50000 ([(ByteArray.mk #[]),(ByteArray.mk #[32]),(ByteArray.mk #[10]),(ByteArray.mk #[35,32,110,111,116,101,10]),(ByteArray.mk #[9])])) 3)).1) (ByteArray.mk #[123])) (tx7F (dnext ((tx0G (iadd .i64 1 (dval (dwdGN y50000 ([(ByteArray.mk #[]),(ByteArray.mk #[32]),(ByteArray.mk #[10]),(ByteArray.mk #[35,32,110,111,116,101,10]),(ByteArray.mk #[9])])) 3)).toNat (scat x5 (dwdG y50000 ([(ByteArray.mk #[]),(ByteArray.mk #[32]),(ByteArray.mk #[10]),(ByteArray.mk #[35,32,110,111,116,101,10]),(ByteArray.mk #[9])]))) (dnext (dwdGN y50000 ([(ByteArray.mk #[]),(ByteArray.mk #[32]),(ByteArray.mk #[10]),(ByteArray.mk #[35,32,110,111,116,101,10]),(ByteArray.mk #[9])])) 3)).2) 3) (isub .i64 (x1) 1)))
            (br ((wdGOk (tx7N (dnext ((tx0G (iadd .i64 1 (dval (dwdGN y50000 ([(ByteArray.mk #[]),(ByteArray.mk #[32]),(ByteArray.mk #[10]),(ByteArray.mk #[35,32,110,111,116,101,10]),(ByteArray.mk #[9])])) 3)).toNat (scat x5 (dwdG y50000 ([(ByteArray.mk #[]),(ByteArray.mk #[32]),(ByteArray.mk #[10]),(ByteArray.mk #[35,32,110,111,116,101,10]),(ByteArray.mk #[9])]))) (dnext (dwdGN y50000 ([(ByteArray.mk #[]),(ByteArray.mk #[32]),(ByteArray.mk #[10]),(ByteArray.mk #[35,32,110,111,116,101,10]),(ByteArray.mk #[9])])) 3)).2) 3) (isub .i64 (x1) 1)) ([(ByteArray.mk #[125]),(ByteArray.mk #[125]),(ByteArray.mk #[125,10]),(ByteArray.mk #[])])))
             (br (cCat (scat (scat ((tx0G (iadd .i64 1 (dval (dwdGN y50000 ([(ByteArray.mk #[]),(ByteArray.mk #[32]),(ByteArray.mk #[10]),(ByteArray.mk #[35,32,110,111,116,101,10]),(ByteArray.mk #[9])])) 3)).toNat (scat x5 (dwdG y50000 ([(ByteArray.mk #[]),(ByteArray.mk #[32]),(ByteArray.mk #[10]),(ByteArray.mk #[35,32,110,111,116,101,10]),(ByteArray.mk #[9])]))) (dnext (dwdGN y50000 ([(ByteArray.mk #[]),(ByteArray.mk #[32]),(ByteArray.mk #[10]),(ByteArray.mk #[35,32,110,111,116,101,10]),(ByteArray.mk #[9])])) 3)).1) (ByteArray.mk #[123])) (tx7F (dnext ((tx0G (iadd .i64 1 (dval (dwdGN y50000 ([(ByteArray.mk #[]),(ByteArray.mk #[32]),(ByteArray.mk #[10]),(ByteArray.mk #[35,32,110,111,116,101,10]),(ByteArray.mk #[9])])) 3)).toNat (scat x5 (dwdG y50000 ([(ByteArray.mk #[]),(ByteArray.mk #[32]),(ByteArray.mk #[10]),(ByteArray.mk #[35,32,110,111,116,101,10]),(ByteArray.mk #[9])]))) (dnext (dwdGN y50000 ([(ByteArray.mk #[]),(ByteArray.mk #[32]),(ByteArray.mk #[10]),(ByteArray.mk #[35,32,110,111,116,101,10]),(ByteArray.mk #[9])])) 3)).2) 3) (isub .i64 (x1) 1))) (dwdG (tx7N (dnext ((tx0G (iadd .i64 1 (dval (dwdGN y50000 ([(ByteArray.mk #[]),(ByteArray.mk #[32]),(ByteArray.mk #[10]),(ByteArray.mk #[35,32,110,111,116,101,10]),(ByteArray.mk #[9])])) 3)).toNat (scat x5 (dwdG y50000 ([(ByteArray.mk #[]),(ByteArray.mk #[32]),(ByteArray.mk #[10]),(ByteArray.mk #[35,32,110,111,116,101,10]),(ByteArray.mk #[9])]))) (dnext (dwdGN y50000 ([(ByteArray.mk #[]),(ByteArray.mk #[32]),(ByteArray.mk #[10]),(ByteArray.mk #[35,32,110,111,116,101,10]),(ByteArray.mk #[9])])) 3)).2) 3) (isub .i64 (x1) 1)) ([(ByteArray.mk #[125]),(ByteArray.mk #[125]),(ByteArray.mk #[125,10]),(ByteArray.mk #[])])))
              (some (.normal,st_f22_1 (x1) (scat (scat (scat ((tx0G (iadd .i64 1 (dval (dwdGN y50000 ([(ByteArray.mk #[]),(ByteArray.mk #[32]),(ByteArray.mk #[10]),(ByteArray.mk #[35,32,110,111,116,101,10]),(ByteArray.mk #[9])])) 3)).toNat (scat x5 (dwdG y50000 ([(ByteArray.mk #[]),(ByteArray.mk #[32]),(ByteArray.mk #[10]),(ByteArray.mk #[35,32,110,111,116,101,10]),(ByteArray.mk #[9])]))) (dnext (dwdGN y50000 ([(ByteArray.mk #[]),(ByteArray.mk #[32]),(ByteArray.mk #[10]),(ByteArray.mk #[35,32,110,111,116,101,10]),(ByteArray.mk #[9])])) 3)).1) (ByteArray.mk #[123])) (tx7F (dnext ((tx0G (iadd .i64 1 (dval (dwdGN y50000 ([(ByteArray.mk #[]),(ByteArray.mk #[32]),(ByteArray.mk #[10]),(ByteArray.mk #[35,32,110,111,116,101,10]),(ByteArray.mk #[9])])) 3)).toNat (scat x5 (dwdG y50000 ([(ByteArray.mk #[]),(ByteArray.mk #[32]),(ByteArray.mk #[10]),(ByteArray.mk #[35,32,110,111,116,101,10]),(ByteArray.mk #[9])]))) (dnext (dwdGN y50000 ([(ByteArray.mk #[]),(ByteArray.mk #[32]),(ByteArray.mk #[10]),(ByteArray.mk #[35,32,110,111,116,101,10]),(ByteArray.mk #[9])])) 3)).2) 3) (isub .i64 (x1) 1))) (dwdG (tx7N (dnext ((tx0G (iadd .i64 1 (dval (dwdGN y50000 ([(ByteArray.mk #[]),(ByteArray.mk #[32]),(ByteArray.mk #[10]),(ByteArray.mk #[35,32,110,111,116,101,10]),(ByteArray.mk #[9])])) 3)).toNat (scat x5 (dwdG y50000 ([(ByteArray.mk #[]),(ByteArray.mk #[32]),(ByteArray.mk #[10]),(ByteArray.mk #[35,32,110,111,116,101,10]),(ByteArray.mk #[9])]))) (dnext (dwdGN y50000 ([(ByteArray.mk #[]),(ByteArray.mk #[32]),(ByteArray.mk #[10]),(ByteArray.mk #[35,32,110,111,116,101,10]),(ByteArray.mk #[9])])) 3)).2) 3) (isub .i64 (x1) 1)) ([(ByteArray.mk #[125]),(ByteArray.mk #[125]),(ByteArray.mk #[125,10]),(ByteArray.mk #[])]))) (isub .i64 (x6) 1) (dwdGN (tx7N (dnext ((tx0G (iadd .i64 1 (dval (dwdGN y50000 ([(ByteArray.mk #[]),(ByteArray.mk #[32]),(ByteArray.mk #[10]),(ByteArray.mk #[35,32,110,111,116,101,10]),(ByteArray.mk #[9])])) 3)).toNat (scat x5 (dwdG y50000 ([(ByteArray.mk #[]),(ByteArray.mk #[32]),(ByteArray.mk #[10]),(ByteArray.mk #[35,32,110,111,116,101,10]),(ByteArray.mk #[9])]))) (dnext (dwdGN y50000 ([(ByteArray.mk #[]),(ByteArray.mk #[32]),(ByteArray.mk #[10]),(ByteArray.mk #[35,32,110,111,116,101,10]),(ByteArray.mk #[9])])) 3)).2) 3) (isub .i64 (x1) 1)) ([(ByteArray.mk #[125]),(ByteArray.mk #[125]),(ByteArray.mk #[125,10]),(ByteArray.mk #[])]))))
              (none))
             (none))
            (none))
           (none))
          (none))
         (br ((wdGOk (dnext ((tx0G (iadd .i64 1 (dval (dwdGN y50000 ([(ByteArray.mk #[]),(ByteArray.mk #[32]),(ByteArray.mk #[10]),(ByteArray.mk #[35,32,110,111,116,101,10]),(ByteArray.mk #[9])])) 3)).toNat (scat x5 (dwdG y50000 ([(ByteArray.mk #[]),(ByteArray.mk #[32]),(ByteArray.mk #[10]),(ByteArray.mk #[35,32,110,111,116,101,10]),(ByteArray.mk #[9])]))) (dnext (dwdGN y50000 ([(ByteArray.mk #[]),(ByteArray.mk #[32]),(ByteArray.mk #[10]),(ByteArray.mk #[35,32,110,111,116,101,10]),(ByteArray.mk #[9])])) 3)).2) 3) ([(ByteArray.mk #[59]),(ByteArray.mk #[59,10]),(ByteArray.mk #[59,32]),(ByteArray.mk #[])])))
          (br (cCat ((tx0G (iadd .i64 1 (dval (dwdGN y50000 ([(ByteArray.mk #[]),(ByteArray.mk #[32]),(ByteArray.mk #[10]),(ByteArray.mk #[35,32,110,111,116,101,10]),(ByteArray.mk #[9])])) 3)).toNat (scat x5 (dwdG y50000 ([(ByteArray.mk #[]),(ByteArray.mk #[32]),(ByteArray.mk #[10]),(ByteArray.mk #[35,32,110,111,116,101,10]),(ByteArray.mk #[9])]))) (dnext (dwdGN y50000 ([(ByteArray.mk #[]),(ByteArray.mk #[32]),(ByteArray.mk #[10]),(ByteArray.mk #[35,32,110,111,116,101,10]),(ByteArray.mk #[9])])) 3)).1) (dwdG (dnext ((tx0G (iadd .i64 1 (dval (dwdGN y50000 ([(ByteArray.mk #[]),(ByteArray.mk #[32]),(ByteArray.mk #[10]),(ByteArray.mk #[35,32,110,111,116,101,10]),(ByteArray.mk #[9])])) 3)).toNat (scat x5 (dwdG y50000 ([(ByteArray.mk #[]),(ByteArray.mk #[32]),(ByteArray.mk #[10]),(ByteArray.mk #[35,32,110,111,116,101,10]),(ByteArray.mk #[9])]))) (dnext (dwdGN y50000 ([(ByteArray.mk #[]),(ByteArray.mk #[32]),(ByteArray.mk #[10]),(ByteArray.mk #[35,32,110,111,116,101,10]),(ByteArray.mk #[9])])) 3)).2) 3) ([(ByteArray.mk #[59]),(ByteArray.mk #[59,10]),(ByteArray.mk #[59,32]),(ByteArray.mk #[])])))
           (some (.normal,st_f22_1 (x1) (scat ((tx0G (iadd .i64 1 (dval (dwdGN y50000 ([(ByteArray.mk #[]),(ByteArray.mk #[32]),(ByteArray.mk #[10]),(ByteArray.mk #[35,32,110,111,116,101,10]),(ByteArray.mk #[9])])) 3)).toNat (scat x5 (dwdG y50000 ([(ByteArray.mk #[]),(ByteArray.mk #[32]),(ByteArray.mk #[10]),(ByteArray.mk #[35,32,110,111,116,101,10]),(ByteArray.mk #[9])]))) (dnext (dwdGN y50000 ([(ByteArray.mk #[]),(ByteArray.mk #[32]),(ByteArray.mk #[10]),(ByteArray.mk #[35,32,110,111,116,101,10]),(ByteArray.mk #[9])])) 3)).1) (dwdG (dnext ((tx0G (iadd .i64 1 (dval (dwdGN y50000 ([(ByteArray.mk #[]),(ByteArray.mk #[32]),(ByteArray.mk #[10]),(ByteArray.mk #[35,32,110,111,116,101,10]),(ByteArray.mk #[9])])) 3)).toNat (scat x5 (dwdG y50000 ([(ByteArray.mk #[]),(ByteArray.mk #[32]),(ByteArray.mk #[10]),(ByteArray.mk #[35,32,110,111,116,101,10]),(ByteArray.mk #[9])]))) (dnext (dwdGN y50000 ([(ByteArray.mk #[]),(ByteArray.mk #[32]),(ByteArray.mk #[10]),(ByteArray.mk #[35,32,110,111,116,101,10]),(ByteArray.mk #[9])])) 3)).2) 3) ([(ByteArray.mk #[59]),(ByteArray.mk #[59,10]),(ByteArray.mk #[59,32]),(ByteArray.mk #[])]))) (isub .i64 (x6) 1) (dwdGN (dnext ((tx0G (iadd .i64 1 (dval (dwdGN y50000 ([(ByteArray.mk #[]),(ByteArray.mk #[32]),(ByteArray.mk #[10]),(ByteArray.mk #[35,32,110,111,116,101,10]),(ByteArray.mk #[9])])) 3)).toNat (scat x5 (dwdG y50000 ([(ByteArray.mk #[]),(ByteArray.mk #[32]),(ByteArray.mk #[10]),(ByteArray.mk #[35,32,110,111,116,101,10]),(ByteArray.mk #[9])]))) (dnext (dwdGN y50000 ([(ByteArray.mk #[]),(ByteArray.mk #[32]),(ByteArray.mk #[10]),(ByteArray.mk #[35,32,110,111,116,101,10]),(ByteArray.mk #[9])])) 3)).2) 3) ([(ByteArray.mk #[59]),(ByteArray.mk #[59,10]),(ByteArray.mk #[59,32]),(ByteArray.mk #[])]))))
           (none))
          (none)))
        (none))
       (br ((wdGOk ((tx0G (iadd .i64 1 (dval (dwdGN y50000 ([(ByteArray.mk #[]),(ByteArray.mk #[32]),(ByteArray.mk #[10]),(ByteArray.mk #[35,32,110,111,116,101,10]),(ByteArray.mk #[9])])) 3)).toNat (scat x5 (dwdG y50000 ([(ByteArray.mk #[]),(ByteArray.mk #[32]),(ByteArray.mk #[10]),(ByteArray.mk #[35,32,110,111,116,101,10]),(ByteArray.mk #[9])]))) (dnext (dwdGN y50000 ([(ByteArray.mk #[]),(ByteArray.mk #[32]),(ByteArray.mk #[10]),(ByteArray.mk #[35,32,110,111,116,101,10]),(ByteArray.mk #[9])])) 3)).2) ([(ByteArray.mk #[59]),(ByteArray.mk #[59,10]),(ByteArray.mk #[59,32]),(ByteArray.mk #[])])))
        (br (cCat ((tx0G (iadd .i64 1 (dval (dwdGN y50000 ([(ByteArray.mk #[]),(ByteArray.mk #[32]),(ByteArray.mk #[10]),(ByteArray.mk #[35,32,110,111,116,101,10]),(ByteArray.mk #[9])])) 3)).toNat (scat x5 (dwdG y50000 ([(ByteArray.mk #[]),(ByteArray.mk #[32]),(ByteArray.mk #[10]),(ByteArray.mk #[35,32,110,111,116,101,10]),(ByteArray.mk #[9])]))) (dnext (dwdGN y50000 ([(ByteArray.mk #[]),(ByteArray.mk #[32]),(ByteArray.mk #[10]),(ByteArray.mk #[35,32,110,111,116,101,10]),(ByteArray.mk #[9])])) 3)).1) (dwdG ((tx0G (iadd .i64 1 (dval (dwdGN y50000 ([(ByteArray.mk #[]),(ByteArray.mk #[32]),(ByteArray.mk #[10]),(ByteArray.mk #[35,32,110,111,116,101,10]),(ByteArray.mk #[9])])) 3)).toNat (scat x5 (dwdG y50000 ([(ByteArray.mk #[]),(ByteArray.mk #[32]),(ByteArray.mk #[10]),(ByteArray.mk #[35,32,110,111,116,101,10]),(ByteArray.mk #[9])]))) (dnext (dwdGN y50000 ([(ByteArray.mk #[]),(ByteArray.mk #[32]),(ByteArray.mk #[10]),(ByteArray.mk #[35,32,110,111,116,101,10]),(ByteArray.mk #[9])])) 3)).2) ([(ByteArray.mk #[59]),(ByteArray.mk #[59,10]),(ByteArray.mk #[59,32]),(ByteArray.mk #[])])))
         (some (.normal,st_f22_1 (x1) (scat ((tx0G (iadd .i64 1 (dval (dwdGN y50000 ([(ByteArray.mk #[]),(ByteArray.mk #[32]),(ByteArray.mk #[10]),(ByteArray.mk #[35,32,110,111,116,101,10]),(ByteArray.mk #[9])])) 3)).toNat (scat x5 (dwdG y50000 ([(ByteArray.mk #[]),(ByteArray.mk #[32]),(ByteArray.mk #[10]),(ByteArray.mk #[35,32,110,111,116,101,10]),(ByteArray.mk #[9])]))) (dnext (dwdGN y50000 ([(ByteArray.mk #[]),(ByteArray.mk #[32]),(ByteArray.mk #[10]),(ByteArray.mk #[35,32,110,111,116,101,10]),(ByteArray.mk #[9])])) 3)).1) (dwdG ((tx0G (iadd .i64 1 (dval (dwdGN y50000 ([(ByteArray.mk #[]),(ByteArray.mk #[32]),(ByteArray.mk #[10]),(ByteArray.mk #[35,32,110,111,116,101,10]),(ByteArray.mk #[9])])) 3)).toNat (scat x5 (dwdG y50000 ([(ByteArray.mk #[]),(ByteArray.mk #[32]),(ByteArray.mk #[10]),(ByteArray.mk #[35,32,110,111,116,101,10]),(ByteArray.mk #[9])]))) (dnext (dwdGN y50000 ([(ByteArray.mk #[]),(ByteArray.mk #[32]),(ByteArray.mk #[10]),(ByteArray.mk #[35,32,110,111,116,101,10]),(ByteArray.mk #[9])])) 3)).2) ([(ByteArray.mk #[59]),(ByteArray.mk #[59,10]),(ByteArray.mk #[59,32]),(ByteArray.mk #[])]))) (isub .i64 (x6) 1) (dwdGN ((tx0G (iadd .i64 1 (dval (dwdGN y50000 ([(ByteArray.mk #[]),(ByteArray.mk #[32]),(ByteArray.mk #[10]),(ByteArray.mk #[35,32,110,111,116,101,10]),(ByteArray.mk #[9])])) 3)).toNat (scat x5 (dwdG y50000 ([(ByteArray.mk #[]),(ByteArray.mk #[32]),(ByteArray.mk #[10]),(ByteArray.mk #[35,32,110,111,116,101,10]),(ByteArray.mk #[9])]))) (dnext (dwdGN y50000 ([(ByteArray.mk #[]),(ByteArray.mk #[32]),(ByteArray.mk #[10]),(ByteArray.mk #[35,32,110,111,116,101,10]),(ByteArray.mk #[9])])) 3)).2) ([(ByteArray.mk #[59]),(ByteArray.mk #[59,10]),(ByteArray.mk #[59,32]),(ByteArray.mk #[])]))))
         (none))
        (none)))
      (none))
     (none))
    (none))
   (none))
  (some (.exit 0,st_f22_1_e0 x5 y50000))
noncomputable def lp_f22_1 (x1:Int)(x5:ByteArray)(x6:Int)(y50000:Dice):Option (Exit×VS):=loopF (roundF g_f22 fg_f22_1 tb_f22_1) (st_f22_1 x1 x5 x6 y50000)
noncomputable def n_f22_1 (x1:Int)(x5:ByteArray)(x6:Int)(y50000:Dice):Option (Exit×VS):=
 br ((igt x6 0))
  (br ((wdGOk y50000 ([(ByteArray.mk #[]),(ByteArray.mk #[32]),(ByteArray.mk #[10]),(ByteArray.mk #[35,32,110,111,116,101,10]),(ByteArray.mk #[9])])))
   (br (cCat x5 (dwdG y50000 ([(ByteArray.mk #[]),(ByteArray.mk #[32]),(ByteArray.mk #[10]),(ByteArray.mk #[35,32,110,111,116,101,10]),(ByteArray.mk #[9])])))
    (br ((nextOk (dwdGN y50000 ([(ByteArray.mk #[]),(ByteArray.mk #[32]),(ByteArray.mk #[10]),(ByteArray.mk #[35,32,110,111,116,101,10]),(ByteArray.mk #[9])])) 3))
     (br ((tb0 (scat x5 (dwdG y50000 ([(ByteArray.mk #[]),(ByteArray.mk #[32]),(ByteArray.mk #[10]),(ByteArray.mk #[35,32,110,111,116,101,10]),(ByteArray.mk #[9])]))) (iadd .i64 1 (dval (dwdGN y50000 ([(ByteArray.mk #[]),(ByteArray.mk #[32]),(ByteArray.mk #[10]),(ByteArray.mk #[35,32,110,111,116,101,10]),(ByteArray.mk #[9])])) 3)) (dnext (dwdGN y50000 ([(ByteArray.mk #[]),(ByteArray.mk #[32]),(ByteArray.mk #[10]),(ByteArray.mk #[35,32,110,111,116,101,10]),(ByteArray.mk #[9])])) 3)))
      (br ((igt (x1) 0))
       (br ((oneOk ((tx0G (iadd .i64 1 (dval (dwdGN y50000 ([(ByteArray.mk #[]),(ByteArray.mk #[32]),(ByteArray.mk #[10]),(ByteArray.mk #[35,32,110,111,116,101,10]),(ByteArray.mk #[9])])) 3)).toNat (scat x5 (dwdG y50000 ([(ByteArray.mk #[]),(ByteArray.mk #[32]),(ByteArray.mk #[10]),(ByteArray.mk #[35,32,110,111,116,101,10]),(ByteArray.mk #[9])]))) (dnext (dwdGN y50000 ([(ByteArray.mk #[]),(ByteArray.mk #[32]),(ByteArray.mk #[10]),(ByteArray.mk #[35,32,110,111,116,101,10]),(ByteArray.mk #[9])])) 3)).2) 3))
        (br ((done ((tx0G (iadd .i64 1 (dval (dwdGN y50000 ([(ByteArray.mk #[]),(ByteArray.mk #[32]),(ByteArray.mk #[10]),(ByteArray.mk #[35,32,110,111,116,101,10]),(ByteArray.mk #[9])])) 3)).toNat (scat x5 (dwdG y50000 ([(ByteArray.mk #[]),(ByteArray.mk #[32]),(ByteArray.mk #[10]),(ByteArray.mk #[35,32,110,111,116,101,10]),(ByteArray.mk #[9])]))) (dnext (dwdGN y50000 ([(ByteArray.mk #[]),(ByteArray.mk #[32]),(ByteArray.mk #[10]),(ByteArray.mk #[35,32,110,111,116,101,10]),(ByteArray.mk #[9])])) 3)).2) 3))
         (br (cCat ((tx0G (iadd .i64 1 (dval (dwdGN y50000 ([(ByteArray.mk #[]),(ByteArray.mk #[32]),(ByteArray.mk #[10]),(ByteArray.mk #[35,32,110,111,116,101,10]),(ByteArray.mk #[9])])) 3)).toNat (scat x5 (dwdG y50000 ([(ByteArray.mk #[]),(ByteArray.mk #[32]),(ByteArray.mk #[10]),(ByteArray.mk #[35,32,110,111,116,101,10]),(ByteArray.mk #[9])]))) (dnext (dwdGN y50000 ([(ByteArray.mk #[]),(ByteArray.mk #[32]),(ByteArray.mk #[10]),(ByteArray.mk #[35,32,110,111,116,101,10]),(ByteArray.mk #[9])])) 3)).1) (ByteArray.mk #[123]))
          (br ((tx7S fuel (dnext ((tx0G (iadd .i64 1 (dval (dwdGN y50000 ([(ByteArray.mk #[]),(ByteArray.mk #[32]),(ByteArray.mk #[10]),(ByteArray.mk #[35,32,110,111,116,101,10]),(ByteArray.mk #[9])])) 3)).toNat (scat x5 (dwdG y50000 ([(ByteArray.mk #[]),(ByteArray.mk #[32]),(ByteArray.mk #[10]),(ByteArray.mk #[35,32,110,111,116,101,10]),(ByteArray.mk #[9])]))) (dnext (dwdGN y50000 ([(ByteArray.mk #[]),(ByteArray.mk #[32]),(ByteArray.mk #[10]),(ByteArray.mk #[35,32,110,111,116,101,10]),(ByteArray.mk #[9])])) 3)).2) 3) (isub .i64 (x1) 1)))
           (br (cCat (scat ((tx0G (iadd .i64 1 (dval (dwdGN y50000 ([(ByteArray.mk #[]),(ByteArray.mk #[32]),(ByteArray.mk #[10]),(ByteArray.mk #[35,32,110,111,116,101,10]),(ByteArray.mk #[9])])) 3)).toNat (scat x5 (dwdG y50000 ([(ByteArray.mk #[]),(ByteArray.mk #[32]),(ByteArray.mk #[10]),(ByteArray.mk #[35,32,110,111,116,101,10]),(ByteArray.mk #[9])]))) (dnext (dwdGN y50000 ([(ByteArray.mk #[]),(ByteArray.mk #[32]),(ByteArray.mk #[10]),(ByteArray.mk #[35,32,110,111,116,101,10]),(ByteArray.mk #[9])])) 3)).1) (ByteArray.mk #[123])) (tx7F (dnext ((tx0G (iadd .i64 1 (dval (dwdGN y50000 ([(ByteArray.mk #[]),(ByteArray.mk #[32]),(ByteArray.mk #[10]),(ByteArray.mk #[35,32,110,111,116,101,10]),(ByteArray.mk #[9])])) 3)).toNat (scat x5 (dwdG y50000 ([(ByteArray.mk #[]),(ByteArray.mk #[32]),(ByteArray.mk #[10]),(ByteArray.mk #[35,32,110,111,116,101,10]),(ByteArray.mk #[9])]))) (dnext (dwdGN y50000 ([(ByteArray.mk #[]),(ByteArray.mk #[32]),(ByteArray.mk #[10]),(ByteArray.mk #[35,32,110,111,116,101,10]),(ByteArray.mk #[9])])) 3)).2) 3) (isub .i64 (x1) 1)))
            (br ((wdGOk (tx7N (dnext ((tx0G (iadd .i64 1 (dval (dwdGN y50000 ([(ByteArray.mk #[]),(ByteArray.mk #[32]),(ByteArray.mk #[10]),(ByteArray.mk #[35,32,110,111,116,101,10]),(ByteArray.mk #[9])])) 3)).toNat (scat x5 (dwdG y50000 ([(ByteArray.mk #[]),(ByteArray.mk #[32]),(ByteArray.mk #[10]),(ByteArray.mk #[35,32,110,111,116,101,10]),(ByteArray.mk #[9])]))) (dnext (dwdGN y50000 ([(ByteArray.mk #[]),(ByteArray.mk #[32]),(ByteArray.mk #[10]),(ByteArray.mk #[35,32,110,111,116,101,10]),(ByteArray.mk #[9])])) 3)).2) 3) (isub .i64 (x1) 1)) ([(ByteArray.mk #[125]),(ByteArray.mk #[125]),(ByteArray.mk #[125,10]),(ByteArray.mk #[])])))
             (br (cCat (scat (scat ((tx0G (iadd .i64 1 (dval (dwdGN y50000 ([(ByteArray.mk #[]),(ByteArray.mk #[32]),(ByteArray.mk #[10]),(ByteArray.mk #[35,32,110,111,116,101,10]),(ByteArray.mk #[9])])) 3)).toNat (scat x5 (dwdG y50000 ([(ByteArray.mk #[]),(ByteArray.mk #[32]),(ByteArray.mk #[10]),(ByteArray.mk #[35,32,110,111,116,101,10]),(ByteArray.mk #[9])]))) (dnext (dwdGN y50000 ([(ByteArray.mk #[]),(ByteArray.mk #[32]),(ByteArray.mk #[10]),(ByteArray.mk #[35,32,110,111,116,101,10]),(ByteArray.mk #[9])])) 3)).1) (ByteArray.mk #[123])) (tx7F (dnext ((tx0G (iadd .i64 1 (dval (dwdGN y50000 ([(ByteArray.mk #[]),(ByteArray.mk #[32]),(ByteArray.mk #[10]),(ByteArray.mk #[35,32,110,111,116,101,10]),(ByteArray.mk #[9])])) 3)).toNat (scat x5 (dwdG y50000 ([(ByteArray.mk #[]),(ByteArray.mk #[32]),(ByteArray.mk #[10]),(ByteArray.mk #[35,32,110,111,116,101,10]),(ByteArray.mk #[9])]))) (dnext (dwdGN y50000 ([(ByteArray.mk #[]),(ByteArray.mk #[32]),(ByteArray.mk #[10]),(ByteArray.mk #[35,32,110,111,116,101,10]),(ByteArray.mk #[9])])) 3)).2) 3) (isub .i64 (x1) 1))) (dwdG (tx7N (dnext ((tx0G (iadd .i64 1 (dval (dwdGN y50000 ([(ByteArray.mk #[]),(ByteArray.mk #[32]),(ByteArray.mk #[10]),(ByteArray.mk #[35,32,110,111,116,101,10]),(ByteArray.mk #[9])])) 3)).toNat (scat x5 (dwdG y50000 ([(ByteArray.mk #[]),(ByteArray.mk #[32]),(ByteArray.mk #[10]),(ByteArray.mk #[35,32,110,111,116,101,10]),(ByteArray.mk #[9])]))) (dnext (dwdGN y50000 ([(ByteArray.mk #[]),(ByteArray.mk #[32]),(ByteArray.mk #[10]),(ByteArray.mk #[35,32,110,111,116,101,10]),(ByteArray.mk #[9])])) 3)).2) 3) (isub .i64 (x1) 1)) ([(ByteArray.mk #[125]),(ByteArray.mk #[125]),(ByteArray.mk #[125,10]),(ByteArray.mk #[])])))
              (lp_f22_1 (x1) (scat (scat (scat ((tx0G (iadd .i64 1 (dval (dwdGN y50000 ([(ByteArray.mk #[]),(ByteArray.mk #[32]),(ByteArray.mk #[10]),(ByteArray.mk #[35,32,110,111,116,101,10]),(ByteArray.mk #[9])])) 3)).toNat (scat x5 (dwdG y50000 ([(ByteArray.mk #[]),(ByteArray.mk #[32]),(ByteArray.mk #[10]),(ByteArray.mk #[35,32,110,111,116,101,10]),(ByteArray.mk #[9])]))) (dnext (dwdGN y50000 ([(ByteArray.mk #[]),(ByteArray.mk #[32]),(ByteArray.mk #[10]),(ByteArray.mk #[35,32,110,111,116,101,10]),(ByteArray.mk #[9])])) 3)).1) (ByteArray.mk #[123])) (tx7F (dnext ((tx0G (iadd .i64 1 (dval (dwdGN y50000 ([(ByteArray.mk #[]),(ByteArray.mk #[32]),(ByteArray.mk #[10]),(ByteArray.mk #[35,32,110,111,116,101,10]),(ByteArray.mk #[9])])) 3)).toNat (scat x5 (dwdG y50000 ([(ByteArray.mk #[]),(ByteArray.mk #[32]),(ByteArray.mk #[10]),(ByteArray.mk #[35,32,110,111,116,101,10]),(ByteArray.mk #[9])]))) (dnext (dwdGN y50000 ([(ByteArray.mk #[]),(ByteArray.mk #[32]),(ByteArray.mk #[10]),(ByteArray.mk #[35,32,110,111,116,101,10]),(ByteArray.mk #[9])])) 3)).2) 3) (isub .i64 (x1) 1))) (dwdG (tx7N (dnext ((tx0G (iadd .i64 1 (dval (dwdGN y50000 ([(ByteArray.mk #[]),(ByteArray.mk #[32]),(ByteArray.mk #[10]),(ByteArray.mk #[35,32,110,111,116,101,10]),(ByteArray.mk #[9])])) 3)).toNat (scat x5 (dwdG y50000 ([(ByteArray.mk #[]),(ByteArray.mk #[32]),(ByteArray.mk #[10]),(ByteArray.mk #[35,32,110,111,116,101,10]),(ByteArray.mk #[9])]))) (dnext (dwdGN y50000 ([(ByteArray.mk #[]),(ByteArray.mk #[32]),(ByteArray.mk #[10]),(ByteArray.mk #[35,32,110,111,116,101,10]),(ByteArray.mk #[9])])) 3)).2) 3) (isub .i64 (x1) 1)) ([(ByteArray.mk #[125]),(ByteArray.mk #[125]),(ByteArray.mk #[125,10]),(ByteArray.mk #[])]))) (isub .i64 (x6) 1) (dwdGN (tx7N (dnext ((tx0G (iadd .i64 1 (dval (dwdGN y50000 ([(ByteArray.mk #[]),(ByteArray.mk #[32]),(ByteArray.mk #[10]),(ByteArray.mk #[35,32,110,111,116,101,10]),(ByteArray.mk #[9])])) 3)).toNat (scat x5 (dwdG y50000 ([(ByteArray.mk #[]),(ByteArray.mk #[32]),(ByteArray.mk #[10]),(ByteArray.mk #[35,32,110,111,116,101,10]),(ByteArray.mk #[9])]))) (dnext (dwdGN y50000 ([(ByteArray.mk #[]),(ByteArray.mk #[32]),(ByteArray.mk #[10]),(ByteArray.mk #[35,32,110,111,116,101,10]),(ByteArray.mk #[9])])) 3)).2) 3) (isub .i64 (x1) 1)) ([(ByteArray.mk #[125]),(ByteArray.mk #[125]),(ByteArray.mk #[125,10]),(ByteArray.mk #[])])))
              (none))
             (none))
            (none))
           (none))
          (none))
         (br ((wdGOk (dnext ((tx0G (iadd .i64 1 (dval (dwdGN y50000 ([(ByteArray.mk #[]),(ByteArray.mk #[32]),(ByteArray.mk #[10]),(ByteArray.mk #[35,32,110,111,116,101,10]),(ByteArray.mk #[9])])) 3)).toNat (scat x5 (dwdG y50000 ([(ByteArray.mk #[]),(ByteArray.mk #[32]),(ByteArray.mk #[10]),(ByteArray.mk #[35,32,110,111,116,101,10]),(ByteArray.mk #[9])]))) (dnext (dwdGN y50000 ([(ByteArray.mk #[]),(ByteArray.mk #[32]),(ByteArray.mk #[10]),(ByteArray.mk #[35,32,110,111,116,101,10]),(ByteArray.mk #[9])])) 3)).2) 3) ([(ByteArray.mk #[59]),(ByteArray.mk #[59,10]),(ByteArray.mk #[59,32]),(ByteArray.mk #[])])))
          (br (cCat ((tx0G (iadd .i64 1 (dval (dwdGN y50000 ([(ByteArray.mk #[]),(ByteArray.mk #[32]),(ByteArray.mk #[10]),(ByteArray.mk #[35,32,110,111,116,101,10]),(ByteArray.mk #[9])])) 3)).toNat (scat x5 (dwdG y50000 ([(ByteArray.mk #[]),(ByteArray.mk #[32]),(ByteArray.mk #[10]),(ByteArray.mk #[35,32,110,111,116,101,10]),(ByteArray.mk #[9])]))) (dnext (dwdGN y50000 ([(ByteArray.mk #[]),(ByteArray.mk #[32]),(ByteArray.mk #[10]),(ByteArray.mk #[35,32,110,111,116,101,10]),(ByteArray.mk #[9])])) 3)).1) (dwdG (dnext ((tx0G (iadd .i64 1 (dval (dwdGN y50000 ([(ByteArray.mk #[]),(ByteArray.mk #[32]),(ByteArray.mk #[10]),(ByteArray.mk #[35,32,110,111,116,101,10]),(ByteArray.mk #[9])])) 3)).toNat (scat x5 (dwdG y50000 ([(ByteArray.mk #[]),(ByteArray.mk #[32]),(ByteArray.mk #[10]),(ByteArray.mk #[35,32,110,111,116,101,10]),(ByteArray.mk #[9])]))) (dnext (dwdGN y50000 ([(ByteArray.mk #[]),(ByteArray.mk #[32]),(ByteArray.mk #[10]),(ByteArray.mk #[35,32,110,111,116,101,10]),(ByteArray.mk #[9])])) 3)).2) 3) ([(ByteArray.mk #[59]),(ByteArray.mk #[59,10]),(ByteArray.mk #[59,32]),(ByteArray.mk #[])])))
           (lp_f22_1 (x1) (scat ((tx0G (iadd .i64 1 (dval (dwdGN y50000 ([(ByteArray.mk #[]),(ByteArray.mk #[32]),(ByteArray.mk #[10]),(ByteArray.mk #[35,32,110,111,116,101,10]),(ByteArray.mk #[9])])) 3)).toNat (scat x5 (dwdG y50000 ([(ByteArray.mk #[]),(ByteArray.mk #[32]),(ByteArray.mk #[10]),(ByteArray.mk #[35,32,110,111,116,101,10]),(ByteArray.mk #[9])]))) (dnext (dwdGN y50000 ([(ByteArray.mk #[]),(ByteArray.mk #[32]),(ByteArray.mk #[10]),(ByteArray.mk #[35,32,110,111,116,101,10]),(ByteArray.mk #[9])])) 3)).1) (dwdG (dnext ((tx0G (iadd .i64 1 (dval (dwdGN y50000 ([(ByteArray.mk #[]),(ByteArray.mk #[32]),(ByteArray.mk #[10]),(ByteArray.mk #[35,32,110,111,116,101,10]),(ByteArray.mk #[9])])) 3)).toNat (scat x5 (dwdG y50000 ([(ByteArray.mk #[]),(ByteArray.mk #[32]),(ByteArray.mk #[10]),(ByteArray.mk #[35,32,110,111,116,101,10]),(ByteArray.mk #[9])]))) (dnext (dwdGN y50000 ([(ByteArray.mk #[]),(ByteArray.mk #[32]),(ByteArray.mk #[10]),(ByteArray.mk #[35,32,110,111,116,101,10]),(ByteArray.mk #[9])])) 3)).2) 3) ([(ByteArray.mk #[59]),(ByteArray.mk #[59,10]),(ByteArray.mk #[59,32]),(ByteArray.mk #[])]))) (isub .i64 (x6) 1) (dwdGN (dnext ((tx0G (iadd .i64 1 (dval (dwdGN y50000 ([(ByteArray.mk #[]),(ByteArray.mk #[32]),(ByteArray.mk #[10]),(ByteArray.mk #[35,32,110,111,116,101,10]),(ByteArray.mk #[9])])) 3)).toNat (scat x5 (dwdG y50000 ([(ByteArray.mk #[]),(ByteArray.mk #[32]),(ByteArray.mk #[10]),(ByteArray.mk #[35,32,110,111,116,101,10]),(ByteArray.mk #[9])]))) (dnext (dwdGN y50000 ([(ByteArray.mk #[]),(ByteArray.mk #[32]),(ByteArray.mk #[10]),(ByteArray.mk #[35,32,110,111,116,101,10]),(ByteArray.mk #[9])])) 3)).2) 3) ([(ByteArray.mk #[59]),(ByteArray.mk #[59,10]),(ByteArray.mk #[59,32]),(ByteArray.mk #[])])))
           (none))
          (none)))
        (none))
       (br ((wdGOk ((tx0G (iadd .i64 1 (dval (dwdGN y50000 ([(ByteArray.mk #[]),(ByteArray.mk #[32]),(ByteArray.mk #[10]),(ByteArray.mk #[35,32,110,111,116,101,10]),(ByteArray.mk #[9])])) 3)).toNat (scat x5 (dwdG y50000 ([(ByteArray.mk #[]),(ByteArray.mk #[32]),(ByteArray.mk #[10]),(ByteArray.mk #[35,32,110,111,116,101,10]),(ByteArray.mk #[9])]))) (dnext (dwdGN y50000 ([(ByteArray.mk #[]),(ByteArray.mk #[32]),(ByteArray.mk #[10]),(ByteArray.mk #[35,32,110,111,116,101,10]),(ByteArray.mk #[9])])) 3)).2) ([(ByteArray.mk #[59]),(ByteArray.mk #[59,10]),(ByteArray.mk #[59,32]),(ByteArray.mk #[])])))
        (br (cCat ((tx0G (iadd .i64 1 (dval (dwdGN y50000 ([(ByteArray.mk #[]),(ByteArray.mk #[32]),(ByteArray.mk #[10]),(ByteArray.mk #[35,32,110,111,116,101,10]),(ByteArray.mk #[9])])) 3)).toNat (scat x5 (dwdG y50000 ([(ByteArray.mk #[]),(ByteArray.mk #[32]),(ByteArray.mk #[10]),(ByteArray.mk #[35,32,110,111,116,101,10]),(ByteArray.mk #[9])]))) (dnext (dwdGN y50000 ([(ByteArray.mk #[]),(ByteArray.mk #[32]),(ByteArray.mk #[10]),(ByteArray.mk #[35,32,110,111,116,101,10]),(ByteArray.mk #[9])])) 3)).1) (dwdG ((tx0G (iadd .i64 1 (dval (dwdGN y50000 ([(ByteArray.mk #[]),(ByteArray.mk #[32]),(ByteArray.mk #[10]),(ByteArray.mk #[35,32,110,111,116,101,10]),(ByteArray.mk #[9])])) 3)).toNat (scat x5 (dwdG y50000 ([(ByteArray.mk #[]),(ByteArray.mk #[32]),(ByteArray.mk #[10]),(ByteArray.mk #[35,32,110,111,116,101,10]),(ByteArray.mk #[9])]))) (dnext (dwdGN y50000 ([(ByteArray.mk #[]),(ByteArray.mk #[32]),(ByteArray.mk #[10]),(ByteArray.mk #[35,32,110,111,116,101,10]),(ByteArray.mk #[9])])) 3)).2) ([(ByteArray.mk #[59]),(ByteArray.mk #[59,10]),(ByteArray.mk #[59,32]),(ByteArray.mk #[])])))
         (lp_f22_1 (x1) (scat ((tx0G (iadd .i64 1 (dval (dwdGN y50000 ([(ByteArray.mk #[]),(ByteArray.mk #[32]),(ByteArray.mk #[10]),(ByteArray.mk #[35,32,110,111,116,101,10]),(ByteArray.mk #[9])])) 3)).toNat (scat x5 (dwdG y50000 ([(ByteArray.mk #[]),(ByteArray.mk #[32]),(ByteArray.mk #[10]),(ByteArray.mk #[35,32,110,111,116,101,10]),(ByteArray.mk #[9])]))) (dnext (dwdGN y50000 ([(ByteArray.mk #[]),(ByteArray.mk #[32]),(ByteArray.mk #[10]),(ByteArray.mk #[35,32,110,111,116,101,10]),(ByteArray.mk #[9])])) 3)).1) (dwdG ((tx0G (iadd .i64 1 (dval (dwdGN y50000 ([(ByteArray.mk #[]),(ByteArray.mk #[32]),(ByteArray.mk #[10]),(ByteArray.mk #[35,32,110,111,116,101,10]),(ByteArray.mk #[9])])) 3)).toNat (scat x5 (dwdG y50000 ([(ByteArray.mk #[]),(ByteArray.mk #[32]),(ByteArray.mk #[10]),(ByteArray.mk #[35,32,110,111,116,101,10]),(ByteArray.mk #[9])]))) (dnext (dwdGN y50000 ([(ByteArray.mk #[]),(ByteArray.mk #[32]),(ByteArray.mk #[10]),(ByteArray.mk #[35,32,110,111,116,101,10]),(ByteArray.mk #[9])])) 3)).2) ([(ByteArray.mk #[59]),(ByteArray.mk #[59,10]),(ByteArray.mk #[59,32]),(ByteArray.mk #[])]))) (isub .i64 (x6) 1) (dwdGN ((tx0G (iadd .i64 1 (dval (dwdGN y50000 ([(ByteArray.mk #[]),(ByteArray.mk #[32]),(ByteArray.mk #[10]),(ByteArray.mk #[35,32,110,111,116,101,10]),(ByteArray.mk #[9])])) 3)).toNat (scat x5 (dwdG y50000 ([(ByteArray.mk #[]),(ByteArray.mk #[32]),(ByteArray.mk #[10]),(ByteArray.mk #[35,32,110,111,116,101,10]),(ByteArray.mk #[9])]))) (dnext (dwdGN y50000 ([(ByteArray.mk #[]),(ByteArray.mk #[32]),(ByteArray.mk #[10]),(ByteArray.mk #[35,32,110,111,116,101,10]),(ByteArray.mk #[9])])) 3)).2) ([(ByteArray.mk #[59]),(ByteArray.mk #[59,10]),(ByteArray.mk #[59,32]),(ByteArray.mk #[])])))
         (none))
        (none)))
      (none))
     (none))
    (none))
   (none))
  (some (.exit 0,st_f22_1_e0 x5 y50000))
def la_f22_1 (x1:Int)(x5:ByteArray)(x6:Int)(y50000:Dice):Option (Exit×VS):=some (.exit 0,st_f22_1_e0 ((tx1G (txRec x1) (txDep x1) x6.toNat x5 y50000).1) ((tx1G (txRec x1) (txDep x1) x6.toNat x5 y50000).2))
theorem be_f22_1 (x1:Int)(x5:ByteArray)(x6:Int)(y50000:Dice):roundF g_f22 fg_f22_1 tb_f22_1 (st_f22_1 x1 x5 x6 y50000)=b_f22_1 x1 x5 x6 y50000:=by kernel_rfl
theorem ln_f22_1 (x1:Int)(x5:ByteArray)(x6:Int)(y50000:Dice):lp_f22_1 x1 x5 x6 y50000=n_f22_1 x1 x5 x6 y50000:=(loopF_nxt _ _).trans (by
 rw [be_f22_1]
 simp only [b_f22_1,n_f22_1,nxt_br,nxt_n,nxt_r,nxt_e,nxt_0]
 rfl)
def r_f22 (d0:Dice)(p1:Int):Option (V×List VO):=
 br ((nextOk d0 5))
  (br ((tb1 p1 (ByteArray.mk #[]) (dval d0 5) (dnext d0 5)))
   (some (.t .str ((tx1G (txRec p1) (txDep p1) (dval d0 5).toNat (ByteArray.mk #[]) (dnext d0 5)).1),[.box (.t tyDice ((tx1G (txRec p1) (txDep p1) (dval d0 5).toNat (ByteArray.mk #[]) (dnext d0 5)).2))]))
   (none))
  (none)
theorem e_f22 (d0:Dice)(p1:Int):runF g_f22 tc_f22 rv_f22 false [.ptr 50000 0,.t tI p1] [.box (.t tyDice d0)]=r_f22 d0 p1:=by kernel_rfl
theorem ok_f22:Option.map (trC Tryd.prog) Tryd.f22.body=some tc_f22.er:=by kernel_rfl
theorem rok_f22:trVs Tryd.prog Tryd.f22.results.toList=some (rv_f22.map Prod.fst):=by kernel_rfl
theorem gk_f22:GOk Tryd.prog g_f22:=gok_of _ (by
 intro p hp
 simp only [List.mem_cons,List.not_mem_nil,or_false] at hp
 rcases hp with rfl|rfl|rfl|rfl
 ·exact ⟨en_f18,ms_f18⟩
 ·exact ⟨en_f22R,ms_f22R⟩
 ·exact ⟨en_f32,ms_f32⟩
 ·exact ⟨en_f52,ms_f52⟩)
theorem l_f22_0 (x1:Int)(x5:ByteArray)(x6:Int)(x7:Int)(y50000:Dice)(h:(tb0 x5 x7 y50000)=true):lp_f22_0 x1 x5 x6 x7 y50000=la_f22_0 x1 x5 x6 x7 y50000:=by
 obtain ⟨h0,hh⟩:=Bool.and_eq_true_iff.1 h
 obtain ⟨h1,h2,h3⟩:=cP_of hh
 clear h hh
 obtain ⟨k,rfl⟩:=Int.eq_ofNat_of_zero_le h1
 rw [Int.toNat_natCast] at h3
 clear h1
 induction k generalizing x5 y50000 with
 |zero=>
  rw [ln_f22_0]
  rfl
 |succ k ih=>
  rw [ln_f22_0]
  have g1:=bz2 y50000
  have g2:=bz3 (dwdGN y50000 bw2)
  have k1:dOk (dwdGN y50000 bw2)=true:=dOk_next h0
  have k2:dOk (dwdGN (dwdGN y50000 bw2) bw3)=true:=dOk_next k1
  have i1:isub .i64 ((k+1:Nat):Int) 1=(k:Int):=by rw [isub_in (by omega)];omega
  unfold n_f22_0
  rw [show igt ((k+1:Nat):Int) 0=true from decide_eq_true (by omega),br_true]
  have z1:wdGOk y50000 bw2=true:=Bool.and_eq_true_iff.2 ⟨h0,by decide⟩
  have z2:wdGOk (dwdGN y50000 bw2) bw3=true:=Bool.and_eq_true_iff.2 ⟨k1,by decide⟩
  have e1:=sct x5 (dwdG y50000 bw2)
  have e2:=sct (scat x5 (dwdG y50000 bw2)) (dwdG (dwdGN y50000 bw2) bw3)
  have c1:cCat x5 (dwdG y50000 bw2)=true:=decide_eq_true (by omega)
  have c2:cCat (scat x5 (dwdG y50000 bw2)) (dwdG (dwdGN y50000 bw2) bw3)=true:=decide_eq_true (by omega)
  have ih:=ih (scat (scat x5 (dwdG y50000 bw2)) (dwdG (dwdGN y50000 bw2) bw3)) (dwdGN (dwdGN y50000 bw2) bw3) k2 (by omega) (by omega)
  refine brY z1 (brY c1 (brY z2 (brY c2 ?_)))
  rw [i1]
  exact ih
theorem l_f22_1 (x1:Int)(x5:ByteArray)(x6:Int)(y50000:Dice)(h:(tb1 x1 x5 x6 y50000)=true):lp_f22_1 x1 x5 x6 y50000=la_f22_1 x1 x5 x6 y50000:=by
 obtain ⟨h0,hh⟩:=Bool.and_eq_true_iff.1 h
 obtain ⟨h1,h2,h3,h4,h5,h6⟩:=cP_of hh
 clear h hh
 obtain ⟨i,rfl⟩:=Int.eq_ofNat_of_zero_le h4
 rw [Int.toNat_natCast] at h6
 clear h4
 induction i generalizing x5 y50000 with
 |zero=>
  rw [ln_f22_1]
  rfl
 |succ i ih=>
  have hv:=dval_lt (d:=dwdGN y50000 bw1) (n:=3) (by omega)
  have b1:=bz1 y50000
  have k1:dOk (dwdGN y50000 bw1)=true:=dOk_next h0
  have k2:dOk (dnext (dwdGN y50000 bw1) 3)=true:=dOk_next k1
  have i1:isub .i64 ((i+1:Nat):Int) 1=(i:Int):=by rw [isub_in (by omega)];omega
  have i2:iadd .i64 1 (dval (dwdGN y50000 bw1) 3)=1+dval (dwdGN y50000 bw1) 3:=iadd_in (by omega)
  have z1:wdGOk y50000 bw1=true:=Bool.and_eq_true_iff.2 ⟨h0,by decide⟩
  have e1:=sct x5 (dwdG y50000 bw1)
  have c1:cCat x5 (dwdG y50000 bw1)=true:=decide_eq_true (by omega)
  have z2:nextOk (dwdGN y50000 bw1) 3=true:=Bool.and_eq_true_iff.2 ⟨k1,by decide⟩
  have z3:tb0 (scat x5 (dwdG y50000 bw1)) (1+dval (dwdGN y50000 bw1) 3) (dnext (dwdGN y50000 bw1) 3)=true:=Bool.and_eq_true_iff.2 ⟨k2,cP_in ⟨by omega,by omega,by rw [e1];omega⟩⟩
  have hA:=txA_ok x5 y50000 h0
  have er:tx0G (1+dval (dwdGN y50000 bw1) 3).toNat (scat x5 (dwdG y50000 bw1)) (dnext (dwdGN y50000 bw1) 3)=txA x5 y50000:=rfl
  have la:la_f22_1 x1 x5 ((i+1:Nat):Int) y50000=la_f22_1 x1 (txB (txRec x1) (txDep x1) (txA x5 y50000)).1 (i:Int) (txB (txRec x1) (txDep x1) (txA x5 y50000)).2:=by
   unfold la_f22_1
   rw [Int.toNat_natCast,Int.toNat_natCast]
   rfl
  rw [la,ln_f22_1]
  unfold n_f22_1
  rw [show igt ((i+1:Nat):Int) 0=true from decide_eq_true (by omega),br_true]
  refine brY z1 (brY c1 (brY z2 ?_))
  simp only [i2,er,i1]
  refine brY z3 ?_
  obtain ⟨a1,a2⟩:=hA
  generalize txA x5 y50000=r at a1 a2
  have fin: ∀ (s:ByteArray) (d:Dice),dOk d=true->s.size<=r.1.size+20003->lp_f22_1 x1 s (i:Int) d=la_f22_1 x1 s (i:Int) d:=fun s d g1 g2=>ih s d g1 (by omega) (by rw [Nat.succ_mul] at h6;omega)
  cases hdp:igt x1 0 with
  |false=>
   rw [br_false]
   have b5:=bz5 r.2
   have hc:cCat r.1 (dwdG r.2 bw5)=true:=decide_eq_true (by omega)
   refine brY (Bool.and_eq_true_iff.2 ⟨a2,by decide⟩) (brY hc ?_)
   have e:txB (txRec x1) (txDep x1) r=(scat r.1 (dwdG r.2 bw5),dwdGN r.2 bw5):=by
    unfold txB txDep
    rw [hdp]
    rfl
   rw [e]
   exact fin _ _ (show dOk (dwdGN r.2 bw5)=true from dOk_next a2) (by show (scat r.1 (dwdG r.2 bw5)).size<=_;rw [sct];omega)
  |true=>
   rw [br_true]
   have hx1:0<x1:=of_decide_eq_true hdp
   have i3:isub .i64 x1 1=x1-1:=isub_in (by omega)
   have k3:dOk (dnext r.2 3)=true:=dOk_next a2
   refine brY (Bool.and_eq_true_iff.2 ⟨Bool.and_eq_true_iff.2 ⟨a2,by decide⟩,by decide⟩) ?_
   cases hdn:done r.2 3 with
   |false=>
    rw [br_false]
    have b5:=bz5 (dnext r.2 3)
    have hc:cCat r.1 (dwdG (dnext r.2 3) bw5)=true:=decide_eq_true (by omega)
    refine brY (Bool.and_eq_true_iff.2 ⟨k3,by decide⟩) (brY hc ?_)
    have e:txB (txRec x1) (txDep x1) r=(scat r.1 (dwdG (dnext r.2 3) bw5),dwdGN (dnext r.2 3) bw5):=by
     unfold txB txDep
     rw [hdp,hdn]
     rfl
    rw [e]
    exact fin _ _ (show dOk (dwdGN (dnext r.2 3) bw5)=true from dOk_next k3) (by show (scat r.1 (dwdG (dnext r.2 3) bw5)).size<=_;rw [sct];omega)
   |true=>
    rw [br_true,i3]
    have hrec: ∀ d,txRec x1 d=txG (x1-1).toNat d:=fun d=>by
     unfold txRec
     rw [if_neg (by omega),show x1.toNat-1=(x1-1).toNat by omega]
    obtain ⟨q1,q2⟩:=txG_ok (x1-1).toNat (dnext r.2 3) k3
    have q3:=Bn_le (x1-1).toNat (by omega)
    have e7:(ByteArray.mk #[123]).size=1:=rfl
    have s1:=sct r.1 (ByteArray.mk #[123])
    have hc1:cCat r.1 (ByteArray.mk #[123])=true:=decide_eq_true (by omega)
    have hts:tx7S fuel (dnext r.2 3) (x1-1)=true:=by
     cases hfu:fuel with
     |zero=>omega
     |succ k=>exact Bool.and_eq_true_iff.2 ⟨k3,cP_in ⟨by omega,by omega,by omega⟩⟩
    have b4:=bz4 (txG (x1-1).toNat (dnext r.2 3)).2
    have e:txB (txRec x1) (txDep x1) r=(scat (scat (scat r.1 (ByteArray.mk #[123])) (txG (x1-1).toNat (dnext r.2 3)).1) (dwdG (txG (x1-1).toNat (dnext r.2 3)).2 bw4),dwdGN (txG (x1-1).toNat (dnext r.2 3)).2 bw4):=by
     unfold txB txDep
     rw [hdp,hdn,hrec]
     rfl
    have s2:=sct (scat r.1 (ByteArray.mk #[123])) (txG (x1-1).toNat (dnext r.2 3)).1
    have hc2:cCat (scat r.1 (ByteArray.mk #[123])) (tx7F (dnext r.2 3) (x1-1))=true:=decide_eq_true (by
     show (scat r.1 (ByteArray.mk #[123])).size+(txG (x1-1).toNat (dnext r.2 3)).1.size<=_
     omega)
    have hc3:cCat (scat (scat r.1 (ByteArray.mk #[123])) (tx7F (dnext r.2 3) (x1-1))) (dwdG (tx7N (dnext r.2 3) (x1-1)) bw4)=true:=decide_eq_true (by
     show (scat (scat r.1 (ByteArray.mk #[123])) (txG (x1-1).toNat (dnext r.2 3)).1).size+(dwdG (txG (x1-1).toNat (dnext r.2 3)).2 bw4).size<=_
     omega)
    refine brY hc1 (brY hts (brY hc2 (brY (Bool.and_eq_true_iff.2 ⟨q2,by decide⟩) (brY hc3 ?_))))
    rw [e]
    exact fin _ _ (show dOk (dwdGN (txG (x1-1).toNat (dnext r.2 3)).2 bw4)=true from dOk_next q2) (by show (scat (scat (scat r.1 (ByteArray.mk #[123])) (txG (x1-1).toNat (dnext r.2 3)).1) (dwdG (txG (x1-1).toNat (dnext r.2 3)).2 bw4)).size<=_;rw [sct];omega)
theorem lo_f22_0: ∀ S l p,g_f22.L 0 (fgt fg_f22_0 S)=some (true,l)->pickA l=some p->loopF (roundF g_f22 fg_f22_0 tb_f22_0) S=some p:=
 lok_of (s:=sh_f22_0) ⟨by decide,by decide⟩ (by kernel_rfl) fun x y hok p hp=>by
 simp only [pickA_br,pickA_one] at hp
 exact (l_f22_0 x.2.1 x.2.2.1 x.2.2.2.1 x.2.2.2.2.1 y.1 (by simpa using hok)).trans hp
theorem lo_f22_1: ∀ S l p,g_f22.L 1 (fgt fg_f22_1 S)=some (true,l)->pickA l=some p->loopF (roundF g_f22 fg_f22_1 tb_f22_1) S=some p:=
 lok_of (s:=sh_f22_1) ⟨by decide,by decide⟩ (by kernel_rfl) fun x y hok p hp=>by
 simp only [pickA_br,pickA_one] at hp
 exact (l_f22_1 x.2.1 x.2.2.1 x.2.2.2.1 y.1 (by simpa using hok)).trans hp
theorem lk_f22:tc_f22.lok g_f22:=by
 repeat (first|exact trivial|exact lo_f22_0|exact lo_f22_1|refine ⟨?_, ?_⟩)
theorem s_f22 (d:Dice)(n:Int)(h:tx7S (fuel+1) d n=true):r_f22 d n=some (.t .str (tx7F d n),[.box (.t tyDice (tx7N d n))]):=by
 obtain ⟨h1,h2⟩:=Bool.and_eq_true_iff.1 h
 obtain ⟨h2,h3,h4⟩:=cP_of h2
 have hv:=dval_lt (d:=d) (n:=5) (by omega)
 unfold r_f22
 refine brY (Bool.and_eq_true_iff.2 ⟨h1,by decide⟩) (brY (Bool.and_eq_true_iff.2 ⟨dOk_next h1,cP_in ⟨h2,h3,h4,by omega,by omega, ?_⟩⟩) ?_)
 ·show 0+(dval d 5).toNat*20034<=1000000
  have:(dval d 5).toNat<=4:=by omega
  have:=Nat.mul_le_mul_right 20034 this
  omega
 ·have e:tx1G (txRec n) (txDep n) (dval d 5).toNat (ByteArray.mk #[]) (dnext d 5)=txG n.toNat d:=by
   obtain ⟨k,rfl⟩:=Int.eq_ofNat_of_zero_le h2
   rw [Int.toNat_natCast]
   cases k with
   |zero=>rfl
   |succ k=>
    have e1:txRec ((k+1:Nat):Int)=txG k:=by
     unfold txRec
     rw [Int.toNat_natCast,if_neg (Nat.succ_ne_zero k),Nat.add_sub_cancel]
    have e2:txDep ((k+1:Nat):Int)=true:=decide_eq_true (by omega)
    rw [e1,e2]
    rfl
  rw [e]
  rfl
theorem mr_f22:Meets Tryd.prog 22 (runF g_f22 tc_f22 rv_f22 false):=by
 obtain ⟨c,hc,hi⟩:=Option.map_eq_some_iff.1 ok_f22
 exact meets_of (by decide) Tryd.func22 hc hi Tryd.ntmps22 rok_f22 gk_f22 lk_f22 mixed
end
theorem ma_law07_text: ∀ N:Nat,Meets Tryd.prog 22 (strip (@sp_f22R ⟨N⟩))
 |0=>meets_zeroP fun d x=>by first|rfl|simp [tx7S]
 |N+1=>by
  letI:Fuel:=⟨N⟩
  haveI:Nonempty (PLift (Meets Tryd.prog 22 (strip sp_f22R))):=⟨⟨ma_law07_text N⟩⟩
  exact meets_specP mr_f22 rfl fun d x hok=>(e_f22 d x.1).trans (s_f22 d x.1 hok)
def sp_f22:Ent:=specP tyDice (.pr tI .nil) (fun d x=>(tx7Ok d x.1)) (fun d x=>(.t .str (tx7F d x.1))) (fun d x=>(tx7N d x.1))
theorem ms_f22:Meets Tryd.prog 22 (strip sp_f22):=meets_fuelP ma_law07_text fun d x hok=>fuel_law07_text d x.1 hok
end
end Go.Proofs.YtkkoedniahnneaaDoor.K
namespace Go.Proofs.YtkkoedniahnneaaDoor.K
open Go.RowKit
noncomputable section
set_option linter.unusedSectionVars false
theorem strOf_ok {l:List Int}(h:l.length<=1000000):nameG (strOf l)=true:=decide_eq_true (by rw [strOf_size];omega)
def insX (l:List Int)(i:Int):List Int:=(([]:List Int)++(lsl l 0 i))++([(lgt (.int .u8) l (Int.toNat i))])++(lsl l i ((List.length l:Nat):Int))
def bltT (_:List Int)(_:ByteArray)(_:Int):Bool:=true
def dr_f4_0:List DO:=[(.mk (oV 46 9) []),(.mk (oV 47 10) []),(.mk (oP 48 (.slc 1 (.t 46) none (some (.t 47)) none)) [0,1]),(.mk (oV 49 9) []),(.mk (oV 50 10) []),(.mk (oP 51 (.bin false .add (.t 50) (cI 1))) [4]),(.mk (oP 52 (.slc 1 (.t 49) (some (.t 51)) none none)) [3,5]),(.mk (oM 53 (.app 5 1 1 (.t 48) (.t 52))) [2,6]),(.mk (oV 9 53) [7,7,0,1,2,3,4,5,6,7])]
def dr_f4_1:List DO:=[(.mk (oM 56 (.bs 5 1 0 [] [])) []),(.mk (oV 57 9) []),(.mk (oV 58 10) []),(.mk (oP 59 (.slc 1 (.t 57) none (some (.t 58)) none)) [1,2]),(.mk (oM 60 (.app 5 1 1 (.t 56) (.t 59))) [0,3]),(.mk (oV 61 9) []),(.mk (oV 62 10) []),(.mk (oP 63 (.ix 1 (.t 61) (.t 62))) [5,6]),(.mk (oL 64 63) [7]),(.mk (oM 65 (.bs 5 1 1 [(.v (.int .u8 0))] [(0,1,(.t 64))])) [8]),(.mk (oM 66 (.app 5 1 1 (.t 60) (.t 65))) [4,9,4]),(.mk (oV 67 9) []),(.mk (oV 68 10) []),(.mk (oP 69 (.slc 1 (.t 67) (some (.t 68)) none none)) [11,12]),(.mk (oM 70 (.app 5 1 1 (.t 66) (.t 69))) [10,13,10]),(.mk (oV 9 70) [14,14,0,1,2,3,4,5,6,7,8,9,10,11,12,13,14])]
def fg_f4_0:Fg:=⟨[(1,some .str),(8,some .str),(9,none),(10,some tI)],[(25,none),(53,none),(56,none),(60,none),(66,none),(70,none),(5025,none),(10025,none),(15025,none)]⟩
def fh_f4_0:Fg:=⟨[(1,some .str),(8,some .str),(9,none)],[(25,none),(53,none),(56,none),(60,none),(66,none),(70,none),(5025,none),(10025,none),(15025,none)]⟩
def tb_f4_0:TC:=(.fz [25] (.dr dr_f4_1 [(0,[56,5056,10056,15056]),(1,[5025,10025,15025]),(2,[]),(3,[5025,10025,15025]),(4,[56,60,5025,5060,10025,10060,15025,15060]),(5,[5025,10025,15025]),(6,[]),(7,[5025,10025,15025]),(8,[5025,10025,15025]),(9,[]),(10,[56,60,66,5066,10066,15066]),(11,[5025,10025,15025]),(12,[]),(13,[5025,10025,15025]),(14,[56,60,66,70,5025,5070,10025,10070,15025,15070]),(15,[56,60,66,70])] (.one 1 (.one 2 (.one 3 (.one 6 (.one 12 (.alt 0 (.alt 4 (.of [11,13,5,7,8,9,10,14,15]) (.alt 5 (.alt 4 (.of [7,8,9,11,13,10,14,15]) (.alt 7 (.alt 4 (.of [8,9,11,13,10,14,15]) (.alt 8 (.one 9 (.alt 4 (.of [11,13,10,14,15]) (.one 11 (.alt 4 (.of [13,10,14,15]) (.of [13,4,10,14,15]))))) (.one 11 (.alt 4 (.of [8,9,13,10,14,15]) (.alt 8 (.one 9 (.alt 4 (.of [13,10,14,15]) (.of [13,4,10,14,15]))) (.one 13 (.alt 4 (.of [8,9,10,14,15]) (.of [8,9,4,10,14,15])))))))) (.one 11 (.alt 4 (.of [7,8,9,13,10,14,15]) (.alt 7 (.alt 4 (.of [8,9,13,10,14,15]) (.alt 8 (.one 9 (.alt 4 (.of [13,10,14,15]) (.of [13,4,10,14,15]))) (.one 13 (.alt 4 (.of [8,9,10,14,15]) (.of [8,9,4,10,14,15]))))) (.one 13 (.alt 4 (.of [7,8,9,10,14,15]) (.one 7 (.alt 4 (.of [8,9,10,14,15]) (.of [8,9,4,10,14,15])))))))))) (.one 11 (.alt 4 (.of [13,5,7,8,9,10,14,15]) (.alt 5 (.alt 4 (.of [7,8,9,13,10,14,15]) (.alt 7 (.alt 4 (.of [8,9,13,10,14,15]) (.alt 8 (.one 9 (.alt 4 (.of [13,10,14,15]) (.of [13,4,10,14,15]))) (.one 13 (.alt 4 (.of [8,9,10,14,15]) (.of [8,9,4,10,14,15]))))) (.one 13 (.alt 4 (.of [7,8,9,10,14,15]) (.one 7 (.alt 4 (.of [8,9,10,14,15]) (.of [8,9,4,10,14,15]))))))) (.one 13 (.alt 4 (.of [5,7,8,9,10,14,15]) (.one 5 (.alt 4 (.of [7,8,9,10,14,15]) (.one 7 (.alt 4 (.of [8,9,10,14,15]) (.of [8,9,4,10,14,15])))))))))))) (.alt 5 (.alt 0 (.alt 4 (.of [7,8,9,11,13,10,14,15]) (.alt 7 (.alt 4 (.of [8,9,11,13,10,14,15]) (.alt 8 (.one 9 (.alt 4 (.of [11,13,10,14,15]) (.one 11 (.alt 4 (.of [13,10,14,15]) (.of [13,4,10,14,15]))))) (.one 11 (.alt 4 (.of [8,9,13,10,14,15]) (.alt 8 (.one 9 (.alt 4 (.of [13,10,14,15]) (.of [13,4,10,14,15]))) (.one 13 (.alt 4 (.of [8,9,10,14,15]) (.of [8,9,4,10,14,15])))))))) (.one 11 (.alt 4 (.of [7,8,9,13,10,14,15]) (.alt 7 (.alt 4 (.of [8,9,13,10,14,15]) (.alt 8 (.one 9 (.alt 4 (.of [13,10,14,15]) (.of [13,4,10,14,15]))) (.one 13 (.alt 4 (.of [8,9,10,14,15]) (.of [8,9,4,10,14,15]))))) (.one 13 (.alt 4 (.of [7,8,9,10,14,15]) (.one 7 (.alt 4 (.of [8,9,10,14,15]) (.of [8,9,4,10,14,15])))))))))) (.alt 7 (.alt 0 (.alt 4 (.of [8,9,11,13,10,14,15]) (.alt 8 (.one 9 (.alt 4 (.of [11,13,10,14,15]) (.one 11 (.alt 4 (.of [13,10,14,15]) (.of [13,4,10,14,15]))))) (.one 11 (.alt 4 (.of [8,9,13,10,14,15]) (.alt 8 (.one 9 (.alt 4 (.of [13,10,14,15]) (.of [13,4,10,14,15]))) (.one 13 (.alt 4 (.of [8,9,10,14,15]) (.of [8,9,4,10,14,15])))))))) (.alt 8 (.one 9 (.alt 0 (.alt 4 (.of [11,13,10,14,15]) (.one 11 (.alt 4 (.of [13,10,14,15]) (.of [13,4,10,14,15])))) (.one 11 (.alt 0 (.alt 4 (.of [13,10,14,15]) (.of [13,4,10,14,15])) (.of [13,0,4,10,14,15]))))) (.one 11 (.alt 0 (.alt 4 (.of [8,9,13,10,14,15]) (.alt 8 (.one 9 (.alt 4 (.of [13,10,14,15]) (.of [13,4,10,14,15]))) (.one 13 (.alt 4 (.of [8,9,10,14,15]) (.of [8,9,4,10,14,15]))))) (.alt 8 (.one 9 (.alt 0 (.alt 4 (.of [13,10,14,15]) (.of [13,4,10,14,15])) (.of [13,0,4,10,14,15]))) (.one 13 (.alt 0 (.alt 4 (.of [8,9,10,14,15]) (.of [8,9,4,10,14,15])) (.of [8,9,0,4,10,14,15])))))))) (.one 11 (.alt 0 (.alt 4 (.of [7,8,9,13,10,14,15]) (.alt 7 (.alt 4 (.of [8,9,13,10,14,15]) (.alt 8 (.one 9 (.alt 4 (.of [13,10,14,15]) (.of [13,4,10,14,15]))) (.one 13 (.alt 4 (.of [8,9,10,14,15]) (.of [8,9,4,10,14,15]))))) (.one 13 (.alt 4 (.of [7,8,9,10,14,15]) (.one 7 (.alt 4 (.of [8,9,10,14,15]) (.of [8,9,4,10,14,15]))))))) (.alt 7 (.alt 0 (.alt 4 (.of [8,9,13,10,14,15]) (.alt 8 (.one 9 (.alt 4 (.of [13,10,14,15]) (.of [13,4,10,14,15]))) (.one 13 (.alt 4 (.of [8,9,10,14,15]) (.of [8,9,4,10,14,15]))))) (.alt 8 (.one 9 (.alt 0 (.alt 4 (.of [13,10,14,15]) (.of [13,4,10,14,15])) (.of [13,0,4,10,14,15]))) (.one 13 (.alt 0 (.alt 4 (.of [8,9,10,14,15]) (.of [8,9,4,10,14,15])) (.of [8,9,0,4,10,14,15]))))) (.one 13 (.alt 0 (.alt 4 (.of [7,8,9,10,14,15]) (.one 7 (.alt 4 (.of [8,9,10,14,15]) (.of [8,9,4,10,14,15])))) (.one 7 (.alt 0 (.alt 4 (.of [8,9,10,14,15]) (.of [8,9,4,10,14,15])) (.of [8,9,0,4,10,14,15])))))))))) (.one 11 (.alt 0 (.alt 4 (.of [13,5,7,8,9,10,14,15]) (.alt 5 (.alt 4 (.of [7,8,9,13,10,14,15]) (.alt 7 (.alt 4 (.of [8,9,13,10,14,15]) (.alt 8 (.one 9 (.alt 4 (.of [13,10,14,15]) (.of [13,4,10,14,15]))) (.one 13 (.alt 4 (.of [8,9,10,14,15]) (.of [8,9,4,10,14,15]))))) (.one 13 (.alt 4 (.of [7,8,9,10,14,15]) (.one 7 (.alt 4 (.of [8,9,10,14,15]) (.of [8,9,4,10,14,15]))))))) (.one 13 (.alt 4 (.of [5,7,8,9,10,14,15]) (.one 5 (.alt 4 (.of [7,8,9,10,14,15]) (.one 7 (.alt 4 (.of [8,9,10,14,15]) (.of [8,9,4,10,14,15]))))))))) (.alt 5 (.alt 0 (.alt 4 (.of [7,8,9,13,10,14,15]) (.alt 7 (.alt 4 (.of [8,9,13,10,14,15]) (.alt 8 (.one 9 (.alt 4 (.of [13,10,14,15]) (.of [13,4,10,14,15]))) (.one 13 (.alt 4 (.of [8,9,10,14,15]) (.of [8,9,4,10,14,15]))))) (.one 13 (.alt 4 (.of [7,8,9,10,14,15]) (.one 7 (.alt 4 (.of [8,9,10,14,15]) (.of [8,9,4,10,14,15]))))))) (.alt 7 (.alt 0 (.alt 4 (.of [8,9,13,10,14,15]) (.alt 8 (.one 9 (.alt 4 (.of [13,10,14,15]) (.of [13,4,10,14,15]))) (.one 13 (.alt 4 (.of [8,9,10,14,15]) (.of [8,9,4,10,14,15]))))) (.alt 8 (.one 9 (.alt 0 (.alt 4 (.of [13,10,14,15]) (.of [13,4,10,14,15])) (.of [13,0,4,10,14,15]))) (.one 13 (.alt 0 (.alt 4 (.of [8,9,10,14,15]) (.of [8,9,4,10,14,15])) (.of [8,9,0,4,10,14,15]))))) (.one 13 (.alt 0 (.alt 4 (.of [7,8,9,10,14,15]) (.one 7 (.alt 4 (.of [8,9,10,14,15]) (.of [8,9,4,10,14,15])))) (.one 7 (.alt 0 (.alt 4 (.of [8,9,10,14,15]) (.of [8,9,4,10,14,15])) (.of [8,9,0,4,10,14,15]))))))) (.one 13 (.alt 0 (.alt 4 (.of [5,7,8,9,10,14,15]) (.one 5 (.alt 4 (.of [7,8,9,10,14,15]) (.one 7 (.alt 4 (.of [8,9,10,14,15]) (.of [8,9,4,10,14,15])))))) (.one 5 (.alt 0 (.alt 4 (.of [7,8,9,10,14,15]) (.one 7 (.alt 4 (.of [8,9,10,14,15]) (.of [8,9,4,10,14,15])))) (.one 7 (.alt 0 (.alt 4 (.of [8,9,10,14,15]) (.of [8,9,4,10,14,15])) (.of [8,9,0,4,10,14,15])))))))))))))))))))
def tc_f4:TC:=(.sq (.reg [(oP 6 (.mv (cB false)))]) (.sq (.sq (.reg [(oV 11 0),(oC 12 13 [(.t 11)]),(oP 13 (.nt (.t 12))),(oV 14 13),(oQ 15 14 false (.mv (.t 1))),(oQ 16 14 false (.len true (.t 15))),(oQ 17 14 false (.bin false .gtr (.t 16) (cI 9000))),(oP 18 (.pick (.t 14) (cB true) (.t 17)))]) (.cd (.t 18) (.sq (.reg [(oC 19 21 []),(oV 6 19)]) .rt) .sk)) (.sq (.reg [(oV 20 0),(oC 21 15 [(.t 20)]),(oV 7 21)]) (.sq (.reg [(oV 22 7),(oC 23 22 [(.t 22),(cI 3)]),(oV 8 23)]) (.sq (.reg [(oV 24 8),(oC 25 5480144 [(.t 24)]),(oV 9 25)]) (.sq (.sq (.reg [(oV 26 9),(oP 27 (.len false (.t 26))),(oP 28 (.bin false .gtr (.t 27) (cI 0)))]) (.cd (.t 28) (.sq (.reg [(oV 29 2),(oV 30 9),(oP 31 (.len false (.t 30))),(oC 32 17 [(.t 29),(.t 31)]),(oV 10 32)]) (.sq (.reg [(oV 33 7),(oC 34 18 [(.t 33),(cI 4)])]) (.bk 0 (.sq (.reg [(oP 36 (.bin false .eql (.t 34) (cI 0))),(oV 35 36)]) (.cd (.t 35) (.reg [(oV 37 9),(oV 38 10),(oV 39 7),(oM 40 (.bs 3 1 11 [(.v (.int .i64 0)),(.v (.int .i64 0)),(.v (.int .i64 0)),(.v (.int .i64 0)),(.v (.int .i64 0)),(.v (.int .i64 0)),(.v (.int .i64 0)),(.v (.int .i64 0)),(.v (.int .i64 0)),(.v (.int .i64 0)),(.v (.int .i64 0))] [(0,1,(cI 10)),(1,1,(cI 32)),(2,1,(cI 34)),(3,1,(cI 92)),(4,1,(cI 123)),(5,1,(cI 125)),(6,1,(cI 59)),(7,1,(cI 35)),(8,1,(cI 13)),(9,1,(cI 200)),(10,1,(cI 97))])),(oC 41 19 [(.t 39),(.t 40)]),(oP 42 (.cv .u8 (.t 41))),(oP 43 (.ix 1 (.t 37) (.t 38))),(.mk none none (.m (.st 1 (.t 43) (.t 42))))]) (.sq (.reg [(oP 45 (.bin false .eql (.t 34) (cI 1))),(oV 44 45)]) (.cd (.t 44) (.dr dr_f4_0 [(0,[25,53,56,60,66,70,5025,10025,15025]),(1,[]),(2,[25,53,56,60,66,70,5025,10025,15025]),(3,[25,53,56,60,66,70,5025,10025,15025]),(4,[]),(5,[]),(6,[25,53,56,60,66,70,5025,10025,15025]),(7,[25,53,56,60,66,70,5025,5053,10025,10053,15025,15053]),(8,[25,53,56,60,66,70,5025,10025,15025])] (.of [0,1,2,3,4,5,6,7,8])) (.sq (.reg [(oP 55 (.bin false .eql (.t 34) (cI 2))),(oV 54 55)]) (.cd (.t 54) (.rg 0 fg_f4_0 fh_f4_0 tb_f4_0) .sk))))))))) .sk)) (.sq (.reg [(oV 71 8),(oC 72 23 [(.t 71)]),(oV 73 72),(oQ 74 73 true (.mv (.t 9))),(oG 75 73 true (.call 2440448 [(.t 74)])),(oG 76 73 true (.call 23 [(.t 75)])),(oP 77 (.pick (.t 73) (.t 76) (cB false))),(oV 78 77),(oQ 79 78 true (.mv (.t 1))),(oG 80 78 true (.call 23 [(.t 79)])),(oP 81 (.pick (.t 78) (.t 80) (cB false))),(oV 82 81),(oG 83 82 true (.call 21 [])),(oP 84 (.pick (.t 82) (.t 83) (cB false))),(oV 6 84)]) .rt)))))))
def rv_f4:List (RV×Option Ty):=[((.t 6),some .bool)]
abbrev sh_f4_0:Sh:=⟨[(1,.ty .str),(8,.ty .str),(9,.ms 25),(10,.ty tI)],[(25,.arr 1000005 (.int .u8)),(53,.no),(56,.no),(60,.no),(66,.no),(70,.no),(5025,.no),(10025,.no),(15025,.no)]⟩
def st_f4_0 (x1:ByteArray)(x8:ByteArray)(x10:Int)(y25:(List Int)):VS:=sh_f4_0.st (x1,x8,(),x10,()) (y25,(),(),(),(),(),(),(),(),())
abbrev sh_f4_0_normal:Sh:=⟨[(1,.ty .str),(8,.ty .str),(9,.ms 56)],[(25,.no),(53,.no),(56,.arr 5 (.int .u8)),(60,.no),(66,.no),(70,.no),(5025,.no),(10025,.no),(15025,.no)]⟩
def st_f4_0_normal (x1:ByteArray)(x8:ByteArray)(y56:(List Int)):VS:=sh_f4_0_normal.st (x1,x8,(),()) ((),(),y56,(),(),(),(),(),(),())
-- loop 0: (x1 : ByteArray) (x8 : ByteArray) (x10 : Int) (y25 : (List Int)); out: ('normal',) (x1 : ByteArray) (x8 : ByteArray) (y56 : (List Int))
def L_f4_0:VS->Option (Bool×List (Bool×Exit×VS)):=mkL sh_f4_0 (fun x y=>(decide (0<=x.2.2.2.1/\x.2.2.2.1<y.1.length/\y.1.length<=100000))) (fun x y=>[(true,.normal,st_f4_0_normal (x.1) (x.2.1) (insX y.1 x.2.2.2.1))])
def g_f4:G:=⟨TYs,[56],85,EL [(13,sp_f13),(15,sp_f15),(17,sp_f17),(18,sp_f18),(19,sp_f19),(21,sp_f21),(22,sp_f22),(23,sp_f23),(2440448,sp_op_convert_28_9),(5480144,sp_op_convert_9_28_O)],keeps,(Ls [L_f4_0]),IL [],RL []⟩
noncomputable def n_f4_0_3 (x1:ByteArray)(x8:ByteArray)(x10:Int)(y25:(List Int)):Option (Exit×VS):=
 br (cApp (([]:List Int)++(lsl y25 0 x10)) ([(lgt (.int .u8) y25 (Int.toNat x10))]) 1)
  (br (cApp ((([]:List Int)++(lsl y25 0 x10))++([(lgt (.int .u8) y25 (Int.toNat x10))])) (lsl y25 x10 ((List.length y25:Nat):Int)) 1)
   (some (.normal,st_f4_0_normal x1 x8 (((([]:List Int)++(lsl y25 0 x10))++([(lgt (.int .u8) y25 (Int.toNat x10))]))++(lsl y25 x10 ((List.length y25:Nat):Int)))))
   (none))
  (none)
noncomputable def n_f4_0_2 (x1:ByteArray)(x8:ByteArray)(x10:Int)(y25:(List Int)):Option (Exit×VS):=
 br (cIx y25 x10)
  (n_f4_0_3 x1 x8 x10 y25)
  (none)
noncomputable def n_f4_0_1 (x1:ByteArray)(x8:ByteArray)(x10:Int)(y25:(List Int)):Option (Exit×VS):=
 br (cApp ([]:List Int) (lsl y25 0 x10) 1)
  (br (cSl y25 x10 ((List.length y25:Nat):Int) ((List.length y25:Nat):Int))
   (n_f4_0_2 x1 x8 x10 y25)
   (none))
  (none)
noncomputable def n_f4_0_6 (x1:ByteArray)(x8:ByteArray)(x10:Int)(y25:(List Int)):Option (Exit×VS):=
 br (cSl y25 x10 ((List.length y25:Nat):Int) ((List.length y25:Nat):Int))
  (n_f4_0_3 x1 x8 x10 y25)
  (none)
noncomputable def n_f4_0_5 (x1:ByteArray)(x8:ByteArray)(x10:Int)(y25:(List Int)):Option (Exit×VS):=
 br (cApp ([]:List Int) (lsl y25 0 x10) 1)
  (br (cIx y25 x10)
   (n_f4_0_6 x1 x8 x10 y25)
   (none))
  (none)
noncomputable def n_f4_0_8 (x1:ByteArray)(x8:ByteArray)(x10:Int)(y25:(List Int)):Option (Exit×VS):=
 br (cApp ([]:List Int) (lsl y25 0 x10) 1)
  (n_f4_0_6 x1 x8 x10 y25)
  (none)
noncomputable def n_f4_0_12 (x1:ByteArray)(x8:ByteArray)(x10:Int)(y25:(List Int)):Option (Exit×VS):=
 br (cApp ([]:List Int) (lsl y25 0 x10) 1)
  (n_f4_0_3 x1 x8 x10 y25)
  (none)
noncomputable def n_f4_0_11 (x1:ByteArray)(x8:ByteArray)(x10:Int)(y25:(List Int)):Option (Exit×VS):=
 br (cSl y25 x10 ((List.length y25:Nat):Int) ((List.length y25:Nat):Int))
  (n_f4_0_12 x1 x8 x10 y25)
  (none)
noncomputable def n_f4_0_10 (x1:ByteArray)(x8:ByteArray)(x10:Int)(y25:(List Int)):Option (Exit×VS):=
 frk
  (n_f4_0_8 x1 x8 x10 y25)
  (n_f4_0_11 x1 x8 x10 y25)
noncomputable def n_f4_0_9 (x1:ByteArray)(x8:ByteArray)(x10:Int)(y25:(List Int)):Option (Exit×VS):=
 frk
  (n_f4_0_8 x1 x8 x10 y25)
  (n_f4_0_10 x1 x8 x10 y25)
noncomputable def n_f4_0_14 (x1:ByteArray)(x8:ByteArray)(x10:Int)(y25:(List Int)):Option (Exit×VS):=
 frk
  (n_f4_0_12 x1 x8 x10 y25)
  (n_f4_0_12 x1 x8 x10 y25)
noncomputable def n_f4_0_13 (x1:ByteArray)(x8:ByteArray)(x10:Int)(y25:(List Int)):Option (Exit×VS):=
 frk
  (n_f4_0_8 x1 x8 x10 y25)
  (frk
   (n_f4_0_10 x1 x8 x10 y25)
   (br (cSl y25 x10 ((List.length y25:Nat):Int) ((List.length y25:Nat):Int))
    (n_f4_0_14 x1 x8 x10 y25)
    (none)))
noncomputable def n_f4_0_7 (x1:ByteArray)(x8:ByteArray)(x10:Int)(y25:(List Int)):Option (Exit×VS):=
 frk
  (n_f4_0_8 x1 x8 x10 y25)
  (frk
   (n_f4_0_9 x1 x8 x10 y25)
   (n_f4_0_13 x1 x8 x10 y25))
noncomputable def n_f4_0_17 (x1:ByteArray)(x8:ByteArray)(x10:Int)(y25:(List Int)):Option (Exit×VS):=
 br (cApp ([]:List Int) (lsl y25 0 x10) 1)
  (n_f4_0_2 x1 x8 x10 y25)
  (none)
noncomputable def n_f4_0_16 (x1:ByteArray)(x8:ByteArray)(x10:Int)(y25:(List Int)):Option (Exit×VS):=
 frk
  (n_f4_0_17 x1 x8 x10 y25)
  (br (cIx y25 x10)
   (n_f4_0_14 x1 x8 x10 y25)
   (none))
noncomputable def n_f4_0_15 (x1:ByteArray)(x8:ByteArray)(x10:Int)(y25:(List Int)):Option (Exit×VS):=
 frk
  (n_f4_0_5 x1 x8 x10 y25)
  (frk
   (br (cIx y25 x10)
    (n_f4_0_13 x1 x8 x10 y25)
    (none))
   (br (cSl y25 x10 ((List.length y25:Nat):Int) ((List.length y25:Nat):Int))
    (n_f4_0_16 x1 x8 x10 y25)
    (none)))
noncomputable def n_f4_0_4 (x1:ByteArray)(x8:ByteArray)(x10:Int)(y25:(List Int)):Option (Exit×VS):=
 frk
  (n_f4_0_5 x1 x8 x10 y25)
  (frk
   (br (cIx y25 x10)
    (n_f4_0_7 x1 x8 x10 y25)
    (none))
   (n_f4_0_15 x1 x8 x10 y25))
noncomputable def n_f4_0_19 (x1:ByteArray)(x8:ByteArray)(x10:Int)(y25:(List Int)):Option (Exit×VS):=
 frk
  (n_f4_0_17 x1 x8 x10 y25)
  (n_f4_0_16 x1 x8 x10 y25)
noncomputable def n_f4_0_18 (x1:ByteArray)(x8:ByteArray)(x10:Int)(y25:(List Int)):Option (Exit×VS):=
 frk
  (n_f4_0_1 x1 x8 x10 y25)
  (frk
   (n_f4_0_15 x1 x8 x10 y25)
   (br (cSl y25 x10 ((List.length y25:Nat):Int) ((List.length y25:Nat):Int))
    (n_f4_0_19 x1 x8 x10 y25)
    (none)))
noncomputable def n_f4_0_20 (x1:ByteArray)(x8:ByteArray)(x10:Int)(y25:(List Int)):Option (Exit×VS):=
 frk
  (n_f4_0_10 x1 x8 x10 y25)
  (n_f4_0_11 x1 x8 x10 y25)
noncomputable def n_f4_0_22 (x1:ByteArray)(x8:ByteArray)(x10:Int)(y25:(List Int)):Option (Exit×VS):=
 frk
  (n_f4_0_14 x1 x8 x10 y25)
  (n_f4_0_12 x1 x8 x10 y25)
noncomputable def n_f4_0_21 (x1:ByteArray)(x8:ByteArray)(x10:Int)(y25:(List Int)):Option (Exit×VS):=
 frk
  (n_f4_0_13 x1 x8 x10 y25)
  (frk
   (n_f4_0_20 x1 x8 x10 y25)
   (br (cSl y25 x10 ((List.length y25:Nat):Int) ((List.length y25:Nat):Int))
    (n_f4_0_22 x1 x8 x10 y25)
    (none)))
noncomputable def n_f4_0_24 (x1:ByteArray)(x8:ByteArray)(x10:Int)(y25:(List Int)):Option (Exit×VS):=
 frk
  (n_f4_0_16 x1 x8 x10 y25)
  (br (cIx y25 x10)
   (n_f4_0_22 x1 x8 x10 y25)
   (none))
noncomputable def n_f4_0_23 (x1:ByteArray)(x8:ByteArray)(x10:Int)(y25:(List Int)):Option (Exit×VS):=
 frk
  (n_f4_0_15 x1 x8 x10 y25)
  (frk
   (br (cIx y25 x10)
    (n_f4_0_21 x1 x8 x10 y25)
    (none))
   (br (cSl y25 x10 ((List.length y25:Nat):Int) ((List.length y25:Nat):Int))
    (n_f4_0_24 x1 x8 x10 y25)
    (none)))
noncomputable def n_f4_0 (x1:ByteArray)(x8:ByteArray)(x10:Int)(y25:(List Int)):Option (Exit×VS):=
 br (cSl y25 0 x10 ((List.length y25:Nat):Int))
  (frk
   (frk
    (n_f4_0_1 x1 x8 x10 y25)
    (frk
     (n_f4_0_4 x1 x8 x10 y25)
     (n_f4_0_18 x1 x8 x10 y25)))
   (frk
    (frk
     (n_f4_0_4 x1 x8 x10 y25)
     (frk
      (br (cIx y25 x10)
       (frk
        (n_f4_0_7 x1 x8 x10 y25)
        (frk
         (frk
          (n_f4_0_9 x1 x8 x10 y25)
          (n_f4_0_20 x1 x8 x10 y25))
         (n_f4_0_21 x1 x8 x10 y25)))
       (none))
      (n_f4_0_23 x1 x8 x10 y25)))
    (frk
     (n_f4_0_18 x1 x8 x10 y25)
     (frk
      (n_f4_0_23 x1 x8 x10 y25)
      (br (cSl y25 x10 ((List.length y25:Nat):Int) ((List.length y25:Nat):Int))
       (frk
        (n_f4_0_19 x1 x8 x10 y25)
        (n_f4_0_24 x1 x8 x10 y25))
       (none))))))
  (none)
noncomputable def lp_f4_0 (x1:ByteArray)(x8:ByteArray)(x10:Int)(y25:(List Int)):Option (Exit×VS):=ev g_f4 tb_f4_0 (st_f4_0 x1 x8 x10 y25) fun e S=>some (e,fgt fh_f4_0 S)
def la_f4_0 (x1:ByteArray)(x8:ByteArray)(x10:Int)(y25:(List Int)):Option (Exit×VS):=some (.normal,st_f4_0_normal (x1) (x8) (insX y25 x10))
theorem ln_f4_0 (x1:ByteArray)(x8:ByteArray)(x10:Int)(y25:(List Int)):lp_f4_0 x1 x8 x10 y25=n_f4_0 x1 x8 x10 y25:=by kernel_rfl
def r_f4_1 (p0:(List Int))(p1:ByteArray)(p2:Int):Option (V×List VO):=
 br ((nameG p1))
  (br ((ag7 p1))
   (some (.t .bool awk7,[]))
   (some (.t .bool false,[])))
  (none)
def r_f4_2 (p0:(List Int))(p1:ByteArray)(p2:Int):Option (V×List VO):=
 br ((nameG (tx7F (roll p0) 3)))
  (br ((ag7 (tx7F (roll p0) 3)))
   (br ((nameG (strOf (bytesL (tx7F (roll p0) 3)))))
    (br ((ag7 (strOf (bytesL (tx7F (roll p0) 3)))))
     (r_f4_1 p0 p1 p2)
     (some (.t .bool false,[])))
    (none))
   (some (.t .bool false,[])))
  (none)
def r_f4 (p0:(List Int))(p1:ByteArray)(p2:Int):Option (V×List VO):=
 br ((!(light p0)))
  (some (.t .bool awk7,[]))
  (br ((igt (slen p1) 9000))
   (some (.t .bool awk7,[]))
   (br ((tx7Ok (roll p0) 3))
    (br ((bytesOk (tx7F (roll p0) 3)))
     (br ((igt (llen (bytesL (tx7F (roll p0) 3))) 0))
      (br ((dmodOk p2 (llen (bytesL (tx7F (roll p0) 3)))))
       (br ((nextOk (tx7N (roll p0) 3) 4))
        (br ((ieq (dval (tx7N (roll p0) 3) 4) 0))
         (br ((ofOk (dnext (tx7N (roll p0) 3) 4) ([10,32,34,92,123,125,59,35,13,200,97])))
          (br (cIx (bytesL (tx7F (roll p0) 3)) (dmod p2 (llen (bytesL (tx7F (roll p0) 3)))))
           (br (cLd (bytesL (tx7F (roll p0) 3)) (Int.toNat (dmod p2 (llen (bytesL (tx7F (roll p0) 3))))))
            (br ((nameG (tx7F (roll p0) 3)))
             (br ((ag7 (tx7F (roll p0) 3)))
              (br ((nameG (strOf (List.set (bytesL (tx7F (roll p0) 3)) (Int.toNat (dmod p2 (llen (bytesL (tx7F (roll p0) 3))))) (icv .u8 (dof (dnext (tx7N (roll p0) 3) 4) ([10,32,34,92,123,125,59,35,13,200,97])))))))
               (br ((ag7 (strOf (List.set (bytesL (tx7F (roll p0) 3)) (Int.toNat (dmod p2 (llen (bytesL (tx7F (roll p0) 3))))) (icv .u8 (dof (dnext (tx7N (roll p0) 3) 4) ([10,32,34,92,123,125,59,35,13,200,97])))))))
                (r_f4_1 p0 p1 p2)
                (some (.t .bool false,[])))
               (none))
              (some (.t .bool false,[])))
             (none))
            (none))
           (none))
          (none))
         (br ((ieq (dval (tx7N (roll p0) 3) 4) 1))
          (br (cWn (bytesL (tx7F (roll p0) 3)) 0 (dmod p2 (llen (bytesL (tx7F (roll p0) 3)))))
           (br (cWn (bytesL (tx7F (roll p0) 3)) (iadd .i64 (dmod p2 (llen (bytesL (tx7F (roll p0) 3)))) 1) ((List.length (bytesL (tx7F (roll p0) 3)):Nat):Int))
            (br (cApp (wnL (.int .u8) (bytesL (tx7F (roll p0) 3)) 0 (Int.toNat (dmod p2 (llen (bytesL (tx7F (roll p0) 3))))-Int.toNat 0)) (wnL (.int .u8) (bytesL (tx7F (roll p0) 3)) (Int.toNat (iadd .i64 (dmod p2 (llen (bytesL (tx7F (roll p0) 3)))) 1)) (Int.toNat ((List.length (bytesL (tx7F (roll p0) 3)):Nat):Int)-Int.toNat (iadd .i64 (dmod p2 (llen (bytesL (tx7F (roll p0) 3)))) 1))) 1)
             (br ((nameG (tx7F (roll p0) 3)))
              (br ((ag7 (tx7F (roll p0) 3)))
               (br ((nameG (strOf ((wnL (.int .u8) (bytesL (tx7F (roll p0) 3)) 0 (Int.toNat (dmod p2 (llen (bytesL (tx7F (roll p0) 3))))-Int.toNat 0))++(wnL (.int .u8) (bytesL (tx7F (roll p0) 3)) (Int.toNat (iadd .i64 (dmod p2 (llen (bytesL (tx7F (roll p0) 3)))) 1)) (Int.toNat ((List.length (bytesL (tx7F (roll p0) 3)):Nat):Int)-Int.toNat (iadd .i64 (dmod p2 (llen (bytesL (tx7F (roll p0) 3)))) 1)))))))
                (br ((ag7 (strOf ((wnL (.int .u8) (bytesL (tx7F (roll p0) 3)) 0 (Int.toNat (dmod p2 (llen (bytesL (tx7F (roll p0) 3))))-Int.toNat 0))++(wnL (.int .u8) (bytesL (tx7F (roll p0) 3)) (Int.toNat (iadd .i64 (dmod p2 (llen (bytesL (tx7F (roll p0) 3)))) 1)) (Int.toNat ((List.length (bytesL (tx7F (roll p0) 3)):Nat):Int)-Int.toNat (iadd .i64 (dmod p2 (llen (bytesL (tx7F (roll p0) 3)))) 1)))))))
                 (r_f4_1 p0 p1 p2)
                 (some (.t .bool false,[])))
                (none))
               (some (.t .bool false,[])))
              (none))
             (none))
            (none))
           (none))
          (br ((ieq (dval (tx7N (roll p0) 3) 4) 2))
           (br ((decide (0<=(dmod p2 (llen (bytesL (tx7F (roll p0) 3))))/\(dmod p2 (llen (bytesL (tx7F (roll p0) 3))))<(bytesL (tx7F (roll p0) 3)).length/\(bytesL (tx7F (roll p0) 3)).length<=100000)))
            (br ((nameG ((tx7F (roll p0) 3))))
             (br ((ag7 ((tx7F (roll p0) 3))))
              (br ((nameG (strOf (insX (bytesL (tx7F (roll p0) 3)) (dmod p2 (llen (bytesL (tx7F (roll p0) 3))))))))
               (br ((ag7 (strOf (insX (bytesL (tx7F (roll p0) 3)) (dmod p2 (llen (bytesL (tx7F (roll p0) 3))))))))
                (br ((nameG (p1)))
                 (br ((ag7 (p1)))
                  (some (.t .bool awk7,[]))
                  (some (.t .bool false,[])))
                 (none))
                (some (.t .bool false,[])))
               (none))
              (some (.t .bool false,[])))
             (none))
            (none))
           (r_f4_2 p0 p1 p2))))
        (none))
       (none))
      (r_f4_2 p0 p1 p2))
     (none))
    (none)))
theorem e_f4 (p0:(List Int))(p1:ByteArray)(p2:Int):runF g_f4 tc_f4 rv_f4 false [.t (.sl tI) p0,.t .str p1,.t tI p2] []=r_f4 p0 p1 p2:=by kernel_rfl
theorem ok_f4:Option.map (trC Tryd.prog) Tryd.f4.body=some tc_f4.er:=by kernel_rfl
theorem rok_f4:trVs Tryd.prog Tryd.f4.results.toList=some (rv_f4.map Prod.fst):=by kernel_rfl
theorem gk_f4:GOk Tryd.prog g_f4:=gok_of _ (by
 intro p hp
 simp only [List.mem_cons,List.not_mem_nil,or_false] at hp
 rcases hp with rfl|rfl|rfl|rfl|rfl|rfl|rfl|rfl|rfl|rfl
 ·exact ⟨en_f13,ms_f13⟩
 ·exact ⟨en_f15,ms_f15⟩
 ·exact ⟨en_f17,ms_f17⟩
 ·exact ⟨en_f18,ms_f18⟩
 ·exact ⟨en_f19,ms_f19⟩
 ·exact ⟨en_f21,ms_f21⟩
 ·exact ⟨en_f22,ms_f22⟩
 ·exact ⟨en_f23,ms_f23⟩
 ·exact ⟨en_op_convert_28_9,ms_op_convert_28_9⟩
 ·exact ⟨en_op_convert_9_28_O,ms_op_convert_9_28_O⟩)
theorem lsl_len (l:List Int)(a b:Int):(lsl l a b).length<=l.length:=by
 unfold lsl
 rw [List.length_take,List.length_drop]
 omega
theorem l_f4_0 (x1:ByteArray)(x8:ByteArray)(x10:Int)(y25:(List Int))(h:(decide (0<=x10/\x10<y25.length/\y25.length<=100000))=true):lp_f4_0 x1 x8 x10 y25=la_f4_0 x1 x8 x10 y25:=by
 obtain ⟨h0,h1,h2⟩:=of_decide_eq_true h
 have l1:=lsl_len y25 0 x10
 have l2:=lsl_len y25 x10 ((List.length y25:Nat):Int)
 have c1:cApp ([]:List Int) (lsl y25 0 x10) 1=true:=cAppN (by decide) (by simp only [List.length_nil];omega)
 have c2:cApp (([]:List Int)++(lsl y25 0 x10)) ([(lgt (.int .u8) y25 (Int.toNat x10))]) 1=true:=cAppN (by decide) (by simp only [List.length_nil,List.length_append,List.length_cons];omega)
 have c3:cApp ((([]:List Int)++(lsl y25 0 x10))++([(lgt (.int .u8) y25 (Int.toNat x10))])) (lsl y25 x10 ((List.length y25:Nat):Int)) 1=true:=cAppN (by decide) (by simp only [List.length_nil,List.length_append,List.length_cons];omega)
 have c4:cSl y25 0 x10 ((List.length y25:Nat):Int)=true:=decide_eq_true (by omega)
 have c5:cSl y25 x10 ((List.length y25:Nat):Int) ((List.length y25:Nat):Int)=true:=decide_eq_true (by omega)
 have c6:cIx y25 x10=true:=decide_eq_true (by omega)
 rw [ln_f4_0]
 simp only [n_f4_0,n_f4_0_1,n_f4_0_2,n_f4_0_3,n_f4_0_4,n_f4_0_5,n_f4_0_6,n_f4_0_7,n_f4_0_8,n_f4_0_9,n_f4_0_10,n_f4_0_11,n_f4_0_12,n_f4_0_13,n_f4_0_14,n_f4_0_15,n_f4_0_16,n_f4_0_17,n_f4_0_18,n_f4_0_19,n_f4_0_20,n_f4_0_21,n_f4_0_22,n_f4_0_23,n_f4_0_24,frk_self,c1,c2,c3,c4,c5,c6,br_true,frk_self]
 rfl
theorem lo_f4_0: ∀ S l p,g_f4.L 0 (fgt fg_f4_0 S)=some (true,l)->pickA l=some p->ev g_f4 tb_f4_0 (fgt fg_f4_0 S) (fun e S=>some (e,fgt fh_f4_0 S))=some p:=
 lokG_of (s:=sh_f4_0) ⟨by decide,by decide⟩ (by kernel_rfl) fun x y hok p hp=>by
 simp only [pickA_br,pickA_one] at hp
 exact (l_f4_0 x.1 x.2.1 x.2.2.2.1 y.1 (by simpa using hok)).trans hp
theorem lk_f4:tc_f4.lok g_f4:=by
 repeat (first|exact trivial|exact lo_f4_0|refine ⟨?_, ?_⟩)
set_option maxRecDepth 100000 in
theorem s_f4 (p0:List Int)(p1:ByteArray)(p2:Int):r_f4 p0 p1 p2=some (.t .bool (bltT p0 p1 p2),[]):=by
 simp only [r_f4,r_f4_1,r_f4_2]
 refine br_intro (fun _=>rfl) (fun k1=>br_intro (fun _=>rfl) (fun k2=> ?_))
 have k1:light p0=true:=by simpa using k1
 have k2:p1.size<=9000:=by simp only [igt,slen,decide_eq_false_iff_not] at k2;omega
 have hd:=dOk_roll k1
 have hg:=txG_ok 3 (roll p0) hd
 have hz:(tx7F (roll p0) 3).size<=20000:=Nat.le_trans hg.1 (Bn_le 3 (Nat.le_refl _))
 have hn:dOk (tx7N (roll p0) 3)=true:=hg.2
 have h0:tx7Ok (roll p0) 3=true:=Bool.and_eq_true_iff.2 ⟨hd,cP_in ⟨by decide,by decide⟩⟩
 generalize tx7F (roll p0) 3=s at hz ⊢
 generalize tx7N (roll p0) 3=d at hn ⊢
 have z1:nameG s=true:=decide_eq_true (by omega)
 have z2:nameG p1=true:=decide_eq_true (by omega)
 have z3:bytesOk s=true:=decide_eq_true (by omega)
 have hb:(bytesL s).length=s.size:=by simp [bytesL]
 have hfin:br (nameG p1) (br (ag7 p1) (some (V.t .bool awk7,([]:List VO))) (some (.t .bool false,[]))) none=some (.t .bool true,[]):=by rw [z2];rfl
 have hD:br (nameG s) (br (ag7 s) (br (nameG (strOf (bytesL s))) (br (ag7 (strOf (bytesL s))) (br (nameG p1) (br (ag7 p1) (some (V.t .bool awk7,([]:List VO))) (some (.t .bool false,[]))) none) (some (.t .bool false,[]))) none) (some (.t .bool false,[]))) none=some (.t .bool true,[]):=
  brY z1 (brY rfl (brY (strOf_ok (by omega)) (brY rfl hfin)))
 rw [h0,br_true,z3,br_true]
 cases h5:igt (llen (bytesL s)) 0 with
 |false=>
  rw [br_false]
  exact hD
 |true=>
  have h5:0<s.size:=by simp only [igt,llen,decide_eq_true_eq] at h5;omega
  have d1:dmodOk p2 (llen (bytesL s))=true:=by
   simp only [dmodOk,llen,decide_eq_true_eq]
   omega
  have hm:0<=dmod p2 (llen (bytesL s))/\dmod p2 (llen (bytesL s))<llen (bytesL s):=by
   have:0<llen (bytesL s):=by simp only [llen];omega
   unfold dmod
   rw [if_neg (by omega)]
   exact ⟨Int.emod_nonneg _ (by omega),Int.emod_lt_of_pos _ (by omega)⟩
  generalize dmod p2 (llen (bytesL s))=i at hm ⊢
  generalize bytesL s=b at hb d1 hm hD ⊢
  simp only [llen] at hm
  obtain ⟨k,rfl⟩:=Int.eq_ofNat_of_zero_le hm.1
  have e1:iadd .i64 (k:Int) 1=((k+1:Nat):Int):=by rw [iadd_in (by omega)];omega
  rw [br_true]
  refine brY d1 (brY (Bool.and_eq_true_iff.2 ⟨hn,by decide⟩) ?_)
  refine br_intro (fun _=> ?_) (fun _=>br_intro (fun _=> ?_) (fun _=>br_intro (fun _=> ?_) (fun _=>hD)))
  ·exact brY (Bool.and_eq_true_iff.2 ⟨dOk_next hn,by decide⟩) (brY (decide_eq_true hm) (brY (decide_eq_true (by omega)) (brY z1 (brY rfl (brY (strOf_ok (by rw [List.length_set];omega)) (brY rfl hfin))))))
  ·rw [e1]
   have w1:wnL (.int .u8) b 0 (Int.toNat (k:Int)-Int.toNat 0)=(b.drop 0).take k:=wnL_eq (y:= .int .u8) (by simp;omega)
   have w2:wnL (.int .u8) b (Int.toNat ((k+1:Nat):Int)) (Int.toNat ((List.length b:Nat):Int)-Int.toNat ((k+1:Nat):Int))=(b.drop (k+1)).take (b.length-(k+1)):=wnL_eq (y:= .int .u8) (by simp only [Int.toNat_natCast];omega)
   rw [w1,w2]
   refine brY (decide_eq_true (by omega)) (brY (decide_eq_true (by omega)) (brY (cAppN (by decide) (by simp only [List.length_take,List.length_drop];omega)) (brY z1 (brY rfl (brY (strOf_ok ?_) (brY rfl hfin))))))
   simp only [List.length_append,List.length_take,List.length_drop]
   omega
  ·refine brY (decide_eq_true ⟨hm.1,hm.2,by omega⟩) (brY z1 (brY rfl (brY (strOf_ok ?_) (brY rfl hfin))))
   have l1:=lsl_len b 0 (k:Int)
   have l2:=lsl_len b (k:Int) ((List.length b:Nat):Int)
   unfold insX
   simp only [List.length_append,List.length_cons,List.length_nil]
   omega
def sp_f4:Ent:=spec (.pr (.sl tI) (.pr .str (.pr tI .nil))) (fun x=>true) (fun x=>(.t .bool (bltT x.1 x.2.1 x.2.2.1)))
theorem ms_f4:Meets Tryd.prog 4 (strip sp_f4):=by
 obtain ⟨c,hc,hi⟩:=Option.map_eq_some_iff.1 ok_f4
 exact meets_spec (R:=runF g_f4 tc_f4 rv_f4 false) (meets_of (by decide) Tryd.func4 hc hi Tryd.ntmps4 rok_f4 gk_f4 lk_f4 mixed) fun x _=>(e_f4 x.1 x.2.1 x.2.2.1).trans (s_f4 x.1 x.2.1 x.2.2.1)
theorem walkBlocksTexts (z0:(List Int))(z1:ByteArray)(z2:Int)(W:World)(v0:Value)(v1:Value)(v2:Value)(c0:C noX W (fun _=> .no) (V.t (.sl tI) z0).d v0)(c1:C noX W (fun _=> .no) (V.t .str z1).d v1)(c2:C noX W (fun _=> .no) (V.t tI z2).d v2)(w0:Ty.wf (.sl tI) z0)(w1:Ty.wf .str z1)(w2:Ty.wf tI z2):
  Calls Tryd.prog 4 #[v0,v1,v2] W fun r w'=>r= .returned (.bool true)/\Below W.heap.size W w':=
 calls_true (by decide) ms_f4 (args:=[.t (.sl tI) z0,.t .str z1,.t tI z2]) (strip_spec (x:=(z0,z1,z2,())) rfl (rfl)) (by simp only [V.ds,Cs];exact ⟨_,_,rfl,c0,_,_,rfl,c1,_,_,rfl,c2,rfl⟩)
end
end Go.Proofs.YtkkoedniahnneaaDoor.K
