import Derived.Test.YticnbacafmeiiaaGreatDoorQ4
import Derived.Test.YticnbacafmeiiaaGreatDoorQ3
import Derived.RangeFuncCalls
import Derived.RangeFuncBound
import Derived.Shelf.RegionOpen
import Derived.OwnWalkIn
import Derived.TacticsInMore
import Derived.LoopNIn
import Derived.LoopIn
import Derived.Shelf.Sort.Plain
import Derived.Ground.NamesProg
import Derived.Ground.Names2Prog
import Derived.Shelf.Slices.In.SortNone
import Derived.Shelf.Slices.CompactI
import Derived.Maps.RangeWalk
import Derived.Maps.Own
import Derived.Maps.Views
import Derived.Shelf.Small.Strs
set_option linter.unusedSimpArgs false
set_option linter.unusedVariables false
set_option maxRecDepth 100000
set_option linter.unusedSectionVars false
namespace Go.Proofs.YticnbacafmeiiaaGreatDoor.K
open Go.RowKit
noncomputable section
def frmV (_x:ValT):Bool:=true
def frmOk (x:ValT):Bool:=okT 12 x
theorem fuel_der_formed (x:ValT)(h:frmOk x=true): ∃ N,okT N x=true:=⟨12,h⟩
theorem en_f154:Entered Tryz.prog 154:= .inr ⟨by decide,_,Tryz.func154,by kernel_rfl,by kernel_rfl⟩
def sp_f154R [Fuel]:Ent:=spec (.pr tyValT .nil) (fun x=>(okT fuel x.1)) (fun x=>(.t .bool (frmV x.1)))
theorem en_f154R:Entered Tryz.prog 154:=en_f154
section
variable [Fuel][Nonempty (PLift (Meets Tryz.prog 154 (strip sp_f154R)))]
theorem ms_f154R:Meets Tryz.prog 154 (strip sp_f154R):=(Classical.choice (inferInstance:Nonempty (PLift (Meets Tryz.prog 154 (strip sp_f154R))))).down
def unfV (_x:ValT):Bool:=false
def unfOk [Fuel](x:ValT):Bool:=okT fuel x
def unfsOk [Fuel](l:List ValT):Bool:=decide (l.length<=100000)&&l.all (okT fuel)
noncomputable def tc_f223:TC:=(.sq (.reg (rT Tryz.f223 0)) (.sq (.reg (rT Tryz.f223 1)) .rt))
def rv_f223:List (RV×Option Ty):=[((.t 2),some .bool)]
def g_f223:G:=⟨TYs,[],6,EL [(154,sp_f154R)],keeps,(fun _ _=>none),IL [],RL []⟩
def r_f223 (p0:ValT):Option (V×List VO):=br (okT fuel p0) (some (.t .bool (!(frmV p0)),[])) none
theorem e_f223 (p0:ValT):runF g_f223 tc_f223 rv_f223 false [.t tyValT p0] []=r_f223 p0:=by kernel_rfl
theorem en_f223:Entered Tryz.prog 223:= .inr ⟨by decide,_,Tryz.func223,by kernel_rfl,by kernel_rfl⟩
theorem gk_f223:GOk Tryz.prog g_f223:=gok_of _ (gA (gC en_f154R ms_f154R gN))
theorem lk_f223:tc_f223.lok g_f223:=by repeat (first|exact trivial|refine ⟨?_, ?_⟩)
theorem s_f223 (x:ValT)(h:unfOk x=true):r_f223 x=some (.t .bool (unfV x),[]):=by
 simp only [r_f223,show okT fuel x=true from h,br_true]
 rfl
def sp_f223:Ent:=spec (.pr tyValT .nil) (fun x=>(unfOk x.1)) (fun x=>(.t .bool (unfV x.1)))
theorem ms_f223:Meets Tryz.prog 223 (strip sp_f223):=meets_spec (R:=runF g_f223 tc_f223 rv_f223 false) (mG Tryz.func223 (by kernel_rfl) Tryz.ntmps223 (by kernel_rfl) gk_f223 lk_f223) fun x hok=>(e_f223 x.1).trans (s_f223 x.1 hok)
def fstUnf (_l:List ValT):Int:= -1
def fg_f276c223_0:Fg:=⟨[(0,some (.sl tyValT)),(1,none),(7,some tI),(8,some tI)],[]⟩
noncomputable def tb_f276c223_0:TC:=(.sq (.reg (rT Tryz.f276 2)) (.sq (.cd (.t 9) .sk (.fg ⟨[],[]⟩ (.ex 0))) (.sq (.bk 1 (.sq (.reg (rT Tryz.f276 3)) (.sq (.reg (rT Tryz.f276 4)) (.cd (.t 16) (.sq (.reg (rT Tryz.f276 5)) (.fg ⟨[(4,some tI)],[]⟩ .rt)) .sk)))) (.reg (rT Tryz.f276 6)))))
noncomputable def tc_f276c223:TC:=(.sq (.reg (rT Tryz.f276 0)) (.sq (.sq (.reg (rT Tryz.f276 1)) (.bk 0 (.lp 0 fg_f276c223_0 tb_f276c223_0))) (.sq (.reg (rT Tryz.f276 7)) .rt)))
def rv_f276c223:List (RV×Option Ty):=[((.t 4),some tI)]
abbrev sh_f276c223_0:Sh:=⟨[(0,.ty (.sl tyValT)),(1,.cf 223),(7,.ty tI),(8,.ty tI)],[]⟩
def st_f276c223_0 (x0:List ValT)(x7 x8:Int):VS:=sh_f276c223_0.st (x0,(),x7,x8,()) ()
abbrev sh_f276c223_0_ret:Sh:=⟨[(4,.ty tI)],[]⟩
def st_f276c223_0_ret (x4:Int):VS:=sh_f276c223_0_ret.st (x4,()) ()
abbrev sh_f276c223_0_e0:Sh:=⟨[],[]⟩
def st_f276c223_0_e0  : VS:=sh_f276c223_0_e0.st () ()
def L_f276c223_0:VS->Option (Bool×List (Bool×Exit×VS)):=mkL sh_f276c223_0 (fun x y=>(rngOk x.1 x.2.2.1 x.2.2.2.1&&unfsOk x.1)) (fun x y=>[((false),.ret,st_f276c223_0_ret (x.2.2.2.1)),(true,.exit 0,st_f276c223_0_e0)])
def g_f276c223:G:=⟨TYs,[],19,EL [(223,sp_f223)],keeps,(Ls [L_f276c223_0]),IL [],RL []⟩
def b_f276c223_0 (x0:List ValT)(x7 x8:Int):Option (Exit×VS):=
 let a1:=lgt tyValT x0 (Int.toNat x8)
 br (ilt x8 x7) (br (cIx x0 x8) (br (unfOk a1) (br (unfV a1) (some (.ret,st_f276c223_0_ret x8)) (some (.normal,st_f276c223_0 x0 x7 (iadd .i64 x8 1)))) none) none) (some (.exit 0,st_f276c223_0_e0))
noncomputable def lp_f276c223_0 (x0:List ValT)(x7 x8:Int):Option (Exit×VS):=loopF (roundF g_f276c223 fg_f276c223_0 tb_f276c223_0) (st_f276c223_0 x0 x7 x8)
noncomputable def n_f276c223_0 (x0:List ValT)(x7 x8:Int):Option (Exit×VS):=
 let a1:=lgt tyValT x0 (Int.toNat x8)
 br (ilt x8 x7) (br (cIx x0 x8) (br (unfOk a1) (br (unfV a1) (some (.ret,st_f276c223_0_ret x8)) (lp_f276c223_0 x0 x7 (iadd .i64 x8 1))) none) none) (some (.exit 0,st_f276c223_0_e0))
def la_f276c223_0 (x0:List ValT)(x7 x8:Int):Option (Exit×VS):=br (false) (some (.ret,st_f276c223_0_ret (x8)))<|some (.exit 0,st_f276c223_0_e0)
theorem be_f276c223_0 (x0:List ValT)(x7 x8:Int):roundF g_f276c223 fg_f276c223_0 tb_f276c223_0 (st_f276c223_0 x0 x7 x8)=b_f276c223_0 x0 x7 x8:=by kernel_rfl
theorem ln_f276c223_0 (x0:List ValT)(x7 x8:Int):lp_f276c223_0 x0 x7 x8=n_f276c223_0 x0 x7 x8:=(loopF_nxt _ _).trans (by
 rw [be_f276c223_0]
 simp only [b_f276c223_0,n_f276c223_0,nxt_br,nxt_n,nxt_r,nxt_e,nxt_0]
 rfl)
def r_f276c223 (p0:List ValT):Option (V×List VO):=br (rngOk p0 (llen p0) (0:Int)&&unfsOk p0) (br (false) (some (.t tI (0:Int),[])) (some (.t tI (-1),[]))) none
theorem e_f276c223 (p0:List ValT):runF g_f276c223 tc_f276c223 rv_f276c223 false [.t (.sl tyValT) p0,.c (.func (.func 223) ⟨[]⟩ ⟨[]⟩)] []=r_f276c223 p0:=by kernel_rfl
theorem en_f276c223:Entered Tryz.prog 276:= .inr ⟨by decide,_,Tryz.func276,by kernel_rfl,by kernel_rfl⟩
theorem gk_f276c223:GOk Tryz.prog g_f276c223:=gok_of _ (gA (gC en_f223 ms_f223 gN))
theorem l_f276c223_0 (x0:List ValT)(x7 x8:Int)(h:(rngOk x0 x7 x8&&unfsOk x0)=true):lp_f276c223_0 x0 x7 x8=la_f276c223_0 x0 x7 x8:=by
 simp only [Bool.and_eq_true] at h
 obtain ⟨h0,hc⟩:=h
 obtain ⟨rfl,h3,k,rfl,hk⟩:=rng_k h0
 clear h0
 simp only [unfsOk,Bool.and_eq_true,List.all_eq_true] at hc
 refine range_ind x0 (fun k=>lp_f276c223_0 x0 (x0.length:Int) (k:Int)=la_f276c223_0 x0 (x0.length:Int) (k:Int)) ?_ ?_ k hk
 ·rw [ln_f276c223_0]
  simp [n_f276c223_0,la_f276c223_0,ilt_nat,br_false]
 ·intro k hk ih
  rw [ln_f276c223_0]
  have hx:=hc.2 x0[k] (List.getElem_mem hk)
  simp only [n_f276c223_0,ilt_nat,cIx_nat,hk,decide_true,br_true,Int.toNat_natCast,add1 (k:=k),lgt_get (y:=tyValT) hk,show unfOk x0[k]=true from hx,unfV,br_false,ih]
  rfl
theorem lo_f276c223_0: ∀ S l p,g_f276c223.L 0 (fgt fg_f276c223_0 S)=some (true,l)->pickA l=some p->loopF (roundF g_f276c223 fg_f276c223_0 tb_f276c223_0) S=some p:=
 lok_of (s:=sh_f276c223_0) ⟨by decide,by decide⟩ (by kernel_rfl) fun x y hok p hp=>by
 simp only [pickA_br,pickA_one] at hp
 exact (l_f276c223_0 x.1 x.2.2.1 x.2.2.2.1 (by simpa using hok)).trans hp
theorem lk_f276c223:tc_f276c223.lok g_f276c223:=by
 repeat (first|exact trivial|exact lo_f276c223_0|refine ⟨?_, ?_⟩)
theorem s_f276c223 (l:List ValT)(h:unfsOk l=true):r_f276c223 l=some (.t tI (fstUnf l),[]):=by
 have hl:l.length<=100000:=by simp only [unfsOk,Bool.and_eq_true,decide_eq_true_eq] at h;exact h.1
 simp only [r_f276c223,rng_0 hl,h,Bool.true_and,br_true,br_false]
 rfl
def sp_f276c223:Ent:=specH [.ty (.sl tyValT),.cf 223] [] (fun x d=>(unfsOk x.1)) (fun x d=>(.t tI (fstUnf x.1)))
theorem ms_f276c223:Meets Tryz.prog 276 (strip sp_f276c223):=(meets_specH (R:=runF g_f276c223 tc_f276c223 rv_f276c223 false) (mG Tryz.func276 (by kernel_rfl) Tryz.ntmps276 (by kernel_rfl) gk_f276c223 lk_f276c223) fun x d hok=>(e_f276c223 x.1).trans (s_f276c223 x.1 hok))
def anyUnf (_l:List ValT):Bool:=false
noncomputable def tc_f222c223:TC:=(.sq (.reg (rT Tryz.f222 0)) (.sq (.reg (rT Tryz.f222 1)) .rt))
def rv_f222c223:List (RV×Option Ty):=[((.t 4),some .bool)]
def g_f222c223:G:=⟨TYs,[],9,EL [(276,sp_f276c223)],keeps,(fun _ _=>none),IL [],RL []⟩
def r_f222c223 (p0:List ValT):Option (V×List VO):=br (unfsOk p0) (some (.t .bool (ige (fstUnf p0) 0),[])) none
theorem e_f222c223 (p0:List ValT):runF g_f222c223 tc_f222c223 rv_f222c223 false [.t (.sl tyValT) p0,.c (.func (.func 223) ⟨[]⟩ ⟨[]⟩)] []=r_f222c223 p0:=by kernel_rfl
theorem en_f222c223:Entered Tryz.prog 222:= .inr ⟨by decide,_,Tryz.func222,by kernel_rfl,by kernel_rfl⟩
theorem gk_f222c223:GOk Tryz.prog g_f222c223:=gok_of _ (gA (gC en_f276c223 ms_f276c223 gN))
theorem lk_f222c223:tc_f222c223.lok g_f222c223:=by repeat (first|exact trivial|refine ⟨?_, ?_⟩)
theorem s_f222c223 (l:List ValT)(h:unfsOk l=true):r_f222c223 l=some (.t .bool (anyUnf l),[]):=by
 simp only [r_f222c223,h,br_true]
 rfl
def sp_f222c223:Ent:=specH [.ty (.sl tyValT),.cf 223] [] (fun x d=>(unfsOk x.1)) (fun x d=>(.t .bool (anyUnf x.1)))
theorem ms_f222c223:Meets Tryz.prog 222 (strip sp_f222c223):=(meets_specH (R:=runF g_f222c223 tc_f222c223 rv_f222c223 false) (mG Tryz.func222 (by kernel_rfl) Tryz.ntmps222 (by kernel_rfl) gk_f222c223 lk_f222c223) fun x d hok=>(e_f222c223 x.1).trans (s_f222c223 x.1 hok))
noncomputable def tc_f154:TC:=(.sq (.reg (rT Tryz.f154 0)) (.sq (.sq (.reg (rT Tryz.f154 1)) (.cd (.t 36) (.sq (.reg (rT Tryz.f154 2)) .rt) .sk)) (.sq (.reg (rT Tryz.f154 3)) .rt)))
def rv_f154:List (RV×Option Ty):=[((.t 2),some .bool)]
def g_f154:G:=⟨TYs,[],41,EL [(221,sp_f221),(222,sp_f222c223)],keeps,(fun _ _=>none),IL [],RL []⟩
def r_f154_2 (p0:ValT):Option (V×List VO):=
 let a1:=List.map Val.un p0.2.2.2.1
 br (unfsOk a1) (some (.t .bool (!(anyUnf a1)),[])) none
def r_f154_1x (p0:ValT):Option (V×List VO):=br (!p0.2.2.1) (br (igt (llen (List.map Val.un p0.2.2.2.1)) 0) (some (.t .bool false,[])) (r_f154_2 p0)) (r_f154_2 p0)
def r_f154 (p0:ValT):Option (V×List VO):=br (!(tagB p0.1)) (some (.t .bool false,[])) (br (bneq p0.2.2.1 (ine (iband .i64 p0.1 32) 0)) (some (.t .bool false,[])) (br (p0.2.2.1) (br (igt (llen p0.2.1) 0) (some (.t .bool false,[])) (r_f154_1x p0)) (r_f154_1x p0)))
theorem e_f154 (p0:ValT):runF g_f154 tc_f154 rv_f154 false [.t tyValT p0] []=r_f154 p0:=by kernel_rfl
theorem gk_f154:GOk Tryz.prog g_f154:=gok_of _ (gA (gC en_f221 ms_f221 (gC en_f222c223 ms_f222c223 gN)))
theorem lk_f154:tc_f154.lok g_f154:=by repeat (first|exact trivial|refine ⟨?_, ?_⟩)
theorem s_f154 (x:ValT)(h:okT (fuel+1) x=true):r_f154 x=some (.t .bool (frmV x),[]):=by
 obtain ⟨h1,h2,h3,h4,h5,h6,h7⟩:=okT_succ h
 have hu:unfsOk (List.map Val.un x.2.2.2.1)=true:=by
  simp only [unfsOk,Bool.and_eq_true,decide_eq_true_eq,List.length_map,List.all_eq_true,List.mem_map]
  refine ⟨h6, ?_⟩
  rintro y ⟨v,hv,rfl⟩
  rw [okT_un]
  exact h7 v hv
 have ht:tagB x.1=true:=by rcases h1 with e|e|e|e<;>rw [e]<;>rfl
 have hn:bneq x.2.2.1 (ine (iband .i64 x.1 32) 0)=false:=by rw [h2];rcases h1 with e|e|e|e<;>rw [e]<;>rfl
 simp only [r_f154,r_f154_1x,r_f154_2,ht,hn,hu,Bool.not_true,br_true,br_false]
 cases hq:x.2.2.1 with
 |true=>
  rw [h3 hq]
  rfl
 |false=>
  rw [h4 hq]
  rfl
theorem mr_f154:Meets Tryz.prog 154 (runF g_f154 tc_f154 rv_f154 false):=mG Tryz.func154 (by kernel_rfl) Tryz.ntmps154 (by kernel_rfl) gk_f154 lk_f154
end
theorem ma_der_formed: ∀ N:Nat,Meets Tryz.prog 154 (strip (@sp_f154R ⟨N⟩))
 |0=>meets_zero fun x=>by first|rfl|simp [okT]
 |N+1=>by
  letI:Fuel:=⟨N⟩
  haveI:Nonempty (PLift (Meets Tryz.prog 154 (strip sp_f154R))):=⟨⟨ma_der_formed N⟩⟩
  exact meets_spec mr_f154 fun x hok=>(e_f154 x.1).trans (s_f154 x.1 hok)
def sp_f154:Ent:=spec (.pr tyValT .nil) (fun x=>(frmOk x.1)) (fun x=>(.t .bool (frmV x.1)))
theorem ms_f154:Meets Tryz.prog 154 (strip sp_f154):=meets_fuel ma_der_formed fun x hok=>fuel_der_formed x.1 hok
def dpV (x:ValT):Int:=(depV (Val.of x):Int)
def depLF (n:Nat)(x:ValT):Bool:=okT n x&&decide (n<=100)
def dpOk (x:ValT):Bool:=okT 12 x
theorem fuel_der_depth (x:ValT)(h:dpOk x=true): ∃ N,depLF N x=true:=⟨12,by rw [depLF,show okT 12 x=true from h];rfl⟩
def depL (l:List ValT):Nat:=depVs (l.map Val.of)
theorem depL_nil:depL []=0:=rfl
theorem depL_cons (x:ValT)(l:List ValT):depL (x::l)=max (depV (Val.of x)) (depL l):=rfl
theorem depV_un (x:ValT):depV (Val.of x)=depVs x.2.2.2.1+1:=rfl
theorem imx_nat (a b:Nat):imx (a:Int) (b:Int)=((max a b:Nat):Int):=by
 unfold imx
 split<;>omega
theorem en_f155:Entered Tryz.prog 155:= .inr ⟨by decide,_,Tryz.func155,by kernel_rfl,by kernel_rfl⟩
def sp_f155R [Fuel]:Ent:=spec (.pr tyValT .nil) (fun x=>(depLF fuel x.1)) (fun x=>(.t tI (dpV x.1)))
theorem en_f155R:Entered Tryz.prog 155:=en_f155
section
variable [Fuel][Nonempty (PLift (Meets Tryz.prog 155 (strip sp_f155R)))]
theorem ms_f155R:Meets Tryz.prog 155 (strip sp_f155R):=(Classical.choice (inferInstance:Nonempty (PLift (Meets Tryz.prog 155 (strip sp_f155R))))).down
def depIn [Fuel](l:List ValT):Bool:=decide (l.length<=100000/\fuel+1<=100)&&l.all (okT fuel)
def fg_f155_0:Fg:=⟨[(3,some tI),(7,some (.sl tyValT)),(8,some tI),(9,some tI)],[]⟩
noncomputable def tb_f155_0:TC:=(.sq (.reg (rT Tryz.f155 3)) (.sq (.cd (.t 10) .sk (.fg ⟨[(3,some tI)],[]⟩ (.ex 0))) (.sq (.bk 1 (.sq (.reg (rT Tryz.f155 4)) (.reg (rT Tryz.f155 5)))) (.reg (rT Tryz.f155 6)))))
noncomputable def tc_f155:TC:=(.sq (.reg (rT Tryz.f155 0)) (.sq (.reg (rT Tryz.f155 1)) (.sq (.sq (.reg (rT Tryz.f155 2)) (.bk 0 (.lp 0 fg_f155_0 tb_f155_0))) (.sq (.reg (rT Tryz.f155 7)) .rt))))
def rv_f155:List (RV×Option Ty):=[((.t 2),some tI)]
abbrev sh_f155_0:Sh:=⟨[(3,.ty tI),(7,.ty (.sl tyValT)),(8,.ty tI),(9,.ty tI)],[]⟩
def st_f155_0 (x3:Int)(x7:List ValT)(x8 x9:Int):VS:=sh_f155_0.st (x3,x7,x8,x9,()) ()
abbrev sh_f155_0_e0:Sh:=⟨[(3,.ty tI)],[]⟩
def st_f155_0_e0 (x3:Int):VS:=sh_f155_0_e0.st (x3,()) ()
def L_f155_0:VS->Option (Bool×List (Bool×Exit×VS)):=mkL sh_f155_0 (fun x y=>(rngOk x.2.1 x.2.2.1 x.2.2.2.1&&depIn x.2.1&&decide (0<=x.1/\x.1<=100))) (fun x y=>[(true,.exit 0,st_f155_0_e0 ((max x.1.toNat (depL (x.2.1.drop x.2.2.2.1.toNat)):Nat):Int))])
def g_f155:G:=⟨TYs,[],20,EL [(155,sp_f155R)],keeps,(Ls [L_f155_0]),IL [],RL []⟩
def b_f155_0 (x3:Int)(x7:List ValT)(x8 x9:Int):Option (Exit×VS):=
 let a1:=lgt tyValT x7 (Int.toNat x9)
 br (ilt x9 x8) (br (cIx x7 x9) (br (depLF fuel a1) (some (.normal,st_f155_0 (imx x3 (dpV a1)) x7 x8 (iadd .i64 x9 1))) none) none) (some (.exit 0,st_f155_0_e0 x3))
noncomputable def lp_f155_0 (x3:Int)(x7:List ValT)(x8 x9:Int):Option (Exit×VS):=loopF (roundF g_f155 fg_f155_0 tb_f155_0) (st_f155_0 x3 x7 x8 x9)
noncomputable def n_f155_0 (x3:Int)(x7:List ValT)(x8 x9:Int):Option (Exit×VS):=
 let a1:=lgt tyValT x7 (Int.toNat x9)
 br (ilt x9 x8) (br (cIx x7 x9) (br (depLF fuel a1) (lp_f155_0 (imx x3 (dpV a1)) x7 x8 (iadd .i64 x9 1)) none) none) (some (.exit 0,st_f155_0_e0 x3))
def la_f155_0 (x3:Int)(x7:List ValT)(x8 x9:Int):Option (Exit×VS):=some (.exit 0,st_f155_0_e0 ((max x3.toNat (depL (x7.drop x9.toNat)):Nat):Int))
theorem be_f155_0 (x3:Int)(x7:List ValT)(x8 x9:Int):roundF g_f155 fg_f155_0 tb_f155_0 (st_f155_0 x3 x7 x8 x9)=b_f155_0 x3 x7 x8 x9:=by kernel_rfl
theorem ln_f155_0 (x3:Int)(x7:List ValT)(x8 x9:Int):lp_f155_0 x3 x7 x8 x9=n_f155_0 x3 x7 x8 x9:=(loopF_nxt _ _).trans (by
 rw [be_f155_0]
 simp only [b_f155_0,n_f155_0,nxt_br,nxt_n,nxt_r,nxt_e,nxt_0]
 rfl)
def r_f155 (p0:ValT):Option (V×List VO):=
 let a1:=List.map Val.un p0.2.2.2.1
 br (rngOk a1 (llen a1) (0:Int)&&depIn a1&&decide (0<=(0:Int)/\(0:Int)<=100)) (some (.t tI (iadd .i64 ((max (0:Int).toNat (depL (a1.drop (0:Int).toNat)):Nat):Int) 1),[])) none
theorem e_f155 (p0:ValT):runF g_f155 tc_f155 rv_f155 false [.t tyValT p0] []=r_f155 p0:=by kernel_rfl
theorem gk_f155:GOk Tryz.prog g_f155:=gok_of _ (gA (gC en_f155R ms_f155R gN))
theorem l_f155_0 (x3:Int)(x7:List ValT)(x8 x9:Int)(h:(rngOk x7 x8 x9&&depIn x7&&decide (0<=x3/\x3<=100))=true):lp_f155_0 x3 x7 x8 x9=la_f155_0 x3 x7 x8 x9:=by
 simp only [Bool.and_eq_true,decide_eq_true_eq] at h
 obtain ⟨⟨h0,hc⟩,h1,h2⟩:=h
 obtain ⟨rfl,h3,k,rfl,hk⟩:=rng_k h0
 clear h0
 obtain ⟨m,rfl⟩:=Int.eq_ofNat_of_zero_le h1
 clear h1 h2
 simp only [depIn,Bool.and_eq_true,List.all_eq_true,decide_eq_true_eq] at hc
 obtain ⟨⟨hc0,hc1⟩,hc2⟩:=hc
 revert m
 refine range_ind x7 (fun k=> ∀ m:Nat,lp_f155_0 (m:Int) x7 (x7.length:Int) (k:Int)=la_f155_0 (m:Int) x7 (x7.length:Int) (k:Int)) ?_ ?_ k hk
 ·intro m
  rw [ln_f155_0]
  simp [n_f155_0,la_f155_0,ilt_nat,br_false,depL_nil]
 ·intro k hk ih m
  rw [ln_f155_0]
  have hx:=hc2 x7[k] (List.getElem_mem hk)
  have hd:depLF fuel x7[k]=true:=by rw [depLF,hx,decide_eq_true (by omega)];rfl
  simp only [n_f155_0,ilt_nat,cIx_nat,hk,decide_true,br_true,Int.toNat_natCast,add1 (k:=k),lgt_get (y:=tyValT) hk,hd,dpV,imx_nat,ih]
  simp only [la_f155_0,Int.toNat_natCast,List.drop_eq_getElem_cons hk,depL_cons,Nat.max_assoc]
theorem lo_f155_0: ∀ S l p,g_f155.L 0 (fgt fg_f155_0 S)=some (true,l)->pickA l=some p->loopF (roundF g_f155 fg_f155_0 tb_f155_0) S=some p:=
 lok_of (s:=sh_f155_0) ⟨by decide,by decide⟩ (by kernel_rfl) fun x y hok p hp=>by
 simp only [pickA_br,pickA_one] at hp
 exact (l_f155_0 x.1 x.2.1 x.2.2.1 x.2.2.2.1 (by simpa using hok)).trans hp
theorem lk_f155:tc_f155.lok g_f155:=by
 repeat (first|exact trivial|exact lo_f155_0|refine ⟨?_, ?_⟩)
theorem s_f155 (x:ValT)(h:depLF (fuel+1) x=true):r_f155 x=some (.t tI (dpV x),[]):=by
 simp only [depLF,Bool.and_eq_true,decide_eq_true_eq] at h
 obtain ⟨h,hf⟩:=h
 obtain ⟨h1,h2,h3,h4,h5,h6,h7⟩:=okT_succ h
 have hu:depIn (List.map Val.un x.2.2.2.1)=true:=by
  simp only [depIn,Bool.and_eq_true,decide_eq_true_eq,List.length_map,List.all_eq_true,List.mem_map]
  refine ⟨⟨h6,hf⟩, ?_⟩
  rintro y ⟨v,hv,rfl⟩
  rw [okT_un]
  exact h7 v hv
 have hd:=okV_dep (v:=Val.of x) h
 rw [depV_un] at hd
 simp only [r_f155,rng_0 (show (List.map Val.un x.2.2.2.1).length<=100000 by rw [List.length_map];exact h6),hu,Bool.and_self,show decide ((0:Int)<=0/\(0:Int)<=100)=true from rfl,br_true,Int.toNat_zero,List.drop_zero,depL,map_of_un,Nat.zero_max]
 rw [iadd_in (by omega)]
 simp only [dpV,depV_un]
 congr 2
theorem mr_f155:Meets Tryz.prog 155 (runF g_f155 tc_f155 rv_f155 false):=mG Tryz.func155 (by kernel_rfl) Tryz.ntmps155 (by kernel_rfl) gk_f155 lk_f155
end
theorem ma_der_depth: ∀ N:Nat,Meets Tryz.prog 155 (strip (@sp_f155R ⟨N⟩))
 |0=>meets_zero fun x=>by first|rfl|simp [depLF]
 |N+1=>by
  letI:Fuel:=⟨N⟩
  haveI:Nonempty (PLift (Meets Tryz.prog 155 (strip sp_f155R))):=⟨⟨ma_der_depth N⟩⟩
  exact meets_spec mr_f155 fun x hok=>(e_f155 x.1).trans (s_f155 x.1 hok)
def sp_f155:Ent:=spec (.pr tyValT .nil) (fun x=>(dpOk x.1)) (fun x=>(.t tI (dpV x.1)))
theorem ms_f155:Meets Tryz.prog 155 (strip sp_f155):=meets_fuel ma_der_depth fun x hok=>fuel_der_depth x.1 hok
end
end Go.Proofs.YticnbacafmeiiaaGreatDoor.K
set_option linter.unusedSectionVars false
namespace Go.Proofs.YticnbacafmeiiaaGreatDoor.K
open Go.RowKit
noncomputable section
def encT (x:ValT):List Int:=encV (Val.of x)
def encL (l:List ValT):List Int:=encVs (l.map Val.of)
theorem encL_nil:encL []=[]:=rfl
theorem encL_cons (x:ValT)(l:List ValT):encL (x::l)=encT x++encL l:=rfl
theorem encT_eq (x:ValT):encT x=icv .u8 x.1::(lenL (x.2.1.length+(encVs x.2.2.2.1).length)++(x.2.1++encVs x.2.2.2.1)):=rfl
theorem encT_le (x:ValT):x.2.1.length+(encVs x.2.2.2.1).length<=(encT x).length:=encV_len x.1 x.2.1 x.2.2.1 x.2.2.2.1
theorem encL_split: ∀ (l:List ValT) (k:Nat) (hk:k<l.length),(encL (l.take k)).length+(encT l[k]).length<=(encL l).length
 | [],k,hk=>by simp at hk
 |x::l,0,_=>by
  rw [List.take_zero,encL_nil,encL_cons,List.length_append]
  simp
 |x::l,k+1,hk=>by
  simp only [List.length_cons] at hk
  have:=encL_split l k (by omega)
  simp only [List.take_succ_cons,encL_cons,List.length_append,List.getElem_cons_succ]
  omega
theorem lenL_len (n:Nat):(lenL n).length<=9:=by
 unfold lenL
 split
 ·simp
 ·rw [List.length_cons,digL_len]
  have:=cntL_le 8 n
  omega
def encLF (n:Nat)(x:ValT):Bool:=okT n x&&decide ((encT x).length<=100000000)
def encOk (x:ValT):Bool:=okT 12 x&&decide ((encT x).length<=100000000)
def encE (x:ValT):List Int×Int:=if 4096<(encT x).length then ([],3) else (encT x,0)
theorem encOk_dp {x:ValT}(h:okT 12 x=true):igt (dpV x) 16=false:=by
 have:=okV_dep (v:=Val.of x) h
 exact decide_eq_false (by show ¬ ((depV (Val.of x):Int) > 16);omega)
def conV (x:ValT):List Int:=x.2.1++encVs x.2.2.2.1
theorem conV_len (x:ValT):(conV x).length=x.2.1.length+(encVs x.2.2.2.1).length:=List.length_append
theorem fuel_der_contents (x:ValT)(h:encOk x=true): ∃ N,encLF N x=true:=⟨12,h⟩
def eleV (b:List Int)(x:ValT):List Int:=b++encT x
theorem ele_eq (b:List Int)(x:ValT):lenA (b++[icv .u8 x.1]) (llen (conV x))++conV x=eleV b x:=by
 simp only [lenA,eleV,encT_eq,llen,Int.toNat_natCast,conV,List.length_append,List.append_assoc,List.singleton_append,List.cons_append,List.nil_append]
theorem en_f224:Entered Tryz.prog 224:= .inr ⟨by decide,_,Tryz.func224,by kernel_rfl,by kernel_rfl⟩
def sp_f224R [Fuel]:Ent:=spec (.pr tyValT .nil) (fun x=>(encLF fuel x.1)) (fun x=>(.t (.sl (.int .u8)) (conV x.1)))
theorem en_f224R:Entered Tryz.prog 224:=en_f224
section
variable [Fuel][Nonempty (PLift (Meets Tryz.prog 224 (strip sp_f224R)))]
theorem ms_f224R:Meets Tryz.prog 224 (strip sp_f224R):=(Classical.choice (inferInstance:Nonempty (PLift (Meets Tryz.prog 224 (strip sp_f224R))))).down
def eleQOk [Fuel](b:List Int)(x:ValT):Bool:=decide (b.length<=500000000)&&encLF fuel x
noncomputable def tc_f156Q:TC:=(.ad [(50000,49000)] (.sq (.reg (rT Tryz.f156 0)) (.sq (.reg (rT Tryz.f156 1)) (.sq (.reg (rT Tryz.f156 2)) .rt))))
def rv_f156Q:List (RV×Option Ty):=[((.t 4),none)]
def g_f156Q:G:=⟨TYs,[],19,EL [(224,sp_f224R),(225,sp_f225)],(225::keeps),(fun _ _=>none),IL [],RL []⟩
def r_f156Q (p0:List Int)(p1:ValT):Option (V×List VO):=
 let a1:=lenA (p0++([(icv .u8 p1.1)])) (llen (conV p1))
 br (encLF fuel p1) (br (cApp p0 ([(icv .u8 p1.1)]) 1) (br (lenAOk (p0++([(icv .u8 p1.1)])) (llen (conV p1))) (br (cApp a1 (conV p1) 1) (some (.ms 50001,[.no,.arr 5 (.int .u8) (a1++(conV p1))])) none) none) none) none
theorem e_f156Q (p0:List Int)(p1:ValT):runF g_f156Q tc_f156Q rv_f156Q true [.ms 50000,.t tyValT p1] [.arr 5 (.int .u8) p0]=r_f156Q p0 p1:=by kernel_rfl
theorem en_f156Q:Entered Tryz.prog 156:= .inr ⟨by decide,_,Tryz.func156,by kernel_rfl,by kernel_rfl⟩
theorem gk_f156Q:GOk Tryz.prog g_f156Q:=gok_of _ (gA (gC en_f224R ms_f224R (gC en_f225 ms_f225 gN)))
theorem lk_f156Q:tc_f156Q.lok g_f156Q:=by repeat (first|exact trivial|refine ⟨?_, ?_⟩)
theorem s_f156Q (b:List Int)(x:ValT)(h:eleQOk b x=true):r_f156Q b x=some (.ms 50001,[.no,.arr 5 (.int .u8) (eleV b x)]):=by
 simp only [eleQOk,Bool.and_eq_true,decide_eq_true_eq] at h
 obtain ⟨h1,h2⟩:=h
 have h3:=h2
 simp only [encLF,Bool.and_eq_true,decide_eq_true_eq] at h3
 have hel:=encT_le x
 have hcl:=conV_len x
 have hll:=lenL_len (conV x).length
 simp only [r_f156Q,h2,br_true]
 rw [cAppN (by omega) (by simp only [List.length_singleton];omega),br_true,show lenAOk (b++[icv .u8 x.1]) (llen (conV x))=true from decide_eq_true (by simp only [llen,List.length_append,List.length_singleton];omega),br_true,cAppN (by omega) (by simp only [lenA,llen,Int.toNat_natCast,List.length_append,List.length_singleton];omega),br_true,ele_eq]
def sp_f156Q:Ent:=specS [.ms 50000,.ty tyValT] [.arr 5 (.int .u8)] (fun x y=>(eleQOk y.1 x.2.1)) (fun x y=>(.ms 50001)) (fun x y=>[.no,.arr 5 (.int .u8) (eleV y.1 x.2.1)])
theorem ms_f156Q:Meets Tryz.prog 156 (strip sp_f156Q):=meets_specS (R:=runF g_f156Q tc_f156Q rv_f156Q true) (mG Tryz.func156 (by kernel_rfl) Tryz.ntmps156 (by kernel_rfl) gk_f156Q lk_f156Q) fun x y hok=>(e_f156Q y.1 x.2.1).trans (s_f156Q y.1 x.2.1 hok)
def conIn [Fuel](l:List ValT):Bool:=decide (l.length<=100000/\(encL l).length<=100000000)&&l.all (okT fuel)
def fg_f224_0:Fg:=⟨[(3,none),(12,some (.sl tyValT)),(13,some tI),(14,some tI)],[(3,none),(20,none),(5020,none),(10020,none),(15020,none)]⟩
noncomputable def tb_f224_0:TC:=(.mv [(20,3)] (.sq (.reg (rT Tryz.f224 5)) (.sq (.cd (.t 15) .sk (.fg ⟨[(3,none)],[(3,none),(20,none),(5020,none),(10020,none),(15020,none)]⟩ (.ex 0))) (.sq (.bk 1 (.sq (.reg (rT Tryz.f224 6)) (.reg (rT Tryz.f224 7)))) (.reg (rT Tryz.f224 8))))))
noncomputable def tc_f224:TC:=(.sq (.reg (rT Tryz.f224 0)) (.sq (.sq (.reg (rT Tryz.f224 1)) (.cd (.t 8) (.sq (.reg (rT Tryz.f224 2)) .rt) .sk)) (.sq (.reg (rT Tryz.f224 3)) (.sq (.sq (.reg (rT Tryz.f224 4)) (.bk 0 (.nw 3 5 (.lp 0 fg_f224_0 tb_f224_0)))) (.sq (.reg (rT Tryz.f224 9)) .rt)))))
def rv_f224:List (RV×Option Ty):=[((.t 2),some (.sl (.int .u8)))]
abbrev sh_f224_0:Sh:=⟨[(3,.ms 3),(12,.ty (.sl tyValT)),(13,.ty tI),(14,.ty tI)],[(3,.arr 5 (.int .u8)),(20,.no),(5020,.no),(10020,.no),(15020,.no)]⟩
def st_f224_0 (x12:List ValT)(x13 x14:Int)(y3:List Int):VS:=sh_f224_0.st ((),x12,x13,x14,()) (y3,(),(),(),(),())
abbrev sh_f224_0_e0:Sh:=⟨[(3,.ms 3)],[(3,.arr 5 (.int .u8)),(20,.no),(5020,.no),(10020,.no),(15020,.no)]⟩
def st_f224_0_e0 (y3:List Int):VS:=sh_f224_0_e0.st ((),()) (y3,(),(),(),(),())
def L_f224_0:VS->Option (Bool×List (Bool×Exit×VS)):=mkL sh_f224_0 (fun x y=>(rngOk x.2.1 x.2.2.1 x.2.2.2.1&&conIn x.2.1&&decide (y.1.length+(encL (x.2.1.drop x.2.2.2.1.toNat)).length<=200000000))) (fun x y=>[(true,.exit 0,st_f224_0_e0 (y.1++encL (x.2.1.drop x.2.2.2.1.toNat)))])
def g_f224:G:=⟨TYs,[],23,EL [(156,sp_f156Q)],(156::keeps),(Ls [L_f224_0]),IL [],RL []⟩
def b_f224_0 (x12:List ValT)(x13 x14:Int)(y3:List Int):Option (Exit×VS):=
 let a1:=lgt tyValT x12 (Int.toNat x14)
 br (ilt x14 x13) (br (cIx x12 x14) (br (eleQOk y3 a1) (some (.normal,st_f224_0 x12 x13 (iadd .i64 x14 1) (eleV y3 a1))) none) none) (some (.exit 0,st_f224_0_e0 y3))
noncomputable def lp_f224_0 (x12:List ValT)(x13 x14:Int)(y3:List Int):Option (Exit×VS):=loopF (roundF g_f224 fg_f224_0 tb_f224_0) (st_f224_0 x12 x13 x14 y3)
noncomputable def n_f224_0 (x12:List ValT)(x13 x14:Int)(y3:List Int):Option (Exit×VS):=
 let a1:=lgt tyValT x12 (Int.toNat x14)
 br (ilt x14 x13) (br (cIx x12 x14) (br (eleQOk y3 a1) (lp_f224_0 x12 x13 (iadd .i64 x14 1) (eleV y3 a1)) none) none) (some (.exit 0,st_f224_0_e0 y3))
def la_f224_0 (x12:List ValT)(x13 x14:Int)(y3:List Int):Option (Exit×VS):=some (.exit 0,st_f224_0_e0 (y3++encL (x12.drop x14.toNat)))
theorem be_f224_0 (x12:List ValT)(x13 x14:Int)(y3:List Int):roundF g_f224 fg_f224_0 tb_f224_0 (st_f224_0 x12 x13 x14 y3)=b_f224_0 x12 x13 x14 y3:=by kernel_rfl
theorem ln_f224_0 (x12:List ValT)(x13 x14:Int)(y3:List Int):lp_f224_0 x12 x13 x14 y3=n_f224_0 x12 x13 x14 y3:=(loopF_nxt _ _).trans (by
 rw [be_f224_0]
 simp only [b_f224_0,n_f224_0,nxt_br,nxt_n,nxt_r,nxt_e,nxt_0]
 rfl)
def r_f224 (p0:ValT):Option (V×List VO):=
 let a1:=List.map Val.un p0.2.2.2.1
 let a2:=(a1.drop (0:Int).toNat)
 br (!p0.2.2.1) (some (.t (.sl (.int .u8)) p0.2.1,[])) (br (rngOk a1 (llen a1) (0:Int)&&conIn a1&&decide (([]:List Int).length+(encL a2).length<=200000000)) (some (.t (.sl (.int .u8)) (([]:List Int)++encL a2),[])) none)
theorem e_f224 (p0:ValT):runF g_f224 tc_f224 rv_f224 false [.t tyValT p0] []=r_f224 p0:=by kernel_rfl
theorem gk_f224:GOk Tryz.prog g_f224:=gok_of _ (gA (gC en_f156Q ms_f156Q gN))
theorem l_f224_0 (x12:List ValT)(x13 x14:Int)(y3:List Int)(h:(rngOk x12 x13 x14&&conIn x12&&decide (y3.length+(encL (x12.drop x14.toNat)).length<=200000000))=true):lp_f224_0 x12 x13 x14 y3=la_f224_0 x12 x13 x14 y3:=by
 simp only [Bool.and_eq_true,decide_eq_true_eq] at h
 obtain ⟨⟨h0,hc⟩,h2⟩:=h
 obtain ⟨rfl,h3,k,rfl,hk⟩:=rng_k h0
 clear h0
 rw [Int.toNat_natCast] at h2
 simp only [conIn,Bool.and_eq_true,List.all_eq_true,decide_eq_true_eq] at hc
 obtain ⟨⟨hc0,hc1⟩,hc2⟩:=hc
 revert y3
 refine range_ind x12 (fun k=> ∀ y3:List Int,y3.length+(encL (x12.drop k)).length<=200000000->lp_f224_0 x12 (x12.length:Int) (k:Int) y3=la_f224_0 x12 (x12.length:Int) (k:Int) y3) ?_ ?_ k hk
 ·intro y3 _
  rw [ln_f224_0]
  simp only [n_f224_0,ilt_nat,Nat.lt_irrefl,decide_false,br_false]
  simp only [la_f224_0,Int.toNat_natCast,List.drop_length,encL_nil,List.append_nil]
 ·intro k hk ih y3 hy
  rw [ln_f224_0]
  have hx:=hc2 x12[k] (List.getElem_mem hk)
  have hs:=encL_split x12 k hk
  rw [List.drop_eq_getElem_cons hk,encL_cons,List.length_append] at hy
  have hd:eleQOk y3 x12[k]=true:=by rw [eleQOk,encLF,hx,decide_eq_true (show y3.length<=500000000 by omega),decide_eq_true (show (encT x12[k]).length<=100000000 by omega)];rfl
  simp only [n_f224_0,ilt_nat,cIx_nat,hk,decide_true,br_true,Int.toNat_natCast,add1 (k:=k),lgt_get (y:=tyValT) hk,hd,eleV]
  rw [ih _ (by rw [List.length_append];omega)]
  simp only [la_f224_0,Int.toNat_natCast,List.drop_eq_getElem_cons hk,encL_cons,List.append_assoc]
theorem lo_f224_0: ∀ S l p,g_f224.L 0 (fgt fg_f224_0 S)=some (true,l)->pickA l=some p->loopF (roundF g_f224 fg_f224_0 tb_f224_0) S=some p:=
 lok_of (s:=sh_f224_0) ⟨by decide,by decide⟩ (by kernel_rfl) fun x y hok p hp=>by
 simp only [pickA_br,pickA_one] at hp
 exact (l_f224_0 x.2.1 x.2.2.1 x.2.2.2.1 y.1 (by simpa using hok)).trans hp
theorem lk_f224:tc_f224.lok g_f224:=by
 repeat (first|exact trivial|exact lo_f224_0|refine ⟨?_, ?_⟩)
theorem s_f224 (x:ValT)(h:encLF (fuel+1) x=true):r_f224 x=some (.t (.sl (.int .u8)) (conV x),[]):=by
 simp only [encLF,Bool.and_eq_true,decide_eq_true_eq] at h
 obtain ⟨h,hf⟩:=h
 obtain ⟨h1,h2,h3,h4,h5,h6,h7⟩:=okT_succ h
 have hel:=encT_le x
 have hE:encL (List.map Val.un x.2.2.2.1)=encVs x.2.2.2.1:=by rw [encL,map_of_un]
 have hu:conIn (List.map Val.un x.2.2.2.1)=true:=by
  simp only [conIn,Bool.and_eq_true,decide_eq_true_eq,List.length_map,List.all_eq_true,List.mem_map,hE]
  refine ⟨⟨h6,by omega⟩, ?_⟩
  rintro y ⟨v,hv,rfl⟩
  rw [okT_un]
  exact h7 v hv
 simp only [r_f224,rng_0 (show (List.map Val.un x.2.2.2.1).length<=100000 by rw [List.length_map];exact h6),hu,Bool.and_self,Bool.true_and,Int.toNat_zero,List.drop_zero,hE,List.nil_append,List.length_nil]
 cases hq:x.2.2.1 with
 |true=>
  rw [Bool.not_true,br_false,decide_eq_true (by omega),br_true]
  simp only [conV,h3 hq,List.nil_append]
 |false=>
  rw [Bool.not_false,br_true]
  simp only [conV,h4 hq,encVs,List.append_nil]
theorem mr_f224:Meets Tryz.prog 224 (runF g_f224 tc_f224 rv_f224 false):=mG Tryz.func224 (by kernel_rfl) Tryz.ntmps224 (by kernel_rfl) gk_f224 lk_f224
end
theorem ma_der_contents: ∀ N:Nat,Meets Tryz.prog 224 (strip (@sp_f224R ⟨N⟩))
 |0=>meets_zero fun x=>by first|rfl|simp [encLF]
 |N+1=>by
  letI:Fuel:=⟨N⟩
  haveI:Nonempty (PLift (Meets Tryz.prog 224 (strip sp_f224R))):=⟨⟨ma_der_contents N⟩⟩
  exact meets_spec mr_f224 fun x hok=>(e_f224 x.1).trans (s_f224 x.1 hok)
def sp_f224:Ent:=spec (.pr tyValT .nil) (fun x=>(encOk x.1)) (fun x=>(.t (.sl (.int .u8)) (conV x.1)))
theorem ms_f224:Meets Tryz.prog 224 (strip sp_f224):=meets_fuel ma_der_contents fun x hok=>fuel_der_contents x.1 hok
def eleN (x:ValT):List Int:=encT x
noncomputable def tc_f156N:TC:=(.sq (.reg (rT Tryz.f156 0)) (.sq (.reg (rT Tryz.f156 1)) (.sq (.reg (rT Tryz.f156 2)) .rt)))
def rv_f156N:List (RV×Option Ty):=[((.t 4),none)]
def g_f156N:G:=⟨TYs,[],19,EL [(224,sp_f224),(225,sp_f225)],(225::keeps),(fun _ _=>none),IL [],RL []⟩
def r_f156N (p1:ValT):Option (V×List VO):=
 let a1:=(lenA (([]:List Int)++([(icv .u8 p1.1)])) (llen (conV p1)))
 br (encOk p1) (br (cApp ([]:List Int) ([(icv .u8 p1.1)]) 1) (br (lenAOk (([]:List Int)++([(icv .u8 p1.1)])) (llen (conV p1))) (br (cApp a1 (conV p1) 1) (some (.ms 50000,[.arr 5 (.int .u8) (a1++(conV p1))])) none) none) none) none
theorem e_f156N (p1:ValT):runF g_f156N tc_f156N rv_f156N true [.c (.slice none 0 0),.t tyValT p1] []=r_f156N p1:=by kernel_rfl
theorem en_f156N:Entered Tryz.prog 156:= .inr ⟨by decide,_,Tryz.func156,by kernel_rfl,by kernel_rfl⟩
theorem gk_f156N:GOk Tryz.prog g_f156N:=gok_of _ (gA (gC en_f224 ms_f224 (gC en_f225 ms_f225 gN)))
theorem lk_f156N:tc_f156N.lok g_f156N:=by repeat (first|exact trivial|refine ⟨?_, ?_⟩)
theorem s_f156N (x:ValT)(h:encOk x=true):r_f156N x=some (.ms 50000,[.arr 5 (.int .u8) (eleN x)]):=by
 have h3:=h
 simp only [encOk,Bool.and_eq_true,decide_eq_true_eq] at h3
 have hel:=encT_le x
 have hcl:=conV_len x
 have hll:=lenL_len (conV x).length
 simp only [r_f156N,h,br_true]
 rw [cAppN (by omega) (by simp),br_true,show lenAOk ([]++[icv .u8 x.1]) (llen (conV x))=true from decide_eq_true (by simp only [llen,List.length_append,List.length_singleton,List.length_nil];omega),br_true,cAppN (by omega) (by simp only [lenA,llen,Int.toNat_natCast,List.length_append,List.length_singleton,List.length_nil];omega),br_true,ele_eq]
 rfl
def sp_f156N:Ent:=specB [.nl,.ty tyValT] [] (fun x y=>(encOk x.2.1)) (fun x y=>(.ms 50000)) (fun x y=>[.arr 5 (.int .u8) (eleN x.2.1)])
theorem ms_f156N:Meets Tryz.prog 156 (strip sp_f156N):=meets_B (meets_specS (R:=runF g_f156N tc_f156N rv_f156N true) (mG Tryz.func156 (by kernel_rfl) Tryz.ntmps156 (by kernel_rfl) gk_f156N lk_f156N) fun x y hok=>(e_f156N x.2.1).trans (s_f156N x.2.1 hok))
noncomputable def tc_f87:TC:=(.sq (.reg (rT Tryz.f87 0)) (.sq (.sq (.reg (rT Tryz.f87 1)) (.cd (.t 7) (.sq (.reg (rT Tryz.f87 2)) .rt) .sk)) (.sq (.sq (.reg (rT Tryz.f87 3)) (.cd (.t 10) (.sq (.reg (rT Tryz.f87 4)) .rt) .sk)) (.sq (.reg (rT Tryz.f87 5)) (.sq (.sq (.reg (rT Tryz.f87 6)) (.cd (.t 15) (.sq (.reg (rT Tryz.f87 7)) .rt) .sk)) (.sq (.reg (rT Tryz.f87 8)) .rt))))))
def rv_f87:List (RV×Option Ty):=[((.t 2),some (.sl (.int .u8))),((.t 3),some tI)]
def g_f87:G:=⟨TYs,[],17,EL [(154,sp_f154),(155,sp_f155),(156,sp_f156N)],keeps,(fun _ _=>none),IL [],RL []⟩
def r_f87 (p0:ValT):Option (V×List VO):=br (frmOk p0) (br (!(frmV p0)) (some (.tu [(.t (.sl (.int .u8)) ([]:List Int)),(.t tI 1)],[])) (br (dpOk p0) (br (igt (dpV p0) 16) (some (.tu [(.t (.sl (.int .u8)) ([]:List Int)),(.t tI 3)],[])) (br (encOk p0) (br (igt (llen (eleN p0)) 4096) (some (.tu [(.t (.sl (.int .u8)) ([]:List Int)),(.t tI 3)],[])) (some (.tu [(.t (.sl (.int .u8)) (eleN p0)),(.t tI 0)],[]))) none)) none)) none
theorem e_f87 (p0:ValT):runF g_f87 tc_f87 rv_f87 false [.t tyValT p0] []=r_f87 p0:=by kernel_rfl
theorem en_f87:Entered Tryz.prog 87:= .inr ⟨by decide,_,Tryz.func87,by kernel_rfl,by kernel_rfl⟩
theorem gk_f87:GOk Tryz.prog g_f87:=gok_of _ (gA (gC en_f154 ms_f154 (gC en_f155 ms_f155 (gC en_f156N ms_f156N gN))))
theorem lk_f87:tc_f87.lok g_f87:=by repeat (first|exact trivial|refine ⟨?_, ?_⟩)
theorem s_f87 (x:ValT)(h:encOk x=true):r_f87 x=some (.tu [.t (.sl (.int .u8)) (encE x).1,.t tI (encE x).2],[]):=by
 have h':=h
 simp only [encOk,Bool.and_eq_true,decide_eq_true_eq] at h'
 obtain ⟨h1,h2⟩:=h'
 simp only [r_f87,show frmOk x=true from h1,show dpOk x=true from h1,h,encOk_dp h1,frmV,eleN,Bool.not_true,br_true,br_false]
 unfold encE
 refine br_intro (fun g=> ?_) (fun g=> ?_)
 ·simp only [igt,llen,decide_eq_true_eq] at g
  rw [if_pos (by omega)]
 ·simp only [igt,llen,decide_eq_false_iff_not] at g
  rw [if_neg (by omega)]
def sp_f87:Ent:=spec (.pr tyValT .nil) (fun x=>(encOk x.1)) (fun x=>(.tu [(.t (.sl (.int .u8)) ((encE x.1).1)),(.t tI ((encE x.1).2))]))
theorem ms_f87:Meets Tryz.prog 87 (strip sp_f87):=meets_spec (R:=runF g_f87 tc_f87 rv_f87 false) (mG Tryz.func87 (by kernel_rfl) Tryz.ntmps87 (by kernel_rfl) gk_f87 lk_f87) fun x hok=>(e_f87 x.1).trans (s_f87 x.1 hok)
def lstT (l:List ValT):ValT:=(48,(([]:List Int),(true,(List.map Val.of l,()))))
noncomputable def tc_f88:TC:=(.sq (.reg (rT Tryz.f88 0)) (.sq (.reg (rT Tryz.f88 1)) .rt))
def rv_f88:List (RV×Option Ty):=[((.c 2 true 4),some tyValT)]
def g_f88:G:=⟨TYs,[],6,EL [(157,sp_f157)],keeps,(fun _ _=>none),IL [],RL []⟩
def r_f88 (p0:List ValT):Option (V×List VO):=br (copOk p0) (some (.t tyValT (48,(([]:List Int),(true,((List.map Val.of (copV p0)),())))),[])) none
theorem e_f88 (p0:List ValT):runF g_f88 tc_f88 rv_f88 false [.t (.sl tyValT) p0] []=r_f88 p0:=by kernel_rfl
theorem en_f88:Entered Tryz.prog 88:= .inr ⟨by decide,_,Tryz.func88,by kernel_rfl,by kernel_rfl⟩
theorem gk_f88:GOk Tryz.prog g_f88:=gok_of _ (gA (gC en_f157 ms_f157 gN))
theorem lk_f88:tc_f88.lok g_f88:=by repeat (first|exact trivial|refine ⟨?_, ?_⟩)
theorem s_f88 (l:List ValT)(h:copOk l=true):r_f88 l=some (.t tyValT (lstT l),[]):=by
 simp only [r_f88,h,br_true]
 rfl
def sp_f88:Ent:=spec (.pr (.sl tyValT) .nil) (fun x=>(copOk x.1)) (fun x=>(.t tyValT (lstT x.1)))
theorem ms_f88:Meets Tryz.prog 88 (strip sp_f88):=meets_spec (R:=runF g_f88 tc_f88 rv_f88 false) (mG Tryz.func88 (by kernel_rfl) Tryz.ntmps88 (by kernel_rfl) gk_f88 lk_f88) fun x hok=>(e_f88 x.1).trans (s_f88 x.1 hok)
end
end Go.Proofs.YticnbacafmeiiaaGreatDoor.K
namespace Go.Proofs.YticnbacafmeiiaaGreatDoor.K
open Go.RowKit
noncomputable section
def useP (a b:Int):Keep:=(a,(b,()))
noncomputable def tc_f239:TC:=(.sq (.reg (rT Tryz.f239 0)) (.sq (.reg (rT Tryz.f239 1)) .rt))
def rv_f239:List (RV×Option Ty):=[((.c 4 true 2),some tyKeep)]
def g_f239:G:=⟨TYs,[],8,EL [],keeps,(fun _ _=>none),IL [],RL []⟩
def r_f239 (p0 p1:Int):Option (V×List VO):=some (.t tyKeep (p0,(p1,())),[])
theorem e_f239 (p0 p1:Int):runF g_f239 tc_f239 rv_f239 false [.t tI p0,.t tI p1] []=r_f239 p0 p1:=by kernel_rfl
theorem en_f239:Entered Tryz.prog 239:= .inr ⟨by decide,_,Tryz.func239,by kernel_rfl,by kernel_rfl⟩
theorem gk_f239:GOk Tryz.prog g_f239:=gok_of _ (fun p hp=>by cases hp)
theorem lk_f239:tc_f239.lok g_f239:=by repeat (first|exact trivial|refine ⟨?_, ?_⟩)
theorem s_f239 (a b:Int):r_f239 a b=some (.t tyKeep (useP a b),[]):=rfl
def sp_f239:Ent:=spec (.pr tI (.pr tI .nil)) (fun x=>true) (fun x=>(.t tyKeep (useP x.1 x.2.1)))
theorem ms_f239:Meets Tryz.prog 239 (strip sp_f239):=meets_spec (R:=runF g_f239 tc_f239 rv_f239 false) (mG Tryz.func239 (by kernel_rfl) Tryz.ntmps239 (by kernel_rfl) gk_f239 lk_f239) fun x _=>(e_f239 x.1 x.2.1).trans (s_f239 x.1 x.2.1)
def suitesF:List Suite:=[(1,((ByteArray.mk #[114,115,97,45,114,99,52,45,109,100,53]),((10,(0,())),((5,(0,())),((14,(128,())),((19,(0,())),(1,(2,())))))))),(2,((ByteArray.mk #[114,115,97,45,114,99,52,45,115,104,97]),((10,(0,())),((5,(0,())),((14,(128,())),((20,(0,())),(1,(3,())))))))),(3,((ByteArray.mk #[114,115,97,45,100,101,115,51,45,115,104,97]),((10,(0,())),((5,(0,())),((15,(168,())),((20,(0,())),(1,(3,())))))))),(4,((ByteArray.mk #[100,104,101,45,100,115,97,45,100,101,115,51,45,115,104,97]),((11,(1024,())),((6,(0,())),((15,(168,())),((20,(0,())),(1,(3,())))))))),(5,((ByteArray.mk #[100,104,101,45,114,115,97,45,100,101,115,51,45,115,104,97]),((11,(1024,())),((5,(0,())),((15,(168,())),((20,(0,())),(1,(3,())))))))),(6,((ByteArray.mk #[114,115,97,45,97,101,115,49,50,56,45,115,104,97]),((10,(0,())),((5,(0,())),((16,(128,())),((20,(0,())),(1,(3,())))))))),(7,((ByteArray.mk #[100,104,101,45,114,115,97,45,97,101,115,49,50,56,45,115,104,97]),((11,(2048,())),((5,(0,())),((16,(128,())),((20,(0,())),(1,(3,())))))))),(8,((ByteArray.mk #[101,99,100,104,101,45,114,115,97,45,97,101,115,49,50,56,45,115,104,97]),((12,(256,())),((5,(0,())),((16,(128,())),((20,(0,())),(1,(3,())))))))),(9,((ByteArray.mk #[101,99,100,104,101,45,101,99,100,115,97,45,97,101,115,50,53,54,45,115,104,97,50,53,54]),((12,(256,())),((7,(0,())),((16,(256,())),((21,(0,())),(3,(3,())))))))),(10,((ByteArray.mk #[101,99,100,104,101,45,114,115,97,45,97,101,115,49,50,56,45,103,99,109]),((12,(256,())),((5,(0,())),((17,(128,())),((22,(0,())),(3,(3,())))))))),(11,((ByteArray.mk #[101,99,100,104,101,45,101,99,100,115,97,45,97,101,115,50,53,54,45,103,99,109]),((12,(384,())),((7,(0,())),((17,(256,())),((22,(0,())),(3,(3,())))))))),(12,((ByteArray.mk #[101,99,100,104,101,45,114,115,97,45,99,104,97,99,104,97]),((12,(256,())),((5,(0,())),((18,(0,())),((22,(0,())),(3,(3,())))))))),(13,((ByteArray.mk #[114,115,97,45,97,101,115,50,53,54,45,103,99,109]),((10,(0,())),((5,(0,())),((17,(256,())),((22,(0,())),(3,(3,())))))))),(14,((ByteArray.mk #[97,101,115,49,50,56,45,103,99,109]),((12,(256,())),((0,(0,())),((17,(128,())),((22,(0,())),(4,(4,())))))))),(15,((ByteArray.mk #[99,104,97,99,104,97]),((12,(256,())),((0,(0,())),((18,(0,())),((22,(0,())),(4,(4,())))))))),(16,((ByteArray.mk #[109,108,107,101,109,45,97,101,115,50,53,54,45,103,99,109]),((13,(768,())),((0,(0,())),((17,(256,())),((22,(0,())),(4,(4,()))))))))]
abbrev zSuite:Suite:=Ty.zero tySuite
def codeL (k:Nat)(l:List Suite):List Suite:=(List.range' k (16-k)).foldl (fun l i=>l.set i (((i+1:Nat):Int),(l.getD i zSuite).2)) l
noncomputable def dr_f177_0:List DO:=dT Tryz.f177 4
def fg_f177_0:Fg:=⟨[(15,none),(113,some tI),(114,some tI)],[(111,none)]⟩
noncomputable def tb_f177_0:TC:=(.sq (.reg (rT Tryz.f177 6)) (.sq (.cd (.t 115) .sk (.fg ⟨[(15,none)],[(111,none)]⟩ (.ex 0))) (.sq (.bk 1 (.sq (.reg (rT Tryz.f177 7)) (.reg (rT Tryz.f177 8)))) (.reg (rT Tryz.f177 9)))))
noncomputable def tc_f177:TC:=(.sq (.reg (rT Tryz.f177 0)) (.sq (.reg (rT Tryz.f177 1)) (.sq (.reg (rT Tryz.f177 2)) (.sq (.reg (rT Tryz.f177 3)) (.sq (.dr dr_f177_0 [(0,[1]),(1,[2]),(2,[]),(3,[11]),(4,[]),(5,[1]),(6,[2]),(7,[]),(8,[12]),(9,[]),(10,[1]),(11,[2]),(12,[6]),(13,[12]),(14,[]),(15,[]),(16,[3]),(17,[6]),(18,[12]),(19,[]),(20,[]),(21,[2]),(22,[6]),(23,[12]),(24,[]),(25,[1]),(26,[2]),(27,[7]),(28,[12]),(29,[]),(30,[]),(31,[2]),(32,[7]),(33,[12]),(34,[]),(35,[14]),(36,[2]),(37,[7]),(38,[12]),(39,[]),(40,[14]),(41,[4]),(42,[]),(43,[]),(44,[]),(45,[14]),(46,[2]),(47,[8]),(48,[13]),(49,[]),(50,[]),(51,[4]),(52,[9]),(53,[13]),(54,[]),(55,[14]),(56,[2]),(57,[10]),(58,[13]),(59,[]),(60,[1]),(61,[2]),(62,[9]),(63,[13]),(64,[]),(65,[14]),(66,[5]),(67,[8]),(68,[13]),(69,[]),(70,[14]),(71,[5]),(72,[10]),(73,[13]),(74,[]),(75,[]),(76,[5]),(77,[9]),(78,[13]),(79,[]),(80,[111,5111,10111,15111]),(81,[111])] (.of [0,1,2,3,4,5,6,7,8,9,10,11,12,13,14,15,16,17,18,19,20,21,22,23,24,25,26,27,28,29,30,31,32,33,34,35,36,37,38,39,40,41,42,43,44,45,46,47,48,49,50,51,52,53,54,55,56,57,58,59,60,61,62,63,64,65,66,67,68,69,70,71,72,73,74,75,76,77,78,79,80,81])) (.sq (.sq (.reg (rT Tryz.f177 5)) (.bk 0 (.lp 0 fg_f177_0 tb_f177_0))) (.sq (.reg (rT Tryz.f177 10)) .rt)))))))
def rv_f177:List (RV×Option Ty):=[((.t 0),some (.sl tySuite))]
abbrev sh_f177_0:Sh:=⟨[(15,.ms 111),(113,.ty tI),(114,.ty tI)],[(111,.arr 267 tySuite)]⟩
def st_f177_0 (x113 x114:Int)(y111:List Suite):VS:=sh_f177_0.st ((),x113,x114,()) (y111,())
abbrev sh_f177_0_e0:Sh:=⟨[(15,.ms 111)],[(111,.arr 267 tySuite)]⟩
def st_f177_0_e0 (y111:List Suite):VS:=sh_f177_0_e0.st ((),()) (y111,())
def L_f177_0:VS->Option (Bool×List (Bool×Exit×VS)):=mkL sh_f177_0 (fun x y=>(decide (0<=x.2.2.1/\x.2.2.1<=16/\x.2.1=16/\y.1.length=16))) (fun x y=>[(true,.exit 0,st_f177_0_e0 (codeL x.2.2.1.toNat y.1))])
def g_f177:G:=⟨TYs,[111],125,EL [(239,sp_f239)],keeps,(Ls [L_f177_0]),IL [],RL []⟩
def b_f177_0 (x113 x114:Int)(y111:List Suite):Option (Exit×VS):=
 let a1:=Int.toNat x114
 br (ilt x114 x113) (br (cIx y111 x114) (br (cLd y111 a1) (some (.normal,st_f177_0 x113 (iadd .i64 x114 1) (List.set y111 a1 ((iadd .i64 x114 1),(lgt tySuite y111 a1).2)))) none) none) (some (.exit 0,st_f177_0_e0 y111))
noncomputable def lp_f177_0 (x113 x114:Int)(y111:List Suite):Option (Exit×VS):=loopF (roundF g_f177 fg_f177_0 tb_f177_0) (st_f177_0 x113 x114 y111)
noncomputable def n_f177_0 (x113 x114:Int)(y111:List Suite):Option (Exit×VS):=
 let a1:=Int.toNat x114
 br (ilt x114 x113) (br (cIx y111 x114) (br (cLd y111 a1) (lp_f177_0 x113 (iadd .i64 x114 1) (List.set y111 a1 ((iadd .i64 x114 1),(lgt tySuite y111 a1).2))) none) none) (some (.exit 0,st_f177_0_e0 y111))
def la_f177_0 (x113 x114:Int)(y111:List Suite):Option (Exit×VS):=some (.exit 0,st_f177_0_e0 (codeL x114.toNat y111))
theorem be_f177_0 (x113 x114:Int)(y111:List Suite):roundF g_f177 fg_f177_0 tb_f177_0 (st_f177_0 x113 x114 y111)=b_f177_0 x113 x114 y111:=by kernel_rfl
theorem ln_f177_0 (x113 x114:Int)(y111:List Suite):lp_f177_0 x113 x114 y111=n_f177_0 x113 x114 y111:=(loopF_nxt _ _).trans (by
 rw [be_f177_0]
 simp only [b_f177_0,n_f177_0,nxt_br,nxt_n,nxt_r,nxt_e,nxt_0]
 rfl)
def r_f177  : Option (V×List VO):=
 let a1:=((useP 5 0).1,(((useP 5 0).2).1,()))
 let a2:=((useP 20 0).1,(((useP 20 0).2).1,()))
 let a3:=((useP 22 0).1,(((useP 22 0).2).1,()))
 let a4:=((useP 12 256).1,(((useP 12 256).2).1,()))
 let a5:=((useP 10 0).1,(((useP 10 0).2).1,()))
 let a6:=((useP 15 168).1,(((useP 15 168).2).1,()))
 let a7:=((useP 16 128).1,(((useP 16 128).2).1,()))
 let a8:=((useP 17 256).1,(((useP 17 256).2).1,()))
 let a9:=(ByteArray.mk #[101,99,100,104,101,45,101,99,100,115,97,45,97,101,115,50,53,54,45,115,104,97,50,53,54])
 let a10:=(ByteArray.mk #[101,99,100,104,101,45,101,99,100,115,97,45,97,101,115,50,53,54,45,103,99,109])
 let a11:=((useP 11 1024).1,(((useP 11 1024).2).1,()))
 let a12:=(ByteArray.mk #[101,99,100,104,101,45,114,115,97,45,97,101,115,49,50,56,45,115,104,97])
 let a13:=(ByteArray.mk #[101,99,100,104,101,45,114,115,97,45,97,101,115,49,50,56,45,103,99,109])
 let a14:=((useP 14 128).1,(((useP 14 128).2).1,()))
 let a15:=((useP 17 128).1,(((useP 17 128).2).1,()))
 let a16:=(ByteArray.mk #[100,104,101,45,114,115,97,45,97,101,115,49,50,56,45,115,104,97])
 let a17:=((useP 18 0).1,(((useP 18 0).2).1,()))
 let a18:=((useP 7 0).1,(((useP 7 0).2).1,()))
 let a19:=(ByteArray.mk #[100,104,101,45,100,115,97,45,100,101,115,51,45,115,104,97])
 let a20:=(ByteArray.mk #[100,104,101,45,114,115,97,45,100,101,115,51,45,115,104,97])
 let a21:=(ByteArray.mk #[109,108,107,101,109,45,97,101,115,50,53,54,45,103,99,109])
 let a22:=(ByteArray.mk #[101,99,100,104,101,45,114,115,97,45,99,104,97,99,104,97])
 let a23:=(ByteArray.mk #[114,115,97,45,97,101,115,49,50,56,45,115,104,97])
 let a24:=(ByteArray.mk #[114,115,97,45,97,101,115,50,53,54,45,103,99,109])
 let a25:=(ByteArray.mk #[114,115,97,45,100,101,115,51,45,115,104,97])
 let a26:=(ByteArray.mk #[114,115,97,45,114,99,52,45,109,100,53])
 let a27:=(ByteArray.mk #[114,115,97,45,114,99,52,45,115,104,97])
 let a28:=(ByteArray.mk #[97,101,115,49,50,56,45,103,99,109])
 let a29:=((useP 11 2048).1,(((useP 11 2048).2).1,()))
 let a30:=((useP 16 256).1,(((useP 16 256).2).1,()))
 let a31:=((useP 12 384).1,(((useP 12 384).2).1,()))
 let a32:=((useP 13 768).1,(((useP 13 768).2).1,()))
 let a33:=(ByteArray.mk #[99,104,97,99,104,97])
 let a34:=((useP 19 0).1,(((useP 19 0).2).1,()))
 let a35:=((useP 21 0).1,(((useP 21 0).2).1,()))
 let a36:=((useP 6 0).1,(((useP 6 0).2).1,()))
 br (decide (0<=(0:Int)/\(0:Int)<=16/\(llen ([(0,(a26,(a5,(a1,(a14,(a34,(1,(2,())))))))),(0,(a27,(a5,(a1,(a14,(a2,(1,(3,())))))))),(0,(a25,(a5,(a1,(a6,(a2,(1,(3,())))))))),(0,(a19,(a11,(a36,(a6,(a2,(1,(3,())))))))),(0,(a20,(a11,(a1,(a6,(a2,(1,(3,())))))))),(0,(a23,(a5,(a1,(a7,(a2,(1,(3,())))))))),(0,(a16,(a29,(a1,(a7,(a2,(1,(3,())))))))),(0,(a12,(a4,(a1,(a7,(a2,(1,(3,())))))))),(0,(a9,(a4,(a18,(a30,(a35,(3,(3,())))))))),(0,(a13,(a4,(a1,(a15,(a3,(3,(3,())))))))),(0,(a10,(a31,(a18,(a8,(a3,(3,(3,())))))))),(0,(a22,(a4,(a1,(a17,(a3,(3,(3,())))))))),(0,(a24,(a5,(a1,(a8,(a3,(3,(3,())))))))),(0,(a28,(a4,((0,(0,())),(a15,(a3,(4,(4,())))))))),(0,(a33,(a4,((0,(0,())),(a17,(a3,(4,(4,())))))))),(0,(a21,(a32,((0,(0,())),(a8,(a3,(4,(4,()))))))))]))=16/\([(0,(a26,(a5,(a1,(a14,(a34,(1,(2,())))))))),(0,(a27,(a5,(a1,(a14,(a2,(1,(3,())))))))),(0,(a25,(a5,(a1,(a6,(a2,(1,(3,())))))))),(0,(a19,(a11,(a36,(a6,(a2,(1,(3,())))))))),(0,(a20,(a11,(a1,(a6,(a2,(1,(3,())))))))),(0,(a23,(a5,(a1,(a7,(a2,(1,(3,())))))))),(0,(a16,(a29,(a1,(a7,(a2,(1,(3,())))))))),(0,(a12,(a4,(a1,(a7,(a2,(1,(3,())))))))),(0,(a9,(a4,(a18,(a30,(a35,(3,(3,())))))))),(0,(a13,(a4,(a1,(a15,(a3,(3,(3,())))))))),(0,(a10,(a31,(a18,(a8,(a3,(3,(3,())))))))),(0,(a22,(a4,(a1,(a17,(a3,(3,(3,())))))))),(0,(a24,(a5,(a1,(a8,(a3,(3,(3,())))))))),(0,(a28,(a4,((0,(0,())),(a15,(a3,(4,(4,())))))))),(0,(a33,(a4,((0,(0,())),(a17,(a3,(4,(4,())))))))),(0,(a21,(a32,((0,(0,())),(a8,(a3,(4,(4,()))))))))]).length=16)) (some (.t (.sl tySuite) (codeL (0:Int).toNat ([(0,(a26,(a5,(a1,(a14,(a34,(1,(2,())))))))),(0,(a27,(a5,(a1,(a14,(a2,(1,(3,())))))))),(0,(a25,(a5,(a1,(a6,(a2,(1,(3,())))))))),(0,(a19,(a11,(a36,(a6,(a2,(1,(3,())))))))),(0,(a20,(a11,(a1,(a6,(a2,(1,(3,())))))))),(0,(a23,(a5,(a1,(a7,(a2,(1,(3,())))))))),(0,(a16,(a29,(a1,(a7,(a2,(1,(3,())))))))),(0,(a12,(a4,(a1,(a7,(a2,(1,(3,())))))))),(0,(a9,(a4,(a18,(a30,(a35,(3,(3,())))))))),(0,(a13,(a4,(a1,(a15,(a3,(3,(3,())))))))),(0,(a10,(a31,(a18,(a8,(a3,(3,(3,())))))))),(0,(a22,(a4,(a1,(a17,(a3,(3,(3,())))))))),(0,(a24,(a5,(a1,(a8,(a3,(3,(3,())))))))),(0,(a28,(a4,((0,(0,())),(a15,(a3,(4,(4,())))))))),(0,(a33,(a4,((0,(0,())),(a17,(a3,(4,(4,())))))))),(0,(a21,(a32,((0,(0,())),(a8,(a3,(4,(4,()))))))))])),[])) none
theorem e_f177  : runF g_f177 tc_f177 rv_f177 false [] []=r_f177  :=by kernel_rfl
theorem en_f177:Entered Tryz.prog 177:= .inr ⟨by decide,_,Tryz.func177,by kernel_rfl,by kernel_rfl⟩
theorem gk_f177:GOk Tryz.prog g_f177:=gok_of _ (gA (gC en_f239 ms_f239 gN))
theorem l_f177_0 (x113 x114:Int)(y111:List Suite)(h:(decide (0<=x114/\x114<=16/\x113=16/\y111.length=16))=true):lp_f177_0 x113 x114 y111=la_f177_0 x113 x114 y111:=by
 simp only [decide_eq_true_eq] at h
 obtain ⟨h1,h2,rfl,h4⟩:=h
 obtain ⟨k,rfl⟩:=Int.eq_ofNat_of_zero_le h1
 revert y111
 refine up_ind 16 (fun k=> ∀ y111:List Suite,y111.length=16->lp_f177_0 16 (k:Int) y111=la_f177_0 16 (k:Int) y111) ?_ ?_ k (by omega)
 ·intro y111 _
  rw [ln_f177_0]
  rfl
 ·intro k hk ih y111 hy
  rw [ln_f177_0]
  have e1:ilt (k:Int) 16=true:=decide_eq_true (by omega)
  have e2:cLd y111 k=true:=decide_eq_true (by omega)
  have e3:codeL k y111=codeL (k+1) (y111.set k (((k+1:Nat):Int),(y111.getD k zSuite).2)):=by
   have:16-k=(16-(k+1))+1:=by omega
   unfold codeL
   rw [this,List.range'_succ,List.foldl_cons]
  simp only [n_f177_0,e1,br_true,cIx_nat,show decide (k<y111.length)=true from decide_eq_true (by omega),Int.toNat_natCast,e2,add1 (k:=k)]
  rw [ih _ (by rw [List.length_set];exact hy)]
  simp only [la_f177_0,Int.toNat_natCast,e3]
theorem lo_f177_0: ∀ S l p,g_f177.L 0 (fgt fg_f177_0 S)=some (true,l)->pickA l=some p->loopF (roundF g_f177 fg_f177_0 tb_f177_0) S=some p:=
 lok_of (s:=sh_f177_0) ⟨by decide,by decide⟩ (by kernel_rfl) fun x y hok p hp=>by
 simp only [pickA_br,pickA_one] at hp
 exact (l_f177_0 x.2.1 x.2.2.1 y.1 (by simpa using hok)).trans hp
theorem lk_f177:tc_f177.lok g_f177:=by
 repeat (first|exact trivial|exact lo_f177_0|refine ⟨?_, ?_⟩)
theorem s_f177:r_f177=some (.t (.sl tySuite) suitesF,[]):=by kernel_rfl
def sp_f177:Ent:=spec .nil (fun x=>true) (fun x=>(.t (.sl tySuite) suitesF))
theorem ms_f177:Meets Tryz.prog 177 (strip sp_f177):=meets_spec (R:=runF g_f177 tc_f177 rv_f177 false) (mG Tryz.func177 (by kernel_rfl) Tryz.ntmps177 (by kernel_rfl) gk_f177 lk_f177) fun x _=>(e_f177 ).trans (s_f177)
end
end Go.Proofs.YticnbacafmeiiaaGreatDoor.K
namespace Go.Proofs.YticnbacafmeiiaaGreatDoor.K
open Go.RowKit
noncomputable section
theorem ige_not (a b:Int):ige a b= !ilt a b:=by
 simp only [ige,ilt]
 rw [Bool.eq_iff_iff]
 simp
theorem ile_not (a b:Int):ile a b= !igt a b:=by
 simp only [ile,igt]
 rw [Bool.eq_iff_iff]
 simp
theorem brA {q r:Bool}{X:Option (V×List VO)}(h:X=some (.t .bool r,[])):br q X (some (.t .bool false,[]))=some (.t .bool (q&&r),[]):=by
 subst h
 cases q<;>rfl
open Classical in
def keyI (n:Int):Bool:= !ilt n 0&& !igt n 2147483648
noncomputable def tc_f37:TC:=(.sq (.reg (rT Tryz.f37 0)) (.sq (.reg (rT Tryz.f37 1)) .rt))
def rv_f37:List (RV×Option Ty):=[((.t 2),some .bool)]
def g_f37:G:=⟨TYs,[],9,EL [],keeps,(fun _ _=>none),IL [],RL []⟩
def r_f37 (p0:Int):Option (V×List VO):=br (ige p0 0) (some (.t .bool (ile p0 2147483648),[])) (some (.t .bool false,[]))
theorem e_f37 (p0:Int):runF g_f37 tc_f37 rv_f37 false [.t tI p0] []=r_f37 p0:=by kernel_rfl
theorem en_f37:Entered Tryz.prog 37:= .inr ⟨by decide,_,Tryz.func37,by kernel_rfl,by kernel_rfl⟩
theorem gk_f37:GOk Tryz.prog g_f37:=gok_of _ (fun p hp=>by cases hp)
theorem lk_f37:tc_f37.lok g_f37:=by repeat (first|exact trivial|refine ⟨?_, ?_⟩)
theorem s_f37 (n:Int):r_f37 n=some (.t .bool (keyI n),[]):=by
 simp only [r_f37,ige_not,ile_not]
 exact brA rfl
def sp_f37:Ent:=spec (.pr tI .nil) (fun x=>true) (fun x=>(.t .bool (keyI x.1)))
theorem ms_f37:Meets Tryz.prog 37 (strip sp_f37):=meets_spec (R:=runF g_f37 tc_f37 rv_f37 false) (mG Tryz.func37 (by kernel_rfl) Tryz.ntmps37 (by kernel_rfl) gk_f37 lk_f37) fun x _=>(e_f37 x.1).trans (s_f37 x.1)
end
end Go.Proofs.YticnbacafmeiiaaGreatDoor.K
namespace Go.Proofs.YticnbacafmeiiaaGreatDoor.K
open Go.RowKit
noncomputable section
theorem nb_len (n:Int):(intL n).length<=8:=by
 rw [intL,bytsN_len]
 exact nbN_le n
theorem okT_int (n:Nat)(m:Int):okT (n+1) (intT m)=true:=by
 have:=nb_len m
 show okV (n+1) (.mk 2 (intL m) false [])=true
 simp only [okV,List.isEmpty_nil,cond_false,List.all_nil,Bool.and_true,List.length_nil]
 rw [decide_eq_true (by omega)]
 rfl
theorem okT_txt (n:Nat){s:ByteArray}(h:s.size<=100000):okT (n+1) (txtT s)=true:=by
 have:=bytesG_len s
 show okV (n+1) (.mk 12 (bytesL s) false [])=true
 simp only [okV,List.isEmpty_nil,cond_false,List.all_nil,Bool.and_true,List.length_nil]
 rw [decide_eq_true (by omega)]
 rfl
theorem okT_lst {n:Nat}{l:List ValT}(hl:l.length<=100000)(h: ∀ x∈l,okT n x=true):okT (n+1) (lstT l)=true:=by
 show okV (n+1) (.mk 48 [] true (l.map Val.of))=true
 simp only [okV,List.isEmpty_nil,cond_true,Bool.and_true,List.length_nil,List.length_map,Bool.and_eq_true,List.all_eq_true,List.mem_map]
 refine ⟨⟨⟨rfl,rfl⟩,decide_eq_true ⟨by omega,hl⟩⟩, ?_⟩
 rintro v ⟨x,hx,rfl⟩
 exact h x hx
theorem copLF_all {n:Nat}{l:List ValT}(hl:l.length<=100000)(h: ∀ x∈l,okT n x=true):copLF (n+1) l=true:=by
 simp only [copLF,Bool.and_eq_true,decide_eq_true_eq,List.all_eq_true]
 exact ⟨hl,h⟩
theorem val_eta (x:ValT):((x.1,(x.2.1,(x.2.2.1,(List.map Val.of (List.map Val.un x.2.2.2.1),())))):ValT)=x:=by
 rw [map_of_un]
theorem enc_int (m:Int):(encT (intT m)).length<=18:=by
 have h1:=nb_len m
 have h2:=lenL_len ((intL m).length+0)
 rw [encT_eq]
 simp only [intT,encVs,List.length_cons,List.length_append,List.length_nil]
 omega
theorem enc_txt (s:ByteArray):(encT (txtT s)).length<=10+s.size:=by
 have h1:=bytesG_len s
 have h2:=lenL_len ((bytesL s).length+0)
 rw [encT_eq]
 simp only [txtT,encVs,List.length_cons,List.length_append,List.length_nil]
 omega
theorem enc_lst (l:List ValT):(encT (lstT l)).length<=10+(encL l).length:=by
 have h2:=lenL_len (0+(encVs (l.map Val.of)).length)
 rw [encT_eq]
 simp only [lstT,encL,List.length_cons,List.length_append,List.length_nil]
 omega
theorem valid_bits {u:Keep}(h:validF u=true):0<=u.2.1/\u.2.1<=16384/\1<=u.1/\u.1<=22:=by
 simp only [validF,decide_eq_true_eq] at h
 have ham: ∀ (s t:List Int),(∀ x∈s,0<=x/\x<=16384)->amongF u.2.1 s t > 0->0<=u.2.1/\u.2.1<=16384:=by
  intro s t hs hg
  unfold amongF at hg
  split at hg
  ·rename_i k hk
   have hm:u.2.1∈s:=by
    have key: ∀ (s:List Int) (k:Nat),idxN u.2.1 s=some k->u.2.1∈s:=by
     intro s
     induction s with
     |nil=>intro k hk;cases hk
     |cons a s ih=>
      intro k hk
      unfold idxN at hk
      split at hk
      ·rename_i ha
       have:=eq_of_beq ha
       rw [this];exact List.mem_cons_self
      ·obtain ⟨j,hj,_⟩:=Option.map_eq_some_iff.1 hk
       exact List.mem_cons_of_mem _ (ih j hj)
    exact key s k hk
   exact hs _ hm
  ·omega
 rw [←and_assoc]
 unfold strF at h
 repeat' split at h
 ·refine ⟨?_,by omega⟩
  unfold modulusF at h
  split at h<;>omega
 ·refine ⟨?_,by omega⟩
  unfold curveF at h
  split at h
  ·rename_i hc
   simp only [hasF,List.contains_iff_mem,List.mem_cons,List.not_mem_nil,or_false] at hc
   omega
  ·omega
 ·exact ⟨ham _ _ (by simp) h,by omega⟩
 ·exact ⟨ham _ _ (by simp) h,by omega⟩
 ·exact ⟨ham _ _ (by simp) h,by omega⟩
 ·exact ⟨ham _ _ (by simp) h,by omega⟩
 ·exact ⟨ham _ _ (by simp) h,by omega⟩
 ·refine ⟨ham _ _ (by simp) h, ?_⟩
  unfold amongF at h
  split at h
  ·rename_i k hk
   unfold idxN at hk
   split at hk
   ·injection hk with hk
    subst hk
    simp only [List.getD_cons_zero,singleF] at h
    repeat' split at h
    all_goals omega
   ·cases hk
  ·omega
theorem named_size {s:ByteArray}(h:namedG s=true):s.size<=32:=by
 simp only [namedG,Bool.and_eq_true,decide_eq_true_eq] at h
 exact h.2.2
theorem bytesOk_of {s:ByteArray}(h:s.size<=32):bytesOk s=true:=decide_eq_true (by omega)
end
end Go.Proofs.YticnbacafmeiiaaGreatDoor.K
namespace Go.Proofs.YticnbacafmeiiaaGreatDoor.K
open Go.RowKit
noncomputable section
def stepS (s x:Int):Int:=imul .u32 (ibxor .u32 s (icv .u32 x)) 16777619
def sumB (b:List Int):Int:=icv .i64 (b.foldl stepS 2166136261)
def lenB (b:List Int):Bool:=decide (b.length<=100000)
def fg_f41_0:Fg:=⟨[(3,some (.int .u32)),(6,some (.sl (.int .u8))),(7,some tI),(8,some tI)],[]⟩
noncomputable def tb_f41_0:TC:=(.sq (.reg (rT Tryz.f41 3)) (.sq (.cd (.t 9) .sk (.fg ⟨[(3,some (.int .u32))],[]⟩ (.ex 0))) (.sq (.bk 1 (.sq (.reg (rT Tryz.f41 4)) (.reg (rT Tryz.f41 5)))) (.reg (rT Tryz.f41 6)))))
noncomputable def tc_f41:TC:=(.sq (.reg (rT Tryz.f41 0)) (.sq (.reg (rT Tryz.f41 1)) (.sq (.sq (.reg (rT Tryz.f41 2)) (.bk 0 (.lp 0 fg_f41_0 tb_f41_0))) (.sq (.reg (rT Tryz.f41 7)) .rt))))
def rv_f41:List (RV×Option Ty):=[((.t 2),some tI)]
abbrev sh_f41_0:Sh:=⟨[(3,.ty (.int .u32)),(6,.ty (.sl (.int .u8))),(7,.ty tI),(8,.ty tI)],[]⟩
def st_f41_0 (x3:Int)(x6:List Int)(x7 x8:Int):VS:=sh_f41_0.st (x3,x6,x7,x8,()) ()
abbrev sh_f41_0_e0:Sh:=⟨[(3,.ty (.int .u32))],[]⟩
def st_f41_0_e0 (x3:Int):VS:=sh_f41_0_e0.st (x3,()) ()
def L_f41_0:VS->Option (Bool×List (Bool×Exit×VS)):=mkL sh_f41_0 (fun x y=>(rngOk x.2.1 x.2.2.1 x.2.2.2.1)) (fun x y=>[(true,.exit 0,st_f41_0_e0 ((x.2.1.drop x.2.2.2.1.toNat).foldl stepS x.1))])
def g_f41:G:=⟨TYs,[],20,EL [],keeps,(Ls [L_f41_0]),IL [],RL []⟩
def b_f41_0 (x3:Int)(x6:List Int)(x7 x8:Int):Option (Exit×VS):=br (ilt x8 x7) (br (cIx x6 x8) (some (.normal,st_f41_0 (imul .u32 (ibxor .u32 x3 (icv .u32 (lgt (.int .u8) x6 (Int.toNat x8)))) 16777619) x6 x7 (iadd .i64 x8 1))) none) (some (.exit 0,st_f41_0_e0 x3))
noncomputable def lp_f41_0 (x3:Int)(x6:List Int)(x7 x8:Int):Option (Exit×VS):=loopF (roundF g_f41 fg_f41_0 tb_f41_0) (st_f41_0 x3 x6 x7 x8)
noncomputable def n_f41_0 (x3:Int)(x6:List Int)(x7 x8:Int):Option (Exit×VS):=br (ilt x8 x7) (br (cIx x6 x8) (lp_f41_0 (imul .u32 (ibxor .u32 x3 (icv .u32 (lgt (.int .u8) x6 (Int.toNat x8)))) 16777619) x6 x7 (iadd .i64 x8 1)) none) (some (.exit 0,st_f41_0_e0 x3))
def la_f41_0 (x3:Int)(x6:List Int)(x7 x8:Int):Option (Exit×VS):=some (.exit 0,st_f41_0_e0 ((x6.drop x8.toNat).foldl stepS x3))
theorem be_f41_0 (x3:Int)(x6:List Int)(x7 x8:Int):roundF g_f41 fg_f41_0 tb_f41_0 (st_f41_0 x3 x6 x7 x8)=b_f41_0 x3 x6 x7 x8:=by kernel_rfl
theorem ln_f41_0 (x3:Int)(x6:List Int)(x7 x8:Int):lp_f41_0 x3 x6 x7 x8=n_f41_0 x3 x6 x7 x8:=(loopF_nxt _ _).trans (by
 rw [be_f41_0]
 simp only [b_f41_0,n_f41_0,nxt_br,nxt_n,nxt_r,nxt_e,nxt_0]
 rfl)
def r_f41 (p0:List Int):Option (V×List VO):=br (rngOk p0 (llen p0) (0:Int)) (some (.t tI (icv .i64 ((p0.drop (0:Int).toNat).foldl stepS (2166136261:Int))),[])) none
theorem e_f41 (p0:List Int):runF g_f41 tc_f41 rv_f41 false [.t (.sl (.int .u8)) p0] []=r_f41 p0:=by kernel_rfl
theorem en_f41:Entered Tryz.prog 41:= .inr ⟨by decide,_,Tryz.func41,by kernel_rfl,by kernel_rfl⟩
theorem gk_f41:GOk Tryz.prog g_f41:=gok_of _ (fun p hp=>by cases hp)
theorem l_f41_0 (x3:Int)(x6:List Int)(x7 x8:Int)(h:(rngOk x6 x7 x8)=true):lp_f41_0 x3 x6 x7 x8=la_f41_0 x3 x6 x7 x8:=by
 obtain ⟨rfl,h3,k,rfl,hk⟩:=rng_k h
 clear h
 revert x3
 refine range_ind x6 (fun k=> ∀ x3:Int,lp_f41_0 x3 x6 (x6.length:Int) (k:Int)=la_f41_0 x3 x6 (x6.length:Int) (k:Int)) ?_ ?_ k hk
 ·intro x3
  rw [ln_f41_0]
  simp only [n_f41_0,la_f41_0,ilt_nat,Nat.lt_irrefl,decide_false,br_false,Int.toNat_natCast,List.drop_length,List.foldl_nil]
 ·intro k hk ih x3
  rw [ln_f41_0]
  simp only [n_f41_0,ilt_nat,cIx_nat,hk,decide_true,br_true,Int.toNat_natCast,add1 (k:=k),lgt_get (y:= .int .u8) hk,ih]
  simp only [la_f41_0,Int.toNat_natCast,List.drop_eq_getElem_cons hk,List.foldl_cons,stepS]
theorem lo_f41_0: ∀ S l p,g_f41.L 0 (fgt fg_f41_0 S)=some (true,l)->pickA l=some p->loopF (roundF g_f41 fg_f41_0 tb_f41_0) S=some p:=
 lok_of (s:=sh_f41_0) ⟨by decide,by decide⟩ (by kernel_rfl) fun x y hok p hp=>by
 simp only [pickA_br,pickA_one] at hp
 exact (l_f41_0 x.1 x.2.1 x.2.2.1 x.2.2.2.1 (by simpa using hok)).trans hp
theorem lk_f41:tc_f41.lok g_f41:=by
 repeat (first|exact trivial|exact lo_f41_0|refine ⟨?_, ?_⟩)
theorem s_f41 (b:List Int)(h:lenB b=true):r_f41 b=some (.t tI (sumB b),[]):=by
 simp only [lenB,decide_eq_true_eq] at h
 simp only [r_f41,rng_0 h,br_true,Int.toNat_zero,List.drop_zero]
 rfl
def sp_f41:Ent:=spec (.pr (.sl (.int .u8)) .nil) (fun x=>(lenB x.1)) (fun x=>(.t tI (sumB x.1)))
theorem ms_f41:Meets Tryz.prog 41 (strip sp_f41):=meets_spec (R:=runF g_f41 tc_f41 rv_f41 false) (mG Tryz.func41 (by kernel_rfl) Tryz.ntmps41 (by kernel_rfl) gk_f41 lk_f41) fun x hok=>(e_f41 x.1).trans (s_f41 x.1 hok)
end
end Go.Proofs.YticnbacafmeiiaaGreatDoor.K
namespace Go.Proofs.YticnbacafmeiiaaGreatDoor.K
open Go.RowKit
def backL {α:Type}(l:List α):List (Int×(α×Unit)):=(l.zipIdx.map fun p=>((p.2:Int),(p.1,()))).reverse
def it_f85_1:Itr:=mkIt [.ptr 50000 0] [(.sl tyRule)] (.pr tI (.pr tyRule .nil)) (fun d=>true) (fun d=>(backL d.1))
noncomputable def tc_f85:TC:=(.sq (.reg (rT Tryz.f85 0)) (.sq (.reg (rT Tryz.f85 1)) .rt))
def rv_f85:List (RV×Option Ty):=[((.t 2),none)]
def g_f85:G:=⟨TYs,[],4,EL [],keeps,(fun _ _=>none),IL [],RL []⟩
def r_f85 (p0:List Rule):Option (V×List VO):=some (.fn 153 [(.ptr 50000 0)],[.box (.t (.sl tyRule) p0)])
theorem e_f85 (p0:List Rule):runF g_f85 tc_f85 rv_f85 true [.t (.sl tyRule) p0] []=r_f85 p0:=by kernel_rfl
theorem en_f85:Entered Tryz.prog 85:= .inr ⟨by decide,_,Tryz.func85,by kernel_rfl,by kernel_rfl⟩
theorem gk_f85:GOk Tryz.prog g_f85:=gok_of _ (fun p hp=>by cases hp)
theorem lk_f85:tc_f85.lok g_f85:=by repeat (first|exact trivial|refine ⟨?_, ?_⟩)
def sp_f85:Ent:=specO (.pr (.sl tyRule) .nil) (fun _=>true) (fun x=> .fn 153 [.ptr 50000 0]) (fun x=>[.box (.t (.sl tyRule) x.1)])
theorem ms_f85:Meets Tryz.prog 85 (strip sp_f85):=meets_specO (R:=runF g_f85 tc_f85 rv_f85 true) (mG Tryz.func85 (by kernel_rfl) Tryz.ntmps85 (by kernel_rfl) gk_f85 lk_f85) fun x _=>(e_f85 x.1).trans rfl
end Go.Proofs.YticnbacafmeiiaaGreatDoor.K
namespace Go.Proofs.YticnbacafmeiiaaGreatDoor.K
open Go.RowKit Go.Shelf
attribute [local go_sem] Oper.semAt_some
def encB (vs:List Value)(sz:Nat):Nat->List (Array Value)
 |0=>[]
 |k+1=> #[.int .i64 (k:Int),.agg ((vs.drop (k*sz)).take sz).toArray]::encB vs sz k
theorem w64 (m:Nat)(h:m<=maxLen):wrap64 ((m:Int)-1)=(m:Int)-1:=by
 simp only [maxLen] at h
 unfold wrap64
 omega
set_option maxHeartbeats 1000000 in
theorem back_rule (Bs b0 off c n:Nat)(A:Option Addr)(vs:List Value)(Xf:Nat->Nat->Prop)(w:World)(hnc:n<=c)(hcm:c<=maxLen)
  (hBs:w.cell? ⟨Bs,0,none⟩=some (.slice A n c)) (hBl:Bs<w.heap.size) (hBx: ∀ q, ¬ Xf Bs q)
  (hA:0<n->A=some ⟨b0,off,none⟩/\vs.length=n*6/\b0<w.heap.size/\(∀ j,j<vs.length→ ¬ Xf b0 (off+j))∧ ∀ j v,vs[j]? = some v->w.cell? ⟨b0,off+j,none⟩=some v):
  ItOk Tryz.prog 153 [.pointer (some ⟨Bs,0,none⟩)] (encB vs 6 n) Xf w:=by
 intro l J Jx W hJ hJx hK hY h0 _
 have HA:=Lib.hid hA
 clear hA
 refine callsIn_of_wp (F:=Fw none) Tryz.func153 rfl trivial ?_ rfl
 simp only [Tryz.ntmps153,List.size_toArray,List.length_cons,List.length_nil,Nat.reduceAdd,Nat.reduceSub,Array.replicate_succ,Array.replicate_zero,List.push_toArray,List.append_toArray,List.nil_append,List.cons_append]
 have hb0:W.cell? ⟨Bs,0,none⟩=some (.slice A n c):=((hK _ W h0).2 Bs 0 hBl (hBx 0)).trans hBs
 gi_wp2
 gi_loopw [3] (fun i wr=> ∃ k:Nat,k<=n/\i= .int .i64 ((k:Int)-1)/\J (encB vs 6 k) wr)
  (fun i _=>(intOf i+1).toNat)
 case atStart=>exact ⟨n,Nat.le_refl _,congrArg (Value.int .i64) (w64 n (by omega)),h0⟩
 case round=>
  obtain ⟨k,hk,rfl,hJs⟩:=hrel
  have hbx:wr.cell? ⟨Bs,0,none⟩=some (.slice A n c):=((hK _ wr hJs).2 Bs 0 hBl (hBx 0)).trans hBs
  cases k with
  |zero=>
   gi_wp2
   go_end0
   exact ⟨⟨_,rfl⟩,.inl hJs⟩
  |succ q=>
   obtain ⟨rfl,hvl,hbl,hnx,hcl⟩:=HA.out (by omega)
   obtain ⟨fn,tmps,assign,body,hy,hR⟩:=hY _ _ wr hJs
   have cel: ∀ i,i<6→ ∃ v,vs[q*6+i]? = some v/\wr.cell? ⟨b0,off+(q*6+i),none⟩=some v:=by
    intro i hi
    have hlt:q*6+i<vs.length:=by omega
    exact ⟨_,List.getElem?_eq_getElem hlt,((hK _ wr hJs).2 b0 _ hbl (hnx _ hlt)).trans (hcl _ _ (List.getElem?_eq_getElem hlt))⟩
   obtain ⟨v0,e0,c0⟩:=cel 0 (by omega)
   obtain ⟨v1,e1,c1⟩:=cel 1 (by omega)
   obtain ⟨v2,e2,c2⟩:=cel 2 (by omega)
   obtain ⟨v3,e3,c3⟩:=cel 3 (by omega)
   obtain ⟨v4,e4,c4⟩:=cel 4 (by omega)
   obtain ⟨v5,e5,c5⟩:=cel 5 (by omega)
   rw [Nat.add_zero] at e0 c0
   rw [←Nat.add_assoc] at c1 c2 c3 c4 c5
   have hag:((vs.drop (q*6)).take 6)=[v0,v1,v2,v3,v4,v5]:=by
    apply List.ext_getElem?
    intro i
    rcases Nat.lt_or_ge i 6 with hi|hi
    ·rw [List.getElem?_take_of_lt hi,List.getElem?_drop]
     rcases i with _|_|_|_|_|_|i
     ·rw [Nat.add_zero,e0];rfl
     ·rw [e1];rfl
     ·rw [e2];rfl
     ·rw [e3];rfl
     ·rw [e4];rfl
     ·rw [e5];rfl
     ·omega
    ·rw [List.getElem?_take_eq_none hi,List.getElem?_eq_none (by simpa using hi)]
   rw [hag] at hy
   have q1:((q+1:Nat):Int)-1=(q:Int):=by omega
   rw [q1]
   clear hnx hcl cel hY
   gi_wp2
   refine hR.mono ?_
   rintro e W3 (⟨rfl,hJ3⟩|⟨rfl,hJx3⟩)
   ·gi_wp2
    go_roundw
    case rel=>exact ⟨q,by omega,congrArg (Value.int .i64) (w64 q (by omega)),hJ3⟩
    case measure=>simp [intOf,w64 q (by omega)]
   ·gi_wp2
    refine bodyPost_ret (results_none rfl _ _ _) rfl ?_
    exact ⟨⟨_,rfl⟩,.inr hJx3⟩
theorem encB_len (vs:List Value)(sz:Nat): ∀ n,(encB vs sz n).length=n
 |0=>rfl
 |n+1=>by rw [encB,List.length_cons,encB_len vs sz n]
theorem encB_at (vs:List Value)(sz:Nat): ∀ n i,i<n->(encB vs sz n)[i]? = some #[.int .i64 ((n-1-i:Nat):Int),.agg ((vs.drop ((n-1-i)*sz)).take sz).toArray]
 |0,i,h=>by omega
 |n+1,0,_=>by simp [encB]
 |n+1,i+1,h=>by
  rw [encB,List.getElem?_cons_succ,encB_at vs sz n i (by omega)]
  have:n-1-i=n+1-1-(i+1):=by omega
  rw [this]
theorem backL_at {α:Type}(l:List α)(i:Nat)(h:i<l.length):(backL l)[i]? = some (((l.length-1-i:Nat):Int),(l[l.length-1-i]'(by omega),())):=by
 unfold backL
 rw [List.getElem?_reverse (by simpa using h)]
 simp
theorem iters_back {P:Program}{gf:FuncId}{y:Ty}{sz:Nat}(hgf:gf<1000000)(hrow:y.row=true)(hsz:y.sz=sz)(eg: ∀ args w,(callFunc gf args).run P w= .ok (.enter gf args) w)
  (hw: ∀ (Bs b0 off c n:Nat) (A:Option Addr) (vs:List Value) (Xf:Nat->Nat->Prop) (w:World),n<=c->c<=maxLen->w.cell? ⟨Bs,0,none⟩=some (.slice A n c)->Bs<w.heap.size->(∀ q, ¬ Xf Bs q)→
   (0<n->A=some ⟨b0,off,none⟩/\vs.length=n*sz/\b0<w.heap.size/\(∀ j,j<vs.length→ ¬ Xf b0 (off+j))∧ ∀ j v,vs[j]? = some v->w.cell? ⟨b0,off+j,none⟩=some v)->ItOk P gf [.pointer (some ⟨Bs,0,none⟩)] (encB vs sz n) Xf w):
  Iters P gf (mkIt [.ptr 50000 0] [.sl y] (.pr (.int .i64) (.pr y .nil)) (fun _=>true) (fun d=>backL d.1)):=by
 refine Iters.weak hgf eg fun caps objs yr rows h X w σ lb hfin hl hc=> ?_
 unfold mkIt at h
 split at h
 ·rename_i x d hx hd
  simp only [Option.some.injEq,Prod.mk.injEq,true_and] at h
  cases h
  have hcaps:=rdVt_mk hx
  subst hcaps
  cases objs with
  |nil=>simp [asBoxes] at hd
  |cons o os=>
   cases o with
   |box cv=>
    cases os with
    |cons o2 os=>simp [asBoxes] at hd
    |nil=>
     simp only [asBoxes] at hd
     split at hd
     ·rename_i l u hl1 _
      simp only [Option.some.injEq] at hd
      subst hd
      have hcv:=SV.rd_mk (s:= .ty (.sl y)) (v:=cv) (x:=l) (by simpa [asBox,Ty.row] using hl1)
      subst hcv
      obtain ⟨⟨Bs,ty,us,h1,h2,h3,h4⟩,_⟩:=hl.at_ 0 _ rfl
      have h3':Cs X w σ [.sl (List.length l) (List.flatMap y.cells l)] us:=h3
      obtain ⟨uv,rfl,h5⟩:=h3'.one
      simp only [C] at h5
      obtain ⟨A,c,rfl,g1,g2,g3,g4⟩:=h5
      simp only [mkVt,SV.mk,V.ds,V.d,Cs,C] at hc
      obtain ⟨p,ps,rfl,⟨b',e1,rfl⟩,rfl⟩:=hc
      have h1:σ 50000= .box Bs:=h1
      rw [h1] at e1
      injection e1 with e1
      subst e1
      have hcell:w.cell? ⟨Bs,0,none⟩=some (.slice A (List.length l) c):=by simp [World.cell?, h2]
      have hBl:=(Array.getElem?_eq_some_iff.1 h2).1
      have hBx: ∀ q, ¬ (X Bs q∧ ∀ j,j<[VO.box ((SV.ty (.sl y)).mk l)].length->(σ (50000+j)).blk≠some Bs):=fun q hq=>hq.2 0 (by simp) (by rw [h1];rfl)
      rcases Nat.eq_zero_or_pos (List.length l) with h0|hp
      ·have hl0:l=[]:=List.eq_nil_of_length_eq_zero h0
       subst hl0
       exact ⟨encB [] sz 0,⟨rfl,fun i r v hr=>by simp [backL] at hr⟩,hw Bs 0 0 c 0 A [] _ w g1 g2 hcell hBl hBx (fun h=>absurd h (by omega))⟩
      ·obtain ⟨b0,off,vs,rfl,g5,g6⟩:=g4 hp
       have hvl:=g5.len
       rw [flat_len,hsz] at hvl
       refine ⟨encB vs sz (List.length l),⟨by rw [encB_len];simp [backL],fun i r v hr hv=> ?_⟩,hw Bs b0 off c (List.length l) _ vs _ w g1 g2 hcell hBl hBx (fun _=>⟨rfl,hvl,g6.lt,fun j hj hx=>g6.nx j hj hx.1,fun j v hv=>g6.at_ j v hv⟩)⟩
       have hi:i<List.length l:=by
        have:=(List.getElem?_eq_some_iff.1 hv).1
        rwa [encB_len] at this
       rw [backL_at _ _ hi] at hr
       rw [encB_at _ _ _ _ hi] at hv
       injection hr with hr
       injection hv with hv
       subst hr hv
       simp only [Ty.canon,V.ds,V.d,Cs]
       refine ⟨_,_,rfl,(by simp only [Ty.d,C];exact ⟨trivial,rfl⟩),_,_,rfl, ?_,rfl⟩
       rw [Ty.d_row _ _ hrow]
       simp only [C]
       refine ⟨_,rfl, ?_⟩
       have k1:=(g5.drop_ ((List.length l-1-i)*y.sz))
       rw [flat_drop,List.drop_eq_getElem_cons (by omega),List.flatMap_cons] at k1
       have k2:=k1.take_ y.sz
       rw [List.take_left' (y.cells_len _),hsz] at k2
       exact k2
     ·cases hd
   |no=>simp [asBoxes] at hd
   |arr e t l=>simp [asBoxes] at hd
 ·cases h
theorem is_f85_1:Iters Tryz.prog 153 it_f85_1:=
 iters_back (y:=tyRule) (sz:=6) (by decide) rfl rfl (enters_of Tryz.func153 (by kernel_rfl) rfl) back_rule
end Go.Proofs.YticnbacafmeiiaaGreatDoor.K
namespace Go.Proofs.YticnbacafmeiiaaGreatDoor.K
open Go.RowKit
def decZ (zs:List (Int×(Rule×Unit)))(u:Keep)(p d:Int):Option Int:=(zs.find? fun z=>matches' z.2.1 u p d).map (·.1)
def decHit (zs:List (Int×(Rule×Unit)))(u:Keep)(p d _x:Int):Bool:=(decZ zs u p d).isSome
def decAt (zs:List (Int×(Rule×Unit)))(u:Keep)(p d _x:Int):Int:=(decZ zs u p d).getD 0
def decF (y:Policy)(u:Keep)(p d:Int):Int:=(decZ (backL y.1) u p d).getD (-1)
def fg_f35_0:Fg:=⟨[(5,none),(6,none),(7,none),(8,none)],[(60000,some tyKeep),(60001,some tI),(60002,some tI),(60003,none)]⟩
noncomputable def ta_f35_0:TC:=(.sq (.reg (rT Tryz.f35 2)) (.reg (rT Tryz.f35 3)))
noncomputable def tb_f35_0:TC:=(.bk 1 (.sq (.reg (rT Tryz.f35 4)) (.cd (.t 31) (.sq (.reg (rT Tryz.f35 5)) (.fg ⟨[],[(60000,some tyKeep),(60001,some tI),(60002,some tI),(60003,none)]⟩ .rt)) .sk)))
noncomputable def tc_f35:TC:=(.sq (.reg (rT Tryz.f35 0)) (.sq (.sq (.reg (rT Tryz.f35 1)) (.bk 0 (.rf 0 fg_f35_0 (.t 13) (.pr tI (.pr tyRule .nil)) [14,15] [5,6,7,8] ta_f35_0 tb_f35_0))) (.sq (.reg (rT Tryz.f35 6)) .rt)))
def rv_f35:List (RV×Option Ty):=[((.c 8 false 1),some tI)]
abbrev sh_f35_0:Sh:=⟨[(5,.ptr 60000 0),(6,.ptr 60001 0),(7,.ptr 60002 0),(8,.ptr 60003 0)],[(60000,.box tyKeep),(60001,.box tI),(60002,.box tI),(60003,.bag [.ty tI])]⟩
def st_f35_0 (y60000:Keep)(y60001 y60002 y60003_0:Int):VS:=sh_f35_0.st ((),(),(),(),()) (y60000,y60001,y60002,(y60003_0,()),())
abbrev sh_f35_0_ret:Sh:=⟨[(5,.ptr 60000 0),(6,.ptr 60001 0),(7,.ptr 60002 0),(8,.ptr 60003 0)],[(60000,.box tyKeep),(60001,.box tI),(60002,.box tI),(60003,.bag [.ty tI])]⟩
def st_f35_0_ret (y60000:Keep)(y60001 y60002 y60003_0:Int):VS:=sh_f35_0_ret.st ((),(),(),(),()) (y60000,y60001,y60002,(y60003_0,()),())
abbrev sh_f35_0_normal:Sh:=⟨[(5,.ptr 60000 0),(6,.ptr 60001 0),(7,.ptr 60002 0),(8,.ptr 60003 0)],[(60000,.box tyKeep),(60001,.box tI),(60002,.box tI),(60003,.bag [.ty tI])]⟩
def st_f35_0_normal (y60000:Keep)(y60001 y60002 y60003_0:Int):VS:=sh_f35_0_normal.st ((),(),(),(),()) (y60000,y60001,y60002,(y60003_0,()),())
def R_f35_0:VS->List (Ty.T (.pr tI (.pr tyRule .nil)))->Option (Bool×List (Bool×Exit×VS)):=mkR sh_f35_0 (fun zs x y=>true) (fun zs x y=>[((decHit zs y.1 y.2.1 y.2.2.1 y.2.2.2.1.1),.ret,st_f35_0_ret (y.1) (y.2.1) (y.2.2.1) (decAt zs y.1 y.2.1 y.2.2.1 y.2.2.2.1.1)),(true,.normal,st_f35_0_normal (y.1) (y.2.1) (y.2.2.1) (y.2.2.2.1.1))])
def g_f35:G:=⟨TYs,[],33,EL [(85,sp_f85),(86,sp_f86)],keeps,(Ls [fun _=>none]),IL [(153,it_f85_1)],(RL [⟨(.pr tI (.pr tyRule .nil)),R_f35_0⟩])⟩
def b_f35_0 (z:(Int×(Rule×Unit)))(y60000:Keep)(y60001 y60002 y60003_0:Int):Option (Exit×VS):=br (concerns z.2.1 y60000 y60001) (br (ile z.2.1.2.2.2.2.1 y60002) (br (ilt y60002 z.2.1.2.2.2.2.2.1) (some (.ret,st_f35_0_ret y60000 y60001 y60002 z.1)) (some (.normal,st_f35_0 y60000 y60001 y60002 y60003_0))) (some (.normal,st_f35_0 y60000 y60001 y60002 y60003_0))) (some (.normal,st_f35_0 y60000 y60001 y60002 y60003_0))
noncomputable def lp_f35_0 (zs:List (Int×(Rule×Unit)))(y60000:Keep)(y60001 y60002 y60003_0:Int):Option (Exit×VS):=rangeF (roundR g_f35 fg_f35_0 (.pr tI (.pr tyRule .nil)) [14,15] ta_f35_0 tb_f35_0) zs (st_f35_0 y60000 y60001 y60002 y60003_0)
noncomputable def n_f35_0 (z:(Int×(Rule×Unit)))(zs:List (Int×(Rule×Unit)))(y60000:Keep)(y60001 y60002 y60003_0:Int):Option (Exit×VS):=br (concerns z.2.1 y60000 y60001) (br (ile z.2.1.2.2.2.2.1 y60002) (br (ilt y60002 z.2.1.2.2.2.2.2.1) (some (.ret,st_f35_0_ret y60000 y60001 y60002 z.1)) (lp_f35_0 zs y60000 y60001 y60002 y60003_0)) (lp_f35_0 zs y60000 y60001 y60002 y60003_0)) (lp_f35_0 zs y60000 y60001 y60002 y60003_0)
def la_f35_0 (zs:List (Int×(Rule×Unit)))(y60000:Keep)(y60001 y60002 y60003_0:Int):Option (Exit×VS):=br (decHit zs y60000 y60001 y60002 y60003_0) (some (.ret,st_f35_0_ret (y60000) (y60001) (y60002) (decAt zs y60000 y60001 y60002 y60003_0)))<|some (.normal,st_f35_0_normal (y60000) (y60001) (y60002) (y60003_0))
theorem be_f35_0 (z:(Int×(Rule×Unit)))(y60000:Keep)(y60001 y60002 y60003_0:Int):roundR g_f35 fg_f35_0 (.pr tI (.pr tyRule .nil)) [14,15] ta_f35_0 tb_f35_0 z (st_f35_0 y60000 y60001 y60002 y60003_0)=b_f35_0 z y60000 y60001 y60002 y60003_0:=by kernel_rfl
theorem ln0_f35_0 (y60000:Keep)(y60001:Int)(y60002:Int)(y60003_0:Int):lp_f35_0 [] y60000 y60001 y60002 y60003_0=some (.normal,st_f35_0_normal y60000 y60001 y60002 y60003_0):=rfl
theorem ln_f35_0 (z:(Int×(Rule×Unit)))(zs:List (Int×(Rule×Unit)))(y60000:Keep)(y60001 y60002 y60003_0:Int):lp_f35_0 (z::zs) y60000 y60001 y60002 y60003_0=n_f35_0 z zs y60000 y60001 y60002 y60003_0:=(rangeF_cons _ _ _ _).trans (by
 rw [be_f35_0]
 simp only [b_f35_0,n_f35_0,nxt_br,nxt_n,nxt_r,nxt_e,nxt_0]
 rfl)
def r_f35 (p0:Policy)(p1:Keep)(p2 p3:Int):Option (V×List VO):=br (decHit (backL p0.1) p1 p2 p3 0) (some (.t tI (decAt (backL p0.1) p1 p2 p3 0),[])) (some (.t tI (-1),[]))
theorem e_f35 (p0:Policy)(p1:Keep)(p2 p3:Int):runF g_f35 tc_f35 rv_f35 false [.t tyPolicy p0,.t tyKeep p1,.t tI p2,.t tI p3] []=r_f35 p0 p1 p2 p3:=by kernel_rfl
theorem en_f35:Entered Tryz.prog 35:= .inr ⟨by decide,_,Tryz.func35,by kernel_rfl,by kernel_rfl⟩
theorem gk_f35:GOk Tryz.prog g_f35:=gok_of _ (gA (gC en_f85 ms_f85 (gC en_f86 ms_f86 gN)))
 [(153,it_f85_1)] (by
 intro p hp
 simp only [List.mem_cons,List.not_mem_nil,or_false] at hp
 rcases hp with rfl
 ·exact is_f85_1)
theorem l_f35_0 (zs:List (Int×(Rule×Unit)))(y60000:Keep)(y60001 y60002 y60003_0:Int)(h:true=true):lp_f35_0 zs y60000 y60001 y60002 y60003_0=la_f35_0 zs y60000 y60001 y60002 y60003_0:=by
 clear h
 induction zs with
 |nil=>
  rw [ln0_f35_0]
  rfl
 |cons z zs ih=>
  rw [ln_f35_0]
  simp only [n_f35_0,ih,la_f35_0,decHit,decAt,decZ,List.find?_cons,matches',within',ile,ilt,Policy.Rules,Policy.Keeps,Dice.L,Dice.At,Keep.Alg,Keep.Bits,Exception.Use,Exception.Purpose,Exception.Endpoint,Exception.Days,Exception.Seals,Endpoint.Name,Endpoint.Least,Endpoint.Most,Endpoint.Suites,Endpoint.OwnOrder,Endpoint.Identities,Endpoint.Anchors,Endpoint.Hashes,Endpoint.Fallback,Finding.Source,Finding.Host,Finding.Machine,Finding.Day,Finding.Confidence,Finding.Kind,Finding.Subject,Finding.Use,Finding.Number,Finding.Text,Rule.Allow,Rule.Alg,Rule.Below,Rule.Purpose,Rule.From,Rule.To,Parser.lines,Parser.at_,Parser.section,Parser.out,Setting.Section,Setting.Name,Setting.Value,Setting.Line,Identity.Key,Identity.KeyId,Identity.Chain,Pad.at_,Pad.l,Line.words,Draft.Endpoint,Draft.store,Row.name,Row.kind,Row.way,Row.sizes,Row.strengths,Entry.Alias,Entry.Key,Entry.KeyId,Entry.Secret,Entry.Chain,Suite.Code,Suite.Name,Suite.Exchange,Suite.Sign,Suite.Cipher,Suite.Mac,Suite.Least,Suite.Most,Certificate.Serial,Certificate.Issuer,Certificate.Subject,Certificate.Key,Certificate.KeyId,Certificate.Hash,Certificate.From,Certificate.To,Certificate.Authority,Certificate.Path,Certificate.Names,Certificate.Seal,RowX.suites,RowX.killed,AcceptRange.lo,AcceptRange.hi,ErrorString.s]
  cases h1:concerns z.2.1 y60000 y60001<;>cases h2:decide (z.2.1.2.2.2.2.1<=y60002)<;>cases h3:decide (y60002<z.2.1.2.2.2.2.2.1)<;>simp [br_true,br_false]
theorem lo_f35_0: ∀ S (rows:List (Ty.T (.pr tI (.pr tyRule .nil)))) l p,g_f35.R 0 (fgt fg_f35_0 S) (.pr tI (.pr tyRule .nil)) rows=some (true,l)->pickA l=some p->rangeF (roundR g_f35 fg_f35_0 (.pr tI (.pr tyRule .nil)) [14,15] ta_f35_0 tb_f35_0) rows (fgt fg_f35_0 S)=some p:=by
 intro S rows l p hR hp
 rw [show g_f35.R 0 (fgt fg_f35_0 S) (.pr tI (.pr tyRule .nil)) rows=R_f35_0 (fgt fg_f35_0 S) rows from RL_at (l:=[⟨(.pr tI (.pr tyRule .nil)),R_f35_0⟩]) (j:=0) (F:=R_f35_0) rfl _ _] at hR
 refine lokR_of (s:=sh_f35_0) ⟨by decide,by decide⟩ (by kernel_rfl) (fun zs x y hok p hp=> ?_) S rows l p hR hp
 simp only [pickA_br,pickA_one] at hp
 exact (l_f35_0 zs y.1 y.2.1 y.2.2.1 y.2.2.2.1.1 (by first|rfl|simpa using hok)).trans hp
theorem lk_f35:tc_f35.lok g_f35:=by
 repeat (first|exact trivial|exact lo_f35_0|refine ⟨?_, ?_⟩)
theorem s_f35 (p0:Policy)(p1:Keep)(p2 p3:Int):r_f35 p0 p1 p2 p3=some (.t tI (decF p0 p1 p2 p3),[]):=by
 simp only [r_f35,decF,decHit,decAt]
 cases decZ (backL p0.1) p1 p2 p3<;>simp [br_true,br_false]
def sp_f35:Ent:=spec (.pr tyPolicy (.pr tyKeep (.pr tI (.pr tI .nil)))) (fun x=>true) (fun x=>(.t tI (decF x.1 x.2.1 x.2.2.1 x.2.2.2.1)))
theorem ms_f35:Meets Tryz.prog 35 (strip sp_f35):=meets_spec (R:=runF g_f35 tc_f35 rv_f35 false) (mG Tryz.func35 (by kernel_rfl) Tryz.ntmps35 (by kernel_rfl) gk_f35 lk_f35) fun x _=>(e_f35 x.1 x.2.1 x.2.2.1 x.2.2.2.1).trans (s_f35 x.1 x.2.1 x.2.2.1 x.2.2.2.1)
end Go.Proofs.YticnbacafmeiiaaGreatDoor.K
namespace Go.Proofs.YticnbacafmeiiaaGreatDoor.K
open Go.RowKit
def lastI {α:Type}(m:α->Bool):List α->Option Nat
 | []=>none
 |a::l=>match lastI m l with
  |some k=>some (k+1)
  |none=>if m a then some 0 else none
theorem lastI_app {α:Type}{m:α->Bool}{l2:List α}: ∀ l1:List α,lastI m (l1++l2)=match lastI m l2 with|some k=>some (l1.length+k)|none=>lastI m l1
 | []=>by
  simp only [List.nil_append,List.length_nil,Nat.zero_add]
  cases lastI m l2<;>rfl
 |a::l1=>by
  simp only [List.cons_append,lastI,lastI_app l1,List.length_cons]
  cases lastI m l2 with
  |none=>rfl
  |some k=>simp only [Option.some.injEq];omega
theorem lastI_none {α:Type}{m:α->Bool}: ∀ {l:List α},lastI m l=none↔ ∀ a,a∈l->m a=false
 | []=>by simp [lastI]
 |a::l=>by
  have ih:=lastI_none (m:=m) (l:=l)
  simp only [lastI]
  cases h:lastI m l with
  |some k=>
   have: ¬ ∀ a,a∈l->m a=false:=fun g=>by rw [ih.2 g] at h;cases h
   simp only [List.mem_cons,forall_eq_or_imp,reduceCtorEq,false_iff,not_and]
   exact fun _=>this
  |none=>
   have g:=ih.1 h
   cases hm:m a<;>simp_all
theorem lastI_some {α:Type}{m:α->Bool}: ∀ {l:List α} {k:Nat},lastI m l=some k↔ ∃ h:k<l.length,m l[k]=true∧ ∀ j (hj:j<l.length),k<j->m l[j]=false
 | [],k=>by simp [lastI]
 |a::l,k=>by
  have ih:= @lastI_some α m l
  simp only [lastI]
  cases h:lastI m l with
  |some i=>
   obtain ⟨h1,h2,h3⟩:=ih.1 h
   simp only [Option.some.injEq]
   constructor
   ·rintro rfl
    refine ⟨by simp;omega,by simpa using h2,fun j hj hk=> ?_⟩
    cases j with
    |zero=>omega
    |succ j=>simpa using h3 j (by simpa using hj) (by omega)
   ·rintro ⟨g1,g2,g3⟩
    cases k with
    |zero=>
     have:=g3 (i+1) (by simp;omega) (by omega)
     simp [h2] at this
    |succ k=>
     have g1':k<l.length:=by simpa using g1
     simp only [List.getElem_cons_succ] at g2
     have:lastI m l=some k:=ih.2 ⟨g1',g2,fun j hj hk=>by have:=g3 (j+1) (by rw [List.length_cons];omega) (by omega);rwa [List.getElem_cons_succ] at this⟩
     rw [this] at h
     injection h with h
     omega
  |none=>
   have g:=lastI_none.1 h
   cases hm:m a with
   |true=>
    simp only [if_true,Option.some.injEq]
    constructor
    ·rintro rfl
     refine ⟨by simp,by simpa using hm,fun j hj hk=> ?_⟩
     cases j with
     |zero=>omega
     |succ j=>simp only [List.getElem_cons_succ];exact g _ (List.getElem_mem _)
    ·rintro ⟨g1,g2,g3⟩
     cases k with
     |zero=>rfl
     |succ k=>
      simp only [List.getElem_cons_succ] at g2
      rw [g _ (List.getElem_mem _)] at g2
      cases g2
   |false=>
    simp only [Bool.false_eq_true,if_false,reduceCtorEq,false_iff]
    rintro ⟨g1,g2,g3⟩
    cases k with
    |zero=>simp [hm] at g2
    |succ k=>
     simp only [List.getElem_cons_succ] at g2
     rw [g _ (List.getElem_mem _)] at g2
     cases g2
theorem back_app {α:Type}(l:List α)(a:α):backL (l++[a])=((l.length:Int),(a,()))::backL l:=by
 unfold backL
 simp [List.zipIdx_append]
theorem rev_ind {α:Type}{P:List α->Prop}(h0:P [])(h1: ∀ l a,P l->P (l++[a]))(l:List α):P l:=by
 have: ∀ r:List α,P r.reverse:=by
  intro r
  induction r with
  |nil=>exact h0
  |cons a r ih=>rw [List.reverse_cons];exact h1 _ _ ih
 have h:=this l.reverse
 rwa [List.reverse_reverse] at h
theorem back_find {α:Type}{m:α->Bool}(l:List α):((backL l).find? fun z=>m z.2.1).map (·.1)=(lastI m l).map fun k:Nat=>(k:Int):=by
 induction l using rev_ind with
 |h0=>rfl
 |h1 l a ih=>
  rw [back_app,List.find?_cons,lastI_app]
  simp only [lastI]
  cases hm:m a
  ·simpa using ih
  ·simp
def decL (rs:List Rule)(u:Keep)(p d:Int):Option Nat:=lastI (fun r=>matches' r u p d) rs
theorem decF_eq {y:Policy}{u:Keep}{p d:Int}:decF y u p d=match decL y.1 u p d with|some k=>(k:Int)|none=> -1:=by
 unfold decF decZ decL
 rw [back_find (m:=fun r=>matches' r u p d)]
 cases lastI (fun r=>matches' r u p d) y.1<;>rfl
theorem decF_lt {y:Policy}{u:Keep}{p d:Int}: -1<=decF y u p d/\decF y u p d<y.1.length:=by
 rw [decF_eq]
 cases h:decL y.1 u p d with
 |none=>simp only;omega
 |some k=>
  obtain ⟨h1,_⟩:=lastI_some.1 h
  simp only
  omega
def allL (rs:List Rule)(u:Keep)(p d:Int):Bool:=match decL rs u p d with
 |some k=>(rs[k]?.map fun r:Rule=>r.1).getD true
 |none=>true
def allF (y:Policy)(u:Keep)(p d:Int):Bool:=allL y.1 u p d
def asc (l:List Int):Prop:=l.Pairwise (· < ·)
theorem compactUpTo_asc {d:Array Int}(hs:d.toList.Pairwise (· ≤ ·)): ∀ m,m<=d.size->asc (Lib.compactUpTo d m)/\(∀ x,x∈Lib.compactUpTo d m↔x∈d.toList.take m)/\(0<m→ ∀ x,x∈Lib.compactUpTo d m->x<=d[m-1]!)
 |0,_=>⟨List.Pairwise.nil,fun x=>by simp [Lib.compactUpTo],fun h=>absurd h (by omega)⟩
 |m+1,hm=>by
  obtain ⟨h1,h2,h3⟩:=compactUpTo_asc hs m (by omega)
  rw [Lib.compactUpTo_succ]
  have hsz:m<d.size:=by omega
  have hle:m<d.toList.length:=by simpa using hsz
  have et:d.toList.take (m+1)=d.toList.take m++[d.toList[m]]:=List.take_succ_eq_append_getElem hle
  have eg:d[m]! = d.toList[m]:=by simp [hsz]
  have hle2: ∀ x,x∈d.toList.take m->x<=d[m]! :=by
   intro x hx
   rw [eg]
   obtain ⟨i,hi,rfl⟩:=List.getElem_of_mem hx
   have hi':i<m:=by rw [List.length_take] at hi;omega
   rw [List.getElem_take]
   exact (List.pairwise_iff_getElem.1 hs) i m (by omega) hle hi'
  by_cases hk:Lib.keeps d m=true
  ·rw [if_pos hk]
   have hlt: ∀ x,x∈Lib.compactUpTo d m->x<d[m]! :=by
    intro x hx
    have h4:0<m:=by
     rcases Nat.eq_zero_or_pos m with rfl|h
     ·simp [Lib.compactUpTo] at hx
     ·exact h
    have h5:=h3 h4 x hx
    simp only [Lib.keeps,decide_eq_true_eq] at hk
    have h6:d[m-1]! ≤ d[m]! :=hle2 _ (by
     have e:d[m-1]! = d.toList[m-1]:=by simp [show m-1<d.size by omega]
     rw [e,List.mem_take_iff_getElem]
     exact ⟨m-1,by omega,rfl⟩)
    rcases hk with hk|hk
    ·omega
    ·omega
   refine ⟨?_,fun x=> ?_,fun _ x hx=> ?_⟩
   ·refine List.pairwise_append.2 ⟨h1,List.pairwise_singleton _ _,fun a ha b hb=> ?_⟩
    rw [List.mem_singleton.1 hb]
    exact hlt a ha
   ·rw [et,List.mem_append,List.mem_append,h2 x,eg]
   ·rw [Nat.add_sub_cancel]
    rcases List.mem_append.1 hx with hx|hx
    ·exact Int.le_of_lt (hlt x hx)
    ·rw [List.mem_singleton.1 hx]
     exact Int.le_refl _
  ·have hk':Lib.keeps d m=false:=by simpa using hk
   rw [hk']
   simp only [Bool.false_eq_true,if_false,List.append_nil]
   simp only [Lib.keeps,decide_eq_false_iff_not,not_or,Decidable.not_not] at hk'
   have h4:0<m:=by omega
   have e:d[m-1]! = d.toList[m-1]:=by simp [show m-1<d.size by omega]
   refine ⟨h1,fun x=> ?_,fun _ x hx=> ?_⟩
   ·rw [et,List.mem_append,h2 x]
    constructor
    ·exact .inl
    ·rintro (h|h)
     ·exact h
     ·rw [List.mem_singleton.1 h, ← eg,hk'.2,e,List.mem_take_iff_getElem]
      exact ⟨m-1,by omega,rfl⟩
   ·rw [Nat.add_sub_cancel,hk'.2]
    exact h3 h4 x hx
theorem compact_asc {l:List Int}(hs:l.Pairwise (· ≤ ·)):asc (Lib.compact l)∧ ∀ x,x∈Lib.compact l↔x∈l:=by
 have h:=compactUpTo_asc (d:=l.toArray) (by simpa using hs) l.length (by simp)
 refine ⟨h.1,fun x=> ?_⟩
 have:=h.2.1 x
 rw [show Lib.compact l=Lib.compactUpTo l.toArray l.length from rfl,this,List.take_of_length_le (by simp)]
theorem sortI_sorted (l:List Int):(sortI l).Pairwise (· ≤ ·):=by
 have:=List.pairwise_mergeSort (le:=fun x y:Int=>decide (x<=y)) (fun a b c h1 h2=>by simp only [decide_eq_true_eq] at *; omega) (fun a b=>by simp only [Bool.or_eq_true,decide_eq_true_eq];omega) l
 exact this.imp fun h=>of_decide_eq_true h
theorem mem_sortI {l:List Int}{x:Int}:x∈sortI l↔x∈l:=List.mem_mergeSort
def ends (rs:List Rule):List Int:=rs.flatMap fun r=>[r.2.2.2.2.1,r.2.2.2.2.2.1]
def cutsP (rs:List Rule):List Int:=Lib.compact (sortI ((0::ends rs)++[40001]))
theorem mem_cutsP {rs:List Rule}{x:Int}:x∈cutsP rs↔x=0∨x=40001∨x∈ends rs:=by
 unfold cutsP
 rw [(compact_asc (sortI_sorted _)).2,mem_sortI]
 simp only [List.mem_append,List.mem_cons,List.not_mem_nil,or_false]
 constructor
 ·rintro ((h|h)|h)
  ·exact .inl h
  ·exact .inr (.inr h)
  ·exact .inr (.inl h)
 ·rintro (h|h|h)
  ·exact .inl (.inl h)
  ·exact .inr h
  ·exact .inl (.inr h)
theorem asc_cutsP (rs:List Rule):asc (cutsP rs):=(compact_asc (sortI_sorted _)).1
def spanPut (out:List Keep)(a b:Int):List Keep:=match out.getLast? with
 |some s=>if s.2.1=a then out.dropLast++[(s.1,b,())] else out++[(a,b,())]
 |none=>[(a,b,())]
def spansZ (f:Int->Bool):List Int->List Keep->List Keep
 |a::b::r,out=>spansZ f (b::r) (if f a then spanPut out a b else out)
 |_,out=>out
def spansF (y:Policy)(u:Keep)(p:Int):List Keep:=spansZ (allF y u p) (cutsP y.1) []
end Go.Proofs.YticnbacafmeiiaaGreatDoor.K
namespace Go.Proofs
open Go.Shelf
def Tryz.lays189_ren:Go.Shelf.Ren:=⟨fun|189=>151|125=>93|257=>220|128=>166|129=>167|294=>267|295=>268|296=>269|297=>270|298=>271|299=>272|216=>273|300=>274|301=>275|328=>296|329=>228|330=>229|331=>297|332=>298|215=>256|343=>311|n=>n,fun|28=>22|3=>3|46=>188|0=>0|51=>185|53=>242|4=>4|183=>245|182=>244|131=>117|5=>5|9=>9|218=>305|222=>205|228=>341|229=>342|n=>n,fun|n=>n⟩
theorem Tryz.lays189:Go.Proofs.Lays.n189 Tryz.prog Tryz.lays189_ren:={
 mixed:=by kernel_rfl
 f125:=Tryz.func93.trans (congrArg some (by kernel_rfl))
 f128:=Tryz.func166.trans (congrArg some (by kernel_rfl))
 f129:=Tryz.func167.trans (congrArg some (by kernel_rfl))
 f189:=Tryz.func151.trans (congrArg some (by kernel_rfl))
 f215:=Tryz.func256.trans (congrArg some (by kernel_rfl))
 f216:=Tryz.func273.trans (congrArg some (by kernel_rfl))
 f257:=Tryz.func220.trans (congrArg some (by kernel_rfl))
 f294:=Tryz.func267.trans (congrArg some (by kernel_rfl))
 f295:=Tryz.func268.trans (congrArg some (by kernel_rfl))
 f296:=Tryz.func269.trans (congrArg some (by kernel_rfl))
 f297:=Tryz.func270.trans (congrArg some (by kernel_rfl))
 f298:=Tryz.func271.trans (congrArg some (by kernel_rfl))
 f299:=Tryz.func272.trans (congrArg some (by kernel_rfl))
 f300:=Tryz.func274.trans (congrArg some (by kernel_rfl))
 f301:=Tryz.func275.trans (congrArg some (by kernel_rfl))
 f328:=Tryz.func296.trans (congrArg some (by kernel_rfl))
 f329:=Tryz.func228.trans (congrArg some (by kernel_rfl))
 f330:=Tryz.func229.trans (congrArg some (by kernel_rfl))
 f331:=Tryz.func297.trans (congrArg some (by kernel_rfl))
 f332:=Tryz.func298.trans (congrArg some (by kernel_rfl))
 f343:=Tryz.func311.trans (congrArg some (by kernel_rfl))
 t0:=Tryz.underlying0
 a0:=Tryz.isAgg0
 z0:=Tryz.sizeOf0
 v0:=Tryz.zeroValue0
 t3:=Tryz.underlying3
 a3:=Tryz.isAgg3
 z3:=Tryz.sizeOf3
 v3:=Tryz.zeroValue3
 t4:=Tryz.underlying4
 a4:=Tryz.isAgg4
 z4:=Tryz.sizeOf4
 v4:=Tryz.zeroValue4
 t5:=Tryz.underlying5
 a5:=Tryz.isAgg5
 z5:=Tryz.sizeOf5
 v5:=Tryz.zeroValue5
 t9:=Tryz.underlying9
 a9:=Tryz.isAgg9
 z9:=Tryz.sizeOf9
 v9:=Tryz.zeroValue9
 t28:=Tryz.underlying22
 a28:=Tryz.isAgg22
 z28:=Tryz.sizeOf22
 v28:=Tryz.zeroValue22
 t46:=Tryz.underlying188
 a46:=Tryz.isAgg188
 z46:=Tryz.sizeOf188
 v46:=Tryz.zeroValue188
 t51:=Tryz.underlying185
 a51:=Tryz.isAgg185
 z51:=Tryz.sizeOf185
 v51:=Tryz.zeroValue185
 t53:=Tryz.underlying242
 a53:=Tryz.isAgg242
 z53:=Tryz.sizeOf242
 v53:=Tryz.zeroValue242
 t131:=Tryz.underlying117
 a131:=Tryz.isAgg117
 z131:=Tryz.sizeOf117
 v131:=Tryz.zeroValue117
 t182:=Tryz.underlying244
 a182:=Tryz.isAgg244
 z182:=Tryz.sizeOf244
 v182:=Tryz.zeroValue244
 t183:=Tryz.underlying245
 a183:=Tryz.isAgg245
 z183:=Tryz.sizeOf245
 v183:=Tryz.zeroValue245
 t218:=Tryz.underlying305
 a218:=Tryz.isAgg305
 z218:=Tryz.sizeOf305
 v218:=Tryz.zeroValue305
 t222:=Tryz.underlying205
 a222:=Tryz.isAgg205
 z222:=Tryz.sizeOf205
 v222:=Tryz.zeroValue205
 t228:=Tryz.underlying341
 a228:=Tryz.isAgg341
 z228:=Tryz.sizeOf341
 v228:=Tryz.zeroValue341
 t229:=Tryz.underlying342
 a229:=Tryz.isAgg342
 z229:=Tryz.sizeOf342
 v229:=Tryz.zeroValue342}
def Tryz.lays2_20_ren:Go.Shelf.Ren:=⟨fun|20=>152|n=>n,fun|22=>22|3=>3|4=>4|0=>0|n=>n,fun|n=>n⟩
theorem Tryz.lays2_20:Go.Proofs.Lays2.n20 Tryz.prog Tryz.lays2_20_ren:={
 mixed:=by kernel_rfl
 f20:=Tryz.func152.trans (congrArg some (by kernel_rfl))
 t0:=Tryz.underlying0
 a0:=Tryz.isAgg0
 z0:=Tryz.sizeOf0
 v0:=Tryz.zeroValue0
 t3:=Tryz.underlying3
 a3:=Tryz.isAgg3
 z3:=Tryz.sizeOf3
 v3:=Tryz.zeroValue3
 t4:=Tryz.underlying4
 a4:=Tryz.isAgg4
 z4:=Tryz.sizeOf4
 v4:=Tryz.zeroValue4
 t22:=Tryz.underlying22
 a22:=Tryz.isAgg22
 z22:=Tryz.sizeOf22
 v22:=Tryz.zeroValue22
 i3:=by kernel_rfl}
end Go.Proofs
namespace Go.Proofs.YticnbacafmeiiaaGreatDoor.K
open Go.RowKit Go.Shelf
def sp_f151:Ent:=specS [.ms 50000] [.arr 3 tI] (fun _ y=>(lenOk y.1)) (fun _ _=> .tu []) (fun _ y=>[.arr 3 tI (sortI y.1)])
theorem en_f151:Entered Tryz.prog 151:= .inr ⟨by decide,_,Tryz.func151,by kernel_rfl,by kernel_rfl⟩
def sp_f152:Ent:=specS [.ms 50000] [.arr 3 tI] (fun _ y=>(lenOk y.1)) (fun _ y=> .t (.sl tI) (Lib.compact y.1)) (fun _ _=>[.no])
theorem en_f152:Entered Tryz.prog 152:= .inr ⟨by decide,_,Tryz.func152,by kernel_rfl,by kernel_rfl⟩
theorem ms_f151:Meets Tryz.prog 151 (strip sp_f151):=
 meets_sortI (by decide) (Any.slices_Sort_int Tryz.lays189) (Any.slices_Sort_int_none Tryz.lays189)
theorem ms_f152:Meets Tryz.prog 152 (strip sp_f152):=
 meets_compactI (by decide) (Any.slices_Compact_int Tryz.lays2_20) (Any.slices_Compact_int_empty Tryz.lays2_20)
end Go.Proofs.YticnbacafmeiiaaGreatDoor.K
namespace Go.Proofs.YticnbacafmeiiaaGreatDoor.K
open Go.RowKit
noncomputable def tc_f34:TC:=(.sq (.reg (rT Tryz.f34 0)) (.sq (.reg (rT Tryz.f34 1)) (.sq (.reg (rT Tryz.f34 2)) .rt)))
def rv_f34:List (RV×Option Ty):=[((.t 8),some .bool)]
def g_f34:G:=⟨TYs,[],25,EL [(35,sp_f35)],keeps,(fun _ _=>none),IL [],RL []⟩
def r_f34 (p0:Policy)(p1:Keep)(p2 p3:Int):Option (V×List VO):=
 let a1:=decF p0 p1 p2 p3
 br (ilt a1 0) (some (.t .bool true,[])) (br (cIx p0.1 a1) (some (.t .bool ((lgt tyRule p0.1 (Int.toNat a1)).1),[])) none)
theorem e_f34 (p0:Policy)(p1:Keep)(p2 p3:Int):runF g_f34 tc_f34 rv_f34 false [.t tyPolicy p0,.t tyKeep p1,.t tI p2,.t tI p3] []=r_f34 p0 p1 p2 p3:=by kernel_rfl
theorem en_f34:Entered Tryz.prog 34:= .inr ⟨by decide,_,Tryz.func34,by kernel_rfl,by kernel_rfl⟩
theorem gk_f34:GOk Tryz.prog g_f34:=gok_of _ (gA (gC en_f35 ms_f35 gN))
theorem lk_f34:tc_f34.lok g_f34:=by repeat (first|exact trivial|refine ⟨?_, ?_⟩)
theorem allF_eq (y:Policy)(u:Keep)(p d:Int):allF y u p d=(ilt (decF y u p d) 0||(y.1.getD (decF y u p d).toNat tyRule.zero).1):=by
 unfold allF allL
 have h:=decF_eq (y:=y) (u:=u) (p:=p) (d:=d)
 cases hq:decL y.1 u p d with
 |none=>
  rw [hq] at h
  simp only at h
  rw [h]
  rfl
 |some k=>
  rw [hq] at h
  simp only at h
  rw [h]
  obtain ⟨h1,_⟩:=lastI_some.1 hq
  have e1:ilt (k:Int) 0=false:=by simp only [ilt,decide_eq_false_iff_not];omega
  simp only [e1,Bool.false_or,Int.toNat_natCast,List.getElem?_eq_getElem h1,Option.map_some,Option.getD_some,List.getD_eq_getElem?_getD]
theorem decF_ix {y:Policy}{u:Keep}{p d:Int}(h:ilt (decF y u p d) 0=false):cIx y.1 (decF y u p d)=true:=by
 have h2:=decF_lt (y:=y) (u:=u) (p:=p) (d:=d)
 simp only [ilt,decide_eq_false_iff_not] at h
 simp only [cIx,decide_eq_true_eq]
 omega
theorem s_f34 (y:Policy)(u:Keep)(p d:Int):r_f34 y u p d=some (.t .bool (allF y u p d),[]):=by
 simp only [r_f34,allF_eq]
 cases h:ilt (decF y u p d) 0 with
 |true=>simp [br_true]
 |false=>
  rw [decF_ix h,br_false,br_true,Bool.false_or,lgt]
def sp_f34:Ent:=spec (.pr tyPolicy (.pr tyKeep (.pr tI (.pr tI .nil)))) (fun x=>true) (fun x=>(.t .bool (allF x.1 x.2.1 x.2.2.1 x.2.2.2.1)))
theorem ms_f34:Meets Tryz.prog 34 (strip sp_f34):=meets_spec (R:=runF g_f34 tc_f34 rv_f34 false) (mG Tryz.func34 (by kernel_rfl) Tryz.ntmps34 (by kernel_rfl) gk_f34 lk_f34) fun x _=>(e_f34 x.1 x.2.1 x.2.2.1 x.2.2.2.1).trans (s_f34 x.1 x.2.1 x.2.2.1 x.2.2.2.1)
def earlyF (y:Policy)(u:Keep)(p d:Int):Int:=if polOk y=false then 25 else if validF u=false then 7 else if p<1∨4<p∨d<0∨40000<d then 2 else 0
def polLen4 (y:Policy)(_u:Keep)(_p _d:Int):Bool:=polLen y
def polLen3 (y:Policy)(_u:Keep)(_p:Int):Bool:=polLen y
noncomputable def tc_f32:TC:=(.sq (.reg (rT Tryz.f32 0)) (.sq (.sq (.reg (rT Tryz.f32 1)) (.sq (.reg (rT Tryz.f32 2)) (.cd (.t 13) (.sq (.reg (rT Tryz.f32 3)) .rt) .sk))) (.sq (.bk 0 (.sq (.reg (rT Tryz.f32 4)) (.cd (.t 15) (.sq (.reg (rT Tryz.f32 5)) .rt) (.sq (.reg (rT Tryz.f32 6)) (.cd (.t 19) (.sq (.reg (rT Tryz.f32 7)) .rt) .sk))))) (.sq (.reg (rT Tryz.f32 8)) .rt))))
def rv_f32:List (RV×Option Ty):=[((.t 8),some tI)]
def g_f32:G:=⟨TYs,[],34,EL [(21,sp_f21),(83,sp_f83)],keeps,(fun _ _=>none),IL [],RL []⟩
def r_f32 (p0:Policy)(p1:Keep)(p2 p3:Int):Option (V×List VO):=br (polLen p0) (br (ine (checkF p0) 0) (some (.t tI (checkF p0),[])) (br (!(validF p1)) (some (.t tI 7,[])) (br (ilt p2 1) (some (.t tI 2,[])) (br (igt p2 4) (some (.t tI 2,[])) (br (ilt p3 0) (some (.t tI 2,[])) (br (igt p3 40000) (some (.t tI 2,[])) (some (.t tI 0,[])))))))) none
theorem e_f32 (p0:Policy)(p1:Keep)(p2 p3:Int):runF g_f32 tc_f32 rv_f32 false [.t tyPolicy p0,.t tyKeep p1,.t tI p2,.t tI p3] []=r_f32 p0 p1 p2 p3:=by kernel_rfl
theorem en_f32:Entered Tryz.prog 32:= .inr ⟨by decide,_,Tryz.func32,by kernel_rfl,by kernel_rfl⟩
theorem gk_f32:GOk Tryz.prog g_f32:=gok_of _ (gA (gC en_f21 ms_f21 (gC en_f83 ms_f83 gN)))
theorem lk_f32:tc_f32.lok g_f32:=by repeat (first|exact trivial|refine ⟨?_, ?_⟩)
theorem s_f32 (y:Policy)(u:Keep)(p d:Int)(h:polLen4 y u p d=true):r_f32 y u p d=some (.t tI (earlyF y u p d),[]):=by
 have h:polLen y=true:=h
 simp only [r_f32,h,br_true,checkF,earlyF]
 cases polOk y with
 |false=>rfl
 |true=>
  simp only [if_true,show ine 0 0=false from rfl,br_false,Bool.true_eq_false,if_false]
  cases validF u with
  |false=>rfl
  |true=>
   simp only [Bool.not_true,br_false,Bool.true_eq_false,if_false]
   repeat' (refine br_intro ?_ ?_<;>intro _)
   all_goals simp only [igt,ilt,decide_eq_true_eq,decide_eq_false_iff_not] at*
   all_goals first
    |rw [if_pos (by omega)]
    |rw [if_neg (by omega)]
def sp_f32:Ent:=spec (.pr tyPolicy (.pr tyKeep (.pr tI (.pr tI .nil)))) (fun x=>(polLen4 x.1 x.2.1 x.2.2.1 x.2.2.2.1)) (fun x=>(.t tI (earlyF x.1 x.2.1 x.2.2.1 x.2.2.2.1)))
theorem ms_f32:Meets Tryz.prog 32 (strip sp_f32):=meets_spec (R:=runF g_f32 tc_f32 rv_f32 false) (mG Tryz.func32 (by kernel_rfl) Tryz.ntmps32 (by kernel_rfl) gk_f32 lk_f32) fun x hok=>(e_f32 x.1 x.2.1 x.2.2.1 x.2.2.2.1).trans (s_f32 x.1 x.2.1 x.2.2.1 x.2.2.2.1 hok)
def AllowedF (y:Policy)(u:Keep)(p d:Int):Bool×Int×Int:=if earlyF y u p d=0 then (allF y u p d,decF y u p d,0) else (false,0,earlyF y u p d)
noncomputable def dr_f13_0:List DO:=dT Tryz.f13 4
noncomputable def tc_f13:TC:=(.sq (.reg (rT Tryz.f13 0)) (.sq (.sq (.reg (rT Tryz.f13 1)) (.sq (.reg (rT Tryz.f13 2)) (.cd (.t 18) (.sq (.reg (rT Tryz.f13 3)) .rt) .sk))) (.sq (.dr dr_f13_0 [(0,[4]),(1,[5]),(2,[]),(3,[]),(4,[]),(5,[4]),(6,[5]),(7,[]),(8,[]),(9,[]),(10,[]),(11,[]),(12,[])] (.of [0,1,2,3,4,5,6,7,8,9,10,11,12])) .rt)))
def rv_f13:List (RV×Option Ty):=[((.t 8),some .bool),((.t 9),some tI),((.t 10),some tI)]
def g_f13:G:=⟨TYs,[],30,EL [(32,sp_f32),(34,sp_f34),(35,sp_f35)],keeps,(fun _ _=>none),IL [],RL []⟩
def r_f13 (p0:Policy)(p1:Keep)(p2 p3:Int):Option (V×List VO):=br (polLen4 p0 p1 p2 p3) (br (ine (earlyF p0 p1 p2 p3) 0) (some (.tu [(.t .bool false),(.t tI 0),(.t tI (earlyF p0 p1 p2 p3))],[])) (some (.tu [(.t .bool (allF p0 p1 p2 p3)),(.t tI (decF p0 p1 p2 p3)),(.t tI 0)],[]))) none
theorem e_f13 (p0:Policy)(p1:Keep)(p2 p3:Int):runF g_f13 tc_f13 rv_f13 false [.t tyPolicy p0,.t tyKeep p1,.t tI p2,.t tI p3] []=r_f13 p0 p1 p2 p3:=by kernel_rfl
theorem en_f13:Entered Tryz.prog 13:= .inr ⟨by decide,_,Tryz.func13,by kernel_rfl,by kernel_rfl⟩
theorem gk_f13:GOk Tryz.prog g_f13:=gok_of _ (gA (gC en_f32 ms_f32 (gC en_f34 ms_f34 (gC en_f35 ms_f35 gN))))
theorem lk_f13:tc_f13.lok g_f13:=by repeat (first|exact trivial|refine ⟨?_, ?_⟩)
theorem s_f13 (y:Policy)(u:Keep)(p d:Int)(h:polLen4 y u p d=true):r_f13 y u p d=some (.tu [.t .bool (AllowedF y u p d).1,.t tI (AllowedF y u p d).2.1,.t tI (AllowedF y u p d).2.2],[]):=by
 simp only [r_f13,h,br_true,AllowedF,ine_dec]
 by_cases h0:earlyF y u p d=0<;>simp [h0,br_true,br_false]
def sp_f13:Ent:=spec (.pr tyPolicy (.pr tyKeep (.pr tI (.pr tI .nil)))) (fun x=>(polLen4 x.1 x.2.1 x.2.2.1 x.2.2.2.1)) (fun x=>(.tu [(.t .bool ((AllowedF x.1 x.2.1 x.2.2.1 x.2.2.2.1).1)),(.t tI (((AllowedF x.1 x.2.1 x.2.2.1 x.2.2.2.1).2).1)),(.t tI (((AllowedF x.1 x.2.1 x.2.2.1 x.2.2.2.1).2).2))]))
theorem ms_f13:Meets Tryz.prog 13 (strip sp_f13):=meets_spec (R:=runF g_f13 tc_f13 rv_f13 false) (mG Tryz.func13 (by kernel_rfl) Tryz.ntmps13 (by kernel_rfl) gk_f13 lk_f13) fun x hok=>(e_f13 x.1 x.2.1 x.2.2.1 x.2.2.2.1).trans (s_f13 x.1 x.2.1 x.2.2.1 x.2.2.2.1 hok)
def daysF (y:Policy):List Int:=cutsP y.1
def fg_f84_0:Fg:=⟨[(3,none),(8,some (.sl tyRule)),(9,some tI),(10,some tI)],[(3,none),(6,none),(20,none),(24,none)]⟩
noncomputable def tb_f84_0:TC:=(.sq (.reg (rT Tryz.f84 3)) (.sq (.cd (.t 11) .sk (.fg ⟨[(3,none)],[(3,none),(6,none),(20,none),(24,none)]⟩ (.ex 0))) (.sq (.bk 1 (.sq (.reg (rT Tryz.f84 4)) (.reg (rT Tryz.f84 5)))) (.reg (rT Tryz.f84 6)))))
noncomputable def tc_f84:TC:=(.sq (.reg (rT Tryz.f84 0)) (.sq (.reg (rT Tryz.f84 1)) (.sq (.sq (.reg (rT Tryz.f84 2)) (.bk 0 (.nw 3 3 (.lp 0 fg_f84_0 tb_f84_0)))) (.sq (.reg (rT Tryz.f84 7)) (.sq (.reg (rT Tryz.f84 8)) (.sq (.reg (rT Tryz.f84 9)) .rt))))))
def rv_f84:List (RV×Option Ty):=[((.t 2),some (.sl tI))]
abbrev sh_f84_0:Sh:=⟨[(3,.ms 6),(8,.ty (.sl tyRule)),(9,.ty tI),(10,.ty tI)],[(3,.no),(6,.arr 3 tI),(20,.no),(24,.no)]⟩
def st_f84_0 (x8:List Rule)(x9 x10:Int)(y6:List Int):VS:=sh_f84_0.st ((),x8,x9,x10,()) ((),y6,(),(),())
abbrev sh_f84_0_e0:Sh:=⟨[(3,.ms 6)],[(3,.no),(6,.arr 3 tI),(20,.no),(24,.no)]⟩
def st_f84_0_e0 (y6:List Int):VS:=sh_f84_0_e0.st ((),()) ((),y6,(),(),())
def L_f84_0:VS->Option (Bool×List (Bool×Exit×VS)):=mkL sh_f84_0 (fun x y=>(rngOk x.2.1 x.2.2.1 x.2.2.2.1&&decide (y.2.1.length<=1+2*x.2.2.2.1))) (fun x y=>[(true,.exit 0,st_f84_0_e0 (y.2.1++ends (x.2.1.drop x.2.2.2.1.toNat)))])
def g_f84:G:=⟨TYs,[6],29,EL [(151,sp_f151),(152,sp_f152)],keeps,(Ls [L_f84_0]),IL [],RL []⟩
def b_f84_0 (x8:List Rule)(x9 x10:Int)(y6:List Int):Option (Exit×VS):=
 let a1:=(((((lgt tyRule x8 (Int.toNat x10)).2).2).2).2)
 br (ilt x10 x9) (br (cIx x8 x10) (br (cApp y6 ([a1.1,(a1.2).1]) 8) (some (.normal,st_f84_0 x8 x9 (iadd .i64 x10 1) (y6++([a1.1,(a1.2).1])))) none) none) (some (.exit 0,st_f84_0_e0 y6))
noncomputable def lp_f84_0 (x8:List Rule)(x9 x10:Int)(y6:List Int):Option (Exit×VS):=loopF (roundF g_f84 fg_f84_0 tb_f84_0) (st_f84_0 x8 x9 x10 y6)
noncomputable def n_f84_0 (x8:List Rule)(x9 x10:Int)(y6:List Int):Option (Exit×VS):=
 let a1:=(((((lgt tyRule x8 (Int.toNat x10)).2).2).2).2)
 br (ilt x10 x9) (br (cIx x8 x10) (br (cApp y6 ([a1.1,(a1.2).1]) 8) (lp_f84_0 x8 x9 (iadd .i64 x10 1) (y6++([a1.1,(a1.2).1]))) none) none) (some (.exit 0,st_f84_0_e0 y6))
def la_f84_0 (x8:List Rule)(x9 x10:Int)(y6:List Int):Option (Exit×VS):=some (.exit 0,st_f84_0_e0 (y6++ends (x8.drop x10.toNat)))
theorem be_f84_0 (x8:List Rule)(x9 x10:Int)(y6:List Int):roundF g_f84 fg_f84_0 tb_f84_0 (st_f84_0 x8 x9 x10 y6)=b_f84_0 x8 x9 x10 y6:=by kernel_rfl
theorem ln_f84_0 (x8:List Rule)(x9 x10:Int)(y6:List Int):lp_f84_0 x8 x9 x10 y6=n_f84_0 x8 x9 x10 y6:=(loopF_nxt _ _).trans (by
 rw [be_f84_0]
 simp only [b_f84_0,n_f84_0,nxt_br,nxt_n,nxt_r,nxt_e,nxt_0]
 rfl)
def r_f84 (p0:Policy):Option (V×List VO):=
 let a1:=(p0.1.drop (0:Int).toNat)
 let a2:=sortI ((([0])++ends a1)++([40001]))
 br (rngOk p0.1 (llen p0.1) (0:Int)&&decide (([0]).length<=1+2*(0:Int))) (br (cApp (([0])++ends a1) ([40001]) 8) (br (lenOk ((([0])++ends a1)++([40001]))) (br (lenOk a2) (some (.t (.sl tI) (Lib.compact a2),[])) none) none) none) none
theorem e_f84 (p0:Policy):runF g_f84 tc_f84 rv_f84 false [.t tyPolicy p0] []=r_f84 p0:=by kernel_rfl
theorem en_f84:Entered Tryz.prog 84:= .inr ⟨by decide,_,Tryz.func84,by kernel_rfl,by kernel_rfl⟩
theorem gk_f84:GOk Tryz.prog g_f84:=gok_of _ (gA (gC en_f151 ms_f151 (gC en_f152 ms_f152 gN)))
theorem l_f84_0 (x8:List Rule)(x9 x10:Int)(y6:List Int)(h:(rngOk x8 x9 x10&&decide (y6.length<=1+2*x10))=true):lp_f84_0 x8 x9 x10 y6=la_f84_0 x8 x9 x10 y6:=by
 simp only [Bool.and_eq_true,decide_eq_true_eq] at h
 obtain ⟨h0,h4⟩:=h
 obtain ⟨rfl,h3,k,rfl,hk⟩:=rng_k h0
 clear h0
 revert y6
 refine range_ind x8 (fun k=> ∀ y6:List Int,(y6.length:Int)<=1+2*(k:Int)->lp_f84_0 x8 (x8.length:Int) (k:Int) y6=la_f84_0 x8 (x8.length:Int) (k:Int) y6) ?_ ?_ k hk
 ·intro y6 _
  rw [ln_f84_0]
  simp [n_f84_0,la_f84_0,ilt_nat,br_false,ends]
 ·intro k hk ih y6 hy
  rw [ln_f84_0]
  simp only [n_f84_0,ilt_nat,cIx_nat,hk,decide_true,br_true,Int.toNat_natCast,add1 (k:=k),lgt_get (y:=tyRule) hk]
  rw [cApp_ok (by simp;omega) (by omega),br_true,ih _ (by simp;omega)]
  simp only [la_f84_0,Int.toNat_natCast,List.drop_eq_getElem_cons hk,ends,List.flatMap_cons,List.append_assoc]
theorem lo_f84_0: ∀ S l p,g_f84.L 0 (fgt fg_f84_0 S)=some (true,l)->pickA l=some p->loopF (roundF g_f84 fg_f84_0 tb_f84_0) S=some p:=
 lok_of (s:=sh_f84_0) ⟨by decide,by decide⟩ (by kernel_rfl) fun x y hok p hp=>by
 simp only [pickA_br,pickA_one] at hp
 exact (l_f84_0 x.2.1 x.2.2.1 x.2.2.2.1 y.2.1 (by simpa using hok)).trans hp
theorem lk_f84:tc_f84.lok g_f84:=by
 repeat (first|exact trivial|exact lo_f84_0|refine ⟨?_, ?_⟩)
theorem ends_length (l:List Rule):(ends l).length=2*l.length:=by
 induction l with
 |nil=>rfl
 |cons a l ih=>simp only [ends,List.flatMap_cons,List.length_append,List.length_cons,List.length_nil] at ih ⊢; omega
theorem s_f84 (y:Policy)(h:polLen y=true):r_f84 y=some (.t (.sl tI) (daysF y),[]):=by
 simp only [polLen,lenOk5,Bool.and_eq_true,decide_eq_true_eq] at h
 have e1:rngOk y.1 (llen y.1) 0=true:=rng_0 h.1
 simp only [r_f84,e1,Bool.true_and]
 have hl:=ends_length y.1
 have e2:decide ((([0]:List Int).length:Int)<=1+2*0)=true:=by decide
 simp only [e2,br_true,Int.toNat_zero,List.drop_zero]
 rw [cApp_ok (by simp;omega) (by omega),br_true]
 rw [show lenOk (([0]++ends y.1)++[40001])=true by simp [lenOk];omega]
 simp only [br_true]
 rw [show lenOk (sortI (([0]++ends y.1)++[40001]))=true by simp [lenOk,sortI];omega]
 rfl
def sp_f84:Ent:=spec (.pr tyPolicy .nil) (fun x=>(polLen x.1)) (fun x=>(.t (.sl tI) (daysF x.1)))
theorem ms_f84:Meets Tryz.prog 84 (strip sp_f84):=meets_spec (R:=runF g_f84 tc_f84 rv_f84 false) (mG Tryz.func84 (by kernel_rfl) Tryz.ntmps84 (by kernel_rfl) gk_f84 lk_f84) fun x hok=>(e_f84 x.1).trans (s_f84 x.1 hok)
end Go.Proofs.YticnbacafmeiiaaGreatDoor.K
namespace Go.Proofs.YticnbacafmeiiaaGreatDoor.K
open Go.RowKit
noncomputable section
abbrev zK:Keep:=(0,(0,()))
abbrev egAt (l:List Keep)(k:Nat):Keep:=l.getD k zK
theorem prev_ix {k:Nat}(hk:k<100000)(h0:k≠0):isub .i64 (k:Int) 1=((k-1:Nat):Int):=by
 rw [isub_in (by omega)]
 omega
def seOk (l:List Keep)(k:Nat):Bool:=keyI (egAt l k).1&&(!ilt (egAt l k).2.1 0&&(!ige (egAt l k).2.1 4294967296&&(decide (k=0)|| !ige (egAt l (k-1)).1 (egAt l k).1)))
def seUp (l:List Keep)(k:Nat):Bool:=(List.range' k (l.length-k)).all (seOk l)
theorem seUp_end (l:List Keep):seUp l l.length=true:=by
 unfold seUp
 rw [Nat.sub_self]
 rfl
theorem seUp_step {l:List Keep}{k:Nat}(hk:k<l.length):seUp l k=(seOk l k&&seUp l (k+1)):=by
 have:l.length-k=(l.length-(k+1))+1:=by omega
 unfold seUp
 rw [this,List.range'_succ,List.all_cons]
def exG (x:Exception):Bool:=validF x.1&&(!ilt x.2.1 1&&(!igt x.2.1 4&&(namedG x.2.2.1&&(!ilt x.2.2.2.1.1 0&&(!ige x.2.2.2.1.1 x.2.2.2.1.2.1&&(!igt x.2.2.2.1.2.1 40001&&(!igt (llen x.2.2.2.2.1) 8&&seUp x.2.2.2.2.1 0)))))))
def exZ (x:Exception):Int:=bif exG x then 0 else 26
theorem exZ_ne (x:Exception):ine (exZ x) 0= !exG x:=by
 unfold exZ
 cases exG x<;>rfl
def exLn1 (x:Exception):Bool:=nameG x.2.2.1
theorem se_tree0 {β:Type}(c1 c2 c3 u:Bool)(R E:Option β):br (!c1) R (br c2 R (br c3 R (br (!u) R E)))=br (!((c1&&(!c2&&(!c3&&true)))&&u)) R E:=by
 cases c1<;>cases c2<;>cases c3<;>rfl
theorem se_tree1 {β:Type}(c1 c2 c3 c4 u:Bool)(R E:Option β):br (!c1) R (br c2 R (br c3 R (br c4 R (br (!u) R E))))=br (!((c1&&(!c2&&(!c3&& !c4)))&&u)) R E:=by
 cases c1<;>cases c2<;>cases c3<;>cases c4<;>rfl
noncomputable def dr_f46_0:List DO:=dT Tryz.f46 8
def fg_f46_0:Fg:=⟨[(1,none),(51,some (.sl tyKeep)),(52,some tI),(53,some tI)],[(1,some tyException)]⟩
noncomputable def tb_f46_0:TC:=(.sq (.reg (rT Tryz.f46 6)) (.sq (.cd (.t 54) .sk (.fg ⟨[],[]⟩ (.ex 0))) (.sq (.bk 1 (.sq (.reg (rT Tryz.f46 7)) (.sq (.dr dr_f46_0 [(0,[4]),(1,[4]),(2,[]),(3,[]),(4,[]),(5,[4]),(6,[4]),(7,[]),(8,[]),(9,[]),(10,[4]),(11,[4]),(12,[]),(13,[]),(14,[]),(15,[]),(16,[]),(17,[]),(18,[1]),(19,[1]),(20,[]),(21,[]),(22,[]),(23,[]),(24,[]),(25,[4]),(26,[4]),(27,[]),(28,[]),(29,[])] (.of [0,1,2,3,4,5,6,7,8,9,10,11,12,13,14,15,16,17,18,19,20,21,22,23,24,25,26,27,28,29])) (.cd (.t 87) (.sq (.reg (rT Tryz.f46 9)) (.fg ⟨[(2,some tI)],[]⟩ .rt)) .sk)))) (.reg (rT Tryz.f46 10)))))
noncomputable def tc_f46:TC:=(.sq (.reg (rT Tryz.f46 0)) (.sq (.sq (.reg (rT Tryz.f46 1)) (.cd (.t 24) (.sq (.reg (rT Tryz.f46 2)) .rt) .sk)) (.sq (.sq (.reg (rT Tryz.f46 3)) (.cd (.t 49) (.sq (.reg (rT Tryz.f46 4)) .rt) .sk)) (.sq (.sq (.reg (rT Tryz.f46 5)) (.bk 0 (.lp 0 fg_f46_0 tb_f46_0))) (.sq (.reg (rT Tryz.f46 11)) .rt)))))
def rv_f46:List (RV×Option Ty):=[((.t 2),some tI)]
abbrev sh_f46_0:Sh:=⟨[(1,.ptr 1 0),(51,.ty (.sl tyKeep)),(52,.ty tI),(53,.ty tI)],[(1,.box tyException)]⟩
def st_f46_0 (x51:List Keep)(x52 x53:Int)(y1:Exception):VS:=sh_f46_0.st ((),x51,x52,x53,()) (y1,())
abbrev sh_f46_0_ret:Sh:=⟨[(2,.ty tI)],[]⟩
def st_f46_0_ret (x2:Int):VS:=sh_f46_0_ret.st (x2,()) ()
abbrev sh_f46_0_e0:Sh:=⟨[],[]⟩
def st_f46_0_e0  : VS:=sh_f46_0_e0.st () ()
def L_f46_0:VS->Option (Bool×List (Bool×Exit×VS)):=mkL sh_f46_0 (fun x y=>((x.2.1==y.1.2.2.2.2.1)&&rngOk x.2.1 x.2.2.1 x.2.2.2.1)) (fun x y=>[((!seUp x.2.1 x.2.2.2.1.toNat),.ret,st_f46_0_ret (26)),(true,.exit 0,st_f46_0_e0)])
def g_f46:G:=⟨TYs,[],89,EL [(37,sp_f37),(83,sp_f83),(95,sp_f95)],keeps,(Ls [L_f46_0]),IL [],RL []⟩
def b_f46_0 (x51:List Keep)(x52 x53:Int)(y1:Exception):Option (Exit×VS):=
 let a1:=lgt tyKeep x51 (Int.toNat x53)
 br (ilt x53 x52) (br (cIx x51 x53) (br (!(keyI (a1.1))) (some (.ret,st_f46_0_ret 26)) (br (ilt ((a1.2).1) 0) (some (.ret,st_f46_0_ret 26)) (br (ige ((a1.2).1) 4294967296) (some (.ret,st_f46_0_ret 26)) (br (igt x53 0) (br (cIx y1.2.2.2.2.1 (isub .i64 x53 1)) (br (ige ((lgt tyKeep y1.2.2.2.2.1 (Int.toNat (isub .i64 x53 1))).1) (a1.1)) (some (.ret,st_f46_0_ret 26)) (some (.normal,st_f46_0 x51 x52 (iadd .i64 x53 1) y1))) none) (some (.normal,st_f46_0 x51 x52 (iadd .i64 x53 1) y1)))))) none) (some (.exit 0,st_f46_0_e0))
noncomputable def lp_f46_0 (x51:List Keep)(x52 x53:Int)(y1:Exception):Option (Exit×VS):=loopF (roundF g_f46 fg_f46_0 tb_f46_0) (st_f46_0 x51 x52 x53 y1)
noncomputable def n_f46_0 (x51:List Keep)(x52 x53:Int)(y1:Exception):Option (Exit×VS):=
 let a1:=lgt tyKeep x51 (Int.toNat x53)
 br (ilt x53 x52) (br (cIx x51 x53) (br (!(keyI (a1.1))) (some (.ret,st_f46_0_ret 26)) (br (ilt ((a1.2).1) 0) (some (.ret,st_f46_0_ret 26)) (br (ige ((a1.2).1) 4294967296) (some (.ret,st_f46_0_ret 26)) (br (igt x53 0) (br (cIx y1.2.2.2.2.1 (isub .i64 x53 1)) (br (ige ((lgt tyKeep y1.2.2.2.2.1 (Int.toNat (isub .i64 x53 1))).1) (a1.1)) (some (.ret,st_f46_0_ret 26)) (lp_f46_0 x51 x52 (iadd .i64 x53 1) y1)) none) (lp_f46_0 x51 x52 (iadd .i64 x53 1) y1))))) none) (some (.exit 0,st_f46_0_e0))
def la_f46_0 (x51:List Keep)(x52 x53:Int)(y1:Exception):Option (Exit×VS):=br (!seUp x51 x53.toNat) (some (.ret,st_f46_0_ret (26)))<|some (.exit 0,st_f46_0_e0)
theorem be_f46_0 (x51:List Keep)(x52 x53:Int)(y1:Exception):roundF g_f46 fg_f46_0 tb_f46_0 (st_f46_0 x51 x52 x53 y1)=b_f46_0 x51 x52 x53 y1:=by kernel_rfl
theorem ln_f46_0 (x51:List Keep)(x52 x53:Int)(y1:Exception):lp_f46_0 x51 x52 x53 y1=n_f46_0 x51 x52 x53 y1:=(loopF_nxt _ _).trans (by
 rw [be_f46_0]
 simp only [b_f46_0,n_f46_0,nxt_br,nxt_n,nxt_r,nxt_e,nxt_0]
 rfl)
def r_f46 (p0:Exception):Option (V×List VO):=br (!(validF p0.1)) (some (.t tI 26,[])) (br (ilt p0.2.1 1) (some (.t tI 26,[])) (br (igt p0.2.1 4) (some (.t tI 26,[])) (br (nameG p0.2.2.1) (br (!(namedG p0.2.2.1)) (some (.t tI 26,[])) (br (ilt p0.2.2.2.1.1 0) (some (.t tI 26,[])) (br (ige p0.2.2.2.1.1 p0.2.2.2.1.2.1) (some (.t tI 26,[])) (br (igt p0.2.2.2.1.2.1 40001) (some (.t tI 26,[])) (br (igt (llen p0.2.2.2.2.1) 8) (some (.t tI 26,[])) (br ((p0.2.2.2.2.1==p0.2.2.2.2.1)&&rngOk p0.2.2.2.2.1 (llen p0.2.2.2.2.1) (0:Int)) (br (!seUp p0.2.2.2.2.1 (0:Int).toNat) (some (.t tI (26),[])) (some (.t tI 0,[]))) none)))))) none)))
theorem e_f46 (p0:Exception):runF g_f46 tc_f46 rv_f46 false [.t tyException p0] []=r_f46 p0:=by kernel_rfl
theorem en_f46:Entered Tryz.prog 46:= .inr ⟨by decide,_,Tryz.func46,by kernel_rfl,by kernel_rfl⟩
theorem gk_f46:GOk Tryz.prog g_f46:=gok_of _ (gA (gC en_f37 ms_f37 (gC en_f83 ms_f83 (gC en_f95 ms_f95 gN))))
theorem l_f46_0 (x51:List Keep)(x52 x53:Int)(y1:Exception)(h:((x51==y1.2.2.2.2.1)&&rngOk x51 x52 x53)=true):lp_f46_0 x51 x52 x53 y1=la_f46_0 x51 x52 x53 y1:=by
 simp only [Bool.and_eq_true,beq_iff_eq] at h
 obtain ⟨hx,h0⟩:=h
 obtain ⟨rfl,h3,k,rfl,hk⟩:=rng_k h0
 clear h0
 refine range_ind x51 (fun k=>lp_f46_0 x51 (x51.length:Int) (k:Int) y1=la_f46_0 x51 (x51.length:Int) (k:Int) y1) ?_ ?_ k hk
 ·rw [ln_f46_0]
  simp only [n_f46_0,la_f46_0,ilt_nat,Nat.lt_irrefl,decide_false,br_false,Int.toNat_natCast,seUp_end,Bool.not_true]
 ·intro k hk ih
  rw [ln_f46_0]
  simp only [n_f46_0,ilt_nat,cIx_nat,hk,decide_true,br_true,Int.toNat_natCast,add1 (k:=k),ih, ← hx]
  simp only [la_f46_0,Int.toNat_natCast,seUp_step hk]
  by_cases hk0:k=0
  ·subst hk0
   rw [show igt ((0:Nat):Int) 0=false from rfl]
   simp only [br_false]
   exact se_tree0 ..
  ·rw [show igt (k:Int) 0=true from decide_eq_true (by omega),prev_ix (by omega) hk0]
   simp only [br_true,cIx_nat,show k-1<x51.length by omega,decide_true,Int.toNat_natCast]
   unfold seOk
   rw [show decide (k=0)=false from decide_eq_false hk0,Bool.false_or]
   exact se_tree1 ..
theorem lo_f46_0: ∀ S l p,g_f46.L 0 (fgt fg_f46_0 S)=some (true,l)->pickA l=some p->loopF (roundF g_f46 fg_f46_0 tb_f46_0) S=some p:=
 lok_of (s:=sh_f46_0) ⟨by decide,by decide⟩ (by kernel_rfl) fun x y hok p hp=>by
 simp only [pickA_br,pickA_one] at hp
 exact (l_f46_0 x.2.1 x.2.2.1 x.2.2.2.1 y.1 (by simpa using hok)).trans hp
theorem lk_f46:tc_f46.lok g_f46:=by
 repeat (first|exact trivial|exact lo_f46_0|refine ⟨?_, ?_⟩)
theorem s_f46 (x:Exception)(h:exLn1 x=true):r_f46 x=some (.t tI (exZ x),[]):=by
 have h:nameG x.2.2.1=true:=h
 simp only [r_f46,h,br_true,beq_self_eq_true,Bool.true_and,exZ,exG,Int.toNat_zero]
 cases g:igt (llen x.2.2.2.2.1) 8 with
 |true=>cases validF x.1<;>cases ilt x.2.1 1<;>cases igt x.2.1 4<;>cases namedG x.2.2.1<;>cases ilt x.2.2.2.1.1 0<;>cases ige x.2.2.2.1.1 x.2.2.2.1.2.1<;>cases igt x.2.2.2.1.2.1 40001<;>rfl
 |false=>
  simp only [igt,llen,decide_eq_false_iff_not] at g
  rw [rng_0 (by omega)]
  cases validF x.1<;>cases ilt x.2.1 1<;>cases igt x.2.1 4<;>cases namedG x.2.2.1<;>cases ilt x.2.2.2.1.1 0<;>cases ige x.2.2.2.1.1 x.2.2.2.1.2.1<;>cases igt x.2.2.2.1.2.1 40001<;>cases seUp x.2.2.2.2.1 0<;>rfl
def sp_f46:Ent:=spec (.pr tyException .nil) (fun x=>(exLn1 x.1)) (fun x=>(.t tI (exZ x.1)))
theorem ms_f46:Meets Tryz.prog 46 (strip sp_f46):=meets_spec (R:=runF g_f46 tc_f46 rv_f46 false) (mG Tryz.func46 (by kernel_rfl) Tryz.ntmps46 (by kernel_rfl) gk_f46 lk_f46) fun x hok=>(e_f46 x.1).trans (s_f46 x.1 hok)
def exP (x:Exception):List ValT:=[intT x.1.1,intT x.1.2.1,intT x.2.1,txtT x.2.2.1,intT x.2.2.2.1.1,intT x.2.2.2.1.2.1]
def exBy (x:Exception):List Int×Int:=bif exG x then encE (lstT (exP x)) else ([],26)
theorem exG_of {x:Exception}(h:exG x=true):i64Ok x.1.1=true/\i64Ok x.1.2.1=true/\i64Ok x.2.1=true/\x.2.2.1.size<=32/\i64Ok x.2.2.2.1.1=true/\i64Ok x.2.2.2.1.2.1=true/\x.2.2.2.2.1.length<=8/\seUp x.2.2.2.2.1 0=true:=by
 simp only [exG,Bool.and_eq_true,Bool.not_eq_true',ilt,igt,ige,llen,decide_eq_false_iff_not] at h
 obtain ⟨h1,h2,h3,h4,h5,h6,h7,h8,h9⟩:=h
 have hb:=valid_bits h1
 exact ⟨decide_eq_true (by omega),decide_eq_true (by omega),decide_eq_true (by omega),named_size h4,decide_eq_true (by omega),decide_eq_true (by omega),by omega,h9⟩
theorem okT_exP (n:Nat){x:Exception}(h:exG x=true): ∀ z∈exP x,okT (n+2) z=true:=by
 obtain ⟨h1,h2,h3,h4,h5,h6,h7,h8⟩:=exG_of h
 intro z hz
 simp only [exP,List.mem_cons,List.not_mem_nil,or_false] at hz
 rcases hz with rfl|rfl|rfl|rfl|rfl|rfl
 ·exact okT_int _ _
 ·exact okT_int _ _
 ·exact okT_int _ _
 ·exact okT_txt _ (by omega)
 ·exact okT_int _ _
 ·exact okT_int _ _
theorem enc_exP {x:Exception}(h:exG x=true):(encT (lstT (exP x))).length<=1000:=by
 obtain ⟨h1,h2,h3,h4,h5,h6,h7,h8⟩:=exG_of h
 have e0:=enc_lst (exP x)
 have e1:=enc_int x.1.1
 have e2:=enc_int x.1.2.1
 have e3:=enc_int x.2.1
 have e4:=enc_txt x.2.2.1
 have e5:=enc_int x.2.2.2.1.1
 have e6:=enc_int x.2.2.2.1.2.1
 simp only [exP,encL_cons,encL_nil,List.length_append,List.length_nil] at e0
 simp only [exP]
 omega
theorem ok_exP {x:Exception}(h:exG x=true):encOk (lstT (exP x))=true:=by
 have:=enc_exP h
 simp only [encOk,Bool.and_eq_true,decide_eq_true_eq]
 exact ⟨okT_lst (by simp [exP]) (okT_exP 9 h),by omega⟩
theorem cop_exP {x:Exception}(h:exG x=true):copOk (exP x)=true:=copLF_all (n:=11) (by simp [exP]) (okT_exP 9 h)
theorem exBy_of {x:Exception}(h:exG x=true):exBy x=(encT (lstT (exP x)),0):=by
 have:=enc_exP h
 rw [exBy,h,cond_true,encE,if_neg (by omega)]
theorem exBy_len (x:Exception):lenB (exBy x).1=true:=by
 cases h:exG x with
 |true=>
  rw [exBy_of h]
  exact decide_eq_true (show (encT (lstT (exP x))).length<=100000 by have:=enc_exP h;omega)
 |false=>
  rw [exBy,h]
  rfl
noncomputable def dr_f36_0:List DO:=dT Tryz.f36 4
noncomputable def tc_f36:TC:=(.sq (.reg (rT Tryz.f36 0)) (.sq (.sq (.reg (rT Tryz.f36 1)) (.sq (.reg (rT Tryz.f36 2)) (.cd (.t 8) (.sq (.reg (rT Tryz.f36 3)) .rt) .sk))) (.sq (.dr dr_f36_0 [(0,[1]),(1,[1]),(2,[1]),(3,[]),(4,[1]),(5,[1]),(6,[1]),(7,[]),(8,[1]),(9,[1]),(10,[]),(11,[1]),(12,[1]),(13,[]),(14,[1]),(15,[1]),(16,[1]),(17,[]),(18,[1]),(19,[1]),(20,[1]),(21,[]),(22,[]),(23,[]),(24,[]),(25,[]),(26,[]),(27,[]),(28,[])] (.of [0,1,2,3,4,5,6,7,8,9,10,11,12,13,14,15,16,17,18,19,20,21,22,23,24,25,26,27,28])) .rt)))
def rv_f36:List (RV×Option Ty):=[((.t 2),some (.sl (.int .u8))),((.t 3),some tI)]
def g_f36:G:=⟨TYs,[],37,EL [(46,sp_f46),(87,sp_f87),(88,sp_f88),(89,sp_f89),(90,sp_f90)],keeps,(fun _ _=>none),IL [],RL []⟩
def r_f36 (p0:Exception):Option (V×List VO):=
 let a6:=((intT p0.1.1).2)
 let a4:=intT p0.1.2.1
 let a7:=((intT p0.2.1).2)
 let a5:=txtT p0.2.2.1
 let a3:=intT p0.2.2.2.1.1
 let a2:=intT p0.2.2.2.1.2.1
 let a1:=(lstT ([((intT p0.1.1).1,(a6.1,((a6.2).1,((List.map Val.of (List.map Val.un (((a6.2).2).1))),())))),(a4.1,((a4.2).1,(((a4.2).2).1,((List.map Val.of (List.map Val.un ((((a4.2).2).2).1))),())))),((intT p0.2.1).1,(a7.1,((a7.2).1,((List.map Val.of (List.map Val.un (((a7.2).2).1))),())))),(a5.1,((a5.2).1,(((a5.2).2).1,((List.map Val.of (List.map Val.un ((((a5.2).2).2).1))),())))),(a3.1,((a3.2).1,(((a3.2).2).1,((List.map Val.of (List.map Val.un ((((a3.2).2).2).1))),())))),(a2.1,((a2.2).1,(((a2.2).2).1,((List.map Val.of (List.map Val.un ((((a2.2).2).2).1))),()))))]))
 br (exLn1 p0) (br (ine (exZ p0) 0) (some (.tu [(.t (.sl (.int .u8)) ([]:List Int)),(.t tI (exZ p0))],[])) (br (i64Ok p0.1.1) (br (i64Ok p0.1.2.1) (br (i64Ok p0.2.1) (br (bytesOk p0.2.2.1) (br (i64Ok p0.2.2.2.1.1) (br (i64Ok p0.2.2.2.1.2.1) (br (copOk ([((intT p0.1.1).1,(a6.1,((a6.2).1,((List.map Val.of (List.map Val.un (((a6.2).2).1))),())))),(a4.1,((a4.2).1,(((a4.2).2).1,((List.map Val.of (List.map Val.un ((((a4.2).2).2).1))),())))),((intT p0.2.1).1,(a7.1,((a7.2).1,((List.map Val.of (List.map Val.un (((a7.2).2).1))),())))),(a5.1,((a5.2).1,(((a5.2).2).1,((List.map Val.of (List.map Val.un ((((a5.2).2).2).1))),())))),(a3.1,((a3.2).1,(((a3.2).2).1,((List.map Val.of (List.map Val.un ((((a3.2).2).2).1))),())))),(a2.1,((a2.2).1,(((a2.2).2).1,((List.map Val.of (List.map Val.un ((((a2.2).2).2).1))),()))))])) (br (encOk a1) (some (.tu [(.t (.sl (.int .u8)) ((encE a1).1)),(.t tI ((encE a1).2))],[])) none) none) none) none) none) none) none) none)) none
theorem e_f36 (p0:Exception):runF g_f36 tc_f36 rv_f36 false [.t tyException p0] []=r_f36 p0:=by kernel_rfl
theorem en_f36:Entered Tryz.prog 36:= .inr ⟨by decide,_,Tryz.func36,by kernel_rfl,by kernel_rfl⟩
theorem gk_f36:GOk Tryz.prog g_f36:=gok_of _ (gA (gC en_f46 ms_f46 (gC en_f87 ms_f87 (gC en_f88 ms_f88 (gC en_f89 ms_f89 (gC en_f90 ms_f90 gN))))))
theorem lk_f36:tc_f36.lok g_f36:=by repeat (first|exact trivial|refine ⟨?_, ?_⟩)
theorem s_f36 (x:Exception)(h:exLn1 x=true):r_f36 x=some (.tu [.t (.sl (.int .u8)) (exBy x).1,.t tI (exBy x).2],[]):=by
 cases hv:exG x with
 |true=>
  obtain ⟨h1,h2,h3,h4,h5,h6,h7,h8⟩:=exG_of hv
  have hp:=cop_exP hv
  have he:=ok_exP hv
  simp only [exP] at hp he
  have e:exBy x=encE (lstT (exP x)):=by rw [exBy,hv,cond_true]
  rw [e]
  simp only [r_f36,h,exZ_ne,hv,Bool.not_true,br_true,br_false,h1,h2,h3,bytesOk_of h4,h5,h6,val_eta,hp,he,exP]
 |false=>
  have e:exBy x=([],26):=by rw [exBy,hv,cond_false]
  have e2:exZ x=26:=by rw [exZ,hv,cond_false]
  rw [e]
  simp only [r_f36,h,br_true,e2]
  rw [show ine 26 0=true from rfl,br_true]
def sp_f36:Ent:=spec (.pr tyException .nil) (fun x=>(exLn1 x.1)) (fun x=>(.tu [(.t (.sl (.int .u8)) ((exBy x.1).1)),(.t tI ((exBy x.1).2))]))
theorem ms_f36:Meets Tryz.prog 36 (strip sp_f36):=meets_spec (R:=runF g_f36 tc_f36 rv_f36 false) (mG Tryz.func36 (by kernel_rfl) Tryz.ntmps36 (by kernel_rfl) gk_f36 lk_f36) fun x hok=>(e_f36 x.1).trans (s_f36 x.1 hok)
def covX (x:Exception)(u:Keep)(p:Int)(s:ByteArray)(d:Int):Bool:=(and (ieq x.1.1 u.1) (and (ieq x.1.2.1 u.2.1) true))&&(ieq x.2.1 p&&(seq x.2.2.1 s&&(ile x.2.2.2.1.1 d&&ilt d x.2.2.2.1.2.1)))
noncomputable def tc_f96:TC:=(.sq (.reg (rT Tryz.f96 0)) (.sq (.reg (rT Tryz.f96 1)) .rt))
def rv_f96:List (RV×Option Ty):=[((.t 10),some .bool)]
def g_f96:G:=⟨TYs,[],41,EL [],keeps,(fun _ _=>none),IL [],RL []⟩
def r_f96 (p0:Exception)(p1:Keep)(p2:Int)(p3:ByteArray)(p4:Int):Option (V×List VO):=br (and (ieq p0.1.1 p1.1) (and (ieq p0.1.2.1 p1.2.1) true)) (br (ieq p0.2.1 p2) (br (seq p0.2.2.1 p3) (br (ile p0.2.2.2.1.1 p4) (some (.t .bool (ilt p4 p0.2.2.2.1.2.1),[])) (some (.t .bool false,[]))) (some (.t .bool false,[]))) (some (.t .bool false,[]))) (some (.t .bool false,[]))
theorem e_f96 (p0:Exception)(p1:Keep)(p2:Int)(p3:ByteArray)(p4:Int):runF g_f96 tc_f96 rv_f96 false [.t tyException p0,.t tyKeep p1,.t tI p2,.t .str p3,.t tI p4] []=r_f96 p0 p1 p2 p3 p4:=by kernel_rfl
theorem en_f96:Entered Tryz.prog 96:= .inr ⟨by decide,_,Tryz.func96,by kernel_rfl,by kernel_rfl⟩
theorem gk_f96:GOk Tryz.prog g_f96:=gok_of _ (fun p hp=>by cases hp)
theorem lk_f96:tc_f96.lok g_f96:=by repeat (first|exact trivial|refine ⟨?_, ?_⟩)
theorem s_f96 (x:Exception)(u:Keep)(p:Int)(s:ByteArray)(d:Int):r_f96 x u p s d=some (.t .bool (covX x u p s d),[]):=by
 unfold r_f96 covX
 cases (and (ieq x.1.1 u.1) (and (ieq x.1.2.1 u.2.1) true))<;>cases ieq x.2.1 p<;>cases seq x.2.2.1 s<;>cases ile x.2.2.2.1.1 d<;>rfl
def sp_f96:Ent:=spec (.pr tyException (.pr tyKeep (.pr tI (.pr .str (.pr tI .nil))))) (fun x=>true) (fun x=>(.t .bool (covX x.1 x.2.1 x.2.2.1 x.2.2.2.1 x.2.2.2.2.1)))
theorem ms_f96:Meets Tryz.prog 96 (strip sp_f96):=meets_spec (R:=runF g_f96 tc_f96 rv_f96 false) (mG Tryz.func96 (by kernel_rfl) Tryz.ntmps96 (by kernel_rfl) gk_f96 lk_f96) fun x _=>(e_f96 x.1 x.2.1 x.2.2.1 x.2.2.2.1 x.2.2.2.2.1).trans (s_f96 x.1 x.2.1 x.2.2.1 x.2.2.2.1 x.2.2.2.2.1)
def valLn (x:Exception)(o:Dice):Bool:=exLn1 x&&idxOk1 o.1 0
def valB (b:List Int)(o:Dice)(s:Keep):Bool:=ieq s.2.1 (sumB b)&&hasF o.1 s.1
def valN (x:Exception)(o:Dice):Nat:=(x.2.2.2.2.1.filter (valB (exBy x).1 o)).length
def valX (x:Exception)(o:Dice):Bool:=exG x&&(!ilt o.2.1 1&&ige ((valN x o:Nat):Int) o.2.1)
end
end Go.Proofs.YticnbacafmeiiaaGreatDoor.K
namespace Go.Proofs.YticnbacafmeiiaaGreatDoor.K
open Go.RowKit
def Stand (w w':World):Prop:=w.heap.size<=w'.heap.size∧ ∀ b o,b<w.heap.size->w'.cell? ⟨b,o,none⟩=w.cell? ⟨b,o,none⟩
theorem Stand.below {w w':World}(h:Below w.heap.size w w'):Stand w w':=⟨h.size,fun b o hb=>h.cell (p:=⟨b,o,none⟩) hb⟩
theorem Stand.trans {a b c:World}(h:Stand a b)(k:Stand b c):Stand a c:=⟨Nat.le_trans h.1 k.1,fun x o hx=>(k.2 x o (Nat.lt_of_lt_of_le hx h.1)).trans (h.2 x o hx)⟩
theorem grown_below {w w':World}(h:Below w.heap.size w w'):w.grownBy w' none:=⟨h.os,h.tape,h.output,h.size,fun j hj _=>h.block j hj⟩
theorem c_stand {X:Nat->Nat->Prop}{w w':World}{σ:Pl}{d:D}{u:Value}(h:C X w σ d u)(k:Stand w w'):C X w' σ d u:=C.ext0 ⟨k.1,fun b o hb hx=>⟨hx,k.2 b o hb⟩⟩ _ _ (fun _ _=>rfl) h
theorem lent_nil {X:Nat->Nat->Prop}{w:World}{σ:Pl}:Lent X w σ []:=⟨fun j o hj=>by simp at hj,fun i j b _ hi=>by simp at hi⟩
theorem ends_below {X X':Nat->Nat->Prop}{w w':World}{σ σ':Pl}{os:List VO}(h:Ends X w σ 0 X' w' σ' os):Below w.heap.size w w':=
 ⟨h.fr.os,h.fr.tape,h.fr.output,h.fr.size,fun b hb=>h.fr.keep b hb (by simp [lentB])⟩
theorem Fin2.stand {X:Nat->Nat->Prop}{w w':World}(h:Fin2 X w)(k:Stand w w'):Fin2 X w':=
 ⟨fun b q hq=>Nat.lt_of_lt_of_le (h b q hq) k.1,h.tab.ext ⟨k.1,fun b o hb hx=>⟨hx,k.2 b o hb⟩⟩⟩
theorem ends_fin2 {X X':Nat->Nat->Prop}{w w':World}{σ σ':Pl}{os:List VO}(h:Ends X w σ 0 X' w' σ' os)(k:Fin2 X w):Fin2 X' w':=
 ⟨h.fin,k.tab.ext ⟨h.fr.size,fun b o hb hx=>⟨fun hx'=>hx (h.sub b o hb hx'),(ends_below h).cell (p:=⟨b,o,none⟩) hb⟩⟩⟩
def cU (l:List Keep):List Value:=l.flatMap fun u=>[.int .i64 u.1,.int .i64 u.2.1]
theorem cs_keep {X:Nat->Nat->Prop}{w:World}{σ:Pl}: ∀ {l:List Keep} {vs:List Value},Cs X w σ (l.flatMap tyKeep.cells) vs->vs=cU l
 | [],vs,h=>by simpa [Cs,cU] using h
 |x::l,vs,h=>by
  have h:Cs X w σ (D.v (.int .i64 x.1)::D.v (.int .i64 x.2.1)::l.flatMap tyKeep.cells) vs:=h
  simp only [Cs] at h
  obtain ⟨u0,r0,rfl,c0,u1,r1,rfl,c1,h2⟩:=h
  simp only [C] at c0 c1
  rw [cs_keep h2,c0.1,c1.1]
  rfl
theorem cU_at: ∀ (l:List Keep) (k:Nat) (hk:k<l.length),(cU l)[k*2]? = some (.int .i64 l[k].1)/\(cU l)[k*2+1]? = some (.int .i64 l[k].2.1)
 | [],_,h=>by simp at h
 |x::l,0,_=>⟨rfl,rfl⟩
 |x::l,k+1,h=>by
  have:=cU_at l k (by simpa using h)
  have e:cU (x::l)= .int .i64 x.1:: .int .i64 x.2.1::cU l:=rfl
  rw [e,show (k+1)*2=k*2+1+1 by omega,List.getElem?_cons_succ,List.getElem?_cons_succ,List.getElem?_cons_succ,List.getElem?_cons_succ]
  exact this
end Go.Proofs.YticnbacafmeiiaaGreatDoor.K
namespace Go.Proofs.YticnbacafmeiiaaGreatDoor.K
open Go.RowKit Go.Maps
noncomputable section
abbrev kI (x:Int):Lit:= .int .i64 x
theorem kI_same (a b:Int):(kI a).sameKey (kI b)=decide (a=b):=by
 by_cases h:a=b
 ·subst h
  rw [decide_eq_true rfl]
  exact WideAt.sameKey_self trivial
 ·rw [decide_eq_false h]
  cases hq:(kI a).sameKey (kI b) with
  |false=>rfl
  |true=>
   have:=WideAt.sameKey_eq hq
   injection this with h1 h2
   exact absurd h2 h
def MI (D:DataW Nat)(l:List Keep):Prop:=IsMap D/\(∀ kl,has D kl=true→ ∃ s∈l,kl=kI s.1)∧ ∀ s∈l,has D (kI s.1)=true∧ ∀ z,D.atKey (kI s.1) z= .lit (.int .i64 s.2.1)
theorem MI.nil:MI (.map []) []:=⟨⟨_,rfl⟩,fun kl h=>by simp [has] at h,fun s h=>by cases h⟩
theorem MI.put {D:DataW Nat}{l:List Keep}{s:Keep}(h:MI D l)(hs: ∀ t∈l,t.1≠s.1):MI (D.put (kI s.1) (.lit (.int .i64 s.2.1))) (l++[s]):=by
 obtain ⟨h1,h2,h3⟩:=h
 refine ⟨?_,fun kl hk=> ?_,fun t ht=> ?_⟩
 ·obtain ⟨es,rfl⟩:=h1
  exact ⟨_,rfl⟩
 ·by_cases he:kl=kI s.1
  ·exact ⟨s,by simp,he⟩
  ·rw [has_put_other he] at hk
   obtain ⟨t,ht,e⟩:=h2 kl hk
   exact ⟨t,by simp [ht],e⟩
 ·rcases List.mem_append.1 ht with ht|ht
  ·have hne:kI t.1≠kI s.1:=fun e=>hs t ht (by injection e)
   obtain ⟨g1,g2⟩:=h3 t ht
   exact ⟨by rw [has_put_other hne];exact g1,fun z=>by rw [atKey_put_other hne];exact g2 z⟩
  ·rw [List.mem_singleton.1 ht]
   exact ⟨has_put_same h1 (show WideAt.IsKeyLit (kI s.1) from trivial) _,fun z=>atKey_put_same h1 (show WideAt.IsKeyLit (kI s.1) from trivial) _ z⟩
def cntV (p:Keep->Bool)(l:List Keep)(left:Lit->Bool):Nat:=(l.filter fun s=> !left (kI s.1)&&p s).length
theorem cntV_step {p:Keep->Bool}{left:Lit->Bool}{s:Keep}: ∀ {l:List Keep},(l.map fun t:Keep=>t.1).Nodup->s∈l->left (kI s.1)=true->cntV p l (fun z=>left z&& !z.sameKey (kI s.1))=cntV p l left+(if p s then 1 else 0)
 | [],_,h,_=>by cases h
 |t::l,hn,hm,hl=>by
  rw [List.map_cons,List.nodup_cons] at hn
  unfold cntV
  rw [List.filter_cons,List.filter_cons]
  rcases List.mem_cons.1 hm with rfl|hm
  ·have hrest: ∀ u∈l,(!(left (kI u.1)&& !(kI u.1).sameKey (kI s.1))&&p u)=(!left (kI u.1)&&p u):=fun u hu=>by
    have:u.1≠s.1:=fun e=>hn.1 (List.mem_map.2 ⟨u,hu,e⟩)
    rw [kI_same,decide_eq_false this]
    simp
   rw [List.filter_congr hrest]
   have e1:(kI s.1).sameKey (kI s.1)=true:=by rw [kI_same,decide_eq_true rfl]
   simp only [e1,hl,Bool.not_true,Bool.and_false,Bool.not_false,Bool.true_and,Bool.false_and]
   cases p s<;>simp
  ·have ht:t.1≠s.1:=fun e=>hn.1 (List.mem_map.2 ⟨s,hm,e.symm⟩)
   have ih:=cntV_step (p:=p) (left:=left) hn.2 hm hl
   unfold cntV at ih
   have e2:(kI t.1).sameKey (kI s.1)=false:=by rw [kI_same,decide_eq_false ht]
   simp only [e2,Bool.not_false,Bool.and_true] at ih ⊢
   split
   ·rw [List.length_cons,List.length_cons,ih]
    omega
   ·exact ih
theorem seUp_at {l:List Keep}(h:seUp l 0=true){k:Nat}(hk:k<l.length):seOk l k=true:=by
 simp only [seUp,List.all_eq_true,List.mem_range'_1] at h
 exact h k ⟨Nat.zero_le _,by omega⟩
theorem seUp_asc {l:List Keep}(h:seUp l 0=true){i:Nat}: ∀ {j:Nat} (hj:j<l.length),i<j->l[i]!.1<l[j]!.1:=by
 intro j
 induction j with
 |zero=>intro _ h;omega
 |succ j ih=>
  intro hj hij
  have hs:=seUp_at h hj
  simp only [seOk,Bool.and_eq_true,Bool.or_eq_true,decide_eq_true_eq,Bool.not_eq_true',ige,decide_eq_false_iff_not] at hs
  have h4:=hs.2.2.2.resolve_left (by omega)
  have e1: ∀ n,n<l.length->egAt l n=l[n]! :=fun n hn=>by
   simp only [egAt]
   rw [List.getD_eq_getElem?_getD,List.getElem?_eq_getElem hn,getElem!_pos l n hn]
   rfl
  rw [Nat.add_sub_cancel,e1 j (by omega),e1 (j+1) hj] at h4
  rcases Nat.lt_or_ge i j with hlt|hge
  ·have:=ih (by omega) hlt
   omega
  ·have:i=j:=by omega
   subst this
   omega
theorem seUp_nodup {l:List Keep}(h:seUp l 0=true):(l.map fun t:Keep=>t.1).Nodup:=by
 rw [List.Nodup,List.pairwise_map,List.pairwise_iff_getElem]
 intro i j hi hj hij e
 have:=seUp_asc h hj hij
 rw [getElem!_pos l i hi,getElem!_pos l j hj] at this
 omega
theorem se_bound {l:List Keep}(h:seUp l 0=true){s:Keep}(hs:s∈l):0<=s.1/\s.1<=2147483648/\0<=s.2.1/\s.2.1<4294967296:=by
 obtain ⟨k,hk,rfl⟩:=List.mem_iff_getElem.1 hs
 have h1:=seUp_at h hk
 have e1:egAt l k=l[k]:=by
  simp only [egAt]
  rw [List.getD_eq_getElem?_getD,List.getElem?_eq_getElem hk]
  rfl
 simp only [seOk,keyI,e1,Bool.and_eq_true,Bool.not_eq_true',ilt,ige,igt,decide_eq_false_iff_not] at h1
 omega
theorem stand_grown {w w':World}{r:Nat}(hg:w.grownBy w' (some r))(h1: ∀ o,w.cell? ⟨r,o,none⟩=none)(h2: ∀ o,w'.cell? ⟨r,o,none⟩=none):Stand w w':=⟨hg.size,fun b o hb=>by
 by_cases hr:b=r
 ·subst hr
  rw [h1,h2]
 ·have:=hg.block b hb (fun e=>hr (by injection e))
  simp [World.cell?, this]⟩
theorem ranges_cell {H:Type}{P:Program}{k:TypeId}{R:Value->Option (DataW H×List MemPlace)}{w:World}{b r n:Nat}{D:DataW H}{left:Lit->Bool}{cnt:Nat}(h:w.ranges P k R b r n D left cnt)(o:Nat):w.cell? ⟨r,o,none⟩=none:=by
 obtain ⟨es,clock,since,seen,c0,_,_,_,_,hr,_⟩:=h
 simp [World.cell?, hr]
theorem cntV_start {p:Keep->Bool}{l:List Keep}{left:Lit->Bool}(h: ∀ s∈l,left (kI s.1)=true):cntV p l left=0:=by
 unfold cntV
 rw [List.length_eq_zero_iff,List.filter_eq_nil_iff]
 intro s hs
 rw [h s hs]
 simp
theorem cntV_end {p:Keep->Bool}{l:List Keep}{left:Lit->Bool}(h: ∀ kl,left kl=false):cntV p l left=(l.filter p).length:=by
 unfold cntV
 congr 1
 exact List.filter_congr fun s _=>by rw [h];simp
theorem cntV_le {p:Keep->Bool}{l:List Keep}{left:Lit->Bool}:cntV p l left<=l.length:=List.length_filter_le _ _
theorem bytes_calls {X:Nat->Nat->Prop}{w:World}{σ:Pl}{x:Exception}{u:Value}(hfin:Fin2 X w)(hs:C X w σ (V.t tyException x).d u)(h:exLn1 x=true):
  Calls Tryz.prog 36 #[u] w fun en w'=> ∃ X' σ' sv,en= .returned (.tuple #[sv,.int .i64 (exBy x).2])/\C X' w' σ' (V.t (.sl (.int .u8)) (exBy x).1).d sv/\Fin2 X' w'/\Below w.heap.size w w':=by
 have hF:strip sp_f36 [.t tyException x] []=some (.tu [.t (.sl (.int .u8)) (exBy x).1,.t tI (exBy x).2],[]):=by
  unfold sp_f36
  exact strip_spec (a:= .pr tyException .nil) (x:=(x,())) (by simp [Ty.args,as_t]) h
 refine (of_does (by decide) (ms_f36 _ _ _ _ hF X w σ [u] hfin lent_nil ⟨u,_,rfl,hs,rfl⟩)).mono ?_
 rintro en w' ⟨u,X',σ',rfl,h1,h2⟩
 have h1:C X' w' σ' (.tu [(V.t (.sl (.int .u8)) (exBy x).1).d,.v (.int .i64 (exBy x).2)]) u:=h1
 simp only [C,Cs] at h1
 obtain ⟨vs,rfl,u1,us,rfl,c1,u2,us2,rfl,⟨rfl,_⟩,rfl⟩:=h1
 exact ⟨X',σ',u1,rfl,c1,ends_fin2 h2 hfin,ends_below h2⟩
theorem sum_calls {X:Nat->Nat->Prop}{w:World}{σ:Pl}{b:List Int}{sv:Value}(hfin:Fin2 X w)(hs:C X w σ (V.t (.sl (.int .u8)) b).d sv)(h:lenB b=true):
  Calls Tryz.prog 41 #[sv] w fun en w'=>en= .returned (.int .i64 (sumB b))/\Below w.heap.size w w':=by
 have hF:strip sp_f41 [.t (.sl (.int .u8)) b] []=some (.t tI (sumB b),[]):=by
  unfold sp_f41
  exact strip_spec (a:= .pr (.sl (.int .u8)) .nil) (x:=(b,())) (by simp [Ty.args,as_t]) h
 refine (of_does (by decide) (ms_f41 _ _ _ _ hF X w σ [sv] hfin lent_nil ⟨sv,_,rfl,hs,rfl⟩)).mono ?_
 rintro en w' ⟨u,X',σ',rfl,h1,h2⟩
 have h1:C X' w' σ' (.v (.int .i64 (sumB b))) u:=h1
 simp only [C] at h1
 obtain ⟨rfl,_⟩:=h1
 exact ⟨rfl,ends_below h2⟩
theorem has_calls {X:Nat->Nat->Prop}{w:World}{σ:Pl}{l:List Int}{n:Int}{sv:Value}(hfin:Fin2 X w)(hs:C X w σ (V.t (.sl tI) l).d sv)(h:idxOk1 l 0=true):
  Calls Tryz.prog 168 #[sv,.int .i64 n] w fun en w'=>en= .returned (.bool (hasF l n))/\Below w.heap.size w w':=by
 have hF:strip sp_f168 [.t (.sl tI) l,.t tI n] []=some (.t .bool (hasF l n),[]):=by
  unfold sp_f168
  exact strip_spec (a:= .pr (.sl tI) (.pr tI .nil)) (x:=(l,(n,()))) (by simp [Ty.args,as_t]) h
 refine (of_does (by decide) (ms_f168 _ _ _ _ hF X w σ [sv,.int .i64 n] hfin lent_nil ⟨sv,_,rfl,hs,.int .i64 n,_,rfl,⟨rfl,rfl⟩,rfl⟩)).mono ?_
 rintro en w' ⟨u,X',σ',rfl,h1,h2⟩
 have h1:C X' w' σ' (.v (.bool (hasF l n))) u:=h1
 simp only [C] at h1
 obtain ⟨rfl,_⟩:=h1
 exact ⟨rfl,ends_below h2⟩
end
end Go.Proofs.YticnbacafmeiiaaGreatDoor.K
namespace Go.Proofs.YticnbacafmeiiaaGreatDoor.K
open Go.RowKit Go.Maps
theorem lawI:Keyed Tryz.prog 3:=int_keyed Tryz.underlying3
set_option maxRecDepth 50000 in
set_option maxHeartbeats 4000000 in
theorem valid_any {X:Nat->Nat->Prop}{w:World}{σ:Pl}{x:Exception}{o:Dice}{A:Option Addr}{cp:Nat}{kv:Value}(hfin:Fin2 X w)
  (hx:C X w σ (V.t tyException x).d (.agg #[.int .i64 x.1.1,.int .i64 x.1.2.1,.int .i64 x.2.1,.string x.2.2.1,.int .i64 x.2.2.2.1.1,.int .i64 x.2.2.2.1.2.1,.slice A x.2.2.2.2.1.length cp]))
  (hsl:0<x.2.2.2.2.1.length→ ∃ b off,A=some ⟨b,off,none⟩/\b<w.heap.size∧ ∀ j v,(cU x.2.2.2.2.1)[j]? = some v->w.cell? ⟨b,off+j,none⟩=some v)
  (hk:C X w σ (V.t (.sl tI) o.1).d kv) (okv:kv.oneCell'=true) (h:valLn x o=true):
  Calls Tryz.prog 97 #[.agg #[.int .i64 x.1.1,.int .i64 x.1.2.1,.int .i64 x.2.1,.string x.2.2.1,.int .i64 x.2.2.2.1.1,.int .i64 x.2.2.2.1.2.1,.slice A x.2.2.2.2.1.length cp],.agg #[kv,.int .i64 o.2.1]] w fun en w'=>en= .returned (.bool (valX x o))/\Below w.heap.size w w':=by
 have HX:=Lib.hid hx
 have HK:=Lib.hid hk
 have HF:=Lib.hid hfin
 have HV:=Lib.hid h
 have HSL:=Lib.hid hsl
 clear hx hk hfin h hsl
 have hmm:= @run_makeMap Tryz.prog
 generalize hn:x.2.2.2.2.1.length=n at*
 have HN:=Lib.hid hn
 clear hn
 go_enter Tryz.func97,Tryz.ntmps97
 go_wp2_with fail
 obtain ⟨Wa,ha⟩: ∃ Wa,Wa=w.alloc (.cells #[.int .i64 x.1.1,.int .i64 x.1.2.1,.int .i64 x.2.1,.string x.2.2.1,.int .i64 x.2.2.2.1.1,.int .i64 x.2.2.2.1.2.1,.slice A n cp] 52):=⟨_,rfl⟩
 obtain ⟨Wb,hb⟩: ∃ Wb,Wb=Wa.alloc (.cells #[kv,.int .i64 o.2.1] 33):=⟨_,rfl⟩
 obtain ⟨S,hS⟩: ∃ S,S=w.heap.size:=⟨_,rfl⟩
 rw [←ha, ← hb, ← hS]
 have sa:Wa.heap.size=S+1:=by rw [ha,World.size_alloc,hS]
 have sb:Wb.heap.size=S+1+1:=by rw [hb,World.size_alloc,sa]
 have bW:Below w.heap.size w Wb:=by
  rw [hb,ha]
  have e1:=(Below.refl w.heap.size w).alloc (Nat.le_refl _) (.cells #[.int .i64 x.1.1,.int .i64 x.1.2.1,.int .i64 x.2.1,.string x.2.2.1,.int .i64 x.2.2.2.1.1,.int .i64 x.2.2.2.1.2.1,.slice A n cp] 52)
  exact e1.alloc e1.size _
 have kA:Go.Proofs.YticnbacafmeiiaaGreatDoor.Blk Wb S 52 #[.int .i64 x.1.1,.int .i64 x.1.2.1,.int .i64 x.2.1,.string x.2.2.1,.int .i64 x.2.2.2.1.1,.int .i64 x.2.2.2.1.2.1,.slice A n cp]:=by
  rw [hb];refine Go.Proofs.YticnbacafmeiiaaGreatDoor.Blk.alloc ?_ _;rw [ha,hS];exact Go.Proofs.YticnbacafmeiiaaGreatDoor.Blk.new _ _ _
 have kB:Go.Proofs.YticnbacafmeiiaaGreatDoor.Blk Wb (S+1) 33 #[kv,.int .i64 o.2.1]:=by
  rw [hb, ← sa];exact Go.Proofs.YticnbacafmeiiaaGreatDoor.Blk.new _ _ _
 have fX:Fin2 X Wb:=HF.out.stand (Stand.below bW)
 clear ha hb sa
 refine (bytes_calls fX (c_stand HX.out (Stand.below bW)) (Bool.and_eq_true_iff.1 HV.out).1).mono ?_
 rintro en w1 ⟨X1,σ1,sv,rfl,hc1,hf1,hb1⟩
 have b1:Below S w w1:=hS▸below_step bW hb1 (by omega)
 have kA:=kA.ext hb1
 have kB:=kB.ext hb1
 have hst:Stand w w1:=(Stand.below bW).trans (Stand.below hb1)
 have hsz:=hb1.size
 have y0:=kB.cell 0
 have y1:=kB.cell 1
 have x6:=kA.cell 6
 simp only [List.getElem?_toArray,List.getElem?_cons_zero,List.getElem?_cons_succ] at y0 y1 x6
 have HC1:=Lib.hid hc1
 have HF1:=Lib.hid hf1
 have HB1:=Lib.hid b1
 have HST:=Lib.hid hst
 have HKA:=Lib.hid kA
 have HKB:=Lib.hid kB
 have HSZ:=Lib.hid (show S+1+1<=w1.heap.size/\S=w.heap.size from ⟨by omega,hS⟩)
 clear bW fX hb1 hsz b1 hc1 hf1 hst kA kB sb hS
 cases hv:exG x with
 |false=>
  have e:(exBy x).2=26:=by rw [exBy,hv];rfl
  rw [e]
  clear e
  have HVV:=Lib.hid hv
  clear hv
  go_wp2_with fail
  go_ret
  refine ⟨?_,by rw [←HSZ.out.2];exact HB1.out⟩
  unfold valX
  rw [HVV.out]
  rfl
 |true=>
  have e:(exBy x).2=0:=by rw [exBy_of hv]
  rw [e]
  clear e
  have HVV:=Lib.hid hv
  clear hv
  by_cases hneed:o.2.1<1
  ·have hq:decide (o.2.1<1)=true:=decide_eq_true hneed
   go_wp2_with fail
   go_ret
   refine ⟨?_,by rw [←HSZ.out.2];exact HB1.out⟩
   unfold valX
   rw [HVV.out,show ilt o.2.1 1=true from decide_eq_true hneed]
   rfl
  ·have hq:decide (o.2.1<1)=false:=decide_eq_false hneed
   have x6a:=fun ob=>Lib.cell?_alloc_some ob x6
   go_wp2_with fail
   clear x6a hq x6 y0 y1
   obtain ⟨bm,hbm⟩: ∃ bm,bm=w1.heap.size:=⟨_,rfl⟩
   obtain ⟨W2,hW2⟩: ∃ W2,W2=w1.alloc (.map #[] 0):=⟨_,rfl⟩
   rw [←hbm, ← hW2]
   have b2:Below w1.heap.size w1 W2:=hW2▸(Below.refl _ _).alloc (Nat.le_refl _) _
   have own0:W2.ownsMap Tryz.prog 3 (plainElem (H:=Nat) Tryz.prog 3) bm 0 (.map []):=by
    rw [hW2,hbm]
    exact World.ownsMap_made w1 _ _ _
   have bl2:Below S w W2:=below_step HB1.out b2 (by have:=HSZ.out;omega)
   have st2:Stand w1 W2:=Stand.below b2
   have HST2:=Lib.hid (show Stand w W2/\S+1+1<=bm from ⟨HST.out.trans st2,by rw [hbm];exact HSZ.out.1⟩)
   have HKB2:=Lib.hid (HKB.out.ext b2)
   have HC2:=Lib.hid (c_stand HC1.out st2)
   have HF2:=Lib.hid (show Fin2 X1 W2 from HF1.out.stand st2)
   have HB2:=Lib.hid bl2
   have HOWN:=Lib.hid own0
   have HBM:=Lib.hid (show bm<W2.heap.size from own0.lt)
   clear hW2 b2 own0 bl2 st2 hbm HB1 HST HKA HKB HC1 HF1
   have hup:=(exG_of HVV.out).2.2.2.2.2.2
   have HUP:=Lib.hid hup
   have hn8:n<=8:=by rw [←HN.out];exact hup.1
   clear hup
   go_loopw [29] (fun iv wr=> ∃ (k:Nat) (D:DataW Nat),k<=n/\iv= .int .i64 k/\Stand W2 wr/\Below S w wr/\wr.ownsMap Tryz.prog 3 (plainElem Tryz.prog 3) bm k D/\MI D (x.2.2.2.2.1.take k)) (fun iv _=>n-(intOf iv).toNat)
   case atStart=>exact ⟨0,.map [],Nat.zero_le _,rfl,⟨Nat.le_refl _,fun _ _ _=>rfl⟩,HB2.out,HOWN.out,by rw [List.take_zero];exact MI.nil⟩
   case round=>
    obtain ⟨k,D,hkn,rfl,hst,hbl,hown,hmi⟩:=hrel
    have HS3:=Lib.hid hst
    have HB3:=Lib.hid hbl
    have HM3:=Lib.hid hmi
    clear hst hbl hmi
    by_cases hlt:k<n
    ·have hkl:k<x.2.2.2.2.1.length:=by rw [HN.out];exact hlt
     obtain ⟨bb,off,rfl,hbb,hcs⟩:=HSL.out (by omega)
     obtain ⟨g0,g1⟩:=cU_at _ k hkl
     obtain ⟨t,ht⟩: ∃ t,t=x.2.2.2.2.1[k]:=⟨_,rfl⟩
     rw [←ht] at g0 g1
     have dz: ∀ j v,w.cell? ⟨bb,off+j,none⟩=some v->wr.cell? ⟨bb,off+j,none⟩=some v:=fun j v h=>((HST2.out.1.trans HS3.out).2 bb _ hbb).trans h
     have d0:=dz _ _ (hcs _ _ g0)
     have d1:=dz _ _ (hcs _ _ g1)
     rw [←Nat.add_assoc] at d1
     have htm:t∈x.2.2.2.2.1:=by rw [ht];exact List.getElem_mem hkl
     have hbd:=se_bound HUP.out.2 htm
     have hw1:(Lit.int .i64 t.1).wf=true:=WalkArith.wf_i64 (by omega)
     have hw2:(Lit.int .i64 t.2.1).wf=true:=WalkArith.wf_i64 (by omega)
     have HO:=Lib.hid (show x.2.2.2.2.1[k]? = some t by rw [ht];exact List.getElem?_eq_getElem hkl)
     have HMK:=Lib.hid (show ∀ s∈x.2.2.2.2.1.take k,s.1≠t.1 from fun s hs=>by
      obtain ⟨j,hj,rfl⟩:=List.mem_iff_getElem.1 hs
      have hj2:j<k:=by rw [List.length_take] at hj;omega
      have h5:=seUp_asc HUP.out.2 hkl hj2
      rw [getElem!_pos _ j (by omega),getElem!_pos _ k hkl] at h5
      rw [List.getElem_take,ht]
      omega)
     clear dz hcs g0 g1 ht hkl hbd htm
     have hkk:=keyOf_int_mk (P:=Tryz.prog) Tryz.underlying3 hw1
     have hvv:=plainElem_int (H:=Nat) (P:=Tryz.prog) Tryz.underlying3 hw2
     go_wp2_with (first
      |(at_mapUpdate;refine wpList_mapUpdate_own _ rfl _ _ _ 252 rfl 3 3 lawI Tryz.underlying252 _ bm k D rfl (hown.alloc _) (by simp only [maxLen];omega) _ _ (kI t.1) rfl rfl hkk _ [] hvv ?_;intro w5 hown5 hg5)
      |fail)
     have b3:Below wr.heap.size wr (wr.alloc (.cells #[.int .i64 t.1,.int .i64 t.2.1] 108)):=(Below.refl _ _).alloc (Nat.le_refl _) _
     have st5:Stand (wr.alloc (.cells #[.int .i64 t.1,.int .i64 t.2.1] 108)) w5:=⟨hg5.size,fun b' o' hb'=>by
      by_cases hbm:b'=bm
      ·subst hbm
       obtain ⟨es,clk,m1,_⟩:=hown.alloc (.cells #[.int .i64 t.1,.int .i64 t.2.1] 108)
       obtain ⟨es',clk',m3,_⟩:=hown5
       simp [World.cell?, m1,m3]
      ·have:=hg5.block b' hb' (fun e=>hbm (by injection e))
       simp [World.cell?, this]⟩
     have hs3:=HS3.out
     have hbl3:Below S w (wr.alloc (.cells #[.int .i64 t.1,.int .i64 t.2.1] 108)):=below_step HB3.out b3 (by have:=HST2.out;have:=HBM.out;have:=hs3.1;omega)
     refine ⟨⟨k+1,_,hlt,by simp,(hs3.trans (Stand.below b3)).trans st5,below_of_only hbl3 hg5 (by have:=HST2.out;omega) (by have:=HST2.out;have:=HBM.out;have:=hs3.1;have:=b3.size;omega),hown5, ?_⟩,by simp [intOf];omega⟩
     have e:x.2.2.2.2.1.take (k+1)=x.2.2.2.2.1.take k++[t]:=by
      rw [List.take_add_one,HO.out]
      rfl
     rw [e]
     exact HM3.out.put HMK.out
    ·obtain rfl:k=n:=by omega
     have hlk:x.2.2.2.2.1.take k=x.2.2.2.2.1:=List.take_of_length_le (by rw [HN.out];exact Nat.le_refl _)
     rw [hlk] at HM3
     clear hlk
     go_wp2_with (first
      |(at_range;refine wpList_range_own _ rfl _ 252 rfl 3 3 lawI Tryz.underlying252 _ bm k D rfl hown ?_;intro w0 hrg0 hg0 hs0)
      |fail)
     go_frame
     obtain ⟨rr,hrr⟩: ∃ rr,rr=wr.heap.size:=⟨_,rfl⟩
     rw [←hrr] at hrg0 ⊢
     have hs3:=HS3.out
     have st0:Stand wr w0:=⟨by omega,fun b' o' hb'=>by
      have:=hg0.block b' hb' (fun e=>by cases e)
      simp [World.cell?, this]⟩
     have bl0:Below S w w0:=below_of_only HB3.out (hg0.but (some rr)) (by have:=HST2.out;have:=HBM.out;have:=hs3.1;omega) (by have:=HST2.out;have:=HBM.out;have:=hs3.1;omega)
     have HRS:=Lib.hid (show Stand W2 w0/\Below S w w0/\S<=rr from ⟨hs3.trans st0,bl0,by have:=HST2.out;have:=HBM.out;have:=hs3.1;omega⟩)
     have HRG:=Lib.hid hrg0
     clear st0 bl0 hs3 hg0 hs0 hrr hrg0 HS3 HB3 hown hkn hlt
     go_loopw [10] (fun cv w'=> ∃ (left:Lit->Bool) (cnt:Nat),cv= .int .i64 (cntV (valB (exBy x).1 o) x.2.2.2.2.1 left:Nat)/\w'.ranges Tryz.prog 3 (plainElem (H:=Nat) Tryz.prog 3) bm rr k D left cnt/\(∀ kl,left kl=true->has D kl=true)/\Stand W2 w'/\Below S w w') (fun _ w'=>w'.rangeLeft bm rr)
     case atStart=>exact ⟨has D,size D,by rw [cntV_start fun s hs=>(HM3.out.2.2 s hs).1];rfl,HRG.out,fun _ h=>h,HRS.out.1,HRS.out.2.1⟩
     case round=>
      obtain ⟨left,cnt,rfl,hrg,hsub,hst,hbl⟩:=hrel
      have HSUB:=Lib.hid hsub
      have HS4:=Lib.hid hst
      have HB4:=Lib.hid hbl
      have HRG4:=Lib.hid hrg
      have hcle:=cntV_le (p:=valB (exBy x).1 o) (l:=x.2.2.2.2.1) (left:=left)
      rw [HN.out] at hcle
      have y1:=(hst.2 (S+1) 1 (by have:=HST2.out;have:=HBM.out;omega)).trans (HKB2.out.cell 1)
      simp only [List.getElem?_toArray,List.getElem?_cons_zero,List.getElem?_cons_succ] at y1
      clear hsub hst hbl
      go_wp2_with (first
       |(at_next;refine wpList_next_ranges_ii _ rfl _ rfl 3 3 .i64 .i64 lawI Tryz.underlying3 Tryz.underlying3 bm rr k D left cnt rfl hrg ?_ ?_)
       |fail)
      ·intro _ hl0
       have hce:=cntV_end (p:=valB (exBy x).1 o) (l:=x.2.2.2.2.1) hl0
       have HCE:=Lib.hid hce
       clear hce hl0
       generalize hqq:cntV (valB (exBy x).1 o) x.2.2.2.2.1 left=q at*
       have HQ:=Lib.hid hqq
       clear hqq hrg
       by_cases hge:o.2.1<=(q:Int)
       ·have hge1:decide (o.2.1<=(q:Int))=true:=decide_eq_true hge
        go_wp2_with fail
        go_ret
        refine ⟨?_,by rw [←HSZ.out.2];exact HB4.out⟩
        unfold valX valN
        rw [HVV.out, ← HCE.out,show ilt o.2.1 1=false from decide_eq_false (by omega),show ige (q:Int) o.2.1=true from decide_eq_true hge]
        rfl
       ·have hge1:decide (o.2.1<=(q:Int))=false:=decide_eq_false hge
        go_wp2_with fail
        go_ret
        refine ⟨?_,by rw [←HSZ.out.2];exact HB4.out⟩
        unfold valX valN
        rw [HVV.out, ← HCE.out,show ilt o.2.1 1=false from decide_eq_false (by omega),show ige (q:Int) o.2.1=false from decide_eq_false (show ¬ (q:Int)≥o.2.1 by omega)]
        rfl
      ·intro t' c w3 cnt1 hwx hwc hlx hat hrg1 hlt1 hg1 hs1 hen
       obtain ⟨t,htm,hte⟩:=HM3.out.2.1 _ (HSUB.out _ hlx)
       have e1:t'=t.1:=by injection hte
       have e2:c=t.2.1:=by
        have h5:=(HM3.out.2.2 t htm).2 .nil
        rw [←hte,hat] at h5
        injection h5 with h5
        injection h5
       subst e1 e2
       have hcs:=cntV_step (p:=valB (exBy x).1 o) (seUp_nodup HUP.out.2) htm hlx
       have st3:Stand wr w3:=stand_grown hg1 (ranges_cell HRG4.out) (ranges_cell hrg1)
       have hrr:=HRS.out.2.2
       have bl3:Below S w w3:=below_of_only HB4.out hg1 hrr (by have:=HST2.out;have:=HBM.out;have:=HS4.out.1;omega)
       have HS5:=Lib.hid (HS4.out.trans st3)
       have HB5:=Lib.hid bl3
       have HRG5:=Lib.hid hrg1
       have HCS:=Lib.hid hcs
       have HLT:=Lib.hid hlt1
       have HLE:=Lib.hid hrg.left_eq
       have HTM:=Lib.hid htm
       have z0:=(HS5.out.2 (S+1) 0 (by have:=HST2.out;have:=HBM.out;omega)).trans (HKB2.out.cell 0)
       simp only [List.getElem?_toArray,List.getElem?_cons_zero,List.getElem?_cons_succ] at z0
       clear st3 hrr bl3 hcs hrg1 hrg hlt1 hat hlx hg1 hs1 hwx hwc htm hte y1
       generalize hqq:cntV (valB (exBy x).1 o) x.2.2.2.2.1 left=q at*
       clear hqq
       go_wp2_with fail
       refine (sum_calls (X:=X1) (σ:=σ1) (b:=(exBy x).1) (HF2.out.stand HS5.out) (c_stand HC2.out HS5.out) (exBy_len x)).mono ?_
       rintro en w4 ⟨rfl,hb4⟩
       have z1:=(Stand.below hb4).2 (S+1) 0 (by have:=HST2.out;have:=HBM.out;have:=HS5.out.1;omega)
       rw [z0] at z1
       have HS6:=Lib.hid (HS5.out.trans (Stand.below hb4))
       have HB6:=Lib.hid (below_step HB5.out hb4 (by have:=HST2.out;have:=HBM.out;have:=HS5.out.1;omega))
       have HRG6:=Lib.hid (HRG5.out.kept (grown_below hb4) (by simp) (by simp))
       clear hb4 z0 hen HS5 HB5 HRG5
       by_cases hsm:t.2.1=sumB (exBy x).1
       ·have hs1:(t.2.1==sumB (exBy x).1)=true:=beq_iff_eq.2 hsm
        have hs2:decide (t.2.1=sumB (exBy x).1)=true:=decide_eq_true hsm
        have HSM:=Lib.hid hsm
        clear hsm
        generalize hsb:sumB (exBy x).1=sm at*
        have HSB:=Lib.hid hsb
        clear hsb
        go_wp2_with fail
        refine (has_calls (X:=X) (σ:=σ) (l:=o.1) (n:=t.1) (HF.out.stand (HST2.out.1.trans HS6.out)) (c_stand HK.out (HST2.out.1.trans HS6.out)) (Bool.and_eq_true_iff.1 HV.out).2).mono ?_
        rintro en w5 ⟨rfl,hb5⟩
        have HS7:=Lib.hid (HS6.out.trans (Stand.below hb5))
        have HB7:=Lib.hid (below_step HB6.out hb5 (by have:=HST2.out;have:=HBM.out;have:=HS6.out.1;omega))
        have HRG7:=Lib.hid (HRG6.out.kept (grown_below hb5) (by simp) (by simp))
        clear hb5 z1 HS6 HB6 HRG6
        cases hh:hasF o.1 t.1 with
        |true=>
         have hvb:valB (exBy x).1 o t=true:=by
          unfold valB
          rw [HSB.out,HSM.out,hh]
          simp [ieq]
         have HVB:=Lib.hid hvb
         clear hvb hh
         go_wp2_with fail
         refine ⟨⟨_,cnt1, ?_,HRG7.out,fun kl h=>HSUB.out kl (Bool.and_eq_true_iff.1 h).1,HS7.out,HB7.out⟩, ?_⟩
         ·rw [HCS.out,HVB.out]
          rfl
         ·rw [HRG7.out.left_eq,HLE.out]
          exact HLT.out
        |false=>
         have hvb:valB (exBy x).1 o t=false:=by
          unfold valB
          rw [hh,Bool.and_false]
         have HVB:=Lib.hid hvb
         clear hvb hh
         go_wp2_with fail
         refine ⟨⟨_,cnt1, ?_,HRG7.out,fun kl h=>HSUB.out kl (Bool.and_eq_true_iff.1 h).1,HS7.out,HB7.out⟩, ?_⟩
         ·rw [HCS.out,HVB.out]
          rfl
         ·rw [HRG7.out.left_eq,HLE.out]
          exact HLT.out
       ·have hs1:(t.2.1==sumB (exBy x).1)=false:=beq_eq_false_iff_ne.2 hsm
        have hs2:decide (t.2.1=sumB (exBy x).1)=false:=decide_eq_false hsm
        have hvb:valB (exBy x).1 o t=false:=by
         unfold valB
         rw [show ieq t.2.1 (sumB (exBy x).1)=false from hs1,Bool.false_and]
        have HVB:=Lib.hid hvb
        clear hvb hsm
        generalize hsb:sumB (exBy x).1=sm at*
        clear hsb
        go_wp2_with fail
        refine ⟨⟨_,cnt1, ?_,HRG6.out,fun kl h=>HSUB.out kl (Bool.and_eq_true_iff.1 h).1,HS6.out,HB6.out⟩, ?_⟩
        ·rw [HCS.out,HVB.out]
         rfl
        ·rw [HRG6.out.left_eq,HLE.out]
         exact HLT.out
theorem ex_val {X:Nat->Nat->Prop}{w:World}{σ:Pl}{x:Exception}{u:Value}(h:C X w σ (V.t tyException x).d u):
  ∃ A cp,u= .agg #[.int .i64 x.1.1,.int .i64 x.1.2.1,.int .i64 x.2.1,.string x.2.2.1,.int .i64 x.2.2.2.1.1,.int .i64 x.2.2.2.1.2.1,.slice A x.2.2.2.2.1.length cp]∧
   (0<x.2.2.2.2.1.length→ ∃ b off,A=some ⟨b,off,none⟩/\b<w.heap.size∧ ∀ j v,(cU x.2.2.2.2.1)[j]? = some v->w.cell? ⟨b,off+j,none⟩=some v):=by
 simp only [V.d] at h
 rw [Ty.d_row tyException _ rfl] at h
 simp only [C] at h
 obtain ⟨us,rfl,h⟩:=h
 have h:Cs X w σ [D.v (.int .i64 x.1.1),D.v (.int .i64 x.1.2.1),D.v (.int .i64 x.2.1),D.v (.string x.2.2.1),D.v (.int .i64 x.2.2.2.1.1),D.v (.int .i64 x.2.2.2.1.2.1),D.sl x.2.2.2.2.1.length (x.2.2.2.2.1.flatMap tyKeep.cells)] us:=h
 simp only [Cs,C] at h
 obtain ⟨_,_,rfl,⟨rfl,_⟩,_,_,rfl,⟨rfl,_⟩,_,_,rfl,⟨rfl,_⟩,_,_,rfl,⟨rfl,_⟩,_,_,rfl,⟨rfl,_⟩,_,_,rfl,⟨rfl,_⟩,_,_,rfl,⟨A,c,rfl,g1,g2,g3,g4⟩,rfl⟩:=h
 refine ⟨A,c,rfl,fun hp=> ?_⟩
 obtain ⟨b,off,vs,rfl,k1,k2⟩:=g4 hp
 rw [cs_keep k1] at k2
 exact ⟨b,off,rfl,k2.lt,fun j v hv=>k2.at_ j v hv⟩
theorem ow_val {X:Nat->Nat->Prop}{w:World}{σ:Pl}{o:Dice}{u:Value}(h:C X w σ (V.t tyDice o).d u): ∃ kv,u= .agg #[kv,.int .i64 o.2.1]/\C X w σ (V.t (.sl tI) o.1).d kv/\kv.oneCell'=true:=by
 simp only [V.d] at h
 rw [Ty.d_row tyDice _ rfl] at h
 simp only [C] at h
 obtain ⟨us,rfl,h⟩:=h
 have h:Cs X w σ [(V.t (.sl tI) o.1).d,D.v (.int .i64 o.2.1)] us:=h
 simp only [Cs] at h
 obtain ⟨kv,_,rfl,c0,_,_,rfl,c1,rfl⟩:=h
 simp only [C] at c1
 obtain ⟨rfl,_⟩:=c1
 refine ⟨kv,rfl,c0, ?_⟩
 have c0:C X w σ (D.sl o.1.length (o.1.flatMap tI.cells)) kv:=c0
 simp only [C] at c0
 obtain ⟨A,c,rfl,_⟩:=c0
 rfl
def sp_f97:Ent:=spec (.pr tyException (.pr tyDice .nil)) (fun x=>(valLn x.1 x.2.1)) (fun x=>(.t .bool (valX x.1 x.2.1)))
theorem en_f97:Entered Tryz.prog 97:= .inr ⟨by decide,_,Tryz.func97,by kernel_rfl,by kernel_rfl⟩
theorem ms_f97:Meets Tryz.prog 97 (strip sp_f97):=by
 unfold sp_f97
 refine meets_calls (fun z hok X w σ vs hfin hc=> ?_)
 obtain ⟨x,o,u⟩:=z
 have hc:Cs X w σ [(V.t tyException x).d,(V.t tyDice o).d] vs:=hc
 simp only [Cs] at hc
 obtain ⟨xv,r0,rfl,c0,ov,r1,rfl,c1,rfl⟩:=hc
 obtain ⟨A,cp,rfl,hsl⟩:=ex_val c0
 obtain ⟨kv,rfl,hk,okv⟩:=ow_val c1
 refine (valid_any hfin c0 hsl hk okv hok).mono ?_
 rintro en w' ⟨rfl,hb⟩
 refine ⟨_,rfl, ?_,hb⟩
 show C X w' σ (.v (.bool (valX x o))) _
 simp only [C]
 exact ⟨trivial,rfl⟩
end Go.Proofs.YticnbacafmeiiaaGreatDoor.K
namespace Go.Proofs.YticnbacafmeiiaaGreatDoor.K
open Go.RowKit
def spansL (y:Policy)(u:Keep)(p:Int)(l:List Int)(out:List Keep):List Keep:=spansZ (allF y u p) l out
noncomputable def dr_f33_0:List DO:=dT Tryz.f33 6
def fg_f33_0:Fg:=⟨[(2,some tI),(3,none),(4,none),(7,none),(8,some (.sl tI)),(17,some tI),(18,some tI)],[(3,some tyPolicy),(4,some tyKeep),(7,none),(61,none)]⟩
noncomputable def tb_f33_0:TC:=(.sq (.reg (rT Tryz.f33 4)) (.sq (.cd (.t 19) .sk (.fg ⟨[(7,none)],[(7,none),(61,none)]⟩ (.ex 0))) (.sq (.bk 1 (.sq (.reg (rT Tryz.f33 5)) (.sq (.dr dr_f33_0 [(0,[]),(1,[]),(2,[]),(3,[]),(4,[]),(5,[]),(6,[]),(7,[]),(8,[]),(9,[]),(10,[])] (.of [0,1,2,3,4,5,6,7,8,9,10])) (.sq (.sq (.reg (rT Tryz.f33 7)) (.cd (.t 35) (.fg ⟨[(2,some tI),(3,none),(4,none),(7,none),(8,some (.sl tI)),(17,some tI),(18,some tI)],[(3,some tyPolicy),(4,some tyKeep),(7,none),(61,none)]⟩ (.ex 1)) .sk)) (.sq (.reg (rT Tryz.f33 8)) (.sq (.reg (rT Tryz.f33 9)) (.cd (.t 49) (.reg (rT Tryz.f33 10)) (.reg (rT Tryz.f33 11))))))))) (.reg (rT Tryz.f33 12)))))
noncomputable def tc_f33:TC:=(.sq (.reg (rT Tryz.f33 0)) (.sq (.reg (rT Tryz.f33 1)) (.sq (.reg (rT Tryz.f33 2)) (.sq (.sq (.reg (rT Tryz.f33 3)) (.bk 0 (.nw 7 47 (.lp 0 fg_f33_0 tb_f33_0)))) (.sq (.reg (rT Tryz.f33 13)) .rt)))))
def rv_f33:List (RV×Option Ty):=[((.t 6),some (.sl tyKeep))]
abbrev sh_f33_0:Sh:=⟨[(2,.ty tI),(3,.ptr 3 0),(4,.ptr 4 0),(7,.ms 7),(8,.ty (.sl tI)),(17,.ty tI),(18,.ty tI)],[(3,.box tyPolicy),(4,.box tyKeep),(7,.arr 47 tyKeep),(61,.no)]⟩
def st_f33_0 (x2:Int)(x8:List Int)(x17 x18:Int)(y3:Policy)(y4:Keep)(y7:List Keep):VS:=sh_f33_0.st (x2,(),(),(),x8,x17,x18,()) (y3,y4,y7,(),())
abbrev sh_f33_0_e0:Sh:=⟨[(7,.ms 7)],[(7,.arr 47 tyKeep),(61,.no)]⟩
def st_f33_0_e0 (y7:List Keep):VS:=sh_f33_0_e0.st ((),()) (y7,(),())
def L_f33_0:VS->Option (Bool×List (Bool×Exit×VS)):=mkL sh_f33_0 (fun x y=>(decide (x.2.2.2.2.2.1=(x.2.2.2.2.1.length:Int)-1/\0<=x.2.2.2.2.2.2.1/\x.2.2.2.2.2.2.1<=x.2.2.2.2.2.1/\x.2.2.2.2.1.length<=500000/\(y.2.2.1.length:Int)<=x.2.2.2.2.2.2.1))) (fun x y=>[(true,.exit 0,st_f33_0_e0 (spansL y.1 y.2.1 x.1 (x.2.2.2.2.1.drop x.2.2.2.2.2.2.1.toNat) y.2.2.1))])
def g_f33:G:=⟨TYs,[],64,EL [(34,sp_f34),(84,sp_f84)],keeps,(Ls [L_f33_0]),IL [],RL []⟩
def b_f33_0_1 (x2:Int)(x8:List Int)(x17 x18:Int)(y3:Policy)(y4:Keep)(y7:List Keep):Option (Exit×VS):=
 let a1:=((lgt tI x8 (Int.toNat x18)),((lgt tI x8 (Int.toNat (iadd .i64 x18 1))),()))
 br (cApp y7 ([a1]) 16) (some (.normal,st_f33_0 x2 x8 x17 (iadd .i64 x18 1) y3 y4 (y7++([a1])))) none
def b_f33_0 (x2:Int)(x8:List Int)(x17 x18:Int)(y3:Policy)(y4:Keep)(y7:List Keep):Option (Exit×VS):=
 let a1:=Int.toNat (isub .i64 (llen y7) 1)
 let a2:=iadd .i64 x18 1
 let a3:=lgt tyKeep y7 a1
 let a4:=cIx y7 (isub .i64 (llen y7) 1)
 let a5:=lgt tI x8 (Int.toNat x18)
 br (ilt x18 x17) (br (cIx x8 x18) (br (cIx x8 a2) (br (!(allF y3 y4 x2 a5)) (some (.normal,st_f33_0 x2 x8 x17 a2 y3 y4 y7)) (br (igt (llen y7) 0) (br a4 (br (cLd y7 a1) (br (ieq ((a3.2).1) a5) (br a4 (br (cLd y7 a1) (some (.normal,st_f33_0 x2 x8 x17 a2 y3 y4 (List.set y7 a1 (a3.1,((lgt tI x8 (Int.toNat a2)),(a3.2).2))))) none) none) (b_f33_0_1 x2 x8 x17 x18 y3 y4 y7)) none) none) (b_f33_0_1 x2 x8 x17 x18 y3 y4 y7))) none) none) (some (.exit 0,st_f33_0_e0 y7))
noncomputable def lp_f33_0 (x2:Int)(x8:List Int)(x17 x18:Int)(y3:Policy)(y4:Keep)(y7:List Keep):Option (Exit×VS):=loopF (roundF g_f33 fg_f33_0 tb_f33_0) (st_f33_0 x2 x8 x17 x18 y3 y4 y7)
noncomputable def n_f33_0_1 (x2:Int)(x8:List Int)(x17 x18:Int)(y3:Policy)(y4:Keep)(y7:List Keep):Option (Exit×VS):=
 let a1:=((lgt tI x8 (Int.toNat x18)),((lgt tI x8 (Int.toNat (iadd .i64 x18 1))),()))
 br (cApp y7 ([a1]) 16) (lp_f33_0 x2 x8 x17 (iadd .i64 x18 1) y3 y4 (y7++([a1]))) none
noncomputable def n_f33_0 (x2:Int)(x8:List Int)(x17 x18:Int)(y3:Policy)(y4:Keep)(y7:List Keep):Option (Exit×VS):=
 let a1:=Int.toNat (isub .i64 (llen y7) 1)
 let a2:=iadd .i64 x18 1
 let a3:=lgt tyKeep y7 a1
 let a4:=cIx y7 (isub .i64 (llen y7) 1)
 let a5:=lgt tI x8 (Int.toNat x18)
 br (ilt x18 x17) (br (cIx x8 x18) (br (cIx x8 a2) (br (!(allF y3 y4 x2 a5)) (lp_f33_0 x2 x8 x17 a2 y3 y4 y7) (br (igt (llen y7) 0) (br a4 (br (cLd y7 a1) (br (ieq ((a3.2).1) a5) (br a4 (br (cLd y7 a1) (lp_f33_0 x2 x8 x17 a2 y3 y4 (List.set y7 a1 (a3.1,((lgt tI x8 (Int.toNat a2)),(a3.2).2)))) none) none) (n_f33_0_1 x2 x8 x17 x18 y3 y4 y7)) none) none) (n_f33_0_1 x2 x8 x17 x18 y3 y4 y7))) none) none) (some (.exit 0,st_f33_0_e0 y7))
def la_f33_0 (x2:Int)(x8:List Int)(x17 x18:Int)(y3:Policy)(y4:Keep)(y7:List Keep):Option (Exit×VS):=some (.exit 0,st_f33_0_e0 (spansL y3 y4 x2 (x8.drop x18.toNat) y7))
theorem be_f33_0 (x2:Int)(x8:List Int)(x17 x18:Int)(y3:Policy)(y4:Keep)(y7:List Keep):roundF g_f33 fg_f33_0 tb_f33_0 (st_f33_0 x2 x8 x17 x18 y3 y4 y7)=b_f33_0 x2 x8 x17 x18 y3 y4 y7:=by kernel_rfl
theorem ln_f33_0 (x2:Int)(x8:List Int)(x17 x18:Int)(y3:Policy)(y4:Keep)(y7:List Keep):lp_f33_0 x2 x8 x17 x18 y3 y4 y7=n_f33_0 x2 x8 x17 x18 y3 y4 y7:=(loopF_nxt _ _).trans (by
 rw [be_f33_0]
 simp only [b_f33_0,b_f33_0_1,n_f33_0,n_f33_0_1,nxt_br,nxt_n,nxt_r,nxt_e,nxt_0]
 rfl)
def r_f33 (p0:Policy)(p1:Keep)(p2:Int):Option (V×List VO):=
 let a1:=isub .i64 (llen (daysF p0)) 1
 br (polLen p0) (br (decide (a1=((daysF p0).length:Int)-1/\0<=(0:Int)/\(0:Int)<=a1/\(daysF p0).length<=500000/\(([]:List Keep).length:Int)<=(0:Int))) (some (.t (.sl tyKeep) (spansL p0 p1 p2 ((daysF p0).drop (0:Int).toNat) ([]:List Keep)),[])) none) none
theorem e_f33 (p0:Policy)(p1:Keep)(p2:Int):runF g_f33 tc_f33 rv_f33 false [.t tyPolicy p0,.t tyKeep p1,.t tI p2] []=r_f33 p0 p1 p2:=by kernel_rfl
theorem en_f33:Entered Tryz.prog 33:= .inr ⟨by decide,_,Tryz.func33,by kernel_rfl,by kernel_rfl⟩
theorem gk_f33:GOk Tryz.prog g_f33:=gok_of _ (gA (gC en_f34 ms_f34 (gC en_f84 ms_f84 gN)))
theorem spanPut_app (l:List Keep)(s:Keep)(a b:Int):spanPut (l++[s]) a b=if s.2.1=a then l++[(s.1,b,())] else (l++[s])++[(a,b,())]:=by
 unfold spanPut
 rw [List.getLast?_concat,List.dropLast_concat]
theorem spanPut_len (l:List Keep)(a b:Int):(spanPut l a b).length<=l.length+1:=by
 rcases List.eq_nil_or_concat l with rfl|⟨l,s,rfl⟩
 ·simp [spanPut]
 ·rw [List.concat_eq_append,spanPut_app]
  split<;>simp
theorem span_put {f:List Keep->Option (Exit×VS)}(y:List Keep)(a b:Int)(hl:y.length<=500000):
  (br (igt (llen y) 0)
   (br (cIx y (isub .i64 (llen y) 1))
    (br (cLd y (Int.toNat (isub .i64 (llen y) 1)))
     (br (ieq (((lgt tyKeep y (Int.toNat (isub .i64 (llen y) 1))).2).1) a)
      (br (cIx y (isub .i64 (llen y) 1))
       (br (cLd y (Int.toNat (isub .i64 (llen y) 1)))
        (f (List.set y (Int.toNat (isub .i64 (llen y) 1)) ((lgt tyKeep y (Int.toNat (isub .i64 (llen y) 1))).1,(b,((lgt tyKeep y (Int.toNat (isub .i64 (llen y) 1))).2).2))))
        none) none)
      (br (cApp y [(a,(b,()))] 16) (f (y++[(a,(b,()))])) none)) none) none)
   (br (cApp y [(a,(b,()))] 16) (f (y++[(a,(b,()))])) none))=f (spanPut y a b):=by
 have e0:cApp y [(a,(b,()))] 16=true:=cApp_ok (by simp;omega) (by omega)
 rw [e0]
 simp only [br_true]
 rcases List.eq_nil_or_concat y with rfl|⟨l,s,rfl⟩
 ·rfl
 ·rw [List.concat_eq_append] at*
  have e1:isub .i64 (llen (l++[s])) 1=(l.length:Int):=by
   have:llen (l++[s])=(l.length:Int)+1:=by simp [llen]
   rw [this,isub_in (by rw [List.length_append,List.length_singleton] at hl;omega)]
   omega
  have h2:l.length<(l++[s]).length:=by simp
  have e2:igt (llen (l++[s])) 0=true:=by simp only [igt,llen,List.length_append,List.length_singleton,decide_eq_true_eq];omega
  have e3:cLd (l++[s]) l.length=true:=by simp [cLd]
  have e4:lgt tyKeep (l++[s]) l.length=s:=by rw [lgt_get (y:=tyKeep) h2];simp
  rw [e1,e2]
  simp only [br_true,cIx_nat,h2,decide_true,Int.toNat_natCast,e3,e4,spanPut_app,ieq_dec]
  by_cases hs:s.2.1=a
  ·simp only [hs,decide_true,br_true,if_true]
   congr 1
   obtain ⟨s1,s2,s3⟩:=s
   simp
  ·simp [hs,br_false]
theorem l_f33_0 (x2:Int)(x8:List Int)(x17 x18:Int)(y3:Policy)(y4:Keep)(y7:List Keep)(h:(decide (x17=(x8.length:Int)-1/\0<=x18/\x18<=x17/\x8.length<=500000/\(y7.length:Int)<=x18))=true):lp_f33_0 x2 x8 x17 x18 y3 y4 y7=la_f33_0 x2 x8 x17 x18 y3 y4 y7:=by
 simp only [decide_eq_true_eq] at h
 obtain ⟨rfl,h1,h2,h3,h4⟩:=h
 obtain ⟨k,rfl⟩:=Int.eq_ofNat_of_zero_le h1
 revert y7
 refine up_ind (x8.length-1) (fun k=> ∀ y7:List Keep,(y7.length:Int)<=(k:Int)->lp_f33_0 x2 x8 ((x8.length:Int)-1) (k:Int) y3 y4 y7=la_f33_0 x2 x8 ((x8.length:Int)-1) (k:Int) y3 y4 y7) ?_ ?_ k (by omega)
 ·intro y7 _
  rw [ln_f33_0]
  have e1:ilt ((x8.length-1:Nat):Int) ((x8.length:Int)-1)=false:=by simp only [ilt,decide_eq_false_iff_not];omega
  have e2:x8.drop (x8.length-1)=[x8[x8.length-1]'(by omega)]:=by
   rw [List.drop_eq_getElem_cons (by omega)]
   congr 1
   exact List.drop_eq_nil_of_le (by omega)
  simp only [n_f33_0,e1,br_false,la_f33_0,Int.toNat_natCast,e2,spansL,spansZ]
 ·intro k hk ih y7 hy
  rw [ln_f33_0]
  have e1:ilt (k:Int) ((x8.length:Int)-1)=true:=by simp only [ilt,decide_eq_true_eq];omega
  have hk1:k<x8.length:=by omega
  have hk2:k+1<x8.length:=by omega
  have ea:iadd .i64 (k:Int) 1=((k+1:Nat):Int):=add1 (by omega)
  simp only [n_f33_0,n_f33_0_1,e1,ea,br_true,cIx_nat,hk1,hk2,decide_true,Int.toNat_natCast,lgt_get (y:=tI) hk1,lgt_get (y:=tI) hk2]
  rw [span_put (f:=fun z=>lp_f33_0 x2 x8 ((x8.length:Int)-1) ((k+1:Nat):Int) y3 y4 z) y7 _ _ (by omega)]
  have el:la_f33_0 x2 x8 ((x8.length:Int)-1) (k:Int) y3 y4 y7=la_f33_0 x2 x8 ((x8.length:Int)-1) ((k+1:Nat):Int) y3 y4 (if allF y3 y4 x2 x8[k] then spanPut y7 x8[k] x8[k+1] else y7):=by
   simp only [la_f33_0,spansL,Int.toNat_natCast]
   rw [List.drop_eq_getElem_cons hk1,List.drop_eq_getElem_cons hk2]
   rfl
  rw [el]
  have hp:=spanPut_len y7 x8[k] x8[k+1]
  cases hc:allF y3 y4 x2 x8[k] with
  |true=>
   simp only [Bool.not_true,br_false,if_true]
   exact ih _ (by omega)
  |false=>
   simp only [Bool.not_false,br_true,Bool.false_eq_true,if_false]
   exact ih _ (by omega)
theorem lo_f33_0: ∀ S l p,g_f33.L 0 (fgt fg_f33_0 S)=some (true,l)->pickA l=some p->loopF (roundF g_f33 fg_f33_0 tb_f33_0) S=some p:=
 lok_of (s:=sh_f33_0) ⟨by decide,by decide⟩ (by kernel_rfl) fun x y hok p hp=>by
 simp only [pickA_br,pickA_one] at hp
 exact (l_f33_0 x.1 x.2.2.2.2.1 x.2.2.2.2.2.1 x.2.2.2.2.2.2.1 y.1 y.2.1 y.2.2.1 (by simpa using hok)).trans hp
theorem lk_f33:tc_f33.lok g_f33:=by
 repeat (first|exact trivial|exact lo_f33_0|refine ⟨?_, ?_⟩)
theorem compact_le (l:List Int):(Lib.compact l).length<=l.length:=by
 unfold Lib.compact Lib.compactUpTo
 rw [List.length_map]
 exact Nat.le_trans (List.length_filter_le _ _) (by simp)
theorem cuts_len (rs:List Rule):2<=(cutsP rs).length/\(cutsP rs).length<=2*rs.length+2:=by
 constructor
 ·have h1:(0:Int)∈cutsP rs:=mem_cutsP.2 (.inl rfl)
  have h2:(40001:Int)∈cutsP rs:=mem_cutsP.2 (.inr (.inl rfl))
  match hq:cutsP rs with
  | []=>rw [hq] at h1;cases h1
  | [a]=>
   rw [hq] at h1 h2
   rw [List.mem_singleton] at h1 h2
   omega
  |_::_::_=>simp
 ·unfold cutsP
  refine Nat.le_trans (compact_le _) ?_
  have:=ends_length rs
  unfold sortI
  rw [List.length_mergeSort]
  simp
  omega
theorem s_f33 (y:Policy)(u:Keep)(p:Int)(h:polLen3 y u p=true):r_f33 y u p=some (.t (.sl tyKeep) (spansF y u p),[]):=by
 have h:polLen y=true:=h
 have h':=h
 simp only [polLen,lenOk5,Bool.and_eq_true,decide_eq_true_eq] at h'
 have hl:2<=(daysF y).length/\(daysF y).length<=2*y.1.length+2:=cuts_len y.1
 have e1:isub .i64 (llen (daysF y)) 1=((daysF y).length:Int)-1:=isub_in (by unfold llen;omega)
 simp only [r_f33,h,br_true,e1,Int.toNat_zero,List.drop_zero]
 rw [dec_true (by simp;omega),br_true]
 rfl
def sp_f33:Ent:=spec (.pr tyPolicy (.pr tyKeep (.pr tI .nil))) (fun x=>(polLen3 x.1 x.2.1 x.2.2.1)) (fun x=>(.t (.sl tyKeep) (spansF x.1 x.2.1 x.2.2.1)))
theorem ms_f33:Meets Tryz.prog 33 (strip sp_f33):=meets_spec (R:=runF g_f33 tc_f33 rv_f33 false) (mG Tryz.func33 (by kernel_rfl) Tryz.ntmps33 (by kernel_rfl) gk_f33 lk_f33) fun x hok=>(e_f33 x.1 x.2.1 x.2.2.1).trans (s_f33 x.1 x.2.1 x.2.2.1 hok)
def SpansF (y:Policy)(u:Keep)(p:Int):List Keep×Int:=if earlyF y u p 0=0 then (spansF y u p,0) else ([],earlyF y u p 0)
noncomputable def tc_f12:TC:=(.sq (.reg (rT Tryz.f12 0)) (.sq (.sq (.reg (rT Tryz.f12 1)) (.sq (.reg (rT Tryz.f12 2)) (.cd (.t 14) (.sq (.reg (rT Tryz.f12 3)) .rt) .sk))) (.sq (.reg (rT Tryz.f12 4)) .rt)))
def rv_f12:List (RV×Option Ty):=[((.t 6),some (.sl tyKeep)),((.t 7),some tI)]
def g_f12:G:=⟨TYs,[],20,EL [(32,sp_f32),(33,sp_f33)],keeps,(fun _ _=>none),IL [],RL []⟩
def r_f12 (p0:Policy)(p1:Keep)(p2:Int):Option (V×List VO):=br (polLen4 p0 p1 p2 0) (br (ine (earlyF p0 p1 p2 0) 0) (some (.tu [(.t (.sl tyKeep) ([]:List Keep)),(.t tI (earlyF p0 p1 p2 0))],[])) (br (polLen3 p0 p1 p2) (some (.tu [(.t (.sl tyKeep) (spansF p0 p1 p2)),(.t tI 0)],[])) none)) none
theorem e_f12 (p0:Policy)(p1:Keep)(p2:Int):runF g_f12 tc_f12 rv_f12 false [.t tyPolicy p0,.t tyKeep p1,.t tI p2] []=r_f12 p0 p1 p2:=by kernel_rfl
theorem en_f12:Entered Tryz.prog 12:= .inr ⟨by decide,_,Tryz.func12,by kernel_rfl,by kernel_rfl⟩
theorem gk_f12:GOk Tryz.prog g_f12:=gok_of _ (gA (gC en_f32 ms_f32 (gC en_f33 ms_f33 gN)))
theorem lk_f12:tc_f12.lok g_f12:=by repeat (first|exact trivial|refine ⟨?_, ?_⟩)
theorem s_f12 (y:Policy)(u:Keep)(p:Int)(h:polLen3 y u p=true):r_f12 y u p=some (.tu [.t (.sl tyKeep) (SpansF y u p).1,.t tI (SpansF y u p).2],[]):=by
 have h4:polLen4 y u p 0=true:=h
 simp only [r_f12,h,h4,br_true,SpansF,ine_dec]
 by_cases h0:earlyF y u p 0=0<;>simp [h0,br_true,br_false]
def sp_f12:Ent:=spec (.pr tyPolicy (.pr tyKeep (.pr tI .nil))) (fun x=>(polLen3 x.1 x.2.1 x.2.2.1)) (fun x=>(.tu [(.t (.sl tyKeep) ((SpansF x.1 x.2.1 x.2.2.1).1)),(.t tI ((SpansF x.1 x.2.1 x.2.2.1).2))]))
theorem ms_f12:Meets Tryz.prog 12 (strip sp_f12):=meets_spec (R:=runF g_f12 tc_f12 rv_f12 false) (mG Tryz.func12 (by kernel_rfl) Tryz.ntmps12 (by kernel_rfl) gk_f12 lk_f12) fun x hok=>(e_f12 x.1 x.2.1 x.2.2.1).trans (s_f12 x.1 x.2.1 x.2.2.1 hok)
theorem spansZ_len {f:Int->Bool}: ∀ (l:List Int) (out:List Keep),(spansZ f l out).length<=out.length+l.length
 | [],out=>by simp [spansZ]
 | [a],out=>by simp [spansZ]
 |a::b::r,out=>by
  have h:=spansZ_len (f:=f) (b::r) (if f a then spanPut out a b else out)
  have h2:=spanPut_len out a b
  simp only [spansZ,List.length_cons] at h ⊢
  split at h<;>simp_all<;>omega
theorem spans_len (y:Policy)(u:Keep)(p:Int):(spansF y u p).length<=2*y.1.length+2:=by
 have:=spansZ_len (f:=allF y u p) (cutsP y.1) []
 have:=cuts_len y.1
 unfold spansF
 simp at*
 omega
end Go.Proofs.YticnbacafmeiiaaGreatDoor.K
namespace Go.Proofs.YticnbacafmeiiaaGreatDoor.K
open Go.RowKit
noncomputable section
def exLn (l:List Exception):Bool:=decide (l.length<=100000)&&l.all exLn1
def exLX (l:List Exception)(o:Dice):Bool:=exLn l&&idxOk1 o.1 0
theorem exLn_len {l:List Exception}(h:exLn l=true):l.length<=100000:=of_decide_eq_true (Bool.and_eq_true_iff.1 h).1
theorem exLn_at {l:List Exception}(h:exLn l=true){k:Nat}(hk:k<l.length):exLn1 l[k]=true:=List.all_eq_true.1 (Bool.and_eq_true_iff.1 h).2 _ (List.getElem_mem hk)
theorem exLX_at {l:List Exception}{o:Dice}(h:exLX l o=true){k:Nat}(hk:k<l.length):valLn l[k] o=true:=by
 obtain ⟨h1,h2⟩:=Bool.and_eq_true_iff.1 h
 exact Bool.and_eq_true_iff.2 ⟨exLn_at h1 hk,h2⟩
def hitX (o:Dice)(u:Keep)(p:Int)(s:ByteArray)(d:Int)(x:Exception):Bool:=valX x o&&covX x u p s d
def exCov (l:List Exception)(o:Dice)(u:Keep)(p:Int)(s:ByteArray)(d:Int):Bool:=l.any (hitX o u p s d)
def exEndOk (l:List Exception)(o:Dice)(_u:Keep)(_p:Int)(_s:ByteArray)(_d:Int):Bool:=exLX l o
def exStep (o:Dice)(u:Keep)(p:Int)(s:ByteArray)(d:Int)(z:Int×Bool)(x:Exception):Int×Bool:=bif hitX o u p s d x then (imx z.1 x.2.2.2.1.2.1,true) else z
def exEnd (l:List Exception)(o:Dice)(u:Keep)(p:Int)(s:ByteArray)(d:Int):Int×Bool:=l.foldl (exStep o u p s d) (0,false)
theorem exStep_some (o:Dice)(u:Keep)(p:Int)(s:ByteArray)(d:Int): ∀ (l:List Exception) (z:Int×Bool),(l.foldl (exStep o u p s d) z).2=(z.2||l.any (hitX o u p s d))
 | [],z=>by simp
 |x::l,z=>by
  rw [List.foldl_cons,exStep_some o u p s d l,List.any_cons]
  unfold exStep
  cases hitX o u p s d x with
  |true=>simp
  |false=>simp
theorem exEnd_some (l:List Exception)(o:Dice)(u:Keep)(p:Int)(s:ByteArray)(d:Int):(exEnd l o u p s d).2=exCov l o u p s d:=by
 unfold exEnd exCov
 rw [exStep_some]
 rfl
def fg_f47_0:Fg:=⟨[(3,some tI),(4,some .str),(5,some tI),(7,none),(8,none),(14,some tI),(15,some .bool),(18,some (.sl tyException)),(19,some tI),(20,some tI)],[(7,some tyDice),(8,some tyKeep)]⟩
noncomputable def tb_f47_0:TC:=(.sq (.reg (rT Tryz.f47 3)) (.sq (.cd (.t 21) .sk (.fg ⟨[(14,some tI),(15,some .bool)],[]⟩ (.ex 0))) (.sq (.bk 1 (.sq (.reg (rT Tryz.f47 4)) (.sq (.reg (rT Tryz.f47 5)) (.cd (.t 34) (.reg (rT Tryz.f47 6)) .sk)))) (.reg (rT Tryz.f47 7)))))
noncomputable def tc_f47:TC:=(.sq (.reg (rT Tryz.f47 0)) (.sq (.reg (rT Tryz.f47 1)) (.sq (.sq (.reg (rT Tryz.f47 2)) (.bk 0 (.lp 0 fg_f47_0 tb_f47_0))) (.sq (.reg (rT Tryz.f47 8)) .rt))))
def rv_f47:List (RV×Option Ty):=[((.t 12),some tI),((.t 13),some .bool)]
abbrev sh_f47_0:Sh:=⟨[(3,.ty tI),(4,.ty .str),(5,.ty tI),(7,.ptr 7 0),(8,.ptr 8 0),(14,.ty tI),(15,.ty .bool),(18,.ty (.sl tyException)),(19,.ty tI),(20,.ty tI)],[(7,.box tyDice),(8,.box tyKeep)]⟩
def st_f47_0 (x3:Int)(x4:ByteArray)(x5 x14:Int)(x15:Bool)(x18:List Exception)(x19 x20:Int)(y7:Dice)(y8:Keep):VS:=sh_f47_0.st (x3,x4,x5,(),(),x14,x15,x18,x19,x20,()) (y7,y8,())
abbrev sh_f47_0_e0:Sh:=⟨[(14,.ty tI),(15,.ty .bool)],[]⟩
def st_f47_0_e0 (x14:Int)(x15:Bool):VS:=sh_f47_0_e0.st (x14,x15,()) ()
def L_f47_0:VS->Option (Bool×List (Bool×Exit×VS)):=mkL sh_f47_0 (fun x y=>(rngOk x.2.2.2.2.2.2.2.1 x.2.2.2.2.2.2.2.2.1 x.2.2.2.2.2.2.2.2.2.1&&exLX x.2.2.2.2.2.2.2.1 y.1)) (fun x y=>[(true,.exit 0,st_f47_0_e0 (((x.2.2.2.2.2.2.2.1.drop x.2.2.2.2.2.2.2.2.2.1.toNat).foldl (exStep y.1 y.2.1 x.1 x.2.1 x.2.2.1) (x.2.2.2.2.2.1,x.2.2.2.2.2.2.1)).1) (((x.2.2.2.2.2.2.2.1.drop x.2.2.2.2.2.2.2.2.2.1.toNat).foldl (exStep y.1 y.2.1 x.1 x.2.1 x.2.2.1) (x.2.2.2.2.2.1,x.2.2.2.2.2.2.1)).2))])
def g_f47:G:=⟨TYs,[],43,EL [(96,sp_f96),(97,sp_f97)],keeps,(Ls [L_f47_0]),IL [],RL []⟩
def b_f47_0 (x3:Int)(x4:ByteArray)(x5 x14:Int)(x15:Bool)(x18:List Exception)(x19 x20:Int)(y7:Dice)(y8:Keep):Option (Exit×VS):=
 let a1:=lgt tyException x18 (Int.toNat x20)
 let a2:=iadd .i64 x20 1
 br (ilt x20 x19) (br (cIx x18 x20) (br (covX a1 y8 x3 x4 x5) (br (valLn a1 y7) (br (valX a1 y7) (some (.normal,st_f47_0 x3 x4 x5 (imx x14 ((((((a1.2).2).2).1).2).1)) true x18 x19 a2 y7 y8)) (some (.normal,st_f47_0 x3 x4 x5 x14 x15 x18 x19 a2 y7 y8))) none) (some (.normal,st_f47_0 x3 x4 x5 x14 x15 x18 x19 a2 y7 y8))) none) (some (.exit 0,st_f47_0_e0 x14 x15))
noncomputable def lp_f47_0 (x3:Int)(x4:ByteArray)(x5 x14:Int)(x15:Bool)(x18:List Exception)(x19 x20:Int)(y7:Dice)(y8:Keep):Option (Exit×VS):=loopF (roundF g_f47 fg_f47_0 tb_f47_0) (st_f47_0 x3 x4 x5 x14 x15 x18 x19 x20 y7 y8)
noncomputable def n_f47_0 (x3:Int)(x4:ByteArray)(x5 x14:Int)(x15:Bool)(x18:List Exception)(x19 x20:Int)(y7:Dice)(y8:Keep):Option (Exit×VS):=
 let a1:=lgt tyException x18 (Int.toNat x20)
 let a2:=iadd .i64 x20 1
 br (ilt x20 x19) (br (cIx x18 x20) (br (covX a1 y8 x3 x4 x5) (br (valLn a1 y7) (br (valX a1 y7) (lp_f47_0 x3 x4 x5 (imx x14 ((((((a1.2).2).2).1).2).1)) true x18 x19 a2 y7 y8) (lp_f47_0 x3 x4 x5 x14 x15 x18 x19 a2 y7 y8)) none) (lp_f47_0 x3 x4 x5 x14 x15 x18 x19 a2 y7 y8)) none) (some (.exit 0,st_f47_0_e0 x14 x15))
def la_f47_0 (x3:Int)(x4:ByteArray)(x5 x14:Int)(x15:Bool)(x18:List Exception)(x19 x20:Int)(y7:Dice)(y8:Keep):Option (Exit×VS):=
 let a1:=((x18.drop x20.toNat).foldl (exStep y7 y8 x3 x4 x5) (x14,x15))
 some (.exit 0,st_f47_0_e0 (a1.1) (a1.2))
theorem be_f47_0 (x3:Int)(x4:ByteArray)(x5 x14:Int)(x15:Bool)(x18:List Exception)(x19 x20:Int)(y7:Dice)(y8:Keep):roundF g_f47 fg_f47_0 tb_f47_0 (st_f47_0 x3 x4 x5 x14 x15 x18 x19 x20 y7 y8)=b_f47_0 x3 x4 x5 x14 x15 x18 x19 x20 y7 y8:=by kernel_rfl
theorem ln_f47_0 (x3:Int)(x4:ByteArray)(x5 x14:Int)(x15:Bool)(x18:List Exception)(x19 x20:Int)(y7:Dice)(y8:Keep):lp_f47_0 x3 x4 x5 x14 x15 x18 x19 x20 y7 y8=n_f47_0 x3 x4 x5 x14 x15 x18 x19 x20 y7 y8:=(loopF_nxt _ _).trans (by
 rw [be_f47_0]
 simp only [b_f47_0,n_f47_0,nxt_br,nxt_n,nxt_r,nxt_e,nxt_0]
 rfl)
def r_f47 (p0:List Exception)(p1:Dice)(p2:Keep)(p3:Int)(p4:ByteArray)(p5:Int):Option (V×List VO):=
 let a1:=(p0.drop (0:Int).toNat)
 let a2:=(a1.foldl (exStep p1 p2 p3 p4 p5) ((0:Int),false))
 br (rngOk p0 (llen p0) (0:Int)&&exLX p0 p1) (some (.tu [(.t tI (a2.1)),(.t .bool (a2.2))],[])) none
theorem e_f47 (p0:List Exception)(p1:Dice)(p2:Keep)(p3:Int)(p4:ByteArray)(p5:Int):runF g_f47 tc_f47 rv_f47 false [.t (.sl tyException) p0,.t tyDice p1,.t tyKeep p2,.t tI p3,.t .str p4,.t tI p5] []=r_f47 p0 p1 p2 p3 p4 p5:=by kernel_rfl
theorem en_f47:Entered Tryz.prog 47:= .inr ⟨by decide,_,Tryz.func47,by kernel_rfl,by kernel_rfl⟩
theorem gk_f47:GOk Tryz.prog g_f47:=gok_of _ (gA (gC en_f96 ms_f96 (gC en_f97 ms_f97 gN)))
theorem l_f47_0 (x3:Int)(x4:ByteArray)(x5 x14:Int)(x15:Bool)(x18:List Exception)(x19 x20:Int)(y7:Dice)(y8:Keep)(h:(rngOk x18 x19 x20&&exLX x18 y7)=true):lp_f47_0 x3 x4 x5 x14 x15 x18 x19 x20 y7 y8=la_f47_0 x3 x4 x5 x14 x15 x18 x19 x20 y7 y8:=by
 obtain ⟨h0,hc⟩:=Bool.and_eq_true_iff.1 h
 obtain ⟨rfl,h3,k,rfl,hk⟩:=rng_k h0
 clear h0
 revert x14 x15
 refine range_ind x18 (fun k=> ∀ (x14:Int) (x15:Bool),lp_f47_0 x3 x4 x5 x14 x15 x18 (x18.length:Int) (k:Int) y7 y8=la_f47_0 x3 x4 x5 x14 x15 x18 (x18.length:Int) (k:Int) y7 y8) ?_ ?_ k hk
 ·intro x14 x15
  rw [ln_f47_0]
  simp only [n_f47_0,la_f47_0,ilt_nat,Nat.lt_irrefl,decide_false,br_false,Int.toNat_natCast,List.drop_length,List.foldl_nil]
 ·intro k hk ih x14 x15
  rw [ln_f47_0]
  have hv:=exLX_at hc hk
  simp only [n_f47_0,ilt_nat,cIx_nat,hk,decide_true,br_true,Int.toNat_natCast,add1 (k:=k),lgt_get (y:=tyException) hk,hv,ih]
  simp only [la_f47_0,Int.toNat_natCast,List.drop_eq_getElem_cons hk,List.foldl_cons]
  unfold exStep hitX
  cases covX x18[k] y8 x3 x4 x5 with
  |false=>simp only [br_false,Bool.and_false,cond_false]
  |true=>cases valX x18[k] y7<;>rfl
theorem lo_f47_0: ∀ S l p,g_f47.L 0 (fgt fg_f47_0 S)=some (true,l)->pickA l=some p->loopF (roundF g_f47 fg_f47_0 tb_f47_0) S=some p:=
 lok_of (s:=sh_f47_0) ⟨by decide,by decide⟩ (by kernel_rfl) fun x y hok p hp=>by
 simp only [pickA_br,pickA_one] at hp
 exact (l_f47_0 x.1 x.2.1 x.2.2.1 x.2.2.2.2.2.1 x.2.2.2.2.2.2.1 x.2.2.2.2.2.2.2.1 x.2.2.2.2.2.2.2.2.1 x.2.2.2.2.2.2.2.2.2.1 y.1 y.2.1 (by simpa using hok)).trans hp
theorem lk_f47:tc_f47.lok g_f47:=by
 repeat (first|exact trivial|exact lo_f47_0|refine ⟨?_, ?_⟩)
theorem s_f47 (l:List Exception)(o:Dice)(u:Keep)(p:Int)(e:ByteArray)(d:Int)(h:exEndOk l o u p e d=true):r_f47 l o u p e d=some (.tu [.t tI (exEnd l o u p e d).1,.t .bool (exEnd l o u p e d).2],[]):=by
 have h:exLX l o=true:=h
 unfold r_f47
 refine brY ?_ rfl
 rw [rng_0 (exLn_len (Bool.and_eq_true_iff.1 h).1),h]
 rfl
def sp_f47:Ent:=spec (.pr (.sl tyException) (.pr tyDice (.pr tyKeep (.pr tI (.pr .str (.pr tI .nil)))))) (fun x=>(exEndOk x.1 x.2.1 x.2.2.1 x.2.2.2.1 x.2.2.2.2.1 x.2.2.2.2.2.1)) (fun x=>(.tu [(.t tI ((exEnd x.1 x.2.1 x.2.2.1 x.2.2.2.1 x.2.2.2.2.1 x.2.2.2.2.2.1).1)),(.t .bool ((exEnd x.1 x.2.1 x.2.2.1 x.2.2.2.1 x.2.2.2.2.1 x.2.2.2.2.2.1).2))]))
theorem ms_f47:Meets Tryz.prog 47 (strip sp_f47):=meets_spec (R:=runF g_f47 tc_f47 rv_f47 false) (mG Tryz.func47 (by kernel_rfl) Tryz.ntmps47 (by kernel_rfl) gk_f47 lk_f47) fun x hok=>(e_f47 x.1 x.2.1 x.2.2.1 x.2.2.2.1 x.2.2.2.2.1 x.2.2.2.2.2.1).trans (s_f47 x.1 x.2.1 x.2.2.1 x.2.2.2.1 x.2.2.2.2.1 x.2.2.2.2.2.1 hok)
def exBad (x:Exception):Bool:= !exG x
def exAny (l:List Exception):Bool:=l.any exBad
noncomputable def tc_f45:TC:=(.sq (.reg (rT Tryz.f45 0)) (.sq (.reg (rT Tryz.f45 1)) .rt))
def rv_f45:List (RV×Option Ty):=[((.t 2),some .bool)]
def g_f45:G:=⟨TYs,[],6,EL [(46,sp_f46)],keeps,(fun _ _=>none),IL [],RL []⟩
def r_f45 (p0:Exception):Option (V×List VO):=br (exLn1 p0) (some (.t .bool (ine (exZ p0) 0),[])) none
theorem e_f45 (p0:Exception):runF g_f45 tc_f45 rv_f45 false [.t tyException p0] []=r_f45 p0:=by kernel_rfl
theorem en_f45:Entered Tryz.prog 45:= .inr ⟨by decide,_,Tryz.func45,by kernel_rfl,by kernel_rfl⟩
theorem gk_f45:GOk Tryz.prog g_f45:=gok_of _ (gA (gC en_f46 ms_f46 gN))
theorem lk_f45:tc_f45.lok g_f45:=by repeat (first|exact trivial|refine ⟨?_, ?_⟩)
theorem s_f45 (x:Exception)(h:exLn1 x=true):r_f45 x=some (.t .bool (exBad x),[]):=by
 simp only [r_f45,h,br_true,exZ_ne]
 rfl
def sp_f45:Ent:=specH [.ty tyException] [] (fun x d=>(exLn1 x.1)) (fun x d=>(.t .bool (exBad x.1)))
theorem ms_f45:Meets Tryz.prog 45 (strip sp_f45):=(meets_specH (R:=runF g_f45 tc_f45 rv_f45 false) (mG Tryz.func45 (by kernel_rfl) Tryz.ntmps45 (by kernel_rfl) gk_f45 lk_f45) fun x d hok=>(e_f45 x.1).trans (s_f45 x.1 hok))
def exIx (l:List Exception):Int:=match fstG exBad l with|some k=>(k:Int)|none=> -1
theorem ex_any (l:List Exception):ige (exIx l) 0=exAny l:=by
 unfold exIx exAny
 cases hq:fstG exBad l with
 |none=>rw [fstG_none.1 hq];rfl
 |some k=>
  rw [←fstG_isSome,hq]
  simp only [ige,Option.isSome_some,decide_eq_true_eq]
  omega
def fg_f94c45_0:Fg:=⟨[(0,some (.sl tyException)),(1,none),(7,some tI),(8,some tI)],[]⟩
noncomputable def tb_f94c45_0:TC:=(.sq (.reg (rT Tryz.f94 2)) (.sq (.cd (.t 9) .sk (.fg ⟨[],[]⟩ (.ex 0))) (.sq (.bk 1 (.sq (.reg (rT Tryz.f94 3)) (.sq (.reg (rT Tryz.f94 4)) (.cd (.t 16) (.sq (.reg (rT Tryz.f94 5)) (.fg ⟨[(4,some tI)],[]⟩ .rt)) .sk)))) (.reg (rT Tryz.f94 6)))))
noncomputable def tc_f94c45:TC:=(.sq (.reg (rT Tryz.f94 0)) (.sq (.sq (.reg (rT Tryz.f94 1)) (.bk 0 (.lp 0 fg_f94c45_0 tb_f94c45_0))) (.sq (.reg (rT Tryz.f94 7)) .rt)))
def rv_f94c45:List (RV×Option Ty):=[((.t 4),some tI)]
abbrev sh_f94c45_0:Sh:=⟨[(0,.ty (.sl tyException)),(1,.cf 45),(7,.ty tI),(8,.ty tI)],[]⟩
def st_f94c45_0 (x0:List Exception)(x7 x8:Int):VS:=sh_f94c45_0.st (x0,(),x7,x8,()) ()
abbrev sh_f94c45_0_ret:Sh:=⟨[(4,.ty tI)],[]⟩
def st_f94c45_0_ret (x4:Int):VS:=sh_f94c45_0_ret.st (x4,()) ()
abbrev sh_f94c45_0_e0:Sh:=⟨[],[]⟩
def st_f94c45_0_e0  : VS:=sh_f94c45_0_e0.st () ()
def L_f94c45_0:VS->Option (Bool×List (Bool×Exit×VS)):=mkL sh_f94c45_0 (fun x y=>(rngOk x.1 x.2.2.1 x.2.2.2.1&&exLn x.1)) (fun x y=>[(((fstG exBad (x.1.drop x.2.2.2.1.toNat)).isSome),.ret,st_f94c45_0_ret (x.2.2.2.1+((fstG exBad (x.1.drop x.2.2.2.1.toNat)).getD 0:Nat))),(true,.exit 0,st_f94c45_0_e0)])
def g_f94c45:G:=⟨TYs,[],19,EL [(45,sp_f45)],keeps,(Ls [L_f94c45_0]),IL [],RL []⟩
def b_f94c45_0 (x0:List Exception)(x7 x8:Int):Option (Exit×VS):=
 let a1:=lgt tyException x0 (Int.toNat x8)
 br (ilt x8 x7) (br (cIx x0 x8) (br (exLn1 a1) (br (exBad a1) (some (.ret,st_f94c45_0_ret x8)) (some (.normal,st_f94c45_0 x0 x7 (iadd .i64 x8 1)))) none) none) (some (.exit 0,st_f94c45_0_e0))
noncomputable def lp_f94c45_0 (x0:List Exception)(x7 x8:Int):Option (Exit×VS):=loopF (roundF g_f94c45 fg_f94c45_0 tb_f94c45_0) (st_f94c45_0 x0 x7 x8)
noncomputable def n_f94c45_0 (x0:List Exception)(x7 x8:Int):Option (Exit×VS):=
 let a1:=lgt tyException x0 (Int.toNat x8)
 br (ilt x8 x7) (br (cIx x0 x8) (br (exLn1 a1) (br (exBad a1) (some (.ret,st_f94c45_0_ret x8)) (lp_f94c45_0 x0 x7 (iadd .i64 x8 1))) none) none) (some (.exit 0,st_f94c45_0_e0))
def la_f94c45_0 (x0:List Exception)(x7 x8:Int):Option (Exit×VS):=
 let a1:=fstG exBad (x0.drop x8.toNat)
 br (a1.isSome) (some (.ret,st_f94c45_0_ret (x8+(a1.getD 0:Nat))))<|some (.exit 0,st_f94c45_0_e0)
theorem be_f94c45_0 (x0:List Exception)(x7 x8:Int):roundF g_f94c45 fg_f94c45_0 tb_f94c45_0 (st_f94c45_0 x0 x7 x8)=b_f94c45_0 x0 x7 x8:=by kernel_rfl
theorem ln_f94c45_0 (x0:List Exception)(x7 x8:Int):lp_f94c45_0 x0 x7 x8=n_f94c45_0 x0 x7 x8:=(loopF_nxt _ _).trans (by
 rw [be_f94c45_0]
 simp only [b_f94c45_0,n_f94c45_0,nxt_br,nxt_n,nxt_r,nxt_e,nxt_0]
 rfl)
def r_f94c45 (p0:List Exception):Option (V×List VO):=
 let a1:=(fstG exBad (p0.drop (0:Int).toNat))
 br (rngOk p0 (llen p0) (0:Int)&&exLn p0) (br (a1.isSome) (some (.t tI ((0:Int)+(a1.getD 0:Nat)),[])) (some (.t tI (-1),[]))) none
theorem e_f94c45 (p0:List Exception):runF g_f94c45 tc_f94c45 rv_f94c45 false [.t (.sl tyException) p0,.c (.func (.func 45) ⟨[]⟩ ⟨[]⟩)] []=r_f94c45 p0:=by kernel_rfl
theorem en_f94c45:Entered Tryz.prog 94:= .inr ⟨by decide,_,Tryz.func94,by kernel_rfl,by kernel_rfl⟩
theorem gk_f94c45:GOk Tryz.prog g_f94c45:=gok_of _ (gA (gC en_f45 ms_f45 gN))
theorem l_f94c45_0 (x0:List Exception)(x7 x8:Int)(h:(rngOk x0 x7 x8&&exLn x0)=true):lp_f94c45_0 x0 x7 x8=la_f94c45_0 x0 x7 x8:=by
 obtain ⟨h0,hc⟩:=Bool.and_eq_true_iff.1 h
 obtain ⟨rfl,h3,k,rfl,hk⟩:=rng_k h0
 clear h0
 refine range_ind x0 (fun k=>lp_f94c45_0 x0 (x0.length:Int) (k:Int)=la_f94c45_0 x0 (x0.length:Int) (k:Int)) ?_ ?_ k hk
 ·rw [ln_f94c45_0]
  simp [n_f94c45_0,la_f94c45_0,ilt_nat,br_false,fstG]
 ·intro k hk ih
  rw [ln_f94c45_0]
  have hx:=exLn_at hc hk
  simp only [n_f94c45_0,ilt_nat,cIx_nat,hk,decide_true,br_true,Int.toNat_natCast,add1 (k:=k),ih,lgt_get (y:=tyException) hk,hx]
  simp only [la_f94c45_0,Int.toNat_natCast,List.drop_eq_getElem_cons hk,fstG]
  cases h:(exBad x0[k]) with
  |true=>simp [br_true]
  |false=>
   simp only [br_false,Bool.false_eq_true,if_false]
   cases hq:fstG exBad (x0.drop (k+1)) with
   |none=>rfl
   |some j=>
    simp only [Option.map_some,Option.isSome_some,Option.getD_some,br_true]
    congr 3
    omega
theorem lo_f94c45_0: ∀ S l p,g_f94c45.L 0 (fgt fg_f94c45_0 S)=some (true,l)->pickA l=some p->loopF (roundF g_f94c45 fg_f94c45_0 tb_f94c45_0) S=some p:=
 lok_of (s:=sh_f94c45_0) ⟨by decide,by decide⟩ (by kernel_rfl) fun x y hok p hp=>by
 simp only [pickA_br,pickA_one] at hp
 exact (l_f94c45_0 x.1 x.2.2.1 x.2.2.2.1 (by simpa using hok)).trans hp
theorem lk_f94c45:tc_f94c45.lok g_f94c45:=by
 repeat (first|exact trivial|exact lo_f94c45_0|refine ⟨?_, ?_⟩)
theorem s_f94c45 (l:List Exception)(h:exLn l=true):r_f94c45 l=some (.t tI (exIx l),[]):=by
 have hl:=exLn_len h
 simp only [r_f94c45,rng_0 hl,h,Bool.and_self,br_true,Int.toNat_zero,List.drop_zero,exIx]
 cases fstG exBad l<;>simp [br_true,br_false]
def sp_f94c45:Ent:=specH [.ty (.sl tyException),.cf 45] [] (fun x d=>(exLn x.1)) (fun x d=>(.t tI (exIx x.1)))
theorem ms_f94c45:Meets Tryz.prog 94 (strip sp_f94c45):=(meets_specH (R:=runF g_f94c45 tc_f94c45 rv_f94c45 false) (mG Tryz.func94 (by kernel_rfl) Tryz.ntmps94 (by kernel_rfl) gk_f94c45 lk_f94c45) fun x d hok=>(e_f94c45 x.1).trans (s_f94c45 x.1 hok))
noncomputable def tc_f44c45:TC:=(.sq (.reg (rT Tryz.f44 0)) (.sq (.reg (rT Tryz.f44 1)) .rt))
def rv_f44c45:List (RV×Option Ty):=[((.t 4),some .bool)]
def g_f44c45:G:=⟨TYs,[],9,EL [(94,sp_f94c45)],keeps,(fun _ _=>none),IL [],RL []⟩
def r_f44c45 (p0:List Exception):Option (V×List VO):=br (exLn p0) (some (.t .bool (ige (exIx p0) 0),[])) none
theorem e_f44c45 (p0:List Exception):runF g_f44c45 tc_f44c45 rv_f44c45 false [.t (.sl tyException) p0,.c (.func (.func 45) ⟨[]⟩ ⟨[]⟩)] []=r_f44c45 p0:=by kernel_rfl
theorem en_f44c45:Entered Tryz.prog 44:= .inr ⟨by decide,_,Tryz.func44,by kernel_rfl,by kernel_rfl⟩
theorem gk_f44c45:GOk Tryz.prog g_f44c45:=gok_of _ (gA (gC en_f94c45 ms_f94c45 gN))
theorem lk_f44c45:tc_f44c45.lok g_f44c45:=by repeat (first|exact trivial|refine ⟨?_, ?_⟩)
theorem s_f44c45 (l:List Exception)(h:exLn l=true):r_f44c45 l=some (.t .bool (exAny l),[]):=by
 simp only [r_f44c45,h,br_true,ex_any]
def sp_f44c45:Ent:=specH [.ty (.sl tyException),.cf 45] [] (fun x d=>(exLn x.1)) (fun x d=>(.t .bool (exAny x.1)))
theorem ms_f44c45:Meets Tryz.prog 44 (strip sp_f44c45):=(meets_specH (R:=runF g_f44c45 tc_f44c45 rv_f44c45 false) (mG Tryz.func44 (by kernel_rfl) Tryz.ntmps44 (by kernel_rfl) gk_f44c45 lk_f44c45) fun x d hok=>(e_f44c45 x.1).trans (s_f44c45 x.1 hok))
def exAl (y:Policy)(l:List Exception)(o:Dice)(u:Keep)(p:Int)(s:ByteArray)(d:Int):Bool×Int:=
 bif ine (AllowedF y u p d).2.2 0 then (false,(AllowedF y u p d).2.2) else bif exAny l then (false,26) else ((AllowedF y u p d).1||exCov l o u p s d,0)
def exAlOk (y:Policy)(l:List Exception)(o:Dice)(_:Keep)(_:Int)(_:ByteArray)(_:Int):Bool:=polLen y&&exLX l o
noncomputable def tc_f15:TC:=(.sq (.reg (rT Tryz.f15 0)) (.sq (.reg (rT Tryz.f15 1)) (.sq (.bk 0 (.sq (.reg (rT Tryz.f15 2)) (.cd (.t 30) (.sq (.reg (rT Tryz.f15 3)) .rt) (.sq (.reg (rT Tryz.f15 4)) (.cd (.t 34) (.sq (.reg (rT Tryz.f15 5)) .rt) .sk))))) (.sq (.reg (rT Tryz.f15 6)) (.sq (.reg (rT Tryz.f15 7)) .rt)))))
def rv_f15:List (RV×Option Ty):=[((.t 14),some .bool),((.t 15),some tI)]
def g_f15:G:=⟨TYs,[],51,EL [(13,sp_f13),(44,sp_f44c45),(47,sp_f47)],keeps,(fun _ _=>none),IL [],RL []⟩
def r_f15 (p0:Policy)(p1:List Exception)(p2:Dice)(p3:Keep)(p4:Int)(p5:ByteArray)(p6:Int):Option (V×List VO):=
 let a1:=AllowedF p0 p3 p4 p6
 br (polLen4 p0 p3 p4 p6) (br (ine ((a1.2).2) 0) (some (.tu [(.t .bool false),(.t tI ((a1.2).2))],[])) (br (exLn p1) (br (exAny p1) (some (.tu [(.t .bool false),(.t tI 26)],[])) (br (exEndOk p1 p2 p3 p4 p5 p6) (br (a1.1) (some (.tu [(.t .bool true),(.t tI 0)],[])) (some (.tu [(.t .bool ((exEnd p1 p2 p3 p4 p5 p6).2)),(.t tI 0)],[]))) none)) none)) none
theorem e_f15 (p0:Policy)(p1:List Exception)(p2:Dice)(p3:Keep)(p4:Int)(p5:ByteArray)(p6:Int):runF g_f15 tc_f15 rv_f15 false [.t tyPolicy p0,.t (.sl tyException) p1,.t tyDice p2,.t tyKeep p3,.t tI p4,.t .str p5,.t tI p6] []=r_f15 p0 p1 p2 p3 p4 p5 p6:=by kernel_rfl
theorem en_f15:Entered Tryz.prog 15:= .inr ⟨by decide,_,Tryz.func15,by kernel_rfl,by kernel_rfl⟩
theorem gk_f15:GOk Tryz.prog g_f15:=gok_of _ (gA (gC en_f13 ms_f13 (gC en_f44c45 ms_f44c45 (gC en_f47 ms_f47 gN))))
theorem lk_f15:tc_f15.lok g_f15:=by repeat (first|exact trivial|refine ⟨?_, ?_⟩)
theorem s_f15 (y:Policy)(l:List Exception)(o:Dice)(u:Keep)(p:Int)(e:ByteArray)(d:Int)(h:exAlOk y l o u p e d=true):r_f15 y l o u p e d=some (.tu [.t .bool (exAl y l o u p e d).1,.t tI (exAl y l o u p e d).2],[]):=by
 obtain ⟨h1,h2⟩:=Bool.and_eq_true_iff.1 h
 have h3:=(Bool.and_eq_true_iff.1 h2).1
 unfold r_f15 exAl
 refine brY h1 ?_
 cases ine (AllowedF y u p d).2.2 0 with
 |true=>rfl
 |false=>
  rw [br_false]
  refine brY h3 ?_
  cases exAny l with
  |true=>rfl
  |false=>
   rw [br_false]
   refine brY (show exEndOk l o u p e d=true from h2) ?_
   rw [exEnd_some]
   cases (AllowedF y u p d).1<;>rfl
def sp_f15:Ent:=spec (.pr tyPolicy (.pr (.sl tyException) (.pr tyDice (.pr tyKeep (.pr tI (.pr .str (.pr tI .nil))))))) (fun x=>(exAlOk x.1 x.2.1 x.2.2.1 x.2.2.2.1 x.2.2.2.2.1 x.2.2.2.2.2.1 x.2.2.2.2.2.2.1)) (fun x=>(.tu [(.t .bool ((exAl x.1 x.2.1 x.2.2.1 x.2.2.2.1 x.2.2.2.2.1 x.2.2.2.2.2.1 x.2.2.2.2.2.2.1).1)),(.t tI ((exAl x.1 x.2.1 x.2.2.1 x.2.2.2.1 x.2.2.2.2.1 x.2.2.2.2.2.1 x.2.2.2.2.2.2.1).2))]))
theorem ms_f15:Meets Tryz.prog 15 (strip sp_f15):=meets_spec (R:=runF g_f15 tc_f15 rv_f15 false) (mG Tryz.func15 (by kernel_rfl) Tryz.ntmps15 (by kernel_rfl) gk_f15 lk_f15) fun x hok=>(e_f15 x.1 x.2.1 x.2.2.1 x.2.2.2.1 x.2.2.2.2.1 x.2.2.2.2.2.1 x.2.2.2.2.2.2.1).trans (s_f15 x.1 x.2.1 x.2.2.1 x.2.2.2.1 x.2.2.2.2.1 x.2.2.2.2.2.1 x.2.2.2.2.2.2.1 hok)
end
end Go.Proofs.YticnbacafmeiiaaGreatDoor.K
namespace Go.Proofs.YticnbacafmeiiaaGreatDoor.K
open Go.RowKit
def sgR:List AR:=[
 {f:=40 },
 {f:=91 },
 {f:=38,keep:=[91],ro:=true },
 {f:=167 },
 {f:=93 },
 {f:=43 },
 {f:=158,pl:=[(3216,[(5,[50000]),(7,[50000]),(8,[50000]),(9,[50000]),(12,[50000]),(13,[50000]),(14,[32,5032,10032,15032])],(.of [0,1,2,3,4,5,6,7,8,9,10,11,12,13,14,15,16]))] },
 {f:=92,keep:=[92,158] },
 {f:=42,keep:=[92] }]
def sgA:AR:={f:=14,keep:=[38,42],pl:=[(126,[(0,[26]),(1,[3]),(6,[26,39,5039,10039,15039]),(7,[26])],(.of [0,1,2,3,4,5,6,7]))]}
def sgB:List (Nat×Ent):=[(36,sp_f36),(37,sp_f37),(39,sp_f39),(41,sp_f41)]
theorem sgB_ok:AllE sgB:=gC en_f36 ms_f36<|gC en_f37 ms_f37<|gC en_f39 ms_f39<|gC en_f41 ms_f41 gN
theorem sgR_ok:sgR.all (auChk Tryz.prog)=true:=by kernel_rfl
theorem sgA_ok:auChk Tryz.prog sgA=true:=by kernel_rfl
noncomputable def sgE:List (Nat×Ent):=auL Tryz.prog TYs sgR sgB
noncomputable def sgF:Fun:=runF ⟨TYs,sgA.own,auN Tryz.prog sgA,EL sgE,sgA.keep,fun _ _=>none,IL [],RL []⟩ (auT Tryz.prog sgA) (auV Tryz.prog TYs sgA) sgA.ro
theorem sgF_ok:Meets Tryz.prog 14 sgF:=meets_unauto (auM mixed sgA_ok (auA mixed sgR_ok (gA sgB_ok))).2
def web:ByteArray:=ByteArray.mk #[119,101,98]
def sgX (u:Keep)(p:Int)(l:List Keep):Exception:=(u,(p,(web,((20,(60,())),(l,())))))
def sgZ:Exception:=Ty.zero tyException
theorem sg_run1 (u:Keep)(p:Int):sgF [.t tyException (sgX u p []),.t tI 51] []=
  br (ine (exBy (sgX u p [])).2 0) (some (.tu [.t tyException sgZ,.t tI (exBy (sgX u p [])).2],[])) (br (lenB (exBy (sgX u p [])).1) (some (.tu [.t tyException (sgX u p [(51,(sumB (exBy (sgX u p [])).1,()))]),.t tI 0],[])) none):=by kernel_rfl
theorem sg_run2 (u:Keep)(p s:Int):sgF [.t tyException (sgX u p [(51,(s,()))]),.t tI 52] []=
  br (ine (exBy (sgX u p [(51,(s,()))])).2 0) (some (.tu [.t tyException sgZ,.t tI (exBy (sgX u p [(51,(s,()))])).2],[])) (br (lenB (exBy (sgX u p [(51,(s,()))])).1) (some (.tu [.t tyException (sgX u p [(51,(s,())),(52,(sumB (exBy (sgX u p [(51,(s,()))])).1,()))]),.t tI 0],[])) none):=by kernel_rfl
end Go.Proofs.YticnbacafmeiiaaGreatDoor.K
namespace Go.Proofs.YticnbacafmeiiaaGreatDoor.K
open Go.RowKit
def inK (s:Keep)(d:Int):Prop:=s.1<=d/\d<s.2.1
def inL (l:List Keep)(d:Int):Prop:= ∃ s,s∈l/\inK s d
def WS (s:List Keep)(hi:Int):Prop:=s.Pairwise (fun a b=>a.2.1<b.1)∧ ∀ k,k∈s->0<=k.1/\k.1<k.2.1/\k.2.1<=hi
theorem WS.mono {s:List Keep}{a b:Int}(h:WS s a)(hab:a<=b):WS s b:=⟨h.1,fun k hk=>by have:=h.2 k hk;omega⟩
theorem spanPut_ws {out:List Keep}{a b:Int}(h:WS out a)(h0:0<=a)(hab:a<b):WS (spanPut out a b) b:=by
 rcases List.eq_nil_or_concat out with rfl|⟨l,s,rfl⟩
 ·refine ⟨by simp [spanPut],fun k hk=> ?_⟩
  simp only [spanPut,List.getLast?_nil,List.mem_singleton] at hk
  subst hk
  exact ⟨h0,hab,Int.le_refl b⟩
 ·rw [List.concat_eq_append] at*
  obtain ⟨h1,h2⟩:=h
  obtain ⟨p1,_,p2⟩:=List.pairwise_append.1 h1
  rw [spanPut_app]
  split
  ·rename_i hs
   refine ⟨List.pairwise_append.2 ⟨p1,List.pairwise_singleton _ _,fun x hx y hy=> ?_⟩,fun k hk=> ?_⟩
   ·rw [List.mem_singleton.1 hy]
    exact p2 x hx s (by simp)
   ·rcases List.mem_append.1 hk with hk|hk
    ·have:=h2 k (by simp [hk]);omega
    ·rw [List.mem_singleton.1 hk]
     have:=h2 s (by simp)
     simp only
     omega
  ·rename_i hs
   have g:=h2 s (by simp)
   refine ⟨List.pairwise_append.2 ⟨h1,List.pairwise_singleton _ _,fun x hx y hy=> ?_⟩,fun k hk=> ?_⟩
   ·rw [List.mem_singleton.1 hy]
    rcases List.mem_append.1 hx with hx|hx
    ·have:=p2 x hx s (by simp);simp only;omega
    ·rw [List.mem_singleton.1 hx];simp only;omega
   ·rcases List.mem_append.1 hk with hk|hk
    ·have:=h2 k hk;omega
    ·rw [List.mem_singleton.1 hk];simp only;omega
theorem inL_app {l1 l2:List Keep}{d:Int}:inL (l1++l2) d↔inL l1 d∨inL l2 d:=by
 unfold inL
 constructor
 ·rintro ⟨s,hs,h⟩
  rcases List.mem_append.1 hs with hs|hs
  ·exact .inl ⟨s,hs,h⟩
  ·exact .inr ⟨s,hs,h⟩
 ·rintro (⟨s,hs,h⟩|⟨s,hs,h⟩)
  ·exact ⟨s,by simp [hs],h⟩
  ·exact ⟨s,by simp [hs],h⟩
theorem inL_one {s:Keep}{d:Int}:inL [s] d↔s.1<=d/\d<s.2.1:=by
 unfold inL inK
 simp
theorem spanPut_in {out:List Keep}{a b d:Int}(h:WS out a)(hab:a<b):inL (spanPut out a b) d↔inL out d∨(a<=d/\d<b):=by
 rcases List.eq_nil_or_concat out with rfl|⟨l,s,rfl⟩
 ·have:inL (spanPut [] a b) d↔a<=d/\d<b:=inL_one
  rw [this]
  constructor
  ·exact .inr
  ·rintro (⟨s,hs,_⟩|h)
   ·cases hs
   ·exact h
 ·rw [List.concat_eq_append] at*
  have g:=h.2 s (by simp)
  rw [spanPut_app]
  split
  ·rename_i hs
   rw [inL_app,inL_app,inL_one,inL_one]
   simp only
   constructor
   ·rintro (h|h)
    ·exact .inl (.inl h)
    ·by_cases h2:d<a
     ·exact .inl (.inr (by omega))
     ·exact .inr (by omega)
   ·rintro ((h|h)|h)
    ·exact .inl h
    ·exact .inr (by omega)
    ·exact .inr (by omega)
  ·rw [inL_app,inL_one]
def pieceP (f:Int->Bool):List Int->Int->Prop
 |a::b::r,d=>(f a=true/\a<=d/\d<b)∨pieceP f (b::r) d
 |_,_=>False
theorem spansZ_in {f:Int->Bool}{d:Int}: ∀ (l:List Int) (a:Int) (out:List Keep),asc (a::l)->0<=a->WS out a->(inL (spansZ f (a::l) out) d↔inL out d∨pieceP f (a::l) d)
 | [],a,out,_,_,hw=>by simp [spansZ,pieceP]
 |b::r,a,out,ha,h0,hw=>by
  obtain ⟨h1,h2⟩:=List.pairwise_cons.1 ha
  have hab:a<b:=h1 b (by simp)
  unfold spansZ pieceP
  by_cases hf:f a=true
  ·rw [if_pos hf,spansZ_in r b _ h2 (by omega) (spanPut_ws hw h0 hab),spanPut_in hw hab]
   simp only [hf,true_and]
   exact or_assoc
  ·rw [if_neg hf,spansZ_in r b _ h2 (by omega) (hw.mono (by omega))]
   constructor
   ·rintro (h|h)
    ·exact .inl h
    ·exact .inr (.inr h)
   ·rintro (h|h|h)
    ·exact .inl h
    ·exact absurd h.1 hf
    ·exact .inr h
theorem pieceP_low {f:Int->Bool}{d:Int}: ∀ {l:List Int} {a:Int},asc (a::l)->pieceP f (a::l) d->a<=d
 | [],_,_,h=>by cases h
 |b::r,a,ha,h=>by
  obtain ⟨h1,h2⟩:=List.pairwise_cons.1 ha
  rcases h with h|h
  ·exact h.2.1
  ·have:=pieceP_low h2 h
   have:=h1 b (by simp)
   omega
theorem pieceP_eq {f:Int->Bool}{d:Int}: ∀ {l:List Int} {a:Int},asc (a::l)->a<=d->(∃ x,x∈a::l/\d<x)->(∀ c,c∈a::l->c<=d->(∀ x,x∈a::l->x<=d->x<=c)->f d=f c)->(pieceP f (a::l) d↔f d=true)
 | [],a,_,h1,⟨x,hx,h2⟩,_=>by
  rw [List.mem_singleton.1 hx] at h2
  omega
 |b::r,a,ha,h1,⟨x,hx,h2⟩,H=>by
  obtain ⟨g1,g2⟩:=List.pairwise_cons.1 ha
  have hab:a<b:=g1 b (by simp)
  unfold pieceP
  by_cases hd:d<b
  ·have e:f d=f a:=H a (by simp) h1 fun z hz hzd=>by
    rcases List.mem_cons.1 hz with e|hz
    ·omega
    ·rcases List.mem_cons.1 hz with e|hz
     ·omega
     ·have:=(List.pairwise_cons.1 g2).1 z hz
      omega
   have hn: ¬ pieceP f (b::r) d:=fun h=>by have:=pieceP_low g2 h;omega
   rw [e]
   constructor
   ·rintro (h|h)
    ·exact h.1
    ·exact absurd h hn
   ·exact fun h=> .inl ⟨h,h1,hd⟩
  ·have hx':x∈b::r:=by
    rcases List.mem_cons.1 hx with e|hx
    ·omega
    ·exact hx
   have ih:=pieceP_eq (f:=f) g2 (by omega) ⟨x,hx',h2⟩ fun c hc hcd hm=>H c (by simp at hc;simp [hc]) hcd fun z hz hzd=>by
    rcases List.mem_cons.1 hz with e|hz
    ·have:=hm b (by simp) (by omega)
     omega
    ·exact hm z hz hzd
   rw [←ih]
   constructor
   ·rintro (h|h)
    ·omega
    ·exact h
   ·exact .inr
theorem lastI_congr {α:Type}{m m':α->Bool}: ∀ {l:List α},(∀ a,a∈l->m a=m' a)->lastI m l=lastI m' l
 | [],_=>rfl
 |a::l,h=>by
  unfold lastI
  rw [lastI_congr (l:=l) fun b hb=>h b (by simp [hb]),h a (by simp)]
theorem dec_cut {rs:List Rule}{u:Keep}{p c d:Int}(hc:c<=d)(hm: ∀ x,x∈cutsP rs->x<=d->x<=c):decL rs u p d=decL rs u p c:=by
 refine lastI_congr fun r hr=> ?_
 unfold matches' within'
 have e1:r.2.2.2.2.1∈cutsP rs:=mem_cutsP.2 (.inr (.inr (List.mem_flatMap.2 ⟨r,hr,by simp⟩)))
 have e2:r.2.2.2.2.2.1∈cutsP rs:=mem_cutsP.2 (.inr (.inr (List.mem_flatMap.2 ⟨r,hr,by simp⟩)))
 have g1:=hm _ e1
 have g2:=hm _ e2
 congr 2
 ·rw [decide_eq_decide]
  simp only [Policy.Rules,Policy.Keeps,Dice.L,Dice.At,Keep.Alg,Keep.Bits,Exception.Use,Exception.Purpose,Exception.Endpoint,Exception.Days,Exception.Seals,Endpoint.Name,Endpoint.Least,Endpoint.Most,Endpoint.Suites,Endpoint.OwnOrder,Endpoint.Identities,Endpoint.Anchors,Endpoint.Hashes,Endpoint.Fallback,Finding.Source,Finding.Host,Finding.Machine,Finding.Day,Finding.Confidence,Finding.Kind,Finding.Subject,Finding.Use,Finding.Number,Finding.Text,Rule.Allow,Rule.Alg,Rule.Below,Rule.Purpose,Rule.From,Rule.To,Parser.lines,Parser.at_,Parser.section,Parser.out,Setting.Section,Setting.Name,Setting.Value,Setting.Line,Identity.Key,Identity.KeyId,Identity.Chain,Pad.at_,Pad.l,Line.words,Draft.Endpoint,Draft.store,Row.name,Row.kind,Row.way,Row.sizes,Row.strengths,Entry.Alias,Entry.Key,Entry.KeyId,Entry.Secret,Entry.Chain,Suite.Code,Suite.Name,Suite.Exchange,Suite.Sign,Suite.Cipher,Suite.Mac,Suite.Least,Suite.Most,Certificate.Serial,Certificate.Issuer,Certificate.Subject,Certificate.Key,Certificate.KeyId,Certificate.Hash,Certificate.From,Certificate.To,Certificate.Authority,Certificate.Path,Certificate.Names,Certificate.Seal,RowX.suites,RowX.killed,AcceptRange.lo,AcceptRange.hi,ErrorString.s]
  omega
 ·rw [decide_eq_decide]
  simp only [Policy.Rules,Policy.Keeps,Dice.L,Dice.At,Keep.Alg,Keep.Bits,Exception.Use,Exception.Purpose,Exception.Endpoint,Exception.Days,Exception.Seals,Endpoint.Name,Endpoint.Least,Endpoint.Most,Endpoint.Suites,Endpoint.OwnOrder,Endpoint.Identities,Endpoint.Anchors,Endpoint.Hashes,Endpoint.Fallback,Finding.Source,Finding.Host,Finding.Machine,Finding.Day,Finding.Confidence,Finding.Kind,Finding.Subject,Finding.Use,Finding.Number,Finding.Text,Rule.Allow,Rule.Alg,Rule.Below,Rule.Purpose,Rule.From,Rule.To,Parser.lines,Parser.at_,Parser.section,Parser.out,Setting.Section,Setting.Name,Setting.Value,Setting.Line,Identity.Key,Identity.KeyId,Identity.Chain,Pad.at_,Pad.l,Line.words,Draft.Endpoint,Draft.store,Row.name,Row.kind,Row.way,Row.sizes,Row.strengths,Entry.Alias,Entry.Key,Entry.KeyId,Entry.Secret,Entry.Chain,Suite.Code,Suite.Name,Suite.Exchange,Suite.Sign,Suite.Cipher,Suite.Mac,Suite.Least,Suite.Most,Certificate.Serial,Certificate.Issuer,Certificate.Subject,Certificate.Key,Certificate.KeyId,Certificate.Hash,Certificate.From,Certificate.To,Certificate.Authority,Certificate.Path,Certificate.Names,Certificate.Seal,RowX.suites,RowX.killed,AcceptRange.lo,AcceptRange.hi,ErrorString.s]
  omega
theorem all_cut {y:Policy}{u:Keep}{p c d:Int}(hc:c<=d)(hm: ∀ x,x∈cutsP y.1->x<=d->x<=c):allF y u p d=allF y u p c:=by
 unfold allF allL
 rw [dec_cut hc hm]
theorem pol_ruled {y:Policy}(h:polOk y=true){r:Rule}(hr:r∈y.1):ruledF r=true:=by
 simp only [polOk,Bool.and_eq_true] at h
 exact List.all_eq_true.1 h.1.1 r hr
theorem cuts_in {y:Policy}(h:polOk y=true){x:Int}(hx:x∈cutsP y.1):0<=x/\x<=40001:=by
 rcases mem_cutsP.1 hx with rfl|rfl|hx
 ·omega
 ·omega
 ·obtain ⟨r,hr,hx⟩:=List.mem_flatMap.1 hx
  have:=pol_ruled h hr
  simp only [ruledF,decide_eq_true_eq,Policy.Rules,Policy.Keeps,Dice.L,Dice.At,Keep.Alg,Keep.Bits,Exception.Use,Exception.Purpose,Exception.Endpoint,Exception.Days,Exception.Seals,Endpoint.Name,Endpoint.Least,Endpoint.Most,Endpoint.Suites,Endpoint.OwnOrder,Endpoint.Identities,Endpoint.Anchors,Endpoint.Hashes,Endpoint.Fallback,Finding.Source,Finding.Host,Finding.Machine,Finding.Day,Finding.Confidence,Finding.Kind,Finding.Subject,Finding.Use,Finding.Number,Finding.Text,Rule.Allow,Rule.Alg,Rule.Below,Rule.Purpose,Rule.From,Rule.To,Parser.lines,Parser.at_,Parser.section,Parser.out,Setting.Section,Setting.Name,Setting.Value,Setting.Line,Identity.Key,Identity.KeyId,Identity.Chain,Pad.at_,Pad.l,Line.words,Draft.Endpoint,Draft.store,Row.name,Row.kind,Row.way,Row.sizes,Row.strengths,Entry.Alias,Entry.Key,Entry.KeyId,Entry.Secret,Entry.Chain,Suite.Code,Suite.Name,Suite.Exchange,Suite.Sign,Suite.Cipher,Suite.Mac,Suite.Least,Suite.Most,Certificate.Serial,Certificate.Issuer,Certificate.Subject,Certificate.Key,Certificate.KeyId,Certificate.Hash,Certificate.From,Certificate.To,Certificate.Authority,Certificate.Path,Certificate.Names,Certificate.Seal,RowX.suites,RowX.killed,AcceptRange.lo,AcceptRange.hi,ErrorString.s] at this
  simp only [List.mem_cons,List.not_mem_nil,or_false] at hx
  omega
theorem cuts_head {y:Policy}(h:polOk y=true): ∃ l,cutsP y.1=0::l:=by
 have h0:(0:Int)∈cutsP y.1:=mem_cutsP.2 (.inl rfl)
 have ha:=asc_cutsP y.1
 cases hq:cutsP y.1 with
 |nil=>rw [hq] at h0;cases h0
 |cons a l=>
  rw [hq] at h0 ha
  have ha0:=cuts_in h (x:=a) (by rw [hq];simp)
  rcases List.mem_cons.1 h0 with e|h0
  ·exact ⟨l,by rw [e]⟩
  ·have:=(List.pairwise_cons.1 ha).1 0 h0
   omega
theorem spans_in {y:Policy}{u:Keep}{p d:Int}(h:polOk y=true)(h0:0<=d)(h1:d<=40000):inL (spansF y u p) d↔allF y u p d=true:=by
 obtain ⟨l,hl⟩:=cuts_head h
 have ha:=asc_cutsP y.1
 unfold spansF
 rw [hl] at ha ⊢
 rw [spansZ_in l 0 [] ha (Int.le_refl 0) ⟨List.Pairwise.nil,fun k hk=>by cases hk⟩]
 have h4:(40001:Int)∈0::l:=by rw [←hl];exact mem_cutsP.2 (.inr (.inl rfl))
 rw [pieceP_eq ha h0 ⟨40001,h4,by omega⟩ fun c _ hcd hm=>all_cut hcd (by rw [hl];exact hm)]
 constructor
 ·rintro (⟨s,hs,_⟩|h)
  ·cases hs
  ·exact h
 ·exact .inr
end Go.Proofs.YticnbacafmeiiaaGreatDoor.K
namespace Go.Proofs.YticnbacafmeiiaaGreatDoor.K
open Go.RowKit
noncomputable section
def sgnF (x:Exception)(k:Int):Exception×Int:=bif ine (exBy x).2 0 then (sgZ,(exBy x).2) else ((x.1,(x.2.1,(x.2.2.1,(x.2.2.2.1,(x.2.2.2.2.1++[(k,(sumB (exBy x).1,()))],()))))),0)
def sgnS (l:List Keep)(k:Int):Bool:=match l with
 | []=>ieq k 51
 | [s]=>ieq s.1 51&&ieq k 52
 |_=>false
def sgnOk (x:Exception)(k:Int):Bool:=seq x.2.2.1 web&&(ieq x.2.2.2.1.1 20&&(ieq x.2.2.2.1.2.1 60&&sgnS x.2.2.2.2.1 k))
theorem sgn_eq (u:Keep)(p:Int)(l:List Keep)(k:Int):sgnF (sgX u p l) k=bif ine (exBy (sgX u p l)).2 0 then (sgZ,(exBy (sgX u p l)).2) else (sgX u p (l++[(k,(sumB (exBy (sgX u p l)).1,()))]),0):=rfl
def sp_f14:Ent:=spec (.pr tyException (.pr tI .nil)) (fun x=>(sgnOk x.1 x.2.1)) (fun x=>(.tu [(.t tyException ((sgnF x.1 x.2.1).1)),(.t tI ((sgnF x.1 x.2.1).2))]))
theorem en_f14:Entered Tryz.prog 14:= .inr ⟨by decide,_,Tryz.func14,by kernel_rfl,by kernel_rfl⟩
theorem ms_f14:Meets Tryz.prog 14 (strip sp_f14):=meets_spec sgF_ok fun x hok=>by
 obtain ⟨⟨u,p,e,⟨f,t,_⟩,l,_⟩,k,_⟩:=x
 have hok:sgnOk (u,(p,(e,((f,(t,())),(l,()))))) k=true:=hok
 simp only [sgnOk,Bool.and_eq_true] at hok
 obtain ⟨h1,h2,h3,h4⟩:=hok
 have e1:e=web:=seq_iff'.1 h1
 have e2:f=20:=of_decide_eq_true h2
 have e3:t=60:=of_decide_eq_true h3
 subst e1 e2 e3
 have key: ∀ l k,sgF [.t tyException (sgX u p l),.t tI k] []=br (ine (exBy (sgX u p l)).2 0) (some (.tu [.t tyException sgZ,.t tI (exBy (sgX u p l)).2],[])) (br (lenB (exBy (sgX u p l)).1) (some (.tu [.t tyException (sgX u p (l++[(k,(sumB (exBy (sgX u p l)).1,()))])),.t tI 0],[])) none)->sgF [.t tyException (sgX u p l),.t tI k] []=some (.tu [.t tyException (sgnF (sgX u p l) k).1,.t tI (sgnF (sgX u p l) k).2],[]):=fun l k h=>by
  rw [h,exBy_len,br_true,sgn_eq]
  cases ine (exBy (sgX u p l)).2 0<;>rfl
 match l,h4 with
 | [],h4=>
  have e4:k=51:=of_decide_eq_true h4
  subst e4
  exact key [] 51 (sg_run1 u p)
 | [(a,(s,_))],h4=>
  obtain ⟨h4,h5⟩:=Bool.and_eq_true_iff.1 h4
  have e4:a=51:=of_decide_eq_true h4
  have e5:k=52:=of_decide_eq_true h5
  subst e4 e5
  exact key [(51,(s,()))] 52 (sg_run2 u p s)
theorem stepR (s x:Int):0<=stepS s x/\stepS s x<4294967296:=by
 unfold stepS imul
 rw [IntKind.wrap_u32]
 omega
theorem sumsR: ∀ (b:List Int) (s:Int),(0<=s/\s<4294967296)->0<=b.foldl stepS s/\b.foldl stepS s<4294967296
 | [],_,h=>h
 |x::r,s,_=>sumsR r (stepS s x) (stepR s x)
theorem sumR (b:List Int):0<=sumB b/\sumB b<4294967296:=by
 have h:=sumsR b 2166136261 (by omega)
 unfold sumB
 rw [show icv .i64 (b.foldl stepS 2166136261)=b.foldl stepS 2166136261 from Go.IntWalk.i64_in _ (by omega)]
 exact h
theorem exG_sg {u:Keep}{p:Int}{l:List Keep}(hu:validF u=true)(hp:1<=p/\p<=4)(hl:l.length<=8)(hs:seUp l 0=true):exG (sgX u p l)=true:=by
 show (validF u&&(!ilt p 1&&(!igt p 4&&(namedG web&&(!ilt 20 0&&(!ige 20 60&&(!igt 60 40001&&(!igt (llen l) 8&&seUp l 0))))))))=true
 rw [hu,hs,show ilt p 1=false from decide_eq_false (by omega),show igt p 4=false from decide_eq_false (by omega),show namedG web=true from by kernel_rfl,show igt (llen l) 8=false from decide_eq_false (by simp only [llen];omega)]
 rfl
theorem up1 (s:Int)(h:0<=s/\s<4294967296):seUp [(51,(s,()))] 0=true:=by
 show ((keyI 51&&(!ilt s 0&&(!ige s 4294967296&&(decide (0=0)|| !ige _ _))))&&true)=true
 rw [show ilt s 0=false from decide_eq_false (by omega),show ige s 4294967296=false from decide_eq_false (by omega)]
 rfl
theorem up2 (s t:Int)(h:0<=s/\s<4294967296)(h2:0<=t/\t<4294967296):seUp [(51,(s,())),(52,(t,()))] 0=true:=by
 show ((keyI 51&&(!ilt s 0&&(!ige s 4294967296&&(decide (0=0)|| !ige _ _))))&&((keyI 52&&(!ilt t 0&&(!ige t 4294967296&&(decide (1=0)|| !ige 51 52))))&&true))=true
 rw [show ilt s 0=false from decide_eq_false (by omega),show ige s 4294967296=false from decide_eq_false (by omega),show ilt t 0=false from decide_eq_false (by omega),show ige t 4294967296=false from decide_eq_false (by omega)]
 rfl
abbrev ow:Dice:=([51,52],(2,()))
theorem has51:hasF ow.1 51=true:=rfl
theorem has52:hasF ow.1 52=true:=rfl
abbrev sgV (u:Keep)(p:Int):Int:=sumB (encT (lstT (exP (sgX u p []))))
theorem by_sg {u:Keep}{p:Int}{l:List Keep}(h:exG (sgX u p l)=true):exBy (sgX u p l)=(encT (lstT (exP (sgX u p []))),0):=exBy_of h
abbrev sg1 (u:Keep)(p:Int):Exception:=sgX u p [(51,(sgV u p,()))]
abbrev sg2 (u:Keep)(p:Int):Exception:=sgX u p [(51,(sgV u p,())),(52,(sgV u p,()))]
theorem g0 {u:Keep}{p:Int}(hu:validF u=true)(hp:1<=p/\p<=4):exG (sgX u p [])=true:=exG_sg hu hp (Nat.zero_le _) rfl
theorem g1 {u:Keep}{p:Int}(hu:validF u=true)(hp:1<=p/\p<=4):exG (sg1 u p)=true:=exG_sg hu hp (by simp) (up1 _ (sumR _))
theorem g2 {u:Keep}{p:Int}(hu:validF u=true)(hp:1<=p/\p<=4):exG (sg2 u p)=true:=exG_sg hu hp (by simp) (up2 _ _ (sumR _) (sumR _))
theorem sgn1 {u:Keep}{p:Int}(hu:validF u=true)(hp:1<=p/\p<=4):sgnF (sgX u p []) 51=(sg1 u p,0):=by
 rw [sgn_eq,by_sg (g0 hu hp)]
 rfl
theorem sgn2 {u:Keep}{p:Int}(hu:validF u=true)(hp:1<=p/\p<=4):sgnF (sg1 u p) 52=(sg2 u p,0):=by
 rw [sgn_eq,by_sg (g1 hu hp)]
 rfl
theorem sgnOk1 (u:Keep)(p:Int):sgnOk (sgX u p []) 51=true:=by
 show (seq web web&&_)=true
 rw [seq_iff'.2 rfl]
 rfl
theorem sgnOk2 (u:Keep)(p:Int):sgnOk (sg1 u p) 52=true:=by
 show (seq web web&&_)=true
 rw [seq_iff'.2 rfl]
 rfl
theorem val1 (u:Keep)(p:Int):valX (sg1 u p) ow=false:=by
 unfold valX
 have h:valN (sg1 u p) ow<=1:=by
  unfold valN
  exact Nat.le_trans (List.length_filter_le _ _) (Nat.le_refl 1)
 rw [show ige ((valN (sg1 u p) ow:Nat):Int) ow.2.1=false from decide_eq_false (by show ¬ (2:Int)<=_;omega),Bool.and_false,Bool.and_false]
theorem val2 {u:Keep}{p:Int}(hu:validF u=true)(hp:1<=p/\p<=4):valX (sg2 u p) ow=true:=by
 unfold valX
 have h:valN (sg2 u p) ow=2:=by
  unfold valN
  rw [by_sg (g2 hu hp)]
  show (List.filter (valB (encT (lstT (exP (sgX u p [])))) ow) [(51,(sgV u p,())),(52,(sgV u p,()))]).length=2
  have e: ∀ k,hasF ow.1 k=true->valB (encT (lstT (exP (sgX u p [])))) ow (k,(sgV u p,()))=true:=fun k hk=>by
   show (ieq (sgV u p) (sgV u p)&&hasF ow.1 k)=true
   rw [hk,show ieq (sgV u p) (sgV u p)=true from decide_eq_true rfl]
   rfl
  rw [List.filter_cons_of_pos (e 51 has51),List.filter_cons_of_pos (e 52 has52)]
  rfl
 rw [g2 hu hp,h]
 rfl
def dayB (t:Int):Bool:=ile 20 t&&ilt t 60
theorem ieq_self (a:Int):ieq a a=true:=decide_eq_true rfl
theorem cov_web (u:Keep)(p:Int)(l:List Keep)(t:Int):covX (sgX u p l) u p web t=dayB t:=by
 show ((and (ieq u.1 u.1) (and (ieq u.2.1 u.2.1) true))&&(ieq p p&&(seq web web&&(ile 20 t&&ilt t 60))))=_
 rw [ieq_self,ieq_self,ieq_self,seq_iff'.2 rfl]
 rfl
abbrev dbB:ByteArray:=ByteArray.mk #[100,98]
theorem cov_db (u:Keep)(p:Int)(l:List Keep)(t:Int):covX (sgX u p l) u p dbB t=false:=by
 show ((and (ieq u.1 u.1) (and (ieq u.2.1 u.2.1) true))&&(ieq p p&&(seq web dbB&&(ile 20 t&&ilt t 60))))=_
 rw [show seq web dbB=false from by kernel_rfl,Bool.false_and,Bool.and_false,Bool.and_false]
structure Okd (y:Policy) (u:Keep) (p t:Int):Prop where
 pol:polOk y=true
 use:validF u=true
 pur:1<=p/\p<=4
 day:0<=t/\t<=255
theorem Okd.early {y:Policy}{u:Keep}{p t:Int}(h:Okd y u p t):earlyF y u p t=0/\earlyF y u p 0=0:=by
 have h1:=h.pur
 have h2:=h.day
 unfold earlyF
 rw [h.pol,h.use]
 simp only [Bool.true_eq_false,if_false]
 rw [if_neg (show ¬(p<1∨4<p∨t<0∨40000<t) by omega),if_neg (show ¬(p<1∨4<p∨(0:Int)<0∨(40000:Int)<0) by omega)]
 exact ⟨rfl,rfl⟩
theorem Okd.al {y:Policy}{u:Keep}{p t:Int}(h:Okd y u p t):AllowedF y u p t=(allF y u p t,decF y u p t,0):=by
 unfold AllowedF
 rw [h.early.1,if_pos rfl]
theorem Okd.sp {y:Policy}{u:Keep}{p t:Int}(h:Okd y u p t):SpansF y u p=(spansF y u p,0):=by
 unfold SpansF
 rw [h.early.2,if_pos rfl]
theorem ex_one {y:Policy}{u:Keep}{p t:Int}{x:Exception}{e:ByteArray}(h:Okd y u p t)(hx:exG x=true):exAl y [x] ow u p e t=(allF y u p t||(valX x ow&&covX x u p e t),0):=by
 unfold exAl
 rw [h.al]
 show (bif exAny [x] then (false,26) else (allF y u p t||exCov [x] ow u p e t,0))=_
 rw [show exAny [x]=false from by show (!exG x||false)=false;rw [hx];rfl]
 show (allF y u p t||((valX x ow&&covX x u p e t)||false),(0:Int))=_
 rw [Bool.or_false]
theorem ex_a {y:Policy}{u:Keep}{p t:Int}(h:Okd y u p t):exAl y [sg1 u p] ow u p web t=(allF y u p t,0):=by
 rw [ex_one h (g1 h.use h.pur),val1,Bool.false_and,Bool.or_false]
theorem ex_b {y:Policy}{u:Keep}{p t:Int}(h:Okd y u p t):exAl y [sg2 u p] ow u p web t=(allF y u p t||dayB t,0):=by
 rw [ex_one h (g2 h.use h.pur),val2 h.use h.pur,cov_web,Bool.true_and]
theorem ex_c {y:Policy}{u:Keep}{p t:Int}(h:Okd y u p t):exAl y [sg2 u p] ow u p dbB t=(allF y u p t,0):=by
 rw [ex_one h (g2 h.use h.pur),cov_db,Bool.and_false,Bool.or_false]
theorem exOk_of {y:Policy}{x:Exception}{u:Keep}{p t:Int}{e:ByteArray}(h:polLen y=true)(hx:exLn1 x=true):exAlOk y [x] ow u p e t=true:=by
 show (polLen y&&((decide ([x].length<=100000)&&(exLn1 x&&true))&&idxOk1 [51,52] 0))=true
 rw [h,hx]
 rfl
theorem exLn_sg (u:Keep)(p:Int)(l:List Keep):exLn1 (sgX u p l)=true:=rfl
end
end Go.Proofs.YticnbacafmeiiaaGreatDoor.K
namespace Go.Proofs
open Go.Shelf
def Tryz.lays106_ren:Go.Shelf.Ren:=⟨fun|106=>193|213=>257|265=>293|n=>n,fun|9=>9|3=>3|n=>n,fun|n=>n⟩
theorem Tryz.lays106:Go.Proofs.Lays.n106 Tryz.prog Tryz.lays106_ren:={
 mixed:=by kernel_rfl
 f106:=Tryz.func193.trans (congrArg some (by kernel_rfl))
 f213:=Tryz.func257.trans (congrArg some (by kernel_rfl))
 f265:=Tryz.func293.trans (congrArg some (by kernel_rfl))
 t3:=Tryz.underlying3
 a3:=Tryz.isAgg3
 z3:=Tryz.sizeOf3
 v3:=Tryz.zeroValue3
 t9:=Tryz.underlying9
 a9:=Tryz.isAgg9
 z9:=Tryz.sizeOf9
 v9:=Tryz.zeroValue9}
end Go.Proofs
namespace Go.Proofs.YticnbacafmeiiaaGreatDoor.K
open Go.RowKit Go.Shelf
noncomputable section
def idxO (s p:ByteArray):Int:=Lib.indexByte s.data.toList (p.data.toList.headD 0)
def idxOOk (_s p:ByteArray):Bool:=decide (p.size=1)
def sp_f142:Ent:=spec (.pr .str (.pr .str .nil)) (fun x=>(idxOOk x.1 x.2.1)) (fun x=>(.t tI (idxO x.1 x.2.1)))
theorem en_f142:Entered Tryz.prog 142:= .inr ⟨by decide,_,Tryz.func142,by kernel_rfl,by kernel_rfl⟩
theorem ms_f142:Meets Tryz.prog 142 (strip sp_f142):=meets_calls fun x hok X w σ vs hfin hc=>by
 obtain ⟨s,⟨d⟩,u⟩:=x
 have hok:d.size=1:=of_decide_eq_true hok
 obtain ⟨c,rfl⟩: ∃ c,d= #[c]:=by
  match d,hok with
  |⟨[c]⟩,_=>exact ⟨c,rfl⟩
 simp only [Ty.canon,V.ds,V.d,Ty.d,Cs,C] at hc
 obtain ⟨v1,r1,rfl,⟨rfl,_⟩,v2,r2,rfl,⟨rfl,_⟩,rfl⟩:=hc
 refine (Any.stringslite_Index_one {Tryz.lays146 with} s c w).mono ?_
 rintro e w' ⟨rfl,rfl⟩
 refine ⟨_,rfl, ?_,Below.refl _ _⟩
 simp only [V.d,Ty.d,C]
 exact ⟨rfl,rfl⟩
def cmpS (a b:ByteArray):Int:=Lib.compareBytes a.data.toList b.data.toList
def sp_f193:Ent:=spec (.pr .str (.pr .str .nil)) (fun x=>true) (fun x=>(.t tI (cmpS x.1 x.2.1)))
theorem en_f193:Entered Tryz.prog 193:= .inr ⟨by decide,_,Tryz.func193,by kernel_rfl,by kernel_rfl⟩
theorem ms_f193:Meets Tryz.prog 193 (strip sp_f193):=meets_calls fun x hok X w σ vs hfin hc=>by
 obtain ⟨s,p,u⟩:=x
 simp only [Ty.canon,V.ds,V.d,Ty.d,Cs,C] at hc
 obtain ⟨v1,r1,rfl,⟨rfl,_⟩,v2,r2,rfl,⟨rfl,_⟩,rfl⟩:=hc
 refine (Any.strings_Compare Tryz.lays106 s p w).mono ?_
 rintro e w' ⟨rfl,rfl⟩
 refine ⟨_,rfl, ?_,Below.refl _ _⟩
 simp only [V.d,Ty.d,C]
 exact ⟨rfl,rfl⟩
end
end Go.Proofs.YticnbacafmeiiaaGreatDoor.K
namespace Go.Proofs.YticnbacafmeiiaaGreatDoor.K
open Go.RowKit
def paR:List AR:=[
 {f:=48 },
 {f:=102 },
 {f:=98 },
 {f:=52,w:=[(1,.ad [(50001,49001)])],pl:=[(14,[(0,[50000]),(1,[50000]),(2,[50000]),(3,[50000]),(4,[50000]),(5,[50000]),(6,[50000]),(7,[50000])],(.of [0,1,2,3,4,5,6,7,8,9,10,11])),(30,[(0,[50000]),(1,[50000]),(2,[50000]),(3,[50000]),(4,[50000]),(5,[50000]),(6,[50000]),(7,[50000])],(.of [0,1,2,3,4,5,6,7,8,9,10,11]))] },
 {f:=49,w:=[(1,.ad [(50001,49001)])] },
 {f:=170 },
 {f:=99 },
 {f:=50,w:=[(1,.ad [(50001,49001)])] },
 {f:=171,pl:=[(108,[],(.of [0,1,2,3,4,5,6,7,8,9,10,11]))] },
 {f:=100 },
 {f:=51,w:=[(1,.ad [(50001,49001)])],pl:=[(62,[(0,[50000]),(1,[50000]),(2,[50000]),(3,[50000]),(4,[49001,50000]),(5,[50000]),(6,[50000]),(7,[50000]),(8,[50000]),(15,[40,5040,10040,15040,49001,50000]),(16,[50000]),(17,[50000]),(18,[49001,50000])],(.of [0,1,2,3,4,5,6,7,8,9,10,11,12,13,14,15,16,17,18]))] },
 {f:=54,w:=[(1,.ad [(50001,49001)])] },
 {f:=104,w:=[(1,.ad [(50002,49002)]),(3378,.ad [(16,40064)])] },
 {f:=53,w:=[(1,.ad [(50002,49002)])] },
 {f:=16,own:=[28],w:=[(252,.nf 21 3 133 20001)],pl:=[(2016,[(0,[21]),(1,[21]),(2,[21]),(3,[21]),(4,[21]),(5,[21]),(6,[21]),(7,[21])],(.of [0,1,2,3,4,5,6,7,8,9]))] }]
def paB:List (Nat×Ent):=[(27,sp_f27),(28,sp_f28),(101,sp_f101),(103,sp_f103),(142,sp_f142),(169,sp_f169),((bCode 0 9 82),sp_op_convert_9_82)]
theorem paB_ok:AllE paB:=gC en_f27 ms_f27<|gC en_f28 ms_f28<|gC en_f101 ms_f101<|gC en_f103 ms_f103<|gC en_f142 ms_f142<|gC en_f169 ms_f169<|gC en_op_convert_9_82 ms_op_convert_9_82 gN
theorem paR_ok:paR.all (auChk Tryz.prog)=true:=by kernel_rfl
noncomputable def paE:List (Nat×Ent):=auL Tryz.prog TYs paR paB
theorem paE_ok: ∀ p∈paE,Entered Tryz.prog p.1/\Meets Tryz.prog p.1 (strip p.2):=auA mixed paR_ok (gA paB_ok)
def paS:Setting:=(ByteArray.mk #[119,101,98],(ByteArray.mk #[115,117,105,116,101,115],(ByteArray.mk #[114,99,52],(2,()))))
end Go.Proofs.YticnbacafmeiiaaGreatDoor.K
namespace Go.Proofs.YticnbacafmeiiaaGreatDoor.K
open Go.RowKit
def feR:List AR:=[
 {f:=144 },
 {f:=145 },
 {f:=146 },
 {f:=147 },
 {f:=81,pl:=[(126,[(0,[4]),(3,[50000]),(4,[50000]),(5,[50000]),(6,[50000]),(10,[2])],(.of [0,1,2,3,4,5,6,7,8,9,10,11]))] },
 {f:=29,w:=[(1,.ad [(50001,49001),(50002,49002)])],pl:=[(236,[(0,[50000]),(1,[50000]),(2,[50000]),(3,[50000]),(4,[49001,50000]),(5,[6]),(7,[27,5027,10027,15027,49001,49002,50000]),(8,[50000]),(9,[50000]),(10,[49001,49002,50000])],(.of [0,1,2,3,4,5,6,7,8,9,10]))] },
 {f:=68 },
 {f:=67 },
 {f:=136 },
 {f:=66 },
 {f:=137 },
 {f:=69 },
 {f:=21 },
 {f:=9,w:=[(250,.nf 5 0 77 20501),(250,.nf 5 1 79 20502)],pl:=[(64102,[(0,[5]),(1,[5,20501]),(2,[20501]),(3,[5]),(4,[5,20502]),(5,[20502])],(.of [0,1,2,3,4,5,6,7])),(256414,[(3,[5]),(4,[5,42]),(6,[42]),(7,[5]),(8,[5,5042]),(10,[5042]),(11,[42,5042]),(12,[5,42,59,5042,5059,10059,15059])],(.of [0,1,2,3,4,5,6,7,8,9,10,11,12,13,14]))] },
 {f:=95 },
 {f:=182 },
 {f:=124 },
 {f:=62,pl:=[(14,[(0,[1]),(2,[11,5011,10011,15011]),(3,[1]),(5,[11])],(.of [0,1,3,4,2,5,6]))] },
 {f:=170 },
 {f:=99 },
 {f:=183 },
 {f:=219 },
 {f:=168,keep:=[219] },
 {f:=125,keep:=[168] },
 {f:=126 },
 {f:=128 },
 {f:=186 },
 {f:=130 },
 {f:=63,pl:=[(252,[(0,[1]),(1,[1]),(3,[74,5074,10074,15074]),(4,[74,75,5075,10075,15075]),(6,[1]),(7,[1]),(9,[80,5080,10080,15080]),(10,[80,81,5081,10081,15081])],(.of [0,1,2,3,4,5,6,7,8,9,10,11]))] },
 {f:=64,w:=[(1,.ad [(50001,49001)])],pl:=[(14,[(1,[6]),(3,[8]),(4,[8]),(5,[8]),(6,[8]),(7,[8]),(8,[8])],(.of [0,1,2,3,4,5,6,7,8])),(15,[(0,[50000]),(1,[50000]),(2,[50000]),(3,[50000]),(4,[49001,50000]),(5,[8]),(7,[26,5026,10026,15026,49001,50000]),(8,[50000]),(9,[50000]),(10,[49001,50000])],(.of [0,1,2,3,4,5,6,7,8,9,10]))] },
 {f:=167 },
 {f:=93 },
 {f:=191 },
 {f:=188 },
 {f:=194 },
 {f:=197 },
 {f:=192,pl:=[(6,[(0,[50000]),(1,[50001]),(2,[6,5006,10006,15006]),(3,[50000]),(4,[50002]),(5,[9,5009,10009,15009])],(.of [0,1,3,4,2,5,6,7]))] },
 {f:=195 },
 {f:=256 },
 {f:=190 },
 {f:=196 },
 {f:=198 },
 {f:=199 },
 {f:=200 },
 {f:=201 },
 {f:=189,pl:=[(6,[(0,[50000]),(1,[50001]),(2,[6,5006,10006,15006]),(3,[50000]),(4,[50002]),(5,[9,5009,10009,15009])],(.of [0,1,3,4,2,5,6,7]))] },
 {f:=134,own:=[34] },
 {f:=248,pl:=[(3216,[(5,[50000]),(7,[50000]),(8,[50000]),(9,[50000]),(12,[50000]),(13,[50000]),(14,[32,5032,10032,15032])],(.of [0,1,2,3,4,5,6,7,8,9,10,11,12,13,14,15,16])),(6436,[(0,[50000]),(2,[50000]),(5,[50000]),(8,[50000]),(9,[50000]),(10,[50000]),(12,[50000]),(13,[50000]),(14,[50000]),(15,[50000]),(16,[50000]),(17,[50000])],(.of [0,1,2,3,4,5,6,7,8,9,10,11,12,13,14,15,16,17]))] },
 {f:=187,keep:=[187,248] },
 {f:=133,keep:=[187] },
 {f:=135,ro:=true,pl:=[(1864,[(0,[50000]),(2,[50000]),(3,[50000]),(4,[50000]),(7,[50000]),(8,[50000])],(.of [0,1,2,3,4,5,6,7,8,9]))] },
 {f:=65,keep:=[133,135] },
 {f:=18,w:=[(62,.nf 18 11 68 20502),(126,.nf 18 11 68 20502),(65177,.nf 18 11 68 20502),(65177,.ad [(48,40192)]),(130713,.nf 18 11 68 20502),(261785,.nf 18 11 68 20502),(523929,.nf 18 11 68 20502)] }]
def feB:List (Nat×Ent):=[(27,sp_f27),(28,sp_f28),(132,sp_f132),(177,sp_f177),(193,sp_f193),(205,sp_f205),((bCode 2 291 0),sp_op_index_291),((bCode 0 9 82),sp_op_convert_9_82)]
theorem feB_ok:AllE feB:=gC en_f27 ms_f27<|gC en_f28 ms_f28<|gC en_f132 ms_f132<|gC en_f177 ms_f177<|gC en_f193 ms_f193<|gC en_f205 ms_f205<|gC en_op_index_291 ms_op_index_291<|gC en_op_convert_9_82 ms_op_convert_9_82 gN
theorem feR_ok:feR.all (auChk Tryz.prog)=true:=by kernel_rfl
noncomputable def feE:List (Nat×Ent):=auL Tryz.prog TYs feR feB
theorem feE_ok: ∀ p∈feE,Entered Tryz.prog p.1/\Meets Tryz.prog p.1 (strip p.2):=auA mixed feR_ok (gA feB_ok)
def feEp:Endpoint:=((ByteArray.mk #[119,101,98]),(1,(4,([1,2],(false,([],([],([],(false,())))))))))
end Go.Proofs.YticnbacafmeiiaaGreatDoor.K
namespace Go.Proofs.YticnbacafmeiiaaGreatDoor.K
open Go.RowKit
attribute [local go_sem ↓] Go.wp_at_zero Go.wp_at_succ
noncomputable section
abbrev mapW (w:World)(b:Nat)(o:Obj):World:={w with heap:=w.heap.setIfInBounds b o}
theorem mapW_get {w:World}{b:Nat}{o:Obj}(h:b<w.heap.size):(mapW w b o).heap[b]? = some o:=by simp [mapW,h]
theorem mapW_below {w:World}{b:Nat}{o:Obj}:Below b w (mapW w b o):=⟨rfl,rfl,rfl,by simp [mapW],fun k hk=>by
 have:b≠k:=by omega
 simp [mapW,Array.getElem?_setIfInBounds_ne this]⟩
theorem kcheckS (w:World)(s:ByteArray)(em:Bool):(Instr.checkKey em 10000 9 (.string s)).run Tryz.prog w= .ok () w:=by
 kernel_rfl
theorem ins_run {w:World}{bm clk:Nat}{es:Array MapEntry}{s:ByteArray}{v:Value}(hb:w.heap[bm]? = some (.map es clk))(hf:Instr.findNow .string (.string s) es.toList 0=some none):
  (Instr.mapUpdate 136 (.map (some bm)) (.string s) v).run Tryz.prog w= .ok () (mapW w bm (.map (es.push {key:= .string s,val:=v,born:=clk }) (clk+1))):=by
 have hg:(getObj bm).run Tryz.prog w= .ok (.map es clk) w:=by simp [getObj,Sem.run,hb]
 have hs: ∀ o,(setObj bm o).run Tryz.prog w= .ok () (mapW w bm o):=fun o=>by simp [setObj,Sem.run,hb]
 have hc:=kcheckS w s false
 have hk:(Instr.findKey 9 (.string s) es.toList).run Tryz.prog w= .ok none w:=by
  simp [Instr.findKey,run_underlying Tryz.underlying9,hf]
 simp [Instr.mapUpdate,run_underlying Tryz.underlying136,hg,hc,hk,hs]
theorem look_run {w:World}{bm clk:Nat}{es:Array MapEntry}{s:ByteArray}{j:Nat}{v:Value}(hb:w.heap[bm]? = some (.map es clk))(hf:Instr.findNow .string (.string s) es.toList 0=some (some (j,v))):
  (Instr.lookup 136 (.map (some bm)) (.string s) false).run Tryz.prog w= .ok v w:=by
 have hg:(getObj bm).run Tryz.prog w= .ok (.map es clk) w:=by simp [getObj,Sem.run,hb]
 have hc:=kcheckS w s es.isEmpty
 have hk:(Instr.findKey 9 (.string s) es.toList).run Tryz.prog w= .ok (some (j,v)) w:=by
  simp [Instr.findKey,run_underlying Tryz.underlying9,hf]
 simp [Instr.lookup,run_underlying Tryz.underlying136,hg,hc,hk]
theorem mk_run (w:World):(Instr.makeMap 136 none).run Tryz.prog w= .ok (.map (some w.heap.size)) (w.alloc (.map #[] 0)):=by
 simp [Instr.makeMap]
set_option maxHeartbeats 4000000 in
theorem words_any (d:Nat)(w:World):Calls Tryz.prog 57 #[.pointer (some ⟨d,0,none⟩)] w fun e w'=> ∃ bm es clk,e= .returned (.map (some bm))/\w.heap.size<=bm/\w'.heap[bm]? = some (.map es clk)∧
  Instr.findNow .string (.string (ByteArray.mk #[115,117,105,116,101,115])) es.toList 0=some (some (2,.func (.func 110) #[.pointer (some ⟨d,0,none⟩)] #[]))/\Below w.heap.size w w':=by
 obtain ⟨bb,hbb⟩: ∃ bb,bb=w.heap.size:=⟨_,rfl⟩
 obtain ⟨W0,hW0⟩: ∃ W0,W0=w.alloc (.cells #[.pointer (some ⟨d,0,none⟩)] 134):=⟨_,rfl⟩
 have hk0:Go.Proofs.YticnbacafmeiiaaGreatDoor.Blk W0 bb 134 #[.pointer (some ⟨d,0,none⟩)]:=by rw [hW0,hbb];exact Go.Proofs.YticnbacafmeiiaaGreatDoor.Blk.new w _ _
 have hl0:Below w.heap.size w W0:=by rw [hW0];exact (Below.refl _ _).alloc (Nat.le_refl _) _
 obtain ⟨bm,hbm⟩: ∃ bm,bm=W0.heap.size:=⟨_,rfl⟩
 have hlt:bb<bm:=by rw [hbm];exact hk0.lt
 have hle:w.heap.size<=bm:=by rw [←hbb];exact Nat.le_of_lt hlt
 obtain ⟨W1,hW1⟩: ∃ W1,W1=W0.alloc (.map #[] 0):=⟨_,rfl⟩
 have mk:(Instr.makeMap 136 none).run Tryz.prog W0= .ok (.map (some bm)) W1:=by rw [hW1,hbm];exact mk_run W0
 have hk1:Go.Proofs.YticnbacafmeiiaaGreatDoor.Blk W1 bb 134 #[.pointer (some ⟨d,0,none⟩)]:=by rw [hW1];exact hk0.alloc _
 have hl1:Below w.heap.size w W1:=by rw [hW1];exact hl0.alloc hl0.size _
 have hb1:W1.heap[bm]? = some (.map #[] 0):=by rw [hW1,hbm];exact heap_alloc_new W0 _
 obtain ⟨W2,hW2⟩: ∃ W,W=mapW W1 bm (.map #[{key:= .string (ByteArray.mk #[108,101,97,115,116]),val:=(.func (.func 107) #[] #[.pointer (some ⟨bb,0,none⟩)]),born:=0 }] 1):=⟨_,rfl⟩
 have q1:(Instr.mapUpdate 136 (.map (some bm)) (.string (ByteArray.mk #[108,101,97,115,116])) (.func (.func 107) #[] #[.pointer (some ⟨bb,0,none⟩)])).run Tryz.prog W1= .ok () W2:=by rw [hW2];exact ins_run hb1 (by kernel_rfl)
 have hk2:Go.Proofs.YticnbacafmeiiaaGreatDoor.Blk W2 bb 134 #[.pointer (some ⟨d,0,none⟩)]:=by rw [hW2];exact hk1.below mapW_below hlt
 have hl2:Below w.heap.size w W2:=by rw [hW2];exact hl1.trans (mapW_below.mono hle)
 have hb2:W2.heap[bm]? = some (.map #[{key:= .string (ByteArray.mk #[108,101,97,115,116]),val:=(.func (.func 107) #[] #[.pointer (some ⟨bb,0,none⟩)]),born:=0 }] 1):=by rw [hW2];exact mapW_get (Array.getElem?_eq_some_iff.1 hb1).1
 obtain ⟨W3,hW3⟩: ∃ W,W=mapW W2 bm (.map #[{key:= .string (ByteArray.mk #[108,101,97,115,116]),val:=(.func (.func 107) #[] #[.pointer (some ⟨bb,0,none⟩)]),born:=0 },{key:= .string (ByteArray.mk #[109,111,115,116]),val:=(.func (.func 109) #[] #[.pointer (some ⟨bb,0,none⟩)]),born:=1 }] 2):=⟨_,rfl⟩
 have q2:(Instr.mapUpdate 136 (.map (some bm)) (.string (ByteArray.mk #[109,111,115,116])) (.func (.func 109) #[] #[.pointer (some ⟨bb,0,none⟩)])).run Tryz.prog W2= .ok () W3:=by rw [hW3];exact ins_run hb2 (by kernel_rfl)
 have hk3:Go.Proofs.YticnbacafmeiiaaGreatDoor.Blk W3 bb 134 #[.pointer (some ⟨d,0,none⟩)]:=by rw [hW3];exact hk2.below mapW_below hlt
 have hl3:Below w.heap.size w W3:=by rw [hW3];exact hl2.trans (mapW_below.mono hle)
 have hb3:W3.heap[bm]? = some (.map #[{key:= .string (ByteArray.mk #[108,101,97,115,116]),val:=(.func (.func 107) #[] #[.pointer (some ⟨bb,0,none⟩)]),born:=0 },{key:= .string (ByteArray.mk #[109,111,115,116]),val:=(.func (.func 109) #[] #[.pointer (some ⟨bb,0,none⟩)]),born:=1 }] 2):=by rw [hW3];exact mapW_get (Array.getElem?_eq_some_iff.1 hb2).1
 obtain ⟨W4,hW4⟩: ∃ W,W=mapW W3 bm (.map #[{key:= .string (ByteArray.mk #[108,101,97,115,116]),val:=(.func (.func 107) #[] #[.pointer (some ⟨bb,0,none⟩)]),born:=0 },{key:= .string (ByteArray.mk #[109,111,115,116]),val:=(.func (.func 109) #[] #[.pointer (some ⟨bb,0,none⟩)]),born:=1 },{key:= .string (ByteArray.mk #[115,117,105,116,101,115]),val:=(.func (.func 110) #[.pointer (some ⟨d,0,none⟩)] #[]),born:=2 }] 3):=⟨_,rfl⟩
 have q3:(Instr.mapUpdate 136 (.map (some bm)) (.string (ByteArray.mk #[115,117,105,116,101,115])) (.func (.func 110) #[.pointer (some ⟨d,0,none⟩)] #[])).run Tryz.prog W3= .ok () W4:=by rw [hW4];exact ins_run hb3 (by kernel_rfl)
 have hk4:Go.Proofs.YticnbacafmeiiaaGreatDoor.Blk W4 bb 134 #[.pointer (some ⟨d,0,none⟩)]:=by rw [hW4];exact hk3.below mapW_below hlt
 have hl4:Below w.heap.size w W4:=by rw [hW4];exact hl3.trans (mapW_below.mono hle)
 have hb4:W4.heap[bm]? = some (.map #[{key:= .string (ByteArray.mk #[108,101,97,115,116]),val:=(.func (.func 107) #[] #[.pointer (some ⟨bb,0,none⟩)]),born:=0 },{key:= .string (ByteArray.mk #[109,111,115,116]),val:=(.func (.func 109) #[] #[.pointer (some ⟨bb,0,none⟩)]),born:=1 },{key:= .string (ByteArray.mk #[115,117,105,116,101,115]),val:=(.func (.func 110) #[.pointer (some ⟨d,0,none⟩)] #[]),born:=2 }] 3):=by rw [hW4];exact mapW_get (Array.getElem?_eq_some_iff.1 hb3).1
 obtain ⟨W5,hW5⟩: ∃ W,W=mapW W4 bm (.map #[{key:= .string (ByteArray.mk #[108,101,97,115,116]),val:=(.func (.func 107) #[] #[.pointer (some ⟨bb,0,none⟩)]),born:=0 },{key:= .string (ByteArray.mk #[109,111,115,116]),val:=(.func (.func 109) #[] #[.pointer (some ⟨bb,0,none⟩)]),born:=1 },{key:= .string (ByteArray.mk #[115,117,105,116,101,115]),val:=(.func (.func 110) #[.pointer (some ⟨d,0,none⟩)] #[]),born:=2 },{key:= .string (ByteArray.mk #[111,114,100,101,114]),val:=(.func (.func 111) #[] #[.pointer (some ⟨bb,0,none⟩)]),born:=3 }] 4):=⟨_,rfl⟩
 have q4:(Instr.mapUpdate 136 (.map (some bm)) (.string (ByteArray.mk #[111,114,100,101,114])) (.func (.func 111) #[] #[.pointer (some ⟨bb,0,none⟩)])).run Tryz.prog W4= .ok () W5:=by rw [hW5];exact ins_run hb4 (by kernel_rfl)
 have hk5:Go.Proofs.YticnbacafmeiiaaGreatDoor.Blk W5 bb 134 #[.pointer (some ⟨d,0,none⟩)]:=by rw [hW5];exact hk4.below mapW_below hlt
 have hl5:Below w.heap.size w W5:=by rw [hW5];exact hl4.trans (mapW_below.mono hle)
 have hb5:W5.heap[bm]? = some (.map #[{key:= .string (ByteArray.mk #[108,101,97,115,116]),val:=(.func (.func 107) #[] #[.pointer (some ⟨bb,0,none⟩)]),born:=0 },{key:= .string (ByteArray.mk #[109,111,115,116]),val:=(.func (.func 109) #[] #[.pointer (some ⟨bb,0,none⟩)]),born:=1 },{key:= .string (ByteArray.mk #[115,117,105,116,101,115]),val:=(.func (.func 110) #[.pointer (some ⟨d,0,none⟩)] #[]),born:=2 },{key:= .string (ByteArray.mk #[111,114,100,101,114]),val:=(.func (.func 111) #[] #[.pointer (some ⟨bb,0,none⟩)]),born:=3 }] 4):=by rw [hW5];exact mapW_get (Array.getElem?_eq_some_iff.1 hb4).1
 obtain ⟨W6,hW6⟩: ∃ W,W=mapW W5 bm (.map #[{key:= .string (ByteArray.mk #[108,101,97,115,116]),val:=(.func (.func 107) #[] #[.pointer (some ⟨bb,0,none⟩)]),born:=0 },{key:= .string (ByteArray.mk #[109,111,115,116]),val:=(.func (.func 109) #[] #[.pointer (some ⟨bb,0,none⟩)]),born:=1 },{key:= .string (ByteArray.mk #[115,117,105,116,101,115]),val:=(.func (.func 110) #[.pointer (some ⟨d,0,none⟩)] #[]),born:=2 },{key:= .string (ByteArray.mk #[111,114,100,101,114]),val:=(.func (.func 111) #[] #[.pointer (some ⟨bb,0,none⟩)]),born:=3 },{key:= .string (ByteArray.mk #[107,101,121,115]),val:=(.func (.func 113) #[.pointer (some ⟨d,0,none⟩)] #[]),born:=4 }] 5):=⟨_,rfl⟩
 have q5:(Instr.mapUpdate 136 (.map (some bm)) (.string (ByteArray.mk #[107,101,121,115])) (.func (.func 113) #[.pointer (some ⟨d,0,none⟩)] #[])).run Tryz.prog W5= .ok () W6:=by rw [hW6];exact ins_run hb5 (by kernel_rfl)
 have hk6:Go.Proofs.YticnbacafmeiiaaGreatDoor.Blk W6 bb 134 #[.pointer (some ⟨d,0,none⟩)]:=by rw [hW6];exact hk5.below mapW_below hlt
 have hl6:Below w.heap.size w W6:=by rw [hW6];exact hl5.trans (mapW_below.mono hle)
 have hb6:W6.heap[bm]? = some (.map #[{key:= .string (ByteArray.mk #[108,101,97,115,116]),val:=(.func (.func 107) #[] #[.pointer (some ⟨bb,0,none⟩)]),born:=0 },{key:= .string (ByteArray.mk #[109,111,115,116]),val:=(.func (.func 109) #[] #[.pointer (some ⟨bb,0,none⟩)]),born:=1 },{key:= .string (ByteArray.mk #[115,117,105,116,101,115]),val:=(.func (.func 110) #[.pointer (some ⟨d,0,none⟩)] #[]),born:=2 },{key:= .string (ByteArray.mk #[111,114,100,101,114]),val:=(.func (.func 111) #[] #[.pointer (some ⟨bb,0,none⟩)]),born:=3 },{key:= .string (ByteArray.mk #[107,101,121,115]),val:=(.func (.func 113) #[.pointer (some ⟨d,0,none⟩)] #[]),born:=4 }] 5):=by rw [hW6];exact mapW_get (Array.getElem?_eq_some_iff.1 hb5).1
 obtain ⟨W7,hW7⟩: ∃ W,W=mapW W6 bm (.map #[{key:= .string (ByteArray.mk #[108,101,97,115,116]),val:=(.func (.func 107) #[] #[.pointer (some ⟨bb,0,none⟩)]),born:=0 },{key:= .string (ByteArray.mk #[109,111,115,116]),val:=(.func (.func 109) #[] #[.pointer (some ⟨bb,0,none⟩)]),born:=1 },{key:= .string (ByteArray.mk #[115,117,105,116,101,115]),val:=(.func (.func 110) #[.pointer (some ⟨d,0,none⟩)] #[]),born:=2 },{key:= .string (ByteArray.mk #[111,114,100,101,114]),val:=(.func (.func 111) #[] #[.pointer (some ⟨bb,0,none⟩)]),born:=3 },{key:= .string (ByteArray.mk #[107,101,121,115]),val:=(.func (.func 113) #[.pointer (some ⟨d,0,none⟩)] #[]),born:=4 },{key:= .string (ByteArray.mk #[97,110,99,104,111,114,115]),val:=(.func (.func 114) #[] #[.pointer (some ⟨bb,0,none⟩)]),born:=5 }] 6):=⟨_,rfl⟩
 have q6:(Instr.mapUpdate 136 (.map (some bm)) (.string (ByteArray.mk #[97,110,99,104,111,114,115])) (.func (.func 114) #[] #[.pointer (some ⟨bb,0,none⟩)])).run Tryz.prog W6= .ok () W7:=by rw [hW7];exact ins_run hb6 (by kernel_rfl)
 have hk7:Go.Proofs.YticnbacafmeiiaaGreatDoor.Blk W7 bb 134 #[.pointer (some ⟨d,0,none⟩)]:=by rw [hW7];exact hk6.below mapW_below hlt
 have hl7:Below w.heap.size w W7:=by rw [hW7];exact hl6.trans (mapW_below.mono hle)
 have hb7:W7.heap[bm]? = some (.map #[{key:= .string (ByteArray.mk #[108,101,97,115,116]),val:=(.func (.func 107) #[] #[.pointer (some ⟨bb,0,none⟩)]),born:=0 },{key:= .string (ByteArray.mk #[109,111,115,116]),val:=(.func (.func 109) #[] #[.pointer (some ⟨bb,0,none⟩)]),born:=1 },{key:= .string (ByteArray.mk #[115,117,105,116,101,115]),val:=(.func (.func 110) #[.pointer (some ⟨d,0,none⟩)] #[]),born:=2 },{key:= .string (ByteArray.mk #[111,114,100,101,114]),val:=(.func (.func 111) #[] #[.pointer (some ⟨bb,0,none⟩)]),born:=3 },{key:= .string (ByteArray.mk #[107,101,121,115]),val:=(.func (.func 113) #[.pointer (some ⟨d,0,none⟩)] #[]),born:=4 },{key:= .string (ByteArray.mk #[97,110,99,104,111,114,115]),val:=(.func (.func 114) #[] #[.pointer (some ⟨bb,0,none⟩)]),born:=5 }] 6):=by rw [hW7];exact mapW_get (Array.getElem?_eq_some_iff.1 hb6).1
 obtain ⟨W8,hW8⟩: ∃ W,W=mapW W7 bm (.map #[{key:= .string (ByteArray.mk #[108,101,97,115,116]),val:=(.func (.func 107) #[] #[.pointer (some ⟨bb,0,none⟩)]),born:=0 },{key:= .string (ByteArray.mk #[109,111,115,116]),val:=(.func (.func 109) #[] #[.pointer (some ⟨bb,0,none⟩)]),born:=1 },{key:= .string (ByteArray.mk #[115,117,105,116,101,115]),val:=(.func (.func 110) #[.pointer (some ⟨d,0,none⟩)] #[]),born:=2 },{key:= .string (ByteArray.mk #[111,114,100,101,114]),val:=(.func (.func 111) #[] #[.pointer (some ⟨bb,0,none⟩)]),born:=3 },{key:= .string (ByteArray.mk #[107,101,121,115]),val:=(.func (.func 113) #[.pointer (some ⟨d,0,none⟩)] #[]),born:=4 },{key:= .string (ByteArray.mk #[97,110,99,104,111,114,115]),val:=(.func (.func 114) #[] #[.pointer (some ⟨bb,0,none⟩)]),born:=5 },{key:= .string (ByteArray.mk #[104,97,115,104,101,115]),val:=(.func (.func 117) #[] #[.pointer (some ⟨bb,0,none⟩)]),born:=6 }] 7):=⟨_,rfl⟩
 have q7:(Instr.mapUpdate 136 (.map (some bm)) (.string (ByteArray.mk #[104,97,115,104,101,115])) (.func (.func 117) #[] #[.pointer (some ⟨bb,0,none⟩)])).run Tryz.prog W7= .ok () W8:=by rw [hW8];exact ins_run hb7 (by kernel_rfl)
 have hk8:Go.Proofs.YticnbacafmeiiaaGreatDoor.Blk W8 bb 134 #[.pointer (some ⟨d,0,none⟩)]:=by rw [hW8];exact hk7.below mapW_below hlt
 have hl8:Below w.heap.size w W8:=by rw [hW8];exact hl7.trans (mapW_below.mono hle)
 have hb8:W8.heap[bm]? = some (.map #[{key:= .string (ByteArray.mk #[108,101,97,115,116]),val:=(.func (.func 107) #[] #[.pointer (some ⟨bb,0,none⟩)]),born:=0 },{key:= .string (ByteArray.mk #[109,111,115,116]),val:=(.func (.func 109) #[] #[.pointer (some ⟨bb,0,none⟩)]),born:=1 },{key:= .string (ByteArray.mk #[115,117,105,116,101,115]),val:=(.func (.func 110) #[.pointer (some ⟨d,0,none⟩)] #[]),born:=2 },{key:= .string (ByteArray.mk #[111,114,100,101,114]),val:=(.func (.func 111) #[] #[.pointer (some ⟨bb,0,none⟩)]),born:=3 },{key:= .string (ByteArray.mk #[107,101,121,115]),val:=(.func (.func 113) #[.pointer (some ⟨d,0,none⟩)] #[]),born:=4 },{key:= .string (ByteArray.mk #[97,110,99,104,111,114,115]),val:=(.func (.func 114) #[] #[.pointer (some ⟨bb,0,none⟩)]),born:=5 },{key:= .string (ByteArray.mk #[104,97,115,104,101,115]),val:=(.func (.func 117) #[] #[.pointer (some ⟨bb,0,none⟩)]),born:=6 }] 7):=by rw [hW8];exact mapW_get (Array.getElem?_eq_some_iff.1 hb7).1
 obtain ⟨W9,hW9⟩: ∃ W,W=mapW W8 bm (.map #[{key:= .string (ByteArray.mk #[108,101,97,115,116]),val:=(.func (.func 107) #[] #[.pointer (some ⟨bb,0,none⟩)]),born:=0 },{key:= .string (ByteArray.mk #[109,111,115,116]),val:=(.func (.func 109) #[] #[.pointer (some ⟨bb,0,none⟩)]),born:=1 },{key:= .string (ByteArray.mk #[115,117,105,116,101,115]),val:=(.func (.func 110) #[.pointer (some ⟨d,0,none⟩)] #[]),born:=2 },{key:= .string (ByteArray.mk #[111,114,100,101,114]),val:=(.func (.func 111) #[] #[.pointer (some ⟨bb,0,none⟩)]),born:=3 },{key:= .string (ByteArray.mk #[107,101,121,115]),val:=(.func (.func 113) #[.pointer (some ⟨d,0,none⟩)] #[]),born:=4 },{key:= .string (ByteArray.mk #[97,110,99,104,111,114,115]),val:=(.func (.func 114) #[] #[.pointer (some ⟨bb,0,none⟩)]),born:=5 },{key:= .string (ByteArray.mk #[104,97,115,104,101,115]),val:=(.func (.func 117) #[] #[.pointer (some ⟨bb,0,none⟩)]),born:=6 },{key:= .string (ByteArray.mk #[102,97,108,108,98,97,99,107]),val:=(.func (.func 119) #[] #[.pointer (some ⟨bb,0,none⟩)]),born:=7 }] 8):=⟨_,rfl⟩
 have q8:(Instr.mapUpdate 136 (.map (some bm)) (.string (ByteArray.mk #[102,97,108,108,98,97,99,107])) (.func (.func 119) #[] #[.pointer (some ⟨bb,0,none⟩)])).run Tryz.prog W8= .ok () W9:=by rw [hW9];exact ins_run hb8 (by kernel_rfl)
 have hk9:Go.Proofs.YticnbacafmeiiaaGreatDoor.Blk W9 bb 134 #[.pointer (some ⟨d,0,none⟩)]:=by rw [hW9];exact hk8.below mapW_below hlt
 have hl9:Below w.heap.size w W9:=by rw [hW9];exact hl8.trans (mapW_below.mono hle)
 have hb9:W9.heap[bm]? = some (.map #[{key:= .string (ByteArray.mk #[108,101,97,115,116]),val:=(.func (.func 107) #[] #[.pointer (some ⟨bb,0,none⟩)]),born:=0 },{key:= .string (ByteArray.mk #[109,111,115,116]),val:=(.func (.func 109) #[] #[.pointer (some ⟨bb,0,none⟩)]),born:=1 },{key:= .string (ByteArray.mk #[115,117,105,116,101,115]),val:=(.func (.func 110) #[.pointer (some ⟨d,0,none⟩)] #[]),born:=2 },{key:= .string (ByteArray.mk #[111,114,100,101,114]),val:=(.func (.func 111) #[] #[.pointer (some ⟨bb,0,none⟩)]),born:=3 },{key:= .string (ByteArray.mk #[107,101,121,115]),val:=(.func (.func 113) #[.pointer (some ⟨d,0,none⟩)] #[]),born:=4 },{key:= .string (ByteArray.mk #[97,110,99,104,111,114,115]),val:=(.func (.func 114) #[] #[.pointer (some ⟨bb,0,none⟩)]),born:=5 },{key:= .string (ByteArray.mk #[104,97,115,104,101,115]),val:=(.func (.func 117) #[] #[.pointer (some ⟨bb,0,none⟩)]),born:=6 },{key:= .string (ByteArray.mk #[102,97,108,108,98,97,99,107]),val:=(.func (.func 119) #[] #[.pointer (some ⟨bb,0,none⟩)]),born:=7 }] 8):=by rw [hW9];exact mapW_get (Array.getElem?_eq_some_iff.1 hb8).1
 have z3:=hk3.cell 0
 have z5:=hk5.cell 0
 simp only [List.getElem?_toArray,List.getElem?_cons_zero] at z3 z5
 have HB:=Lib.hid hb9
 have HL:=Lib.hid hl9
 have HLE:=Lib.hid hle
 clear hW1 hk1 hl1 hb1 hW2 hk2 hl2 hb2 hW3 hk3 hl3 hb3 hW4 hk4 hl4 hb4 hW5 hk5 hl5 hb5 hW6 hk6 hl6 hb6 hW7 hk7 hl7 hb7 hW8 hk8 hl8 hb8 hW9 hk9 hl9 hb9 hk0 hl0 hlt hle hbm
 go_enter Tryz.func57,Tryz.ntmps57
 go_wp2_with fail
 rw [←hbb, ← hW0,mk]
 clear hbb hW0 mk
 go_wp2_with fail
 go_ret
 exact ⟨bm,_,_,rfl,HLE.out,HB.out,by kernel_rfl,HL.out⟩
end
end Go.Proofs.YticnbacafmeiiaaGreatDoor.K
namespace Go.Proofs.YticnbacafmeiiaaGreatDoor.K
open Go.RowKit
def duR:List AR:=[
 {f:=170 },
 {f:=99 },
 {f:=105 },
 {f:=55 },
 {f:=139 },
 {f:=219 },
 {f:=150,keep:=[168,219] },
 {f:=240 },
 {f:=146 },
 {f:=281 },
 {f:=280 },
 {f:=241 },
 {f:=168,keep:=[219] },
 {f:=178,keep:=[168] },
 {f:=106 },
 {f:=56 },
 {f:=121 },
 {f:=60 },
 {f:=243,keep:=[168],w:=[(1,.ad [(50001,49001),(50002,49002)])] },
 {f:=180,w:=[(250,.nf 19 0 3 20501),(250,.nf 19 1 3 20502)] },
 {f:=110 },
 {f:=61,pl:=[(12,[(0,[50000]),(1,[50000]),(2,[50000]),(3,[50000]),(4,[50000]),(5,[50000]),(6,[50000]),(7,[50000]),(8,[50000]),(9,[50000])],(.of [0,1,2,3,4,5,6,7,8,9,10]))] },
 {f:=120 },
 {f:=59 }]
def duB:List (Nat×Ent):=[(27,sp_f27),(28,sp_f28),(177,sp_f177),(205,sp_f205),(235,sp_f235),((bCode 2 291 0),sp_op_index_291),((bCode 0 9 82),sp_op_convert_9_82)]
theorem duB_ok:AllE duB:=gC en_f27 ms_f27<|gC en_f28 ms_f28<|gC en_f177 ms_f177<|gC en_f205 ms_f205<|gC en_f235 ms_f235<|gC en_op_index_291 ms_op_index_291<|gC en_op_convert_9_82 ms_op_convert_9_82 gN
theorem duR_ok:duR.all (auChk Tryz.prog)=true:=by kernel_rfl
noncomputable def duE:List (Nat×Ent):=auL Tryz.prog TYs duR duB
theorem duE_ok: ∀ p∈duE,Entered Tryz.prog p.1/\Meets Tryz.prog p.1 (strip p.2):=auA mixed duR_ok (gA duB_ok)
def duA:List Int:=[1,2,3,4,5,6,7,8,9,10,11,12,13,14,15,16]
def duD (l:List Int):VO:= .box (.ag [.t .str (ByteArray.mk #[119,101,98]),.t tI 1,.t tI 4,.t (.sl tI) l,.t .bool false,.c (.slice none 0 0),.c (.slice none 0 0),.c (.slice none 0 0),.t .bool false,.c (.slice none 0 0)])
theorem du_early:EL duE 55 [.t .str (ByteArray.mk #[119,101,98]),.c (.slice none 0 0)] []=some (true,.t tI 0,[]):=by kernel_rfl
theorem du_begin:EL duE 56 [.t .str (ByteArray.mk #[119,101,98]),.c (.slice none 0 0)] []=some (true,.ptr 50000 0,[duD duA]):=by kernel_rfl
theorem du_values:EL duE 60 [.t tySetting paS] []=some (true,.t (.sl .str) [(ByteArray.mk #[114,99,52])],[]):=by kernel_rfl
theorem du_list:EL duE 110 [.ptr 50000 0,.t (.sl .str) [(ByteArray.mk #[114,99,52])]] [duD duA]=some (true,.t .bool true,[duD [1,2]]):=by kernel_rfl
theorem du_finish:EL duE 61 [.ptr 50000 0] [duD [1,2]]=some (true,.tu [.t tyEndpoint feEp,.t tI 0,.t tI 0],[duD [1,2]]):=by kernel_rfl
theorem du_again (fv:Value):EL duE 59 [.t (.sl tySetting) [],.c fv] []=some (true,.t .bool false,[]):=by kernel_rfl
end Go.Proofs.YticnbacafmeiiaaGreatDoor.K
namespace Go.Proofs.YticnbacafmeiiaaGreatDoor.K
open Go.RowKit Go.Region
attribute [local go_sem ↓] Go.wp_at_zero Go.wp_at_succ
noncomputable section
theorem du_call {f:FuncId}{args:List V}{objs os:List VO}{r:V}{us:List Value}(hE:EL duE f args objs=some (true,r,os)){X:Nat->Nat->Prop}{w:World}{σ:Pl}(hfin:Fin2 X w)(hl:Lent X w σ objs)(hc:Cs X w σ (V.ds args) us)(hlt:f<1000000:=by decide):
  Calls Tryz.prog f us.toArray w fun en w'=> ∃ u X' σ',en= .returned u/\C X' w' σ' r.d u/\Ends X w σ objs.length X' w' σ' os:=by
 obtain ⟨F,hm,hF⟩:=EL_mem hE
 exact of_does hlt ((duE_ok _ hm).2 _ _ _ _ (by unfold strip;simp only [hF]) X w σ us hfin hl hc)
theorem fin2_below {X:Nat->Nat->Prop}{w w':World}(h:Fin2 X w)(hb:Below w.heap.size w w'):Fin2 X w':=
 ⟨fun b q hx=>Nat.lt_of_lt_of_le (h.fin b q hx) hb.size,h.tab.ext ⟨hb.size,fun b o hb' hx=>⟨hx,World.cell?_of_block (hb.block b hb')⟩⟩⟩
theorem back0 {X X':Nat->Nat->Prop}{w w':World}(hfin:Fin2 X w)(old: ∀ b q,b<w.heap.size->X b q->X' b q):Ext0 X' w' X w':=
 ⟨Nat.le_refl _,fun b o _ hx=>⟨fun h=>hx (old b o (hfin.fin b o h) h),rfl⟩⟩
theorem du_typed {f:FuncId}{args:List V}{r:V}{us:List Value}(hE:EL duE f args []=some (true,r,[]))(hr:r.d.refs=[]){X:Nat->Nat->Prop}{w:World}(hfin:Fin2 X w)(hc:Cs X w nowhere (V.ds args) us)(hlt:f<1000000:=by decide):
  Calls Tryz.prog f us.toArray w fun en w'=> ∃ u,en= .returned u/\C X w' nowhere r.d u/\Below w.heap.size w w':=by
 refine (du_call hE hfin lentN0 hc hlt).mono ?_
 rintro en w' ⟨u,X',σ',rfl,h1,h2⟩
 exact ⟨u,rfl,C.ext0 (back0 hfin fun b q hb hx=>h2.old b q hb (fun i hi=>by simp at hi) hx) _ _ (by rw [hr];simp) h1,endsB0 h2⟩
theorem du_box {f:FuncId}{args:List V}{v v' r:V}{us:List Value}(hE:EL duE f args [.box v]=some (true,r,[.box v']))(hr:r.d.refs=[])(hv:v'.refs=[]){X:Nat->Nat->Prop}{w:World}{σ:Pl}{d:Nat}(hfin:Fin2 X w)(hσ:σ 50000= .box d)(hO:OAt X w σ 50000 (.box v))(hc:Cs X w σ (V.ds args) us)(hlt:f<1000000:=by decide):
  Calls Tryz.prog f us.toArray w fun en w'=> ∃ u,en= .returned u/\C X w' nowhere r.d u/\OAt X w' σ 50000 (.box v')/\Fr [d] w w':=by
 have hl:Lent X w σ [.box v]:=⟨fun j o hj=>by
  match j with
  |0=>
   simp only [List.getElem?_cons_zero,Option.some.injEq] at hj
   subst hj
   exact ⟨hO,by simp⟩
  |j+1=>simp at hj,fun i j b hij hi hj=>by simp at hi hj;omega⟩
 refine (du_call hE hfin hl hc hlt).mono ?_
 rintro en w' ⟨u,X',σ',rfl,h1,h2⟩
 have old: ∀ b q,b<w.heap.size->X b q->X' b q:=fun b q hb hx=>h2.old b q hb (fun i hi he=>by
  have:i=0:=by simp at hi;omega
  subst this
  simp at he) hx
 have hd:d<w.heap.size:=by
  obtain ⟨b,ty,vs,e1,e2,_⟩:=hO
  rw [hσ] at e1
  injection e1 with e1
  subst e1
  exact (Array.getElem?_eq_some_iff.1 e2).1
 have hs:σ' 50000=σ 50000:=h2.same 0 (by simp)
 refine ⟨u,rfl,C.ext0 (back0 hfin old) _ _ (by rw [hr];simp) h1,((h2.at_ 0 _ rfl).1).ext0 (back0 hfin old) hs.symm (by rw [show (VO.box v').refs=v'.refs from rfl,hv];simp) (fun b hb=>⟨rfl,fun q hq=>h2.sub b q ?_ hq⟩), ?_⟩
 ·rw [hs,hσ] at hb
  injection hb with hb
  subst hb
  exact hd
 ·have hf:=h2.fr
  have h0:(σ (50000+0)).blk=some d:=by show (σ 50000).blk=_;rw [hσ];rfl
  have e:lentB σ [VO.box v].length=[d]:=by
   show List.filterMap (fun j=>(σ (50000+j)).blk) [0]=[d]
   rw [List.filterMap_cons,h0]
   rfl
  rw [e] at hf
  exact hf
abbrev rc4B:ByteArray:=ByteArray.mk #[114,99,52]
abbrev suitesB:ByteArray:=ByteArray.mk #[115,117,105,116,101,115]
theorem early_calls {X:Nat->Nat->Prop}{w:World}(hfin:Fin2 X w):Calls Tryz.prog 55 #[.string (ByteArray.mk #[119,101,98]),.slice none 0 0] w fun en w'=>en= .returned (.int .i64 0)/\Below w.heap.size w w':=by
 refine (du_typed du_early rfl hfin (us:=[.string (ByteArray.mk #[119,101,98]),.slice none 0 0]) ⟨_,_,rfl,⟨rfl,rfl⟩,_,_,rfl,⟨rfl,rfl⟩,rfl⟩).mono ?_
 rintro en w' ⟨u,rfl,h1,h2⟩
 have h1:C X w' nowhere (.v (.int .i64 0)) u:=h1
 simp only [C] at h1
 obtain ⟨rfl,_⟩:=h1
 exact ⟨rfl,h2⟩
theorem again_calls {X:Nat->Nat->Prop}{w:World}(hfin:Fin2 X w)(A:Option Addr)(c:Nat)(hc:c<=maxLen)(fv:Value)(hv:fv.oneCell'=true):Calls Tryz.prog 59 #[.slice A 0 c,fv] w fun en w'=>en= .returned (.bool false)/\Below w.heap.size w w':=by
 refine (du_typed (du_again fv) rfl hfin (us:=[.slice A 0 c,fv]) ?_).mono ?_
 ·refine ⟨_,_,rfl, ?_,_,_,rfl,⟨rfl,hv⟩,rfl⟩
  show C X w nowhere (.sl 0 []) _
  simp only [C]
  exact ⟨A,c,rfl,Nat.zero_le _,hc,fun _=>trivial,fun h=>absurd h (by simp)⟩
 rintro en w' ⟨u,rfl,h1,h2⟩
 have h1:C X w' nowhere (.v (.bool false)) u:=h1
 simp only [C] at h1
 obtain ⟨rfl,_⟩:=h1
 exact ⟨rfl,h2⟩
abbrev paV:Value:= .agg #[.string (ByteArray.mk #[119,101,98]),.string suitesB,.string rc4B,.int .i64 2]
theorem values_calls {X:Nat->Nat->Prop}{w:World}(hfin:Fin2 X w):Calls Tryz.prog 60 #[paV] w fun en w'=> ∃ u,en= .returned u/\C X w' nowhere (.sl 1 ([rc4B].flatMap Ty.str.cells)) u/\Below w.heap.size w w':=
 du_typed du_values rfl hfin (us:=[paV]) ⟨_,_,rfl,⟨_,rfl,_,_,rfl,⟨rfl,rfl⟩,_,_,rfl,⟨rfl,rfl⟩,_,_,rfl,⟨rfl,rfl⟩,_,_,rfl,⟨rfl,rfl⟩,rfl⟩,rfl⟩
theorem begin_calls {X:Nat->Nat->Prop}{w:World}(hfin:Fin2 X w):Calls Tryz.prog 56 #[.string (ByteArray.mk #[119,101,98]),.slice none 0 0] w fun en w'=> ∃ d X1 σ1,en= .returned (.pointer (some ⟨d,0,none⟩))/\σ1 50000= .box d/\OAt X1 w' σ1 50000 (duD duA)/\Fin2 X1 w'/\w.heap.size<=d/\d<w'.heap.size/\(∀ b q,b<w.heap.size->X b q->X1 b q)/\Below w.heap.size w w':=by
 refine (du_call du_begin hfin (σ:=nowhere) lentN0 (us:=[.string (ByteArray.mk #[119,101,98]),.slice none 0 0]) ⟨_,_,rfl,⟨rfl,rfl⟩,_,_,rfl,⟨rfl,rfl⟩,rfl⟩).mono ?_
 rintro en w' ⟨u,X',σ',rfl,h1,h2⟩
 have h1:C X' w' σ' (.bx 50000 0) u:=h1
 simp only [C] at h1
 obtain ⟨d,hd,rfl⟩:=h1
 have hO:=(h2.at_ 0 _ rfl).1
 have hdlt:d<w'.heap.size:=by
  obtain ⟨b,ty,vs,e1,e2,_⟩:=hO
  rw [hd] at e1
  injection e1 with e1
  subst e1
  exact (Array.getElem?_eq_some_iff.1 e2).1
 have hnew:w.heap.size<=d:=by
  rcases h2.new 0 d (Nat.zero_le _) (by simp) (by rw [show 50000+0=50000 from rfl,hd];rfl) with h|⟨i,hi,_⟩
  ·exact h
  ·simp at hi
 refine ⟨d,X',σ',rfl,hd,hO,⟨h2.fin,hfin.tab.ext ⟨h2.fr.size,fun b o hb hx=>⟨fun h=>hx (h2.sub b o hb h),World.cell?_of_block (h2.fr.keep b hb (by simp [lentB]))⟩⟩⟩,hnew,hdlt,fun b q hb hx=>h2.old b q hb (fun i hi=>by simp at hi) hx,endsB0 h2⟩
theorem list_calls {X:Nat->Nat->Prop}{w:World}{σ:Pl}{d:Nat}{sv:Value}(hfin:Fin2 X w)(hσ:σ 50000= .box d)(hO:OAt X w σ 50000 (duD duA))(hs:C X w nowhere (.sl 1 ([rc4B].flatMap Ty.str.cells)) sv):
  Calls Tryz.prog 110 #[.pointer (some ⟨d,0,none⟩),sv] w fun en w'=>en= .returned (.bool true)/\OAt X w' σ 50000 (duD [1,2])/\Fr [d] w w':=by
 refine (du_box du_list rfl rfl hfin hσ hO (us:=[.pointer (some ⟨d,0,none⟩),sv]) ?_).mono ?_
 ·refine ⟨_,_,rfl,⟨d,hσ,rfl⟩,_,_,rfl, ?_,rfl⟩
  exact C.ext0 ⟨Nat.le_refl _,fun _ _ _ h=>⟨h,rfl⟩⟩ _ _ (by intro k hk;cases hk) hs
 rintro en w' ⟨u,rfl,h1,h2,h3⟩
 have h1:C X w' nowhere (.v (.bool true)) u:=h1
 simp only [C] at h1
 obtain ⟨rfl,_⟩:=h1
 exact ⟨rfl,h2,h3⟩
theorem finish_calls {X:Nat->Nat->Prop}{w:World}{σ:Pl}{d:Nat}(hfin:Fin2 X w)(hσ:σ 50000= .box d)(hO:OAt X w σ 50000 (duD [1,2])):
  Calls Tryz.prog 61 #[.pointer (some ⟨d,0,none⟩)] w fun en w'=> ∃ u,en= .returned (.tuple #[u,.int .i64 0,.int .i64 0])/\C X w' nowhere (tyEndpoint.d feEp) u/\Fr [d] w w':=by
 refine (du_box du_finish rfl rfl hfin hσ hO (us:=[.pointer (some ⟨d,0,none⟩)]) ⟨_,_,rfl,⟨d,hσ,rfl⟩,rfl⟩).mono ?_
 rintro en w' ⟨u,rfl,h1,h2,h3⟩
 have h1:C X w' nowhere (.tu [tyEndpoint.d feEp,.v (.int .i64 0),.v (.int .i64 0)]) u:=h1
 obtain ⟨us,rfl,u0,r0,rfl,h4,u1,r1,rfl,⟨rfl,_⟩,u2,r2,rfl,⟨rfl,_⟩,rfl⟩:=h1
 exact ⟨u0,rfl,h4,h3⟩
theorem ep_val {X:Nat->Nat->Prop}{w:World}{u:Value}(h:C X w nowhere (tyEndpoint.d feEp) u): ∃ A1 c1 A2 c2 A3 c3 A4 c4,u= .agg #[.string (ByteArray.mk #[119,101,98]),.int .i64 1,.int .i64 4,.slice A1 2 c1,.bool false,.slice A2 0 c2,.slice A3 0 c3,.slice A4 0 c4,.bool false]:=by
 have h:C X w nowhere (.ag [.v (.string (ByteArray.mk #[119,101,98])),.v (.int .i64 1),.v (.int .i64 4),.sl 2 ([1,2].flatMap tI.cells),.v (.bool false),.sl 0 [],.sl 0 [],.sl 0 [],.v (.bool false)]) u:=h
 simp only [C,Cs] at h
 obtain ⟨vs,rfl,u0,r0,rfl,⟨rfl,_⟩,u1,r1,rfl,⟨rfl,_⟩,u2,r2,rfl,⟨rfl,_⟩,u3,r3,rfl,⟨A1,c1,rfl,_⟩,u4,r4,rfl,⟨rfl,_⟩,u5,r5,rfl,⟨A2,c2,rfl,_⟩,u6,r6,rfl,⟨A3,c3,rfl,_⟩,u7,r7,rfl,⟨A4,c4,rfl,_⟩,u8,r8,rfl,⟨rfl,_⟩,rfl⟩:=h
 exact ⟨A1,c1,A2,c2,A3,c3,A4,c4,rfl⟩
end
end Go.Proofs.YticnbacafmeiiaaGreatDoor.K
