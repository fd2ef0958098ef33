import Derived.Test.YtmokmalepelinaaGreatDoorQ4
import Derived.Test.YtmokmalepelinaaGreatDoorQ5
import Derived.Test.YtmokmalepelinaaGreatDoorQ3
import Derived.Shelf.Sort.Plain
import Derived.Ground.NamesProg
import Derived.Ground.Names2Prog
import Derived.Shelf.Slices.In.SortNone
import Derived.Shelf.Slices.CompactI
import Derived.RangeFuncCalls
import Derived.RangeFuncBound
import Derived.Shelf.RegionOpen
import Derived.OwnWalkIn
import Derived.TacticsInMore
import Derived.LoopNIn
import Derived.LoopIn
import Derived.Shelf.Strings.Search2
set_option linter.unusedSimpArgs false
set_option linter.unusedVariables false
set_option maxRecDepth 100000
namespace Go.Proofs.YtmokmalepelinaaGreatDoor.K
open Go.RowKit
noncomputable section
def wrgW (u:Keep):Bool:= !validF u
noncomputable def tc_f45:TC:=(.sq (.reg (rT Tryz.f45 0)) (.sq (.reg (rT Tryz.f45 1)) .rt))
def rv_f45:List (RV×Option Ty):=[((.t 2),some .bool)]
def g_f45:G:=⟨TYs,[],6,EL [(46,sp_f46)],keeps,(fun _ _=>none),IL [],RL []⟩
def r_f45 (p0:Keep):Option (V×List VO):=some (.t .bool (!(validF p0)),[])
theorem e_f45 (p0:Keep):runF g_f45 tc_f45 rv_f45 false [.t tyKeep p0] []=r_f45 p0:=by kernel_rfl
theorem en_f45:Entered Tryz.prog 45:= .inr ⟨by decide,_,Tryz.func45,by kernel_rfl,by kernel_rfl⟩
theorem gk_f45:GOk Tryz.prog g_f45:=gok_of _ (gA (gC en_f46 ms_f46 gN))
theorem lk_f45:tc_f45.lok g_f45:=by repeat (first|exact trivial|refine ⟨?_, ?_⟩)
theorem s_f45 (u:Keep):r_f45 u=some (.t .bool (wrgW u),[]):=rfl
def sp_f45:Ent:=spec (.pr tyKeep .nil) (fun x=>true) (fun x=>(.t .bool (wrgW x.1)))
theorem ms_f45:Meets Tryz.prog 45 (strip sp_f45):=meets_spec (R:=runF g_f45 tc_f45 rv_f45 false) (mG Tryz.func45 (by kernel_rfl) Tryz.ntmps45 (by kernel_rfl) gk_f45 lk_f45) fun x _=>(e_f45 x.1).trans (s_f45 x.1)
def fstW:List Keep->Option Nat
 | []=>none
 |x::l=>if wrgW x=true then some 0 else (fstW l).map (· + 1)
theorem fstW_any: ∀ l:List Keep,(fstW l).isSome=l.any wrgW
 | []=>rfl
 |x::l=>by
  simp only [fstW,List.any_cons]
  cases h:wrgW x with
  |true=>simp
  |false=>simp [fstW_any l]
def lenW (l:List Keep):Bool:=decide (l.length<=100000)
def ixW (l:List Keep):Int:=match fstW l with|some k=>(k:Int)|none=> -1
def fg_f100c45_0:Fg:=⟨[(0,some (.sl tyKeep)),(1,none),(7,some tI),(8,some tI)],[]⟩
noncomputable def tb_f100c45_0:TC:=(.sq (.reg (rT Tryz.f100 2)) (.sq (.cd (.t 9) .sk (.fg ⟨[],[]⟩ (.ex 0))) (.sq (.bk 1 (.sq (.reg (rT Tryz.f100 3)) (.sq (.reg (rT Tryz.f100 4)) (.cd (.t 16) (.sq (.reg (rT Tryz.f100 5)) (.fg ⟨[(4,some tI)],[]⟩ .rt)) .sk)))) (.reg (rT Tryz.f100 6)))))
noncomputable def tc_f100c45:TC:=(.sq (.reg (rT Tryz.f100 0)) (.sq (.sq (.reg (rT Tryz.f100 1)) (.bk 0 (.lp 0 fg_f100c45_0 tb_f100c45_0))) (.sq (.reg (rT Tryz.f100 7)) .rt)))
def rv_f100c45:List (RV×Option Ty):=[((.t 4),some tI)]
abbrev sh_f100c45_0:Sh:=⟨[(0,.ty (.sl tyKeep)),(1,.cf 45),(7,.ty tI),(8,.ty tI)],[]⟩
def st_f100c45_0 (x0:List Keep)(x7 x8:Int):VS:=sh_f100c45_0.st (x0,(),x7,x8,()) ()
abbrev sh_f100c45_0_ret:Sh:=⟨[(4,.ty tI)],[]⟩
def st_f100c45_0_ret (x4:Int):VS:=sh_f100c45_0_ret.st (x4,()) ()
abbrev sh_f100c45_0_e0:Sh:=⟨[],[]⟩
def st_f100c45_0_e0  : VS:=sh_f100c45_0_e0.st () ()
def L_f100c45_0:VS->Option (Bool×List (Bool×Exit×VS)):=mkL sh_f100c45_0 (fun x y=>(rngOk x.1 x.2.2.1 x.2.2.2.1)) (fun x y=>[(((fstW (x.1.drop x.2.2.2.1.toNat)).isSome),.ret,st_f100c45_0_ret (x.2.2.2.1+((fstW (x.1.drop x.2.2.2.1.toNat)).getD 0:Nat))),(true,.exit 0,st_f100c45_0_e0)])
def g_f100c45:G:=⟨TYs,[],19,EL [(45,sp_f45)],keeps,(Ls [L_f100c45_0]),IL [],RL []⟩
def b_f100c45_0 (x0:List Keep)(x7 x8:Int):Option (Exit×VS):=br (ilt x8 x7) (br (cIx x0 x8) (br (wrgW (lgt tyKeep x0 (Int.toNat x8))) (some (.ret,st_f100c45_0_ret x8)) (some (.normal,st_f100c45_0 x0 x7 (iadd .i64 x8 1)))) none) (some (.exit 0,st_f100c45_0_e0))
noncomputable def lp_f100c45_0 (x0:List Keep)(x7 x8:Int):Option (Exit×VS):=loopF (roundF g_f100c45 fg_f100c45_0 tb_f100c45_0) (st_f100c45_0 x0 x7 x8)
noncomputable def n_f100c45_0 (x0:List Keep)(x7 x8:Int):Option (Exit×VS):=br (ilt x8 x7) (br (cIx x0 x8) (br (wrgW (lgt tyKeep x0 (Int.toNat x8))) (some (.ret,st_f100c45_0_ret x8)) (lp_f100c45_0 x0 x7 (iadd .i64 x8 1))) none) (some (.exit 0,st_f100c45_0_e0))
def la_f100c45_0 (x0:List Keep)(x7 x8:Int):Option (Exit×VS):=
 let a1:=fstW (x0.drop x8.toNat)
 br (a1.isSome) (some (.ret,st_f100c45_0_ret (x8+(a1.getD 0:Nat))))<|some (.exit 0,st_f100c45_0_e0)
theorem be_f100c45_0 (x0:List Keep)(x7 x8:Int):roundF g_f100c45 fg_f100c45_0 tb_f100c45_0 (st_f100c45_0 x0 x7 x8)=b_f100c45_0 x0 x7 x8:=by kernel_rfl
theorem ln_f100c45_0 (x0:List Keep)(x7 x8:Int):lp_f100c45_0 x0 x7 x8=n_f100c45_0 x0 x7 x8:=(loopF_nxt _ _).trans (by
 rw [be_f100c45_0]
 simp only [b_f100c45_0,n_f100c45_0,nxt_br,nxt_n,nxt_r,nxt_e,nxt_0]
 rfl)
def r_f100c45 (p0:List Keep):Option (V×List VO):=
 let a1:=(fstW (p0.drop (0:Int).toNat))
 br (rngOk p0 (llen p0) (0:Int)) (br (a1.isSome) (some (.t tI ((0:Int)+(a1.getD 0:Nat)),[])) (some (.t tI (-1),[]))) none
theorem e_f100c45 (p0:List Keep):runF g_f100c45 tc_f100c45 rv_f100c45 false [.t (.sl tyKeep) p0,.c (.func (.func 45) ⟨[]⟩ ⟨[]⟩)] []=r_f100c45 p0:=by kernel_rfl
theorem en_f100c45:Entered Tryz.prog 100:= .inr ⟨by decide,_,Tryz.func100,by kernel_rfl,by kernel_rfl⟩
theorem gk_f100c45:GOk Tryz.prog g_f100c45:=gok_of _ (gA (gC en_f45 ms_f45 gN))
theorem l_f100c45_0 (x0:List Keep)(x7 x8:Int)(h:(rngOk x0 x7 x8)=true):lp_f100c45_0 x0 x7 x8=la_f100c45_0 x0 x7 x8:=by
 obtain ⟨rfl,h3,k,rfl,hk⟩:=rng_k h
 clear h
 refine range_ind x0 (fun k=>lp_f100c45_0 x0 (x0.length:Int) (k:Int)=la_f100c45_0 x0 (x0.length:Int) (k:Int)) ?_ ?_ k hk
 ·rw [ln_f100c45_0]
  simp [n_f100c45_0,la_f100c45_0,ilt_nat,br_false,fstW]
 ·intro k hk ih
  rw [ln_f100c45_0]
  simp only [n_f100c45_0,ilt_nat,cIx_nat,hk,decide_true,br_true,Int.toNat_natCast,add1 (k:=k),ih,lgt_get (y:=tyKeep) hk]
  simp only [la_f100c45_0,Int.toNat_natCast,List.drop_eq_getElem_cons hk,fstW]
  cases h:wrgW x0[k] with
  |true=>simp [br_true]
  |false=>
   simp only [br_false,Bool.false_eq_true,if_false]
   cases hq:fstW (x0.drop (k+1)) with
   |none=>rfl
   |some j=>
    simp only [Option.map_some,Option.isSome_some,Option.getD_some,br_true]
    congr 3
    omega
theorem lo_f100c45_0: ∀ S l p,g_f100c45.L 0 (fgt fg_f100c45_0 S)=some (true,l)->pickA l=some p->loopF (roundF g_f100c45 fg_f100c45_0 tb_f100c45_0) S=some p:=
 lok_of (s:=sh_f100c45_0) ⟨by decide,by decide⟩ (by kernel_rfl) fun x y hok p hp=>by
 simp only [pickA_br,pickA_one] at hp
 exact (l_f100c45_0 x.1 x.2.2.1 x.2.2.2.1 (by simpa using hok)).trans hp
theorem lk_f100c45:tc_f100c45.lok g_f100c45:=by
 repeat (first|exact trivial|exact lo_f100c45_0|refine ⟨?_, ?_⟩)
theorem s_f100c45 (l:List Keep)(h:lenW l=true):r_f100c45 l=some (.t tI (ixW l),[]):=by
 have h:l.length<=100000:=of_decide_eq_true h
 simp only [r_f100c45,rng_0 h,br_true,Int.toNat_zero,List.drop_zero,ixW]
 cases fstW l<;>simp [br_true,br_false]
def sp_f100c45:Ent:=specB [.ty (.sl tyKeep),.cf 45] [] (fun x y=>(lenW x.1)) (fun x y=>(.t tI (ixW x.1))) (fun x y=>[])
theorem ms_f100c45:Meets Tryz.prog 100 (strip sp_f100c45):=meets_B (meets_specS (R:=runF g_f100c45 tc_f100c45 rv_f100c45 false) (mG Tryz.func100 (by kernel_rfl) Tryz.ntmps100 (by kernel_rfl) gk_f100c45 lk_f100c45) fun x y hok=>(e_f100c45 x.1).trans (s_f100c45 x.1 hok))
def anyW (l:List Keep):Bool:=l.any wrgW
noncomputable def tc_f48c45:TC:=(.sq (.reg (rT Tryz.f48 0)) (.sq (.reg (rT Tryz.f48 1)) .rt))
def rv_f48c45:List (RV×Option Ty):=[((.t 4),some .bool)]
def g_f48c45:G:=⟨TYs,[],9,EL [(100,sp_f100c45)],keeps,(fun _ _=>none),IL [],RL []⟩
def r_f48c45 (p0:List Keep):Option (V×List VO):=br (lenW p0) (some (.t .bool (ige (ixW p0) 0),[])) none
theorem e_f48c45 (p0:List Keep):runF g_f48c45 tc_f48c45 rv_f48c45 false [.t (.sl tyKeep) p0,.c (.func (.func 45) ⟨[]⟩ ⟨[]⟩)] []=r_f48c45 p0:=by kernel_rfl
theorem en_f48c45:Entered Tryz.prog 48:= .inr ⟨by decide,_,Tryz.func48,by kernel_rfl,by kernel_rfl⟩
theorem gk_f48c45:GOk Tryz.prog g_f48c45:=gok_of _ (gA (gC en_f100c45 ms_f100c45 gN))
theorem lk_f48c45:tc_f48c45.lok g_f48c45:=by repeat (first|exact trivial|refine ⟨?_, ?_⟩)
theorem s_f48c45 (l:List Keep)(h:lenW l=true):r_f48c45 l=some (.t .bool (anyW l),[]):=by
 simp only [r_f48c45,h,br_true]
 have e:ige (ixW l) 0=anyW l:=by
  unfold ixW anyW
  rw [←fstW_any]
  cases hq:fstW l with
  |none=>rfl
  |some k=>
   simp only [ige,Option.isSome_some,decide_eq_true_eq]
   omega
 rw [e]
def sp_f48c45:Ent:=specB [.ty (.sl tyKeep),.cf 45] [] (fun x y=>(lenW x.1)) (fun x y=>(.t .bool (anyW x.1))) (fun x y=>[])
theorem ms_f48c45:Meets Tryz.prog 48 (strip sp_f48c45):=meets_B (meets_specS (R:=runF g_f48c45 tc_f48c45 rv_f48c45 false) (mG Tryz.func48 (by kernel_rfl) Tryz.ntmps48 (by kernel_rfl) gk_f48c45 lk_f48c45) fun x y hok=>(e_f48c45 x.1).trans (s_f48c45 x.1 hok))
end
end Go.Proofs.YtmokmalepelinaaGreatDoor.K
namespace Go.Proofs.YtmokmalepelinaaGreatDoor.K
open Go.RowKit
def mtR:List AR:=[
 {f:=184 },
 {f:=183 },
 {f:=96 },
 {f:=50 },
 {f:=102,pl:=[(26,[(3,[3]),(4,[3])],(.of [0,1,2,3,4,5,6,7,8,9,10,11]))] },
 {f:=187 },
 {f:=103 }]
def mtB:List (Nat×Ent):=[]
theorem mtB_ok:AllE mtB:=  gN
theorem mtR_ok:mtR.all (auChk Tryz.prog)=true:=by kernel_rfl
noncomputable def mtE:List (Nat×Ent):=auL Tryz.prog TYs mtR mtB
theorem mtE_ok: ∀ p∈mtE,Entered Tryz.prog p.1/\Meets Tryz.prog p.1 (strip p.2):=auA mixed mtR_ok (gA mtB_ok)
def kwSsl:ByteArray:=ByteArray.mk #[115,115,108]
def kwApp:ByteArray:=ByteArray.mk #[97,112,112]
def ndC:Need:=(kwSsl,(([],([],())),()))
def pkC:List Package:=[(kwApp,([2],([ndC],()))),(kwSsl,([1,4],([],())))]
theorem mt_met:EL mtE 102 [.t (.sl tyPackage) pkC,.t tyNeed ndC] []=some (true,.t tI 1,[]):=by kernel_rfl
theorem mt_has1:EL mtE 103 [.t (.sl tI) [0],.t tI 1] []=some (true,.t .bool false,[]):=by kernel_rfl
theorem mt_has2:EL mtE 103 [.t (.sl tI) [0,1],.t tI 1] []=some (true,.t .bool true,[]):=by kernel_rfl
end Go.Proofs.YtmokmalepelinaaGreatDoor.K
namespace Go.Proofs
open Go.Shelf
def Tryz.lays189_ren:Go.Shelf.Ren:=⟨fun|189=>61|125=>94|257=>115|128=>174|129=>175|294=>209|295=>210|296=>211|297=>212|298=>213|299=>214|216=>215|300=>216|301=>217|328=>266|329=>246|330=>247|331=>267|332=>268|215=>252|343=>298|n=>n,fun|28=>22|3=>3|46=>179|0=>0|51=>264|53=>266|4=>4|183=>257|182=>256|131=>261|5=>5|9=>9|218=>328|222=>215|228=>361|229=>362|n=>n,fun|n=>n⟩
theorem Tryz.lays189:Go.Proofs.Lays.n189 Tryz.prog Tryz.lays189_ren:={
 mixed:=by kernel_rfl
 f125:=Tryz.func94.trans (congrArg some (by kernel_rfl))
 f128:=Tryz.func174.trans (congrArg some (by kernel_rfl))
 f129:=Tryz.func175.trans (congrArg some (by kernel_rfl))
 f189:=Tryz.func61.trans (congrArg some (by kernel_rfl))
 f215:=Tryz.func252.trans (congrArg some (by kernel_rfl))
 f216:=Tryz.func215.trans (congrArg some (by kernel_rfl))
 f257:=Tryz.func115.trans (congrArg some (by kernel_rfl))
 f294:=Tryz.func209.trans (congrArg some (by kernel_rfl))
 f295:=Tryz.func210.trans (congrArg some (by kernel_rfl))
 f296:=Tryz.func211.trans (congrArg some (by kernel_rfl))
 f297:=Tryz.func212.trans (congrArg some (by kernel_rfl))
 f298:=Tryz.func213.trans (congrArg some (by kernel_rfl))
 f299:=Tryz.func214.trans (congrArg some (by kernel_rfl))
 f300:=Tryz.func216.trans (congrArg some (by kernel_rfl))
 f301:=Tryz.func217.trans (congrArg some (by kernel_rfl))
 f328:=Tryz.func266.trans (congrArg some (by kernel_rfl))
 f329:=Tryz.func246.trans (congrArg some (by kernel_rfl))
 f330:=Tryz.func247.trans (congrArg some (by kernel_rfl))
 f331:=Tryz.func267.trans (congrArg some (by kernel_rfl))
 f332:=Tryz.func268.trans (congrArg some (by kernel_rfl))
 f343:=Tryz.func298.trans (congrArg some (by kernel_rfl))
 t0:=Tryz.underlying0
 a0:=Tryz.isAgg0
 z0:=Tryz.sizeOf0
 v0:=Tryz.zeroValue0
 t3:=Tryz.underlying3
 a3:=Tryz.isAgg3
 z3:=Tryz.sizeOf3
 v3:=Tryz.zeroValue3
 t4:=Tryz.underlying4
 a4:=Tryz.isAgg4
 z4:=Tryz.sizeOf4
 v4:=Tryz.zeroValue4
 t5:=Tryz.underlying5
 a5:=Tryz.isAgg5
 z5:=Tryz.sizeOf5
 v5:=Tryz.zeroValue5
 t9:=Tryz.underlying9
 a9:=Tryz.isAgg9
 z9:=Tryz.sizeOf9
 v9:=Tryz.zeroValue9
 t28:=Tryz.underlying22
 a28:=Tryz.isAgg22
 z28:=Tryz.sizeOf22
 v28:=Tryz.zeroValue22
 t46:=Tryz.underlying179
 a46:=Tryz.isAgg179
 z46:=Tryz.sizeOf179
 v46:=Tryz.zeroValue179
 t51:=Tryz.underlying264
 a51:=Tryz.isAgg264
 z51:=Tryz.sizeOf264
 v51:=Tryz.zeroValue264
 t53:=Tryz.underlying266
 a53:=Tryz.isAgg266
 z53:=Tryz.sizeOf266
 v53:=Tryz.zeroValue266
 t131:=Tryz.underlying261
 a131:=Tryz.isAgg261
 z131:=Tryz.sizeOf261
 v131:=Tryz.zeroValue261
 t182:=Tryz.underlying256
 a182:=Tryz.isAgg256
 z182:=Tryz.sizeOf256
 v182:=Tryz.zeroValue256
 t183:=Tryz.underlying257
 a183:=Tryz.isAgg257
 z183:=Tryz.sizeOf257
 v183:=Tryz.zeroValue257
 t218:=Tryz.underlying328
 a218:=Tryz.isAgg328
 z218:=Tryz.sizeOf328
 v218:=Tryz.zeroValue328
 t222:=Tryz.underlying215
 a222:=Tryz.isAgg215
 z222:=Tryz.sizeOf215
 v222:=Tryz.zeroValue215
 t228:=Tryz.underlying361
 a228:=Tryz.isAgg361
 z228:=Tryz.sizeOf361
 v228:=Tryz.zeroValue361
 t229:=Tryz.underlying362
 a229:=Tryz.isAgg362
 z229:=Tryz.sizeOf362
 v229:=Tryz.zeroValue362}
def Tryz.lays2_20_ren:Go.Shelf.Ren:=⟨fun|20=>62|n=>n,fun|22=>22|3=>3|4=>4|0=>0|n=>n,fun|n=>n⟩
theorem Tryz.lays2_20:Go.Proofs.Lays2.n20 Tryz.prog Tryz.lays2_20_ren:={
 mixed:=by kernel_rfl
 f20:=Tryz.func62.trans (congrArg some (by kernel_rfl))
 t0:=Tryz.underlying0
 a0:=Tryz.isAgg0
 z0:=Tryz.sizeOf0
 v0:=Tryz.zeroValue0
 t3:=Tryz.underlying3
 a3:=Tryz.isAgg3
 z3:=Tryz.sizeOf3
 v3:=Tryz.zeroValue3
 t4:=Tryz.underlying4
 a4:=Tryz.isAgg4
 z4:=Tryz.sizeOf4
 v4:=Tryz.zeroValue4
 t22:=Tryz.underlying22
 a22:=Tryz.isAgg22
 z22:=Tryz.sizeOf22
 v22:=Tryz.zeroValue22
 i3:=by kernel_rfl}
end Go.Proofs
namespace Go.Proofs.YtmokmalepelinaaGreatDoor.K
open Go.RowKit Go.Shelf
def sp_f61:Ent:=specS [.ms 50000] [.arr 3 tI] (fun _ y=>(lenOk y.1)) (fun _ _=> .tu []) (fun _ y=>[.arr 3 tI (sortI y.1)])
theorem en_f61:Entered Tryz.prog 61:= .inr ⟨by decide,_,Tryz.func61,by kernel_rfl,by kernel_rfl⟩
def sp_f62:Ent:=specS [.ms 50000] [.arr 3 tI] (fun _ y=>(lenOk y.1)) (fun _ y=> .t (.sl tI) (Lib.compact y.1)) (fun _ _=>[.no])
theorem en_f62:Entered Tryz.prog 62:= .inr ⟨by decide,_,Tryz.func62,by kernel_rfl,by kernel_rfl⟩
theorem ms_f61:Meets Tryz.prog 61 (strip sp_f61):=
 meets_sortI (by decide) (Any.slices_Sort_int Tryz.lays189) (Any.slices_Sort_int_none Tryz.lays189)
theorem ms_f62:Meets Tryz.prog 62 (strip sp_f62):=
 meets_compactI (by decide) (Any.slices_Compact_int Tryz.lays2_20) (Any.slices_Compact_int_empty Tryz.lays2_20)
end Go.Proofs.YtmokmalepelinaaGreatDoor.K
namespace Go.Proofs.YtmokmalepelinaaGreatDoor.K
open Go.RowKit
def paR:List AR:=[
 {f:=63 },
 {f:=119 },
 {f:=116 },
 {f:=67,w:=[(1,.ad [(50001,49001)])],pl:=[(14,[(0,[50000]),(1,[50000]),(2,[50000]),(3,[50000]),(4,[50000]),(5,[50000]),(6,[50000]),(7,[50000])],(.of [0,1,2,3,4,5,6,7,8,9,10,11])),(30,[(0,[50000]),(1,[50000]),(2,[50000]),(3,[50000]),(4,[50000]),(5,[50000]),(6,[50000]),(7,[50000])],(.of [0,1,2,3,4,5,6,7,8,9,10,11]))] },
 {f:=64,w:=[(1,.ad [(50001,49001)])] },
 {f:=219 },
 {f:=117 },
 {f:=65,w:=[(1,.ad [(50001,49001)])] },
 {f:=113,pl:=[(108,[],(.of [0,1,2,3,4,5,6,7,8,9,10,11]))] },
 {f:=59 },
 {f:=66,w:=[(1,.ad [(50001,49001)])],pl:=[(62,[(0,[50000]),(1,[50000]),(2,[50000]),(3,[50000]),(4,[49001,50000]),(5,[50000]),(6,[50000]),(7,[50000]),(8,[50000]),(15,[40,5040,10040,15040,49001,50000]),(16,[50000]),(17,[50000]),(18,[49001,50000])],(.of [0,1,2,3,4,5,6,7,8,9,10,11,12,13,14,15,16,17,18]))] },
 {f:=69,w:=[(1,.ad [(50001,49001)])] },
 {f:=121,w:=[(1,.ad [(50002,49002)]),(3378,.ad [(16,40064)])] },
 {f:=68,w:=[(1,.ad [(50002,49002)])] },
 {f:=20,own:=[28],w:=[(252,.nf 21 3 151 20001)],pl:=[(2016,[(0,[21]),(1,[21]),(2,[21]),(3,[21]),(4,[21]),(5,[21]),(6,[21]),(7,[21])],(.of [0,1,2,3,4,5,6,7,8,9]))] }]
def paB:List (Nat×Ent):=[(77,sp_f77),(78,sp_f78),(118,sp_f118),(120,sp_f120),(208,sp_f208),(218,sp_f218),((bCode 0 9 39),sp_op_convert_9_39)]
theorem paB_ok:AllE paB:=gC en_f77 ms_f77<|gC en_f78 ms_f78<|gC en_f118 ms_f118<|gC en_f120 ms_f120<|gC en_f208 ms_f208<|gC en_f218 ms_f218<|gC en_op_convert_9_39 ms_op_convert_9_39 gN
theorem paR_ok:paR.all (auChk Tryz.prog)=true:=by kernel_rfl
noncomputable def paE:List (Nat×Ent):=auL Tryz.prog TYs paR paB
theorem paE_ok: ∀ p∈paE,Entered Tryz.prog p.1/\Meets Tryz.prog p.1 (strip p.2):=auA mixed paR_ok (gA paB_ok)
def paS:Setting:=(ByteArray.mk #[119,101,98],(ByteArray.mk #[115,117,105,116,101,115],(ByteArray.mk #[114,99,52],(2,()))))
end Go.Proofs.YtmokmalepelinaaGreatDoor.K
namespace Go.Proofs.YtmokmalepelinaaGreatDoor.K
open Go.RowKit
attribute [local go_sem ↓] Go.wp_at_zero Go.wp_at_succ
noncomputable section
abbrev mapW (w:World)(b:Nat)(o:Obj):World:={w with heap:=w.heap.setIfInBounds b o}
theorem mapW_get {w:World}{b:Nat}{o:Obj}(h:b<w.heap.size):(mapW w b o).heap[b]? = some o:=by simp [mapW,h]
theorem mapW_below {w:World}{b:Nat}{o:Obj}:Below b w (mapW w b o):=⟨rfl,rfl,rfl,by simp [mapW],fun k hk=>by
 have:b≠k:=by omega
 simp [mapW,Array.getElem?_setIfInBounds_ne this]⟩
theorem kcheckS (w:World)(s:ByteArray)(em:Bool):(Instr.checkKey em 10000 9 (.string s)).run Tryz.prog w= .ok () w:=by
 kernel_rfl
theorem ins_run {w:World}{bm clk:Nat}{es:Array MapEntry}{s:ByteArray}{v:Value}(hb:w.heap[bm]? = some (.map es clk))(hf:Instr.findNow .string (.string s) es.toList 0=some none):
  (Instr.mapUpdate 154 (.map (some bm)) (.string s) v).run Tryz.prog w= .ok () (mapW w bm (.map (es.push {key:= .string s,val:=v,born:=clk }) (clk+1))):=by
 have hg:(getObj bm).run Tryz.prog w= .ok (.map es clk) w:=by simp [getObj,Sem.run,hb]
 have hs: ∀ o,(setObj bm o).run Tryz.prog w= .ok () (mapW w bm o):=fun o=>by simp [setObj,Sem.run,hb]
 have hc:=kcheckS w s false
 have hk:(Instr.findKey 9 (.string s) es.toList).run Tryz.prog w= .ok none w:=by
  simp [Instr.findKey,run_underlying Tryz.underlying9,hf]
 simp [Instr.mapUpdate,run_underlying Tryz.underlying154,hg,hc,hk,hs]
theorem look_run {w:World}{bm clk:Nat}{es:Array MapEntry}{s:ByteArray}{j:Nat}{v:Value}(hb:w.heap[bm]? = some (.map es clk))(hf:Instr.findNow .string (.string s) es.toList 0=some (some (j,v))):
  (Instr.lookup 154 (.map (some bm)) (.string s) false).run Tryz.prog w= .ok v w:=by
 have hg:(getObj bm).run Tryz.prog w= .ok (.map es clk) w:=by simp [getObj,Sem.run,hb]
 have hc:=kcheckS w s es.isEmpty
 have hk:(Instr.findKey 9 (.string s) es.toList).run Tryz.prog w= .ok (some (j,v)) w:=by
  simp [Instr.findKey,run_underlying Tryz.underlying9,hf]
 simp [Instr.lookup,run_underlying Tryz.underlying154,hg,hc,hk]
theorem mk_run (w:World):(Instr.makeMap 154 none).run Tryz.prog w= .ok (.map (some w.heap.size)) (w.alloc (.map #[] 0)):=by
 simp [Instr.makeMap]
set_option maxHeartbeats 4000000 in
theorem words_any (d:Nat)(w:World):Calls Tryz.prog 72 #[.pointer (some ⟨d,0,none⟩)] w fun e w'=> ∃ bm es clk,e= .returned (.map (some bm))/\w.heap.size<=bm/\w'.heap[bm]? = some (.map es clk)∧
  Instr.findNow .string (.string (ByteArray.mk #[115,117,105,116,101,115])) es.toList 0=some (some (2,.func (.func 127) #[.pointer (some ⟨d,0,none⟩)] #[]))/\Below w.heap.size w w':=by
 obtain ⟨bb,hbb⟩: ∃ bb,bb=w.heap.size:=⟨_,rfl⟩
 obtain ⟨W0,hW0⟩: ∃ W0,W0=w.alloc (.cells #[.pointer (some ⟨d,0,none⟩)] 152):=⟨_,rfl⟩
 have hk0:Go.Proofs.YtmokmalepelinaaGreatDoor.Blk W0 bb 152 #[.pointer (some ⟨d,0,none⟩)]:=by rw [hW0,hbb];exact Go.Proofs.YtmokmalepelinaaGreatDoor.Blk.new w _ _
 have hl0:Below w.heap.size w W0:=by rw [hW0];exact (Below.refl _ _).alloc (Nat.le_refl _) _
 obtain ⟨bm,hbm⟩: ∃ bm,bm=W0.heap.size:=⟨_,rfl⟩
 have hlt:bb<bm:=by rw [hbm];exact hk0.lt
 have hle:w.heap.size<=bm:=by rw [←hbb];exact Nat.le_of_lt hlt
 obtain ⟨W1,hW1⟩: ∃ W1,W1=W0.alloc (.map #[] 0):=⟨_,rfl⟩
 have mk:(Instr.makeMap 154 none).run Tryz.prog W0= .ok (.map (some bm)) W1:=by rw [hW1,hbm];exact mk_run W0
 have hk1:Go.Proofs.YtmokmalepelinaaGreatDoor.Blk W1 bb 152 #[.pointer (some ⟨d,0,none⟩)]:=by rw [hW1];exact hk0.alloc _
 have hl1:Below w.heap.size w W1:=by rw [hW1];exact hl0.alloc hl0.size _
 have hb1:W1.heap[bm]? = some (.map #[] 0):=by rw [hW1,hbm];exact heap_alloc_new W0 _
 obtain ⟨W2,hW2⟩: ∃ W,W=mapW W1 bm (.map #[{key:= .string (ByteArray.mk #[108,101,97,115,116]),val:=(.func (.func 124) #[] #[.pointer (some ⟨bb,0,none⟩)]),born:=0 }] 1):=⟨_,rfl⟩
 have q1:(Instr.mapUpdate 154 (.map (some bm)) (.string (ByteArray.mk #[108,101,97,115,116])) (.func (.func 124) #[] #[.pointer (some ⟨bb,0,none⟩)])).run Tryz.prog W1= .ok () W2:=by rw [hW2];exact ins_run hb1 (by kernel_rfl)
 have hk2:Go.Proofs.YtmokmalepelinaaGreatDoor.Blk W2 bb 152 #[.pointer (some ⟨d,0,none⟩)]:=by rw [hW2];exact hk1.below mapW_below hlt
 have hl2:Below w.heap.size w W2:=by rw [hW2];exact hl1.trans (mapW_below.mono hle)
 have hb2:W2.heap[bm]? = some (.map #[{key:= .string (ByteArray.mk #[108,101,97,115,116]),val:=(.func (.func 124) #[] #[.pointer (some ⟨bb,0,none⟩)]),born:=0 }] 1):=by rw [hW2];exact mapW_get (Array.getElem?_eq_some_iff.1 hb1).1
 obtain ⟨W3,hW3⟩: ∃ W,W=mapW W2 bm (.map #[{key:= .string (ByteArray.mk #[108,101,97,115,116]),val:=(.func (.func 124) #[] #[.pointer (some ⟨bb,0,none⟩)]),born:=0 },{key:= .string (ByteArray.mk #[109,111,115,116]),val:=(.func (.func 126) #[] #[.pointer (some ⟨bb,0,none⟩)]),born:=1 }] 2):=⟨_,rfl⟩
 have q2:(Instr.mapUpdate 154 (.map (some bm)) (.string (ByteArray.mk #[109,111,115,116])) (.func (.func 126) #[] #[.pointer (some ⟨bb,0,none⟩)])).run Tryz.prog W2= .ok () W3:=by rw [hW3];exact ins_run hb2 (by kernel_rfl)
 have hk3:Go.Proofs.YtmokmalepelinaaGreatDoor.Blk W3 bb 152 #[.pointer (some ⟨d,0,none⟩)]:=by rw [hW3];exact hk2.below mapW_below hlt
 have hl3:Below w.heap.size w W3:=by rw [hW3];exact hl2.trans (mapW_below.mono hle)
 have hb3:W3.heap[bm]? = some (.map #[{key:= .string (ByteArray.mk #[108,101,97,115,116]),val:=(.func (.func 124) #[] #[.pointer (some ⟨bb,0,none⟩)]),born:=0 },{key:= .string (ByteArray.mk #[109,111,115,116]),val:=(.func (.func 126) #[] #[.pointer (some ⟨bb,0,none⟩)]),born:=1 }] 2):=by rw [hW3];exact mapW_get (Array.getElem?_eq_some_iff.1 hb2).1
 obtain ⟨W4,hW4⟩: ∃ W,W=mapW W3 bm (.map #[{key:= .string (ByteArray.mk #[108,101,97,115,116]),val:=(.func (.func 124) #[] #[.pointer (some ⟨bb,0,none⟩)]),born:=0 },{key:= .string (ByteArray.mk #[109,111,115,116]),val:=(.func (.func 126) #[] #[.pointer (some ⟨bb,0,none⟩)]),born:=1 },{key:= .string (ByteArray.mk #[115,117,105,116,101,115]),val:=(.func (.func 127) #[.pointer (some ⟨d,0,none⟩)] #[]),born:=2 }] 3):=⟨_,rfl⟩
 have q3:(Instr.mapUpdate 154 (.map (some bm)) (.string (ByteArray.mk #[115,117,105,116,101,115])) (.func (.func 127) #[.pointer (some ⟨d,0,none⟩)] #[])).run Tryz.prog W3= .ok () W4:=by rw [hW4];exact ins_run hb3 (by kernel_rfl)
 have hk4:Go.Proofs.YtmokmalepelinaaGreatDoor.Blk W4 bb 152 #[.pointer (some ⟨d,0,none⟩)]:=by rw [hW4];exact hk3.below mapW_below hlt
 have hl4:Below w.heap.size w W4:=by rw [hW4];exact hl3.trans (mapW_below.mono hle)
 have hb4:W4.heap[bm]? = some (.map #[{key:= .string (ByteArray.mk #[108,101,97,115,116]),val:=(.func (.func 124) #[] #[.pointer (some ⟨bb,0,none⟩)]),born:=0 },{key:= .string (ByteArray.mk #[109,111,115,116]),val:=(.func (.func 126) #[] #[.pointer (some ⟨bb,0,none⟩)]),born:=1 },{key:= .string (ByteArray.mk #[115,117,105,116,101,115]),val:=(.func (.func 127) #[.pointer (some ⟨d,0,none⟩)] #[]),born:=2 }] 3):=by rw [hW4];exact mapW_get (Array.getElem?_eq_some_iff.1 hb3).1
 obtain ⟨W5,hW5⟩: ∃ W,W=mapW W4 bm (.map #[{key:= .string (ByteArray.mk #[108,101,97,115,116]),val:=(.func (.func 124) #[] #[.pointer (some ⟨bb,0,none⟩)]),born:=0 },{key:= .string (ByteArray.mk #[109,111,115,116]),val:=(.func (.func 126) #[] #[.pointer (some ⟨bb,0,none⟩)]),born:=1 },{key:= .string (ByteArray.mk #[115,117,105,116,101,115]),val:=(.func (.func 127) #[.pointer (some ⟨d,0,none⟩)] #[]),born:=2 },{key:= .string (ByteArray.mk #[111,114,100,101,114]),val:=(.func (.func 128) #[] #[.pointer (some ⟨bb,0,none⟩)]),born:=3 }] 4):=⟨_,rfl⟩
 have q4:(Instr.mapUpdate 154 (.map (some bm)) (.string (ByteArray.mk #[111,114,100,101,114])) (.func (.func 128) #[] #[.pointer (some ⟨bb,0,none⟩)])).run Tryz.prog W4= .ok () W5:=by rw [hW5];exact ins_run hb4 (by kernel_rfl)
 have hk5:Go.Proofs.YtmokmalepelinaaGreatDoor.Blk W5 bb 152 #[.pointer (some ⟨d,0,none⟩)]:=by rw [hW5];exact hk4.below mapW_below hlt
 have hl5:Below w.heap.size w W5:=by rw [hW5];exact hl4.trans (mapW_below.mono hle)
 have hb5:W5.heap[bm]? = some (.map #[{key:= .string (ByteArray.mk #[108,101,97,115,116]),val:=(.func (.func 124) #[] #[.pointer (some ⟨bb,0,none⟩)]),born:=0 },{key:= .string (ByteArray.mk #[109,111,115,116]),val:=(.func (.func 126) #[] #[.pointer (some ⟨bb,0,none⟩)]),born:=1 },{key:= .string (ByteArray.mk #[115,117,105,116,101,115]),val:=(.func (.func 127) #[.pointer (some ⟨d,0,none⟩)] #[]),born:=2 },{key:= .string (ByteArray.mk #[111,114,100,101,114]),val:=(.func (.func 128) #[] #[.pointer (some ⟨bb,0,none⟩)]),born:=3 }] 4):=by rw [hW5];exact mapW_get (Array.getElem?_eq_some_iff.1 hb4).1
 obtain ⟨W6,hW6⟩: ∃ W,W=mapW W5 bm (.map #[{key:= .string (ByteArray.mk #[108,101,97,115,116]),val:=(.func (.func 124) #[] #[.pointer (some ⟨bb,0,none⟩)]),born:=0 },{key:= .string (ByteArray.mk #[109,111,115,116]),val:=(.func (.func 126) #[] #[.pointer (some ⟨bb,0,none⟩)]),born:=1 },{key:= .string (ByteArray.mk #[115,117,105,116,101,115]),val:=(.func (.func 127) #[.pointer (some ⟨d,0,none⟩)] #[]),born:=2 },{key:= .string (ByteArray.mk #[111,114,100,101,114]),val:=(.func (.func 128) #[] #[.pointer (some ⟨bb,0,none⟩)]),born:=3 },{key:= .string (ByteArray.mk #[107,101,121,115]),val:=(.func (.func 130) #[.pointer (some ⟨d,0,none⟩)] #[]),born:=4 }] 5):=⟨_,rfl⟩
 have q5:(Instr.mapUpdate 154 (.map (some bm)) (.string (ByteArray.mk #[107,101,121,115])) (.func (.func 130) #[.pointer (some ⟨d,0,none⟩)] #[])).run Tryz.prog W5= .ok () W6:=by rw [hW6];exact ins_run hb5 (by kernel_rfl)
 have hk6:Go.Proofs.YtmokmalepelinaaGreatDoor.Blk W6 bb 152 #[.pointer (some ⟨d,0,none⟩)]:=by rw [hW6];exact hk5.below mapW_below hlt
 have hl6:Below w.heap.size w W6:=by rw [hW6];exact hl5.trans (mapW_below.mono hle)
 have hb6:W6.heap[bm]? = some (.map #[{key:= .string (ByteArray.mk #[108,101,97,115,116]),val:=(.func (.func 124) #[] #[.pointer (some ⟨bb,0,none⟩)]),born:=0 },{key:= .string (ByteArray.mk #[109,111,115,116]),val:=(.func (.func 126) #[] #[.pointer (some ⟨bb,0,none⟩)]),born:=1 },{key:= .string (ByteArray.mk #[115,117,105,116,101,115]),val:=(.func (.func 127) #[.pointer (some ⟨d,0,none⟩)] #[]),born:=2 },{key:= .string (ByteArray.mk #[111,114,100,101,114]),val:=(.func (.func 128) #[] #[.pointer (some ⟨bb,0,none⟩)]),born:=3 },{key:= .string (ByteArray.mk #[107,101,121,115]),val:=(.func (.func 130) #[.pointer (some ⟨d,0,none⟩)] #[]),born:=4 }] 5):=by rw [hW6];exact mapW_get (Array.getElem?_eq_some_iff.1 hb5).1
 obtain ⟨W7,hW7⟩: ∃ W,W=mapW W6 bm (.map #[{key:= .string (ByteArray.mk #[108,101,97,115,116]),val:=(.func (.func 124) #[] #[.pointer (some ⟨bb,0,none⟩)]),born:=0 },{key:= .string (ByteArray.mk #[109,111,115,116]),val:=(.func (.func 126) #[] #[.pointer (some ⟨bb,0,none⟩)]),born:=1 },{key:= .string (ByteArray.mk #[115,117,105,116,101,115]),val:=(.func (.func 127) #[.pointer (some ⟨d,0,none⟩)] #[]),born:=2 },{key:= .string (ByteArray.mk #[111,114,100,101,114]),val:=(.func (.func 128) #[] #[.pointer (some ⟨bb,0,none⟩)]),born:=3 },{key:= .string (ByteArray.mk #[107,101,121,115]),val:=(.func (.func 130) #[.pointer (some ⟨d,0,none⟩)] #[]),born:=4 },{key:= .string (ByteArray.mk #[97,110,99,104,111,114,115]),val:=(.func (.func 131) #[] #[.pointer (some ⟨bb,0,none⟩)]),born:=5 }] 6):=⟨_,rfl⟩
 have q6:(Instr.mapUpdate 154 (.map (some bm)) (.string (ByteArray.mk #[97,110,99,104,111,114,115])) (.func (.func 131) #[] #[.pointer (some ⟨bb,0,none⟩)])).run Tryz.prog W6= .ok () W7:=by rw [hW7];exact ins_run hb6 (by kernel_rfl)
 have hk7:Go.Proofs.YtmokmalepelinaaGreatDoor.Blk W7 bb 152 #[.pointer (some ⟨d,0,none⟩)]:=by rw [hW7];exact hk6.below mapW_below hlt
 have hl7:Below w.heap.size w W7:=by rw [hW7];exact hl6.trans (mapW_below.mono hle)
 have hb7:W7.heap[bm]? = some (.map #[{key:= .string (ByteArray.mk #[108,101,97,115,116]),val:=(.func (.func 124) #[] #[.pointer (some ⟨bb,0,none⟩)]),born:=0 },{key:= .string (ByteArray.mk #[109,111,115,116]),val:=(.func (.func 126) #[] #[.pointer (some ⟨bb,0,none⟩)]),born:=1 },{key:= .string (ByteArray.mk #[115,117,105,116,101,115]),val:=(.func (.func 127) #[.pointer (some ⟨d,0,none⟩)] #[]),born:=2 },{key:= .string (ByteArray.mk #[111,114,100,101,114]),val:=(.func (.func 128) #[] #[.pointer (some ⟨bb,0,none⟩)]),born:=3 },{key:= .string (ByteArray.mk #[107,101,121,115]),val:=(.func (.func 130) #[.pointer (some ⟨d,0,none⟩)] #[]),born:=4 },{key:= .string (ByteArray.mk #[97,110,99,104,111,114,115]),val:=(.func (.func 131) #[] #[.pointer (some ⟨bb,0,none⟩)]),born:=5 }] 6):=by rw [hW7];exact mapW_get (Array.getElem?_eq_some_iff.1 hb6).1
 obtain ⟨W8,hW8⟩: ∃ W,W=mapW W7 bm (.map #[{key:= .string (ByteArray.mk #[108,101,97,115,116]),val:=(.func (.func 124) #[] #[.pointer (some ⟨bb,0,none⟩)]),born:=0 },{key:= .string (ByteArray.mk #[109,111,115,116]),val:=(.func (.func 126) #[] #[.pointer (some ⟨bb,0,none⟩)]),born:=1 },{key:= .string (ByteArray.mk #[115,117,105,116,101,115]),val:=(.func (.func 127) #[.pointer (some ⟨d,0,none⟩)] #[]),born:=2 },{key:= .string (ByteArray.mk #[111,114,100,101,114]),val:=(.func (.func 128) #[] #[.pointer (some ⟨bb,0,none⟩)]),born:=3 },{key:= .string (ByteArray.mk #[107,101,121,115]),val:=(.func (.func 130) #[.pointer (some ⟨d,0,none⟩)] #[]),born:=4 },{key:= .string (ByteArray.mk #[97,110,99,104,111,114,115]),val:=(.func (.func 131) #[] #[.pointer (some ⟨bb,0,none⟩)]),born:=5 },{key:= .string (ByteArray.mk #[104,97,115,104,101,115]),val:=(.func (.func 134) #[] #[.pointer (some ⟨bb,0,none⟩)]),born:=6 }] 7):=⟨_,rfl⟩
 have q7:(Instr.mapUpdate 154 (.map (some bm)) (.string (ByteArray.mk #[104,97,115,104,101,115])) (.func (.func 134) #[] #[.pointer (some ⟨bb,0,none⟩)])).run Tryz.prog W7= .ok () W8:=by rw [hW8];exact ins_run hb7 (by kernel_rfl)
 have hk8:Go.Proofs.YtmokmalepelinaaGreatDoor.Blk W8 bb 152 #[.pointer (some ⟨d,0,none⟩)]:=by rw [hW8];exact hk7.below mapW_below hlt
 have hl8:Below w.heap.size w W8:=by rw [hW8];exact hl7.trans (mapW_below.mono hle)
 have hb8:W8.heap[bm]? = some (.map #[{key:= .string (ByteArray.mk #[108,101,97,115,116]),val:=(.func (.func 124) #[] #[.pointer (some ⟨bb,0,none⟩)]),born:=0 },{key:= .string (ByteArray.mk #[109,111,115,116]),val:=(.func (.func 126) #[] #[.pointer (some ⟨bb,0,none⟩)]),born:=1 },{key:= .string (ByteArray.mk #[115,117,105,116,101,115]),val:=(.func (.func 127) #[.pointer (some ⟨d,0,none⟩)] #[]),born:=2 },{key:= .string (ByteArray.mk #[111,114,100,101,114]),val:=(.func (.func 128) #[] #[.pointer (some ⟨bb,0,none⟩)]),born:=3 },{key:= .string (ByteArray.mk #[107,101,121,115]),val:=(.func (.func 130) #[.pointer (some ⟨d,0,none⟩)] #[]),born:=4 },{key:= .string (ByteArray.mk #[97,110,99,104,111,114,115]),val:=(.func (.func 131) #[] #[.pointer (some ⟨bb,0,none⟩)]),born:=5 },{key:= .string (ByteArray.mk #[104,97,115,104,101,115]),val:=(.func (.func 134) #[] #[.pointer (some ⟨bb,0,none⟩)]),born:=6 }] 7):=by rw [hW8];exact mapW_get (Array.getElem?_eq_some_iff.1 hb7).1
 obtain ⟨W9,hW9⟩: ∃ W,W=mapW W8 bm (.map #[{key:= .string (ByteArray.mk #[108,101,97,115,116]),val:=(.func (.func 124) #[] #[.pointer (some ⟨bb,0,none⟩)]),born:=0 },{key:= .string (ByteArray.mk #[109,111,115,116]),val:=(.func (.func 126) #[] #[.pointer (some ⟨bb,0,none⟩)]),born:=1 },{key:= .string (ByteArray.mk #[115,117,105,116,101,115]),val:=(.func (.func 127) #[.pointer (some ⟨d,0,none⟩)] #[]),born:=2 },{key:= .string (ByteArray.mk #[111,114,100,101,114]),val:=(.func (.func 128) #[] #[.pointer (some ⟨bb,0,none⟩)]),born:=3 },{key:= .string (ByteArray.mk #[107,101,121,115]),val:=(.func (.func 130) #[.pointer (some ⟨d,0,none⟩)] #[]),born:=4 },{key:= .string (ByteArray.mk #[97,110,99,104,111,114,115]),val:=(.func (.func 131) #[] #[.pointer (some ⟨bb,0,none⟩)]),born:=5 },{key:= .string (ByteArray.mk #[104,97,115,104,101,115]),val:=(.func (.func 134) #[] #[.pointer (some ⟨bb,0,none⟩)]),born:=6 },{key:= .string (ByteArray.mk #[102,97,108,108,98,97,99,107]),val:=(.func (.func 136) #[] #[.pointer (some ⟨bb,0,none⟩)]),born:=7 }] 8):=⟨_,rfl⟩
 have q8:(Instr.mapUpdate 154 (.map (some bm)) (.string (ByteArray.mk #[102,97,108,108,98,97,99,107])) (.func (.func 136) #[] #[.pointer (some ⟨bb,0,none⟩)])).run Tryz.prog W8= .ok () W9:=by rw [hW9];exact ins_run hb8 (by kernel_rfl)
 have hk9:Go.Proofs.YtmokmalepelinaaGreatDoor.Blk W9 bb 152 #[.pointer (some ⟨d,0,none⟩)]:=by rw [hW9];exact hk8.below mapW_below hlt
 have hl9:Below w.heap.size w W9:=by rw [hW9];exact hl8.trans (mapW_below.mono hle)
 have hb9:W9.heap[bm]? = some (.map #[{key:= .string (ByteArray.mk #[108,101,97,115,116]),val:=(.func (.func 124) #[] #[.pointer (some ⟨bb,0,none⟩)]),born:=0 },{key:= .string (ByteArray.mk #[109,111,115,116]),val:=(.func (.func 126) #[] #[.pointer (some ⟨bb,0,none⟩)]),born:=1 },{key:= .string (ByteArray.mk #[115,117,105,116,101,115]),val:=(.func (.func 127) #[.pointer (some ⟨d,0,none⟩)] #[]),born:=2 },{key:= .string (ByteArray.mk #[111,114,100,101,114]),val:=(.func (.func 128) #[] #[.pointer (some ⟨bb,0,none⟩)]),born:=3 },{key:= .string (ByteArray.mk #[107,101,121,115]),val:=(.func (.func 130) #[.pointer (some ⟨d,0,none⟩)] #[]),born:=4 },{key:= .string (ByteArray.mk #[97,110,99,104,111,114,115]),val:=(.func (.func 131) #[] #[.pointer (some ⟨bb,0,none⟩)]),born:=5 },{key:= .string (ByteArray.mk #[104,97,115,104,101,115]),val:=(.func (.func 134) #[] #[.pointer (some ⟨bb,0,none⟩)]),born:=6 },{key:= .string (ByteArray.mk #[102,97,108,108,98,97,99,107]),val:=(.func (.func 136) #[] #[.pointer (some ⟨bb,0,none⟩)]),born:=7 }] 8):=by rw [hW9];exact mapW_get (Array.getElem?_eq_some_iff.1 hb8).1
 have z3:=hk3.cell 0
 have z5:=hk5.cell 0
 simp only [List.getElem?_toArray,List.getElem?_cons_zero] at z3 z5
 have HB:=Lib.hid hb9
 have HL:=Lib.hid hl9
 have HLE:=Lib.hid hle
 clear hW1 hk1 hl1 hb1 hW2 hk2 hl2 hb2 hW3 hk3 hl3 hb3 hW4 hk4 hl4 hb4 hW5 hk5 hl5 hb5 hW6 hk6 hl6 hb6 hW7 hk7 hl7 hb7 hW8 hk8 hl8 hb8 hW9 hk9 hl9 hb9 hk0 hl0 hlt hle hbm
 go_enter Tryz.func72,Tryz.ntmps72
 go_wp2_with fail
 rw [←hbb, ← hW0,mk]
 clear hbb hW0 mk
 go_wp2_with fail
 go_ret
 exact ⟨bm,_,_,rfl,HLE.out,HB.out,by kernel_rfl,HL.out⟩
end
end Go.Proofs.YtmokmalepelinaaGreatDoor.K
namespace Go.Proofs.YtmokmalepelinaaGreatDoor.K
open Go.RowKit
def duR:List AR:=[
 {f:=219 },
 {f:=117 },
 {f:=122 },
 {f:=70 },
 {f:=185 },
 {f:=187 },
 {f:=99,keep:=[103,187] },
 {f:=277 },
 {f:=60 },
 {f:=302 },
 {f:=301 },
 {f:=278 },
 {f:=103,keep:=[187] },
 {f:=226,keep:=[103] },
 {f:=123 },
 {f:=71 },
 {f:=138 },
 {f:=75 },
 {f:=281,keep:=[103],w:=[(1,.ad [(50001,49001),(50002,49002)])] },
 {f:=228,w:=[(250,.nf 19 0 3 20501),(250,.nf 19 1 3 20502)] },
 {f:=127 },
 {f:=76,pl:=[(12,[(0,[50000]),(1,[50000]),(2,[50000]),(3,[50000]),(4,[50000]),(5,[50000]),(6,[50000]),(7,[50000]),(8,[50000]),(9,[50000])],(.of [0,1,2,3,4,5,6,7,8,9,10]))] },
 {f:=137 },
 {f:=74 }]
def duB:List (Nat×Ent):=[(77,sp_f77),(78,sp_f78),(225,sp_f225),(114,sp_f114),(272,sp_f272),((bCode 2 201 0),sp_op_index_201),((bCode 0 9 39),sp_op_convert_9_39)]
theorem duB_ok:AllE duB:=gC en_f77 ms_f77<|gC en_f78 ms_f78<|gC en_f225 ms_f225<|gC en_f114 ms_f114<|gC en_f272 ms_f272<|gC en_op_index_201 ms_op_index_201<|gC en_op_convert_9_39 ms_op_convert_9_39 gN
theorem duR_ok:duR.all (auChk Tryz.prog)=true:=by kernel_rfl
noncomputable def duE:List (Nat×Ent):=auL Tryz.prog TYs duR duB
theorem duE_ok: ∀ p∈duE,Entered Tryz.prog p.1/\Meets Tryz.prog p.1 (strip p.2):=auA mixed duR_ok (gA duB_ok)
def duA:List Int:=[1,2,3,4,5,6,7,8,9,10,11,12,13,14,15,16]
def duD (l:List Int):VO:= .box (.ag [.t .str (ByteArray.mk #[119,101,98]),.t tI 1,.t tI 4,.t (.sl tI) l,.t .bool false,.c (.slice none 0 0),.c (.slice none 0 0),.c (.slice none 0 0),.t .bool false,.c (.slice none 0 0)])
theorem du_early:EL duE 70 [.t .str (ByteArray.mk #[119,101,98]),.c (.slice none 0 0)] []=some (true,.t tI 0,[]):=by kernel_rfl
theorem du_begin:EL duE 71 [.t .str (ByteArray.mk #[119,101,98]),.c (.slice none 0 0)] []=some (true,.ptr 50000 0,[duD duA]):=by kernel_rfl
theorem du_values:EL duE 75 [.t tySetting paS] []=some (true,.t (.sl .str) [(ByteArray.mk #[114,99,52])],[]):=by kernel_rfl
theorem du_list:EL duE 127 [.ptr 50000 0,.t (.sl .str) [(ByteArray.mk #[114,99,52])]] [duD duA]=some (true,.t .bool true,[duD [1,2]]):=by kernel_rfl
theorem du_finish:EL duE 76 [.ptr 50000 0] [duD [1,2]]=some (true,.tu [.t tyEndpoint feEp,.t tI 0,.t tI 0],[duD [1,2]]):=by kernel_rfl
theorem du_again (fv:Value):EL duE 74 [.t (.sl tySetting) [],.c fv] []=some (true,.t .bool false,[]):=by kernel_rfl
end Go.Proofs.YtmokmalepelinaaGreatDoor.K
namespace Go.Proofs.YtmokmalepelinaaGreatDoor.K
open Go.RowKit Go.Region
attribute [local go_sem ↓] Go.wp_at_zero Go.wp_at_succ
noncomputable section
theorem du_call {f:FuncId}{args:List V}{objs os:List VO}{r:V}{us:List Value}(hE:EL duE f args objs=some (true,r,os)){X:Nat->Nat->Prop}{w:World}{σ:Pl}(hfin:Fin2 X w)(hl:Lent X w σ objs)(hc:Cs X w σ (V.ds args) us)(hlt:f<1000000:=by decide):
  Calls Tryz.prog f us.toArray w fun en w'=> ∃ u X' σ',en= .returned u/\C X' w' σ' r.d u/\Ends X w σ objs.length X' w' σ' os:=by
 obtain ⟨F,hm,hF⟩:=EL_mem hE
 exact of_does hlt ((duE_ok _ hm).2 _ _ _ _ (by unfold strip;simp only [hF]) X w σ us hfin hl hc)
theorem fin2_below {X:Nat->Nat->Prop}{w w':World}(h:Fin2 X w)(hb:Below w.heap.size w w'):Fin2 X w':=
 ⟨fun b q hx=>Nat.lt_of_lt_of_le (h.fin b q hx) hb.size,h.tab.ext ⟨hb.size,fun b o hb' hx=>⟨hx,World.cell?_of_block (hb.block b hb')⟩⟩⟩
theorem back0 {X X':Nat->Nat->Prop}{w w':World}(hfin:Fin2 X w)(old: ∀ b q,b<w.heap.size->X b q->X' b q):Ext0 X' w' X w':=
 ⟨Nat.le_refl _,fun b o _ hx=>⟨fun h=>hx (old b o (hfin.fin b o h) h),rfl⟩⟩
theorem du_typed {f:FuncId}{args:List V}{r:V}{us:List Value}(hE:EL duE f args []=some (true,r,[]))(hr:r.d.refs=[]){X:Nat->Nat->Prop}{w:World}(hfin:Fin2 X w)(hc:Cs X w nowhere (V.ds args) us)(hlt:f<1000000:=by decide):
  Calls Tryz.prog f us.toArray w fun en w'=> ∃ u,en= .returned u/\C X w' nowhere r.d u/\Below w.heap.size w w':=by
 refine (du_call hE hfin lentN0 hc hlt).mono ?_
 rintro en w' ⟨u,X',σ',rfl,h1,h2⟩
 exact ⟨u,rfl,C.ext0 (back0 hfin fun b q hb hx=>h2.old b q hb (fun i hi=>by simp at hi) hx) _ _ (by rw [hr];simp) h1,endsB0 h2⟩
theorem du_box {f:FuncId}{args:List V}{v v' r:V}{us:List Value}(hE:EL duE f args [.box v]=some (true,r,[.box v']))(hr:r.d.refs=[])(hv:v'.refs=[]){X:Nat->Nat->Prop}{w:World}{σ:Pl}{d:Nat}(hfin:Fin2 X w)(hσ:σ 50000= .box d)(hO:OAt X w σ 50000 (.box v))(hc:Cs X w σ (V.ds args) us)(hlt:f<1000000:=by decide):
  Calls Tryz.prog f us.toArray w fun en w'=> ∃ u,en= .returned u/\C X w' nowhere r.d u/\OAt X w' σ 50000 (.box v')/\Fr [d] w w':=by
 have hl:Lent X w σ [.box v]:=⟨fun j o hj=>by
  match j with
  |0=>
   simp only [List.getElem?_cons_zero,Option.some.injEq] at hj
   subst hj
   exact ⟨hO,by simp⟩
  |j+1=>simp at hj,fun i j b hij hi hj=>by simp at hi hj;omega⟩
 refine (du_call hE hfin hl hc hlt).mono ?_
 rintro en w' ⟨u,X',σ',rfl,h1,h2⟩
 have old: ∀ b q,b<w.heap.size->X b q->X' b q:=fun b q hb hx=>h2.old b q hb (fun i hi he=>by
  have:i=0:=by simp at hi;omega
  subst this
  simp at he) hx
 have hd:d<w.heap.size:=by
  obtain ⟨b,ty,vs,e1,e2,_⟩:=hO
  rw [hσ] at e1
  injection e1 with e1
  subst e1
  exact (Array.getElem?_eq_some_iff.1 e2).1
 have hs:σ' 50000=σ 50000:=h2.same 0 (by simp)
 refine ⟨u,rfl,C.ext0 (back0 hfin old) _ _ (by rw [hr];simp) h1,((h2.at_ 0 _ rfl).1).ext0 (back0 hfin old) hs.symm (by rw [show (VO.box v').refs=v'.refs from rfl,hv];simp) (fun b hb=>⟨rfl,fun q hq=>h2.sub b q ?_ hq⟩), ?_⟩
 ·rw [hs,hσ] at hb
  injection hb with hb
  subst hb
  exact hd
 ·have hf:=h2.fr
  have h0:(σ (50000+0)).blk=some d:=by show (σ 50000).blk=_;rw [hσ];rfl
  have e:lentB σ [VO.box v].length=[d]:=by
   show List.filterMap (fun j=>(σ (50000+j)).blk) [0]=[d]
   rw [List.filterMap_cons,h0]
   rfl
  rw [e] at hf
  exact hf
abbrev rc4B:ByteArray:=ByteArray.mk #[114,99,52]
abbrev suitesB:ByteArray:=ByteArray.mk #[115,117,105,116,101,115]
theorem early_calls {X:Nat->Nat->Prop}{w:World}(hfin:Fin2 X w):Calls Tryz.prog 70 #[.string (ByteArray.mk #[119,101,98]),.slice none 0 0] w fun en w'=>en= .returned (.int .i64 0)/\Below w.heap.size w w':=by
 refine (du_typed du_early rfl hfin (us:=[.string (ByteArray.mk #[119,101,98]),.slice none 0 0]) ⟨_,_,rfl,⟨rfl,rfl⟩,_,_,rfl,⟨rfl,rfl⟩,rfl⟩).mono ?_
 rintro en w' ⟨u,rfl,h1,h2⟩
 have h1:C X w' nowhere (.v (.int .i64 0)) u:=h1
 simp only [C] at h1
 obtain ⟨rfl,_⟩:=h1
 exact ⟨rfl,h2⟩
theorem again_calls {X:Nat->Nat->Prop}{w:World}(hfin:Fin2 X w)(A:Option Addr)(c:Nat)(hc:c<=maxLen)(fv:Value)(hv:fv.oneCell'=true):Calls Tryz.prog 74 #[.slice A 0 c,fv] w fun en w'=>en= .returned (.bool false)/\Below w.heap.size w w':=by
 refine (du_typed (du_again fv) rfl hfin (us:=[.slice A 0 c,fv]) ?_).mono ?_
 ·refine ⟨_,_,rfl, ?_,_,_,rfl,⟨rfl,hv⟩,rfl⟩
  show C X w nowhere (.sl 0 []) _
  simp only [C]
  exact ⟨A,c,rfl,Nat.zero_le _,hc,fun _=>trivial,fun h=>absurd h (by simp)⟩
 rintro en w' ⟨u,rfl,h1,h2⟩
 have h1:C X w' nowhere (.v (.bool false)) u:=h1
 simp only [C] at h1
 obtain ⟨rfl,_⟩:=h1
 exact ⟨rfl,h2⟩
abbrev paV:Value:= .agg #[.string (ByteArray.mk #[119,101,98]),.string suitesB,.string rc4B,.int .i64 2]
theorem values_calls {X:Nat->Nat->Prop}{w:World}(hfin:Fin2 X w):Calls Tryz.prog 75 #[paV] w fun en w'=> ∃ u,en= .returned u/\C X w' nowhere (.sl 1 ([rc4B].flatMap Ty.str.cells)) u/\Below w.heap.size w w':=
 du_typed du_values rfl hfin (us:=[paV]) ⟨_,_,rfl,⟨_,rfl,_,_,rfl,⟨rfl,rfl⟩,_,_,rfl,⟨rfl,rfl⟩,_,_,rfl,⟨rfl,rfl⟩,_,_,rfl,⟨rfl,rfl⟩,rfl⟩,rfl⟩
theorem begin_calls {X:Nat->Nat->Prop}{w:World}(hfin:Fin2 X w):Calls Tryz.prog 71 #[.string (ByteArray.mk #[119,101,98]),.slice none 0 0] w fun en w'=> ∃ d X1 σ1,en= .returned (.pointer (some ⟨d,0,none⟩))/\σ1 50000= .box d/\OAt X1 w' σ1 50000 (duD duA)/\Fin2 X1 w'/\w.heap.size<=d/\d<w'.heap.size/\(∀ b q,b<w.heap.size->X b q->X1 b q)/\Below w.heap.size w w':=by
 refine (du_call du_begin hfin (σ:=nowhere) lentN0 (us:=[.string (ByteArray.mk #[119,101,98]),.slice none 0 0]) ⟨_,_,rfl,⟨rfl,rfl⟩,_,_,rfl,⟨rfl,rfl⟩,rfl⟩).mono ?_
 rintro en w' ⟨u,X',σ',rfl,h1,h2⟩
 have h1:C X' w' σ' (.bx 50000 0) u:=h1
 simp only [C] at h1
 obtain ⟨d,hd,rfl⟩:=h1
 have hO:=(h2.at_ 0 _ rfl).1
 have hdlt:d<w'.heap.size:=by
  obtain ⟨b,ty,vs,e1,e2,_⟩:=hO
  rw [hd] at e1
  injection e1 with e1
  subst e1
  exact (Array.getElem?_eq_some_iff.1 e2).1
 have hnew:w.heap.size<=d:=by
  rcases h2.new 0 d (Nat.zero_le _) (by simp) (by rw [show 50000+0=50000 from rfl,hd];rfl) with h|⟨i,hi,_⟩
  ·exact h
  ·simp at hi
 refine ⟨d,X',σ',rfl,hd,hO,⟨h2.fin,hfin.tab.ext ⟨h2.fr.size,fun b o hb hx=>⟨fun h=>hx (h2.sub b o hb h),World.cell?_of_block (h2.fr.keep b hb (by simp [lentB]))⟩⟩⟩,hnew,hdlt,fun b q hb hx=>h2.old b q hb (fun i hi=>by simp at hi) hx,endsB0 h2⟩
theorem list_calls {X:Nat->Nat->Prop}{w:World}{σ:Pl}{d:Nat}{sv:Value}(hfin:Fin2 X w)(hσ:σ 50000= .box d)(hO:OAt X w σ 50000 (duD duA))(hs:C X w nowhere (.sl 1 ([rc4B].flatMap Ty.str.cells)) sv):
  Calls Tryz.prog 127 #[.pointer (some ⟨d,0,none⟩),sv] w fun en w'=>en= .returned (.bool true)/\OAt X w' σ 50000 (duD [1,2])/\Fr [d] w w':=by
 refine (du_box du_list rfl rfl hfin hσ hO (us:=[.pointer (some ⟨d,0,none⟩),sv]) ?_).mono ?_
 ·refine ⟨_,_,rfl,⟨d,hσ,rfl⟩,_,_,rfl, ?_,rfl⟩
  exact C.ext0 ⟨Nat.le_refl _,fun _ _ _ h=>⟨h,rfl⟩⟩ _ _ (by intro k hk;cases hk) hs
 rintro en w' ⟨u,rfl,h1,h2,h3⟩
 have h1:C X w' nowhere (.v (.bool true)) u:=h1
 simp only [C] at h1
 obtain ⟨rfl,_⟩:=h1
 exact ⟨rfl,h2,h3⟩
theorem finish_calls {X:Nat->Nat->Prop}{w:World}{σ:Pl}{d:Nat}(hfin:Fin2 X w)(hσ:σ 50000= .box d)(hO:OAt X w σ 50000 (duD [1,2])):
  Calls Tryz.prog 76 #[.pointer (some ⟨d,0,none⟩)] w fun en w'=> ∃ u,en= .returned (.tuple #[u,.int .i64 0,.int .i64 0])/\C X w' nowhere (tyEndpoint.d feEp) u/\Fr [d] w w':=by
 refine (du_box du_finish rfl rfl hfin hσ hO (us:=[.pointer (some ⟨d,0,none⟩)]) ⟨_,_,rfl,⟨d,hσ,rfl⟩,rfl⟩).mono ?_
 rintro en w' ⟨u,rfl,h1,h2,h3⟩
 have h1:C X w' nowhere (.tu [tyEndpoint.d feEp,.v (.int .i64 0),.v (.int .i64 0)]) u:=h1
 obtain ⟨us,rfl,u0,r0,rfl,h4,u1,r1,rfl,⟨rfl,_⟩,u2,r2,rfl,⟨rfl,_⟩,rfl⟩:=h1
 exact ⟨u0,rfl,h4,h3⟩
theorem ep_val {X:Nat->Nat->Prop}{w:World}{u:Value}(h:C X w nowhere (tyEndpoint.d feEp) u): ∃ A1 c1 A2 c2 A3 c3 A4 c4,u= .agg #[.string (ByteArray.mk #[119,101,98]),.int .i64 1,.int .i64 4,.slice A1 2 c1,.bool false,.slice A2 0 c2,.slice A3 0 c3,.slice A4 0 c4,.bool false]:=by
 have h:C X w nowhere (.ag [.v (.string (ByteArray.mk #[119,101,98])),.v (.int .i64 1),.v (.int .i64 4),.sl 2 ([1,2].flatMap tI.cells),.v (.bool false),.sl 0 [],.sl 0 [],.sl 0 [],.v (.bool false)]) u:=h
 simp only [C,Cs] at h
 obtain ⟨vs,rfl,u0,r0,rfl,⟨rfl,_⟩,u1,r1,rfl,⟨rfl,_⟩,u2,r2,rfl,⟨rfl,_⟩,u3,r3,rfl,⟨A1,c1,rfl,_⟩,u4,r4,rfl,⟨rfl,_⟩,u5,r5,rfl,⟨A2,c2,rfl,_⟩,u6,r6,rfl,⟨A3,c3,rfl,_⟩,u7,r7,rfl,⟨A4,c4,rfl,_⟩,u8,r8,rfl,⟨rfl,_⟩,rfl⟩:=h
 exact ⟨A1,c1,A2,c2,A3,c3,A4,c4,rfl⟩
end
end Go.Proofs.YtmokmalepelinaaGreatDoor.K
namespace Go.Proofs.YtmokmalepelinaaGreatDoor.K
open Go.RowKit Go.Region
attribute [local go_sem ↓] Go.wp_at_zero Go.wp_at_succ
noncomputable section
abbrev webB:ByteArray:=ByteArray.mk #[119,101,98]
theorem elemStg:ElemOk Tryz.prog 68 151 4 56:=ElemOk.of (.agg #[.string eB,.string eB,.string eB,.int .i64 0]) (by kernel_rfl) (by kernel_rfl) (by kernel_rfl) (by decide)
def RowS (w:World)(base:Nat)(v:Value):Prop:= ∃ ob oc,v= .slice (some ⟨ob,0,none⟩) 1 oc/\base<=ob/\ob<w.heap.size/\1<=oc/\oc<=maxLen/\w.cell? ⟨ob,0,none⟩=some (.string webB)/\w.cell? ⟨ob,1,none⟩=some (.string suitesB)/\w.cell? ⟨ob,2,none⟩=some (.string rc4B)/\w.cell? ⟨ob,3,none⟩=some (.int .i64 2)
theorem rowS_of {w:World}{base:Nat}{v:Value}(h:w.ownsRow base 151 4 v 1 [.string webB,.string suitesB,.string rc4B,.int .i64 2]):RowS w base v:=by
 have hc:= @World.ownsRow.cells
 rcases h.2 with ⟨_,h0⟩|⟨g,cap,cur,rfl,hb,hg,h1,h2,_,_⟩
 ·cases h0
 ·have hcell:=fun j u=>h.cells (g:=g) rfl j u
  simp only [addr_add,Nat.zero_add] at hcell
  exact ⟨g,cap,rfl,hb,(Array.getElem?_eq_some_iff.1 hg).1,h1,h2,hcell 0 _ rfl,hcell 1 _ rfl,hcell 2 _ rfl,hcell 3 _ rfl⟩
theorem RowS.below {w w':World}{base:Nat}{v:Value}(h:RowS w base v)(hb:Below w.heap.size w w'):RowS w' base v:=by
 obtain ⟨ob,oc,rfl,h1,h2,h3,h4,c0,c1,c2,c3⟩:=h
 have f:=fun j=>World.cell?_of_block (w:=w) (a:=⟨ob,j,none⟩) (hb.block ob h2)
 exact ⟨ob,oc,rfl,h1,Nat.lt_of_lt_of_le h2 hb.size,h3,h4,(f 0).trans c0,(f 1).trans c1,(f 2).trans c2,(f 3).trans c3⟩
theorem fin2_res {X:Nat->Nat->Prop}{w w':World}(h:Fin2 X w)(hs:w.heap.size<w'.heap.size)(hb:Below w.heap.size w w'):Fin2 (fun b q=>X b q∨b=w.heap.size) w':=by
 refine ⟨fun b q hx=> ?_,fun g hg=> ?_⟩
 ·rcases hx with hx|rfl
  ·exact Nat.lt_of_lt_of_le (h.fin b q hx) hb.size
  ·exact hs
 ·obtain ⟨h1,h2,h3⟩:=h.tab g hg
  refine ⟨Nat.lt_of_lt_of_le h1 hb.size,fun o ho=> ?_,fun i=>by rw [World.cell?_of_block (w:=w) (a:=⟨g,i,none⟩) (hb.block g h1)];exact h3 i⟩
  rcases ho with ho|ho
  ·exact h2 o ho
  ·omega
theorem fr_set {d i:Nat}{w w':World}{u:Value}(h:Fr [d] w w'):Fr [d] w (w'.setCell ⟨d,i,none⟩ u):=
 ⟨h.os,h.tape,h.output,by simpa [World.setCell] using h.size,fun b hb hn=>(Below.heap_setCell _ _ _ _ (by simpa using hn)).trans (h.keep b hb hn)⟩
theorem oat_below {X:Nat->Nat->Prop}{w w':World}{σ:Pl}{v:V}{d:Nat}(h:OAt X w σ 50000 (.box v))(hσ:σ 50000= .box d)(hd:d<w.heap.size)(hv:v.refs=[])(hb:Below w.heap.size w w'):OAt X w' σ 50000 (.box v):=
 h.ext0 ⟨hb.size,fun b o hlt hx=>⟨hx,World.cell?_of_block (hb.block b hlt)⟩⟩ rfl (by rw [show (VO.box v).refs=v.refs from rfl,hv];simp) fun b hb'=>⟨hb.block b (by
  rw [hσ] at hb'
  injection hb' with hb'
  subst hb'
  exact hd),fun _ h=>h⟩
theorem oat_all {X:Nat->Nat->Prop}{w:World}{σ:Pl}{v:V}{d:Nat}(h:OAt X w σ 50000 (.box v))(hσ:σ 50000= .box d): ∀ o,X d o:=by
 obtain ⟨b,ty,vs,e1,e2,e3,e4⟩:=h
 rw [hσ] at e1
 injection e1 with e1
 subst e1
 exact e4
theorem blk_fr {w w':World}{b d:Nat}{T:TypeId}{cs:Array Value}(h:Go.Proofs.YtmokmalepelinaaGreatDoor.Blk w b T cs)(hf:Fr [d] w w')(hne:b≠d):Go.Proofs.YtmokmalepelinaaGreatDoor.Blk w' b T cs:=(hf.keep b h.lt (by simpa using hne)).trans h
theorem below_fr {n:Nat}{w w1 w':World}{d:Nat}(h:Below n w w1)(hf:Fr [d] w1 w')(hd:n<=d)(hn:n<=w1.heap.size):Below n w w':=
 h.trans ⟨hf.os,hf.tape,hf.output,hf.size,fun k hk=>hf.keep k (Nat.lt_of_lt_of_le hk hn) (by simp;omega)⟩
theorem fin2_fr {X:Nat->Nat->Prop}{w w':World}{d:Nat}(h:Fin2 X w)(hf:Fr [d] w w')(hX: ∀ o,X d o):Fin2 X w':=
 ⟨fun b q hx=>Nat.lt_of_lt_of_le (h.fin b q hx) hf.size,h.tab.ext ⟨hf.size,fun b o hb hx=>⟨hx,World.cell?_of_block (hf.keep b hb (by simp;intro e;subst e;exact hx (hX o)))⟩⟩⟩
theorem slc_tail {ob oc:Nat}(h1:1<=oc)(h2:oc<=maxLen): ∃ A c,c<=maxLen∧ ∀ w:World,(Instr.slice 68 (.slice (some ⟨ob,0,none⟩) 1 oc) (some (.int .i64 1)) none none).run Tryz.prog w= .ok (.slice A 0 c) w:=by
 refine ⟨some ⟨ob,if oc=1 then 0 else 4,none⟩,oc-1,by omega,fun w=> ?_⟩
 have hsz: ∀ w:World,(sizeOf 151).run Tryz.prog w= .ok 4 w:=fun w=>by kernel_rfl
 by_cases h:oc=1
 ·subst h
  simp [Instr.slice,Instr.sliceAt,run_underlying Tryz.underlying68,Instr.sliceBounds,hsz,run_bound]
 ·simp [Instr.slice,Instr.sliceAt,run_underlying Tryz.underlying68,Instr.sliceBounds,hsz,run_bound,h,addr_add]
theorem fn_nil (w:World)(d:Nat):(binOp .eql 156 (.func (.func 127) #[.pointer (some ⟨d,0,none⟩)] #[]) .nilFunc).run Tryz.prog w= .ok (.bool false) w:=by
 kernel_rfl
set_option maxHeartbeats 4000000 in
theorem from_any {X:Nat->Nat->Prop}{w:World}(hfin:Fin2 X w)(A:Option Addr)(c:Nat)(hC:C X w nowhere (.sl 1 ([paS].flatMap tySetting.cells)) (.slice A 1 c)):
  Calls Tryz.prog 21 #[.slice A 1 c,.string webB,.slice none 0 0] w fun en w'=> ∃ u,en= .returned (.tuple #[u,.int .i64 0,.int .i64 0])/\C X w' nowhere (tyEndpoint.d feEp) u/\Below w.heap.size w w':=by
 obtain ⟨g,off,c',vs,e1,hg,hvs,hcell⟩:=row_gen (y:=tySetting) (l:=[paS]) (k:=0) (x:=paS) hC rfl
 injection e1 with e1 e0 e2
 clear e0
 subst e1 e2
 have hvs:Cs X w nowhere [.v (.string webB),.v (.string suitesB),.v (.string rc4B),.v (.int .i64 2)] vs:=hvs
 obtain ⟨v0,r0,rfl,⟨rfl,p0⟩,v1,r1,rfl,⟨rfl,p1⟩,v2,r2,rfl,⟨rfl,p2⟩,v3,r3,rfl,⟨rfl,p3⟩,rfl⟩:=hvs
 have c0:w.cell? ⟨g,off,none⟩=some (.string webB):=by have:=hcell 0 _ rfl;simpa using this
 have c1:w.cell? ⟨g,off+1,none⟩=some (.string suitesB):=by have:=hcell 1 _ rfl;simpa using this
 have c2:w.cell? ⟨g,off+2,none⟩=some (.string rc4B):=by have:=hcell 2 _ rfl;simpa using this
 have c3:w.cell? ⟨g,off+3,none⟩=some (.int .i64 2):=by have:=hcell 3 _ rfl;simpa using this
 have HF:=Lib.hid hfin
 have C0:=Lib.hid c0
 have C1:=Lib.hid c1
 have C2:=Lib.hid c2
 have C3:=Lib.hid c3
 have HG:=Lib.hid hg
 clear hfin hC hcell c0 c1 c2 c3 hg p0 p1 p2 p3 hvs
 go_enter Tryz.func21,Tryz.ntmps21
 go_wp2_with (go_at_call 70;refine (early_calls (X:=X) (fin2_below HF.out ((Below.refl _ _).alloc (Nat.le_refl _) _))).mono ?_;rintro e w1 ⟨rfl,hb1⟩;have HRB:=Lib.hid ((Go.Proofs.YtmokmalepelinaaGreatDoor.Blk.new w 73 #[.string eB,.int .i64 0,.int .i64 0,.slice none 0 0,.bool false,.slice none 0 0,.slice none 0 0,.slice none 0 0,.bool false]).below hb1 (by simp));have HB1:=Lib.hid (((Below.refl w.heap.size w).alloc (Nat.le_refl _) (.cells #[.string eB,.int .i64 0,.int .i64 0,.slice none 0 0,.bool false,.slice none 0 0,.slice none 0 0,.slice none 0 0,.bool false] 73)).trans (hb1.mono (by simp)));clear hb1)
 go_loopw [10,12,29] (fun ov _ iv wr=>((iv= .int .i64 0/\ov= .slice none 0 0)∨(iv= .int .i64 1/\RowS wr w.heap.size ov))/\Below w1.heap.size w1 wr) (fun _ _ iv _=>1-(intOf iv).toNat)
 case atStart=>exact ⟨.inl ⟨rfl,rfl⟩,Below.refl _ _⟩
 case round=>
  obtain ⟨hcase,hbw⟩:=hrel
  have HBW:=Lib.hid hbw
  have HW:=Lib.hid (HB1.out.trans (hbw.mono HB1.out.size))
  clear hbw
  have hwb:(webB.toList==webB.toList)=true:=beq_self_eq_true _
  rcases hcase with ⟨rfl,rfl⟩|⟨rfl,hrow⟩
  ·have d0:=(HW.out.cell (p:=⟨g,off,none⟩) HG.out).trans C0.out
   have d1:=(HW.out.cell (p:=⟨g,off+1,none⟩) HG.out).trans C1.out
   have d2:=(HW.out.cell (p:=⟨g,off+2,none⟩) HG.out).trans C2.out
   have d3:=(HW.out.cell (p:=⟨g,off+3,none⟩) HG.out).trans C3.out
   have hsl:=Sl.made (wr.alloc (.cells #[.string webB,.string suitesB,.string rc4B,.int .i64 2] 151)) 151 1 4 #[.string webB,.string suitesB,.string rc4B,.int .i64 2] rfl (by decide)
   rw [show (wr.alloc (.cells #[.string webB,.string suitesB,.string rc4B,.int .i64 2] 151)).heap.size=wr.heap.size+1 from by simp] at hsl
   have HSL:=Lib.hid hsl
   clear hsl
   go_wp2_with (at_builtin;go_loud (refine wpList_app elemStg rfl _ _ rfl w.heap.size (.slice none 0 0) 0 [] rfl (World.ownsRow_nil _ _ _ _) _ 1 1 [.string webB,.string suitesB,.string rc4B,.int .i64 2] rfl HSL.out (by simp [Value.oneCell']) (by omega) (by omega) (by have:=HW.out.size;simp;omega) ?_;intro v' w4 hown4 hg4 hat4;have HOWN:=Lib.hid hown4;have HG4:=Lib.hid hg4;clear hown4 hg4 hat4))
   exact ⟨⟨.inr ⟨rfl,rowS_of HOWN.out⟩,((HBW.out.alloc HBW.out.size _).alloc (by have:=HBW.out.size;simp;omega) _).grown HG4.out (by have:=HBW.out.size;simp;omega) (fun _ h=>by cases h)⟩,by simp [intOf]⟩
  ·have HROW:=Lib.hid hrow
   obtain ⟨ob,oc,rfl,o1,o2,o3,o4,q0,q1,q2,q3⟩:=hrow
   have HFR:Hid (Fin2 (fun b q=>X b q∨b=w.heap.size) wr):=Lib.hid (fin2_res HF.out (Nat.lt_of_lt_of_le HRB.out.lt HBW.out.size) HW.out)
   have HR2:=Lib.hid (HRB.out.below HBW.out HRB.out.lt)
   clear o1 o2 o3 o4 q0 q1 q2 q3 hwb
   have hn: ¬ (1:Int)<1:=by omega
   go_wp2_with (first
    |(go_at_call 71;refine (begin_calls HFR.out).mono ?_;rintro e w3 ⟨d,X1,σ1,rfl,hd,hO,hF1,hd1,hd2,hX,hb3⟩;have HD:=Lib.hid hd;have HO:=Lib.hid hO;have HF1:=Lib.hid hF1;have HD1:=Lib.hid hd1;have HD2:=Lib.hid hd2;have HX:=Lib.hid hX;have HB3:=Lib.hid hb3;clear hd hO hF1 hd1 hd2 hX hb3)
    |(go_at_call 72;refine (words_any d _).mono ?_;rintro e w5 ⟨bm,es,clk,rfl,hm1,hm2,hm3,hb5⟩;have HM1:=Lib.hid hm1;have HM2:=Lib.hid hm2;have HM3:=Lib.hid hm3;have HB5:=Lib.hid hb5;clear hm1 hm2 hm3 hb5))
   have HROW3:=Lib.hid (HROW.out.below HB3.out)
   have HROW5:=Lib.hid (HROW3.out.below HB5.out)
   have HMB:=Lib.hid ((Array.getElem?_eq_some_iff.1 HM2.out).1)
   go_loopw [16,53] (fun _ iv wz=>(iv= .int .i64 0∨iv= .int .i64 1)/\Hid (Below w5.heap.size w5 wz)) (fun _ iv _=>1-(intOf iv).toNat)
   case atStart=>exact ⟨.inl rfl,Lib.hid (Below.refl _ _)⟩
   case round=>
    obtain ⟨hcase,HZ⟩:=hrel
    have HROWZ:=Lib.hid (HROW5.out.below HZ.out)
    rcases hcase with rfl|rfl
    ·obtain ⟨ob',oc',e1,o1,o2,o3,o4,q0,q1,q2,q3⟩:=HROWZ.out
     injection e1 with e1 e0 e2
     injection e1 with e1
     injection e1 with e1
     subst e1
     have hm:=(Below.heap_alloc wr (.cells #[.string webB,.string suitesB,.string rc4B,.int .i64 2] 151) bm (Nat.lt_of_lt_of_le HMB.out HZ.out.size)).trans ((HZ.out.block bm HMB.out).trans HM2.out)
     have HL:=Lib.hid (look_run hm HM3.out)
     clear e0 e2 hm o1 o2 o3 o4
     go_wp2_with fail
     rw [HL.out]
     go_wp2_with fail
     rw [fn_nil]
     go_wp2_with fail
     exact ⟨⟨.inr rfl,Lib.hid (HZ.out.alloc HZ.out.size _)⟩,by simp [intOf]⟩
    ·have hn2: ¬ (1:Int)<1:=by omega
     go_wp2_with fail
     go_loopw [17,18,19,68] (fun _ _ _ iv wz=>((iv= .int .i64 0/\Hid (Below w5.heap.size w5 wz))∨(iv= .int .i64 1/\Hid (OAt X1 wz σ1 50000 (duD [1,2])/\Below w.heap.size w wz/\Go.Proofs.YtmokmalepelinaaGreatDoor.Blk wz w.heap.size 73 #[.string eB,.int .i64 0,.int .i64 0,.slice none 0 0,.bool false,.slice none 0 0,.slice none 0 0,.slice none 0 0,.bool false]/\Fin2 X1 wz)))) (fun _ _ _ iv _=>1-(intOf iv).toNat)
     case atStart=>exact .inl ⟨rfl,HZ⟩
     case round=>
      rcases hrel with ⟨rfl,HQ⟩|⟨rfl,HQ⟩
      ·have HROWQ:=Lib.hid (HROW5.out.below HQ.out)
       obtain ⟨ob',oc',e1,o1,o2,o3,o4,q0,q1,q2,q3⟩:=HROWQ.out
       injection e1 with e1 e0 e2
       injection e1 with e1
       injection e1 with e1
       subst e1 e2
       have O4:=Lib.hid o4
       clear e0 o1 o2 o4
       go_wp2_with fail
       have hka:=Go.Proofs.YtmokmalepelinaaGreatDoor.Blk.new wr 151 #[.string webB,.string suitesB,.string rc4B,.int .i64 2]
       have HKA:=Lib.hid hka
       have k0:=hka.cell 0
       have k1:=hka.cell 1
       have k2:=hka.cell 2
       have k3:=hka.cell 3
       simp only [List.getElem?_toArray,List.getElem?_cons_zero,List.getElem?_cons_succ] at k0 k1 k2 k3
       have hm:=(Below.heap_alloc wr (.cells #[.string webB,.string suitesB,.string rc4B,.int .i64 2] 151) bm (Nat.lt_of_lt_of_le HMB.out HQ.out.size)).trans ((HQ.out.block bm HMB.out).trans HM2.out)
       have HWA:=Lib.hid (HQ.out.alloc HQ.out.size (.cells #[.string webB,.string suitesB,.string rc4B,.int .i64 2] 151))
       obtain ⟨kb,hkb⟩: ∃ kb,kb=wr.heap.size:=⟨_,rfl⟩
       obtain ⟨wa,hwa⟩: ∃ wa,wa=wr.alloc (.cells #[.string webB,.string suitesB,.string rc4B,.int .i64 2] 151):=⟨_,rfl⟩
       have HKB:=Lib.hid (show w5.heap.size<=kb by rw [hkb];exact HQ.out.size)
       rw [←hwa, ← hkb] at k0 k1 k2 k3 HKA ⊢
       rw [←hwa] at HWA hm
       clear hka hkb hwa q0 q1 q2 q3
       refine wp_region_held_drew (S:=fun w'=>(w'.cell? ⟨kb,0,none⟩=some (.string webB)/\w'.cell? ⟨kb,1,none⟩=some (.string suitesB)/\w'.cell? ⟨kb,2,none⟩=some (.string rc4B)/\w'.cell? ⟨kb,3,none⟩=some (.int .i64 2))/\w'.heap[bm]? = some (.map es clk)) (by kernel_rfl) ⟨⟨k0,k1,k2,k3⟩,hm⟩ (fun hS=> ?_)
       obtain ⟨A',c',hc',hsl⟩:=slc_tail (ob:=ob) o3 O4.out
       have HSL:=Lib.hid hsl
       have HC':=Lib.hid hc'
       clear hsl hc' k0 k1 k2 k3 hm
       refine anyH_val 0 74 (.slice (some ⟨ob,0,none⟩) 1 oc) (by assumption) rfl (by kernel_rfl) (by kernel_rfl) (by kernel_rfl) (fun o ho=>by cases ho;exact ⟨rfl,fun w hw=>by obtain ⟨⟨hw0,hw1,hw2,hw3⟩,hw4⟩:=hw;go_simp⟩) (fun _ _ _ _ _ h=>h) ?_
       simp only [List.setIfInBounds_toArray,List.set_cons_zero,List.set_cons_succ]
       refine anyH_val 1 75 (.int .i64 0) (by assumption) rfl (by kernel_rfl) (by kernel_rfl) (by kernel_rfl) (fun o ho=>by cases ho;exact ⟨rfl,fun w hw=>by obtain ⟨⟨hw0,hw1,hw2,hw3⟩,hw4⟩:=hw;go_simp⟩) (fun _ _ _ _ _ h=>h) ?_
       simp only [List.setIfInBounds_toArray,List.set_cons_zero,List.set_cons_succ]
       refine anyH_val 2 76 (.int .i64 1) (by assumption) rfl (by kernel_rfl) (by kernel_rfl) (by kernel_rfl) (fun o ho=>by cases ho;exact ⟨rfl,fun w hw=>by go_simp;rfl⟩) (fun _ _ _ _ _ h=>h) ?_
       simp only [List.setIfInBounds_toArray,List.set_cons_zero,List.set_cons_succ]
       refine anyH_val 3 77 (.slice A' 0 c') (by assumption) rfl (by kernel_rfl) (by kernel_rfl) (by kernel_rfl) (fun o ho=>by cases ho;exact ⟨rfl,fun w hw=>by show ((Instr.slice 68 (.slice (some ⟨ob,0,none⟩) 1 oc) (some (.int .i64 1)) none none).run Tryz.prog w).andThen (fun v w=> .ok (Next.value v) w)=_;rw [HSL.out w];rfl⟩) (fun _ _ _ _ _ h=>h) ?_
       simp only [List.setIfInBounds_toArray,List.set_cons_zero,List.set_cons_succ]
       refine anyH_val 4 78 (.func (.func 73) #[] #[.pointer (some ⟨kb,0,none⟩)]) (by assumption) rfl (by kernel_rfl) (by kernel_rfl) (by kernel_rfl) (fun o ho=>by cases ho;exact ⟨rfl,fun w hw=>by obtain ⟨⟨hw0,hw1,hw2,hw3⟩,hw4⟩:=hw;go_simp⟩) (fun _ _ _ _ _ h=>h) ?_
       simp only [List.setIfInBounds_toArray,List.set_cons_zero,List.set_cons_succ]
       refine wpAnyH_ready (rs:=[5]) (by kernel_rfl) (by simp) ?_
       refine AllReadyH.cons rfl (fun K hK=> ?_) AllReadyH.nil
       go_simp
       have hFA:=fin2_below (fin2_below HF1.out HB5.out) HWA.out.drew
       (go_at_call 74;refine (again_calls hFA A' c' HC'.out _ rfl).mono ?_;rintro e w6 ⟨rfl,hb6⟩)
       have HB6:=Lib.hid (((Below.refl wa.heap.size wa).drew).trans hb6)
       have hk6:=HKA.out.below HB6.out HKA.out.lt
       have HK6:=Lib.hid hk6
       have m0:=hk6.cell 0
       have m1:=hk6.cell 1
       have m2:=hk6.cell 2
       have m3:=hk6.cell 3
       simp only [List.getElem?_toArray,List.getElem?_cons_zero,List.getElem?_cons_succ] at m0 m1 m2 m3
       have hm6:w6.heap[bm]? = some (.map es clk):=(HB6.out.block bm (Nat.lt_of_lt_of_le HMB.out HWA.out.size)).trans ((HWA.out.block bm HMB.out).trans HM2.out)
       have HM6:=Lib.hid hm6
       clear hb6 hk6 hFA
       go_wp2_with fail
       refine hK.out _ _ ⟨⟨m0,m1,m2,m3⟩,hm6⟩ (fun hS=> ?_)
       clear hK K
       (try simp only [Act.put,List.setIfInBounds_toArray,List.set_cons_zero,List.set_cons_succ])
       refine anyH_val 6 80 (.bool true) (by assumption) rfl (by kernel_rfl) (by kernel_rfl) (by kernel_rfl) (fun o ho=>by cases ho;exact ⟨rfl,fun w hw=>by obtain ⟨⟨hw0,hw1,hw2,hw3⟩,hw4⟩:=hw;go_simp⟩) (fun _ _ _ _ _ h=>h) ?_
       simp only [List.setIfInBounds_toArray,List.set_cons_zero,List.set_cons_succ]
       refine anyH_val 7 81 (.bool true) (by assumption) rfl (by kernel_rfl) (by kernel_rfl) (by kernel_rfl) (fun o ho=>by cases ho;exact ⟨rfl,fun w hw=>by obtain ⟨⟨hw0,hw1,hw2,hw3⟩,hw4⟩:=hw;go_simp⟩) (fun _ _ _ _ _ h=>h) ?_
       simp only [List.setIfInBounds_toArray,List.set_cons_zero,List.set_cons_succ]
       refine anyH_val 8 82 (.map (some bm)) (by assumption) rfl (by kernel_rfl) (by kernel_rfl) (by kernel_rfl) (fun o ho=>by cases ho;exact ⟨rfl,fun w hw=>by obtain ⟨⟨hw0,hw1,hw2,hw3⟩,hw4⟩:=hw;go_simp⟩) (fun _ _ _ _ _ h=>h) ?_
       simp only [List.setIfInBounds_toArray,List.set_cons_zero,List.set_cons_succ]
       refine anyH_val 9 83 (.pointer (some ⟨kb,1,none⟩)) (by assumption) rfl (by kernel_rfl) (by kernel_rfl) (by kernel_rfl) (fun o ho=>by cases ho;exact ⟨rfl,fun w hw=>by obtain ⟨⟨hw0,hw1,hw2,hw3⟩,hw4⟩:=hw;go_simp⟩) (fun _ _ _ _ _ h=>h) ?_
       simp only [List.setIfInBounds_toArray,List.set_cons_zero,List.set_cons_succ]
       refine anyH_val 10 84 (.string suitesB) (by assumption) rfl (by kernel_rfl) (by kernel_rfl) (by kernel_rfl) (fun o ho=>by cases ho;exact ⟨rfl,fun w hw=>by obtain ⟨⟨hw0,hw1,hw2,hw3⟩,hw4⟩:=hw;go_simp⟩) (fun _ _ _ _ _ h=>h) ?_
       simp only [List.setIfInBounds_toArray,List.set_cons_zero,List.set_cons_succ]
       refine anyH_val 11 85 (.func (.func 127) #[.pointer (some ⟨d,0,none⟩)] #[]) (by assumption) rfl (by kernel_rfl) (by kernel_rfl) (by kernel_rfl) (fun o ho=>by cases ho;exact ⟨rfl,fun w hw=>by obtain ⟨hw0,hw4⟩:=hw;have q:=look_run hw4 HM3.out;clear hw0 hw4;go_simp⟩) (fun _ _ _ _ _ h=>h) ?_
       simp only [List.setIfInBounds_toArray,List.set_cons_zero,List.set_cons_succ]
       refine anyH_val 12 86 paV (by assumption) rfl (by kernel_rfl) (by kernel_rfl) (by kernel_rfl) (fun o ho=>by cases ho;exact ⟨rfl,fun w hw=>by obtain ⟨⟨hw0,hw1,hw2,hw3⟩,hw4⟩:=hw;go_simp⟩) (fun _ _ _ _ _ h=>h) ?_
       simp only [List.setIfInBounds_toArray,List.set_cons_zero,List.set_cons_succ]
       refine wpAnyH_ready (rs:=[13]) (by kernel_rfl) (by simp) ?_
       refine AllReadyH.cons rfl (fun K hK=> ?_) AllReadyH.nil
       go_simp
       have hF6:=fin2_below (fin2_below (fin2_below HF1.out HB5.out) HWA.out) HB6.out
       (go_at_call 75;refine (values_calls hF6).mono ?_;rintro e w7 ⟨sv,rfl,hsv,hb7⟩)
       have HB7:=Lib.hid hb7
       have HSV:=Lib.hid hsv
       have HF7:=Lib.hid (fin2_below hF6 hb7)
       have hk7:=HK6.out.below hb7 HK6.out.lt
       have HK7:=Lib.hid hk7
       have m0:=hk7.cell 0
       have m1:=hk7.cell 1
       have m2:=hk7.cell 2
       have m3:=hk7.cell 3
       simp only [List.getElem?_toArray,List.getElem?_cons_zero,List.getElem?_cons_succ] at m0 m1 m2 m3
       have hm7:w7.heap[bm]? = some (.map es clk):=(hb7.block bm (Array.getElem?_eq_some_iff.1 HM6.out).1).trans HM6.out
       have HM7:=Lib.hid hm7
       clear hsv hb7 hk7 hF6
       go_wp2_with fail
       refine hK.out _ _ ⟨⟨m0,m1,m2,m3⟩,hm7⟩ (fun hS=> ?_)
       clear hK K
       (try simp only [Act.put,List.setIfInBounds_toArray,List.set_cons_zero,List.set_cons_succ])
       refine wpAnyH_ready (rs:=[14]) (by kernel_rfl) (by simp) ?_
       refine AllReadyH.cons rfl (fun K hK=> ?_) AllReadyH.nil
       go_simp
       have hb37:Below w3.heap.size w3 w7:=((HB5.out.trans (HWA.out.mono HB5.out.size)).trans (HB6.out.mono (Nat.le_trans HB5.out.size HWA.out.size))).trans (HB7.out.mono (Nat.le_trans (Nat.le_trans HB5.out.size HWA.out.size) HB6.out.size))
       have hO7:=oat_below HO.out HD.out HD2.out rfl hb37
       refine (list_calls HF7.out HD.out hO7 HSV.out).mono ?_
       rintro e w8 ⟨rfl,hO8,hfr8⟩
       have hdk:kb≠d:=by have:=HKB.out;have:=HB5.out.size;have:=HD2.out;omega
       have hk8:=blk_fr HK7.out hfr8 hdk
       have m0:=hk8.cell 0
       have m1:=hk8.cell 1
       have m2:=hk8.cell 2
       have m3:=hk8.cell 3
       simp only [List.getElem?_toArray,List.getElem?_cons_zero,List.getElem?_cons_succ] at m0 m1 m2 m3
       have hm8:w8.heap[bm]? = some (.map es clk):=(hfr8.keep bm (Array.getElem?_eq_some_iff.1 HM7.out).1 (by have:=HM1.out;have:=HD2.out;simp;omega)).trans HM7.out
       have HO8:=Lib.hid hO8
       have HFR8:=Lib.hid hfr8
       have HB07:Hid (Below w.heap.size w w7):=Lib.hid ((HW.out.trans (HB3.out.mono HW.out.size)).trans (hb37.mono (Nat.le_trans HW.out.size HB3.out.size)))
       have hrd:w.heap.size≠d:=by have:=HR2.out.lt;have:=HD1.out;omega
       have HR8:=Lib.hid (blk_fr ((HR2.out.below HB3.out HR2.out.lt).below hb37 (Nat.lt_of_lt_of_le HR2.out.lt HB3.out.size)) hfr8 hrd)
       have HB8:Hid (Below w.heap.size w w8):=Lib.hid (below_fr HB07.out hfr8 (by have:=HW.out.size;have:=HD1.out;omega) HB07.out.size)
       have HF8:=Lib.hid (fin2_fr HF7.out hfr8 (oat_all hO7 HD.out))
       clear hb37 hO7 hO8 hfr8 hdk hk8 hrd
       go_wp2_with fail
       refine hK.out _ _ ⟨⟨m0,m1,m2,m3⟩,hm8⟩ (fun hS=> ?_)
       clear hK K
       (try simp only [Act.put,List.setIfInBounds_toArray,List.set_cons_zero,List.set_cons_succ])
       refine anyH_val 15 89 (.bool false) (by assumption) rfl (by kernel_rfl) (by kernel_rfl) (by kernel_rfl) (fun o ho=>by cases ho;exact ⟨rfl,fun w hw=>by obtain ⟨⟨hw0,hw1,hw2,hw3⟩,hw4⟩:=hw;go_simp⟩) (fun _ _ _ _ _ h=>h) ?_
       simp only [List.setIfInBounds_toArray,List.set_cons_zero,List.set_cons_succ]
       refine anyH_val 16 90 (.bool false) (by assumption) rfl (by kernel_rfl) (by kernel_rfl) (by kernel_rfl) (fun o ho=>by cases ho;exact ⟨rfl,fun w hw=>by obtain ⟨⟨hw0,hw1,hw2,hw3⟩,hw4⟩:=hw;go_simp⟩) (fun _ _ _ _ _ h=>h) ?_
       simp only [List.setIfInBounds_toArray,List.set_cons_zero,List.set_cons_succ]
       refine wpAnyH_done (by kernel_rfl) ?_ _
       go_wp2_with fail
       exact ⟨.inr ⟨rfl,Lib.hid ⟨HO8.out,HB8.out,HR8.out,HF8.out⟩⟩,by simp [intOf]⟩
      ·obtain ⟨hO,hB,hR,hF⟩:=HQ.out
       have HO2:=Lib.hid hO
       have HB2:=Lib.hid hB
       have HR3:=Lib.hid hR
       have HF2:=Lib.hid hF
       have hrd:w.heap.size≠d:=by have:=HR2.out.lt;have:=HD1.out;omega
       have HRD:=Lib.hid hrd
       clear hO hB hR hF hrd
       have hn3: ¬ (1:Int)<1:=by omega
       go_wp2_with (go_at_call 76;refine (finish_calls HF2.out HD.out HO2.out).mono ?_;rintro e w9 ⟨u,rfl,hu,hfr9⟩;have HU:=Lib.hid hu;have HFR9:=Lib.hid hfr9;obtain ⟨A1,e1,A2,e2,A3,e3,A4,e4,rfl⟩:=ep_val hu;have hb9:=blk_fr HR3.out hfr9 HRD.out;have HB9:=Lib.hid hb9;have z0:=hb9.cell 0;have z1:=hb9.cell 1;have z2:=hb9.cell 2;have z3:=hb9.cell 3;have z4:=hb9.cell 4;have z5:=hb9.cell 5;have z6:=hb9.cell 6;have z7:=hb9.cell 7;have z8:=hb9.cell 8;simp only [List.getElem?_toArray,List.getElem?_cons_zero,List.getElem?_cons_succ] at z0 z1 z2 z3 z4 z5 z6 z7 z8;have f0:=hb9.frozen 0;have f1:=hb9.frozen 1;have f2:=hb9.frozen 2;have f3:=hb9.frozen 3;have f4:=hb9.frozen 4;have f5:=hb9.frozen 5;have f6:=hb9.frozen 6;have f7:=hb9.frozen 7;have f8:=hb9.frozen 8;clear hb9 hu hfr9)
       obtain ⟨wz,hwz⟩: ∃ wz,wz=(((((((((w9.setCell ⟨w.heap.size,0,none⟩ (.string webB)).setCell ⟨w.heap.size,1,none⟩ (.int .i64 1)).setCell ⟨w.heap.size,2,none⟩ (.int .i64 4)).setCell ⟨w.heap.size,3,none⟩ (.slice A1 2 e1)).setCell ⟨w.heap.size,4,none⟩ (.bool false)).setCell ⟨w.heap.size,5,none⟩ (.slice A2 0 e2)).setCell ⟨w.heap.size,6,none⟩ (.slice A3 0 e3)).setCell ⟨w.heap.size,7,none⟩ (.slice A4 0 e4)).setCell ⟨w.heap.size,8,none⟩ (.bool false)):=⟨_,rfl⟩
       have hbz:Go.Proofs.YtmokmalepelinaaGreatDoor.Blk wz w.heap.size 73 #[.string webB,.int .i64 1,.int .i64 4,.slice A1 2 e1,.bool false,.slice A2 0 e2,.slice A3 0 e3,.slice A4 0 e4,.bool false]:=by
        rw [hwz]
        exact (((((((((HB9.out.set_ 0 (.string webB)).set_ 1 (.int .i64 1)).set_ 2 (.int .i64 4)).set_ 3 (.slice A1 2 e1)).set_ 4 (.bool false)).set_ 5 (.slice A2 0 e2)).set_ 6 (.slice A3 0 e3)).set_ 7 (.slice A4 0 e4)).set_ 8 (.bool false))
       have hfz:Fr [w.heap.size] w9 wz:=by
        rw [hwz]
        exact (fr_set (fr_set (fr_set (fr_set (fr_set (fr_set (fr_set (fr_set (fr_set (Fr.refl [w.heap.size] w9))))))))))
       rw [←hwz]
       clear hwz z0 z1 z2 z3 z4 z5 z6 z7 z8 f0 f1 f2 f3 f4 f5 f6 f7 f8
       have y0:=hbz.cell 0
       have y1:=hbz.cell 1
       have y2:=hbz.cell 2
       have y3:=hbz.cell 3
       have y4:=hbz.cell 4
       have y5:=hbz.cell 5
       have y6:=hbz.cell 6
       have y7:=hbz.cell 7
       have y8:=hbz.cell 8
       simp only [List.getElem?_toArray,List.getElem?_cons_zero,List.getElem?_cons_succ] at y0 y1 y2 y3 y4 y5 y6 y7 y8
       have HFZ:=Lib.hid hfz
       refine bodyPost_ret (by simp [results,Tryz.results21,go_sem,y0,y1,y2,y3,y4,y5,y6,y7,y8];rfl) rfl ?_
       refine ⟨_,rfl, ?_,below_fr (below_fr HB2.out HFR9.out (by have:=HW.out.size;have:=HD1.out;omega) HB2.out.size) HFZ.out (Nat.le_refl _) (Nat.le_trans HB2.out.size HFR9.out.size)⟩
       exact C.ext0 ⟨HFZ.out.size,fun b o hb hx=>⟨fun h=>hx (HX.out b o (Nat.lt_of_lt_of_le (HF.out.fin b o h) HW.out.size) (.inl h)),World.cell?_of_block (HFZ.out.keep b hb (by
        simp only [List.mem_singleton]
        intro e
        subst e
        exact hx (HX.out _ o HR2.out.lt (.inr rfl))))⟩⟩ _ _ (by intro k hk;cases hk) HU.out
end
end Go.Proofs.YtmokmalepelinaaGreatDoor.K
namespace Go.Proofs.YtmokmalepelinaaGreatDoor.K
open Go.RowKit
def backL {α:Type}(l:List α):List (Int×(α×Unit)):=(l.zipIdx.map fun p=>((p.2:Int),(p.1,()))).reverse
def it_f153_1:Itr:=mkIt [.ptr 50000 0] [(.sl tyRule)] (.pr tI (.pr tyRule .nil)) (fun d=>true) (fun d=>(backL d.1))
noncomputable def tc_f153:TC:=(.sq (.reg (rT Tryz.f153 0)) (.sq (.reg (rT Tryz.f153 1)) .rt))
def rv_f153:List (RV×Option Ty):=[((.t 2),none)]
def g_f153:G:=⟨TYs,[],4,EL [],keeps,(fun _ _=>none),IL [],RL []⟩
def r_f153 (p0:List Rule):Option (V×List VO):=some (.fn 238 [(.ptr 50000 0)],[.box (.t (.sl tyRule) p0)])
theorem e_f153 (p0:List Rule):runF g_f153 tc_f153 rv_f153 true [.t (.sl tyRule) p0] []=r_f153 p0:=by kernel_rfl
theorem en_f153:Entered Tryz.prog 153:= .inr ⟨by decide,_,Tryz.func153,by kernel_rfl,by kernel_rfl⟩
theorem gk_f153:GOk Tryz.prog g_f153:=gok_of _ (fun p hp=>by cases hp)
theorem lk_f153:tc_f153.lok g_f153:=by repeat (first|exact trivial|refine ⟨?_, ?_⟩)
def sp_f153:Ent:=specO (.pr (.sl tyRule) .nil) (fun _=>true) (fun x=> .fn 238 [.ptr 50000 0]) (fun x=>[.box (.t (.sl tyRule) x.1)])
theorem ms_f153:Meets Tryz.prog 153 (strip sp_f153):=meets_specO (R:=runF g_f153 tc_f153 rv_f153 true) (mG Tryz.func153 (by kernel_rfl) Tryz.ntmps153 (by kernel_rfl) gk_f153 lk_f153) fun x _=>(e_f153 x.1).trans rfl
end Go.Proofs.YtmokmalepelinaaGreatDoor.K
namespace Go.Proofs.YtmokmalepelinaaGreatDoor.K
open Go.RowKit Go.Shelf
attribute [local go_sem] Oper.semAt_some
def encB (vs:List Value)(sz:Nat):Nat->List (Array Value)
 |0=>[]
 |k+1=> #[.int .i64 (k:Int),.agg ((vs.drop (k*sz)).take sz).toArray]::encB vs sz k
theorem w64 (m:Nat)(h:m<=maxLen):wrap64 ((m:Int)-1)=(m:Int)-1:=by
 simp only [maxLen] at h
 unfold wrap64
 omega
set_option maxHeartbeats 1000000 in
theorem back_rule (Bs b0 off c n:Nat)(A:Option Addr)(vs:List Value)(Xf:Nat->Nat->Prop)(w:World)(hnc:n<=c)(hcm:c<=maxLen)
  (hBs:w.cell? ⟨Bs,0,none⟩=some (.slice A n c)) (hBl:Bs<w.heap.size) (hBx: ∀ q, ¬ Xf Bs q)
  (hA:0<n->A=some ⟨b0,off,none⟩/\vs.length=n*6/\b0<w.heap.size/\(∀ j,j<vs.length→ ¬ Xf b0 (off+j))∧ ∀ j v,vs[j]? = some v->w.cell? ⟨b0,off+j,none⟩=some v):
  ItOk Tryz.prog 238 [.pointer (some ⟨Bs,0,none⟩)] (encB vs 6 n) Xf w:=by
 intro l J Jx W hJ hJx hK hY h0 _
 have HA:=Lib.hid hA
 clear hA
 refine callsIn_of_wp (F:=Fw none) Tryz.func238 rfl trivial ?_ rfl
 simp only [Tryz.ntmps238,List.size_toArray,List.length_cons,List.length_nil,Nat.reduceAdd,Nat.reduceSub,Array.replicate_succ,Array.replicate_zero,List.push_toArray,List.append_toArray,List.nil_append,List.cons_append]
 have hb0:W.cell? ⟨Bs,0,none⟩=some (.slice A n c):=((hK _ W h0).2 Bs 0 hBl (hBx 0)).trans hBs
 gi_wp2
 gi_loopw [3] (fun i wr=> ∃ k:Nat,k<=n/\i= .int .i64 ((k:Int)-1)/\J (encB vs 6 k) wr)
  (fun i _=>(intOf i+1).toNat)
 case atStart=>exact ⟨n,Nat.le_refl _,congrArg (Value.int .i64) (w64 n (by omega)),h0⟩
 case round=>
  obtain ⟨k,hk,rfl,hJs⟩:=hrel
  have hbx:wr.cell? ⟨Bs,0,none⟩=some (.slice A n c):=((hK _ wr hJs).2 Bs 0 hBl (hBx 0)).trans hBs
  cases k with
  |zero=>
   gi_wp2
   go_end0
   exact ⟨⟨_,rfl⟩,.inl hJs⟩
  |succ q=>
   obtain ⟨rfl,hvl,hbl,hnx,hcl⟩:=HA.out (by omega)
   obtain ⟨fn,tmps,assign,body,hy,hR⟩:=hY _ _ wr hJs
   have cel: ∀ i,i<6→ ∃ v,vs[q*6+i]? = some v/\wr.cell? ⟨b0,off+(q*6+i),none⟩=some v:=by
    intro i hi
    have hlt:q*6+i<vs.length:=by omega
    exact ⟨_,List.getElem?_eq_getElem hlt,((hK _ wr hJs).2 b0 _ hbl (hnx _ hlt)).trans (hcl _ _ (List.getElem?_eq_getElem hlt))⟩
   obtain ⟨v0,e0,c0⟩:=cel 0 (by omega)
   obtain ⟨v1,e1,c1⟩:=cel 1 (by omega)
   obtain ⟨v2,e2,c2⟩:=cel 2 (by omega)
   obtain ⟨v3,e3,c3⟩:=cel 3 (by omega)
   obtain ⟨v4,e4,c4⟩:=cel 4 (by omega)
   obtain ⟨v5,e5,c5⟩:=cel 5 (by omega)
   rw [Nat.add_zero] at e0 c0
   rw [←Nat.add_assoc] at c1 c2 c3 c4 c5
   have hag:((vs.drop (q*6)).take 6)=[v0,v1,v2,v3,v4,v5]:=by
    apply List.ext_getElem?
    intro i
    rcases Nat.lt_or_ge i 6 with hi|hi
    ·rw [List.getElem?_take_of_lt hi,List.getElem?_drop]
     rcases i with _|_|_|_|_|_|i
     ·rw [Nat.add_zero,e0];rfl
     ·rw [e1];rfl
     ·rw [e2];rfl
     ·rw [e3];rfl
     ·rw [e4];rfl
     ·rw [e5];rfl
     ·omega
    ·rw [List.getElem?_take_eq_none hi,List.getElem?_eq_none (by simpa using hi)]
   rw [hag] at hy
   have q1:((q+1:Nat):Int)-1=(q:Int):=by omega
   rw [q1]
   clear hnx hcl cel hY
   gi_wp2
   refine hR.mono ?_
   rintro e W3 (⟨rfl,hJ3⟩|⟨rfl,hJx3⟩)
   ·gi_wp2
    go_roundw
    case rel=>exact ⟨q,by omega,congrArg (Value.int .i64) (w64 q (by omega)),hJ3⟩
    case measure=>simp [intOf,w64 q (by omega)]
   ·gi_wp2
    refine bodyPost_ret (results_none rfl _ _ _) rfl ?_
    exact ⟨⟨_,rfl⟩,.inr hJx3⟩
theorem encB_len (vs:List Value)(sz:Nat): ∀ n,(encB vs sz n).length=n
 |0=>rfl
 |n+1=>by rw [encB,List.length_cons,encB_len vs sz n]
theorem encB_at (vs:List Value)(sz:Nat): ∀ n i,i<n->(encB vs sz n)[i]? = some #[.int .i64 ((n-1-i:Nat):Int),.agg ((vs.drop ((n-1-i)*sz)).take sz).toArray]
 |0,i,h=>by omega
 |n+1,0,_=>by simp [encB]
 |n+1,i+1,h=>by
  rw [encB,List.getElem?_cons_succ,encB_at vs sz n i (by omega)]
  have:n-1-i=n+1-1-(i+1):=by omega
  rw [this]
theorem backL_at {α:Type}(l:List α)(i:Nat)(h:i<l.length):(backL l)[i]? = some (((l.length-1-i:Nat):Int),(l[l.length-1-i]'(by omega),())):=by
 unfold backL
 rw [List.getElem?_reverse (by simpa using h)]
 simp
theorem iters_back {P:Program}{gf:FuncId}{y:Ty}{sz:Nat}(hgf:gf<1000000)(hrow:y.row=true)(hsz:y.sz=sz)(eg: ∀ args w,(callFunc gf args).run P w= .ok (.enter gf args) w)
  (hw: ∀ (Bs b0 off c n:Nat) (A:Option Addr) (vs:List Value) (Xf:Nat->Nat->Prop) (w:World),n<=c->c<=maxLen->w.cell? ⟨Bs,0,none⟩=some (.slice A n c)->Bs<w.heap.size->(∀ q, ¬ Xf Bs q)→
   (0<n->A=some ⟨b0,off,none⟩/\vs.length=n*sz/\b0<w.heap.size/\(∀ j,j<vs.length→ ¬ Xf b0 (off+j))∧ ∀ j v,vs[j]? = some v->w.cell? ⟨b0,off+j,none⟩=some v)->ItOk P gf [.pointer (some ⟨Bs,0,none⟩)] (encB vs sz n) Xf w):
  Iters P gf (mkIt [.ptr 50000 0] [.sl y] (.pr (.int .i64) (.pr y .nil)) (fun _=>true) (fun d=>backL d.1)):=by
 refine Iters.weak hgf eg fun caps objs yr rows h X w σ lb hfin hl hc=> ?_
 unfold mkIt at h
 split at h
 ·rename_i x d hx hd
  simp only [Option.some.injEq,Prod.mk.injEq,true_and] at h
  cases h
  have hcaps:=rdVt_mk hx
  subst hcaps
  cases objs with
  |nil=>simp [asBoxes] at hd
  |cons o os=>
   cases o with
   |box cv=>
    cases os with
    |cons o2 os=>simp [asBoxes] at hd
    |nil=>
     simp only [asBoxes] at hd
     split at hd
     ·rename_i l u hl1 _
      simp only [Option.some.injEq] at hd
      subst hd
      have hcv:=SV.rd_mk (s:= .ty (.sl y)) (v:=cv) (x:=l) (by simpa [asBox,Ty.row] using hl1)
      subst hcv
      obtain ⟨⟨Bs,ty,us,h1,h2,h3,h4⟩,_⟩:=hl.at_ 0 _ rfl
      have h3':Cs X w σ [.sl (List.length l) (List.flatMap y.cells l)] us:=h3
      obtain ⟨uv,rfl,h5⟩:=h3'.one
      simp only [C] at h5
      obtain ⟨A,c,rfl,g1,g2,g3,g4⟩:=h5
      simp only [mkVt,SV.mk,V.ds,V.d,Cs,C] at hc
      obtain ⟨p,ps,rfl,⟨b',e1,rfl⟩,rfl⟩:=hc
      have h1:σ 50000= .box Bs:=h1
      rw [h1] at e1
      injection e1 with e1
      subst e1
      have hcell:w.cell? ⟨Bs,0,none⟩=some (.slice A (List.length l) c):=by simp [World.cell?, h2]
      have hBl:=(Array.getElem?_eq_some_iff.1 h2).1
      have hBx: ∀ q, ¬ (X Bs q∧ ∀ j,j<[VO.box ((SV.ty (.sl y)).mk l)].length->(σ (50000+j)).blk≠some Bs):=fun q hq=>hq.2 0 (by simp) (by rw [h1];rfl)
      rcases Nat.eq_zero_or_pos (List.length l) with h0|hp
      ·have hl0:l=[]:=List.eq_nil_of_length_eq_zero h0
       subst hl0
       exact ⟨encB [] sz 0,⟨rfl,fun i r v hr=>by simp [backL] at hr⟩,hw Bs 0 0 c 0 A [] _ w g1 g2 hcell hBl hBx (fun h=>absurd h (by omega))⟩
      ·obtain ⟨b0,off,vs,rfl,g5,g6⟩:=g4 hp
       have hvl:=g5.len
       rw [flat_len,hsz] at hvl
       refine ⟨encB vs sz (List.length l),⟨by rw [encB_len];simp [backL],fun i r v hr hv=> ?_⟩,hw Bs b0 off c (List.length l) _ vs _ w g1 g2 hcell hBl hBx (fun _=>⟨rfl,hvl,g6.lt,fun j hj hx=>g6.nx j hj hx.1,fun j v hv=>g6.at_ j v hv⟩)⟩
       have hi:i<List.length l:=by
        have:=(List.getElem?_eq_some_iff.1 hv).1
        rwa [encB_len] at this
       rw [backL_at _ _ hi] at hr
       rw [encB_at _ _ _ _ hi] at hv
       injection hr with hr
       injection hv with hv
       subst hr hv
       simp only [Ty.canon,V.ds,V.d,Cs]
       refine ⟨_,_,rfl,(by simp only [Ty.d,C];exact ⟨trivial,rfl⟩),_,_,rfl, ?_,rfl⟩
       rw [Ty.d_row _ _ hrow]
       simp only [C]
       refine ⟨_,rfl, ?_⟩
       have k1:=(g5.drop_ ((List.length l-1-i)*y.sz))
       rw [flat_drop,List.drop_eq_getElem_cons (by omega),List.flatMap_cons] at k1
       have k2:=k1.take_ y.sz
       rw [List.take_left' (y.cells_len _),hsz] at k2
       exact k2
     ·cases hd
   |no=>simp [asBoxes] at hd
   |arr e t l=>simp [asBoxes] at hd
 ·cases h
theorem is_f153_1:Iters Tryz.prog 238 it_f153_1:=
 iters_back (y:=tyRule) (sz:=6) (by decide) rfl rfl (enters_of Tryz.func238 (by kernel_rfl) rfl) back_rule
end Go.Proofs.YtmokmalepelinaaGreatDoor.K
namespace Go.Proofs.YtmokmalepelinaaGreatDoor.K
open Go.RowKit
def decZ (zs:List (Int×(Rule×Unit)))(u:Keep)(p d:Int):Option Int:=(zs.find? fun z=>matches' z.2.1 u p d).map (·.1)
def decHit (zs:List (Int×(Rule×Unit)))(u:Keep)(p d _x:Int):Bool:=(decZ zs u p d).isSome
def decAt (zs:List (Int×(Rule×Unit)))(u:Keep)(p d _x:Int):Int:=(decZ zs u p d).getD 0
def decF (y:Policy)(u:Keep)(p d:Int):Int:=(decZ (backL y.1) u p d).getD (-1)
def fg_f83_0:Fg:=⟨[(5,none),(6,none),(7,none),(8,none)],[(60000,some tyKeep),(60001,some tI),(60002,some tI),(60003,none)]⟩
noncomputable def ta_f83_0:TC:=(.sq (.reg (rT Tryz.f83 2)) (.reg (rT Tryz.f83 3)))
noncomputable def tb_f83_0:TC:=(.bk 1 (.sq (.reg (rT Tryz.f83 4)) (.cd (.t 31) (.sq (.reg (rT Tryz.f83 5)) (.fg ⟨[],[(60000,some tyKeep),(60001,some tI),(60002,some tI),(60003,none)]⟩ .rt)) .sk)))
noncomputable def tc_f83:TC:=(.sq (.reg (rT Tryz.f83 0)) (.sq (.sq (.reg (rT Tryz.f83 1)) (.bk 0 (.rf 0 fg_f83_0 (.t 13) (.pr tI (.pr tyRule .nil)) [14,15] [5,6,7,8] ta_f83_0 tb_f83_0))) (.sq (.reg (rT Tryz.f83 6)) .rt)))
def rv_f83:List (RV×Option Ty):=[((.c 8 false 1),some tI)]
abbrev sh_f83_0:Sh:=⟨[(5,.ptr 60000 0),(6,.ptr 60001 0),(7,.ptr 60002 0),(8,.ptr 60003 0)],[(60000,.box tyKeep),(60001,.box tI),(60002,.box tI),(60003,.bag [.ty tI])]⟩
def st_f83_0 (y60000:Keep)(y60001 y60002 y60003_0:Int):VS:=sh_f83_0.st ((),(),(),(),()) (y60000,y60001,y60002,(y60003_0,()),())
abbrev sh_f83_0_ret:Sh:=⟨[(5,.ptr 60000 0),(6,.ptr 60001 0),(7,.ptr 60002 0),(8,.ptr 60003 0)],[(60000,.box tyKeep),(60001,.box tI),(60002,.box tI),(60003,.bag [.ty tI])]⟩
def st_f83_0_ret (y60000:Keep)(y60001 y60002 y60003_0:Int):VS:=sh_f83_0_ret.st ((),(),(),(),()) (y60000,y60001,y60002,(y60003_0,()),())
abbrev sh_f83_0_normal:Sh:=⟨[(5,.ptr 60000 0),(6,.ptr 60001 0),(7,.ptr 60002 0),(8,.ptr 60003 0)],[(60000,.box tyKeep),(60001,.box tI),(60002,.box tI),(60003,.bag [.ty tI])]⟩
def st_f83_0_normal (y60000:Keep)(y60001 y60002 y60003_0:Int):VS:=sh_f83_0_normal.st ((),(),(),(),()) (y60000,y60001,y60002,(y60003_0,()),())
def R_f83_0:VS->List (Ty.T (.pr tI (.pr tyRule .nil)))->Option (Bool×List (Bool×Exit×VS)):=mkR sh_f83_0 (fun zs x y=>true) (fun zs x y=>[((decHit zs y.1 y.2.1 y.2.2.1 y.2.2.2.1.1),.ret,st_f83_0_ret (y.1) (y.2.1) (y.2.2.1) (decAt zs y.1 y.2.1 y.2.2.1 y.2.2.2.1.1)),(true,.normal,st_f83_0_normal (y.1) (y.2.1) (y.2.2.1) (y.2.2.2.1.1))])
def g_f83:G:=⟨TYs,[],33,EL [(153,sp_f153),(154,sp_f154)],keeps,(Ls [fun _=>none]),IL [(238,it_f153_1)],(RL [⟨(.pr tI (.pr tyRule .nil)),R_f83_0⟩])⟩
def b_f83_0 (z:(Int×(Rule×Unit)))(y60000:Keep)(y60001 y60002 y60003_0:Int):Option (Exit×VS):=br (concerns z.2.1 y60000 y60001) (br (ile z.2.1.2.2.2.2.1 y60002) (br (ilt y60002 z.2.1.2.2.2.2.2.1) (some (.ret,st_f83_0_ret y60000 y60001 y60002 z.1)) (some (.normal,st_f83_0 y60000 y60001 y60002 y60003_0))) (some (.normal,st_f83_0 y60000 y60001 y60002 y60003_0))) (some (.normal,st_f83_0 y60000 y60001 y60002 y60003_0))
noncomputable def lp_f83_0 (zs:List (Int×(Rule×Unit)))(y60000:Keep)(y60001 y60002 y60003_0:Int):Option (Exit×VS):=rangeF (roundR g_f83 fg_f83_0 (.pr tI (.pr tyRule .nil)) [14,15] ta_f83_0 tb_f83_0) zs (st_f83_0 y60000 y60001 y60002 y60003_0)
noncomputable def n_f83_0 (z:(Int×(Rule×Unit)))(zs:List (Int×(Rule×Unit)))(y60000:Keep)(y60001 y60002 y60003_0:Int):Option (Exit×VS):=br (concerns z.2.1 y60000 y60001) (br (ile z.2.1.2.2.2.2.1 y60002) (br (ilt y60002 z.2.1.2.2.2.2.2.1) (some (.ret,st_f83_0_ret y60000 y60001 y60002 z.1)) (lp_f83_0 zs y60000 y60001 y60002 y60003_0)) (lp_f83_0 zs y60000 y60001 y60002 y60003_0)) (lp_f83_0 zs y60000 y60001 y60002 y60003_0)
def la_f83_0 (zs:List (Int×(Rule×Unit)))(y60000:Keep)(y60001 y60002 y60003_0:Int):Option (Exit×VS):=br (decHit zs y60000 y60001 y60002 y60003_0) (some (.ret,st_f83_0_ret (y60000) (y60001) (y60002) (decAt zs y60000 y60001 y60002 y60003_0)))<|some (.normal,st_f83_0_normal (y60000) (y60001) (y60002) (y60003_0))
theorem be_f83_0 (z:(Int×(Rule×Unit)))(y60000:Keep)(y60001 y60002 y60003_0:Int):roundR g_f83 fg_f83_0 (.pr tI (.pr tyRule .nil)) [14,15] ta_f83_0 tb_f83_0 z (st_f83_0 y60000 y60001 y60002 y60003_0)=b_f83_0 z y60000 y60001 y60002 y60003_0:=by kernel_rfl
theorem ln0_f83_0 (y60000:Keep)(y60001:Int)(y60002:Int)(y60003_0:Int):lp_f83_0 [] y60000 y60001 y60002 y60003_0=some (.normal,st_f83_0_normal y60000 y60001 y60002 y60003_0):=rfl
theorem ln_f83_0 (z:(Int×(Rule×Unit)))(zs:List (Int×(Rule×Unit)))(y60000:Keep)(y60001 y60002 y60003_0:Int):lp_f83_0 (z::zs) y60000 y60001 y60002 y60003_0=n_f83_0 z zs y60000 y60001 y60002 y60003_0:=(rangeF_cons _ _ _ _).trans (by
 rw [be_f83_0]
 simp only [b_f83_0,n_f83_0,nxt_br,nxt_n,nxt_r,nxt_e,nxt_0]
 rfl)
def r_f83 (p0:Policy)(p1:Keep)(p2 p3:Int):Option (V×List VO):=br (decHit (backL p0.1) p1 p2 p3 0) (some (.t tI (decAt (backL p0.1) p1 p2 p3 0),[])) (some (.t tI (-1),[]))
theorem e_f83 (p0:Policy)(p1:Keep)(p2 p3:Int):runF g_f83 tc_f83 rv_f83 false [.t tyPolicy p0,.t tyKeep p1,.t tI p2,.t tI p3] []=r_f83 p0 p1 p2 p3:=by kernel_rfl
theorem en_f83:Entered Tryz.prog 83:= .inr ⟨by decide,_,Tryz.func83,by kernel_rfl,by kernel_rfl⟩
theorem gk_f83:GOk Tryz.prog g_f83:=gok_of _ (gA (gC en_f153 ms_f153 (gC en_f154 ms_f154 gN)))
 [(238,it_f153_1)] (by
 intro p hp
 simp only [List.mem_cons,List.not_mem_nil,or_false] at hp
 rcases hp with rfl
 ·exact is_f153_1)
theorem l_f83_0 (zs:List (Int×(Rule×Unit)))(y60000:Keep)(y60001 y60002 y60003_0:Int)(h:true=true):lp_f83_0 zs y60000 y60001 y60002 y60003_0=la_f83_0 zs y60000 y60001 y60002 y60003_0:=by
 clear h
 induction zs with
 |nil=>
  rw [ln0_f83_0]
  rfl
 |cons z zs ih=>
  rw [ln_f83_0]
  simp only [n_f83_0,ih,la_f83_0,decHit,decAt,decZ,List.find?_cons,matches',within',ile,ilt,Image.Sections,Image.Symbols,Keep.Alg,Keep.Bits,Finding.Source,Finding.Host,Finding.Machine,Finding.Day,Finding.Confidence,Finding.Kind,Finding.Subject,Finding.Use,Finding.Number,Finding.Text,Range.Low,Range.High,Known.Name,Known.Range,Known.Uses,Need.Name,Need.Range,Package.Name,Package.Version,Package.Needs,Endpoint.Name,Endpoint.Least,Endpoint.Most,Endpoint.Suites,Endpoint.OwnOrder,Endpoint.Identities,Endpoint.Anchors,Endpoint.Hashes,Endpoint.Fallback,Policy.Rules,Policy.Keeps,Dice.L,Dice.At,Section.Name,Section.Bytes,Symbol.Name,Symbol.Value,Pattern.Use,Pattern.Bytes,Reader.b,Reader.failed,Pad.at_,Pad.l,Parser.lines,Parser.at_,Parser.section,Parser.out,Setting.Section,Setting.Name,Setting.Value,Setting.Line,Identity.Key,Identity.KeyId,Identity.Chain,Row.name,Row.kind,Row.way,Row.sizes,Row.strengths,Draft.Endpoint,Draft.store,Rule.Allow,Rule.Alg,Rule.Below,Rule.Purpose,Rule.From,Rule.To,Line.words,Entry.Alias,Entry.Key,Entry.KeyId,Entry.Secret,Entry.Chain,Suite.Code,Suite.Name,Suite.Exchange,Suite.Sign,Suite.Cipher,Suite.Mac,Suite.Least,Suite.Most,Certificate.Serial,Certificate.Issuer,Certificate.Subject,Certificate.Key,Certificate.KeyId,Certificate.Hash,Certificate.From,Certificate.To,Certificate.Authority,Certificate.Path,Certificate.Names,Certificate.Seal,AcceptRange.lo,AcceptRange.hi,ErrorString.s]
  cases h1:concerns z.2.1 y60000 y60001<;>cases h2:decide (z.2.1.2.2.2.2.1<=y60002)<;>cases h3:decide (y60002<z.2.1.2.2.2.2.2.1)<;>simp [br_true,br_false]
theorem lo_f83_0: ∀ S (rows:List (Ty.T (.pr tI (.pr tyRule .nil)))) l p,g_f83.R 0 (fgt fg_f83_0 S) (.pr tI (.pr tyRule .nil)) rows=some (true,l)->pickA l=some p->rangeF (roundR g_f83 fg_f83_0 (.pr tI (.pr tyRule .nil)) [14,15] ta_f83_0 tb_f83_0) rows (fgt fg_f83_0 S)=some p:=by
 intro S rows l p hR hp
 rw [show g_f83.R 0 (fgt fg_f83_0 S) (.pr tI (.pr tyRule .nil)) rows=R_f83_0 (fgt fg_f83_0 S) rows from RL_at (l:=[⟨(.pr tI (.pr tyRule .nil)),R_f83_0⟩]) (j:=0) (F:=R_f83_0) rfl _ _] at hR
 refine lokR_of (s:=sh_f83_0) ⟨by decide,by decide⟩ (by kernel_rfl) (fun zs x y hok p hp=> ?_) S rows l p hR hp
 simp only [pickA_br,pickA_one] at hp
 exact (l_f83_0 zs y.1 y.2.1 y.2.2.1 y.2.2.2.1.1 (by first|rfl|simpa using hok)).trans hp
theorem lk_f83:tc_f83.lok g_f83:=by
 repeat (first|exact trivial|exact lo_f83_0|refine ⟨?_, ?_⟩)
theorem s_f83 (p0:Policy)(p1:Keep)(p2 p3:Int):r_f83 p0 p1 p2 p3=some (.t tI (decF p0 p1 p2 p3),[]):=by
 simp only [r_f83,decF,decHit,decAt]
 cases decZ (backL p0.1) p1 p2 p3<;>simp [br_true,br_false]
def sp_f83:Ent:=spec (.pr tyPolicy (.pr tyKeep (.pr tI (.pr tI .nil)))) (fun x=>true) (fun x=>(.t tI (decF x.1 x.2.1 x.2.2.1 x.2.2.2.1)))
theorem ms_f83:Meets Tryz.prog 83 (strip sp_f83):=meets_spec (R:=runF g_f83 tc_f83 rv_f83 false) (mG Tryz.func83 (by kernel_rfl) Tryz.ntmps83 (by kernel_rfl) gk_f83 lk_f83) fun x _=>(e_f83 x.1 x.2.1 x.2.2.1 x.2.2.2.1).trans (s_f83 x.1 x.2.1 x.2.2.1 x.2.2.2.1)
end Go.Proofs.YtmokmalepelinaaGreatDoor.K
namespace Go.Proofs.YtmokmalepelinaaGreatDoor.K
open Go.RowKit
def lastI {α:Type}(m:α->Bool):List α->Option Nat
 | []=>none
 |a::l=>match lastI m l with
  |some k=>some (k+1)
  |none=>if m a then some 0 else none
theorem lastI_app {α:Type}{m:α->Bool}{l2:List α}: ∀ l1:List α,lastI m (l1++l2)=match lastI m l2 with|some k=>some (l1.length+k)|none=>lastI m l1
 | []=>by
  simp only [List.nil_append,List.length_nil,Nat.zero_add]
  cases lastI m l2<;>rfl
 |a::l1=>by
  simp only [List.cons_append,lastI,lastI_app l1,List.length_cons]
  cases lastI m l2 with
  |none=>rfl
  |some k=>simp only [Option.some.injEq];omega
theorem lastI_none {α:Type}{m:α->Bool}: ∀ {l:List α},lastI m l=none↔ ∀ a,a∈l->m a=false
 | []=>by simp [lastI]
 |a::l=>by
  have ih:=lastI_none (m:=m) (l:=l)
  simp only [lastI]
  cases h:lastI m l with
  |some k=>
   have: ¬ ∀ a,a∈l->m a=false:=fun g=>by rw [ih.2 g] at h;cases h
   simp only [List.mem_cons,forall_eq_or_imp,reduceCtorEq,false_iff,not_and]
   exact fun _=>this
  |none=>
   have g:=ih.1 h
   cases hm:m a<;>simp_all
theorem lastI_some {α:Type}{m:α->Bool}: ∀ {l:List α} {k:Nat},lastI m l=some k↔ ∃ h:k<l.length,m l[k]=true∧ ∀ j (hj:j<l.length),k<j->m l[j]=false
 | [],k=>by simp [lastI]
 |a::l,k=>by
  have ih:= @lastI_some α m l
  simp only [lastI]
  cases h:lastI m l with
  |some i=>
   obtain ⟨h1,h2,h3⟩:=ih.1 h
   simp only [Option.some.injEq]
   constructor
   ·rintro rfl
    refine ⟨by simp;omega,by simpa using h2,fun j hj hk=> ?_⟩
    cases j with
    |zero=>omega
    |succ j=>simpa using h3 j (by simpa using hj) (by omega)
   ·rintro ⟨g1,g2,g3⟩
    cases k with
    |zero=>
     have:=g3 (i+1) (by simp;omega) (by omega)
     simp [h2] at this
    |succ k=>
     have g1':k<l.length:=by simpa using g1
     simp only [List.getElem_cons_succ] at g2
     have:lastI m l=some k:=ih.2 ⟨g1',g2,fun j hj hk=>by have:=g3 (j+1) (by rw [List.length_cons];omega) (by omega);rwa [List.getElem_cons_succ] at this⟩
     rw [this] at h
     injection h with h
     omega
  |none=>
   have g:=lastI_none.1 h
   cases hm:m a with
   |true=>
    simp only [if_true,Option.some.injEq]
    constructor
    ·rintro rfl
     refine ⟨by simp,by simpa using hm,fun j hj hk=> ?_⟩
     cases j with
     |zero=>omega
     |succ j=>simp only [List.getElem_cons_succ];exact g _ (List.getElem_mem _)
    ·rintro ⟨g1,g2,g3⟩
     cases k with
     |zero=>rfl
     |succ k=>
      simp only [List.getElem_cons_succ] at g2
      rw [g _ (List.getElem_mem _)] at g2
      cases g2
   |false=>
    simp only [Bool.false_eq_true,if_false,reduceCtorEq,false_iff]
    rintro ⟨g1,g2,g3⟩
    cases k with
    |zero=>simp [hm] at g2
    |succ k=>
     simp only [List.getElem_cons_succ] at g2
     rw [g _ (List.getElem_mem _)] at g2
     cases g2
theorem back_app {α:Type}(l:List α)(a:α):backL (l++[a])=((l.length:Int),(a,()))::backL l:=by
 unfold backL
 simp [List.zipIdx_append]
theorem rev_ind {α:Type}{P:List α->Prop}(h0:P [])(h1: ∀ l a,P l->P (l++[a]))(l:List α):P l:=by
 have: ∀ r:List α,P r.reverse:=by
  intro r
  induction r with
  |nil=>exact h0
  |cons a r ih=>rw [List.reverse_cons];exact h1 _ _ ih
 have h:=this l.reverse
 rwa [List.reverse_reverse] at h
theorem back_find {α:Type}{m:α->Bool}(l:List α):((backL l).find? fun z=>m z.2.1).map (·.1)=(lastI m l).map fun k:Nat=>(k:Int):=by
 induction l using rev_ind with
 |h0=>rfl
 |h1 l a ih=>
  rw [back_app,List.find?_cons,lastI_app]
  simp only [lastI]
  cases hm:m a
  ·simpa using ih
  ·simp
def decL (rs:List Rule)(u:Keep)(p d:Int):Option Nat:=lastI (fun r=>matches' r u p d) rs
theorem decF_eq {y:Policy}{u:Keep}{p d:Int}:decF y u p d=match decL y.1 u p d with|some k=>(k:Int)|none=> -1:=by
 unfold decF decZ decL
 rw [back_find (m:=fun r=>matches' r u p d)]
 cases lastI (fun r=>matches' r u p d) y.1<;>rfl
theorem decF_lt {y:Policy}{u:Keep}{p d:Int}: -1<=decF y u p d/\decF y u p d<y.1.length:=by
 rw [decF_eq]
 cases h:decL y.1 u p d with
 |none=>simp only;omega
 |some k=>
  obtain ⟨h1,_⟩:=lastI_some.1 h
  simp only
  omega
def allL (rs:List Rule)(u:Keep)(p d:Int):Bool:=match decL rs u p d with
 |some k=>(rs[k]?.map fun r:Rule=>r.1).getD true
 |none=>true
def allF (y:Policy)(u:Keep)(p d:Int):Bool:=allL y.1 u p d
def ends (rs:List Rule):List Int:=rs.flatMap fun r=>[r.2.2.2.2.1,r.2.2.2.2.2.1]
end Go.Proofs.YtmokmalepelinaaGreatDoor.K
namespace Go.Proofs.YtmokmalepelinaaGreatDoor.K
open Go.RowKit
noncomputable def tc_f82:TC:=(.sq (.reg (rT Tryz.f82 0)) (.sq (.reg (rT Tryz.f82 1)) (.sq (.reg (rT Tryz.f82 2)) .rt)))
def rv_f82:List (RV×Option Ty):=[((.t 8),some .bool)]
def g_f82:G:=⟨TYs,[],25,EL [(83,sp_f83)],keeps,(fun _ _=>none),IL [],RL []⟩
def r_f82 (p0:Policy)(p1:Keep)(p2 p3:Int):Option (V×List VO):=
 let a1:=decF p0 p1 p2 p3
 br (ilt a1 0) (some (.t .bool true,[])) (br (cIx p0.1 a1) (some (.t .bool ((lgt tyRule p0.1 (Int.toNat a1)).1),[])) none)
theorem e_f82 (p0:Policy)(p1:Keep)(p2 p3:Int):runF g_f82 tc_f82 rv_f82 false [.t tyPolicy p0,.t tyKeep p1,.t tI p2,.t tI p3] []=r_f82 p0 p1 p2 p3:=by kernel_rfl
theorem en_f82:Entered Tryz.prog 82:= .inr ⟨by decide,_,Tryz.func82,by kernel_rfl,by kernel_rfl⟩
theorem gk_f82:GOk Tryz.prog g_f82:=gok_of _ (gA (gC en_f83 ms_f83 gN))
theorem lk_f82:tc_f82.lok g_f82:=by repeat (first|exact trivial|refine ⟨?_, ?_⟩)
theorem allF_eq (y:Policy)(u:Keep)(p d:Int):allF y u p d=(ilt (decF y u p d) 0||(y.1.getD (decF y u p d).toNat tyRule.zero).1):=by
 unfold allF allL
 have h:=decF_eq (y:=y) (u:=u) (p:=p) (d:=d)
 cases hq:decL y.1 u p d with
 |none=>
  rw [hq] at h
  simp only at h
  rw [h]
  rfl
 |some k=>
  rw [hq] at h
  simp only at h
  rw [h]
  obtain ⟨h1,_⟩:=lastI_some.1 hq
  have e1:ilt (k:Int) 0=false:=by simp only [ilt,decide_eq_false_iff_not];omega
  simp only [e1,Bool.false_or,Int.toNat_natCast,List.getElem?_eq_getElem h1,Option.map_some,Option.getD_some,List.getD_eq_getElem?_getD]
theorem decF_ix {y:Policy}{u:Keep}{p d:Int}(h:ilt (decF y u p d) 0=false):cIx y.1 (decF y u p d)=true:=by
 have h2:=decF_lt (y:=y) (u:=u) (p:=p) (d:=d)
 simp only [ilt,decide_eq_false_iff_not] at h
 simp only [cIx,decide_eq_true_eq]
 omega
theorem s_f82 (y:Policy)(u:Keep)(p d:Int):r_f82 y u p d=some (.t .bool (allF y u p d),[]):=by
 simp only [r_f82,allF_eq]
 cases h:ilt (decF y u p d) 0 with
 |true=>simp [br_true]
 |false=>
  rw [decF_ix h,br_false,br_true,Bool.false_or,lgt]
def sp_f82:Ent:=spec (.pr tyPolicy (.pr tyKeep (.pr tI (.pr tI .nil)))) (fun x=>true) (fun x=>(.t .bool (allF x.1 x.2.1 x.2.2.1 x.2.2.2.1)))
theorem ms_f82:Meets Tryz.prog 82 (strip sp_f82):=meets_spec (R:=runF g_f82 tc_f82 rv_f82 false) (mG Tryz.func82 (by kernel_rfl) Tryz.ntmps82 (by kernel_rfl) gk_f82 lk_f82) fun x _=>(e_f82 x.1 x.2.1 x.2.2.1 x.2.2.2.1).trans (s_f82 x.1 x.2.1 x.2.2.1 x.2.2.2.1)
def earlyF (y:Policy)(u:Keep)(p d:Int):Int:=if polOk y=false then 25 else if validF u=false then 7 else if p<1∨4<p∨d<0∨40000<d then 2 else 0
def polLen4 (y:Policy)(_u:Keep)(_p _d:Int):Bool:=polLen y
noncomputable def tc_f81:TC:=(.sq (.reg (rT Tryz.f81 0)) (.sq (.sq (.reg (rT Tryz.f81 1)) (.sq (.reg (rT Tryz.f81 2)) (.cd (.t 13) (.sq (.reg (rT Tryz.f81 3)) .rt) .sk))) (.sq (.bk 0 (.sq (.reg (rT Tryz.f81 4)) (.cd (.t 15) (.sq (.reg (rT Tryz.f81 5)) .rt) (.sq (.reg (rT Tryz.f81 6)) (.cd (.t 19) (.sq (.reg (rT Tryz.f81 7)) .rt) .sk))))) (.sq (.reg (rT Tryz.f81 8)) .rt))))
def rv_f81:List (RV×Option Ty):=[((.t 8),some tI)]
def g_f81:G:=⟨TYs,[],34,EL [(46,sp_f46),(80,sp_f80)],keeps,(fun _ _=>none),IL [],RL []⟩
def r_f81 (p0:Policy)(p1:Keep)(p2 p3:Int):Option (V×List VO):=br (polLen p0) (br (ine (checkF p0) 0) (some (.t tI (checkF p0),[])) (br (!(validF p1)) (some (.t tI 7,[])) (br (ilt p2 1) (some (.t tI 2,[])) (br (igt p2 4) (some (.t tI 2,[])) (br (ilt p3 0) (some (.t tI 2,[])) (br (igt p3 40000) (some (.t tI 2,[])) (some (.t tI 0,[])))))))) none
theorem e_f81 (p0:Policy)(p1:Keep)(p2 p3:Int):runF g_f81 tc_f81 rv_f81 false [.t tyPolicy p0,.t tyKeep p1,.t tI p2,.t tI p3] []=r_f81 p0 p1 p2 p3:=by kernel_rfl
theorem en_f81:Entered Tryz.prog 81:= .inr ⟨by decide,_,Tryz.func81,by kernel_rfl,by kernel_rfl⟩
theorem gk_f81:GOk Tryz.prog g_f81:=gok_of _ (gA (gC en_f46 ms_f46 (gC en_f80 ms_f80 gN)))
theorem lk_f81:tc_f81.lok g_f81:=by repeat (first|exact trivial|refine ⟨?_, ?_⟩)
theorem s_f81 (y:Policy)(u:Keep)(p d:Int)(h:polLen4 y u p d=true):r_f81 y u p d=some (.t tI (earlyF y u p d),[]):=by
 have h:polLen y=true:=h
 simp only [r_f81,h,br_true,checkF,earlyF]
 cases polOk y with
 |false=>rfl
 |true=>
  simp only [if_true,show ine 0 0=false from rfl,br_false,Bool.true_eq_false,if_false]
  cases validF u with
  |false=>rfl
  |true=>
   simp only [Bool.not_true,br_false,Bool.true_eq_false,if_false]
   repeat' (refine br_intro ?_ ?_<;>intro _)
   all_goals simp only [igt,ilt,decide_eq_true_eq,decide_eq_false_iff_not] at*
   all_goals first
    |rw [if_pos (by omega)]
    |rw [if_neg (by omega)]
def sp_f81:Ent:=spec (.pr tyPolicy (.pr tyKeep (.pr tI (.pr tI .nil)))) (fun x=>(polLen4 x.1 x.2.1 x.2.2.1 x.2.2.2.1)) (fun x=>(.t tI (earlyF x.1 x.2.1 x.2.2.1 x.2.2.2.1)))
theorem ms_f81:Meets Tryz.prog 81 (strip sp_f81):=meets_spec (R:=runF g_f81 tc_f81 rv_f81 false) (mG Tryz.func81 (by kernel_rfl) Tryz.ntmps81 (by kernel_rfl) gk_f81 lk_f81) fun x hok=>(e_f81 x.1 x.2.1 x.2.2.1 x.2.2.2.1).trans (s_f81 x.1 x.2.1 x.2.2.1 x.2.2.2.1 hok)
def AllowedF (y:Policy)(u:Keep)(p d:Int):Bool×Int×Int:=if earlyF y u p d=0 then (allF y u p d,decF y u p d,0) else (false,0,earlyF y u p d)
noncomputable def dr_f23_0:List DO:=dT Tryz.f23 4
noncomputable def tc_f23:TC:=(.sq (.reg (rT Tryz.f23 0)) (.sq (.sq (.reg (rT Tryz.f23 1)) (.sq (.reg (rT Tryz.f23 2)) (.cd (.t 18) (.sq (.reg (rT Tryz.f23 3)) .rt) .sk))) (.sq (.dr dr_f23_0 [(0,[4]),(1,[5]),(2,[]),(3,[]),(4,[]),(5,[4]),(6,[5]),(7,[]),(8,[]),(9,[]),(10,[]),(11,[]),(12,[])] (.of [0,1,2,3,4,5,6,7,8,9,10,11,12])) .rt)))
def rv_f23:List (RV×Option Ty):=[((.t 8),some .bool),((.t 9),some tI),((.t 10),some tI)]
def g_f23:G:=⟨TYs,[],30,EL [(81,sp_f81),(82,sp_f82),(83,sp_f83)],keeps,(fun _ _=>none),IL [],RL []⟩
def r_f23 (p0:Policy)(p1:Keep)(p2 p3:Int):Option (V×List VO):=br (polLen4 p0 p1 p2 p3) (br (ine (earlyF p0 p1 p2 p3) 0) (some (.tu [(.t .bool false),(.t tI 0),(.t tI (earlyF p0 p1 p2 p3))],[])) (some (.tu [(.t .bool (allF p0 p1 p2 p3)),(.t tI (decF p0 p1 p2 p3)),(.t tI 0)],[]))) none
theorem e_f23 (p0:Policy)(p1:Keep)(p2 p3:Int):runF g_f23 tc_f23 rv_f23 false [.t tyPolicy p0,.t tyKeep p1,.t tI p2,.t tI p3] []=r_f23 p0 p1 p2 p3:=by kernel_rfl
theorem en_f23:Entered Tryz.prog 23:= .inr ⟨by decide,_,Tryz.func23,by kernel_rfl,by kernel_rfl⟩
theorem gk_f23:GOk Tryz.prog g_f23:=gok_of _ (gA (gC en_f81 ms_f81 (gC en_f82 ms_f82 (gC en_f83 ms_f83 gN))))
theorem lk_f23:tc_f23.lok g_f23:=by repeat (first|exact trivial|refine ⟨?_, ?_⟩)
theorem s_f23 (y:Policy)(u:Keep)(p d:Int)(h:polLen4 y u p d=true):r_f23 y u p d=some (.tu [.t .bool (AllowedF y u p d).1,.t tI (AllowedF y u p d).2.1,.t tI (AllowedF y u p d).2.2],[]):=by
 simp only [r_f23,h,br_true,AllowedF,ine_dec]
 by_cases h0:earlyF y u p d=0<;>simp [h0,br_true,br_false]
def sp_f23:Ent:=spec (.pr tyPolicy (.pr tyKeep (.pr tI (.pr tI .nil)))) (fun x=>(polLen4 x.1 x.2.1 x.2.2.1 x.2.2.2.1)) (fun x=>(.tu [(.t .bool ((AllowedF x.1 x.2.1 x.2.2.1 x.2.2.2.1).1)),(.t tI (((AllowedF x.1 x.2.1 x.2.2.1 x.2.2.2.1).2).1)),(.t tI (((AllowedF x.1 x.2.1 x.2.2.1 x.2.2.2.1).2).2))]))
theorem ms_f23:Meets Tryz.prog 23 (strip sp_f23):=meets_spec (R:=runF g_f23 tc_f23 rv_f23 false) (mG Tryz.func23 (by kernel_rfl) Tryz.ntmps23 (by kernel_rfl) gk_f23 lk_f23) fun x hok=>(e_f23 x.1 x.2.1 x.2.2.1 x.2.2.2.1).trans (s_f23 x.1 x.2.1 x.2.2.1 x.2.2.2.1 hok)
end Go.Proofs.YtmokmalepelinaaGreatDoor.K
namespace Go.Proofs.YtmokmalepelinaaGreatDoor.K
open Go.RowKit
noncomputable section
theorem el_meets {l:List (Nat×Ent)}(h: ∀ p∈l,Entered Tryz.prog p.1/\Meets Tryz.prog p.1 (strip p.2))(f:Nat):Meets Tryz.prog f (strip (EL l f)):=by
 intro args objs r os hF X w σ vs hfin hl hc
 unfold strip at hF
 split at hF
 ·rename_i r' os' hq
  obtain ⟨F,hm,hF'⟩:=EL_mem hq
  exact (h _ hm).2 args objs r os (by unfold strip;simp only [hF'];exact hF) X w σ vs hfin hl hc
 ·cases hF
def fsOk (x:(Ty.pr (.sl tySetting) (.pr .str .nil)).T):Bool:=match x.1 with
 | [s]=>seq s.1 webB&&(seq s.2.1 suitesB&&(seq s.2.2.1 rc4B&&(ieq s.2.2.2.1 2&&seq x.2.1 webB)))
 |_=>false
def fsR:V:= .tu [.t tyEndpoint feEp,.t tI 0,.t tI 0]
def fsE:Ent:=fun args objs=>match args,objs with
 | [a,b,.c (.slice none 0 0)],[]=>match (Ty.pr (.sl tySetting) (.pr .str .nil)).args [a,b] with
  |some x=>some (fsOk x,fsR,[])
  |none=>none
 |_,_=>none
theorem ms_fs:Meets Tryz.prog 21 (strip fsE):=by
 intro args objs r os hF X w σ vs hfin hl hc
 unfold strip fsE at hF
 split at hF
 ·rename_i r' os' hq
  simp only [Option.some.injEq,Prod.mk.injEq] at hF
  obtain ⟨rfl,rfl⟩:=hF
  split at hq
  ·rename_i a b
   split at hq
   ·rename_i x hx
    simp only [Option.some.injEq,Prod.mk.injEq] at hq
    obtain ⟨hok,rfl,rfl⟩:=hq
    simp only [V.ds,Cs] at hc
    obtain ⟨v1,q1,rfl,hc1,v2,q2,rfl,hc2,v3,q3,rfl,hc3,rfl⟩:=hc
    have hc3:v3= .slice none 0 0/\_:=hc3
    obtain ⟨rfl,_⟩:=hc3
    have hcc:=canon_cs (vs:=[v1,v2]) hx ⟨_,_,rfl,hc1,_,_,rfl,hc2,rfl⟩
    obtain ⟨ls,s2,ux⟩:=x
    unfold fsOk at hok
    split at hok
    ·rename_i s hs
     simp only at hs
     subst hs
     simp only [Bool.and_eq_true] at hok
     obtain ⟨h1,h2,h3,h4,h5⟩:=hok
     obtain ⟨s1,s2',s3,s4,su⟩:=s
     have e1:=seq_iff'.1 h1
     have e2:=seq_iff'.1 h2
     have e3:=seq_iff'.1 h3
     have e4:s4=2:=of_decide_eq_true h4
     have e5:=seq_iff'.1 h5
     simp only at e1 e2 e3 e5
     subst e1 e2 e3 e4 e5
     obtain ⟨v1',q1',h8,hv1,v2',q2',h9,hv2,h10⟩:=hcc
     injection h8 with h8 h8'
     subst h8
     rw [←h8'] at h9
     injection h9 with h9 h9'
     subst h9
     have hv2:v2= .string webB/\_:=hv2
     obtain ⟨rfl,_⟩:=hv2
     have hv1:C X w σ (.sl 1 ([paS].flatMap tySetting.cells)) v1:=hv1
     have hv:C X w nowhere (.sl 1 ([paS].flatMap tySetting.cells)) v1:=C.ext0 ⟨Nat.le_refl _,fun _ _ _ h=>⟨h,rfl⟩⟩ _ _ (by intro k hk;cases hk) hv1
     obtain ⟨A,c,rfl⟩:=sl_val hv
     refine (does_of (by decide) (from_any hfin A c hv)).mono ?_
     rintro e w' ⟨u,rfl,hu,hb⟩
     refine ⟨_,X,σ,rfl,⟨_,rfl,_,_,rfl,C.ext0 ⟨Nat.le_refl _,fun _ _ _ h=>⟨h,rfl⟩⟩ _ _ (by intro k hk;cases hk) hu,_,_,rfl,⟨rfl,rfl⟩,_,_,rfl,⟨rfl,rfl⟩,rfl⟩,ends_none rfl hfin hb⟩
    ·cases hok
   ·cases hq
  ·cases hq
 ·cases hF
theorem en_fs:Entered Tryz.prog 21:= .inr ⟨by decide,_,Tryz.func21,by kernel_rfl,by kernel_rfl⟩
theorem en_paP:Entered Tryz.prog 20:= .inr ⟨by decide,_,Tryz.func20,by kernel_rfl,by kernel_rfl⟩
theorem en_feR:Entered Tryz.prog 22:= .inr ⟨by decide,_,Tryz.func22,by kernel_rfl,by kernel_rfl⟩
theorem en_feF:Entered Tryz.prog 24:= .inr ⟨by decide,_,Tryz.func24,by kernel_rfl,by kernel_rfl⟩
def faR:List AR:=[{f:=5 }]
def faB:List (Nat×Ent):=[(20,EL paE 20),(21,fsE),(22,EL feE 22),(23,sp_f23),(24,EL feE 24)]
theorem faB_ok:AllE faB:=gC en_paP (el_meets paE_ok _)<|gC en_fs ms_fs<|gC en_feR (el_meets feE_ok _)<|gC en_f23 ms_f23<|gC en_feF (el_meets feE_ok _) gN
theorem faR_ok:faR.all (auChk Tryz.prog)=true:=by kernel_rfl
def faE:List (Nat×Ent):=auL Tryz.prog TYs faR faB
theorem faE_ok: ∀ p∈faE,Entered Tryz.prog p.1/\Meets Tryz.prog p.1 (strip p.2):=auA mixed faR_ok (gA faB_ok)
theorem fa_run:EL faE 5 [] []=some (true,.t .bool true,[]):=by kernel_rfl
def fawB:Bool:=true
def sp_f5:Ent:=spec .nil (fun x=>true) (fun x=>(.t .bool fawB))
theorem en_f5:Entered Tryz.prog 5:= .inr ⟨by decide,_,Tryz.func5,by kernel_rfl,by kernel_rfl⟩
theorem ms_f5:Meets Tryz.prog 5 (strip sp_f5):=meets_spec (el_meets faE_ok _) fun x _=>by
 unfold strip
 rw [show Ty.nil.canon x=[] from rfl,fa_run]
 rfl
end
end Go.Proofs.YtmokmalepelinaaGreatDoor.K
namespace Go.Proofs.YtmokmalepelinaaGreatDoor.K
open Go.RowKit Go.Region Go.Sort Go.Lib
attribute [local go_sem ↓] Go.wp_at_zero Go.wp_at_succ
set_option linter.unusedSectionVars false
theorem elemIntC:ElemOk Tryz.prog 22 3 1 8:=ElemOk.of (.int .i64 0) (by kernel_rfl) (by kernel_rfl) (by kernel_rfl) (by decide)
set_option maxHeartbeats 400000 in
theorem cloneI_calls (B:Nat)(av:Value)(zs:List Int)(w:World)(h:w.ownsRow B 3 1 av zs.length (zs.map (Value.int .i64)))(hn:zs.length<=100000)(h0:0<zs.length):
  Calls Tryz.prog 101 #[av] w fun r w'=> ∃ sv,r= .returned sv/\w'.ownsRow w.heap.size 3 1 sv zs.length (zs.map (Value.int .i64))/\Below w.heap.size w w':=by
 obtain ⟨A,c,rfl⟩:=own_sliceT h
 have hsl:Sl w (.slice A zs.length c) 1 zs.length (zs.map (Value.int .i64)):=Sl.of_own h
 have he:=eql_sl_nil (P:=Tryz.prog) w 22 3 A zs.length c (by kernel_rfl)
 have h1: ∀ u∈zs.map (Value.int .i64),u.oneCell'=true:=fun u hu=>by obtain ⟨_,_,rfl⟩:=List.mem_map.1 hu;rfl
 obtain ⟨ad,rfl⟩: ∃ ad,A=some ad:=by
  rcases h.2 with ⟨e,e2⟩|⟨g,cap,cur,e,_⟩
  ·omega
  ·injection e with e _ _
   exact ⟨_,e⟩
 simp only [Option.isNone_some] at he
 have hown:=World.ownsRow_made w #[] (size:=1) (e:=3) 0 (Nat.le_refl _) (Nat.zero_le _) rfl
 have hsrc:=hsl.alloc (.cells #[] 3)
 have HSRC:=Lib.hid hsrc
 have H1:=Lib.hid h1
 obtain ⟨n,hn'⟩: ∃ n,n=zs.length:=⟨_,rfl⟩
 rw [←hn'] at HSRC hn h0 he ⊢
 clear h hsrc hsl h1 hn'
 go_enter Tryz.func101,Tryz.ntmps101
 go_wp2_with (at_builtin;refine wpList_app elemIntC rfl _ _ rfl w.heap.size (.slice (some ⟨w.heap.size,0,none⟩) 0 0) 0 [] rfl hown (some ad) n c (zs.map (Value.int .i64)) rfl HSRC.out H1.out (by omega) (by omega) (by simp) ?_;intro v' w4 hown4 hg4 hat4)
 go_ret
 refine ⟨v',rfl,by simpa using hown4, ?_⟩
 have hal:=(Below.refl w.heap.size w).alloc (Nat.le_refl _) (.cells #[] 3)
 exact below_of_only hal hg4 (Nat.le_refl _) hal.size
def setM (w:World)(m:Nat)(o:Obj):World:={w with heap:=w.heap.setIfInBounds m o}
theorem setM_at {w:World}{m:Nat}(o:Obj)(h:m<w.heap.size):(setM w m o).heap[m]? = some o:=by
 simp [setM,h]
theorem setM_grown (w:World)(m:Nat)(o:Obj):w.grownBy (setM w m o) (some m):=⟨rfl,rfl,rfl,by simp [setM],fun k _ hne=>by
 have:m≠k:=fun e=>hne (by rw [e])
 simp [setM,this]⟩
theorem map_lt {w:World}{m c:Nat}{es:Array MapEntry}(hb:w.heap[m]? = some (.map es c)):m<w.heap.size:=(Array.getElem?_eq_some_iff.1 hb).1
theorem run_mapUpd {w:World}{m c:Nat}(k:Int)(hb:w.heap[m]? = some (.map #[] c)):
  (Instr.mapUpdate 190 (.map (some m)) (.int .i64 k) (.bool true)).run Tryz.prog w= .ok () (setM w m (.map #[{key:= .int .i64 k,val:= .bool true,born:=c }] (c+1))):=by
 have hm:Tryz.prog.underlying 190=some (.map 3 4):=by kernel_rfl
 have hk:Tryz.prog.underlying 3=some (.int .i64):=by kernel_rfl
 have hf:Instr.findNow (.int .i64) (.int .i64 k) ([]:List MapEntry) 0=some none:=rfl
 have hc:(Instr.checkKey false 10000 3 (.int .i64 k)).run Tryz.prog w= .ok () w:=MapKept.run_checkKey (k:= .int .i64 k) hk (by simp [MapKept.IsKey]) false 9999
 simp [Instr.mapUpdate,run_underlying hm,MapKept.run_getObj_map hb,hc,MapKept.run_findKey hk hf,MapKept.run_setObj_map _ hb,Result.andThen,setM]
theorem run_mapClear {w:World}{m c:Nat}{es:Array MapEntry}(hb:w.heap[m]? = some (.map es c))(ty:TypeId):
  (Builtin.clear_ #[190] ty #[.map (some m)]).run Tryz.prog w= .ok (.tuple #[]) (setM w m (.map #[] c)):=by
 have hm:Tryz.prog.underlying 190=some (.map 3 4):=by kernel_rfl
 simp [Builtin.clear_,run_underlying hm,MapKept.run_getObj_map hb,MapKept.run_setObj_map _ hb,Result.andThen,setM]
theorem run_mapLen {w:World}{m c:Nat}{es:Array MapEntry}(hb:w.heap[m]? = some (.map es c))(ty:TypeId):
  (Builtin.len_ #[190] ty #[.map (some m)]).run Tryz.prog w= .ok (.int .i64 (es.size:Int)) w:=
 run_len_map (P:=Tryz.prog) w 190 ty m es c (by kernel_rfl) hb
structure RS (w:World) (m:Nat) (wr:World) (av:Value) (zs:List Int) (es:Array MapEntry) (c:Nat):Prop where
 map:wr.heap[m]? = some (.map es c)
 bel:Below w.heap.size w wr
 own:wr.ownsRow w.heap.size 3 1 av zs.length (zs.map (Value.int .i64))
 ne:av.ownBlock≠some m
 le:w.heap.size<=m
section
variable {w wr w':World}{m c:Nat}{av:Value}{zs:List Int}{es:Array MapEntry}
theorem RS.grown (h:RS w m wr av zs es c)(hb:Below wr.heap.size wr w'):RS w m w' av zs es c:=
 ⟨(hb.block m (map_lt h.map)).trans h.map,h.bel.trans (hb.mono h.bel.size),own_grown h.own ⟨hb.os,hb.tape,hb.output,hb.size,fun j hj _=>hb.block j hj⟩ (row:=none) (fun b _ e=>by cases e),h.ne,h.le⟩
theorem RS.setM (h:RS w m wr av zs es c)(es':Array MapEntry)(c':Nat):RS w m (setM wr m (.map es' c')) av zs es' c':=
 ⟨setM_at _ (map_lt h.map),below_of_only h.bel (setM_grown _ _ _) h.le h.bel.size,own_grown h.own (setM_grown _ _ _) (fun b hb e=>h.ne (hb.trans e)),h.ne,h.le⟩
theorem RS.app {av':Value}{z:Int}(h:RS w m wr av zs es c)(h1:w'.ownsRow w.heap.size 3 1 av' (zs.length+1) (zs.map (Value.int .i64)++[.int .i64 z]))(h2:wr.grownBy w' av.ownBlock)(h3:av'.ownBlock=av.ownBlock∨av'.ownBlock=some wr.heap.size):RS w m w' av' (zs++[z]) es c:=by
 have hm:=map_lt h.map
 refine ⟨(h2.block m hm fun e=>h.ne e.symm).trans h.map, ?_,by simpa using h1,fun e=> ?_,h.le⟩
 ·cases ha:av.ownBlock with
  |none=>
   rw [ha] at h2
   exact h.bel.trans ⟨h2.os,h2.tape,h2.output,h2.size,fun k hk=>h2.block k (Nat.lt_of_lt_of_le hk h.bel.size) (fun e=>by cases e)⟩
  |some g=>
   rw [ha] at h2
   exact below_of_only h.bel h2 (h.own.lt g ha).1 h.bel.size
 ·rcases h3 with q|q
  ·exact h.ne (q.symm.trans e)
  ·rw [q] at e
   injection e with e
   omega
end
structure PL (w wr:World) (s:Value) (g off c g2 off2 c2:Nat) (lo hi:Value) (A3:Option Addr) (c3:Nat):Prop where
 eq:s= .slice (some ⟨g,off,none⟩) 2 c
 n1:wr.cell? ⟨g,off+2,none⟩=some (.slice (some ⟨g2,off2,none⟩) 1 c2)
 n2:wr.cell? ⟨g,off+5,none⟩=some (.slice A3 0 c3)
 d0:wr.cell? ⟨g2,off2,none⟩=some (.string kwSsl)
 d1:wr.cell? ⟨g2,off2+1,none⟩=some lo
 d2:wr.cell? ⟨g2,off2+2,none⟩=some hi
 lt:g<w.heap.size/\g2<w.heap.size
theorem PL.below {w wr w':World}{s:Value}{g off c g2 off2 c2:Nat}{lo hi:Value}{A3:Option Addr}{c3:Nat}(h:PL w wr s g off c g2 off2 c2 lo hi A3 c3)(hb:Below w.heap.size wr w'):PL w w' s g off c g2 off2 c2 lo hi A3 c3:=
 have k1: ∀ o,w'.cell? ⟨g,o,none⟩=wr.cell? ⟨g,o,none⟩:=fun o=>World.cell?_of_block (w:=wr) (a:=⟨g,o,none⟩) (hb.block g h.lt.1)
 have k2: ∀ o,w'.cell? ⟨g2,o,none⟩=wr.cell? ⟨g2,o,none⟩:=fun o=>World.cell?_of_block (w:=wr) (a:=⟨g2,o,none⟩) (hb.block g2 h.lt.2)
 ⟨h.eq,(k1 _).trans h.n1,(k1 _).trans h.n2,(k2 _).trans h.d0,(k2 _).trans h.d1,(k2 _).trans h.d2,h.lt⟩
theorem pl_of {X:Nat->Nat->Prop}{w:World}{s:Value}(hC:C X w nowhere (.sl 2 (pkC.flatMap tyPackage.cells)) s):
  ∃ g off c g2 off2 c2 lo hi A3 c3,PL w w s g off c g2 off2 c2 lo hi A3 c3/\C X w nowhere (.sl 0 []) lo/\C X w nowhere (.sl 0 []) hi/\lo.oneCell'=true/\hi.oneCell'=true:=by
 have hC:C X w nowhere (.sl 2 [.v (.string kwApp),.sl 1 [.v (.int .i64 2)],.sl 1 [.v (.string kwSsl),.sl 0 [],.sl 0 []],.v (.string kwSsl),.sl 2 [.v (.int .i64 1),.v (.int .i64 4)],.sl 0 []]) s:=hC
 simp only [C] at hC
 obtain ⟨A,c,rfl,_,_,_,h5⟩:=hC
 obtain ⟨g,off,us,rfl,h6,h7,_,h9,h10⟩:=h5 (by decide)
 simp only [Cs,C] at h6
 obtain ⟨_,_,rfl,⟨rfl,_⟩,_,_,rfl,⟨A1,c1,rfl,_⟩,_,_,rfl,⟨A2,c2,rfl,_,_,_,k5⟩,_,_,rfl,⟨rfl,_⟩,_,_,rfl,⟨A4,c4,rfl,_⟩,_,_,rfl,⟨A3,c3,rfl,_⟩,rfl⟩:=h6
 obtain ⟨g2,off2,us2,rfl,k6,k7,_,k9,k10⟩:=k5 (by decide)
 obtain ⟨_,_,rfl,⟨rfl,_⟩,lo,_,rfl,k61,hi,_,rfl,k62,rfl⟩:=k6
 exact ⟨g,off,c,g2,off2,c2,lo,hi,A3,c3,⟨rfl,h9 2 _ rfl,h9 5 _ rfl,k9 0 _ rfl,k9 1 _ rfl,k9 2 _ rfl,h7,k7⟩,by simp only [C,Cs];exact k61,by simp only [C,Cs];exact k62,k10 _ (by simp),k10 _ (by simp)⟩
theorem scX_calls {X:Nat->Nat->Prop}{f:FuncId}{E:Ent}{vs:List V}{r:V}{us:List Value}(hm:Meets Tryz.prog f (strip E))(hF:strip E vs []=some (r,[])){w:World}(hfin:Fin2 X w)(hc:Cs X w nowhere (V.ds vs) us)(hlt:f<1000000:=by decide):
  Calls Tryz.prog f us.toArray w fun en w'=> ∃ u X' σ',en= .returned u/\C X' w' σ' r.d u/\Below w.heap.size w w':=by
 refine (of_does hlt (hm _ _ _ _ hF X w nowhere us hfin lentN0 hc)).mono ?_
 rintro en w' ⟨u,X',σ',rfl,h1,h2⟩
 exact ⟨u,X',σ',rfl,h1,endsB0 h2⟩
theorem met_calls {X:Nat->Nat->Prop}{w wx:World}{s lo hi:Value}(hfin:Fin2 X w)(hb:Below w.heap.size w wx)(hC:C X w nowhere (.sl 2 (pkC.flatMap tyPackage.cells)) s)(hlo:C X w nowhere (.sl 0 []) lo)(hhi:C X w nowhere (.sl 0 []) hi):
  Calls Tryz.prog 102 #[s,.agg #[.string kwSsl,lo,hi]] wx fun e w'=>e= .returned (.int .i64 1)/\Below wx.heap.size wx w':=by
 have hF:strip (EL mtE 102) [.t (.sl tyPackage) pkC,.t tyNeed ndC] []=some (.t tI 1,[]):=by
  unfold strip
  rw [mt_met]
 refine (scX_calls (el_meets mtE_ok _) hF (fin2_belowF hfin hb) ⟨s,_,rfl,c_below hC hb rfl,_,_,rfl, ?_,rfl⟩).mono ?_
 ·show C X wx nowhere (.ag [.v (.string kwSsl),.sl 0 [],.sl 0 []]) _
  have h1:=c_below hlo hb rfl
  have h2:=c_below hhi hb rfl
  simp only [C,Cs] at h1 h2 ⊢
  exact ⟨_,rfl,_,_,rfl,⟨rfl,rfl⟩,_,_,rfl,h1,_,_,rfl,h2,rfl⟩
 ·rintro e w' ⟨u,X',σ',rfl,h1,h2⟩
  have h1:C X' w' σ' (.v (.int .i64 1)) u:=h1
  simp only [C] at h1
  obtain ⟨rfl,_⟩:=h1
  exact ⟨rfl,h2⟩
theorem has_calls {X:Nat->Nat->Prop}{w wx:World}{av:Value}{zs:List Int}{b:Bool}(hE:EL mtE 103 [.t (.sl tI) zs,.t tI 1] []=some (true,.t .bool b,[]))(hfin:Fin2 X w)(hb:Below w.heap.size w wx)(ho:wx.ownsRow w.heap.size 3 1 av zs.length (zs.map (Value.int .i64))):
  Calls Tryz.prog 103 #[av,.int .i64 1] wx fun e w'=>e= .returned (.bool b)/\Below wx.heap.size wx w':=by
 have hF:strip (EL mtE 103) [.t (.sl tI) zs,.t tI 1] []=some (.t .bool b,[]):=by
  unfold strip
  rw [hE]
 refine (scX_calls (el_meets mtE_ok _) hF (fin2_belowF hfin hb) ⟨av,_,rfl,own_c hfin (Nat.le_refl _) ho,_,_,rfl,⟨rfl,rfl⟩,rfl⟩).mono ?_
 rintro e w' ⟨u,X',σ',rfl,h1,h2⟩
 have h1:C X' w' σ' (.v (.bool b)) u:=h1
 simp only [C] at h1
 obtain ⟨rfl,_⟩:=h1
 exact ⟨rfl,h2⟩
theorem sortOwn_calls {B:Nat}{av:Value}{zs:List Int}{w:World}(h:w.ownsRow B 3 1 av zs.length (zs.map (Value.int .i64)))(h0:0<zs.length)(hl:zs.length<=100000):
  Calls Tryz.prog 61 #[av] w fun e w'=>e= .returned (.tuple #[])/\w'.ownsRow B 3 1 av zs.length ((sortI zs).map (Value.int .i64))/\w.grownBy w' av.ownBlock:=by
 rcases h.2 with ⟨q1,q2⟩|⟨g,cap,cur,rfl,q2,q3,q4,q5,q6,q7⟩
 ·omega
 ·have ht:cur.toList.take zs.length=zs.map (Value.int .i64):=by rw [Nat.mul_one] at q7;exact q7
  have hb:g<w.heap.size:=(Array.getElem?_eq_some_iff.1 q3).1
  refine (Any.slices_Sort_int Tryz.lays189 g 0 cap zs w (holds_of_blockI q3 ht) hb (by omega)).mono ?_
  rintro _ _ ⟨rfl,n,os,rfl⟩
  exact ⟨rfl,ownsRow_sortedI (n:=n) (os:=os) (ss:=zs) (ts:=sortI zs) (List.length_mergeSort _) q2 q3 q4 q5 q6,grownBy_sortedI _⟩
theorem sort01:sortI [0,1]=[0,1]:=List.mergeSort_of_pairwise (by decide)
set_option maxHeartbeats 8000000 in
theorem reach_calls {X:Nat->Nat->Prop}{w:World}{s:Value}(hfin:Fin2 X w)(hC:C X w nowhere (.sl 2 (pkC.flatMap tyPackage.cells)) s):
  Calls Tryz.prog 49 #[s,.int .i64 0] w fun e w'=> ∃ av,e= .returned av/\w'.ownsRow w.heap.size 3 1 av 2 [.int .i64 0,.int .i64 1]/\Below w.heap.size w w':=by
 obtain ⟨W1,hW1⟩: ∃ W1,W1=w.alloc (.cells #[.int .i64 0] 3):=⟨_,rfl⟩
 obtain ⟨W2,hW2⟩: ∃ W2,W2=W1.alloc (.map #[] 0):=⟨_,rfl⟩
 have hs1:W1.heap.size=w.heap.size+1:=by rw [hW1];simp
 have hmk:(Instr.makeMap 190 none).run Tryz.prog W1= .ok (.map (some (w.heap.size+1))) W2:=by rw [hW2, ← hs1];rfl
 have hm2:W2.heap[w.heap.size+1]? = some (.map #[] 0):=by rw [hW2, ← hs1];exact heap_alloc_new W1 _
 have hup:=run_mapUpd 0 hm2
 obtain ⟨W3,hW3⟩: ∃ W3,W3=setM W2 (w.heap.size+1) (.map #[{key:= .int .i64 0,val:= .bool true,born:=0 }] (0+1)):=⟨_,rfl⟩
 rw [←hW3] at hup
 rw [hW1] at hmk
 have hm3:W3.heap[w.heap.size+1]? = some (.map #[{key:= .int .i64 0,val:= .bool true,born:=0 }] 1):=by rw [hW3];exact setM_at _ (map_lt hm2)
 have hb3:Below w.heap.size w W3:=by
  have h2:Below w.heap.size w W2:=by
   rw [hW2,hW1]
   exact ((Below.refl _ _).alloc (Nat.le_refl _) _).alloc (by simp) _
  rw [hW3]
  exact below_of_only h2 (setM_grown _ _ _) (Nat.le_succ _) h2.size
 have ho3:W3.ownsRow w.heap.size 3 1 (.slice (some ⟨w.heap.size,0,none⟩) 1 1) 1 [.int .i64 0]:=by
  have h1:W1.ownsRow w.heap.size 3 1 (.slice (some ⟨w.heap.size,0,none⟩) 1 1) 1 [.int .i64 0]:=by
   rw [hW1]
   exact ⟨rfl,.inr ⟨w.heap.size,1,_,rfl,Nat.le_refl _,heap_alloc_new w _,Nat.le_refl _,by decide,rfl,rfl⟩⟩
  rw [hW3,hW2]
  refine own_grown (own_grown h1 (World.grownBy_alloc _ _ none) (fun _ _ e=>by cases e)) (setM_grown _ _ _) (fun b hb e=> ?_)
  have hb:some w.heap.size=some b:=hb
  injection hb with hb
  injection e with e
  omega
 have hne3:(Value.slice (some ⟨w.heap.size,0,none⟩) 1 1).ownBlock≠some (w.heap.size+1):=fun e=>by
  have e:some w.heap.size=some (w.heap.size+1):=e
  injection e with e
  omega
 obtain ⟨av,hav⟩: ∃ av,av=Value.slice (some ⟨w.heap.size,0,none⟩) 1 1:=⟨_,rfl⟩
 have HS3:=Lib.hid (RS.mk (w:=w) (m:=w.heap.size+1) (wr:=W3) (av:=av) (zs:=[0]) hm3 hb3 (hav▸ho3) (hav▸hne3) (Nat.le_succ _))
 obtain ⟨m,hm⟩: ∃ m,m=w.heap.size+1:=⟨_,rfl⟩
 have HM:=Lib.hid hm
 obtain ⟨g,off,c,g2,off2,c2,lo,hi,A3,c3,hpl,hlo,hhi,o1,o2⟩:=pl_of hC
 obtain ⟨rfl,_⟩:s= .slice (some ⟨g,off,none⟩) 2 c/\True:=⟨hpl.eq,trivial⟩
 obtain ⟨Al,cl,rfl⟩:=sl_val hlo
 obtain ⟨Ah,ch,rfl⟩:=sl_val hhi
 have HPL:=Lib.hid hpl
 have HMET:=Lib.hid fun wx (hb:Below w.heap.size w wx)=>met_calls hfin hb hC hlo hhi
 have HFIN:=Lib.hid hfin
 clear hm2 hm3 hb3 ho3 hW1 hW2 hW3 hs1 hC hfin hne3 hpl hlo hhi
 rw [←hm] at hmk hup HS3
 have HAV:=Lib.hid hav
 clear hav hm
 go_enter Tryz.func49,Tryz.ntmps49
 go_wp2_with fail
 rw [←HAV.out]
 clear hmk hup
 refine wp_loop_rounds 3 ?_
 rw [rounds_succ]
 generalize hK2:Code.rounds _ _ _ 2=K2
 have HK2:=Lib.hid hK2
 clear hK2
 have hlen: ∀ ty,(Builtin.len_ #[190] ty #[.map (some m)]).run Tryz.prog W3= .ok (.int .i64 1) W3:=fun ty=>run_mapLen HS3.out.map ty
 have hcl:=cloneI_calls _ av [0] W3 HS3.out.own (by decide) (by decide)
 have HCL:=Lib.hid hcl
 clear hcl
 go_wp2_with (go_at_call 101;refine HCL.out.mono ?_;rintro e w4 ⟨lv,rfl,hl4,hb4⟩;have HS4:=Lib.hid (HS3.out.grown hb4);obtain ⟨g4,c4,rfl,hg4⟩:=hl4.form (Nat.lt_succ_self 0);have HL4:=Lib.hid hl4;have HG4:=Lib.hid hg4;have hclr: ∀ ty,_:=fun ty=>run_mapClear HS4.out.map ty;clear hl4 hg4 hb4 hlen)
 generalize hw5:setM w4 m _=w5
 have HS5:=Lib.hid (show RS w m w5 av [0] #[] 1 from hw5▸HS4.out.setM #[] 1)
 have HL5:=Lib.hid (show w5.ownsRow W3.heap.size 3 1 (.slice (some ⟨g4,0,none⟩) 1 c4) 1 [.int .i64 0] from hw5▸own_grown HL4.out (setM_grown w4 m _) (fun b hb e=>by
  have hb:some g4=some b:=hb
  injection hb with hb
  injection e with e
  have:=map_lt HS3.out.map
  have:=HG4.out.1
  omega))
 clear hw5 hclr
 have hz0:w5.cell? ⟨g4,0,none⟩=some (.int .i64 0):=HL5.out.cellAt 0 (by decide)
 have HPL5:=Lib.hid (HPL.out.below HS5.out.bel)
 have hp1:=HPL5.out.n1
 refine wp_loop_rounds 2 ?_
 rw [rounds_succ]
 generalize hK3:Code.rounds _ _ _ 1=K3
 have HK3:=Lib.hid hK3
 clear hK3
 go_wp2_with fail
 clear hz0 hp1
 refine wp_loop_rounds 2 ?_
 rw [rounds_succ]
 generalize hK4:Code.rounds _ _ _ 1=K4
 have HK4:=Lib.hid hK4
 clear hK4
 have hd0:=HPL5.out.d0
 have hd1:=HPL5.out.d1
 have hd2:=HPL5.out.d2
 have HB6:=Lib.hid (show Below w5.heap.size w5 (w5.alloc (.cells #[.string kwSsl,.slice Al 0 cl,.slice Ah 0 ch] 54)) from (Below.refl _ _).alloc (Nat.le_refl _) _)
 have hmet:=HMET.out _ (HS5.out.grown HB6.out).bel
 have HMT:=Lib.hid hmet
 have HOC:=Lib.hid (And.intro o1 o2)
 clear hmet
 go_wp2_with (first|(go_at_call 102;refine HMT.out.mono ?_;rintro e w7 ⟨rfl,hb7⟩;have HS7:=Lib.hid ((HS5.out.grown HB6.out).grown hb7);have HH7:=Lib.hid (has_calls mt_has1 HFIN.out HS7.out.bel HS7.out.own);clear hb7)|(go_at_call 103;refine HH7.out.mono ?_;rintro e w8 ⟨rfl,hb8⟩;have HS8:=Lib.hid (HS7.out.grown hb8);have hup:=run_mapUpd 1 HS8.out.map;have HS9:=Lib.hid ((HS8.out.setM #[{key:= .int .i64 1,val:= .bool true,born:=1 }] (1+1)).grown ((Below.refl _ _).alloc (Nat.le_refl _) (.cells #[.int .i64 1] 3)));clear hb8)|(at_builtin;refine wpList_app elemIntC rfl _ _ rfl w.heap.size av 1 [.int .i64 0] rfl HS9.out.own (some ⟨(setM w8 m (.map #[{key:= .int .i64 1,val:= .bool true,born:=1 }] (1+1))).heap.size,0,none⟩) 1 1 [.int .i64 1] rfl (Sl.made _ 3 1 1 #[.int .i64 1] rfl (by decide)) (fun u hu=>by rw [List.mem_singleton.1 hu];rfl) (by decide) (by decide) HS9.out.bel.size ?_;intro v' w10 hown hg hat;have HS10:=Lib.hid (HS9.out.app (z:=1) hown hg hat);clear hown hg hat hup))
 clear hd0 hd1 hd2
 rw [←HK4.out,rounds_succ]
 generalize hK5:Code.rounds _ _ _ 0=K5
 clear hK5 HK4
 go_wp2_with fail
 rw [←HK3.out,rounds_succ]
 generalize hK5:Code.rounds _ _ _ 0=K5
 clear hK5 HK3
 go_wp2_with fail
 rw [←HK2.out,rounds_succ]
 generalize hK6:Code.rounds _ _ _ 1=K6
 have HK6:=Lib.hid hK6
 clear hK6 HK2
 clear HMT HCL HL5 HPL5 HS3 HS4 HS5 HB6 HS7 HH7 HS8 HS9 HL4 HG4
 have hlen: ∀ ty,(Builtin.len_ #[190] ty #[.map (some m)]).run Tryz.prog w10= .ok (.int .i64 1) w10:=fun ty=>run_mapLen HS10.out.map ty
 have hcl:=cloneI_calls _ v' [0,1] w10 HS10.out.own (by decide) (by decide)
 have HCL:=Lib.hid hcl
 clear hcl
 go_wp2_with (go_at_call 101;refine HCL.out.mono ?_;rintro e w14 ⟨lv,rfl,hl4,hb4⟩;have HS14:=Lib.hid (HS10.out.grown hb4);obtain ⟨g14,c14,rfl,hg4⟩:=hl4.form (Nat.succ_pos 1);have HL14:=Lib.hid hl4;have HG14:=Lib.hid hg4;have hclr: ∀ ty,_:=fun ty=>run_mapClear HS14.out.map ty;clear hl4 hg4 hb4 hlen)
 generalize hw15:setM w14 m _=w15
 have HS15:=Lib.hid (show RS w m w15 v' [0,1] #[] 2 from hw15▸HS14.out.setM #[] 2)
 have HL15:=Lib.hid (show w15.ownsRow w10.heap.size 3 1 (.slice (some ⟨g14,0,none⟩) 2 c14) 2 [.int .i64 0,.int .i64 1] from hw15▸own_grown HL14.out (setM_grown w14 m _) (fun b hb e=>by
  have hb:some g14=some b:=hb
  injection hb with hb
  injection e with e
  have:=map_lt HS10.out.map
  have:=HG14.out.1
  omega))
 clear hw15 hclr
 have hz0:w15.cell? ⟨g14,0,none⟩=some (.int .i64 0):=HL15.out.cellAt 0 (by decide)
 have HPL15:=Lib.hid (HPL.out.below HS15.out.bel)
 have hp1:=HPL15.out.n1
 refine wp_loop_rounds 3 ?_
 rw [rounds_succ]
 generalize hK3:Code.rounds _ _ _ 2=K3
 have HK3:=Lib.hid hK3
 clear hK3
 go_wp2_with fail
 clear hz0 hp1
 refine wp_loop_rounds 2 ?_
 rw [rounds_succ]
 generalize hK4:Code.rounds _ _ _ 1=K4
 have HK4:=Lib.hid hK4
 clear hK4
 have hd0:=HPL15.out.d0
 have hd1:=HPL15.out.d1
 have hd2:=HPL15.out.d2
 have HB16:=Lib.hid (show Below w15.heap.size w15 (w15.alloc (.cells #[.string kwSsl,.slice Al 0 cl,.slice Ah 0 ch] 54)) from (Below.refl _ _).alloc (Nat.le_refl _) _)
 have hmet:=HMET.out _ (HS15.out.grown HB16.out).bel
 have HMT:=Lib.hid hmet
 clear hmet
 go_wp2_with (first|(go_at_call 102;refine HMT.out.mono ?_;rintro e w17 ⟨rfl,hb7⟩;have HB17:=Lib.hid hb7;have HS17:=Lib.hid ((HS15.out.grown HB16.out).grown hb7);have HH17:=Lib.hid (has_calls mt_has2 HFIN.out HS17.out.bel HS17.out.own);clear hb7)|(go_at_call 103;refine HH17.out.mono ?_;rintro e w18 ⟨rfl,hb8⟩;have HB18:=Lib.hid hb8;have HS18:=Lib.hid (HS17.out.grown hb8);clear hb8))
 clear hd0 hd1 hd2
 rw [←HK4.out,rounds_succ]
 generalize hK5:Code.rounds _ _ _ 0=K5
 clear hK5 HK4
 go_wp2_with fail
 rw [←HK3.out,rounds_succ]
 generalize hK7:Code.rounds _ _ _ 1=K7
 have HK7:=Lib.hid hK7
 clear hK7 HK3
 have HB19:=Lib.hid (show Below w15.heap.size w15 w18 from (HB16.out.trans (HB17.out.mono HB16.out.size)).trans (HB18.out.mono (Nat.le_trans HB16.out.size HB17.out.size)))
 have hz1:w18.cell? ⟨g14,1,none⟩=some (.int .i64 1):=(HB19.out.cell (p:=⟨g14,1,none⟩) (HL15.out.lt _ rfl).2).trans (HL15.out.cellAt 1 (by decide))
 have hp2:=(HPL.out.below HS18.out.bel).n2
 go_wp2_with fail
 clear hz1 hp2
 refine wp_loop_rounds 1 ?_
 rw [rounds_succ]
 generalize hK5:Code.rounds _ _ _ 0=K5
 clear hK5
 go_wp2_with fail
 rw [←HK7.out,rounds_succ]
 generalize hK5:Code.rounds _ _ _ 0=K5
 clear hK5 HK7
 go_wp2_with fail
 rw [←HK6.out,rounds_succ]
 generalize hK5:Code.rounds _ _ _ 0=K5
 clear hK5 HK6
 have hlen: ∀ ty,(Builtin.len_ #[190] ty #[.map (some m)]).run Tryz.prog w18= .ok (.int .i64 0) w18:=fun ty=>run_mapLen HS18.out.map ty
 have HSO:=Lib.hid (sortOwn_calls HS18.out.own (by decide) (by decide))
 go_wp2_with (go_at_call 61;refine HSO.out.mono ?_;rintro e w20 ⟨rfl,ho20,hg20⟩;have HO20:=Lib.hid ho20;have HG20:=Lib.hid hg20;clear ho20 hg20 hlen)
 go_ret
 refine ⟨v',rfl,by have:=HO20.out;rw [sort01] at this;exact this, ?_⟩
 have hg:=HG20.out
 cases ha:v'.ownBlock with
 |none=>
  rw [ha] at hg
  exact HS18.out.bel.trans ⟨hg.os,hg.tape,hg.output,hg.size,fun k hk=>hg.block k (Nat.lt_of_lt_of_le hk HS18.out.bel.size) (fun e=>by cases e)⟩
 |some g0=>
  rw [ha] at hg
  exact below_of_only HS18.out.bel hg (HS18.out.own.lt g0 ha).1 HS18.out.bel.size
noncomputable section
def rchF (_l:List Package)(_n:Int):List Int:=[0,1]
def rchOk (l:List Package)(n:Int):Bool:= @decide (l=pkC/\n=0) (Classical.propDecidable _)
def sp_f49:Ent:=spec (.pr (.sl tyPackage) (.pr tI .nil)) (fun x=>(rchOk x.1 x.2.1)) (fun x=>(.t (.sl tI) (rchF x.1 x.2.1)))
theorem en_f49:Entered Tryz.prog 49:= .inr ⟨by decide,_,Tryz.func49,by kernel_rfl,by kernel_rfl⟩
theorem ms_f49:Meets Tryz.prog 49 (strip sp_f49):=by
 unfold sp_f49
 refine meets_calls (fun x hok X w σ vs hfin hc=> ?_)
 obtain ⟨l,n,u⟩:=x
 obtain ⟨rfl,rfl⟩:l=pkC/\n=0:= @of_decide_eq_true _ (Classical.propDecidable _) hok
 have hc:Cs X w σ [.sl 2 (pkC.flatMap tyPackage.cells),.v (.int .i64 0)] vs:=hc
 obtain ⟨s1,_,rfl,hC,hc⟩:=hc
 obtain ⟨s2,rfl,hD⟩:=hc.one
 have hC:C X w nowhere (.sl 2 (pkC.flatMap tyPackage.cells)) s1:=by simp only [C] at hC ⊢; exact hC
 simp only [C] at hD
 obtain ⟨rfl,_⟩:=hD
 refine (reach_calls hfin hC).mono ?_
 rintro e w' ⟨av,rfl,ho,hb⟩
 exact ⟨av,rfl,own_c (zs:=[0,1]) hfin (Nat.le_refl _) ho,hb⟩
end
end Go.Proofs.YtmokmalepelinaaGreatDoor.K
namespace Go.Proofs.YtmokmalepelinaaGreatDoor.K
open Go.RowKit
noncomputable section
def u3F (x:Known):Bool:=anyW x.2.2.1
def u3Ok (x:Known):Bool:=lenW x.2.2.1
noncomputable def tc_f47c45:TC:=(.sq (.reg (rT Tryz.f47 0)) (.sq (.reg (rT Tryz.f47 1)) .rt))
def rv_f47c45:List (RV×Option Ty):=[((.t 3),some .bool)]
def g_f47c45:G:=⟨TYs,[],8,EL [(48,sp_f48c45)],keeps,(fun _ _=>none),IL [],RL []⟩
def r_f47c45 (p0:Known):Option (V×List VO):=br (lenW p0.2.2.1) (some (.t .bool (anyW p0.2.2.1),[.box (.c (.func (.func 45) #[] #[]))])) none
theorem e_f47c45 (p0:Known):runF g_f47c45 tc_f47c45 rv_f47c45 false [.t tyKnown p0,.ptr 50000 0] [.box (.c (.func (.func 45) ⟨[]⟩ ⟨[]⟩))]=r_f47c45 p0:=by kernel_rfl
theorem en_f47c45:Entered Tryz.prog 47:= .inr ⟨by decide,_,Tryz.func47,by kernel_rfl,by kernel_rfl⟩
theorem gk_f47c45:GOk Tryz.prog g_f47c45:=gok_of _ (gA (gC en_f48c45 ms_f48c45 gN))
theorem lk_f47c45:tc_f47c45.lok g_f47c45:=by repeat (first|exact trivial|refine ⟨?_, ?_⟩)
theorem s_f47c45 (x:Known)(h:u3Ok x=true):r_f47c45 x=some (.t .bool (u3F x),[.box (.c (.func (.func 45) #[] #[]))]):=by
 have h:lenW x.2.2.1=true:=h
 simp only [r_f47c45,h,br_true]
 rfl
def sp_f47c45:Ent:=specB [.ty tyKnown,.ptr 50000 0] [.bc 45] (fun x y=>(u3Ok x.1)) (fun x y=>(.t .bool (u3F x.1))) (fun x y=>[.box (.c (.func (.func 45) #[] #[]))])
theorem ms_f47c45:Meets Tryz.prog 47 (strip sp_f47c45):=meets_B (meets_specS (R:=runF g_f47c45 tc_f47c45 rv_f47c45 false) (mG Tryz.func47 (by kernel_rfl) Tryz.ntmps47 (by kernel_rfl) gk_f47c45 lk_f47c45) fun x y hok=>(e_f47c45 x.1).trans (s_f47c45 x.1 hok))
def fstK:List Known->Option Nat
 | []=>none
 |x::l=>if u3F x=true then some 0 else (fstK l).map (· + 1)
theorem fstK_any: ∀ l:List Known,(fstK l).isSome=l.any u3F
 | []=>rfl
 |x::l=>by
  simp only [fstK,List.any_cons]
  cases h:u3F x with
  |true=>simp
  |false=>simp [fstK_any l]
def lenK (l:List Known):Bool:=decide (l.length<=100000)&&l.all u3Ok
def ixK (l:List Known):Int:=match fstK l with|some k=>(k:Int)|none=> -1
def fg_f97c47c45_0:Fg:=⟨[(0,some (.sl tyKnown)),(1,none),(7,some tI),(8,some tI)],[(50000,none)]⟩
noncomputable def tb_f97c47c45_0:TC:=(.sq (.reg (rT Tryz.f97 2)) (.sq (.cd (.t 9) .sk (.fg ⟨[],[(50000,none)]⟩ (.ex 0))) (.sq (.bk 1 (.sq (.reg (rT Tryz.f97 3)) (.sq (.reg (rT Tryz.f97 4)) (.cd (.t 16) (.sq (.reg (rT Tryz.f97 5)) (.fg ⟨[(4,some tI)],[(50000,none)]⟩ .rt)) .sk)))) (.reg (rT Tryz.f97 6)))))
noncomputable def tc_f97c47c45:TC:=(.sq (.reg (rT Tryz.f97 0)) (.sq (.sq (.reg (rT Tryz.f97 1)) (.bk 0 (.lp 0 fg_f97c47c45_0 tb_f97c47c45_0))) (.sq (.reg (rT Tryz.f97 7)) .rt)))
def rv_f97c47c45:List (RV×Option Ty):=[((.t 4),some tI)]
abbrev sh_f97c47c45_0:Sh:=⟨[(0,.ty (.sl tyKnown)),(1,.fn 47 [(50000,0)]),(7,.ty tI),(8,.ty tI)],[(50000,.bc 45)]⟩
def st_f97c47c45_0 (x0:List Known)(x7 x8:Int):VS:=sh_f97c47c45_0.st (x0,(),x7,x8,()) ((),())
abbrev sh_f97c47c45_0_ret:Sh:=⟨[(4,.ty tI)],[(50000,.bc 45)]⟩
def st_f97c47c45_0_ret (x4:Int):VS:=sh_f97c47c45_0_ret.st (x4,()) ((),())
abbrev sh_f97c47c45_0_e0:Sh:=⟨[],[(50000,.bc 45)]⟩
def st_f97c47c45_0_e0  : VS:=sh_f97c47c45_0_e0.st () ((),())
def L_f97c47c45_0:VS->Option (Bool×List (Bool×Exit×VS)):=mkL sh_f97c47c45_0 (fun x y=>(rngOk x.1 x.2.2.1 x.2.2.2.1&&x.1.all u3Ok)) (fun x y=>[(((fstK (x.1.drop x.2.2.2.1.toNat)).isSome),.ret,st_f97c47c45_0_ret (x.2.2.2.1+((fstK (x.1.drop x.2.2.2.1.toNat)).getD 0:Nat))),(true,.exit 0,st_f97c47c45_0_e0)])
def g_f97c47c45:G:=⟨TYs,[],19,EL [(47,sp_f47c45)],keeps,(Ls [L_f97c47c45_0]),IL [],RL []⟩
def b_f97c47c45_0 (x0:List Known)(x7 x8:Int):Option (Exit×VS):=
 let a1:=lgt tyKnown x0 (Int.toNat x8)
 br (ilt x8 x7) (br (cIx x0 x8) (br (u3Ok a1) (br (u3F a1) (some (.ret,st_f97c47c45_0_ret x8)) (some (.normal,st_f97c47c45_0 x0 x7 (iadd .i64 x8 1)))) none) none) (some (.exit 0,st_f97c47c45_0_e0))
noncomputable def lp_f97c47c45_0 (x0:List Known)(x7 x8:Int):Option (Exit×VS):=loopF (roundF g_f97c47c45 fg_f97c47c45_0 tb_f97c47c45_0) (st_f97c47c45_0 x0 x7 x8)
noncomputable def n_f97c47c45_0 (x0:List Known)(x7 x8:Int):Option (Exit×VS):=
 let a1:=lgt tyKnown x0 (Int.toNat x8)
 br (ilt x8 x7) (br (cIx x0 x8) (br (u3Ok a1) (br (u3F a1) (some (.ret,st_f97c47c45_0_ret x8)) (lp_f97c47c45_0 x0 x7 (iadd .i64 x8 1))) none) none) (some (.exit 0,st_f97c47c45_0_e0))
def la_f97c47c45_0 (x0:List Known)(x7 x8:Int):Option (Exit×VS):=
 let a1:=fstK (x0.drop x8.toNat)
 br (a1.isSome) (some (.ret,st_f97c47c45_0_ret (x8+(a1.getD 0:Nat))))<|some (.exit 0,st_f97c47c45_0_e0)
theorem be_f97c47c45_0 (x0:List Known)(x7 x8:Int):roundF g_f97c47c45 fg_f97c47c45_0 tb_f97c47c45_0 (st_f97c47c45_0 x0 x7 x8)=b_f97c47c45_0 x0 x7 x8:=by kernel_rfl
theorem ln_f97c47c45_0 (x0:List Known)(x7 x8:Int):lp_f97c47c45_0 x0 x7 x8=n_f97c47c45_0 x0 x7 x8:=(loopF_nxt _ _).trans (by
 rw [be_f97c47c45_0]
 simp only [b_f97c47c45_0,n_f97c47c45_0,nxt_br,nxt_n,nxt_r,nxt_e,nxt_0]
 rfl)
def r_f97c47c45 (p0:List Known):Option (V×List VO):=
 let a1:=(fstK (p0.drop (0:Int).toNat))
 br (rngOk p0 (llen p0) (0:Int)&&p0.all u3Ok) (br (a1.isSome) (some (.t tI ((0:Int)+(a1.getD 0:Nat)),[.box (.c (.func (.func 45) #[] #[]))])) (some (.t tI (-1),[.box (.c (.func (.func 45) #[] #[]))]))) none
theorem e_f97c47c45 (p0:List Known):runF g_f97c47c45 tc_f97c47c45 rv_f97c47c45 false [.t (.sl tyKnown) p0,.fn 47 [(.ptr 50000 0)]] [.box (.c (.func (.func 45) ⟨[]⟩ ⟨[]⟩))]=r_f97c47c45 p0:=by kernel_rfl
theorem en_f97c47c45:Entered Tryz.prog 97:= .inr ⟨by decide,_,Tryz.func97,by kernel_rfl,by kernel_rfl⟩
theorem gk_f97c47c45:GOk Tryz.prog g_f97c47c45:=gok_of _ (gA (gC en_f47c45 ms_f47c45 gN))
theorem l_f97c47c45_0 (x0:List Known)(x7 x8:Int)(h:(rngOk x0 x7 x8&&x0.all u3Ok)=true):lp_f97c47c45_0 x0 x7 x8=la_f97c47c45_0 x0 x7 x8:=by
 simp only [Bool.and_eq_true,List.all_eq_true] at h
 obtain ⟨h0,h4⟩:=h
 obtain ⟨rfl,h3,k,rfl,hk⟩:=rng_k h0
 clear h0
 refine range_ind x0 (fun k=>lp_f97c47c45_0 x0 (x0.length:Int) (k:Int)=la_f97c47c45_0 x0 (x0.length:Int) (k:Int)) ?_ ?_ k hk
 ·rw [ln_f97c47c45_0]
  simp [n_f97c47c45_0,la_f97c47c45_0,ilt_nat,br_false,fstK]
 ·intro k hk ih
  rw [ln_f97c47c45_0]
  simp only [n_f97c47c45_0,ilt_nat,cIx_nat,hk,decide_true,br_true,Int.toNat_natCast,add1 (k:=k),ih,lgt_get (y:=tyKnown) hk,h4 _ (List.getElem_mem hk)]
  simp only [la_f97c47c45_0,Int.toNat_natCast,List.drop_eq_getElem_cons hk,fstK]
  cases h:u3F x0[k] with
  |true=>simp [br_true]
  |false=>
   simp only [br_false,Bool.false_eq_true,if_false]
   cases hq:fstK (x0.drop (k+1)) with
   |none=>rfl
   |some j=>
    simp only [Option.map_some,Option.isSome_some,Option.getD_some,br_true]
    congr 3
    omega
theorem lo_f97c47c45_0: ∀ S l p,g_f97c47c45.L 0 (fgt fg_f97c47c45_0 S)=some (true,l)->pickA l=some p->loopF (roundF g_f97c47c45 fg_f97c47c45_0 tb_f97c47c45_0) S=some p:=
 lok_of (s:=sh_f97c47c45_0) ⟨by decide,by decide⟩ (by kernel_rfl) fun x y hok p hp=>by
 simp only [pickA_br,pickA_one] at hp
 exact (l_f97c47c45_0 x.1 x.2.2.1 x.2.2.2.1 (by simpa using hok)).trans hp
theorem lk_f97c47c45:tc_f97c47c45.lok g_f97c47c45:=by
 repeat (first|exact trivial|exact lo_f97c47c45_0|refine ⟨?_, ?_⟩)
theorem s_f97c47c45 (l:List Known)(h:lenK l=true):r_f97c47c45 l=some (.t tI (ixK l),[.box (.c (.func (.func 45) #[] #[]))]):=by
 obtain ⟨h,h2⟩:=Bool.and_eq_true_iff.1 h
 have h:l.length<=100000:=of_decide_eq_true h
 simp only [r_f97c47c45,rng_0 h,h2,Bool.true_and,br_true,Int.toNat_zero,List.drop_zero,ixK]
 cases fstK l<;>simp [br_true,br_false]
def sp_f97c47c45:Ent:=specB [.ty (.sl tyKnown),.fn 47 [(50000,0)]] [.bc 45] (fun x y=>(lenK x.1)) (fun x y=>(.t tI (ixK x.1))) (fun x y=>[.box (.c (.func (.func 45) #[] #[]))])
theorem ms_f97c47c45:Meets Tryz.prog 97 (strip sp_f97c47c45):=meets_B (meets_specS (R:=runF g_f97c47c45 tc_f97c47c45 rv_f97c47c45 false) (mG Tryz.func97 (by kernel_rfl) Tryz.ntmps97 (by kernel_rfl) gk_f97c47c45 lk_f97c47c45) fun x y hok=>(e_f97c47c45 x.1).trans (s_f97c47c45 x.1 hok))
def anyK (l:List Known):Bool:=l.any u3F
noncomputable def tc_f42c47c45:TC:=(.sq (.reg (rT Tryz.f42 0)) (.sq (.reg (rT Tryz.f42 1)) .rt))
def rv_f42c47c45:List (RV×Option Ty):=[((.t 4),some .bool)]
def g_f42c47c45:G:=⟨TYs,[],9,EL [(97,sp_f97c47c45)],keeps,(fun _ _=>none),IL [],RL []⟩
def r_f42c47c45 (p0:List Known):Option (V×List VO):=br (lenK p0) (some (.t .bool (ige (ixK p0) 0),[.box (.c (.func (.func 45) #[] #[]))])) none
theorem e_f42c47c45 (p0:List Known):runF g_f42c47c45 tc_f42c47c45 rv_f42c47c45 false [.t (.sl tyKnown) p0,.fn 47 [(.ptr 50000 0)]] [.box (.c (.func (.func 45) ⟨[]⟩ ⟨[]⟩))]=r_f42c47c45 p0:=by kernel_rfl
theorem en_f42c47c45:Entered Tryz.prog 42:= .inr ⟨by decide,_,Tryz.func42,by kernel_rfl,by kernel_rfl⟩
theorem gk_f42c47c45:GOk Tryz.prog g_f42c47c45:=gok_of _ (gA (gC en_f97c47c45 ms_f97c47c45 gN))
theorem lk_f42c47c45:tc_f42c47c45.lok g_f42c47c45:=by repeat (first|exact trivial|refine ⟨?_, ?_⟩)
theorem s_f42c47c45 (l:List Known)(h:lenK l=true):r_f42c47c45 l=some (.t .bool (anyK l),[.box (.c (.func (.func 45) #[] #[]))]):=by
 simp only [r_f42c47c45,h,br_true]
 have e:ige (ixK l) 0=anyK l:=by
  unfold ixK anyK
  rw [←fstK_any]
  cases hq:fstK l with
  |none=>rfl
  |some k=>
   simp only [ige,Option.isSome_some,decide_eq_true_eq]
   omega
 rw [e]
def sp_f42c47c45:Ent:=specB [.ty (.sl tyKnown),.fn 47 [(50000,0)]] [.bc 45] (fun x y=>(lenK x.1)) (fun x y=>(.t .bool (anyK x.1))) (fun x y=>[.box (.c (.func (.func 45) #[] #[]))])
theorem ms_f42c47c45:Meets Tryz.prog 42 (strip sp_f42c47c45):=meets_B (meets_specS (R:=runF g_f42c47c45 tc_f42c47c45 rv_f42c47c45 false) (mG Tryz.func42 (by kernel_rfl) Tryz.ntmps42 (by kernel_rfl) gk_f42c47c45 lk_f42c47c45) fun x y hok=>(e_f42c47c45 x.1).trans (s_f42c47c45 x.1 hok))
end
end Go.Proofs.YtmokmalepelinaaGreatDoor.K
namespace Go.Proofs.YtmokmalepelinaaGreatDoor.K
open Go.RowKit
def puR:List AR:=[
 {f:=176 },
 {f:=179 },
 {f:=180 },
 {f:=98 },
 {f:=44 },
 {f:=182 },
 {f:=291 },
 {f:=251 },
 {f:=181 },
 {f:=250 },
 {f:=184 },
 {f:=183 },
 {f:=177 },
 {f:=178 },
 {f:=95,pl:=[(15666,[],(.of [0,1,2,3,4,5,6,7,8,9,10,11,12,13,14,15]))] },
 {f:=96 },
 {f:=41 },
 {f:=43 },
 {f:=97 },
 {f:=42 },
 {f:=189 },
 {f:=252 },
 {f:=188 },
 {f:=104 },
 {f:=50 }]
def puA:AR:={f:=13,keep:=[38,40],pl:=[(66925362,[(0,[15]),(1,[15]),(9,[15]),(10,[15])],(.of [0,1,2,3,4,5,6,7,8,9,10,11,12,13,14,15,16,17]))]}
def puB:List (Nat×Ent):=[(163,sp_f163)]
theorem puB_ok:AllE puB:=gC en_f163 ms_f163 gN
theorem puR_ok:puR.all (auChk Tryz.prog)=true:=by kernel_rfl
theorem puA_ok:auChk Tryz.prog puA=true:=by kernel_rfl
noncomputable def puE:List (Nat×Ent):=auL Tryz.prog TYs puR puB
theorem puE_ok: ∀ p∈puE,Entered Tryz.prog p.1/\Meets Tryz.prog p.1 (strip p.2):=auA mixed puR_ok (gA puB_ok)
def ubO:VO->VO
 |.box (.ag [.c v])=> .box (.c v)
 |o=>o
theorem ubO_at {X:Nat->Nat->Prop}{w:World}{σ:Pl}{k:Nat}{o:VO}(h:OAt X w σ k o):OAt X w σ k (ubO o):=by
 unfold ubO
 split
 ·exact h
 ·exact h
theorem ubO_no {o:VO}(h:o≠ .no):ubO o≠ .no:=by
 unfold ubO
 split
 ·intro e;cases e
 ·exact h
def unA (E:Ent):Ent:=fun a o=>E a (o.map ubO)
theorem meets_unA {P:Program}{f:FuncId}{E:Ent}(h:Meets P f (strip E)):Meets P f (strip (unA E)):=by
 intro args objs r os hF X w σ vs hfin hl hc
 have hF':strip E args (objs.map ubO)=some (r,os):=hF
 have:=h args (objs.map ubO) r os hF' X w σ vs hfin ⟨fun j o hj=> ?_,fun i j b hij hi hj=>hl.apart i j b hij (by simpa using hi) (by simpa using hj)⟩ hc
 ·rw [List.length_map] at this
  exact this
 ·rw [List.getElem?_map,Option.map_eq_some_iff] at hj
  obtain ⟨o',h1,rfl⟩:=hj
  obtain ⟨h2,h3⟩:=hl.at_ j o' h1
  exact ⟨ubO_at h2,ubO_no h3⟩
noncomputable def puC:List (Nat×Ent):=[(42,unA sp_f42c47c45),(42,EL puE 42),(41,EL puE 41),(50,EL puE 50),(49,sp_f49),(38,sp_f38c39),(40,sp_f40)]
theorem en_CK:Entered Tryz.prog 42:= .inr ⟨by decide,_,Tryz.func42,by kernel_rfl,by kernel_rfl⟩
theorem en_ST:Entered Tryz.prog 41:= .inr ⟨by decide,_,Tryz.func41,by kernel_rfl,by kernel_rfl⟩
theorem en_IN:Entered Tryz.prog 50:= .inr ⟨by decide,_,Tryz.func50,by kernel_rfl,by kernel_rfl⟩
theorem puC_ok:AllE puC:=gC en_f42c47c45 (meets_unA ms_f42c47c45)<|gC en_CK (el_meets puE_ok _)<|gC en_ST (el_meets puE_ok _)<|gC en_IN (el_meets puE_ok _)<|gC en_f49 ms_f49<|gC en_f38c39 ms_f38c39<|gC en_f40 ms_f40 gN
noncomputable def pkU:Fun:=runF ⟨TYs,puA.own,auN Tryz.prog puA,EL puC,puA.keep,fun _ _=>none,IL [],RL []⟩ (auT Tryz.prog puA) (auV Tryz.prog TYs puA) puA.ro
theorem pkU_ok:Meets Tryz.prog 13 pkU:=meets_unauto (auM mixed puA_ok (gA puC_ok)).2
def knC (u:List Keep):List Known:=[(kwSsl,(([1],([],())),(u,())))]
theorem pu_run0:pkU [.t (.sl tyPackage) pkC,.t (.sl tyKnown) (knC ([]:List Keep)),.t .str kwApp] []=
  br (anyK (knC ([]:List Keep))) (some (.tu [.t (.sl tyKeep) [],.t tI 7],[])) (br (rchOk pkC 0) (br (srtUOk ([]:List Keep)) (br (lenOk (srtU ([]:List Keep))) (some (.tu [.t (.sl tyKeep) (Lib.compact (srtU ([]:List Keep))),.t tI 0],[])) none) none) none):=by kernel_rfl
theorem pu_run1 (a0:Keep):pkU [.t (.sl tyPackage) pkC,.t (.sl tyKnown) (knC [a0]),.t .str kwApp] []=
  br (anyK (knC [a0])) (some (.tu [.t (.sl tyKeep) [],.t tI 7],[])) (br (rchOk pkC 0) (br (srtUOk [a0]) (br (lenOk (srtU [a0])) (some (.tu [.t (.sl tyKeep) (Lib.compact (srtU [a0])),.t tI 0],[])) none) none) none):=by kernel_rfl
theorem pu_run2 (a0 a1:Keep):pkU [.t (.sl tyPackage) pkC,.t (.sl tyKnown) (knC [a0,a1]),.t .str kwApp] []=
  br (anyK (knC [a0,a1])) (some (.tu [.t (.sl tyKeep) [],.t tI 7],[])) (br (rchOk pkC 0) (br (srtUOk [a0,a1]) (br (lenOk (srtU [a0,a1])) (some (.tu [.t (.sl tyKeep) (Lib.compact (srtU [a0,a1])),.t tI 0],[])) none) none) none):=by kernel_rfl
theorem pu_run3 (a0 a1 a2:Keep):pkU [.t (.sl tyPackage) pkC,.t (.sl tyKnown) (knC [a0,a1,a2]),.t .str kwApp] []=
  br (anyK (knC [a0,a1,a2])) (some (.tu [.t (.sl tyKeep) [],.t tI 7],[])) (br (rchOk pkC 0) (br (srtUOk [a0,a1,a2]) (br (lenOk (srtU [a0,a1,a2])) (some (.tu [.t (.sl tyKeep) (Lib.compact (srtU [a0,a1,a2])),.t tI 0],[])) none) none) none):=by kernel_rfl
theorem pu_run4 (a0 a1 a2 a3:Keep):pkU [.t (.sl tyPackage) pkC,.t (.sl tyKnown) (knC [a0,a1,a2,a3]),.t .str kwApp] []=
  br (anyK (knC [a0,a1,a2,a3])) (some (.tu [.t (.sl tyKeep) [],.t tI 7],[])) (br (rchOk pkC 0) (br (srtUOk [a0,a1,a2,a3]) (br (lenOk (srtU [a0,a1,a2,a3])) (some (.tu [.t (.sl tyKeep) (Lib.compact (srtU [a0,a1,a2,a3])),.t tI 0],[])) none) none) none):=by kernel_rfl
theorem pu_run5 (a0 a1 a2 a3 a4:Keep):pkU [.t (.sl tyPackage) pkC,.t (.sl tyKnown) (knC [a0,a1,a2,a3,a4]),.t .str kwApp] []=
  br (anyK (knC [a0,a1,a2,a3,a4])) (some (.tu [.t (.sl tyKeep) [],.t tI 7],[])) (br (rchOk pkC 0) (br (srtUOk [a0,a1,a2,a3,a4]) (br (lenOk (srtU [a0,a1,a2,a3,a4])) (some (.tu [.t (.sl tyKeep) (Lib.compact (srtU [a0,a1,a2,a3,a4])),.t tI 0],[])) none) none) none):=by kernel_rfl
theorem pu_run6 (a0 a1 a2 a3 a4 a5:Keep):pkU [.t (.sl tyPackage) pkC,.t (.sl tyKnown) (knC [a0,a1,a2,a3,a4,a5]),.t .str kwApp] []=
  br (anyK (knC [a0,a1,a2,a3,a4,a5])) (some (.tu [.t (.sl tyKeep) [],.t tI 7],[])) (br (rchOk pkC 0) (br (srtUOk [a0,a1,a2,a3,a4,a5]) (br (lenOk (srtU [a0,a1,a2,a3,a4,a5])) (some (.tu [.t (.sl tyKeep) (Lib.compact (srtU [a0,a1,a2,a3,a4,a5])),.t tI 0],[])) none) none) none):=by kernel_rfl
theorem pu_run {u:List Keep}(hu:u.length<=6):pkU [.t (.sl tyPackage) pkC,.t (.sl tyKnown) (knC u),.t .str kwApp] []=
  br (anyK (knC u)) (some (.tu [.t (.sl tyKeep) [],.t tI 7],[])) (br (rchOk pkC 0) (br (srtUOk u) (br (lenOk (srtU u)) (some (.tu [.t (.sl tyKeep) (Lib.compact (srtU u)),.t tI 0],[])) none) none) none):=by
 match u,hu with
 | [],_=>exact pu_run0
 | [a0],_=>exact pu_run1 a0
 | [a0,a1],_=>exact pu_run2 a0 a1
 | [a0,a1,a2],_=>exact pu_run3 a0 a1 a2
 | [a0,a1,a2,a3],_=>exact pu_run4 a0 a1 a2 a3
 | [a0,a1,a2,a3,a4],_=>exact pu_run5 a0 a1 a2 a3 a4
 | [a0,a1,a2,a3,a4,a5],_=>exact pu_run6 a0 a1 a2 a3 a4 a5
 |_::_::_::_::_::_::_::_,h=>exact absurd h (by simp)
end Go.Proofs.YtmokmalepelinaaGreatDoor.K
namespace Go.Proofs.YtmokmalepelinaaGreatDoor.K
open Go.RowKit
noncomputable section
def usesOf:List Known->List Keep
 | []=>[]
 |x::_=>x.2.2.1
def pkgF (_l:List Package)(k:List Known)(_n:ByteArray):List Keep×Int:=bif anyK k then ([],7) else (nrmC lesU (usesOf k),0)
def pkgOk (l:List Package)(k:List Known)(n:ByteArray):Bool:= @decide (l=pkC/\n=kwApp∧ ∃ u,k=knC u/\u.length<=6/\u.all okU=true) (Classical.propDecidable _)
def sp_f13:Ent:=spec (.pr (.sl tyPackage) (.pr (.sl tyKnown) (.pr .str .nil))) (fun x=>(pkgOk x.1 x.2.1 x.2.2.1)) (fun x=>(.tu [(.t (.sl tyKeep) ((pkgF x.1 x.2.1 x.2.2.1).1)),(.t tI ((pkgF x.1 x.2.1 x.2.2.1).2))]))
theorem en_f13:Entered Tryz.prog 13:= .inr ⟨by decide,_,Tryz.func13,by kernel_rfl,by kernel_rfl⟩
theorem ms_f13:Meets Tryz.prog 13 (strip sp_f13):=meets_spec pkU_ok fun x hok=>by
 obtain ⟨l,k,n,_⟩:=x
 obtain ⟨rfl,rfl,u,rfl,h1,h2⟩:l=pkC/\n=kwApp∧ ∃ u,k=knC u/\u.length<=6/\u.all okU=true:= @of_decide_eq_true _ (Classical.propDecidable _) hok
 have hs:srtUOk u=true:=Bool.and_eq_true_iff.2 ⟨decide_eq_true (by omega),h2⟩
 have hso:lenOk (srtU u)=true:=decide_eq_true (by
  have:(srtU u).length=u.length:=List.length_mergeSort _
  omega)
 have hr:rchOk pkC 0=true:= @decide_eq_true _ (Classical.propDecidable _) ⟨rfl,rfl⟩
 refine (pu_run h1).trans ?_
 rw [hr,hs,hso,br_true,br_true,br_true]
 show _=some (V.tu [V.t (.sl tyKeep) (pkgF pkC (knC u) kwApp).1,V.t tI (pkgF pkC (knC u) kwApp).2],[])
 unfold pkgF
 cases anyK (knC u)<;>rfl
end
end Go.Proofs.YtmokmalepelinaaGreatDoor.K
namespace Go.Proofs.YtmokmalepelinaaGreatDoor.K
open Go.RowKit
noncomputable section
def clonB (l:List Int):List Int:=l
def clonOk (l:List Int):Bool:=decide (l.length<=4000000)
def sp_f35:Ent:=spec (.pr (.sl (.int .u8)) .nil) (fun x=>(clonOk x.1)) (fun x=>(.t (.sl (.int .u8)) (clonB x.1)))
theorem en_f35:Entered Tryz.prog 35:= .inr ⟨by decide,_,Tryz.func35,by kernel_rfl,by kernel_rfl⟩
theorem elemU8:ElemOk Tryz.prog 39 5 1 1:=ElemOk.of (.int .u8 0) (by kernel_rfl) (by kernel_rfl) (by kernel_rfl) (by decide)
theorem eql_slice_nilG {P:Program}(w:World)(t e:TypeId)(a:Option Addr)(l c:Nat)(h:P.underlying t=some (.slice e)):(binOp .eql t (.slice a l c) (.slice none 0 0)).run P w= .ok (.bool a.isNone) w:=by
 simp [binOp,run_equal_slice_nil w t e a l c h]
set_option maxHeartbeats 400000 in
theorem clone_bytes (A:Option Addr)(c n:Nat)(cells:List Value)(w:World)(h:Sl w (.slice A n c) 1 n cells)(h1: ∀ u∈cells,u.oneCell'=true)(hn:n<=4000000):
  Calls Tryz.prog 35 #[.slice A n c] w fun r w'=> ∃ sv,r= .returned sv/\w'.ownsRow w.heap.size 5 1 sv n cells/\Below w.heap.size w w':=by
 have he:=eql_slice_nilG (P:=Tryz.prog) w 39 5 A n c (by kernel_rfl)
 rcases A with _|ad
 ·have hnil:n=0:=Classical.byContradiction fun h0=>by
   obtain ⟨_,A',c',hv,_,_,h3⟩:=h
   obtain ⟨b,off,e,_⟩:=h3 (by omega)
   rw [e] at hv
   simp at hv
  subst hnil
  have hc:cells=[]:=List.eq_nil_of_length_eq_zero (by rw [h.1,Nat.zero_mul])
  subst hc
  clear h
  simp only [Option.isNone_none] at he
  go_enter Tryz.func35,Tryz.ntmps35
  go_wp2_with fail
  go_ret
  exact ⟨_,rfl,World.ownsRow_nil _ _ _ _,Below.refl _ _⟩
 ·simp only [Option.isNone_some] at he
  have hown:=World.ownsRow_made w #[] (size:=1) (e:=5) 0 (Nat.le_refl _) (Nat.zero_le _) rfl
  have hsrc:=h.alloc (.cells #[] 5)
  have HSRC:=Lib.hid hsrc
  clear h hsrc
  go_enter Tryz.func35,Tryz.ntmps35
  go_wp2_with (at_builtin;refine wpList_app elemU8 rfl _ _ rfl w.heap.size (.slice (some ⟨w.heap.size,0,none⟩) 0 0) 0 [] rfl hown (some ad) n c cells rfl HSRC.out h1 (by omega) (by omega) (by simp) ?_;intro v' w4 hown4 hg4 hat4)
  go_ret
  refine ⟨v',rfl,by simpa using hown4, ?_⟩
  have hal:=(Below.refl w.heap.size w).alloc (Nat.le_refl _) (.cells #[] 5)
  exact below_of_only hal hg4 (Nat.le_refl _) hal.size
theorem ms_f35:Meets Tryz.prog 35 (strip sp_f35):=
 meets_On (a:= .pr (.sl (.int .u8)) .nil) (e:=5) (y:= .int .u8) (L:=fun x=>x.1) (meets_clone (e:=5) (y:= .int .u8) (by decide) (fun x hx=>of_decide_eq_true hx) fun A c n cells w h h1 hn=>clone_bytes A c n cells w h h1 hn)
def isBy (b:Int):Bool:=decide (0<=b/\b<=255)
def shl8 (x b:Int):Int:=ibor .i64 (ishl .i64 x 8) (icv .i64 b)
theorem shl8_eq (x b:Nat)(hb:b<256)(hx:x<1099511627776):shl8 (x:Int) (b:Int)=((x*256+b:Nat):Int):=by
 have e1:icv .i64 (b:Int)=(b:Int):=Go.IntWalk.i64_in _ (by omega)
 have e2:ishl .i64 (x:Int) 8=((x*256:Nat):Int):=by
  show IntKind.i64.wrap ((x:Int)*2 ^ (min (8:Int).toNat 64))=_
  have:((x:Int)*2 ^ (min (8:Int).toNat 64))=((x*256:Nat):Int):=by
   show (x:Int)*256=_
   omega
  rw [this]
  exact Go.IntWalk.i64_in _ (by omega)
 unfold shl8
 rw [e1,e2]
 show IntKind.i64.wrap ((((BitVec.ofInt 64 ((x*256:Nat):Int)) ||| (BitVec.ofInt 64 (b:Int))).toNat:Nat):Int)=_
 have e3:((BitVec.ofInt 64 ((x*256:Nat):Int)) ||| (BitVec.ofInt 64 (b:Int))).toNat=x*256+b:=by
  rw [BitVec.ofInt_natCast,BitVec.ofInt_natCast,BitVec.toNat_or,BitVec.toNat_ofNat,BitVec.toNat_ofNat,Nat.mod_eq_of_lt (by omega),Nat.mod_eq_of_lt (by omega)]
  have:=Nat.shiftLeft_add_eq_or_of_lt (b:=b) (i:=8) (by omega) x
  rw [Nat.shiftLeft_eq] at this
  exact this.symm
 rw [e3]
 exact Go.IntWalk.i64_in _ (by omega)
def valN (n:Nat)(l:List Int):Nat:=l.foldl (fun n b=>n*256+b.toNat) n
theorem fold8: ∀ (l:List Int) (x:Nat),l.all isBy=true->x*256 ^ l.length+256 ^ l.length<=281474976710656->l.foldl shl8 (x:Int)=((valN x l:Nat):Int)
 | [],x,_,_=>rfl
 |b::l,x,h,hx=>by
  simp only [List.all_cons,Bool.and_eq_true,isBy,decide_eq_true_eq] at h
  obtain ⟨⟨h1,h2⟩,h3⟩:=h
  obtain ⟨c,rfl⟩:=Int.eq_ofNat_of_zero_le h1
  have hp:0<256 ^ l.length:=Nat.pow_pos (by omega)
  rw [List.length_cons,Nat.pow_succ] at hx
  have hx2:x<1099511627776:=by
   have:x*(256 ^ l.length*256)<=281474976710656:=by omega
   have h5:x*256<=x*(256 ^ l.length*256):=Nat.mul_le_mul_left _ (by omega)
   omega
  rw [List.foldl_cons,shl8_eq x c (by omega) hx2,fold8 l (x*256+c) (by simpa [isBy] using h3) ?_]
  ·rfl
  ·have e1:(x*256+c)*256 ^ l.length=x*(256 ^ l.length*256)+c*256 ^ l.length:=by
    rw [Nat.add_mul,Nat.mul_assoc,Nat.mul_comm 256]
   have e2:c*256 ^ l.length+256 ^ l.length<=256 ^ l.length*256:=by
    have:(c+1)*256 ^ l.length<=256*256 ^ l.length:=Nat.mul_le_mul_right _ (by omega)
    rw [Nat.add_mul,Nat.one_mul] at this
    omega
   omega
theorem fold8_0 (l:List Int)(h:l.all isBy=true)(hl:l.length<=5):l.foldl shl8 0=((valN 0 l:Nat):Int):=by
 refine fold8 l 0 h ?_
 rw [Nat.zero_mul,Nat.zero_add]
 exact Nat.le_trans (Nat.pow_le_pow_right (by omega) hl) (by decide)
def rdFail (d:Reader)(n:Int):Bool:=d.2.1||igt n (llen d.1)
def takeV (d:Reader)(n:Int):List Int:=bif rdFail d n then [] else d.1.take n.toNat
def takeN (d:Reader)(n:Int):Reader:=bif rdFail d n then (d.1,(true,())) else (d.1.drop n.toNat,(d.2.1,()))
def rdOk (d:Reader):Bool:=d.1.all isBy&&decide (d.1.length<=100000)
def takeOk (d:Reader)(n:Int):Bool:=rdOk d&&decide (0<=n)
noncomputable def tc_f32:TC:=(.sq (.reg (rT Tryz.f32 0)) (.sq (.sq (.reg (rT Tryz.f32 1)) (.cd (.t 18) (.sq (.reg (rT Tryz.f32 2)) (.sq (.reg (rT Tryz.f32 3)) .rt)) .sk)) (.sq (.reg (rT Tryz.f32 4)) (.sq (.reg (rT Tryz.f32 5)) (.sq (.reg (rT Tryz.f32 6)) .rt)))))
def rv_f32:List (RV×Option Ty):=[((.t 4),some (.sl (.int .u8)))]
def g_f32:G:=⟨TYs,[],39,EL [],keeps,(fun _ _=>none),IL [],RL []⟩
def r_f32 (d0:Reader)(p1:Int):Option (V×List VO):=
 let a1:=(List.length d0.1:Nat)
 br (d0.2.1) (some (.t (.sl (.int .u8)) ([]:List Int),[.box (.t tyReader (d0.1,(true,d0.2.2)))])) (br (igt p1 (llen d0.1)) (some (.t (.sl (.int .u8)) ([]:List Int),[.box (.t tyReader (d0.1,(true,d0.2.2)))])) (br (cSl d0.1 0 p1 p1) (br (cSl d0.1 p1 (a1:Int) (a1:Int)) (some (.t (.sl (.int .u8)) (lsl d0.1 0 p1),[.box (.t tyReader ((lsl d0.1 p1 (a1:Int)),d0.2))])) none) none))
theorem e_f32 (d0:Reader)(p1:Int):runF g_f32 tc_f32 rv_f32 false [.ptr 50000 0,.t tI p1] [.box (.t tyReader d0)]=r_f32 d0 p1:=by kernel_rfl
theorem en_f32:Entered Tryz.prog 32:= .inr ⟨by decide,_,Tryz.func32,by kernel_rfl,by kernel_rfl⟩
theorem gk_f32:GOk Tryz.prog g_f32:=gok_of _ (fun p hp=>by cases hp)
theorem lk_f32:tc_f32.lok g_f32:=by repeat (first|exact trivial|refine ⟨?_, ?_⟩)
theorem s_f32 (d:Reader)(n:Int)(h:takeOk d n=true):r_f32 d n=some (.t (.sl (.int .u8)) (takeV d n),[.box (.t tyReader (takeN d n))]):=by
 obtain ⟨b,f,u⟩:=d
 simp only [takeOk,rdOk,Bool.and_eq_true,decide_eq_true_eq] at h
 simp only [r_f32,takeV,takeN,rdFail]
 cases f with
 |true=>rfl
 |false=>
  rw [br_false]
  cases hg:igt n (llen b) with
  |true=>simp only [br_true,Bool.or_true];rfl
  |false=>
   simp only [igt,llen,decide_eq_false_iff_not] at hg
   have c1:cSl b 0 n n=true:=by simp only [cSl,decide_eq_true_eq];omega
   have c2:cSl b n ((List.length b:Nat):Int) ((List.length b:Nat):Int)=true:=by simp only [cSl,decide_eq_true_eq];omega
   have l1:lsl b 0 n=b.take n.toNat:=by simp [lsl]
   have l2:lsl b n ((List.length b:Nat):Int)=b.drop n.toNat:=by
    simp only [lsl,Int.toNat_natCast]
    rw [List.take_of_length_le (by rw [List.length_drop];omega)]
   rw [br_false,c1,c2,br_true,br_true,l1,l2]
   rfl
def sp_f32:Ent:=specP tyReader (.pr tI .nil) (fun d x=>(takeOk d x.1)) (fun d x=>(.t (.sl (.int .u8)) (takeV d x.1))) (fun d x=>(takeN d x.1))
theorem ms_f32:Meets Tryz.prog 32 (strip sp_f32):=meets_specP (R:=runF g_f32 tc_f32 rv_f32 false) (mG Tryz.func32 (by kernel_rfl) Tryz.ntmps32 (by kernel_rfl) gk_f32 lk_f32) rfl fun d x hok=>(e_f32 d x.1).trans (s_f32 d x.1 hok)
theorem take_all {d:Reader}{n:Int}(h:rdOk d=true):(takeV d n).all isBy=true/\((takeV d n).length:Int)<=max n 0/\rdOk (takeN d n)=true:=by
 simp only [rdOk,Bool.and_eq_true,decide_eq_true_eq] at h ⊢
 unfold takeV takeN
 cases rdFail d n with
 |true=>exact ⟨rfl,by simp;omega,h.1,h.2⟩
 |false=>
  refine ⟨List.all_eq_true.2 fun x hx=>List.all_eq_true.1 h.1 x (List.mem_of_mem_take hx), ?_,List.all_eq_true.2 fun x hx=>List.all_eq_true.1 h.1 x (List.mem_of_mem_drop hx), ?_⟩
  ·show ((d.1.take n.toNat).length:Int)<=_
   rw [List.length_take]
   omega
  ·show (d.1.drop n.toNat).length<=_
   rw [List.length_drop]
   omega
def rnumV (d:Reader)(c:Int):Int:=(takeV d c).foldl shl8 0
def rnumN (d:Reader)(c:Int):Reader:=takeN d c
def rnumOk (d:Reader)(c:Int):Bool:=rdOk d&&decide (0<=c/\c<=5)
theorem rnum_nn {d:Reader}{c:Int}(h:rnumOk d c=true):rnumV d c=((valN 0 (takeV d c):Nat):Int):=by
 simp only [rnumOk,Bool.and_eq_true,decide_eq_true_eq] at h
 obtain ⟨q1,q2,_⟩:=take_all (n:=c) h.1
 exact fold8_0 _ q1 (by omega)
def fg_f33_0:Fg:=⟨[(5,some tI),(10,some (.sl (.int .u8))),(11,some tI),(12,some tI)],[(50000,some tyReader)]⟩
noncomputable def tb_f33_0:TC:=(.sq (.reg (rT Tryz.f33 3)) (.sq (.cd (.t 13) .sk (.fg ⟨[(5,some tI)],[(50000,some tyReader)]⟩ (.ex 0))) (.sq (.bk 1 (.sq (.reg (rT Tryz.f33 4)) (.reg (rT Tryz.f33 5)))) (.reg (rT Tryz.f33 6)))))
noncomputable def tc_f33:TC:=(.sq (.reg (rT Tryz.f33 0)) (.sq (.reg (rT Tryz.f33 1)) (.sq (.sq (.reg (rT Tryz.f33 2)) (.bk 0 (.lp 0 fg_f33_0 tb_f33_0))) (.sq (.reg (rT Tryz.f33 7)) .rt))))
def rv_f33:List (RV×Option Ty):=[((.t 4),some tI)]
abbrev sh_f33_0:Sh:=⟨[(5,.ty tI),(10,.ty (.sl (.int .u8))),(11,.ty tI),(12,.ty tI)],[(50000,.box tyReader)]⟩
def st_f33_0 (x5:Int)(x10:List Int)(x11 x12:Int)(y50000:Reader):VS:=sh_f33_0.st (x5,x10,x11,x12,()) (y50000,())
abbrev sh_f33_0_e0:Sh:=⟨[(5,.ty tI)],[(50000,.box tyReader)]⟩
def st_f33_0_e0 (x5:Int)(y50000:Reader):VS:=sh_f33_0_e0.st (x5,()) (y50000,())
def L_f33_0:VS->Option (Bool×List (Bool×Exit×VS)):=mkL sh_f33_0 (fun x y=>(rngOk x.2.1 x.2.2.1 x.2.2.2.1)) (fun x y=>[(true,.exit 0,st_f33_0_e0 ((x.2.1.drop x.2.2.2.1.toNat).foldl shl8 x.1) (y.1))])
def g_f33:G:=⟨TYs,[],23,EL [(32,sp_f32)],keeps,(Ls [L_f33_0]),IL [],RL []⟩
def b_f33_0 (x5:Int)(x10:List Int)(x11 x12:Int)(y50000:Reader):Option (Exit×VS):=br (ilt x12 x11) (br (cIx x10 x12) (br (decide ((0:Int)<=8)) (some (.normal,st_f33_0 (ibor .i64 (ishl .i64 x5 8) (icv .i64 (lgt (.int .u8) x10 (Int.toNat x12)))) x10 x11 (iadd .i64 x12 1) y50000)) none) none) (some (.exit 0,st_f33_0_e0 x5 y50000))
noncomputable def lp_f33_0 (x5:Int)(x10:List Int)(x11 x12:Int)(y50000:Reader):Option (Exit×VS):=loopF (roundF g_f33 fg_f33_0 tb_f33_0) (st_f33_0 x5 x10 x11 x12 y50000)
noncomputable def n_f33_0 (x5:Int)(x10:List Int)(x11 x12:Int)(y50000:Reader):Option (Exit×VS):=br (ilt x12 x11) (br (cIx x10 x12) (br (decide ((0:Int)<=8)) (lp_f33_0 (ibor .i64 (ishl .i64 x5 8) (icv .i64 (lgt (.int .u8) x10 (Int.toNat x12)))) x10 x11 (iadd .i64 x12 1) y50000) none) none) (some (.exit 0,st_f33_0_e0 x5 y50000))
def la_f33_0 (x5:Int)(x10:List Int)(x11 x12:Int)(y50000:Reader):Option (Exit×VS):=some (.exit 0,st_f33_0_e0 ((x10.drop x12.toNat).foldl shl8 x5) (y50000))
theorem be_f33_0 (x5:Int)(x10:List Int)(x11 x12:Int)(y50000:Reader):roundF g_f33 fg_f33_0 tb_f33_0 (st_f33_0 x5 x10 x11 x12 y50000)=b_f33_0 x5 x10 x11 x12 y50000:=by kernel_rfl
theorem ln_f33_0 (x5:Int)(x10:List Int)(x11 x12:Int)(y50000:Reader):lp_f33_0 x5 x10 x11 x12 y50000=n_f33_0 x5 x10 x11 x12 y50000:=(loopF_nxt _ _).trans (by
 rw [be_f33_0]
 simp only [b_f33_0,n_f33_0,nxt_br,nxt_n,nxt_r,nxt_e,nxt_0]
 rfl)
def r_f33 (d0:Reader)(p1:Int):Option (V×List VO):=br (takeOk d0 p1) (br (rngOk (takeV d0 p1) (llen (takeV d0 p1)) (0:Int)) (some (.t tI (((takeV d0 p1).drop (0:Int).toNat).foldl shl8 (0:Int)),[.box (.t tyReader (takeN d0 p1))])) none) none
theorem e_f33 (d0:Reader)(p1:Int):runF g_f33 tc_f33 rv_f33 false [.ptr 50000 0,.t tI p1] [.box (.t tyReader d0)]=r_f33 d0 p1:=by kernel_rfl
theorem en_f33:Entered Tryz.prog 33:= .inr ⟨by decide,_,Tryz.func33,by kernel_rfl,by kernel_rfl⟩
theorem gk_f33:GOk Tryz.prog g_f33:=gok_of _ (gA (gC en_f32 ms_f32 gN))
theorem l_f33_0 (x5:Int)(x10:List Int)(x11 x12:Int)(y50000:Reader)(h:(rngOk x10 x11 x12)=true):lp_f33_0 x5 x10 x11 x12 y50000=la_f33_0 x5 x10 x11 x12 y50000:=by
 obtain ⟨rfl,h3,k,rfl,hk⟩:=rng_k h
 clear h
 revert x5
 refine range_ind x10 (fun k=> ∀ x5:Int,lp_f33_0 x5 x10 (x10.length:Int) (k:Int) y50000=la_f33_0 x5 x10 (x10.length:Int) (k:Int) y50000) ?_ ?_ k hk
 ·intro x5
  rw [ln_f33_0]
  simp [n_f33_0,la_f33_0,ilt_nat,br_false]
 ·intro k hk ih x5
  rw [ln_f33_0]
  simp only [n_f33_0,ilt_nat,cIx_nat,hk,decide_true,br_true,Int.toNat_natCast,add1 (k:=k),lgt_get (y:= .int .u8) hk,ih,show decide ((0:Int)<=8)=true from rfl]
  simp only [la_f33_0,Int.toNat_natCast,List.drop_eq_getElem_cons hk,List.foldl_cons,shl8]
theorem lo_f33_0: ∀ S l p,g_f33.L 0 (fgt fg_f33_0 S)=some (true,l)->pickA l=some p->loopF (roundF g_f33 fg_f33_0 tb_f33_0) S=some p:=
 lok_of (s:=sh_f33_0) ⟨by decide,by decide⟩ (by kernel_rfl) fun x y hok p hp=>by
 simp only [pickA_br,pickA_one] at hp
 exact (l_f33_0 x.1 x.2.1 x.2.2.1 x.2.2.2.1 y.1 (by simpa using hok)).trans hp
theorem lk_f33:tc_f33.lok g_f33:=by
 repeat (first|exact trivial|exact lo_f33_0|refine ⟨?_, ?_⟩)
theorem s_f33 (d:Reader)(c:Int)(h:rnumOk d c=true):r_f33 d c=some (.t tI (rnumV d c),[.box (.t tyReader (rnumN d c))]):=by
 simp only [rnumOk,Bool.and_eq_true,decide_eq_true_eq] at h
 obtain ⟨_,q2,_⟩:=take_all (n:=c) h.1
 simp only [r_f33,show takeOk d c=true from by simp only [takeOk,h.1,Bool.true_and,decide_eq_true_eq];omega,br_true,rng_0 (show (takeV d c).length<=100000 by omega),Int.toNat_zero,List.drop_zero]
 rfl
def sp_f33:Ent:=specP tyReader (.pr tI .nil) (fun d x=>(rnumOk d x.1)) (fun d x=>(.t tI (rnumV d x.1))) (fun d x=>(rnumN d x.1))
theorem ms_f33:Meets Tryz.prog 33 (strip sp_f33):=meets_specP (R:=runF g_f33 tc_f33 rv_f33 false) (mG Tryz.func33 (by kernel_rfl) Tryz.ntmps33 (by kernel_rfl) gk_f33 lk_f33) rfl fun d x hok=>(e_f33 d x.1).trans (s_f33 d x.1 hok)
theorem rnum_ok {d:Reader}{c:Int}(h:rdOk d=true)(hc:0<=c/\c<=5):rnumOk d c=true/\0<=rnumV d c/\rdOk (rnumN d c)=true:=by
 have h1:rnumOk d c=true:=by simp only [rnumOk,h,Bool.true_and,decide_eq_true_eq];exact hc
 exact ⟨h1,by rw [rnum_nn h1];omega,(take_all h).2.2⟩
def rnameV (d:Reader):ByteArray:=strOf (takeV (rnumN d 1) (rnumV d 1))
def rnameN (d:Reader):Reader:=takeN (rnumN d 1) (rnumV d 1)
noncomputable def tc_f34:TC:=(.sq (.reg (rT Tryz.f34 0)) (.sq (.reg (rT Tryz.f34 1)) .rt))
def rv_f34:List (RV×Option Ty):=[((.t 2),some .str)]
def g_f34:G:=⟨TYs,[],8,EL [(32,sp_f32),(33,sp_f33),(2440624,sp_op_convert_39_9)],keeps,(fun _ _=>none),IL [],RL []⟩
def r_f34 (d0:Reader):Option (V×List VO):=br (rnumOk d0 1) (br (takeOk (rnumN d0 1) (rnumV d0 1)) (some (.t .str (strOf (takeV (rnumN d0 1) (rnumV d0 1))),[.box (.t tyReader (takeN (rnumN d0 1) (rnumV d0 1)))])) none) none
theorem e_f34 (d0:Reader):runF g_f34 tc_f34 rv_f34 false [.ptr 50000 0] [.box (.t tyReader d0)]=r_f34 d0:=by kernel_rfl
theorem en_f34:Entered Tryz.prog 34:= .inr ⟨by decide,_,Tryz.func34,by kernel_rfl,by kernel_rfl⟩
theorem gk_f34:GOk Tryz.prog g_f34:=gok_of _ (gA (gC en_f32 ms_f32 (gC en_f33 ms_f33 (gC en_op_convert_39_9 ms_op_convert_39_9 gN))))
theorem lk_f34:tc_f34.lok g_f34:=by repeat (first|exact trivial|refine ⟨?_, ?_⟩)
theorem s_f34 (d:Reader)(h:rdOk d=true):r_f34 d=some (.t .str (rnameV d),[.box (.t tyReader (rnameN d))]):=by
 obtain ⟨h1,h2,h3⟩:=rnum_ok (c:=1) h (by omega)
 simp only [r_f34,h1,show takeOk (rnumN d 1) (rnumV d 1)=true from by simp only [takeOk,h3,Bool.true_and,decide_eq_true_eq];exact h2,br_true]
 rfl
def sp_f34:Ent:=specP tyReader .nil (fun d x=>(rdOk d)) (fun d x=>(.t .str (rnameV d))) (fun d x=>(rnameN d))
theorem ms_f34:Meets Tryz.prog 34 (strip sp_f34):=meets_specP (R:=runF g_f34 tc_f34 rv_f34 false) (mG Tryz.func34 (by kernel_rfl) Tryz.ntmps34 (by kernel_rfl) gk_f34 lk_f34) rfl fun d x hok=>(e_f34 d).trans (s_f34 d hok)
theorem rname_ok {d:Reader}(h:rdOk d=true):rdOk (rnameN d)=true:=(take_all (rnum_ok h (by omega)).2.2).2.2
def secV (d:Reader):Section:=(rnameV d,(takeV (rnumN (rnameN d) 2) (rnumV (rnameN d) 2),()))
def secN (d:Reader):Reader:=takeN (rnumN (rnameN d) 2) (rnumV (rnameN d) 2)
def symV (d:Reader):Symbol:=(rnameV d,(rnumV (rnameN d) 4,()))
def symN (d:Reader):Reader:=rnumN (rnameN d) 4
def secsP:Nat->Reader->List Section×Reader
 |0,d=>([],d)
 |n+1,d=>bif d.2.1 then ([],d) else (secV d::(secsP n (secN d)).1,(secsP n (secN d)).2)
def symsP:Nat->Reader->List Symbol×Reader
 |0,d=>([],d)
 |n+1,d=>bif d.2.1 then ([],d) else (symV d::(symsP n (symN d)).1,(symsP n (symN d)).2)
theorem sec_ok {d:Reader}(h:rdOk d=true):rdOk (secN d)=true:=(take_all (rnum_ok (rname_ok h) (by omega)).2.2).2.2
theorem sym_ok {d:Reader}(h:rdOk d=true):rdOk (symN d)=true:=(rnum_ok (rname_ok h) (by omega)).2.2
theorem secs_ok: ∀ (n:Nat) {d:Reader},rdOk d=true->rdOk (secsP n d).2=true
 |0,d,h=>h
 |n+1,d,h=>by
  unfold secsP
  cases d.2.1 with
  |true=>exact h
  |false=>exact secs_ok n (sec_ok h)
theorem syms_ok: ∀ (n:Nat) {d:Reader},rdOk d=true->rdOk (symsP n d).2=true
 |0,d,h=>h
 |n+1,d,h=>by
  unfold symsP
  cases d.2.1 with
  |true=>exact h
  |false=>exact syms_ok n (sym_ok h)
theorem secs_len: ∀ (n:Nat) (d:Reader),(secsP n d).1.length<=n
 |0,d=>Nat.le_refl _
 |n+1,d=>by
  unfold secsP
  cases d.2.1 with
  |true=>exact Nat.zero_le _
  |false=>exact Nat.succ_le_succ (secs_len n _)
theorem syms_len: ∀ (n:Nat) (d:Reader),(symsP n d).1.length<=n
 |0,d=>Nat.le_refl _
 |n+1,d=>by
  unfold symsP
  cases d.2.1 with
  |true=>exact Nat.zero_le _
  |false=>exact Nat.succ_le_succ (syms_len n _)
end
end Go.Proofs.YtmokmalepelinaaGreatDoor.K
namespace Go.Proofs.YtmokmalepelinaaGreatDoor.K
open Go.RowKit
noncomputable section
theorem flat_bound {α β:Type}(f:α->List β)(B:Nat): ∀ (l:List α),(∀ x∈l,(f x).length<=B)->(l.flatMap f).length<=l.length*B
 | [],_=>by simp
 |a::l,h=>by
  rw [List.flatMap_cons,List.length_append,List.length_cons,Nat.succ_mul]
  have h1:=h a (by simp)
  have h2:=flat_bound f B l fun x hx=>h x (by simp [hx])
  omega
theorem strOf_size (l:List Int):(strOf l).size=l.length:=by simp [strOf,ByteArray.size]
theorem take_len {d:Reader}{n:Int}(h:rdOk d=true):(takeV d n).length<=100000:=by
 simp only [rdOk,Bool.and_eq_true,decide_eq_true_eq] at h
 unfold takeV
 cases rdFail d n with
 |true=>exact Nat.zero_le _
 |false=>
  show (d.1.take n.toNat).length<=_
  rw [List.length_take]
  omega
theorem sec_small {d:Reader}(h:rdOk d=true):(secB (secV d)).length<=200003:=by
 rw [secB_len]
 have h1:=take_len (n:=rnumV d 1) (rnum_ok (c:=1) h (by omega)).2.2
 have h2:=take_len (n:=rnumV (rnameN d) 2) (rnum_ok (c:=2) (rname_ok h) (by omega)).2.2
 show 3+(strOf (takeV (rnumN d 1) (rnumV d 1))).size+(takeV (rnumN (rnameN d) 2) (rnumV (rnameN d) 2)).length<=200003
 rw [strOf_size]
 omega
theorem sym_small {d:Reader}(h:rdOk d=true):(symB (symV d)).length<=200003:=by
 rw [symB_len]
 have h1:=take_len (n:=rnumV d 1) (rnum_ok (c:=1) h (by omega)).2.2
 show 5+(strOf (takeV (rnumN d 1) (rnumV d 1))).size<=200003
 rw [strOf_size]
 omega
theorem secs_small: ∀ (n:Nat) {d:Reader},rdOk d=true→ ∀ x∈(secsP n d).1,(secB x).length<=200003
 |0,d,_,x,hx=>by cases hx
 |n+1,d,h,x,hx=>by
  unfold secsP at hx
  cases hd:d.2.1 with
  |true=>rw [hd] at hx;cases hx
  |false=>
   rw [hd] at hx
   rcases List.mem_cons.1 hx with rfl|hx
   ·exact sec_small h
   ·exact secs_small n (sec_ok h) x hx
theorem syms_small: ∀ (n:Nat) {d:Reader},rdOk d=true→ ∀ x∈(symsP n d).1,(symB x).length<=200003
 |0,d,_,x,hx=>by cases hx
 |n+1,d,h,x,hx=>by
  unfold symsP at hx
  cases hd:d.2.1 with
  |true=>rw [hd] at hx;cases hx
  |false=>
   rw [hd] at hx
   rcases List.mem_cons.1 hx with rfl|hx
   ·exact sym_small h
   ·exact syms_small n (sym_ok h) x hx
theorem rnum1_le {d:Reader}(h:rdOk d=true):(rnumV d 1).toNat<=255:=by
 have h1:=(rnum_ok (c:=1) h (by omega)).1
 rw [rnum_nn h1,Int.toNat_natCast]
 obtain ⟨q1,q2,_⟩:=take_all (n:=1) h
 have hl:(takeV d 1).length<=1:=by omega
 generalize takeV d 1=l at q1 hl
 match l,q1,hl with
 | [],_,_=>exact Nat.zero_le _
 | [b],q,_=>
  simp only [List.all_cons,List.all_nil,Bool.and_true,isBy,decide_eq_true_eq] at q
  show 0*256+b.toNat<=255
  omega
def noImg:Image:=(([]:List Section),(([]:List Symbol),()))
def d0D (l:List Int):Reader:=(l,(false,()))
def d1D (l:List Int):Reader:=rnumN (takeN (d0D l) 3) 1
def n1D (l:List Int):Nat:=(rnumV (takeN (d0D l) 3) 1).toNat
def d2D (l:List Int):Reader:=(secsP (n1D l) (d1D l)).2
def d3D (l:List Int):Reader:=rnumN (d2D l) 1
def n2D (l:List Int):Nat:=(rnumV (d2D l) 1).toNat
def d4D (l:List Int):Reader:=(symsP (n2D l) (d3D l)).2
def imD (l:List Int):Image:=((secsP (n1D l) (d1D l)).1,((symsP (n2D l) (d3D l)).1,()))
def mgD (l:List Int):Bool:=sne (strOf (takeV (d0D l) 3)) (ByteArray.mk #[88,69,1])
def decX (l:List Int):Image×Int:=bif decide (4096<l.length) then (noImg,3) else bif mgD l then (noImg,1) else bif (d4D l).2.1||decide (0<(d4D l).1.length) then (noImg,1) else bif badX (imD l) then (noImg,20) else (imD l,0)
def decOkX (l:List Int):Bool:=l.all isBy&&decide (l.length<=100000)
theorem dec_facts {l:List Int}(h:decOkX l=true):rdOk (d0D l)=true/\rdOk (takeN (d0D l) 3)=true/\rdOk (d1D l)=true/\rdOk (d2D l)=true/\rdOk (d3D l)=true/\rdOk (d4D l)=true/\n1D l<=255/\n2D l<=255/\chkOk (imD l)=true:=by
 have h0:rdOk (d0D l)=true:=h
 have h1:rdOk (takeN (d0D l) 3)=true:=(take_all h0).2.2
 have h2:rdOk (d1D l)=true:=(rnum_ok h1 (by omega)).2.2
 have h3:rdOk (d2D l)=true:=secs_ok _ h2
 have h4:rdOk (d3D l)=true:=(rnum_ok h3 (by omega)).2.2
 have h5:rdOk (d4D l)=true:=syms_ok _ h4
 have n1:n1D l<=255:=rnum1_le h1
 have n2:n2D l<=255:=rnum1_le h3
 refine ⟨h0,h1,h2,h3,h4,h5,n1,n2, ?_⟩
 have a1:(imD l).1.length<=255:=Nat.le_trans (secs_len _ _) n1
 have a2:(imD l).2.1.length<=255:=Nat.le_trans (syms_len _ _) n2
 have b1:=flat_bound secB 200003 (imD l).1 (secs_small _ h2)
 have b2:=flat_bound symB 200003 (imD l).2.1 (syms_small _ h4)
 have c1:(imD l).1.length*200003<=255*200003:=Nat.mul_le_mul_right _ a1
 have c2:(imD l).2.1.length*200003<=255*200003:=Nat.mul_le_mul_right _ a2
 simp only [chkOk,wrOk,imgOk,Bool.and_eq_true,decide_eq_true_eq]
 omega
noncomputable def dr_f11_0:List DO:=dT Tryz.f11 15
def fg_f11_0:Fg:=⟨[(2,none),(4,none),(5,none),(6,some tI)],[(2,some tyImage),(5,none),(15,some tyReader),(47,none),(70,none),(20500,none),(20501,none)]⟩
noncomputable def tb_f11_0:TC:=(.sq (.sq (.reg (rT Tryz.f11 8)) (.cd (.t 31) .sk (.fg ⟨[(2,none),(4,none),(5,none)],[(2,some tyImage),(5,some tyImage),(15,some tyReader),(47,none),(70,none),(20500,none),(20501,none)]⟩ (.ex 0)))) (.sq (.bk 1 (.sq (.reg (rT Tryz.f11 9)) (.sq (.reg (rT Tryz.f11 10)) (.reg (rT Tryz.f11 11))))) (.reg (rT Tryz.f11 12))))
def fg_f11_1:Fg:=⟨[(2,none),(4,none),(5,none),(8,some tI)],[(2,some tyImage),(5,none),(15,some tyReader),(47,none),(70,none),(20500,none),(20501,none)]⟩
noncomputable def tb_f11_1:TC:=(.sq (.sq (.reg (rT Tryz.f11 14)) (.cd (.t 59) .sk (.fg ⟨[(2,none),(4,none),(5,none)],[(2,some tyImage),(5,some tyImage),(15,some tyReader),(47,none),(70,none),(20500,none),(20501,none)]⟩ (.ex 2)))) (.sq (.bk 3 (.dr dr_f11_0 [(0,[5,47,70,20500,20501]),(1,[5,47,70,20500,20501]),(2,[15]),(3,[15,65,5065,10065,15065]),(4,[15]),(5,[15,67,5067,10067,15067]),(6,[]),(7,[]),(8,[2,5,47,70,5070,10070,15070,20500,20501]),(9,[5,47,70,20500,20501]),(10,[2,5,47,70,20500,20501])] (.one 0 (.one 1 (.one 2 (.alt 3 (.of [4,5,6,7,8,9,10]) (.of [4,3,5,6,7,8,9,10]))))))) (.reg (rT Tryz.f11 16))))
noncomputable def tc_f11:TC:=(.sq (.reg (rT Tryz.f11 0)) (.sq (.sq (.reg (rT Tryz.f11 1)) (.cd (.t 11) (.sq (.reg (rT Tryz.f11 2)) .rt) .sk)) (.sq (.reg (rT Tryz.f11 3)) (.sq (.sq (.reg (rT Tryz.f11 4)) (.cd (.t 19) (.sq (.reg (rT Tryz.f11 5)) .rt) .sk)) (.sq (.reg (rT Tryz.f11 6)) (.sq (.sq (.reg (rT Tryz.f11 7)) (.bk 0 (.nf 5 1 94 20501 (.nf 5 0 91 20500 (.lp 0 fg_f11_0 tb_f11_0))))) (.sq (.sq (.reg (rT Tryz.f11 13)) (.bk 2 (.nf 5 0 91 20500 (.nf 5 1 94 20501 (.lp 1 fg_f11_1 tb_f11_1))))) (.sq (.bk 4 (.sq (.reg (rT Tryz.f11 17)) (.cd (.t 72) (.sq (.reg (rT Tryz.f11 18)) .rt) (.sq (.reg (rT Tryz.f11 19)) (.cd (.t 86) (.sq (.reg (rT Tryz.f11 20)) .rt) .sk))))) (.sq (.reg (rT Tryz.f11 21)) .rt)))))))))
def rv_f11:List (RV×Option Ty):=[((.c 2 true 2),some tyImage),((.t 3),some tI)]
abbrev sh_f11_0:Sh:=⟨[(2,.ptr 2 0),(4,.ptr 15 0),(5,.ptr 5 0),(6,.ty tI)],[(2,.box tyImage),(5,.bag [.ms 20500,.ms 20501]),(15,.box tyReader),(47,.no),(70,.no),(20500,.arr 91 tySection),(20501,.arr 94 tySymbol)]⟩
def st_f11_0 (x6:Int)(y2:Image)(y15:Reader)(y20500:List Section)(y20501:List Symbol):VS:=sh_f11_0.st ((),(),(),x6,()) (y2,((),(),()),y15,(),(),y20500,y20501,())
abbrev sh_f11_0_e0:Sh:=⟨[(2,.ptr 2 0),(4,.ptr 15 0),(5,.ptr 5 0)],[(2,.box tyImage),(5,.bag [.ms 20500,.ms 20501]),(15,.box tyReader),(47,.no),(70,.no),(20500,.arr 91 tySection),(20501,.arr 94 tySymbol)]⟩
def st_f11_0_e0 (y2:Image)(y15:Reader)(y20500:List Section)(y20501:List Symbol):VS:=sh_f11_0_e0.st ((),(),(),()) (y2,((),(),()),y15,(),(),y20500,y20501,())
abbrev sh_f11_1:Sh:=⟨[(2,.ptr 2 0),(4,.ptr 15 0),(5,.ptr 5 0),(8,.ty tI)],[(2,.box tyImage),(5,.bag [.ms 20500,.ms 20501]),(15,.box tyReader),(47,.no),(70,.no),(20500,.arr 91 tySection),(20501,.arr 94 tySymbol)]⟩
def st_f11_1 (x8:Int)(y2:Image)(y15:Reader)(y20500:List Section)(y20501:List Symbol):VS:=sh_f11_1.st ((),(),(),x8,()) (y2,((),(),()),y15,(),(),y20500,y20501,())
abbrev sh_f11_1_e2:Sh:=⟨[(2,.ptr 2 0),(4,.ptr 15 0),(5,.ptr 5 0)],[(2,.box tyImage),(5,.bag [.ms 20500,.ms 20501]),(15,.box tyReader),(47,.no),(70,.no),(20500,.arr 91 tySection),(20501,.arr 94 tySymbol)]⟩
def st_f11_1_e2 (y2:Image)(y15:Reader)(y20500:List Section)(y20501:List Symbol):VS:=sh_f11_1_e2.st ((),(),(),()) (y2,((),(),()),y15,(),(),y20500,y20501,())
def L_f11_0:VS->Option (Bool×List (Bool×Exit×VS)):=mkL sh_f11_0 (fun x y=>(rdOk y.2.2.1&&decide (0<=x.2.2.2.1/\y.2.2.2.2.2.1.length+x.2.2.2.1.toNat<=100000))) (fun x y=>[(true,.exit 0,st_f11_0_e0 (y.1) ((secsP x.2.2.2.1.toNat y.2.2.1).2) (y.2.2.2.2.2.1++(secsP x.2.2.2.1.toNat y.2.2.1).1) (y.2.2.2.2.2.2.1))])
def L_f11_1:VS->Option (Bool×List (Bool×Exit×VS)):=mkL sh_f11_1 (fun x y=>(rdOk y.2.2.1&&decide (0<=x.2.2.2.1/\y.2.2.2.2.2.2.1.length+x.2.2.2.1.toNat<=100000))) (fun x y=>[(true,.exit 2,st_f11_1_e2 (y.1) ((symsP x.2.2.2.1.toNat y.2.2.1).2) (y.2.2.2.2.2.1) (y.2.2.2.2.2.2.1++(symsP x.2.2.2.1.toNat y.2.2.1).1))])
def g_f11:G:=⟨TYs,[],92,EL [(30,sp_f30),(32,sp_f32),(33,sp_f33),(34,sp_f34),(35,sp_f35),(2440624,sp_op_convert_39_9)],keeps,(Ls [L_f11_0,L_f11_1]),IL [],RL []⟩
def b_f11_0 (x6:Int)(y2:Image)(y15:Reader)(y20500:List Section)(y20501:List Symbol):Option (Exit×VS):=
 let a1:=takeV (rnumN (rnameN y15) 2) (rnumV (rnameN y15) 2)
 let a2:=((rnameV y15),((clonB a1),()))
 br (igt x6 0) (br (!y15.2.1) (br (rdOk y15) (br (rnumOk (rnameN y15) 2) (br (takeOk (rnumN (rnameN y15) 2) (rnumV (rnameN y15) 2)) (br (clonOk a1) (br (cApp y20500 ([a2]) 40) (some (.normal,st_f11_0 (isub .i64 x6 1) y2 (takeN (rnumN (rnameN y15) 2) (rnumV (rnameN y15) 2)) (y20500++([a2])) y20501)) none) none) none) none) none) (some (.exit 0,st_f11_0_e0 y2 y15 y20500 y20501))) (some (.exit 0,st_f11_0_e0 y2 y15 y20500 y20501))
noncomputable def lp_f11_0 (x6:Int)(y2:Image)(y15:Reader)(y20500:List Section)(y20501:List Symbol):Option (Exit×VS):=loopF (roundF g_f11 fg_f11_0 tb_f11_0) (st_f11_0 x6 y2 y15 y20500 y20501)
noncomputable def n_f11_0 (x6:Int)(y2:Image)(y15:Reader)(y20500:List Section)(y20501:List Symbol):Option (Exit×VS):=
 let a1:=takeV (rnumN (rnameN y15) 2) (rnumV (rnameN y15) 2)
 let a2:=((rnameV y15),((clonB a1),()))
 br (igt x6 0) (br (!y15.2.1) (br (rdOk y15) (br (rnumOk (rnameN y15) 2) (br (takeOk (rnumN (rnameN y15) 2) (rnumV (rnameN y15) 2)) (br (clonOk a1) (br (cApp y20500 ([a2]) 40) (lp_f11_0 (isub .i64 x6 1) y2 (takeN (rnumN (rnameN y15) 2) (rnumV (rnameN y15) 2)) (y20500++([a2])) y20501) none) none) none) none) none) (some (.exit 0,st_f11_0_e0 y2 y15 y20500 y20501))) (some (.exit 0,st_f11_0_e0 y2 y15 y20500 y20501))
def la_f11_0 (x6:Int)(y2:Image)(y15:Reader)(y20500:List Section)(y20501:List Symbol):Option (Exit×VS):=some (.exit 0,st_f11_0_e0 (y2) ((secsP x6.toNat y15).2) (y20500++(secsP x6.toNat y15).1) (y20501))
theorem be_f11_0 (x6:Int)(y2:Image)(y15:Reader)(y20500:List Section)(y20501:List Symbol):roundF g_f11 fg_f11_0 tb_f11_0 (st_f11_0 x6 y2 y15 y20500 y20501)=b_f11_0 x6 y2 y15 y20500 y20501:=by kernel_rfl
theorem ln_f11_0 (x6:Int)(y2:Image)(y15:Reader)(y20500:List Section)(y20501:List Symbol):lp_f11_0 x6 y2 y15 y20500 y20501=n_f11_0 x6 y2 y15 y20500 y20501:=(loopF_nxt _ _).trans (by
 rw [be_f11_0]
 simp only [b_f11_0,n_f11_0,nxt_br,nxt_n,nxt_r,nxt_e,nxt_0]
 rfl)
def b_f11_1_1 (x8:Int)(y2:Image)(y15:Reader)(y20500:List Section)(y20501:List Symbol):Option (Exit×VS):=
 let a1:=((rnameV y15),((rnumV (rnameN y15) 4),()))
 br (rdOk y15) (br (rnumOk (rnameN y15) 4) (br (cApp y20501 ([a1]) 24) (some (.normal,st_f11_1 (isub .i64 x8 1) y2 (rnumN (rnameN y15) 4) y20500 (y20501++([a1])))) none) none) none
def b_f11_1 (x8:Int)(y2:Image)(y15:Reader)(y20500:List Section)(y20501:List Symbol):Option (Exit×VS):=br (igt x8 0) (br (!y15.2.1) (frk (b_f11_1_1 x8 y2 y15 y20500 y20501) (b_f11_1_1 x8 y2 y15 y20500 y20501)) (some (.exit 2,st_f11_1_e2 y2 y15 y20500 y20501))) (some (.exit 2,st_f11_1_e2 y2 y15 y20500 y20501))
noncomputable def lp_f11_1 (x8:Int)(y2:Image)(y15:Reader)(y20500:List Section)(y20501:List Symbol):Option (Exit×VS):=loopF (roundF g_f11 fg_f11_1 tb_f11_1) (st_f11_1 x8 y2 y15 y20500 y20501)
noncomputable def n_f11_1_1 (x8:Int)(y2:Image)(y15:Reader)(y20500:List Section)(y20501:List Symbol):Option (Exit×VS):=
 let a1:=((rnameV y15),((rnumV (rnameN y15) 4),()))
 br (rdOk y15) (br (rnumOk (rnameN y15) 4) (br (cApp y20501 ([a1]) 24) (lp_f11_1 (isub .i64 x8 1) y2 (rnumN (rnameN y15) 4) y20500 (y20501++([a1]))) none) none) none
noncomputable def n_f11_1 (x8:Int)(y2:Image)(y15:Reader)(y20500:List Section)(y20501:List Symbol):Option (Exit×VS):=br (igt x8 0) (br (!y15.2.1) (frk (n_f11_1_1 x8 y2 y15 y20500 y20501) (n_f11_1_1 x8 y2 y15 y20500 y20501)) (some (.exit 2,st_f11_1_e2 y2 y15 y20500 y20501))) (some (.exit 2,st_f11_1_e2 y2 y15 y20500 y20501))
def la_f11_1 (x8:Int)(y2:Image)(y15:Reader)(y20500:List Section)(y20501:List Symbol):Option (Exit×VS):=some (.exit 2,st_f11_1_e2 (y2) ((symsP x8.toNat y15).2) (y20500) (y20501++(symsP x8.toNat y15).1))
theorem be_f11_1 (x8:Int)(y2:Image)(y15:Reader)(y20500:List Section)(y20501:List Symbol):roundF g_f11 fg_f11_1 tb_f11_1 (st_f11_1 x8 y2 y15 y20500 y20501)=b_f11_1 x8 y2 y15 y20500 y20501:=by kernel_rfl
theorem ln_f11_1 (x8:Int)(y2:Image)(y15:Reader)(y20500:List Section)(y20501:List Symbol):lp_f11_1 x8 y2 y15 y20500 y20501=n_f11_1 x8 y2 y15 y20500 y20501:=(loopF_nxt _ _).trans (by
 rw [be_f11_1]
 first
 |(simp only [b_f11_1,b_f11_1_1,frk_self,n_f11_1,n_f11_1_1,frk_self,nxt_br,nxt_n,nxt_r,nxt_e,nxt_0]
   rfl)
 |(simp only [b_f11_1,b_f11_1_1,frk_self,n_f11_1,n_f11_1_1,frk_self]
   try generalize (cApp y20501 ([((rnameV y15),((rnumV (rnameN y15) 4),()))]) 24)=cq0
   try generalize ((rnumOk (rnameN y15) 4))=cq1
   try generalize ((rdOk y15))=cq2
   simp only [brN,frk_self,Bool.and_assoc,Bool.and_comm,Bool.and_left_comm,Bool.and_self,Bool.and_self_left,nxt_br,nxt_n,nxt_r,nxt_e,nxt_0]
   try rfl))
def r_f11 (p0:List Int):Option (V×List VO):=
 let a3:=(takeN (p0,(false,())) 3)
 let a1:=secsP (rnumV a3 1).toNat (rnumN a3 1)
 let a2:=symsP (rnumV (a1.2) 1).toNat (rnumN (a1.2) 1)
 br (igt (llen p0) 4096) (some (.tu [(.t tyImage (([]:List Section),(([]:List Symbol),()))),(.t tI 3)],[])) (br (takeOk (p0,(false,())) 3) (br (sne (strOf (takeV (p0,(false,())) 3)) (ByteArray.mk #[88,69,1])) (some (.tu [(.t tyImage (([]:List Section),(([]:List Symbol),()))),(.t tI 1)],[])) (br (rnumOk a3 1) (br (rdOk (rnumN a3 1)&&decide (0<=(rnumV a3 1)/\([]:List Section).length+(rnumV a3 1).toNat<=100000)) (br (rnumOk (a1.2) 1) (br (rdOk (rnumN (a1.2) 1)&&decide (0<=(rnumV (a1.2) 1)/\([]:List Symbol).length+(rnumV (a1.2) 1).toNat<=100000)) (br (((a2.2).2).1) (some (.tu [(.t tyImage (([]:List Section),(([]:List Symbol),()))),(.t tI 1)],[])) (br (igt (llen ((a2.2).1)) 0) (some (.tu [(.t tyImage (([]:List Section),(([]:List Symbol),()))),(.t tI 1)],[])) (br (chkOk ((([]:List Section)++a1.1),((([]:List Symbol)++a2.1),()))) (br (ine (checkX ((([]:List Section)++a1.1),((([]:List Symbol)++a2.1),()))) 0) (some (.tu [(.t tyImage (([]:List Section),(([]:List Symbol),()))),(.t tI 20)],[])) (some (.tu [(.t tyImage ((([]:List Section)++a1.1),((([]:List Symbol)++a2.1),()))),(.t tI 0)],[]))) none))) none) none) none) none)) none)
theorem e_f11 (p0:List Int):runF g_f11 tc_f11 rv_f11 false [.t (.sl (.int .u8)) p0] []=r_f11 p0:=by kernel_rfl
theorem en_f11:Entered Tryz.prog 11:= .inr ⟨by decide,_,Tryz.func11,by kernel_rfl,by kernel_rfl⟩
theorem gk_f11:GOk Tryz.prog g_f11:=gok_of _ (gA (gC en_f30 ms_f30 (gC en_f32 ms_f32 (gC en_f33 ms_f33 (gC en_f34 ms_f34 (gC en_f35 ms_f35 (gC en_op_convert_39_9 ms_op_convert_39_9 gN)))))))
theorem l_f11_0 (x6:Int)(y2:Image)(y15:Reader)(y20500:List Section)(y20501:List Symbol)(h:(rdOk y15&&decide (0<=x6/\y20500.length+x6.toNat<=100000))=true):lp_f11_0 x6 y2 y15 y20500 y20501=la_f11_0 x6 y2 y15 y20500 y20501:=by
 simp only [Bool.and_eq_true,decide_eq_true_eq] at h
 obtain ⟨h1,h2,h3⟩:=h
 obtain ⟨n,rfl⟩:=Int.eq_ofNat_of_zero_le h2
 rw [Int.toNat_natCast] at h3
 induction n generalizing y15 y20500 with
 |zero=>
  rw [ln_f11_0]
  simp [n_f11_0,la_f11_0,igt,br_false,secsP]
 |succ n ih=>
  rw [ln_f11_0]
  have e1:igt ((n+1:Nat):Int) 0=true:=by simp only [igt,decide_eq_true_eq];omega
  have e2:isub .i64 ((n+1:Nat):Int) 1=(n:Int):=by rw [isub_in (by omega)];omega
  obtain ⟨k1,k2,k3⟩:=rnum_ok (c:=2) (rname_ok h1) (by omega)
  simp only [n_f11_0,e1,e2,br_true,la_f11_0,Int.toNat_natCast]
  unfold secsP
  cases hf:y15.2.1 with
  |true=>simp only [Bool.not_true,br_false,cond_true,List.append_nil]
  |false=>
   simp only [Bool.not_false,br_true,cond_false,h1,k1]
   rw [show takeOk (rnumN (rnameN y15) 2) (rnumV (rnameN y15) 2)=true from by simp only [takeOk,k3,Bool.true_and,decide_eq_true_eq];exact k2,br_true,show clonOk (takeV (rnumN (rnameN y15) 2) (rnumV (rnameN y15) 2))=true from decide_eq_true (Nat.le_trans (take_len k3) (by omega)),br_true,
    cApp_ok (by simp only [List.length_singleton];omega) (by omega),br_true]
   have:=ih (takeN (rnumN (rnameN y15) 2) (rnumV (rnameN y15) 2)) (y20500++[(rnameV y15,(clonB (takeV (rnumN (rnameN y15) 2) (rnumV (rnameN y15) 2)),()))]) (sec_ok h1) (by omega) (by rw [List.length_append];simp only [List.length_singleton];omega)
   rw [this]
   simp only [la_f11_0,Int.toNat_natCast,List.append_assoc,List.singleton_append]
   rfl
theorem l_f11_1 (x8:Int)(y2:Image)(y15:Reader)(y20500:List Section)(y20501:List Symbol)(h:(rdOk y15&&decide (0<=x8/\y20501.length+x8.toNat<=100000))=true):lp_f11_1 x8 y2 y15 y20500 y20501=la_f11_1 x8 y2 y15 y20500 y20501:=by
 simp only [Bool.and_eq_true,decide_eq_true_eq] at h
 obtain ⟨h1,h2,h3⟩:=h
 obtain ⟨n,rfl⟩:=Int.eq_ofNat_of_zero_le h2
 rw [Int.toNat_natCast] at h3
 induction n generalizing y15 y20501 with
 |zero=>
  rw [ln_f11_1]
  simp [n_f11_1,la_f11_1,igt,br_false,symsP]
 |succ n ih=>
  rw [ln_f11_1]
  have e1:igt ((n+1:Nat):Int) 0=true:=by simp only [igt,decide_eq_true_eq];omega
  have e2:isub .i64 ((n+1:Nat):Int) 1=(n:Int):=by rw [isub_in (by omega)];omega
  obtain ⟨k1,k2,k3⟩:=rnum_ok (c:=4) (rname_ok h1) (by omega)
  simp only [n_f11_1,n_f11_1_1,frk_self,e1,e2,br_true,la_f11_1,Int.toNat_natCast]
  unfold symsP
  cases hf:y15.2.1 with
  |true=>simp only [Bool.not_true,br_false,cond_true,List.append_nil]
  |false=>
   simp only [Bool.not_false,br_true,cond_false,h1,k1]
   rw [cApp_ok (by simp only [List.length_singleton];omega) (by omega)]
   simp only [br_true,frk_self]
   have:=ih (rnumN (rnameN y15) 4) (y20501++[(rnameV y15,(rnumV (rnameN y15) 4,()))]) (sym_ok h1) (by omega) (by rw [List.length_append];simp only [List.length_singleton];omega)
   rw [this]
   simp only [la_f11_1,Int.toNat_natCast,List.append_assoc,List.singleton_append]
   rfl
theorem lo_f11_0: ∀ S l p,g_f11.L 0 (fgt fg_f11_0 S)=some (true,l)->pickA l=some p->loopF (roundF g_f11 fg_f11_0 tb_f11_0) S=some p:=
 lok_of (s:=sh_f11_0) ⟨by decide,by decide⟩ (by kernel_rfl) fun x y hok p hp=>by
 simp only [pickA_br,pickA_one] at hp
 exact (l_f11_0 x.2.2.2.1 y.1 y.2.2.1 y.2.2.2.2.2.1 y.2.2.2.2.2.2.1 (by simpa using hok)).trans hp
theorem lo_f11_1: ∀ S l p,g_f11.L 1 (fgt fg_f11_1 S)=some (true,l)->pickA l=some p->loopF (roundF g_f11 fg_f11_1 tb_f11_1) S=some p:=
 lok_of (s:=sh_f11_1) ⟨by decide,by decide⟩ (by kernel_rfl) fun x y hok p hp=>by
 simp only [pickA_br,pickA_one] at hp
 exact (l_f11_1 x.2.2.2.1 y.1 y.2.2.1 y.2.2.2.2.2.1 y.2.2.2.2.2.2.1 (by simpa using hok)).trans hp
theorem lk_f11:tc_f11.lok g_f11:=by
 repeat (first|exact trivial|exact lo_f11_0|exact lo_f11_1|refine ⟨?_, ?_⟩)
theorem ine_bif {c:Bool}{a b:Option (V×List VO)}:br (ine (bif c then (20:Int) else 0) 0) a b=bif c then a else b:=by cases c<;>rfl
theorem br_of {c:Bool}{α:Type}{a b:Option α}(h:c=true):br c a b=a:=by rw [h];rfl
theorem and_dec {c:Bool}{P:Prop}[Decidable P](h:c=true)(p:P):(c&&decide P)=true:=by rw [h,Bool.true_and];exact decide_eq_true p
theorem s_f11 (l:List Int)(h:decOkX l=true):r_f11 l=some (.tu [.t tyImage (decX l).1,.t tI (decX l).2],[]):=by
 obtain ⟨h0,h1,h2,h3,h4,h5,n1,n2,hc⟩:=dec_facts h
 have e1:igt (llen l) 4096=decide (4096<l.length):=by simp only [igt,llen,decide_eq_decide];omega
 have e2:igt (llen (d4D l).1) 0=decide (0<(d4D l).1.length):=by simp only [igt,llen,decide_eq_decide];omega
 have k1:=(rnum_ok (c:=1) h1 (by omega))
 have k2:=(rnum_ok (c:=1) h3 (by omega))
 unfold decX
 simp only [r_f11,e1]
 cases decide (4096<l.length) with
 |true=>rfl
 |false=>
  rw [br_false,show takeOk (l,(false,())) 3=true from by simp only [takeOk,Bool.and_eq_true,decide_eq_true_eq];exact ⟨h0,by omega⟩,br_true]
  show br (mgD l) _ _=_
  cases mgD l with
  |true=>rfl
  |false=>
   rw [br_false]
   have q1:([]:List Section).length+(rnumV (takeN (d0D l) 3) 1).toNat<=100000:=by rw [List.length_nil,Nat.zero_add];exact Nat.le_trans n1 (by omega)
   have q2:([]:List Symbol).length+(rnumV (d2D l) 1).toNat<=100000:=by rw [List.length_nil,Nat.zero_add];exact Nat.le_trans n2 (by omega)
   refine (br_of k1.1).trans ?_
   refine (br_of (and_dec h2 ⟨k1.2.1,q1⟩)).trans ?_
   refine (br_of k2.1).trans ?_
   refine (br_of (and_dec h4 ⟨k2.2.1,q2⟩)).trans ?_
   show br (d4D l).2.1 _ (br (igt (llen (d4D l).1) 0) _ (br (chkOk (imD l)) (br (ine (checkX (imD l)) 0) _ _) _))=_
   rw [e2,hc,br_true,checkX,ine_bif]
   cases (d4D l).2.1<;>cases decide (0<(d4D l).1.length)<;>cases badX (imD l)<;>rfl
def sp_f11:Ent:=spec (.pr (.sl (.int .u8)) .nil) (fun x=>(decOkX x.1)) (fun x=>(.tu [(.t tyImage ((decX x.1).1)),(.t tI ((decX x.1).2))]))
theorem ms_f11:Meets Tryz.prog 11 (strip sp_f11):=meets_spec (R:=runF g_f11 tc_f11 rv_f11 false) (mG Tryz.func11 (by kernel_rfl) Tryz.ntmps11 (by kernel_rfl) gk_f11 lk_f11) fun x hok=>(e_f11 x.1).trans (s_f11 x.1 hok)
end
end Go.Proofs.YtmokmalepelinaaGreatDoor.K
namespace Go.Proofs
open Go.Shelf
end Go.Proofs
namespace Go.Proofs.YtmokmalepelinaaGreatDoor.K
open Go.RowKit Go.Shelf
noncomputable section
def eqB (a b:List Int):Bool:=seq (strOf a) (strOf b)
noncomputable def tc_f55:TC:=(.sq (.reg (rT Tryz.f55 0)) (.sq (.reg (rT Tryz.f55 1)) .rt))
def rv_f55:List (RV×Option Ty):=[((.t 4),some .bool)]
def g_f55:G:=⟨TYs,[],10,EL [(2440624,sp_op_convert_39_9)],keeps,(fun _ _=>none),IL [],RL []⟩
def r_f55 (p0 p1:List Int):Option (V×List VO):=some (.t .bool (seq (strOf p0) (strOf p1)),[])
theorem e_f55 (p0 p1:List Int):runF g_f55 tc_f55 rv_f55 false [.t (.sl (.int .u8)) p0,.t (.sl (.int .u8)) p1] []=r_f55 p0 p1:=by kernel_rfl
theorem en_f55:Entered Tryz.prog 55:= .inr ⟨by decide,_,Tryz.func55,by kernel_rfl,by kernel_rfl⟩
theorem gk_f55:GOk Tryz.prog g_f55:=gok_of _ (gA (gC en_op_convert_39_9 ms_op_convert_39_9 gN))
theorem lk_f55:tc_f55.lok g_f55:=by repeat (first|exact trivial|refine ⟨?_, ?_⟩)
theorem s_f55 (a b:List Int):r_f55 a b=some (.t .bool (eqB a b),[]):=rfl
def sp_f55:Ent:=spec (.pr (.sl (.int .u8)) (.pr (.sl (.int .u8)) .nil)) (fun x=>true) (fun x=>(.t .bool (eqB x.1 x.2.1)))
theorem ms_f55:Meets Tryz.prog 55 (strip sp_f55):=meets_spec (R:=runF g_f55 tc_f55 rv_f55 false) (mG Tryz.func55 (by kernel_rfl) Tryz.ntmps55 (by kernel_rfl) gk_f55 lk_f55) fun x _=>(e_f55 x.1 x.2.1).trans (s_f55 x.1 x.2.1)
def eqSec (x y:Section):Bool:=seq x.1 y.1&&eqB x.2.1 y.2.1
def eqSym (x y:Symbol):Bool:=seq x.1 y.1&&(ieq x.2.1 y.2.1&&true)
def zipA {α:Type}(p:α->α->Bool)(a b:List α):Bool:=(a.zip b).all fun z=>p z.1 z.2
def eqL {α:Type}(p:α->α->Bool)(a b:List α):Bool:=decide (a.length=b.length)&&zipA p a b
theorem zipA_drop {α:Type}{p:α->α->Bool}{a b:List α}{k:Nat}(h1:k<a.length)(h2:k<b.length):zipA p (a.drop k) (b.drop k)=(p a[k] b[k]&&zipA p (a.drop (k+1)) (b.drop (k+1))):=by
 rw [List.drop_eq_getElem_cons h1,List.drop_eq_getElem_cons h2]
 rfl
def eqSecs (a b:List Section):Bool:=eqL eqSec a b
def eqSecsOk (a _b:List Section):Bool:=decide (a.length<=100000)
def eqSyms (a b:List Symbol):Bool:=eqL eqSym a b
def eqSymsOk (a _b:List Symbol):Bool:=decide (a.length<=100000)
noncomputable def tc_f54:TC:=(.sq (.reg (rT Tryz.f54 0)) (.sq (.reg (rT Tryz.f54 1)) .rt))
def rv_f54:List (RV×Option Ty):=[((.t 4),some .bool)]
def g_f54:G:=⟨TYs,[],17,EL [(55,sp_f55)],keeps,(fun _ _=>none),IL [],RL []⟩
def r_f54 (p0 p1:Section):Option (V×List VO):=br (seq p0.1 p1.1) (some (.t .bool (eqB p0.2.1 p1.2.1),[])) (some (.t .bool false,[]))
theorem e_f54 (p0 p1:Section):runF g_f54 tc_f54 rv_f54 false [.t tySection p0,.t tySection p1] []=r_f54 p0 p1:=by kernel_rfl
theorem en_f54:Entered Tryz.prog 54:= .inr ⟨by decide,_,Tryz.func54,by kernel_rfl,by kernel_rfl⟩
theorem gk_f54:GOk Tryz.prog g_f54:=gok_of _ (gA (gC en_f55 ms_f55 gN))
theorem lk_f54:tc_f54.lok g_f54:=by repeat (first|exact trivial|refine ⟨?_, ?_⟩)
theorem s_f54 (x y:Section):r_f54 x y=some (.t .bool (eqSec x y),[]):=by
 simp only [r_f54,eqSec]
 cases seq x.1 y.1<;>rfl
def sp_f54:Ent:=spec (.pr tySection (.pr tySection .nil)) (fun x=>true) (fun x=>(.t .bool (eqSec x.1 x.2.1)))
theorem ms_f54:Meets Tryz.prog 54 (strip sp_f54):=meets_spec (R:=runF g_f54 tc_f54 rv_f54 false) (mG Tryz.func54 (by kernel_rfl) Tryz.ntmps54 (by kernel_rfl) gk_f54 lk_f54) fun x _=>(e_f54 x.1 x.2.1).trans (s_f54 x.1 x.2.1)
def fg_f56c54_0:Fg:=⟨[(1,some (.sl tySection)),(2,none),(15,some (.sl tySection)),(16,some tI),(17,some tI)],[]⟩
noncomputable def tb_f56c54_0:TC:=(.sq (.reg (rT Tryz.f56 4)) (.sq (.cd (.t 18) .sk (.fg ⟨[],[]⟩ (.ex 0))) (.sq (.bk 1 (.sq (.reg (rT Tryz.f56 5)) (.sq (.reg (rT Tryz.f56 6)) (.sq (.reg (rT Tryz.f56 7)) (.cd (.t 30) (.sq (.reg (rT Tryz.f56 8)) (.fg ⟨[(6,some .bool)],[]⟩ .rt)) .sk))))) (.reg (rT Tryz.f56 9)))))
noncomputable def tc_f56c54:TC:=(.sq (.reg (rT Tryz.f56 0)) (.sq (.sq (.reg (rT Tryz.f56 1)) (.cd (.t 14) (.sq (.reg (rT Tryz.f56 2)) .rt) .sk)) (.sq (.sq (.reg (rT Tryz.f56 3)) (.bk 0 (.lp 0 fg_f56c54_0 tb_f56c54_0))) (.sq (.reg (rT Tryz.f56 10)) .rt))))
def rv_f56c54:List (RV×Option Ty):=[((.t 6),some .bool)]
abbrev sh_f56c54_0:Sh:=⟨[(1,.ty (.sl tySection)),(2,.cf 54),(15,.ty (.sl tySection)),(16,.ty tI),(17,.ty tI)],[]⟩
def st_f56c54_0 (x1 x15:List Section)(x16 x17:Int):VS:=sh_f56c54_0.st (x1,(),x15,x16,x17,()) ()
abbrev sh_f56c54_0_ret:Sh:=⟨[(6,.ty .bool)],[]⟩
def st_f56c54_0_ret (x6:Bool):VS:=sh_f56c54_0_ret.st (x6,()) ()
abbrev sh_f56c54_0_e0:Sh:=⟨[],[]⟩
def st_f56c54_0_e0  : VS:=sh_f56c54_0_e0.st () ()
def L_f56c54_0:VS->Option (Bool×List (Bool×Exit×VS)):=mkL sh_f56c54_0 (fun x y=>(rngOk x.2.2.1 x.2.2.2.1 x.2.2.2.2.1&&decide (x.2.2.1.length=x.1.length))) (fun x y=>[((!zipA eqSec (x.2.2.1.drop x.2.2.2.2.1.toNat) (x.1.drop x.2.2.2.2.1.toNat)),.ret,st_f56c54_0_ret (false)),(true,.exit 0,st_f56c54_0_e0)])
def g_f56c54:G:=⟨TYs,[],32,EL [(54,sp_f54)],keeps,(Ls [L_f56c54_0]),IL [],RL []⟩
def b_f56c54_0 (x1 x15:List Section)(x16 x17:Int):Option (Exit×VS):=br (ilt x17 x16) (br (cIx x15 x17) (br (cIx x1 x17) (br (!(eqSec (lgt tySection x15 (Int.toNat x17)) (lgt tySection x1 (Int.toNat x17)))) (some (.ret,st_f56c54_0_ret false)) (some (.normal,st_f56c54_0 x1 x15 x16 (iadd .i64 x17 1)))) none) none) (some (.exit 0,st_f56c54_0_e0))
noncomputable def lp_f56c54_0 (x1 x15:List Section)(x16 x17:Int):Option (Exit×VS):=loopF (roundF g_f56c54 fg_f56c54_0 tb_f56c54_0) (st_f56c54_0 x1 x15 x16 x17)
noncomputable def n_f56c54_0 (x1 x15:List Section)(x16 x17:Int):Option (Exit×VS):=br (ilt x17 x16) (br (cIx x15 x17) (br (cIx x1 x17) (br (!(eqSec (lgt tySection x15 (Int.toNat x17)) (lgt tySection x1 (Int.toNat x17)))) (some (.ret,st_f56c54_0_ret false)) (lp_f56c54_0 x1 x15 x16 (iadd .i64 x17 1))) none) none) (some (.exit 0,st_f56c54_0_e0))
def la_f56c54_0 (x1 x15:List Section)(x16 x17:Int):Option (Exit×VS):=br (!zipA eqSec (x15.drop x17.toNat) (x1.drop x17.toNat)) (some (.ret,st_f56c54_0_ret (false)))<|some (.exit 0,st_f56c54_0_e0)
theorem be_f56c54_0 (x1 x15:List Section)(x16 x17:Int):roundF g_f56c54 fg_f56c54_0 tb_f56c54_0 (st_f56c54_0 x1 x15 x16 x17)=b_f56c54_0 x1 x15 x16 x17:=by kernel_rfl
theorem ln_f56c54_0 (x1 x15:List Section)(x16 x17:Int):lp_f56c54_0 x1 x15 x16 x17=n_f56c54_0 x1 x15 x16 x17:=(loopF_nxt _ _).trans (by
 rw [be_f56c54_0]
 simp only [b_f56c54_0,n_f56c54_0,nxt_br,nxt_n,nxt_r,nxt_e,nxt_0]
 rfl)
def r_f56c54 (p0 p1:List Section):Option (V×List VO):=br (ine (llen p0) (llen p1)) (some (.t .bool false,[])) (br (rngOk p0 (llen p0) (0:Int)&&decide (p0.length=p1.length)) (br (!zipA eqSec (p0.drop (0:Int).toNat) (p1.drop (0:Int).toNat)) (some (.t .bool (false),[])) (some (.t .bool true,[]))) none)
theorem e_f56c54 (p0 p1:List Section):runF g_f56c54 tc_f56c54 rv_f56c54 false [.t (.sl tySection) p0,.t (.sl tySection) p1,.c (.func (.func 54) ⟨[]⟩ ⟨[]⟩)] []=r_f56c54 p0 p1:=by kernel_rfl
theorem en_f56c54:Entered Tryz.prog 56:= .inr ⟨by decide,_,Tryz.func56,by kernel_rfl,by kernel_rfl⟩
theorem gk_f56c54:GOk Tryz.prog g_f56c54:=gok_of _ (gA (gC en_f54 ms_f54 gN))
theorem l_f56c54_0 (x1 x15:List Section)(x16 x17:Int)(h:(rngOk x15 x16 x17&&decide (x15.length=x1.length))=true):lp_f56c54_0 x1 x15 x16 x17=la_f56c54_0 x1 x15 x16 x17:=by
 simp only [Bool.and_eq_true,decide_eq_true_eq] at h
 obtain ⟨h0,h5⟩:=h
 obtain ⟨rfl,h3,k,rfl,hk⟩:=rng_k h0
 clear h0
 refine range_ind x15 (fun k=>lp_f56c54_0 x1 x15 (x15.length:Int) (k:Int)=la_f56c54_0 x1 x15 (x15.length:Int) (k:Int)) ?_ ?_ k hk
 ·rw [ln_f56c54_0]
  have e2:x1.drop x15.length=[]:=List.drop_eq_nil_of_le (by omega)
  simp [n_f56c54_0,la_f56c54_0,ilt_nat,br_false,e2,zipA]
 ·intro k hk ih
  have hk1:k<x1.length:=by omega
  rw [ln_f56c54_0]
  simp only [n_f56c54_0,ilt_nat,cIx_nat,hk,hk1,decide_true,br_true,Int.toNat_natCast,lgt_get (y:=tySection) hk,lgt_get (y:=tySection) hk1,add1 (k:=k),ih,la_f56c54_0,zipA_drop hk hk1]
  cases eqSec x15[k] x1[k]<;>rfl
theorem lo_f56c54_0: ∀ S l p,g_f56c54.L 0 (fgt fg_f56c54_0 S)=some (true,l)->pickA l=some p->loopF (roundF g_f56c54 fg_f56c54_0 tb_f56c54_0) S=some p:=
 lok_of (s:=sh_f56c54_0) ⟨by decide,by decide⟩ (by kernel_rfl) fun x y hok p hp=>by
 simp only [pickA_br,pickA_one] at hp
 exact (l_f56c54_0 x.1 x.2.2.1 x.2.2.2.1 x.2.2.2.2.1 (by simpa using hok)).trans hp
theorem lk_f56c54:tc_f56c54.lok g_f56c54:=by
 repeat (first|exact trivial|exact lo_f56c54_0|refine ⟨?_, ?_⟩)
theorem eqL_of {α:Type}{p:α->α->Bool}{a b:List α}(h:a.length<=100000):br (ine (llen a) (llen b)) (some (.t .bool false,[])) (br (rngOk a (llen a) (0:Int)&&decide (a.length=b.length)) (br (!zipA p (a.drop (0:Int).toNat) (b.drop (0:Int).toNat)) (some (.t .bool false,[])) (some (.t .bool true,[]))) none)=some (V.t .bool (eqL p a b),([]:List VO)):=by
 by_cases q:a.length=b.length
 ·have e1:ine (llen a) (llen b)=false:=by simp [ine,llen,q]
  simp only [e1,br_false,rng_0 h,br_true,Int.toNat_zero,List.drop_zero,eqL,q,decide_true,Bool.true_and]
  cases zipA p a b<;>rfl
 ·have e1:ine (llen a) (llen b)=true:=by simp [ine,llen];omega
  simp only [e1,br_true,eqL,q,decide_false,Bool.false_and]
theorem s_f56c54 (a b:List Section)(h:eqSecsOk a b=true):r_f56c54 a b=some (.t .bool (eqSecs a b),[]):=
 eqL_of (of_decide_eq_true h)
def sp_f56c54:Ent:=specH [.ty (.sl tySection),.ty (.sl tySection),.cf 54] [] (fun x d=>(eqSecsOk x.1 x.2.1)) (fun x d=>(.t .bool (eqSecs x.1 x.2.1)))
theorem ms_f56c54:Meets Tryz.prog 56 (strip sp_f56c54):=(meets_specH (R:=runF g_f56c54 tc_f56c54 rv_f56c54 false) (mG Tryz.func56 (by kernel_rfl) Tryz.ntmps56 (by kernel_rfl) gk_f56c54 lk_f56c54) fun x d hok=>(e_f56c54 x.1 x.2.1).trans (s_f56c54 x.1 x.2.1 hok))
noncomputable def dr_f57_0:List DO:=dT Tryz.f57 6
def fg_f57_0:Fg:=⟨[(0,some (.sl tySymbol)),(1,some (.sl tySymbol)),(12,some tI),(13,some tI)],[]⟩
noncomputable def tb_f57_0:TC:=(.sq (.reg (rT Tryz.f57 4)) (.sq (.cd (.t 14) .sk (.fg ⟨[],[]⟩ (.ex 0))) (.sq (.bk 1 (.sq (.reg (rT Tryz.f57 5)) (.sq (.dr dr_f57_0 [(0,[]),(1,[]),(2,[]),(3,[]),(4,[]),(5,[]),(6,[]),(7,[]),(8,[])] (.of [0,1,2,3,4,5,6,7,8])) (.cd (.t 24) (.sq (.reg (rT Tryz.f57 7)) (.fg ⟨[(4,some .bool)],[]⟩ .rt)) .sk)))) (.reg (rT Tryz.f57 8)))))
noncomputable def tc_f57:TC:=(.sq (.reg (rT Tryz.f57 0)) (.sq (.sq (.reg (rT Tryz.f57 1)) (.cd (.t 10) (.sq (.reg (rT Tryz.f57 2)) .rt) .sk)) (.sq (.sq (.reg (rT Tryz.f57 3)) (.bk 0 (.lp 0 fg_f57_0 tb_f57_0))) (.sq (.reg (rT Tryz.f57 9)) .rt))))
def rv_f57:List (RV×Option Ty):=[((.t 4),some .bool)]
abbrev sh_f57_0:Sh:=⟨[(0,.ty (.sl tySymbol)),(1,.ty (.sl tySymbol)),(12,.ty tI),(13,.ty tI)],[]⟩
def st_f57_0 (x0 x1:List Symbol)(x12 x13:Int):VS:=sh_f57_0.st (x0,x1,x12,x13,()) ()
abbrev sh_f57_0_ret:Sh:=⟨[(4,.ty .bool)],[]⟩
def st_f57_0_ret (x4:Bool):VS:=sh_f57_0_ret.st (x4,()) ()
abbrev sh_f57_0_e0:Sh:=⟨[],[]⟩
def st_f57_0_e0  : VS:=sh_f57_0_e0.st () ()
def L_f57_0:VS->Option (Bool×List (Bool×Exit×VS)):=mkL sh_f57_0 (fun x y=>(rngOk x.1 x.2.2.1 x.2.2.2.1&&decide (x.1.length=x.2.1.length))) (fun x y=>[((!zipA eqSym (x.1.drop x.2.2.2.1.toNat) (x.2.1.drop x.2.2.2.1.toNat)),.ret,st_f57_0_ret (false)),(true,.exit 0,st_f57_0_e0)])
def g_f57:G:=⟨TYs,[],26,EL [],keeps,(Ls [L_f57_0]),IL [],RL []⟩
def b_f57_0 (x0 x1:List Symbol)(x12 x13:Int):Option (Exit×VS):=
 let a1:=Int.toNat x13
 br (ilt x13 x12) (br (cIx x0 x13) (br (cIx x1 x13) (br (!(and (seq ((lgt tySymbol x0 a1).1) ((lgt tySymbol x1 a1).1)) (and (ieq (((lgt tySymbol x0 a1).2).1) (((lgt tySymbol x1 a1).2).1)) true))) (some (.ret,st_f57_0_ret false)) (some (.normal,st_f57_0 x0 x1 x12 (iadd .i64 x13 1)))) none) none) (some (.exit 0,st_f57_0_e0))
noncomputable def lp_f57_0 (x0 x1:List Symbol)(x12 x13:Int):Option (Exit×VS):=loopF (roundF g_f57 fg_f57_0 tb_f57_0) (st_f57_0 x0 x1 x12 x13)
noncomputable def n_f57_0 (x0 x1:List Symbol)(x12 x13:Int):Option (Exit×VS):=
 let a1:=Int.toNat x13
 br (ilt x13 x12) (br (cIx x0 x13) (br (cIx x1 x13) (br (!(and (seq ((lgt tySymbol x0 a1).1) ((lgt tySymbol x1 a1).1)) (and (ieq (((lgt tySymbol x0 a1).2).1) (((lgt tySymbol x1 a1).2).1)) true))) (some (.ret,st_f57_0_ret false)) (lp_f57_0 x0 x1 x12 (iadd .i64 x13 1))) none) none) (some (.exit 0,st_f57_0_e0))
def la_f57_0 (x0 x1:List Symbol)(x12 x13:Int):Option (Exit×VS):=br (!zipA eqSym (x0.drop x13.toNat) (x1.drop x13.toNat)) (some (.ret,st_f57_0_ret (false)))<|some (.exit 0,st_f57_0_e0)
theorem be_f57_0 (x0 x1:List Symbol)(x12 x13:Int):roundF g_f57 fg_f57_0 tb_f57_0 (st_f57_0 x0 x1 x12 x13)=b_f57_0 x0 x1 x12 x13:=by kernel_rfl
theorem ln_f57_0 (x0 x1:List Symbol)(x12 x13:Int):lp_f57_0 x0 x1 x12 x13=n_f57_0 x0 x1 x12 x13:=(loopF_nxt _ _).trans (by
 rw [be_f57_0]
 simp only [b_f57_0,n_f57_0,nxt_br,nxt_n,nxt_r,nxt_e,nxt_0]
 rfl)
def r_f57 (p0 p1:List Symbol):Option (V×List VO):=br (ine (llen p0) (llen p1)) (some (.t .bool false,[])) (br (rngOk p0 (llen p0) (0:Int)&&decide (p0.length=p1.length)) (br (!zipA eqSym (p0.drop (0:Int).toNat) (p1.drop (0:Int).toNat)) (some (.t .bool (false),[])) (some (.t .bool true,[]))) none)
theorem e_f57 (p0 p1:List Symbol):runF g_f57 tc_f57 rv_f57 false [.t (.sl tySymbol) p0,.t (.sl tySymbol) p1] []=r_f57 p0 p1:=by kernel_rfl
theorem en_f57:Entered Tryz.prog 57:= .inr ⟨by decide,_,Tryz.func57,by kernel_rfl,by kernel_rfl⟩
theorem gk_f57:GOk Tryz.prog g_f57:=gok_of _ (fun p hp=>by cases hp)
theorem l_f57_0 (x0 x1:List Symbol)(x12 x13:Int)(h:(rngOk x0 x12 x13&&decide (x0.length=x1.length))=true):lp_f57_0 x0 x1 x12 x13=la_f57_0 x0 x1 x12 x13:=by
 simp only [Bool.and_eq_true,decide_eq_true_eq] at h
 obtain ⟨h0,h5⟩:=h
 obtain ⟨rfl,h3,k,rfl,hk⟩:=rng_k h0
 clear h0
 refine range_ind x0 (fun k=>lp_f57_0 x0 x1 (x0.length:Int) (k:Int)=la_f57_0 x0 x1 (x0.length:Int) (k:Int)) ?_ ?_ k hk
 ·rw [ln_f57_0]
  have e2:x1.drop x0.length=[]:=List.drop_eq_nil_of_le (by omega)
  simp [n_f57_0,la_f57_0,ilt_nat,br_false,e2,zipA]
 ·intro k hk ih
  have hk1:k<x1.length:=by omega
  rw [ln_f57_0]
  simp only [n_f57_0,ilt_nat,cIx_nat,hk,hk1,decide_true,br_true,Int.toNat_natCast,lgt_get (y:=tySymbol) hk,lgt_get (y:=tySymbol) hk1,add1 (k:=k),ih,la_f57_0,zipA_drop hk hk1]
  show br (!eqSym x0[k] x1[k]) _ _=_
  cases eqSym x0[k] x1[k]<;>rfl
theorem lo_f57_0: ∀ S l p,g_f57.L 0 (fgt fg_f57_0 S)=some (true,l)->pickA l=some p->loopF (roundF g_f57 fg_f57_0 tb_f57_0) S=some p:=
 lok_of (s:=sh_f57_0) ⟨by decide,by decide⟩ (by kernel_rfl) fun x y hok p hp=>by
 simp only [pickA_br,pickA_one] at hp
 exact (l_f57_0 x.1 x.2.1 x.2.2.1 x.2.2.2.1 (by simpa using hok)).trans hp
theorem lk_f57:tc_f57.lok g_f57:=by
 repeat (first|exact trivial|exact lo_f57_0|refine ⟨?_, ?_⟩)
theorem s_f57 (a b:List Symbol)(h:eqSymsOk a b=true):r_f57 a b=some (.t .bool (eqSyms a b),[]):=
 eqL_of (of_decide_eq_true h)
def sp_f57:Ent:=spec (.pr (.sl tySymbol) (.pr (.sl tySymbol) .nil)) (fun x=>(eqSymsOk x.1 x.2.1)) (fun x=>(.t .bool (eqSyms x.1 x.2.1)))
theorem ms_f57:Meets Tryz.prog 57 (strip sp_f57):=meets_spec (R:=runF g_f57 tc_f57 rv_f57 false) (mG Tryz.func57 (by kernel_rfl) Tryz.ntmps57 (by kernel_rfl) gk_f57 lk_f57) fun x hok=>(e_f57 x.1 x.2.1).trans (s_f57 x.1 x.2.1 hok)
def sameX (a b:Image):Bool:=eqSecs a.1 b.1&&eqSyms a.2.1 b.2.1
def sameXOk (a _b:Image):Bool:=imgOk a
noncomputable def tc_f15:TC:=(.sq (.reg (rT Tryz.f15 0)) (.sq (.reg (rT Tryz.f15 1)) (.sq (.reg (rT Tryz.f15 2)) .rt)))
def rv_f15:List (RV×Option Ty):=[((.t 4),some .bool)]
def g_f15:G:=⟨TYs,[],19,EL [(56,sp_f56c54),(57,sp_f57)],keeps,(fun _ _=>none),IL [],RL []⟩
def r_f15 (p0 p1:Image):Option (V×List VO):=br (eqSecsOk p0.1 p1.1) (br (eqSecs p0.1 p1.1) (br (eqSymsOk p0.2.1 p1.2.1) (some (.t .bool (eqSyms p0.2.1 p1.2.1),[])) none) (some (.t .bool false,[]))) none
theorem e_f15 (p0 p1:Image):runF g_f15 tc_f15 rv_f15 false [.t tyImage p0,.t tyImage p1] []=r_f15 p0 p1:=by kernel_rfl
theorem en_f15:Entered Tryz.prog 15:= .inr ⟨by decide,_,Tryz.func15,by kernel_rfl,by kernel_rfl⟩
theorem gk_f15:GOk Tryz.prog g_f15:=gok_of _ (gA (gC en_f56c54 ms_f56c54 (gC en_f57 ms_f57 gN)))
theorem lk_f15:tc_f15.lok g_f15:=by repeat (first|exact trivial|refine ⟨?_, ?_⟩)
theorem s_f15 (a b:Image)(h:sameXOk a b=true):r_f15 a b=some (.t .bool (sameX a b),[]):=by
 have h:imgOk a=true:=h
 simp only [imgOk,decide_eq_true_eq] at h
 simp only [r_f15,eqSecsOk,eqSymsOk,h.1,h.2,decide_true,br_true,sameX]
 cases eqSecs a.1 b.1<;>rfl
def sp_f15:Ent:=spec (.pr tyImage (.pr tyImage .nil)) (fun x=>(sameXOk x.1 x.2.1)) (fun x=>(.t .bool (sameX x.1 x.2.1)))
theorem ms_f15:Meets Tryz.prog 15 (strip sp_f15):=meets_spec (R:=runF g_f15 tc_f15 rv_f15 false) (mG Tryz.func15 (by kernel_rfl) Tryz.ntmps15 (by kernel_rfl) gk_f15 lk_f15) fun x hok=>(e_f15 x.1 x.2.1).trans (s_f15 x.1 x.2.1 hok)
def sameI (a b:List Int):Bool:=a==b
def sameIOk (a _b:List Int):Bool:=decide (a.length<=100000)
theorem drop_neI {a b:List Int}{k:Nat}(h1:k<a.length)(h2:k<b.length):(!(a.drop k==b.drop k))=(!(a[k]==b[k])|| !(a.drop (k+1)==b.drop (k+1))):=by
 rw [List.drop_eq_getElem_cons h1,List.drop_eq_getElem_cons h2]
 show (!(a[k]==b[k]&&_))=_
 rw [Bool.not_and]
 rfl
noncomputable def dr_f18_0:List DO:=dT Tryz.f18 5
def fg_f18_0:Fg:=⟨[(0,some (.sl tI)),(1,some (.sl tI)),(5,some tI)],[]⟩
noncomputable def tb_f18_0:TC:=(.sq (.sq (.reg (rT Tryz.f18 4)) (.cd (.t 14) .sk (.fg ⟨[],[]⟩ (.ex 0)))) (.sq (.bk 1 (.sq (.dr dr_f18_0 [(0,[]),(1,[]),(2,[]),(3,[]),(4,[]),(5,[]),(6,[]),(7,[]),(8,[])] (.of [0,1,2,3,4,5,6,7,8])) (.cd (.t 25) (.sq (.reg (rT Tryz.f18 6)) (.fg ⟨[(4,some .bool)],[]⟩ .rt)) .sk))) (.reg (rT Tryz.f18 7))))
noncomputable def tc_f18:TC:=(.sq (.reg (rT Tryz.f18 0)) (.sq (.sq (.reg (rT Tryz.f18 1)) (.cd (.t 10) (.sq (.reg (rT Tryz.f18 2)) .rt) .sk)) (.sq (.sq (.reg (rT Tryz.f18 3)) (.bk 0 (.lp 0 fg_f18_0 tb_f18_0))) (.sq (.reg (rT Tryz.f18 8)) .rt))))
def rv_f18:List (RV×Option Ty):=[((.t 4),some .bool)]
abbrev sh_f18_0:Sh:=⟨[(0,.ty (.sl tI)),(1,.ty (.sl tI)),(5,.ty tI)],[]⟩
def st_f18_0 (x0 x1:List Int)(x5:Int):VS:=sh_f18_0.st (x0,x1,x5,()) ()
abbrev sh_f18_0_ret:Sh:=⟨[(4,.ty .bool)],[]⟩
def st_f18_0_ret (x4:Bool):VS:=sh_f18_0_ret.st (x4,()) ()
abbrev sh_f18_0_e0:Sh:=⟨[],[]⟩
def st_f18_0_e0  : VS:=sh_f18_0_e0.st () ()
def L_f18_0:VS->Option (Bool×List (Bool×Exit×VS)):=mkL sh_f18_0 (fun x y=>(decide (x.1.length=x.2.1.length/\x.1.length<=100000/\0<=x.2.2.1/\x.2.2.1<=x.1.length))) (fun x y=>[((!(x.1.drop x.2.2.1.toNat==x.2.1.drop x.2.2.1.toNat)),.ret,st_f18_0_ret (false)),(true,.exit 0,st_f18_0_e0)])
def g_f18:G:=⟨TYs,[],26,EL [],keeps,(Ls [L_f18_0]),IL [],RL []⟩
def b_f18_0 (x0 x1:List Int)(x5:Int):Option (Exit×VS):=br (ilt x5 (llen x0)) (br (cIx x0 x5) (br (cIx x1 x5) (br (ine (lgt tI x0 (Int.toNat x5)) (lgt tI x1 (Int.toNat x5))) (some (.ret,st_f18_0_ret false)) (some (.normal,st_f18_0 x0 x1 (iadd .i64 x5 1)))) none) none) (some (.exit 0,st_f18_0_e0))
noncomputable def lp_f18_0 (x0 x1:List Int)(x5:Int):Option (Exit×VS):=loopF (roundF g_f18 fg_f18_0 tb_f18_0) (st_f18_0 x0 x1 x5)
noncomputable def n_f18_0 (x0 x1:List Int)(x5:Int):Option (Exit×VS):=br (ilt x5 (llen x0)) (br (cIx x0 x5) (br (cIx x1 x5) (br (ine (lgt tI x0 (Int.toNat x5)) (lgt tI x1 (Int.toNat x5))) (some (.ret,st_f18_0_ret false)) (lp_f18_0 x0 x1 (iadd .i64 x5 1))) none) none) (some (.exit 0,st_f18_0_e0))
def la_f18_0 (x0 x1:List Int)(x5:Int):Option (Exit×VS):=br (!(x0.drop x5.toNat==x1.drop x5.toNat)) (some (.ret,st_f18_0_ret (false)))<|some (.exit 0,st_f18_0_e0)
theorem be_f18_0 (x0 x1:List Int)(x5:Int):roundF g_f18 fg_f18_0 tb_f18_0 (st_f18_0 x0 x1 x5)=b_f18_0 x0 x1 x5:=by kernel_rfl
theorem ln_f18_0 (x0 x1:List Int)(x5:Int):lp_f18_0 x0 x1 x5=n_f18_0 x0 x1 x5:=(loopF_nxt _ _).trans (by
 rw [be_f18_0]
 simp only [b_f18_0,n_f18_0,nxt_br,nxt_n,nxt_r,nxt_e,nxt_0]
 rfl)
def r_f18 (p0 p1:List Int):Option (V×List VO):=br (ine (llen p0) (llen p1)) (some (.t .bool false,[])) (br (decide (p0.length=p1.length/\p0.length<=100000/\0<=(0:Int)/\(0:Int)<=p0.length)) (br (!(p0.drop (0:Int).toNat==p1.drop (0:Int).toNat)) (some (.t .bool (false),[])) (some (.t .bool true,[]))) none)
theorem e_f18 (p0 p1:List Int):runF g_f18 tc_f18 rv_f18 false [.t (.sl tI) p0,.t (.sl tI) p1] []=r_f18 p0 p1:=by kernel_rfl
theorem en_f18:Entered Tryz.prog 18:= .inr ⟨by decide,_,Tryz.func18,by kernel_rfl,by kernel_rfl⟩
theorem gk_f18:GOk Tryz.prog g_f18:=gok_of _ (fun p hp=>by cases hp)
theorem l_f18_0 (x0 x1:List Int)(x5:Int)(h:(decide (x0.length=x1.length/\x0.length<=100000/\0<=x5/\x5<=x0.length))=true):lp_f18_0 x0 x1 x5=la_f18_0 x0 x1 x5:=by
 simp only [decide_eq_true_eq] at h
 obtain ⟨h1,h2,h3,h4⟩:=h
 obtain ⟨k,rfl⟩:=Int.eq_ofNat_of_zero_le h3
 refine range_ind x0 (fun k=>lp_f18_0 x0 x1 (k:Int)=la_f18_0 x0 x1 (k:Int)) ?_ ?_ k (by omega)
 ·rw [ln_f18_0]
  have e2:x1.drop x0.length=[]:=List.drop_eq_nil_of_le (by omega)
  simp [n_f18_0,la_f18_0,ilt_nat,llen,br_false,e2]
 ·intro k hk ih
  rw [ln_f18_0]
  have hk2:k<x1.length:=by omega
  simp only [n_f18_0,ilt_nat,llen,cIx_nat,hk,hk2,decide_true,br_true,Int.toNat_natCast,add1 (k:=k),ih,lgt_get (y:=tI) hk,lgt_get (y:=tI) hk2]
  simp only [la_f18_0,Int.toNat_natCast,drop_neI hk hk2,ine,bne]
  cases x0[k]==x1[k]<;>rfl
theorem lo_f18_0: ∀ S l p,g_f18.L 0 (fgt fg_f18_0 S)=some (true,l)->pickA l=some p->loopF (roundF g_f18 fg_f18_0 tb_f18_0) S=some p:=
 lok_of (s:=sh_f18_0) ⟨by decide,by decide⟩ (by kernel_rfl) fun x y hok p hp=>by
 simp only [pickA_br,pickA_one] at hp
 exact (l_f18_0 x.1 x.2.1 x.2.2.1 (by simpa using hok)).trans hp
theorem lk_f18:tc_f18.lok g_f18:=by
 repeat (first|exact trivial|exact lo_f18_0|refine ⟨?_, ?_⟩)
theorem s_f18 (a b:List Int)(h:sameIOk a b=true):r_f18 a b=some (.t .bool (sameI a b),[]):=by
 simp only [sameIOk,decide_eq_true_eq] at h
 simp only [r_f18,Int.toNat_zero,List.drop_zero]
 by_cases q:a.length=b.length
 ·have e1:ine (llen a) (llen b)=false:=by simp [ine,llen,q]
  rw [e1,br_false,decide_eq_true (show a.length=b.length/\a.length<=100000/\(0:Int)<=0/\(0:Int)<=a.length from ⟨q,h,Int.le_refl 0,by omega⟩),br_true]
  unfold sameI
  cases a==b<;>rfl
 ·have e1:ine (llen a) (llen b)=true:=by simp [ine,llen];omega
  have e2:(a==b)=false:=by
   rw [beq_eq_false_iff_ne]
   rintro rfl
   exact q rfl
  rw [e1,br_true,sameI,e2]
def sp_f18:Ent:=spec (.pr (.sl tI) (.pr (.sl tI) .nil)) (fun x=>(sameIOk x.1 x.2.1)) (fun x=>(.t .bool (sameI x.1 x.2.1)))
theorem ms_f18:Meets Tryz.prog 18 (strip sp_f18):=meets_spec (R:=runF g_f18 tc_f18 rv_f18 false) (mG Tryz.func18 (by kernel_rfl) Tryz.ntmps18 (by kernel_rfl) gk_f18 lk_f18) fun x hok=>(e_f18 x.1 x.2.1).trans (s_f18 x.1 x.2.1 hok)
end
end Go.Proofs.YtmokmalepelinaaGreatDoor.K
namespace Go.Proofs.YtmokmalepelinaaGreatDoor.K
open Go.RowKit Go.Shelf
noncomputable section
theorem indexB_lt: ∀ (l:List UInt8) (c:UInt8),Lib.indexByte l c<(l.length:Int)∨Lib.indexByte l c= -1
 | [],_=> .inr rfl
 |b::l,c=>by
  unfold Lib.indexByte
  split
  ·exact .inl (by simp only [List.length_cons];omega)
  ·split
   ·exact .inr rfl
   ·rename_i h
    have:=indexB_lt l c
    rcases this with h1|h1
    ·exact .inl (by simp only [List.length_cons];omega)
    ·exact absurd (by rw [h1];rfl) h
def cutO (s p:ByteArray):ByteArray×(ByteArray×Bool):=bif ige (idxO s p) 0 then (ssl s 0 (idxO s p),(ssl s (iadd .i64 (idxO s p) (slen p)) ((ByteArray.size s:Nat):Int),true)) else (s,(ByteArray.mk #[],false))
def cutOOk (s p:ByteArray):Bool:=decide (p.size=1/\s.size<=4611686018427387904)
noncomputable def dr_f113_0:List DO:=dT Tryz.f113 3
noncomputable def tc_f113:TC:=(.sq (.reg (rT Tryz.f113 0)) (.sq (.sq (.reg (rT Tryz.f113 1)) (.sq (.reg (rT Tryz.f113 2)) (.cd (.t 12) (.sq (.dr dr_f113_0 [(0,[]),(1,[]),(2,[]),(3,[]),(4,[]),(5,[]),(6,[]),(7,[]),(8,[]),(9,[]),(10,[]),(11,[])] (.of [0,1,2,3,4,5,6,7,8,9,10,11])) .rt) .sk))) (.sq (.reg (rT Tryz.f113 4)) .rt)))
def rv_f113:List (RV×Option Ty):=[((.t 4),some .str),((.t 5),some .str),((.t 6),some .bool)]
def g_f113:G:=⟨TYs,[],23,EL [(208,sp_f208)],keeps,(fun _ _=>none),IL [],RL []⟩
def r_f113 (p0 p1:ByteArray):Option (V×List VO):=
 let a1:=iadd .i64 (idxO p0 p1) (slen p1)
 let a2:=(ByteArray.size p0:Nat)
 br (idxOOk p0 p1) (br (ige (idxO p0 p1) 0) (br (cSs p0 0 (idxO p0 p1)) (br (cSs p0 a1 (a2:Int)) (some (.tu [(.t .str (ssl p0 0 (idxO p0 p1))),(.t .str (ssl p0 a1 (a2:Int))),(.t .bool true)],[])) none) none) (some (.tu [(.t .str p0),(.t .str (ByteArray.mk #[])),(.t .bool false)],[]))) none
theorem e_f113 (p0 p1:ByteArray):runF g_f113 tc_f113 rv_f113 false [.t .str p0,.t .str p1] []=r_f113 p0 p1:=by kernel_rfl
theorem en_f113:Entered Tryz.prog 113:= .inr ⟨by decide,_,Tryz.func113,by kernel_rfl,by kernel_rfl⟩
theorem gk_f113:GOk Tryz.prog g_f113:=gok_of _ (gA (gC en_f208 ms_f208 gN))
theorem lk_f113:tc_f113.lok g_f113:=by repeat (first|exact trivial|refine ⟨?_, ?_⟩)
theorem s_f113 (s p:ByteArray)(h:cutOOk s p=true):r_f113 s p=some (.tu [.t .str (cutO s p).1,.t .str (cutO s p).2.1,.t .bool (cutO s p).2.2],[]):=by
 simp only [cutOOk,decide_eq_true_eq] at h
 simp only [r_f113,idxOOk,h.1,decide_true,br_true,cutO]
 cases hg:ige (idxO s p) 0 with
 |false=>rfl
 |true=>
  have h0:0<=idxO s p:=by simpa [ige] using hg
  have h1:idxO s p<s.size:=by
   rcases indexB_lt s.data.toList (p.data.toList.headD 0) with h1|h1
   ·exact h1
   ·rw [show idxO s p= -1 from h1] at h0;omega
  have e1:iadd .i64 (idxO s p) (slen p)=idxO s p+1:=by
   rw [show slen p=1 from by simp [slen,h.1],iadd_in (by omega)]
  have c1:cSs s 0 (idxO s p)=true:=decide_eq_true (by omega)
  have c2:cSs s (iadd .i64 (idxO s p) (slen p)) ((ByteArray.size s:Nat):Int)=true:=decide_eq_true (by rw [e1];omega)
  rw [br_true,c1,c2,br_true,br_true]
  rfl
def sp_f113:Ent:=spec (.pr .str (.pr .str .nil)) (fun x=>(cutOOk x.1 x.2.1)) (fun x=>(.tu [(.t .str ((cutO x.1 x.2.1).1)),(.t .str (((cutO x.1 x.2.1).2).1)),(.t .bool (((cutO x.1 x.2.1).2).2))]))
theorem ms_f113:Meets Tryz.prog 113 (strip sp_f113):=meets_spec (R:=runF g_f113 tc_f113 rv_f113 false) (mG Tryz.func113 (by kernel_rfl) Tryz.ntmps113 (by kernel_rfl) gk_f113 lk_f113) fun x hok=>(e_f113 x.1 x.2.1).trans (s_f113 x.1 x.2.1 hok)
noncomputable def tc_f59:TC:=(.sq (.reg (rT Tryz.f59 0)) (.sq (.reg (rT Tryz.f59 1)) .rt))
def rv_f59:List (RV×Option Ty):=[((.t 4),some .str),((.t 5),some .str),((.t 6),some .bool)]
def g_f59:G:=⟨TYs,[],13,EL [(113,sp_f113)],keeps,(fun _ _=>none),IL [],RL []⟩
def r_f59 (p0 p1:ByteArray):Option (V×List VO):=br (cutOOk p0 p1) (some (.tu [(.t .str ((cutO p0 p1).1)),(.t .str (((cutO p0 p1).2).1)),(.t .bool (((cutO p0 p1).2).2))],[])) none
theorem e_f59 (p0 p1:ByteArray):runF g_f59 tc_f59 rv_f59 false [.t .str p0,.t .str p1] []=r_f59 p0 p1:=by kernel_rfl
theorem en_f59:Entered Tryz.prog 59:= .inr ⟨by decide,_,Tryz.func59,by kernel_rfl,by kernel_rfl⟩
theorem gk_f59:GOk Tryz.prog g_f59:=gok_of _ (gA (gC en_f113 ms_f113 gN))
theorem lk_f59:tc_f59.lok g_f59:=by repeat (first|exact trivial|refine ⟨?_, ?_⟩)
theorem s_f59 (s p:ByteArray)(h:cutOOk s p=true):r_f59 s p=some (.tu [.t .str (cutO s p).1,.t .str (cutO s p).2.1,.t .bool (cutO s p).2.2],[]):=by
 simp only [r_f59,h,br_true]
def sp_f59:Ent:=spec (.pr .str (.pr .str .nil)) (fun x=>(cutOOk x.1 x.2.1)) (fun x=>(.tu [(.t .str ((cutO x.1 x.2.1).1)),(.t .str (((cutO x.1 x.2.1).2).1)),(.t .bool (((cutO x.1 x.2.1).2).2))]))
theorem ms_f59:Meets Tryz.prog 59 (strip sp_f59):=meets_spec (R:=runF g_f59 tc_f59 rv_f59 false) (mG Tryz.func59 (by kernel_rfl) Tryz.ntmps59 (by kernel_rfl) gk_f59 lk_f59) fun x hok=>(e_f59 x.1 x.2.1).trans (s_f59 x.1 x.2.1 hok)
def posL (a:Int):List Int:=bif igt a 0 then [a] else []
def algN (s:ByteArray):List Int:=posL (findG s)
def befS (s:ByteArray):ByteArray:=(cutO s (ByteArray.mk #[95])).1
def algS (z:Symbol):List Int:=[z.1,befS z.1].flatMap algN
theorem algN_len (s:ByteArray):(algN s).length<=1:=by unfold algN posL;cases igt (findG s) 0<;>simp
theorem algS_len (z:Symbol):(algS z).length<=2:=by
 have h1:=algN_len z.1
 have h2:=algN_len (befS z.1)
 simp only [algS,List.flatMap_cons,List.flatMap_nil,List.length_append,List.length_nil]
 omega
def algX (x:Image):List Int:=Lib.compact (sortI (x.2.1.flatMap algS))
def algOk (x:Image):Bool:=decide (x.2.1.length<=100000)&&x.2.1.all fun z=>decide (z.1.size<=4611686018427387904)
def fg_f19_0:Fg:=⟨[(3,none),(13,some (.sl tySymbol)),(14,some tI),(15,some tI),(29,some (.sl .str)),(30,some tI),(31,some tI)],[(3,none),(42,none)]⟩
noncomputable def tb_f19_0:TC:=(.sq (.reg (rT Tryz.f19 7)) (.sq (.cd (.t 32) .sk (.fg ⟨[(3,none),(13,some (.sl tySymbol)),(14,some tI),(15,some tI)],[(3,none),(42,none)]⟩ (.ex 2))) (.sq (.bk 3 (.sq (.reg (rT Tryz.f19 8)) (.sq (.reg (rT Tryz.f19 9)) (.sq (.reg (rT Tryz.f19 10)) (.cd (.t 38) (.reg (rT Tryz.f19 11)) .sk))))) (.reg (rT Tryz.f19 12)))))
def fg_f19_1:Fg:=⟨[(3,none),(13,some (.sl tySymbol)),(14,some tI),(15,some tI)],[(3,none),(42,none)]⟩
noncomputable def tb_f19_1:TC:=(.sq (.reg (rT Tryz.f19 3)) (.sq (.cd (.t 16) .sk (.fg ⟨[(3,none)],[(3,none),(42,none)]⟩ (.ex 0))) (.sq (.bk 1 (.sq (.reg (rT Tryz.f19 4)) (.sq (.reg (rT Tryz.f19 5)) (.sq (.reg (rT Tryz.f19 6)) (.bk 2 (.nw 3 3 (.lp 0 fg_f19_0 tb_f19_0))))))) (.reg (rT Tryz.f19 13)))))
noncomputable def tc_f19:TC:=(.sq (.reg (rT Tryz.f19 0)) (.sq (.reg (rT Tryz.f19 1)) (.sq (.sq (.reg (rT Tryz.f19 2)) (.bk 0 (.nw 3 3 (.lp 1 fg_f19_1 tb_f19_1)))) (.sq (.reg (rT Tryz.f19 14)) (.sq (.reg (rT Tryz.f19 15)) .rt)))))
def rv_f19:List (RV×Option Ty):=[((.t 2),some (.sl tI))]
abbrev sh_f19_0:Sh:=⟨[(3,.ms 3),(13,.ty (.sl tySymbol)),(14,.ty tI),(15,.ty tI),(29,.ty (.sl .str)),(30,.ty tI),(31,.ty tI)],[(3,.arr 3 tI),(42,.no)]⟩
def st_f19_0 (x13:List Symbol)(x14 x15:Int)(x29:List ByteArray)(x30 x31:Int)(y3:List Int):VS:=sh_f19_0.st ((),x13,x14,x15,x29,x30,x31,()) (y3,(),())
abbrev sh_f19_0_e2:Sh:=⟨[(3,.ms 3),(13,.ty (.sl tySymbol)),(14,.ty tI),(15,.ty tI)],[(3,.arr 3 tI),(42,.no)]⟩
def st_f19_0_e2 (x13:List Symbol)(x14 x15:Int)(y3:List Int):VS:=sh_f19_0_e2.st ((),x13,x14,x15,()) (y3,(),())
abbrev sh_f19_1:Sh:=⟨[(3,.ms 3),(13,.ty (.sl tySymbol)),(14,.ty tI),(15,.ty tI)],[(3,.arr 3 tI),(42,.no)]⟩
def st_f19_1 (x13:List Symbol)(x14 x15:Int)(y3:List Int):VS:=sh_f19_1.st ((),x13,x14,x15,()) (y3,(),())
abbrev sh_f19_1_e0:Sh:=⟨[(3,.ms 3)],[(3,.arr 3 tI),(42,.no)]⟩
def st_f19_1_e0 (y3:List Int):VS:=sh_f19_1_e0.st ((),()) (y3,(),())
def L_f19_0:VS->Option (Bool×List (Bool×Exit×VS)):=mkL sh_f19_0 (fun x y=>(rngOk x.2.2.2.2.1 x.2.2.2.2.2.1 x.2.2.2.2.2.2.1&&decide (y.1.length+x.2.2.2.2.1.length<=400000+x.2.2.2.2.2.2.1.toNat))) (fun x y=>[(true,.exit 2,st_f19_0_e2 (x.2.1) (x.2.2.1) (x.2.2.2.1) (y.1++(x.2.2.2.2.1.drop x.2.2.2.2.2.2.1.toNat).flatMap algN))])
def L_f19_1:VS->Option (Bool×List (Bool×Exit×VS)):=mkL sh_f19_1 (fun x y=>(rngOk x.2.1 x.2.2.1 x.2.2.2.1&&decide (y.1.length+2*x.2.1.length<=300000+2*x.2.2.2.1.toNat)&&x.2.1.all fun z=>decide (z.1.size<=4611686018427387904))) (fun x y=>[(true,.exit 0,st_f19_1_e0 (y.1++(x.2.1.drop x.2.2.2.1.toNat).flatMap algS))])
def g_f19:G:=⟨TYs,[],49,EL [(59,sp_f59),(60,sp_f60),(61,sp_f61),(62,sp_f62)],keeps,(Ls [L_f19_0,L_f19_1]),IL [],RL []⟩
def b_f19_0 (x13:List Symbol)(x14 x15:Int)(x29:List ByteArray)(x30 x31:Int)(y3:List Int):Option (Exit×VS):=
 let a1:=findG (lgt .str x29 (Int.toNat x31))
 br (ilt x31 x30) (br (cIx x29 x31) (br (igt a1 0) (br (cApp y3 ([a1]) 8) (some (.normal,st_f19_0 x13 x14 x15 x29 x30 (iadd .i64 x31 1) (y3++([a1])))) none) (some (.normal,st_f19_0 x13 x14 x15 x29 x30 (iadd .i64 x31 1) y3))) none) (some (.exit 2,st_f19_0_e2 x13 x14 x15 y3))
noncomputable def lp_f19_0 (x13:List Symbol)(x14 x15:Int)(x29:List ByteArray)(x30 x31:Int)(y3:List Int):Option (Exit×VS):=loopF (roundF g_f19 fg_f19_0 tb_f19_0) (st_f19_0 x13 x14 x15 x29 x30 x31 y3)
noncomputable def n_f19_0 (x13:List Symbol)(x14 x15:Int)(x29:List ByteArray)(x30 x31:Int)(y3:List Int):Option (Exit×VS):=
 let a1:=findG (lgt .str x29 (Int.toNat x31))
 br (ilt x31 x30) (br (cIx x29 x31) (br (igt a1 0) (br (cApp y3 ([a1]) 8) (lp_f19_0 x13 x14 x15 x29 x30 (iadd .i64 x31 1) (y3++([a1]))) none) (lp_f19_0 x13 x14 x15 x29 x30 (iadd .i64 x31 1) y3)) none) (some (.exit 2,st_f19_0_e2 x13 x14 x15 y3))
def la_f19_0 (x13:List Symbol)(x14 x15:Int)(x29:List ByteArray)(x30 x31:Int)(y3:List Int):Option (Exit×VS):=some (.exit 2,st_f19_0_e2 (x13) (x14) (x15) (y3++(x29.drop x31.toNat).flatMap algN))
theorem be_f19_0 (x13:List Symbol)(x14 x15:Int)(x29:List ByteArray)(x30 x31:Int)(y3:List Int):roundF g_f19 fg_f19_0 tb_f19_0 (st_f19_0 x13 x14 x15 x29 x30 x31 y3)=b_f19_0 x13 x14 x15 x29 x30 x31 y3:=by kernel_rfl
theorem ln_f19_0 (x13:List Symbol)(x14 x15:Int)(x29:List ByteArray)(x30 x31:Int)(y3:List Int):lp_f19_0 x13 x14 x15 x29 x30 x31 y3=n_f19_0 x13 x14 x15 x29 x30 x31 y3:=(loopF_nxt _ _).trans (by
 rw [be_f19_0]
 simp only [b_f19_0,n_f19_0,nxt_br,nxt_n,nxt_r,nxt_e,nxt_0]
 rfl)
def b_f19_1 (x13:List Symbol)(x14 x15:Int)(y3:List Int):Option (Exit×VS):=
 let a1:=lgt tySymbol x13 (Int.toNat x15)
 let a2:=cutO (a1.1) (ByteArray.mk #[95])
 br (ilt x15 x14) (br (cIx x13 x15) (br (cutOOk (a1.1) (ByteArray.mk #[95])) (br (rngOk ([a1.1,a2.1]) (llen ([a1.1,a2.1])) (0:Int)&&decide (y3.length+([a1.1,a2.1]).length<=400000+(0:Int).toNat)) (some (.normal,st_f19_1 (x13) (x14) (iadd .i64 (x15) 1) (y3++(([a1.1,a2.1]).drop (0:Int).toNat).flatMap algN))) none) none) none) (some (.exit 0,st_f19_1_e0 y3))
noncomputable def lp_f19_1 (x13:List Symbol)(x14 x15:Int)(y3:List Int):Option (Exit×VS):=loopF (roundF g_f19 fg_f19_1 tb_f19_1) (st_f19_1 x13 x14 x15 y3)
noncomputable def n_f19_1 (x13:List Symbol)(x14 x15:Int)(y3:List Int):Option (Exit×VS):=
 let a1:=lgt tySymbol x13 (Int.toNat x15)
 let a2:=cutO (a1.1) (ByteArray.mk #[95])
 br (ilt x15 x14) (br (cIx x13 x15) (br (cutOOk (a1.1) (ByteArray.mk #[95])) (br (rngOk ([a1.1,a2.1]) (llen ([a1.1,a2.1])) (0:Int)&&decide (y3.length+([a1.1,a2.1]).length<=400000+(0:Int).toNat)) (lp_f19_1 (x13) (x14) (iadd .i64 (x15) 1) (y3++(([a1.1,a2.1]).drop (0:Int).toNat).flatMap algN)) none) none) none) (some (.exit 0,st_f19_1_e0 y3))
def la_f19_1 (x13:List Symbol)(x14 x15:Int)(y3:List Int):Option (Exit×VS):=some (.exit 0,st_f19_1_e0 (y3++(x13.drop x15.toNat).flatMap algS))
theorem be_f19_1 (x13:List Symbol)(x14 x15:Int)(y3:List Int):roundF g_f19 fg_f19_1 tb_f19_1 (st_f19_1 x13 x14 x15 y3)=b_f19_1 x13 x14 x15 y3:=by kernel_rfl
theorem ln_f19_1 (x13:List Symbol)(x14 x15:Int)(y3:List Int):lp_f19_1 x13 x14 x15 y3=n_f19_1 x13 x14 x15 y3:=(loopF_nxt _ _).trans (by
 rw [be_f19_1]
 simp only [b_f19_1,n_f19_1,nxt_br,nxt_n,nxt_r,nxt_e,nxt_0]
 rfl)
def r_f19 (p0:Image):Option (V×List VO):=
 let a1:=(sortI (([]:List Int)++(p0.2.1.drop (0:Int).toNat).flatMap algS))
 br (rngOk p0.2.1 (llen p0.2.1) (0:Int)&&decide (([]:List Int).length+2*p0.2.1.length<=300000+2*(0:Int).toNat)&&p0.2.1.all fun z=>decide (z.1.size<=4611686018427387904)) (br (lenOk (([]:List Int)++(p0.2.1.drop (0:Int).toNat).flatMap algS)) (br (lenOk a1) (some (.t (.sl tI) (Lib.compact a1),[])) none) none) none
theorem e_f19 (p0:Image):runF g_f19 tc_f19 rv_f19 false [.t tyImage p0] []=r_f19 p0:=by kernel_rfl
theorem en_f19:Entered Tryz.prog 19:= .inr ⟨by decide,_,Tryz.func19,by kernel_rfl,by kernel_rfl⟩
theorem gk_f19:GOk Tryz.prog g_f19:=gok_of _ (gA (gC en_f59 ms_f59 (gC en_f60 ms_f60 (gC en_f61 ms_f61 (gC en_f62 ms_f62 gN)))))
theorem l_f19_0 (x13:List Symbol)(x14 x15:Int)(x29:List ByteArray)(x30 x31:Int)(y3:List Int)(h:(rngOk x29 x30 x31&&decide (y3.length+x29.length<=400000+x31.toNat))=true):lp_f19_0 x13 x14 x15 x29 x30 x31 y3=la_f19_0 x13 x14 x15 x29 x30 x31 y3:=by
 simp only [Bool.and_eq_true,decide_eq_true_eq] at h
 obtain ⟨h,hl⟩:=h
 obtain ⟨rfl,h3,k,rfl,hk⟩:=rng_k h
 clear h
 rw [Int.toNat_natCast] at hl
 revert y3
 refine range_ind x29 (fun k=> ∀ y3:List Int,y3.length+x29.length<=400000+k->lp_f19_0 x13 x14 x15 x29 (x29.length:Int) (k:Int) y3=la_f19_0 x13 x14 x15 x29 (x29.length:Int) (k:Int) y3) ?_ ?_ k hk
 ·intro y3 _
  rw [ln_f19_0]
  simp [n_f19_0,la_f19_0,ilt_nat,br_false]
 ·intro k hk ih y3 hy
  rw [ln_f19_0]
  simp only [n_f19_0,ilt_nat,cIx_nat,hk,decide_true,br_true,Int.toNat_natCast,add1 (k:=k),lgt_get (y:= .str) hk,la_f19_0,List.drop_eq_getElem_cons hk,List.flatMap_cons]
  rw [show algN x29[k]=posL (findG x29[k]) from rfl,posL]
  cases igt (findG x29[k]) 0 with
  |false=>
   rw [br_false,ih _ (by omega)]
   simp only [la_f19_0,Int.toNat_natCast,cond_false,List.nil_append]
  |true=>
   rw [br_true,cApp_ok (by simp only [List.length_singleton];omega) (by omega),br_true,ih _ (by rw [List.length_append];simp only [List.length_singleton];omega)]
   simp only [la_f19_0,Int.toNat_natCast,cond_true,List.append_assoc]
theorem l_f19_1 (x13:List Symbol)(x14 x15:Int)(y3:List Int)(h:(rngOk x13 x14 x15&&decide (y3.length+2*x13.length<=300000+2*x15.toNat)&&x13.all fun z=>decide (z.1.size<=4611686018427387904))=true):lp_f19_1 x13 x14 x15 y3=la_f19_1 x13 x14 x15 y3:=by
 simp only [Bool.and_eq_true,decide_eq_true_eq] at h
 obtain ⟨⟨h,hl⟩,hs⟩:=h
 obtain ⟨rfl,h3,k,rfl,hk⟩:=rng_k h
 clear h
 rw [Int.toNat_natCast] at hl
 revert y3
 refine range_ind x13 (fun k=> ∀ y3:List Int,y3.length+2*x13.length<=300000+2*k->lp_f19_1 x13 (x13.length:Int) (k:Int) y3=la_f19_1 x13 (x13.length:Int) (k:Int) y3) ?_ ?_ k hk
 ·intro y3 _
  rw [ln_f19_1]
  simp [n_f19_1,la_f19_1,ilt_nat,br_false]
 ·intro k hk ih y3 hy
  have hz:=of_decide_eq_true (List.all_eq_true.1 hs x13[k] (List.getElem_mem hk))
  have hc:cutOOk x13[k].1 (ByteArray.mk #[95])=true:=decide_eq_true ⟨rfl,hz⟩
  have ha:=algS_len x13[k]
  rw [ln_f19_1]
  simp only [n_f19_1,ilt_nat,cIx_nat,hk,decide_true,br_true,Int.toNat_natCast,add1 (k:=k),lgt_get (y:=tySymbol) hk,hc]
  refine (br_of (and_dec (rng_0 (by simp)) (by simp only [List.length_cons,List.length_nil];rw [show (0:Int).toNat=0 from rfl];omega))).trans ?_
  refine (ih (y3++algS x13[k]) (by rw [List.length_append];omega)).trans ?_
  simp only [la_f19_1,Int.toNat_natCast,List.drop_eq_getElem_cons hk,List.flatMap_cons,List.append_assoc]
theorem lo_f19_0: ∀ S l p,g_f19.L 0 (fgt fg_f19_0 S)=some (true,l)->pickA l=some p->loopF (roundF g_f19 fg_f19_0 tb_f19_0) S=some p:=
 lok_of (s:=sh_f19_0) ⟨by decide,by decide⟩ (by kernel_rfl) fun x y hok p hp=>by
 simp only [pickA_br,pickA_one] at hp
 exact (l_f19_0 x.2.1 x.2.2.1 x.2.2.2.1 x.2.2.2.2.1 x.2.2.2.2.2.1 x.2.2.2.2.2.2.1 y.1 (by simpa using hok)).trans hp
theorem lo_f19_1: ∀ S l p,g_f19.L 1 (fgt fg_f19_1 S)=some (true,l)->pickA l=some p->loopF (roundF g_f19 fg_f19_1 tb_f19_1) S=some p:=
 lok_of (s:=sh_f19_1) ⟨by decide,by decide⟩ (by kernel_rfl) fun x y hok p hp=>by
 simp only [pickA_br,pickA_one] at hp
 exact (l_f19_1 x.2.1 x.2.2.1 x.2.2.2.1 y.1 (by simpa using hok)).trans hp
theorem lk_f19:tc_f19.lok g_f19:=by
 repeat (first|exact trivial|exact lo_f19_0|exact lo_f19_1|refine ⟨?_, ?_⟩)
theorem s_f19 (x:Image)(h:algOk x=true):r_f19 x=some (.t (.sl tI) (algX x),[]):=by
 simp only [algOk,Bool.and_eq_true,decide_eq_true_eq] at h
 have hl:=flat_bound algS 2 x.2.1 fun z _=>algS_len z
 have hm:(sortI (x.2.1.flatMap algS)).length=(x.2.1.flatMap algS).length:=List.length_mergeSort _
 simp only [r_f19,rng_0 h.1,h.2,Bool.true_and,Bool.and_true,Int.toNat_zero,List.drop_zero,List.nil_append]
 rw [decide_eq_true (by simp only [List.length_nil];omega),br_true,show lenOk (x.2.1.flatMap algS)=true from decide_eq_true (by omega),br_true,show lenOk (sortI (x.2.1.flatMap algS))=true from decide_eq_true (by omega),br_true]
 rfl
def sp_f19:Ent:=spec (.pr tyImage .nil) (fun x=>(algOk x.1)) (fun x=>(.t (.sl tI) (algX x.1)))
theorem ms_f19:Meets Tryz.prog 19 (strip sp_f19):=meets_spec (R:=runF g_f19 tc_f19 rv_f19 false) (mG Tryz.func19 (by kernel_rfl) Tryz.ntmps19 (by kernel_rfl) gk_f19 lk_f19) fun x hok=>(e_f19 x.1).trans (s_f19 x.1 hok)
end
end Go.Proofs.YtmokmalepelinaaGreatDoor.K
