import Derived.Test.YtkkoedniahnneaaDoorQ3
import Derived.Shelf.Spec.SlicesInsertGrow
set_option linter.unusedSimpArgs false
set_option linter.unusedVariables false
set_option linter.unusedSectionVars false
namespace Go.Proofs.YtkkoedniahnneaaDoor.K
open Go.RowKit
noncomputable section
set_option linter.unusedSectionVars false
def eqW (a b:List ByteArray):Bool:=decide (a=b)
def eqWOk (a _b:List ByteArray):Bool:=cP (a.length<=100000)
def eqW0 (a b:List ByteArray)(k:Int):Bool:=cP (0<=k/\k<=a.length/\a.length=b.length/\a.length<=100000)
def eqW1 (a b:List ByteArray)(n k:Int):Bool:=cP (0<=k/\k<=a.length/\a.length=b.length/\n=a.length/\a.length<=100000)
theorem eqW_cons (x y:ByteArray)(l m:List ByteArray):eqW (x::l) (y::m)=(seq x y&&eqW l m):=by
 unfold eqW
 rw [seq_dec,Bool.eq_iff_iff,Bool.and_eq_true,decide_eq_true_eq,decide_eq_true_eq,decide_eq_true_eq,List.cons.injEq]
theorem eqW_drop {a b:List ByteArray}{k:Nat}(h1:k<a.length)(h2:k<b.length):eqW (a.drop k) (b.drop k)=(seq a[k] b[k]&&eqW (a.drop (k+1)) (b.drop (k+1))):=by
 rw [List.drop_eq_getElem_cons h1,List.drop_eq_getElem_cons h2,eqW_cons]
theorem eqW_ne {a b:List ByteArray}(h:a.length≠b.length):eqW a b=false:=decide_eq_false fun e=>h (by rw [e])
def dr_f43_0:List DO:=[(.mk (oV 17 0) []),(.mk (oV 18 5) []),(.mk (oP 19 (.ix 1 (.t 17) (.t 18))) [0,1]),(.mk (oL 20 19) [2]),(.mk (oV 21 1) []),(.mk (oV 22 5) []),(.mk (oP 23 (.ix 1 (.t 21) (.t 22))) [4,5]),(.mk (oL 24 23) [6]),(.mk (oP 25 (.bin false .neq (.t 20) (.t 24))) [3,7])]
def fg_f43_0:Fg:=⟨[(0,some (.sl .str)),(1,some (.sl .str)),(5,some tI)],[]⟩
def tb_f43_0:TC:=(.sq (.sq (.reg [(oV 11 5),(oV 12 0),(oP 13 (.len false (.t 12))),(oP 14 (.bin false .lss (.t 11) (.t 13)))]) (.cd (.t 14) .sk (.fg ⟨[],[]⟩ (.ex 0)))) (.sq (.bk 1 (.sq (.dr dr_f43_0 [(0,[]),(1,[]),(2,[]),(3,[]),(4,[]),(5,[]),(6,[]),(7,[]),(8,[])] (.of [0,1,2,3,4,5,6,7,8])) (.cd (.t 25) (.sq (.reg [(oP 4 (.mv (cB false)))]) (.fg ⟨[(4,some .bool)],[]⟩ .rt)) .sk))) (.reg [(oV 15 5),(oP 16 (.bin false .add (.t 15) (cI 1))),(oV 5 16)])))
def tc_f43:TC:=(.sq (.reg [(oP 4 (.mv (cB false)))]) (.sq (.sq (.reg [(oV 6 0),(oP 7 (.len false (.t 6))),(oV 8 1),(oP 9 (.len false (.t 8))),(oP 10 (.bin false .neq (.t 7) (.t 9)))]) (.cd (.t 10) (.sq (.reg [(oP 4 (.mv (cB false)))]) .rt) .sk)) (.sq (.sq (.reg [(oP 5 (.mv (cI 0)))]) (.bk 0 (.lp 0 fg_f43_0 tb_f43_0))) (.sq (.reg [(oP 4 (.mv (cB true)))]) .rt))))
def rv_f43:List (RV×Option Ty):=[((.t 4),some .bool)]
abbrev sh_f43_0:Sh:=⟨[(0,.ty (.sl .str)),(1,.ty (.sl .str)),(5,.ty tI)],[]⟩
def st_f43_0 (x0:(List ByteArray))(x1:(List ByteArray))(x5:Int):VS:=sh_f43_0.st (x0,x1,x5,()) ()
abbrev sh_f43_0_ret:Sh:=⟨[(4,.ty .bool)],[]⟩
def st_f43_0_ret (x4:Bool):VS:=sh_f43_0_ret.st (x4,()) ()
abbrev sh_f43_0_e0:Sh:=⟨[],[]⟩
def st_f43_0_e0  : VS:=sh_f43_0_e0.st () ()
-- loop 0: (x0 : (List ByteArray)) (x1 : (List ByteArray)) (x5 : Int); out: ('ret',) (x4 : Bool); ('exit', 0)
def L_f43_0:VS->Option (Bool×List (Bool×Exit×VS)):=mkL sh_f43_0 (fun x y=>(eqW0 x.1 x.2.1 x.2.2.1)) (fun x y=>[((!eqW (x.1.drop x.2.2.1.toNat) (x.2.1.drop x.2.2.1.toNat)),.ret,st_f43_0_ret (false)),(true,.exit 0,st_f43_0_e0)])
def g_f43:G:=⟨TYs,[],26,EL [],keeps,(Ls [L_f43_0]),IL [],RL []⟩
def b_f43_0 (x0:(List ByteArray))(x1:(List ByteArray))(x5:Int):Option (Exit×VS):=
 br ((ilt x5 (llen x0)))
  (br (cIx x0 x5)
   (br (cIx x1 x5)
    (br ((sne (lgt .str x0 (Int.toNat x5)) (lgt .str x1 (Int.toNat x5))))
     (some (.ret,st_f43_0_ret false))
     (some (.normal,st_f43_0 x0 x1 (iadd .i64 x5 1))))
    (none))
   (none))
  (some (.exit 0,st_f43_0_e0))
noncomputable def lp_f43_0 (x0:(List ByteArray))(x1:(List ByteArray))(x5:Int):Option (Exit×VS):=loopF (roundF g_f43 fg_f43_0 tb_f43_0) (st_f43_0 x0 x1 x5)
noncomputable def n_f43_0 (x0:(List ByteArray))(x1:(List ByteArray))(x5:Int):Option (Exit×VS):=
 br ((ilt x5 (llen x0)))
  (br (cIx x0 x5)
   (br (cIx x1 x5)
    (br ((sne (lgt .str x0 (Int.toNat x5)) (lgt .str x1 (Int.toNat x5))))
     (some (.ret,st_f43_0_ret false))
     (lp_f43_0 x0 x1 (iadd .i64 x5 1)))
    (none))
   (none))
  (some (.exit 0,st_f43_0_e0))
def la_f43_0 (x0:(List ByteArray))(x1:(List ByteArray))(x5:Int):Option (Exit×VS):=br (!eqW (x0.drop x5.toNat) (x1.drop x5.toNat)) (some (.ret,st_f43_0_ret (false)))<|some (.exit 0,st_f43_0_e0)
theorem be_f43_0 (x0:(List ByteArray))(x1:(List ByteArray))(x5:Int):roundF g_f43 fg_f43_0 tb_f43_0 (st_f43_0 x0 x1 x5)=b_f43_0 x0 x1 x5:=by kernel_rfl
theorem ln_f43_0 (x0:(List ByteArray))(x1:(List ByteArray))(x5:Int):lp_f43_0 x0 x1 x5=n_f43_0 x0 x1 x5:=(loopF_nxt _ _).trans (by
 rw [be_f43_0]
 simp only [b_f43_0,n_f43_0,nxt_br,nxt_n,nxt_r,nxt_e,nxt_0]
 rfl)
def r_f43 (p0:(List ByteArray))(p1:(List ByteArray)):Option (V×List VO):=
 br ((ine (llen p0) (llen p1)))
  (some (.t .bool false,[]))
  (br ((eqW0 p0 p1 (0:Int)))
   (br ((!eqW (p0.drop (0:Int).toNat) (p1.drop (0:Int).toNat)))
    (some (.t .bool (false),[]))
    (some (.t .bool true,[])))
   (none))
theorem e_f43 (p0:(List ByteArray))(p1:(List ByteArray)):runF g_f43 tc_f43 rv_f43 false [.t (.sl .str) p0,.t (.sl .str) p1] []=r_f43 p0 p1:=by kernel_rfl
theorem ok_f43:Option.map (trC Tryd.prog) Tryd.f43.body=some tc_f43.er:=by kernel_rfl
theorem rok_f43:trVs Tryd.prog Tryd.f43.results.toList=some (rv_f43.map Prod.fst):=by kernel_rfl
theorem en_f43:Entered Tryd.prog 43:= .inr ⟨by decide,_,Tryd.func43,by kernel_rfl,by kernel_rfl⟩
theorem gk_f43:GOk Tryd.prog g_f43:=gok_of _ (fun p hp=>by cases hp)
theorem l_f43_0 (x0:(List ByteArray))(x1:(List ByteArray))(x5:Int)(h:(eqW0 x0 x1 x5)=true):lp_f43_0 x0 x1 x5=la_f43_0 x0 x1 x5:=by
 obtain ⟨h1,h2,h3,h4⟩:=cP_of h
 clear h
 obtain ⟨k,rfl⟩:=Int.eq_ofNat_of_zero_le h1
 refine range_ind x0 (fun k=>lp_f43_0 x0 x1 (k:Int)=la_f43_0 x0 x1 (k:Int)) ?_ ?_ k (by omega)
 ·have e2:ilt (x0.length:Int) (llen x0)=false:=decide_eq_false (by simp only [llen];omega)
  rw [ln_f43_0]
  unfold n_f43_0 la_f43_0
  rw [e2,br_false,Int.toNat_natCast,List.drop_length,h3,List.drop_length]
  rfl
 ·intro k hk ih
  have hk2:k<x1.length:=by omega
  have e2:ilt (k:Int) (llen x0)=true:=decide_eq_true (by simp only [llen];omega)
  have e3:cIx x0 (k:Int)=true:=by rw [cIx_nat];exact decide_eq_true hk
  have e4:cIx x1 (k:Int)=true:=by rw [cIx_nat];exact decide_eq_true hk2
  rw [ln_f43_0]
  unfold n_f43_0
  rw [e2,e3,e4,Int.toNat_natCast,lgt_get (y:= .str) hk,lgt_get (y:= .str) hk2,br_true,br_true,br_true,add1 (k:=k),ih]
  unfold la_f43_0
  rw [Int.toNat_natCast,Int.toNat_natCast,eqW_drop hk hk2]
  show br (!seq x0[k] x1[k]) _ _=_
  cases seq x0[k] x1[k]<;>rfl
theorem lo_f43_0: ∀ S l p,g_f43.L 0 (fgt fg_f43_0 S)=some (true,l)->pickA l=some p->loopF (roundF g_f43 fg_f43_0 tb_f43_0) S=some p:=
 lok_of (s:=sh_f43_0) ⟨by decide,by decide⟩ (by kernel_rfl) fun x y hok p hp=>by
 simp only [pickA_br,pickA_one] at hp
 exact (l_f43_0 x.1 x.2.1 x.2.2.1 (by simpa using hok)).trans hp
theorem lk_f43:tc_f43.lok g_f43:=by
 repeat (first|exact trivial|exact lo_f43_0|refine ⟨?_, ?_⟩)
theorem s_f43 (a b:List ByteArray)(h:eqWOk a b=true):r_f43 a b=some (.t .bool (eqW a b),[]):=by
 have h:=cP_of h
 unfold r_f43
 cases hl:ine (llen a) (llen b) with
 |true=>
  have hn:a.length≠b.length:=by
   simp only [ine,llen,bne_iff_ne,ne_eq] at hl
   omega
  rw [br_true,eqW_ne hn]
 |false=>
  have hn:a.length=b.length:=by
   simp only [ine,llen,bne_eq_false_iff_eq] at hl
   omega
  rw [br_false]
  refine brY (cP_in ⟨Int.le_refl 0,by omega,hn,h⟩) ?_
  rw [Int.toNat_zero,List.drop_zero,List.drop_zero]
  cases eqW a b<;>rfl
def sp_f43:Ent:=spec (.pr (.sl .str) (.pr (.sl .str) .nil)) (fun x=>(eqWOk x.1 x.2.1)) (fun x=>(.t .bool (eqW x.1 x.2.1)))
theorem ms_f43:Meets Tryd.prog 43 (strip sp_f43):=by
 obtain ⟨c,hc,hi⟩:=Option.map_eq_some_iff.1 ok_f43
 exact meets_spec (R:=runF g_f43 tc_f43 rv_f43 false) (meets_of (by decide) Tryd.func43 hc hi Tryd.ntmps43 rok_f43 gk_f43 lk_f43 mixed) fun x hok=>(e_f43 x.1 x.2.1).trans (s_f43 x.1 x.2.1 hok)
def dr_f78_0:List DO:=[(.mk (oV 16 0) []),(.mk (oV 17 5) []),(.mk (oP 18 (.ix 1 (.t 16) (.t 17))) [0,1]),(.mk (oL 19 18) [2]),(.mk (oV 20 1) []),(.mk (oV 21 5) []),(.mk (oP 22 (.ix 1 (.t 20) (.t 21))) [4,5]),(.mk (oL 23 22) [6]),(.mk (oP 24 (.bin false .neq (.t 19) (.t 23))) [3,7])]
def fg_f78_0:Fg:=⟨[(0,some (.sl .str)),(1,some (.sl .str)),(12,some tI),(13,some tI)],[]⟩
def tb_f78_0:TC:=(.sq (.reg [(oP 14 (.bin false .lss (.t 13) (.t 12)))]) (.sq (.cd (.t 14) .sk (.fg ⟨[],[]⟩ (.ex 0))) (.sq (.bk 1 (.sq (.reg [(oV 15 13),(oV 5 15)]) (.sq (.dr dr_f78_0 [(0,[]),(1,[]),(2,[]),(3,[]),(4,[]),(5,[]),(6,[]),(7,[]),(8,[])] (.of [0,1,2,3,4,5,6,7,8])) (.cd (.t 24) (.sq (.reg [(oP 4 (.mv (cB false)))]) (.fg ⟨[(4,some .bool)],[]⟩ .rt)) .sk)))) (.reg [(oP 25 (.bin false .add (.t 13) (cI 1))),(oV 13 25)]))))
def tc_f78:TC:=(.sq (.reg [(oP 4 (.mv (cB false)))]) (.sq (.sq (.reg [(oV 6 0),(oP 7 (.len false (.t 6))),(oV 8 1),(oP 9 (.len false (.t 8))),(oP 10 (.bin false .neq (.t 7) (.t 9)))]) (.cd (.t 10) (.sq (.reg [(oP 4 (.mv (cB false)))]) .rt) .sk)) (.sq (.sq (.reg [(oV 11 0),(oP 12 (.len false (.t 11))),(oP 13 (.mv (cI 0)))]) (.bk 0 (.lp 0 fg_f78_0 tb_f78_0))) (.sq (.reg [(oP 4 (.mv (cB true)))]) .rt))))
def rv_f78:List (RV×Option Ty):=[((.t 4),some .bool)]
abbrev sh_f78_0:Sh:=⟨[(0,.ty (.sl .str)),(1,.ty (.sl .str)),(12,.ty tI),(13,.ty tI)],[]⟩
def st_f78_0 (x0:(List ByteArray))(x1:(List ByteArray))(x12:Int)(x13:Int):VS:=sh_f78_0.st (x0,x1,x12,x13,()) ()
abbrev sh_f78_0_ret:Sh:=⟨[(4,.ty .bool)],[]⟩
def st_f78_0_ret (x4:Bool):VS:=sh_f78_0_ret.st (x4,()) ()
abbrev sh_f78_0_e0:Sh:=⟨[],[]⟩
def st_f78_0_e0  : VS:=sh_f78_0_e0.st () ()
-- loop 0: (x0 : (List ByteArray)) (x1 : (List ByteArray)) (x12 : Int) (x13 : Int); out: ('ret',) (x4 : Bool); ('exit', 0)
def L_f78_0:VS->Option (Bool×List (Bool×Exit×VS)):=mkL sh_f78_0 (fun x y=>(eqW1 x.1 x.2.1 x.2.2.1 x.2.2.2.1)) (fun x y=>[((!eqW (x.1.drop x.2.2.2.1.toNat) (x.2.1.drop x.2.2.2.1.toNat)),.ret,st_f78_0_ret (false)),(true,.exit 0,st_f78_0_e0)])
def g_f78:G:=⟨TYs,[],26,EL [],keeps,(Ls [L_f78_0]),IL [],RL []⟩
def b_f78_0 (x0:(List ByteArray))(x1:(List ByteArray))(x12:Int)(x13:Int):Option (Exit×VS):=
 br ((ilt x13 x12))
  (br (cIx x0 x13)
   (br (cIx x1 x13)
    (br ((sne (lgt .str x0 (Int.toNat x13)) (lgt .str x1 (Int.toNat x13))))
     (some (.ret,st_f78_0_ret false))
     (some (.normal,st_f78_0 x0 x1 x12 (iadd .i64 x13 1))))
    (none))
   (none))
  (some (.exit 0,st_f78_0_e0))
noncomputable def lp_f78_0 (x0:(List ByteArray))(x1:(List ByteArray))(x12:Int)(x13:Int):Option (Exit×VS):=loopF (roundF g_f78 fg_f78_0 tb_f78_0) (st_f78_0 x0 x1 x12 x13)
noncomputable def n_f78_0 (x0:(List ByteArray))(x1:(List ByteArray))(x12:Int)(x13:Int):Option (Exit×VS):=
 br ((ilt x13 x12))
  (br (cIx x0 x13)
   (br (cIx x1 x13)
    (br ((sne (lgt .str x0 (Int.toNat x13)) (lgt .str x1 (Int.toNat x13))))
     (some (.ret,st_f78_0_ret false))
     (lp_f78_0 x0 x1 x12 (iadd .i64 x13 1)))
    (none))
   (none))
  (some (.exit 0,st_f78_0_e0))
def la_f78_0 (x0:(List ByteArray))(x1:(List ByteArray))(x12:Int)(x13:Int):Option (Exit×VS):=br (!eqW (x0.drop x13.toNat) (x1.drop x13.toNat)) (some (.ret,st_f78_0_ret (false)))<|some (.exit 0,st_f78_0_e0)
theorem be_f78_0 (x0:(List ByteArray))(x1:(List ByteArray))(x12:Int)(x13:Int):roundF g_f78 fg_f78_0 tb_f78_0 (st_f78_0 x0 x1 x12 x13)=b_f78_0 x0 x1 x12 x13:=by kernel_rfl
theorem ln_f78_0 (x0:(List ByteArray))(x1:(List ByteArray))(x12:Int)(x13:Int):lp_f78_0 x0 x1 x12 x13=n_f78_0 x0 x1 x12 x13:=(loopF_nxt _ _).trans (by
 rw [be_f78_0]
 simp only [b_f78_0,n_f78_0,nxt_br,nxt_n,nxt_r,nxt_e,nxt_0]
 rfl)
def r_f78 (p0:(List ByteArray))(p1:(List ByteArray)):Option (V×List VO):=
 br ((ine (llen p0) (llen p1)))
  (some (.t .bool false,[]))
  (br ((eqW1 p0 p1 (llen p0) (0:Int)))
   (br ((!eqW (p0.drop (0:Int).toNat) (p1.drop (0:Int).toNat)))
    (some (.t .bool (false),[]))
    (some (.t .bool true,[])))
   (none))
theorem e_f78 (p0:(List ByteArray))(p1:(List ByteArray)):runF g_f78 tc_f78 rv_f78 false [.t (.sl .str) p0,.t (.sl .str) p1] []=r_f78 p0 p1:=by kernel_rfl
theorem ok_f78:Option.map (trC Tryd.prog) Tryd.f78.body=some tc_f78.er:=by kernel_rfl
theorem rok_f78:trVs Tryd.prog Tryd.f78.results.toList=some (rv_f78.map Prod.fst):=by kernel_rfl
theorem en_f78:Entered Tryd.prog 78:= .inr ⟨by decide,_,Tryd.func78,by kernel_rfl,by kernel_rfl⟩
theorem gk_f78:GOk Tryd.prog g_f78:=gok_of _ (fun p hp=>by cases hp)
theorem l_f78_0 (x0:(List ByteArray))(x1:(List ByteArray))(x12:Int)(x13:Int)(h:(eqW1 x0 x1 x12 x13)=true):lp_f78_0 x0 x1 x12 x13=la_f78_0 x0 x1 x12 x13:=by
 obtain ⟨h1,h2,h3,rfl,h4⟩:=cP_of h
 clear h
 obtain ⟨k,rfl⟩:=Int.eq_ofNat_of_zero_le h1
 refine range_ind x0 (fun k=>lp_f78_0 x0 x1 (x0.length:Int) (k:Int)=la_f78_0 x0 x1 (x0.length:Int) (k:Int)) ?_ ?_ k (by omega)
 ·have e2:ilt (x0.length:Int) (x0.length:Int)=false:=decide_eq_false (by omega)
  rw [ln_f78_0]
  unfold n_f78_0 la_f78_0
  rw [e2,br_false,Int.toNat_natCast,List.drop_length,h3,List.drop_length]
  rfl
 ·intro k hk ih
  have hk2:k<x1.length:=by omega
  have e2:ilt (k:Int) (x0.length:Int)=true:=decide_eq_true (by omega)
  have e3:cIx x0 (k:Int)=true:=by rw [cIx_nat];exact decide_eq_true hk
  have e4:cIx x1 (k:Int)=true:=by rw [cIx_nat];exact decide_eq_true hk2
  rw [ln_f78_0]
  unfold n_f78_0
  rw [e2,e3,e4,Int.toNat_natCast,lgt_get (y:= .str) hk,lgt_get (y:= .str) hk2,br_true,br_true,br_true,add1 (k:=k),ih]
  unfold la_f78_0
  rw [Int.toNat_natCast,Int.toNat_natCast,eqW_drop hk hk2]
  show br (!seq x0[k] x1[k]) _ _=_
  cases seq x0[k] x1[k]<;>rfl
theorem lo_f78_0: ∀ S l p,g_f78.L 0 (fgt fg_f78_0 S)=some (true,l)->pickA l=some p->loopF (roundF g_f78 fg_f78_0 tb_f78_0) S=some p:=
 lok_of (s:=sh_f78_0) ⟨by decide,by decide⟩ (by kernel_rfl) fun x y hok p hp=>by
 simp only [pickA_br,pickA_one] at hp
 exact (l_f78_0 x.1 x.2.1 x.2.2.1 x.2.2.2.1 (by simpa using hok)).trans hp
theorem lk_f78:tc_f78.lok g_f78:=by
 repeat (first|exact trivial|exact lo_f78_0|refine ⟨?_, ?_⟩)
theorem s_f78 (a b:List ByteArray)(h:eqWOk a b=true):r_f78 a b=some (.t .bool (eqW a b),[]):=by
 have h:=cP_of h
 unfold r_f78
 cases hl:ine (llen a) (llen b) with
 |true=>
  have hn:a.length≠b.length:=by
   simp only [ine,llen,bne_iff_ne,ne_eq] at hl
   omega
  rw [br_true,eqW_ne hn]
 |false=>
  have hn:a.length=b.length:=by
   simp only [ine,llen,bne_eq_false_iff_eq] at hl
   omega
  rw [br_false]
  refine brY (cP_in ⟨Int.le_refl 0,by omega,hn,rfl,h⟩) ?_
  rw [Int.toNat_zero,List.drop_zero,List.drop_zero]
  cases eqW a b<;>rfl
def sp_f78:Ent:=spec (.pr (.sl .str) (.pr (.sl .str) .nil)) (fun x=>(eqWOk x.1 x.2.1)) (fun x=>(.t .bool (eqW x.1 x.2.1)))
theorem ms_f78:Meets Tryd.prog 78 (strip sp_f78):=by
 obtain ⟨c,hc,hi⟩:=Option.map_eq_some_iff.1 ok_f78
 exact meets_spec (R:=runF g_f78 tc_f78 rv_f78 false) (meets_of (by decide) Tryd.func78 hc hi Tryd.ntmps78 rok_f78 gk_f78 lk_f78 mixed) fun x hok=>(e_f78 x.1 x.2.1).trans (s_f78 x.1 x.2.1 hok)
mutual
def smB:K.Blk->K.Blk->Bool
 |.mk ws o wi _,.mk ws2 o2 wi2 _=>eqW ws ws2&&((o==o2)&&smL wi wi2)
def smL:List K.Blk->List K.Blk->Bool
 | [],[]=>true
 | [],_::_=>false
 |_::_,[]=>false
 |b::r,c::s=>smB b c&&smL r s
end
def smT (a b:List BlkT):Bool:=smL (a.map Blk.of) (b.map Blk.of)
def smX (x y:BlkT):Bool:=eqW x.1 y.1&&((x.2.1==y.2.1)&&smT (x.2.2.1.map Blk.un) (y.2.2.1.map Blk.un))
theorem smT_cons (x y:BlkT)(l m:List BlkT):smT (x::l) (y::m)=(smX x y&&smT l m):=by
 unfold smX smT
 rw [map_of_unB,map_of_unB,List.map_cons,List.map_cons]
 rfl
theorem smT_drop {a b:List BlkT}{k:Nat}(h1:k<a.length)(h2:k<b.length):smT (a.drop k) (b.drop k)=(smX a[k] b[k]&&smT (a.drop (k+1)) (b.drop (k+1))):=by
 rw [List.drop_eq_getElem_cons h1,List.drop_eq_getElem_cons h2,smT_cons]
theorem smT_ne: ∀ {a b:List BlkT},a.length≠b.length->smT a b=false
 | [],[],h=>absurd rfl h
 | [],_::_,_=>rfl
 |_::_,[],_=>rfl
 |x::l,y::m,h=>by
  rw [smT_cons,smT_ne (a:=l) (b:=m) (fun e=>h (by rw [List.length_cons,List.length_cons,e])),Bool.and_false]
def okS (n:Nat)(a _b:List BlkT):Bool:=okN n a
def okST (a _b:List BlkT):Bool:=okT a
theorem okS_fuel {a b:List BlkT}(h:okST a b=true): ∃ N,okS N a b=true:=by
 obtain ⟨N,h⟩:=okT_fuel h
 exact ⟨N,h⟩
theorem fuel_blocks_Same (a b:List BlkT)(h:okST a b=true): ∃ N,okS N a b=true:=okS_fuel h
theorem fuel_ref07_Same (a b:List BlkT)(h:okST a b=true): ∃ N,okS N a b=true:=okS_fuel h
theorem en_f41:Entered Tryd.prog 41:= .inr ⟨by decide,_,Tryd.func41,by kernel_rfl,by kernel_rfl⟩
def sp_f41R [Fuel]:Ent:=spec (.pr (.sl tyBlkT) (.pr (.sl tyBlkT) .nil)) (fun x=>(okS fuel x.1 x.2.1)) (fun x=>(.t .bool (smT x.1 x.2.1)))
theorem en_f41R:Entered Tryd.prog 41:=en_f41
section
variable [Fuel][Nonempty (PLift (Meets Tryd.prog 41 (strip sp_f41R)))]
theorem ms_f41R:Meets Tryd.prog 41 (strip sp_f41R):=(Classical.choice (inferInstance:Nonempty (PLift (Meets Tryd.prog 41 (strip sp_f41R))))).down
def sm0 [Fuel](a b:List BlkT)(k:Int):Bool:=cP (0<=k/\k<=a.length/\a.length=b.length/\okN (fuel+1) a=true)
def dr_f41_0:List DO:=[(.mk (oV 17 0) []),(.mk (oV 18 5) []),(.mk (oP 19 (.ix 4 (.t 17) (.t 18))) [0,1]),(.mk (oP 20 (.fa 0 (.t 19))) [2]),(.mk (oL 21 20) [3]),(.mk (oV 22 1) []),(.mk (oV 23 5) []),(.mk (oP 24 (.ix 4 (.t 22) (.t 23))) [5,6]),(.mk (oP 25 (.fa 0 (.t 24))) [7]),(.mk (oL 26 25) [8]),(.mk (oC 27 43 [(.t 21),(.t 26)]) [4,9]),(.mk (oP 28 (.nt (.t 27))) [10]),(.mk (oV 29 28) [11,10]),(.mk (oQ 30 29 false (.mv (.t 0))) [12]),(.mk (oQ 31 29 false (.mv (.t 5))) [12]),(.mk (oQ 32 29 false (.ix 4 (.t 30) (.t 31))) [13,14,12]),(.mk (oQ 33 29 false (.fa 1 (.t 32))) [15,12]),(.mk (oG 34 29 false (.m (.ld false 1 (.t 33)))) [16,12]),(.mk (oQ 35 29 false (.mv (.t 1))) [12]),(.mk (oQ 36 29 false (.mv (.t 5))) [12]),(.mk (oQ 37 29 false (.ix 4 (.t 35) (.t 36))) [18,19,12]),(.mk (oQ 38 29 false (.fa 1 (.t 37))) [20,12]),(.mk (oG 39 29 false (.m (.ld false 1 (.t 38)))) [21,12]),(.mk (oQ 40 29 false (.bin true .neq (.t 34) (.t 39))) [17,22,12]),(.mk (oP 41 (.pick (.t 29) (cB true) (.t 40))) [12,23]),(.mk (oV 42 41) [24,12]),(.mk (oQ 43 42 false (.mv (.t 0))) [25]),(.mk (oQ 44 42 false (.mv (.t 5))) [25]),(.mk (oQ 45 42 false (.ix 4 (.t 43) (.t 44))) [26,27,25]),(.mk (oQ 46 42 false (.fa 2 (.t 45))) [28,25]),(.mk (oG 47 42 false (.m (.ld false 1 (.t 46)))) [29,25]),(.mk (oQ 48 42 false (.mv (.t 1))) [25]),(.mk (oQ 49 42 false (.mv (.t 5))) [25]),(.mk (oQ 50 42 false (.ix 4 (.t 48) (.t 49))) [31,32,25]),(.mk (oQ 51 42 false (.fa 2 (.t 50))) [33,25]),(.mk (oG 52 42 false (.m (.ld false 1 (.t 51)))) [34,25]),(.mk (oG 53 42 false (.call 41 [(.t 47),(.t 52)])) [30,35,25,25]),(.mk (oQ 54 42 false (.nt (.t 53))) [36,25]),(.mk (oP 55 (.pick (.t 42) (cB true) (.t 54))) [25,37])]
def fg_f41_0:Fg:=⟨[(0,some (.sl tyBlkT)),(1,some (.sl tyBlkT)),(5,some tI)],[]⟩
def tb_f41_0:TC:=(.sq (.sq (.reg [(oV 11 5),(oV 12 0),(oP 13 (.len false (.t 12))),(oP 14 (.bin false .lss (.t 11) (.t 13)))]) (.cd (.t 14) .sk (.fg ⟨[],[]⟩ (.ex 0)))) (.sq (.bk 1 (.sq (.dr dr_f41_0 [(0,[]),(1,[]),(2,[]),(3,[]),(4,[]),(5,[]),(6,[]),(7,[]),(8,[]),(9,[]),(10,[]),(11,[]),(12,[]),(13,[]),(14,[]),(15,[]),(16,[]),(17,[]),(18,[]),(19,[]),(20,[]),(21,[]),(22,[]),(23,[]),(24,[]),(25,[]),(26,[]),(27,[]),(28,[]),(29,[]),(30,[]),(31,[]),(32,[]),(33,[]),(34,[]),(35,[]),(36,[]),(37,[]),(38,[])] (.of [0,1,2,3,4,5,6,7,8,9,10,11,12,13,14,15,16,17,18,19,20,21,22,23,24,25,26,27,28,29,30,31,32,33,34,35,36,37,38])) (.cd (.t 55) (.sq (.reg [(oP 4 (.mv (cB false)))]) (.fg ⟨[(4,some .bool)],[]⟩ .rt)) .sk))) (.reg [(oV 15 5),(oP 16 (.bin false .add (.t 15) (cI 1))),(oV 5 16)])))
def tc_f41:TC:=(.sq (.reg [(oP 4 (.mv (cB false)))]) (.sq (.sq (.reg [(oV 6 0),(oP 7 (.len false (.t 6))),(oV 8 1),(oP 9 (.len false (.t 8))),(oP 10 (.bin false .neq (.t 7) (.t 9)))]) (.cd (.t 10) (.sq (.reg [(oP 4 (.mv (cB false)))]) .rt) .sk)) (.sq (.sq (.reg [(oP 5 (.mv (cI 0)))]) (.bk 0 (.lp 0 fg_f41_0 tb_f41_0))) (.sq (.reg [(oP 4 (.mv (cB true)))]) .rt))))
def rv_f41:List (RV×Option Ty):=[((.t 4),some .bool)]
abbrev sh_f41_0:Sh:=⟨[(0,.ty (.sl tyBlkT)),(1,.ty (.sl tyBlkT)),(5,.ty tI)],[]⟩
def st_f41_0 (x0:(List BlkT))(x1:(List BlkT))(x5:Int):VS:=sh_f41_0.st (x0,x1,x5,()) ()
abbrev sh_f41_0_ret:Sh:=⟨[(4,.ty .bool)],[]⟩
def st_f41_0_ret (x4:Bool):VS:=sh_f41_0_ret.st (x4,()) ()
abbrev sh_f41_0_e0:Sh:=⟨[],[]⟩
def st_f41_0_e0  : VS:=sh_f41_0_e0.st () ()
-- loop 0: (x0 : (List BlkT)) (x1 : (List BlkT)) (x5 : Int); out: ('ret',) (x4 : Bool); ('exit', 0)
def L_f41_0:VS->Option (Bool×List (Bool×Exit×VS)):=mkL sh_f41_0 (fun x y=>(sm0 x.1 x.2.1 x.2.2.1)) (fun x y=>[((!smT (x.1.drop x.2.2.1.toNat) (x.2.1.drop x.2.2.1.toNat)),.ret,st_f41_0_ret (false)),(true,.exit 0,st_f41_0_e0)])
def g_f41:G:=⟨TYs,[],56,EL [(41,sp_f41R),(43,sp_f43)],keeps,(Ls [L_f41_0]),IL [],RL []⟩
def b_f41_0 (x0:(List BlkT))(x1:(List BlkT))(x5:Int):Option (Exit×VS):=
 br ((ilt x5 (llen x0)))
  (br (cIx x0 x5)
   (br (cIx x1 x5)
    (br ((eqWOk ((lgt tyBlkT x0 (Int.toNat x5)).1) ((lgt tyBlkT x1 (Int.toNat x5)).1)))
     (br ((!(eqW ((lgt tyBlkT x0 (Int.toNat x5)).1) ((lgt tyBlkT x1 (Int.toNat x5)).1))))
      (some (.ret,st_f41_0_ret false))
      (br (cIx x0 x5)
       (br (cIx x1 x5)
        (br ((bneq (((lgt tyBlkT x0 (Int.toNat x5)).2).1) (((lgt tyBlkT x1 (Int.toNat x5)).2).1)))
         (some (.ret,st_f41_0_ret false))
         (br (cIx x0 x5)
          (br (cIx x1 x5)
           (br ((okS fuel (List.map Blk.un ((((lgt tyBlkT x0 (Int.toNat x5)).2).2).1)) (List.map Blk.un ((((lgt tyBlkT x1 (Int.toNat x5)).2).2).1))))
            (br ((!(smT (List.map Blk.un ((((lgt tyBlkT x0 (Int.toNat x5)).2).2).1)) (List.map Blk.un ((((lgt tyBlkT x1 (Int.toNat x5)).2).2).1)))))
             (some (.ret,st_f41_0_ret false))
             (some (.normal,st_f41_0 x0 x1 (iadd .i64 x5 1))))
            (none))
           (none))
          (none)))
        (none))
       (none)))
     (none))
    (none))
   (none))
  (some (.exit 0,st_f41_0_e0))
noncomputable def lp_f41_0 (x0:(List BlkT))(x1:(List BlkT))(x5:Int):Option (Exit×VS):=loopF (roundF g_f41 fg_f41_0 tb_f41_0) (st_f41_0 x0 x1 x5)
noncomputable def n_f41_0 (x0:(List BlkT))(x1:(List BlkT))(x5:Int):Option (Exit×VS):=
 br ((ilt x5 (llen x0)))
  (br (cIx x0 x5)
   (br (cIx x1 x5)
    (br ((eqWOk ((lgt tyBlkT x0 (Int.toNat x5)).1) ((lgt tyBlkT x1 (Int.toNat x5)).1)))
     (br ((!(eqW ((lgt tyBlkT x0 (Int.toNat x5)).1) ((lgt tyBlkT x1 (Int.toNat x5)).1))))
      (some (.ret,st_f41_0_ret false))
      (br (cIx x0 x5)
       (br (cIx x1 x5)
        (br ((bneq (((lgt tyBlkT x0 (Int.toNat x5)).2).1) (((lgt tyBlkT x1 (Int.toNat x5)).2).1)))
         (some (.ret,st_f41_0_ret false))
         (br (cIx x0 x5)
          (br (cIx x1 x5)
           (br ((okS fuel (List.map Blk.un ((((lgt tyBlkT x0 (Int.toNat x5)).2).2).1)) (List.map Blk.un ((((lgt tyBlkT x1 (Int.toNat x5)).2).2).1))))
            (br ((!(smT (List.map Blk.un ((((lgt tyBlkT x0 (Int.toNat x5)).2).2).1)) (List.map Blk.un ((((lgt tyBlkT x1 (Int.toNat x5)).2).2).1)))))
             (some (.ret,st_f41_0_ret false))
             (lp_f41_0 x0 x1 (iadd .i64 x5 1)))
            (none))
           (none))
          (none)))
        (none))
       (none)))
     (none))
    (none))
   (none))
  (some (.exit 0,st_f41_0_e0))
def la_f41_0 (x0:(List BlkT))(x1:(List BlkT))(x5:Int):Option (Exit×VS):=br (!smT (x0.drop x5.toNat) (x1.drop x5.toNat)) (some (.ret,st_f41_0_ret (false)))<|some (.exit 0,st_f41_0_e0)
theorem be_f41_0 (x0:(List BlkT))(x1:(List BlkT))(x5:Int):roundF g_f41 fg_f41_0 tb_f41_0 (st_f41_0 x0 x1 x5)=b_f41_0 x0 x1 x5:=by kernel_rfl
theorem ln_f41_0 (x0:(List BlkT))(x1:(List BlkT))(x5:Int):lp_f41_0 x0 x1 x5=n_f41_0 x0 x1 x5:=(loopF_nxt _ _).trans (by
 rw [be_f41_0]
 simp only [b_f41_0,n_f41_0,nxt_br,nxt_n,nxt_r,nxt_e,nxt_0]
 rfl)
def r_f41 (p0:(List BlkT))(p1:(List BlkT)):Option (V×List VO):=
 br ((ine (llen p0) (llen p1)))
  (some (.t .bool false,[]))
  (br ((sm0 p0 p1 (0:Int)))
   (br ((!smT (p0.drop (0:Int).toNat) (p1.drop (0:Int).toNat)))
    (some (.t .bool (false),[]))
    (some (.t .bool true,[])))
   (none))
theorem e_f41 (p0:(List BlkT))(p1:(List BlkT)):runF g_f41 tc_f41 rv_f41 false [.t (.sl tyBlkT) p0,.t (.sl tyBlkT) p1] []=r_f41 p0 p1:=by kernel_rfl
theorem ok_f41:Option.map (trC Tryd.prog) Tryd.f41.body=some tc_f41.er:=by kernel_rfl
theorem rok_f41:trVs Tryd.prog Tryd.f41.results.toList=some (rv_f41.map Prod.fst):=by kernel_rfl
theorem gk_f41:GOk Tryd.prog g_f41:=gok_of _ (by
 intro p hp
 simp only [List.mem_cons,List.not_mem_nil,or_false] at hp
 rcases hp with rfl|rfl
 ·exact ⟨en_f41R,ms_f41R⟩
 ·exact ⟨en_f43,ms_f43⟩)
theorem l_f41_0 (x0:(List BlkT))(x1:(List BlkT))(x5:Int)(h:(sm0 x0 x1 x5)=true):lp_f41_0 x0 x1 x5=la_f41_0 x0 x1 x5:=by
 obtain ⟨h1,h2,h3,h4⟩:=cP_of h
 clear h
 obtain ⟨h6,h7,h8⟩:=okN_p h4
 obtain ⟨k,rfl⟩:=Int.eq_ofNat_of_zero_le h1
 refine range_ind x0 (fun k=>lp_f41_0 x0 x1 (k:Int)=la_f41_0 x0 x1 (k:Int)) ?_ ?_ k (by omega)
 ·have e2:ilt (x0.length:Int) (llen x0)=false:=decide_eq_false (by simp only [llen];omega)
  rw [ln_f41_0]
  unfold n_f41_0 la_f41_0
  rw [e2,br_false,Int.toNat_natCast,List.drop_length,h3,List.drop_length]
  rfl
 ·intro k hk ih
  have hk2:k<x1.length:=by omega
  obtain ⟨g1,_,g3⟩:=h8 _ (List.getElem_mem hk)
  have e2:ilt (k:Int) (llen x0)=true:=decide_eq_true (by simp only [llen];omega)
  have e3:cIx x0 (k:Int)=true:=by rw [cIx_nat];exact decide_eq_true hk
  have e4:cIx x1 (k:Int)=true:=by rw [cIx_nat];exact decide_eq_true hk2
  have e5:eqWOk x0[k].1 x1[k].1=true:=cP_in g1
  have e6:okS fuel (x0[k].2.2.1.map Blk.un) (x1[k].2.2.1.map Blk.un)=true:=g3
  rw [ln_f41_0]
  simp only [n_f41_0]
  rw [e2,e3,e4,Int.toNat_natCast,lgt_get (y:=tyBlkT) hk,lgt_get (y:=tyBlkT) hk2,e5,e6,add1 (k:=k),ih]
  unfold la_f41_0
  rw [Int.toNat_natCast,Int.toNat_natCast,smT_drop hk hk2]
  unfold smX
  show br true (br true (br true (br true (br (!eqW x0[k].1 x1[k].1) _ (br true (br true (br (!(x0[k].2.1==x1[k].2.1)) _ _) _) _)) _) _) _) _=_
  cases eqW x0[k].1 x1[k].1<;>cases (x0[k].2.1==x1[k].2.1)<;>cases smT (x0[k].2.2.1.map Blk.un) (x1[k].2.2.1.map Blk.un)<;>rfl
theorem lo_f41_0: ∀ S l p,g_f41.L 0 (fgt fg_f41_0 S)=some (true,l)->pickA l=some p->loopF (roundF g_f41 fg_f41_0 tb_f41_0) S=some p:=
 lok_of (s:=sh_f41_0) ⟨by decide,by decide⟩ (by kernel_rfl) fun x y hok p hp=>by
 simp only [pickA_br,pickA_one] at hp
 exact (l_f41_0 x.1 x.2.1 x.2.2.1 (by simpa using hok)).trans hp
theorem lk_f41:tc_f41.lok g_f41:=by
 repeat (first|exact trivial|exact lo_f41_0|refine ⟨?_, ?_⟩)
theorem s_f41 (a b:List BlkT)(h:okS (fuel+1) a b=true):r_f41 a b=some (.t .bool (smT a b),[]):=by
 have h:okN (fuel+1) a=true:=h
 unfold r_f41
 cases hl:ine (llen a) (llen b) with
 |true=>
  have hn:a.length≠b.length:=by
   simp only [ine,llen,bne_iff_ne,ne_eq] at hl
   omega
  rw [br_true,smT_ne hn]
 |false=>
  have hn:a.length=b.length:=by
   simp only [ine,llen,bne_eq_false_iff_eq] at hl
   omega
  rw [br_false]
  refine brY (cP_in ⟨Int.le_refl 0,by omega,hn,h⟩) ?_
  rw [Int.toNat_zero,List.drop_zero,List.drop_zero]
  cases smT a b<;>rfl
theorem mr_f41:Meets Tryd.prog 41 (runF g_f41 tc_f41 rv_f41 false):=by
 obtain ⟨c,hc,hi⟩:=Option.map_eq_some_iff.1 ok_f41
 exact meets_of (by decide) Tryd.func41 hc hi Tryd.ntmps41 rok_f41 gk_f41 lk_f41 mixed
end
theorem ma_ref07_Same: ∀ N:Nat,Meets Tryd.prog 41 (strip (@sp_f41R ⟨N⟩))
 |0=>meets_zero fun x=>by first|rfl|simp [okS]
 |N+1=>by
  letI:Fuel:=⟨N⟩
  haveI:Nonempty (PLift (Meets Tryd.prog 41 (strip sp_f41R))):=⟨⟨ma_ref07_Same N⟩⟩
  exact meets_spec mr_f41 fun x hok=>(e_f41 x.1 x.2.1).trans (s_f41 x.1 x.2.1 hok)
def sp_f41:Ent:=spec (.pr (.sl tyBlkT) (.pr (.sl tyBlkT) .nil)) (fun x=>(okST x.1 x.2.1)) (fun x=>(.t .bool (smT x.1 x.2.1)))
theorem ms_f41:Meets Tryd.prog 41 (strip sp_f41):=meets_fuel ma_ref07_Same fun x hok=>fuel_ref07_Same x.1 x.2.1 hok
theorem en_f40:Entered Tryd.prog 40:= .inr ⟨by decide,_,Tryd.func40,by kernel_rfl,by kernel_rfl⟩
def sp_f40R [Fuel]:Ent:=spec (.pr (.sl tyBlkT) (.pr (.sl tyBlkT) .nil)) (fun x=>(okS fuel x.1 x.2.1)) (fun x=>(.t .bool (smT x.1 x.2.1)))
theorem en_f40R:Entered Tryd.prog 40:=en_f40
section
variable [Fuel][Nonempty (PLift (Meets Tryd.prog 40 (strip sp_f40R)))]
theorem ms_f40R:Meets Tryd.prog 40 (strip sp_f40R):=(Classical.choice (inferInstance:Nonempty (PLift (Meets Tryd.prog 40 (strip sp_f40R))))).down
def smXOk [Fuel](x _y:BlkT):Bool:=cP (x.1.length<=100000/\okN fuel (x.2.2.1.map Blk.un)=true)
def tc_f77Q:TC:=(.sq (.reg [(oM 2 (.box (.t 0))),(oM 3 (.box (.t 1))),(oP 4 (.mv (cB false)))]) (.sq (.reg [(oP 5 (.fa 1 (.t 2))),(oL 6 5),(oP 7 (.fa 1 (.t 3))),(oL 8 7),(oP 9 (.bin true .eql (.t 6) (.t 8))),(oV 10 9),(oQ 11 10 true (.fa 0 (.t 2))),(oG 12 10 true (.m (.ld false 1 (.t 11)))),(oQ 13 10 true (.fa 0 (.t 3))),(oG 14 10 true (.m (.ld false 1 (.t 13)))),(oG 15 10 true (.call 78 [(.t 12),(.t 14)])),(oP 16 (.pick (.t 10) (.t 15) (cB false))),(oV 17 16),(oQ 18 17 true (.fa 2 (.t 2))),(oG 19 17 true (.m (.ld false 1 (.t 18)))),(oQ 20 17 true (.fa 2 (.t 3))),(oG 21 17 true (.m (.ld false 1 (.t 20)))),(oG 22 17 true (.call 40 [(.t 19),(.t 21)])),(oP 23 (.pick (.t 17) (.t 22) (cB false))),(oV 4 23)]) .rt))
def rv_f77Q:List (RV×Option Ty):=[((.t 4),some .bool)]
def g_f77Q:G:=⟨TYs,[],24,EL [(40,sp_f40R),(78,sp_f78)],keeps,(fun _ _=>none),IL [],RL []⟩
def r_f77Q (p0:BlkT)(p1:BlkT):Option (V×List VO):=
 br ((beqq p0.2.1 p1.2.1))
  (br ((eqWOk p0.1 p1.1))
   (br ((eqW p0.1 p1.1))
    (br ((okS fuel (List.map Blk.un p0.2.2.1) (List.map Blk.un p1.2.2.1)))
     (some (.t .bool (smT (List.map Blk.un p0.2.2.1) (List.map Blk.un p1.2.2.1)),[]))
     (none))
    (some (.t .bool false,[])))
   (none))
  (some (.t .bool false,[]))
theorem e_f77Q (p0:BlkT)(p1:BlkT):runF g_f77Q tc_f77Q rv_f77Q false [.t tyBlkT p0,.t tyBlkT p1] []=r_f77Q p0 p1:=by kernel_rfl
theorem ok_f77Q:Option.map (trC Tryd.prog) Tryd.f77.body=some tc_f77Q.er:=by kernel_rfl
theorem rok_f77Q:trVs Tryd.prog Tryd.f77.results.toList=some (rv_f77Q.map Prod.fst):=by kernel_rfl
theorem en_f77Q:Entered Tryd.prog 77:= .inr ⟨by decide,_,Tryd.func77,by kernel_rfl,by kernel_rfl⟩
theorem gk_f77Q:GOk Tryd.prog g_f77Q:=gok_of _ (by
 intro p hp
 simp only [List.mem_cons,List.not_mem_nil,or_false] at hp
 rcases hp with rfl|rfl
 ·exact ⟨en_f40R,ms_f40R⟩
 ·exact ⟨en_f78,ms_f78⟩)
theorem lk_f77Q:tc_f77Q.lok g_f77Q:=by repeat (first|exact trivial|refine ⟨?_, ?_⟩)
theorem s_f77Q (x y:BlkT)(h:smXOk x y=true):r_f77Q x y=some (.t .bool (smX x y),[]):=by
 obtain ⟨h1,h2⟩:=cP_of h
 have e5:eqWOk x.1 y.1=true:=cP_in h1
 have e6:okS fuel (x.2.2.1.map Blk.un) (y.2.2.1.map Blk.un)=true:=h2
 simp only [r_f77Q,e5,e6,br_true]
 unfold smX
 show br (x.2.1==y.2.1) _ _=_
 cases eqW x.1 y.1<;>cases (x.2.1==y.2.1)<;>rfl
def sp_f77Q:Ent:=spec (.pr tyBlkT (.pr tyBlkT .nil)) (fun x=>(smXOk x.1 x.2.1)) (fun x=>(.t .bool (smX x.1 x.2.1)))
theorem ms_f77Q:Meets Tryd.prog 77 (strip sp_f77Q):=by
 obtain ⟨c,hc,hi⟩:=Option.map_eq_some_iff.1 ok_f77Q
 exact meets_spec (R:=runF g_f77Q tc_f77Q rv_f77Q false) (meets_of (by decide) Tryd.func77 hc hi Tryd.ntmps77 rok_f77Q gk_f77Q lk_f77Q mixed) fun x hok=>(e_f77Q x.1 x.2.1).trans (s_f77Q x.1 x.2.1 hok)
def smQ2 [Fuel](a _b:List BlkT):Bool:=okN (fuel+1) a
def sm1 [Fuel](a b:List BlkT)(n k:Int):Bool:=cP (0<=k/\k<=a.length/\n=a.length/\a.length=b.length/\okN (fuel+1) a=true)
def fg_f76c77Q_0:Fg:=⟨[(1,some (.sl tyBlkT)),(2,none),(15,some (.sl tyBlkT)),(16,some tI),(17,some tI)],[]⟩
def tb_f76c77Q_0:TC:=(.sq (.reg [(oP 18 (.bin false .lss (.t 17) (.t 16)))]) (.sq (.cd (.t 18) .sk (.fg ⟨[],[]⟩ (.ex 0))) (.sq (.bk 1 (.sq (.reg [(oV 19 17),(oP 20 (.ix 4 (.t 15) (.t 17))),(oM 21 (.ld true 4 (.t 20))),(oM 8 (.new [(.v (.slice none 0 0)),(.v (.bool false)),(.v (.slice none 0 0)),(.v (.int .i64 0))])),(oV 7 19),(.mk none none (.m (.st 4 (.t 8) (.t 21))))]) (.sq (.reg [(oV 22 1),(oV 23 7),(oP 24 (.ix 4 (.t 22) (.t 23))),(oM 25 (.ld true 4 (.t 24))),(oM 9 (.new [(.v (.slice none 0 0)),(.v (.bool false)),(.v (.slice none 0 0)),(.v (.int .i64 0))])),(.mk none none (.m (.st 4 (.t 9) (.t 25))))]) (.sq (.reg [(oV 26 2),(oM 27 (.ld true 4 (.t 8))),(oM 28 (.ld true 4 (.t 9))),(oK 29 (.cv (.t 26) [(.t 27),(.t 28)])),(oP 30 (.nt (.t 29)))]) (.cd (.t 30) (.sq (.reg [(oP 6 (.mv (cB false)))]) (.fg ⟨[(6,some .bool)],[]⟩ .rt)) .sk))))) (.reg [(oP 31 (.bin false .add (.t 17) (cI 1))),(oV 17 31)]))))
def tc_f76c77Q:TC:=(.sq (.reg [(oP 6 (.mv (cB false)))]) (.sq (.sq (.reg [(oV 10 0),(oP 11 (.len false (.t 10))),(oV 12 1),(oP 13 (.len false (.t 12))),(oP 14 (.bin false .neq (.t 11) (.t 13)))]) (.cd (.t 14) (.sq (.reg [(oP 6 (.mv (cB false)))]) .rt) .sk)) (.sq (.sq (.reg [(oV 15 0),(oP 16 (.len false (.t 15))),(oP 17 (.mv (cI 0)))]) (.bk 0 (.lp 0 fg_f76c77Q_0 tb_f76c77Q_0))) (.sq (.reg [(oP 6 (.mv (cB true)))]) .rt))))
def rv_f76c77Q:List (RV×Option Ty):=[((.t 6),some .bool)]
abbrev sh_f76c77Q_0:Sh:=⟨[(1,.ty (.sl tyBlkT)),(2,.cf 77),(15,.ty (.sl tyBlkT)),(16,.ty tI),(17,.ty tI)],[]⟩
def st_f76c77Q_0 (x1:(List BlkT))(x15:(List BlkT))(x16:Int)(x17:Int):VS:=sh_f76c77Q_0.st (x1,(),x15,x16,x17,()) ()
abbrev sh_f76c77Q_0_ret:Sh:=⟨[(6,.ty .bool)],[]⟩
def st_f76c77Q_0_ret (x6:Bool):VS:=sh_f76c77Q_0_ret.st (x6,()) ()
abbrev sh_f76c77Q_0_e0:Sh:=⟨[],[]⟩
def st_f76c77Q_0_e0  : VS:=sh_f76c77Q_0_e0.st () ()
-- loop 0: (x1 : (List BlkT)) (x15 : (List BlkT)) (x16 : Int) (x17 : Int); out: ('ret',) (x6 : Bool); ('exit', 0)
def L_f76c77Q_0:VS->Option (Bool×List (Bool×Exit×VS)):=mkL sh_f76c77Q_0 (fun x y=>(sm1 x.2.2.1 x.1 x.2.2.2.1 x.2.2.2.2.1)) (fun x y=>[((!smT (x.2.2.1.drop x.2.2.2.2.1.toNat) (x.1.drop x.2.2.2.2.1.toNat)),.ret,st_f76c77Q_0_ret (false)),(true,.exit 0,st_f76c77Q_0_e0)])
def g_f76c77Q:G:=⟨TYs,[],32,EL [(77,sp_f77Q)],keeps,(Ls [L_f76c77Q_0]),IL [],RL []⟩
def b_f76c77Q_0 (x1:(List BlkT))(x15:(List BlkT))(x16:Int)(x17:Int):Option (Exit×VS):=
 br ((ilt x17 x16))
  (br (cIx x15 x17)
   (br (cIx x1 x17)
    (br ((smXOk (lgt tyBlkT x15 (Int.toNat x17)) (lgt tyBlkT x1 (Int.toNat x17))))
     (br ((!(smX (lgt tyBlkT x15 (Int.toNat x17)) (lgt tyBlkT x1 (Int.toNat x17)))))
      (some (.ret,st_f76c77Q_0_ret false))
      (some (.normal,st_f76c77Q_0 x1 x15 x16 (iadd .i64 x17 1))))
     (none))
    (none))
   (none))
  (some (.exit 0,st_f76c77Q_0_e0))
noncomputable def lp_f76c77Q_0 (x1:(List BlkT))(x15:(List BlkT))(x16:Int)(x17:Int):Option (Exit×VS):=loopF (roundF g_f76c77Q fg_f76c77Q_0 tb_f76c77Q_0) (st_f76c77Q_0 x1 x15 x16 x17)
noncomputable def n_f76c77Q_0 (x1:(List BlkT))(x15:(List BlkT))(x16:Int)(x17:Int):Option (Exit×VS):=
 br ((ilt x17 x16))
  (br (cIx x15 x17)
   (br (cIx x1 x17)
    (br ((smXOk (lgt tyBlkT x15 (Int.toNat x17)) (lgt tyBlkT x1 (Int.toNat x17))))
     (br ((!(smX (lgt tyBlkT x15 (Int.toNat x17)) (lgt tyBlkT x1 (Int.toNat x17)))))
      (some (.ret,st_f76c77Q_0_ret false))
      (lp_f76c77Q_0 x1 x15 x16 (iadd .i64 x17 1)))
     (none))
    (none))
   (none))
  (some (.exit 0,st_f76c77Q_0_e0))
def la_f76c77Q_0 (x1:(List BlkT))(x15:(List BlkT))(x16:Int)(x17:Int):Option (Exit×VS):=br (!smT (x15.drop x17.toNat) (x1.drop x17.toNat)) (some (.ret,st_f76c77Q_0_ret (false)))<|some (.exit 0,st_f76c77Q_0_e0)
theorem be_f76c77Q_0 (x1:(List BlkT))(x15:(List BlkT))(x16:Int)(x17:Int):roundF g_f76c77Q fg_f76c77Q_0 tb_f76c77Q_0 (st_f76c77Q_0 x1 x15 x16 x17)=b_f76c77Q_0 x1 x15 x16 x17:=by kernel_rfl
theorem ln_f76c77Q_0 (x1:(List BlkT))(x15:(List BlkT))(x16:Int)(x17:Int):lp_f76c77Q_0 x1 x15 x16 x17=n_f76c77Q_0 x1 x15 x16 x17:=(loopF_nxt _ _).trans (by
 rw [be_f76c77Q_0]
 simp only [b_f76c77Q_0,n_f76c77Q_0,nxt_br,nxt_n,nxt_r,nxt_e,nxt_0]
 rfl)
def r_f76c77Q (p0:(List BlkT))(p1:(List BlkT)):Option (V×List VO):=
 br ((ine (llen p0) (llen p1)))
  (some (.t .bool false,[]))
  (br ((sm1 p0 p1 (llen p0) (0:Int)))
   (br ((!smT (p0.drop (0:Int).toNat) (p1.drop (0:Int).toNat)))
    (some (.t .bool (false),[]))
    (some (.t .bool true,[])))
   (none))
theorem e_f76c77Q (p0:(List BlkT))(p1:(List BlkT)):runF g_f76c77Q tc_f76c77Q rv_f76c77Q false [.t (.sl tyBlkT) p0,.t (.sl tyBlkT) p1,.c (.func (.func 77) ⟨[]⟩ ⟨[]⟩)] []=r_f76c77Q p0 p1:=by kernel_rfl
theorem ok_f76c77Q:Option.map (trC Tryd.prog) Tryd.f76.body=some tc_f76c77Q.er:=by kernel_rfl
theorem rok_f76c77Q:trVs Tryd.prog Tryd.f76.results.toList=some (rv_f76c77Q.map Prod.fst):=by kernel_rfl
theorem en_f76c77Q:Entered Tryd.prog 76:= .inr ⟨by decide,_,Tryd.func76,by kernel_rfl,by kernel_rfl⟩
theorem gk_f76c77Q:GOk Tryd.prog g_f76c77Q:=gok_of _ (by
 intro p hp
 simp only [List.mem_cons,List.not_mem_nil,or_false] at hp
 rcases hp with rfl
 ·exact ⟨en_f77Q,ms_f77Q⟩)
theorem l_f76c77Q_0 (x1:(List BlkT))(x15:(List BlkT))(x16:Int)(x17:Int)(h:(sm1 x15 x1 x16 x17)=true):lp_f76c77Q_0 x1 x15 x16 x17=la_f76c77Q_0 x1 x15 x16 x17:=by
 obtain ⟨h1,h2,rfl,h3,h4⟩:=cP_of h
 clear h
 obtain ⟨h6,h7,h8⟩:=okN_p h4
 obtain ⟨k,rfl⟩:=Int.eq_ofNat_of_zero_le h1
 refine range_ind x15 (fun k=>lp_f76c77Q_0 x1 x15 (x15.length:Int) (k:Int)=la_f76c77Q_0 x1 x15 (x15.length:Int) (k:Int)) ?_ ?_ k (by omega)
 ·have e2:ilt (x15.length:Int) (x15.length:Int)=false:=decide_eq_false (by omega)
  rw [ln_f76c77Q_0]
  unfold n_f76c77Q_0 la_f76c77Q_0
  rw [e2,br_false,Int.toNat_natCast,List.drop_length,h3,List.drop_length]
  rfl
 ·intro k hk ih
  have hk2:k<x1.length:=by omega
  obtain ⟨g1,_,g3⟩:=h8 _ (List.getElem_mem hk)
  have e2:ilt (k:Int) (x15.length:Int)=true:=decide_eq_true (by omega)
  have e3:cIx x15 (k:Int)=true:=by rw [cIx_nat];exact decide_eq_true hk
  have e4:cIx x1 (k:Int)=true:=by rw [cIx_nat];exact decide_eq_true hk2
  have e5:smXOk x15[k] x1[k]=true:=cP_in ⟨g1,g3⟩
  rw [ln_f76c77Q_0]
  simp only [n_f76c77Q_0]
  rw [e2,e3,e4,Int.toNat_natCast,lgt_get (y:=tyBlkT) hk,lgt_get (y:=tyBlkT) hk2,e5,add1 (k:=k),ih]
  unfold la_f76c77Q_0
  rw [Int.toNat_natCast,Int.toNat_natCast,smT_drop hk hk2]
  cases smX x15[k] x1[k]<;>rfl
theorem lo_f76c77Q_0: ∀ S l p,g_f76c77Q.L 0 (fgt fg_f76c77Q_0 S)=some (true,l)->pickA l=some p->loopF (roundF g_f76c77Q fg_f76c77Q_0 tb_f76c77Q_0) S=some p:=
 lok_of (s:=sh_f76c77Q_0) ⟨by decide,by decide⟩ (by kernel_rfl) fun x y hok p hp=>by
 simp only [pickA_br,pickA_one] at hp
 exact (l_f76c77Q_0 x.1 x.2.2.1 x.2.2.2.1 x.2.2.2.2.1 (by simpa using hok)).trans hp
theorem lk_f76c77Q:tc_f76c77Q.lok g_f76c77Q:=by
 repeat (first|exact trivial|exact lo_f76c77Q_0|refine ⟨?_, ?_⟩)
theorem s_f76c77Q (a b:List BlkT)(h:smQ2 a b=true):r_f76c77Q a b=some (.t .bool (smT a b),[]):=by
 have h:okN (fuel+1) a=true:=h
 unfold r_f76c77Q
 cases hl:ine (llen a) (llen b) with
 |true=>
  have hn:a.length≠b.length:=by
   simp only [ine,llen,bne_iff_ne,ne_eq] at hl
   omega
  rw [br_true,smT_ne hn]
 |false=>
  have hn:a.length=b.length:=by
   simp only [ine,llen,bne_eq_false_iff_eq] at hl
   omega
  rw [br_false]
  refine brY (cP_in ⟨Int.le_refl 0,by omega,rfl,hn,h⟩) ?_
  rw [Int.toNat_zero,List.drop_zero,List.drop_zero]
  cases smT a b<;>rfl
def sp_f76c77Q:Ent:=specH [.ty (.sl tyBlkT),.ty (.sl tyBlkT),.cf 77] [] (fun x d=>(smQ2 x.1 x.2.1)) (fun x d=>(.t .bool (smT x.1 x.2.1)))
theorem ms_f76c77Q:Meets Tryd.prog 76 (strip sp_f76c77Q):=by
 obtain ⟨c,hc,hi⟩:=Option.map_eq_some_iff.1 ok_f76c77Q
 exact (meets_specH (R:=runF g_f76c77Q tc_f76c77Q rv_f76c77Q false) (meets_of (by decide) Tryd.func76 hc hi Tryd.ntmps76 rok_f76c77Q gk_f76c77Q lk_f76c77Q mixed) fun x d hok=>(e_f76c77Q x.1 x.2.1).trans (s_f76c77Q x.1 x.2.1 hok))
def tc_f40:TC:=(.sq (.reg [(oP 4 (.mv (cB false)))]) (.sq (.reg [(oV 5 0),(oV 6 1),(oC 7 76 [(.t 5),(.t 6),(.c (.v (.func (.func 77) #[] #[])))]),(oV 4 7)]) .rt))
def rv_f40:List (RV×Option Ty):=[((.t 4),some .bool)]
def g_f40:G:=⟨TYs,[],8,EL [(76,sp_f76c77Q)],keeps,(fun _ _=>none),IL [],RL []⟩
def r_f40 (p0:(List BlkT))(p1:(List BlkT)):Option (V×List VO):=
 br ((smQ2 p0 p1))
  (some (.t .bool (smT p0 p1),[]))
  (none)
theorem e_f40 (p0:(List BlkT))(p1:(List BlkT)):runF g_f40 tc_f40 rv_f40 false [.t (.sl tyBlkT) p0,.t (.sl tyBlkT) p1] []=r_f40 p0 p1:=by kernel_rfl
theorem ok_f40:Option.map (trC Tryd.prog) Tryd.f40.body=some tc_f40.er:=by kernel_rfl
theorem rok_f40:trVs Tryd.prog Tryd.f40.results.toList=some (rv_f40.map Prod.fst):=by kernel_rfl
theorem gk_f40:GOk Tryd.prog g_f40:=gok_of _ (by
 intro p hp
 simp only [List.mem_cons,List.not_mem_nil,or_false] at hp
 rcases hp with rfl
 ·exact ⟨en_f76c77Q,ms_f76c77Q⟩)
theorem lk_f40:tc_f40.lok g_f40:=by repeat (first|exact trivial|refine ⟨?_, ?_⟩)
theorem s_f40 (a b:List BlkT)(h:okS (fuel+1) a b=true):r_f40 a b=some (.t .bool (smT a b),[]):=by
 unfold r_f40
 exact brY h rfl
theorem mr_f40:Meets Tryd.prog 40 (runF g_f40 tc_f40 rv_f40 false):=by
 obtain ⟨c,hc,hi⟩:=Option.map_eq_some_iff.1 ok_f40
 exact meets_of (by decide) Tryd.func40 hc hi Tryd.ntmps40 rok_f40 gk_f40 lk_f40 mixed
end
theorem ma_blocks_Same: ∀ N:Nat,Meets Tryd.prog 40 (strip (@sp_f40R ⟨N⟩))
 |0=>meets_zero fun x=>by first|rfl|simp [okS]
 |N+1=>by
  letI:Fuel:=⟨N⟩
  haveI:Nonempty (PLift (Meets Tryd.prog 40 (strip sp_f40R))):=⟨⟨ma_blocks_Same N⟩⟩
  exact meets_spec mr_f40 fun x hok=>(e_f40 x.1 x.2.1).trans (s_f40 x.1 x.2.1 hok)
def sp_f40:Ent:=spec (.pr (.sl tyBlkT) (.pr (.sl tyBlkT) .nil)) (fun x=>(okST x.1 x.2.1)) (fun x=>(.t .bool (smT x.1 x.2.1)))
theorem ms_f40:Meets Tryd.prog 40 (strip sp_f40):=meets_fuel ma_blocks_Same fun x hok=>fuel_blocks_Same x.1 x.2.1 hok
end
end Go.Proofs.YtkkoedniahnneaaDoor.K
namespace Go.Proofs.YtkkoedniahnneaaDoor.K
open Go.RowKit
noncomputable section
-- loop 0: (x6 : (List Setting)) (x7 : Int) (x8 : Int) (y3 : (List ByteArray)); out: ('exit', 0) (y3 : (List ByteArray))
-- loop 0: (x0 : (List Setting)) (x1 : ByteArray) (x2 : ByteArray) (x3 : ByteArray) (x12 : Int) (x13 : Int) (y10 : Setting) (y24 : (List Setting)); out: ('exit', 0) (x0 : (List Setting)) (x1 : ByteArray) (x12 : Int) (y10 : Setting) (y24 : (List Setting))
-- loop 1: (x0 : (List Setting)) (x12 : Int) (x14 : Int) (y24 : (List Setting)); out: ('exit', 2) (y24 : (List Setting))
-- loop 2: (x0 : (List Setting)) (x1 : ByteArray) (x15 : Int) (x16 : Int) (y10 : Setting); out: ('exit', 4) (x0 : (List Setting)) (x15 : Int) (y10 : Setting)
end
end Go.Proofs.YtkkoedniahnneaaDoor.K
namespace Go.Proofs.YtkkoedniahnneaaDoor.K
open Go.RowKit Go.Shelf
attribute [local go_sem] Oper.semAt_some
section
attribute [local go_sem ↓] Go.wp_at_zero Go.wp_at_succ
end
section
attribute [local go_sem ↓] Go.wp_at_zero Go.wp_at_succ
end
end Go.Proofs.YtkkoedniahnneaaDoor.K
namespace Go.Proofs.YtkkoedniahnneaaDoor.K
open Go.RowKit
theorem eql_sl_nil {P:Program}(w:World)(t e:TypeId)(a:Option Addr)(l c:Nat)(h:P.underlying t=some (.slice e)):(binOp .eql t (.slice a l c) (.slice none 0 0)).run P w= .ok (.bool a.isNone) w:=by
 simp [binOp,run_equal_slice_nil w t e a l c h]
set_option maxHeartbeats 1000000 in
/-- slices.Insert at the end -/
theorem ins_end (B:Nat)(v:Value)(n vb:Nat)(cells xs:List Value)(w:World)(ho:w.ownsRow B 45 4 v n cells)(hn:n<=100000)(hB:B<=w.heap.size)
  (hx:w.heap[vb]? = some (.cells xs.toArray 45 (0,0))) (hxl:xs.length=4) (h1x: ∀ u∈xs,u.oneCell'=true):
  Calls Tryd.prog 85 #[v,.int .i64 n,.slice (some ⟨vb,0,none⟩) 1 1] w fun e w'=> ∃ v',e= .returned v'/\w'.ownsRow B 45 4 v' (n+1) (cells++xs)/\w.grownBy w' v.ownBlock:=by
 have hsl:Sl w (.slice (some ⟨vb,0,none⟩) 1 1) 4 1 xs:=⟨by rw [hxl],_,1,rfl,Nat.le_refl _,by unfold maxLen;omega,fun _=>⟨vb,0,rfl,(Array.getElem?_eq_some_iff.1 hx).1,fun j u hj=>by rw [Nat.zero_add,Lib.cell_of_heap hx];simpa using hj⟩⟩
 have HO:=Lib.hid ho
 have HS:=Lib.hid hsl
 rcases ho.2 with ⟨rfl,rfl⟩|⟨g,cap,cur,rfl,h1,h2,h3,h4,h5,h6⟩
 ·clear ho hsl hx
  go_enter Tryd.func85,Tryd.ntmps85
  go_wp2_with (at_builtin;refine wpList_app elemSet rfl _ _ rfl B (.slice none 0 0) 0 cells rfl HO.out (some ⟨vb,0,none⟩) 1 1 xs rfl HS.out h1x (by omega) (by omega) hB ?_;intro v' w4 hown4 hg4 hat4)
  go_ret
  exact ⟨v',rfl,hown4,hg4⟩
 ·clear ho hsl hx h2 h6
  have hc63:cap<=9223372036854775807:=by unfold maxLen at h4;omega
  go_enter Tryd.func85,Tryd.ntmps85
  go_wp2_with (at_builtin;refine wpList_app elemSet rfl _ _ rfl B (.slice (some ⟨g,0,none⟩) n cap) n cells rfl HO.out (some ⟨vb,0,none⟩) 1 1 xs rfl HS.out h1x (by omega) (by omega) hB ?_;intro v' w4 hown4 hg4 hat4)
  all_goals (go_ret;exact ⟨v',rfl,hown4,hg4⟩)
end Go.Proofs.YtkkoedniahnneaaDoor.K
set_option linter.unusedSectionVars false
namespace Go.Proofs.YtkkoedniahnneaaDoor.K
open Go.RowKit
set_option linter.unusedSectionVars false
def lenCl {α:Type}(l:List α):Bool:=decide (l.length<=100000)
theorem meets_cloneP {P:Program}{f e N:Nat}{y:Ty}{ok:(Ty.pr (.sl y) .nil).T->Bool}(hlt:f<1000000)(hok: ∀ x,ok x=true->x.1.length<=N)
  (h: ∀ (A:Option Addr) (c n:Nat) (cells:List Value) (w:World),Sl w (.slice A n c) y.sz n cells->(∀ u∈cells,u.oneCell'=true)->n<=N→
   Calls P f #[.slice A n c] w fun r w'=> ∃ sv,r= .returned sv/\w'.ownsRow w.heap.size e y.sz sv n cells/\Below w.heap.size w w'):
  Meets P f (strip (spec (.pr (.sl y) .nil) ok (fun x=> .t (.sl y) x.1))):=by
 refine meets_calls (hlt:=hlt) (fun x hx X w σ vs hfin hc=> ?_)
 obtain ⟨l,u0⟩:=x
 have hc:Cs X w σ [D.sl l.length (l.flatMap y.cells)] vs:=hc
 simp only [Cs,C] at hc
 obtain ⟨u,us,rfl,⟨A,c,rfl,hnc,hmx,hz,hp⟩,rfl⟩:=hc
 have hsl: ∃ cells,Sl w (.slice A l.length c) y.sz l.length cells/\(∀ u∈cells,u.oneCell'=true)/\Cs X w nowhere (List.flatMap y.cells l) cells:=by
  by_cases hq:l=[]
  ·subst hq
   exact ⟨[],⟨by simp,A,c,rfl,Nat.zero_le _,hmx,fun hn=>absurd hn (by simp)⟩,fun u hu=>(by cases hu),by simp [Cs]⟩
  ·have hn:0<l.length:=List.length_pos_iff.2 hq
   obtain ⟨b,off,vs,rfl,g1,g2⟩:=hp hn
   have hvl:=Cs.len g1
   rw [flat_len] at hvl
   exact ⟨vs,⟨hvl,_,c,rfl,hnc,hmx,fun _=>⟨b,off,rfl,g2.lt,fun j u hu=>g2.at_ j u hu⟩⟩,g2.one,g1⟩
 obtain ⟨cells,s1,s2,s3⟩:=hsl
 refine (h A c l.length cells w s1 s2 (hok _ hx)).mono ?_
 rintro en w' ⟨sv,rfl,ho,hb⟩
 exact ⟨sv,rfl,own_cG ho (Cs.ext0 (⟨hb.size,fun b o hb' hx=>⟨hx,hb.cell (p:=⟨b,o,none⟩) hb'⟩⟩) _ _ (fun _ _=>rfl) s3) s2 hfin,hb⟩
def cloneStr (l:List ByteArray):List ByteArray:=l
def sp_f116:Ent:=spec (.pr (.sl .str) .nil) (fun x=>(lenCl x.1)) (fun x=>(.t (.sl .str) (cloneStr x.1)))
theorem en_f116:Entered Tryd.prog 116:= .inr ⟨by decide,_,Tryd.func116,by kernel_rfl,by kernel_rfl⟩
theorem elemStr:ElemOk Tryd.prog 36 9 1 16:=ElemOk.of (.string ⟨#[]⟩) (by kernel_rfl) (by kernel_rfl) (by kernel_rfl) (by decide)
set_option maxHeartbeats 400000 in
theorem clone_Str (A:Option Addr)(c n:Nat)(cells:List Value)(w:World)(h:Sl w (.slice A n c) 1 n cells)(h1: ∀ u∈cells,u.oneCell'=true)(hn:n<=100000):
  Calls Tryd.prog 116 #[.slice A n c] w fun r w'=> ∃ sv,r= .returned sv/\w'.ownsRow w.heap.size 9 1 sv n cells/\Below w.heap.size w w':=by
 have he:=eql_sl_nil (P:=Tryd.prog) w 36 9 A n c (by kernel_rfl)
 rcases A with _|ad
 ·have hnil:n=0:=Classical.byContradiction fun h0=>by
   obtain ⟨_,A',c',hv,_,_,h3⟩:=h
   obtain ⟨b,off,e,_⟩:=h3 (by omega)
   rw [e] at hv
   simp at hv
  subst hnil
  have hc:cells=[]:=List.eq_nil_of_length_eq_zero (by rw [h.1,Nat.zero_mul])
  subst hc
  clear h
  simp only [Option.isNone_none] at he
  go_enter Tryd.func116,Tryd.ntmps116
  go_wp2_with fail
  go_ret
  exact ⟨_,rfl,⟨rfl,.inl ⟨rfl,rfl⟩⟩,Below.refl _ _⟩
 ·simp only [Option.isNone_some] at he
  have hown:=World.ownsRow_made w #[] (size:=1) (e:=9) 0 (Nat.le_refl _) (Nat.zero_le _) rfl
  have hsrc:=h.alloc (.cells #[] 9)
  have HSRC:=Lib.hid hsrc
  clear h hsrc
  go_enter Tryd.func116,Tryd.ntmps116
  go_wp2_with (at_builtin;refine wpList_app elemStr rfl _ _ rfl w.heap.size (.slice (some ⟨w.heap.size,0,none⟩) 0 0) 0 [] rfl hown (some ad) n c cells rfl HSRC.out h1 (by omega) (by omega) (by simp) ?_;intro v' w4 hown4 hg4 hat4)
  go_ret
  refine ⟨v',rfl,by simpa using hown4, ?_⟩
  have hal:=(Below.refl w.heap.size w).alloc (Nat.le_refl _) (.cells #[] 9)
  exact below_of_only hal hg4 (Nat.le_refl _) hal.size
theorem ms_f116:Meets Tryd.prog 116 (strip sp_f116):=
 meets_cloneP (e:=9) (y:= .str) (by decide) (fun x hx=>of_decide_eq_true hx) fun A c n cells w h h1 hn=>clone_Str A c n cells w h h1 hn
noncomputable section
def cpT (l:List BlkT):List BlkT:=l
theorem fuel_blocks_copied (l:List BlkT)(h:okT l=true): ∃ N,okN N l=true:=okT_fuel h
theorem fuel_ref07_Copy (l:List BlkT)(h:okT l=true): ∃ N,okN N l=true:=okT_fuel h
def cp0 [Fuel](l:List BlkT)(n k:Int)(m:List BlkT):Bool:=cP (0<=k/\k<=l.length/\n=l.length/\okN (fuel+1) l=true/\m.length<=k)
def cp1 [Fuel](l:List BlkT)(k:Int)(m:List BlkT):Bool:=cP (0<=k/\k<=l.length/\okN (fuel+1) l=true/\m.length<=k)
theorem en_f74:Entered Tryd.prog 74:= .inr ⟨by decide,_,Tryd.func74,by kernel_rfl,by kernel_rfl⟩
def sp_f74R [Fuel]:Ent:=spec (.pr (.sl tyBlkT) .nil) (fun x=>(okN fuel x.1)) (fun x=>(.t (.sl tyBlkT) (cpT x.1)))
theorem en_f74R:Entered Tryd.prog 74:=en_f74
section
variable [Fuel][Nonempty (PLift (Meets Tryd.prog 74 (strip sp_f74R)))]
theorem ms_f74R:Meets Tryd.prog 74 (strip sp_f74R):=(Classical.choice (inferInstance:Nonempty (PLift (Meets Tryd.prog 74 (strip sp_f74R))))).down
def dr_f74_0:List DO:=[(.mk (oP 12 (.fa 0 (.t 5))) []),(.mk (oL 13 12) [0]),(.mk (oC 14 116 [(.t 13)]) [1]),(.mk (oP 15 (.fa 2 (.t 5))) []),(.mk (oL 16 15) [3]),(.mk (oC 17 74 [(.t 16)]) [4,2]),(.mk (oP 18 (.fa 0 (.t 5))) [0,1,2,3,4]),(.mk (.mk none none (.m (.st 1 (.t 18) (.t 14)))) [6,2,5,0,1,2,3,4]),(.mk (oP 19 (.fa 2 (.t 5))) [0,1,2,3,4,5,6,7]),(.mk (.mk none none (.m (.st 1 (.t 19) (.t 17)))) [8,5,7,0,1,2,3,4,5,6,7])]
def fg_f74_0:Fg:=⟨[(3,none),(6,some (.sl tyBlkT)),(7,some tI),(8,some tI)],[(3,none),(23,none)]⟩
def tb_f74_0:TC:=(.sq (.reg [(oP 9 (.bin false .lss (.t 8) (.t 7)))]) (.sq (.cd (.t 9) .sk (.fg ⟨[(3,none)],[(3,none),(23,none)]⟩ (.ex 0))) (.sq (.bk 1 (.sq (.reg [(oP 10 (.ix 4 (.t 6) (.t 8))),(oM 11 (.ld true 4 (.t 10))),(oM 5 (.new [(.v (.slice none 0 0)),(.v (.bool false)),(.v (.slice none 0 0)),(.v (.int .i64 0))])),(.mk none none (.m (.st 4 (.t 5) (.t 11))))]) (.sq (.dr dr_f74_0 [(0,[5]),(1,[5]),(2,[]),(3,[5]),(4,[5]),(5,[]),(6,[5]),(7,[5]),(8,[5]),(9,[5])] (.of [0,1,2,3,4,5,6,7,8,9])) (.reg [(oV 20 3),(oM 21 (.ld true 4 (.t 5))),(oM 22 (.bs 38 4 1 [(.v (.slice none 0 0)),(.v (.bool false)),(.v (.slice none 0 0)),(.v (.int .i64 0))] [(0,4,(.t 21))])),(oM 23 (.app 38 4 64 (.t 20) (.t 22))),(oV 3 23)])))) (.reg [(oP 24 (.bin false .add (.t 8) (cI 1))),(oV 8 24)]))))
def tc_f74:TC:=(.sq (.reg [(oP 2 (.mv (.c (.v (.slice none 0 0)))))]) (.sq (.reg [(oP 3 (.mv (.c (.v (.slice none 0 0)))))]) (.sq (.sq (.reg [(oV 6 0),(oP 7 (.len false (.t 6))),(oP 8 (.mv (cI 0)))]) (.bk 0 (.nw 3 38 (.lp 0 fg_f74_0 tb_f74_0)))) (.sq (.reg [(oV 25 3),(oV 2 25)]) .rt))))
def rv_f74:List (RV×Option Ty):=[((.t 2),some (.sl tyBlkT))]
abbrev sh_f74_0:Sh:=⟨[(3,.ms 3),(6,.ty (.sl tyBlkT)),(7,.ty tI),(8,.ty tI)],[(3,.arr 38 tyBlkT),(23,.no)]⟩
def st_f74_0 (x6:(List BlkT))(x7:Int)(x8:Int)(y3:(List BlkT)):VS:=sh_f74_0.st ((),x6,x7,x8,()) (y3,(),())
abbrev sh_f74_0_e0:Sh:=⟨[(3,.ms 3)],[(3,.arr 38 tyBlkT),(23,.no)]⟩
def st_f74_0_e0 (y3:(List BlkT)):VS:=sh_f74_0_e0.st ((),()) (y3,(),())
-- loop 0: (x6 : (List BlkT)) (x7 : Int) (x8 : Int) (y3 : (List BlkT)); out: ('exit', 0) (y3 : (List BlkT))
def L_f74_0:VS->Option (Bool×List (Bool×Exit×VS)):=mkL sh_f74_0 (fun x y=>(cp0 x.2.1 x.2.2.1 x.2.2.2.1 y.1)) (fun x y=>[(true,.exit 0,st_f74_0_e0 (y.1++x.2.1.drop x.2.2.2.1.toNat))])
def g_f74:G:=⟨TYs,[],26,EL [(74,sp_f74R),(116,sp_f116)],keeps,(Ls [L_f74_0]),IL [],RL []⟩
def b_f74_0 (x6:(List BlkT))(x7:Int)(x8:Int)(y3:(List BlkT)):Option (Exit×VS):=
 br ((ilt x8 x7))
  (br (cIx x6 x8)
   (br ((lenCl ((lgt tyBlkT x6 (Int.toNat x8)).1)))
    (br ((okN fuel (List.map Blk.un ((((lgt tyBlkT x6 (Int.toNat x8)).2).2).1))))
     (br (cApp y3 ([((cloneStr ((lgt tyBlkT x6 (Int.toNat x8)).1)),(((lgt tyBlkT x6 (Int.toNat x8)).2).1,((List.map Blk.of (List.map Blk.un (List.map Blk.of (cpT (List.map Blk.un ((((lgt tyBlkT x6 (Int.toNat x8)).2).2).1)))))),(((((lgt tyBlkT x6 (Int.toNat x8)).2).2).2).1,()))))]) 64)
      (some (.normal,st_f74_0 x6 x7 (iadd .i64 x8 1) (y3++([((cloneStr ((lgt tyBlkT x6 (Int.toNat x8)).1)),(((lgt tyBlkT x6 (Int.toNat x8)).2).1,((List.map Blk.of (List.map Blk.un (List.map Blk.of (cpT (List.map Blk.un ((((lgt tyBlkT x6 (Int.toNat x8)).2).2).1)))))),(((((lgt tyBlkT x6 (Int.toNat x8)).2).2).2).1,()))))]))))
      (none))
     (none))
    (none))
   (none))
  (some (.exit 0,st_f74_0_e0 y3))
noncomputable def lp_f74_0 (x6:(List BlkT))(x7:Int)(x8:Int)(y3:(List BlkT)):Option (Exit×VS):=loopF (roundF g_f74 fg_f74_0 tb_f74_0) (st_f74_0 x6 x7 x8 y3)
noncomputable def n_f74_0 (x6:(List BlkT))(x7:Int)(x8:Int)(y3:(List BlkT)):Option (Exit×VS):=
 br ((ilt x8 x7))
  (br (cIx x6 x8)
   (br ((lenCl ((lgt tyBlkT x6 (Int.toNat x8)).1)))
    (br ((okN fuel (List.map Blk.un ((((lgt tyBlkT x6 (Int.toNat x8)).2).2).1))))
     (br (cApp y3 ([((cloneStr ((lgt tyBlkT x6 (Int.toNat x8)).1)),(((lgt tyBlkT x6 (Int.toNat x8)).2).1,((List.map Blk.of (List.map Blk.un (List.map Blk.of (cpT (List.map Blk.un ((((lgt tyBlkT x6 (Int.toNat x8)).2).2).1)))))),(((((lgt tyBlkT x6 (Int.toNat x8)).2).2).2).1,()))))]) 64)
      (lp_f74_0 x6 x7 (iadd .i64 x8 1) (y3++([((cloneStr ((lgt tyBlkT x6 (Int.toNat x8)).1)),(((lgt tyBlkT x6 (Int.toNat x8)).2).1,((List.map Blk.of (List.map Blk.un (List.map Blk.of (cpT (List.map Blk.un ((((lgt tyBlkT x6 (Int.toNat x8)).2).2).1)))))),(((((lgt tyBlkT x6 (Int.toNat x8)).2).2).2).1,()))))])))
      (none))
     (none))
    (none))
   (none))
  (some (.exit 0,st_f74_0_e0 y3))
def la_f74_0 (x6:(List BlkT))(x7:Int)(x8:Int)(y3:(List BlkT)):Option (Exit×VS):=some (.exit 0,st_f74_0_e0 (y3++x6.drop x8.toNat))
theorem be_f74_0 (x6:(List BlkT))(x7:Int)(x8:Int)(y3:(List BlkT)):roundF g_f74 fg_f74_0 tb_f74_0 (st_f74_0 x6 x7 x8 y3)=b_f74_0 x6 x7 x8 y3:=by kernel_rfl
theorem ln_f74_0 (x6:(List BlkT))(x7:Int)(x8:Int)(y3:(List BlkT)):lp_f74_0 x6 x7 x8 y3=n_f74_0 x6 x7 x8 y3:=(loopF_nxt _ _).trans (by
 rw [be_f74_0]
 simp only [b_f74_0,n_f74_0,nxt_br,nxt_n,nxt_r,nxt_e,nxt_0]
 rfl)
def r_f74 (p0:(List BlkT)):Option (V×List VO):=
 br ((cp0 p0 (llen p0) (0:Int) ([]:List BlkT)))
  (some (.t (.sl tyBlkT) (([]:List BlkT)++p0.drop (0:Int).toNat),[]))
  (none)
theorem e_f74 (p0:(List BlkT)):runF g_f74 tc_f74 rv_f74 false [.t (.sl tyBlkT) p0] []=r_f74 p0:=by kernel_rfl
theorem ok_f74:Option.map (trC Tryd.prog) Tryd.f74.body=some tc_f74.er:=by kernel_rfl
theorem rok_f74:trVs Tryd.prog Tryd.f74.results.toList=some (rv_f74.map Prod.fst):=by kernel_rfl
theorem gk_f74:GOk Tryd.prog g_f74:=gok_of _ (by
 intro p hp
 simp only [List.mem_cons,List.not_mem_nil,or_false] at hp
 rcases hp with rfl|rfl
 ·exact ⟨en_f74R,ms_f74R⟩
 ·exact ⟨en_f116,ms_f116⟩)
theorem l_f74_0 (x6:(List BlkT))(x7:Int)(x8:Int)(y3:(List BlkT))(h:(cp0 x6 x7 x8 y3)=true):lp_f74_0 x6 x7 x8 y3=la_f74_0 x6 x7 x8 y3:=by
 obtain ⟨h1,h2,rfl,h4,h5⟩:=cP_of h
 clear h
 obtain ⟨h6,h7,h8⟩:=okN_p h4
 obtain ⟨k,rfl⟩:=Int.eq_ofNat_of_zero_le h1
 refine range_ind x6 (fun k=> ∀ y3:List BlkT,y3.length<=k->lp_f74_0 x6 (x6.length:Int) (k:Int) y3=la_f74_0 x6 (x6.length:Int) (k:Int) y3) ?_ ?_ k (by omega) y3 (by omega)
 ·intro y3 _
  have e2:ilt (x6.length:Int) (x6.length:Int)=false:=decide_eq_false (by omega)
  rw [ln_f74_0]
  unfold n_f74_0 la_f74_0
  rw [e2,br_false,Int.toNat_natCast,List.drop_length,List.append_nil]
 ·intro k hk ih y3 hy
  obtain ⟨g1,_,g3⟩:=h8 _ (List.getElem_mem hk)
  have e2:ilt (k:Int) (x6.length:Int)=true:=decide_eq_true (by omega)
  have e3:cIx x6 (k:Int)=true:=by rw [cIx_nat];exact decide_eq_true hk
  have e4:lenCl x6[k].1=true:=decide_eq_true g1
  have e5:((cloneStr x6[k].1),(x6[k].2.1,((List.map Blk.of (List.map Blk.un (List.map Blk.of (cpT (List.map Blk.un x6[k].2.2.1))))),(x6[k].2.2.2.1,()))))=x6[k]:=by
   unfold cloneStr cpT
   rw [map_of_unB,map_of_unB]
  rw [ln_f74_0]
  unfold n_f74_0
  rw [e2,e3,Int.toNat_natCast,lgt_get (y:=tyBlkT) hk,e4,g3,e5,br_true,br_true,br_true,br_true,cAppN (by omega) (by simp only [List.length_singleton];omega),br_true,add1 (k:=k),ih _ (by rw [List.length_append,List.length_singleton];omega)]
  unfold la_f74_0
  rw [Int.toNat_natCast,Int.toNat_natCast,List.drop_eq_getElem_cons hk,List.append_assoc,List.singleton_append]
theorem lo_f74_0: ∀ S l p,g_f74.L 0 (fgt fg_f74_0 S)=some (true,l)->pickA l=some p->loopF (roundF g_f74 fg_f74_0 tb_f74_0) S=some p:=
 lok_of (s:=sh_f74_0) ⟨by decide,by decide⟩ (by kernel_rfl) fun x y hok p hp=>by
 simp only [pickA_br,pickA_one] at hp
 exact (l_f74_0 x.2.1 x.2.2.1 x.2.2.2.1 y.1 (by simpa using hok)).trans hp
theorem lk_f74:tc_f74.lok g_f74:=by
 repeat (first|exact trivial|exact lo_f74_0|refine ⟨?_, ?_⟩)
theorem s_f74 (l:List BlkT)(h:okN (fuel+1) l=true):r_f74 l=some (.t (.sl tyBlkT) (cpT l),[]):=by
 refine brY (cP_in ⟨by omega,by omega,rfl,h,by show ((0:Nat):Int)<=0;omega⟩) ?_
 rw [Int.toNat_zero,List.drop_zero,List.nil_append]
 rfl
theorem mr_f74:Meets Tryd.prog 74 (runF g_f74 tc_f74 rv_f74 false):=by
 obtain ⟨c,hc,hi⟩:=Option.map_eq_some_iff.1 ok_f74
 exact meets_of (by decide) Tryd.func74 hc hi Tryd.ntmps74 rok_f74 gk_f74 lk_f74 mixed
end
theorem ma_blocks_copied: ∀ N:Nat,Meets Tryd.prog 74 (strip (@sp_f74R ⟨N⟩))
 |0=>meets_zero fun x=>by first|rfl|simp [okN]
 |N+1=>by
  letI:Fuel:=⟨N⟩
  haveI:Nonempty (PLift (Meets Tryd.prog 74 (strip sp_f74R))):=⟨⟨ma_blocks_copied N⟩⟩
  exact meets_spec mr_f74 fun x hok=>(e_f74 x.1).trans (s_f74 x.1 hok)
def sp_f74:Ent:=spec (.pr (.sl tyBlkT) .nil) (fun x=>(okT x.1)) (fun x=>(.t (.sl tyBlkT) (cpT x.1)))
theorem ms_f74:Meets Tryd.prog 74 (strip sp_f74):=meets_fuel ma_blocks_copied fun x hok=>fuel_blocks_copied x.1 hok
theorem en_f75:Entered Tryd.prog 75:= .inr ⟨by decide,_,Tryd.func75,by kernel_rfl,by kernel_rfl⟩
def sp_f75R [Fuel]:Ent:=spec (.pr (.sl tyBlkT) .nil) (fun x=>(okN fuel x.1)) (fun x=>(.t (.sl tyBlkT) (cpT x.1)))
theorem en_f75R:Entered Tryd.prog 75:=en_f75
section
variable [Fuel][Nonempty (PLift (Meets Tryd.prog 75 (strip sp_f75R)))]
theorem ms_f75R:Meets Tryd.prog 75 (strip sp_f75R):=(Classical.choice (inferInstance:Nonempty (PLift (Meets Tryd.prog 75 (strip sp_f75R))))).down
def fg_f75_0:Fg:=⟨[(0,some (.sl tyBlkT)),(3,none),(4,some tI)],[(3,none),(28,none)]⟩
def tb_f75_0:TC:=(.sq (.sq (.reg [(oV 6 4),(oV 7 0),(oP 8 (.len false (.t 7))),(oP 9 (.bin false .lss (.t 6) (.t 8)))]) (.cd (.t 9) .sk (.fg ⟨[(3,none)],[(3,none),(28,none)]⟩ (.ex 0)))) (.sq (.bk 1 (.sq (.reg [(oV 12 0),(oV 13 4),(oP 14 (.ix 4 (.t 12) (.t 13))),(oM 15 (.ld true 4 (.t 14))),(oM 5 (.new [(.v (.slice none 0 0)),(.v (.bool false)),(.v (.slice none 0 0)),(.v (.int .i64 0))])),(.mk none none (.m (.st 4 (.t 5) (.t 15))))]) (.sq (.reg [(oM 16 (.bs 9 1 0 [] [])),(oP 17 (.fa 0 (.t 5))),(oL 18 17),(oM 19 (.app 9 1 16 (.t 16) (.t 18))),(oP 20 (.fa 0 (.t 5))),(.mk none none (.m (.st 1 (.t 20) (.t 19))))]) (.sq (.reg [(oP 21 (.fa 2 (.t 5))),(oL 22 21),(oC 23 75 [(.t 22)]),(oP 24 (.fa 2 (.t 5))),(.mk none none (.m (.st 1 (.t 24) (.t 23))))]) (.reg [(oV 25 3),(oM 26 (.ld true 4 (.t 5))),(oM 27 (.bs 38 4 1 [(.v (.slice none 0 0)),(.v (.bool false)),(.v (.slice none 0 0)),(.v (.int .i64 0))] [(0,4,(.t 26))])),(oM 28 (.app 38 4 64 (.t 25) (.t 27))),(oV 3 28)]))))) (.reg [(oV 10 4),(oP 11 (.bin false .add (.t 10) (cI 1))),(oV 4 11)])))
def tc_f75:TC:=(.sq (.reg [(oP 2 (.mv (.c (.v (.slice none 0 0)))))]) (.sq (.reg [(oP 3 (.mv (.c (.v (.slice none 0 0)))))]) (.sq (.sq (.reg [(oP 4 (.mv (cI 0)))]) (.bk 0 (.nf 5 0 9 20500 (.nw 3 38 (.lp 0 fg_f75_0 tb_f75_0))))) (.sq (.reg [(oV 29 3),(oV 2 29)]) .rt))))
def rv_f75:List (RV×Option Ty):=[((.t 2),some (.sl tyBlkT))]
abbrev sh_f75_0:Sh:=⟨[(0,.ty (.sl tyBlkT)),(3,.ms 3),(4,.ty tI)],[(3,.arr 38 tyBlkT),(28,.no)]⟩
def st_f75_0 (x0:(List BlkT))(x4:Int)(y3:(List BlkT)):VS:=sh_f75_0.st (x0,(),x4,()) (y3,(),())
abbrev sh_f75_0_e0:Sh:=⟨[(3,.ms 3)],[(3,.arr 38 tyBlkT),(28,.no)]⟩
def st_f75_0_e0 (y3:(List BlkT)):VS:=sh_f75_0_e0.st ((),()) (y3,(),())
-- loop 0: (x0 : (List BlkT)) (x4 : Int) (y3 : (List BlkT)); out: ('exit', 0) (y3 : (List BlkT))
def L_f75_0:VS->Option (Bool×List (Bool×Exit×VS)):=mkL sh_f75_0 (fun x y=>(cp1 x.1 x.2.2.1 y.1)) (fun x y=>[(true,.exit 0,st_f75_0_e0 (y.1++x.1.drop x.2.2.1.toNat))])
def g_f75:G:=⟨TYs,[16],30,EL [(75,sp_f75R)],keeps,(Ls [L_f75_0]),IL [],RL []⟩
def b_f75_0 (x0:(List BlkT))(x4:Int)(y3:(List BlkT)):Option (Exit×VS):=
 br ((ilt x4 (llen x0)))
  (br (cIx x0 x4)
   (br (cApp ([]:List ByteArray) ((lgt tyBlkT x0 (Int.toNat x4)).1) 16)
    (br ((okN fuel (List.map Blk.un ((((lgt tyBlkT x0 (Int.toNat x4)).2).2).1))))
     (br (cApp y3 ([((([]:List ByteArray)++((lgt tyBlkT x0 (Int.toNat x4)).1)),(((lgt tyBlkT x0 (Int.toNat x4)).2).1,((List.map Blk.of (cpT (List.map Blk.un ((((lgt tyBlkT x0 (Int.toNat x4)).2).2).1)))),(((((lgt tyBlkT x0 (Int.toNat x4)).2).2).2).1,()))))]) 64)
      (some (.normal,st_f75_0 x0 (iadd .i64 x4 1) (y3++([((([]:List ByteArray)++((lgt tyBlkT x0 (Int.toNat x4)).1)),(((lgt tyBlkT x0 (Int.toNat x4)).2).1,((List.map Blk.of (cpT (List.map Blk.un ((((lgt tyBlkT x0 (Int.toNat x4)).2).2).1)))),(((((lgt tyBlkT x0 (Int.toNat x4)).2).2).2).1,()))))]))))
      (none))
     (none))
    (none))
   (none))
  (some (.exit 0,st_f75_0_e0 y3))
noncomputable def lp_f75_0 (x0:(List BlkT))(x4:Int)(y3:(List BlkT)):Option (Exit×VS):=loopF (roundF g_f75 fg_f75_0 tb_f75_0) (st_f75_0 x0 x4 y3)
noncomputable def n_f75_0 (x0:(List BlkT))(x4:Int)(y3:(List BlkT)):Option (Exit×VS):=
 br ((ilt x4 (llen x0)))
  (br (cIx x0 x4)
   (br (cApp ([]:List ByteArray) ((lgt tyBlkT x0 (Int.toNat x4)).1) 16)
    (br ((okN fuel (List.map Blk.un ((((lgt tyBlkT x0 (Int.toNat x4)).2).2).1))))
     (br (cApp y3 ([((([]:List ByteArray)++((lgt tyBlkT x0 (Int.toNat x4)).1)),(((lgt tyBlkT x0 (Int.toNat x4)).2).1,((List.map Blk.of (cpT (List.map Blk.un ((((lgt tyBlkT x0 (Int.toNat x4)).2).2).1)))),(((((lgt tyBlkT x0 (Int.toNat x4)).2).2).2).1,()))))]) 64)
      (lp_f75_0 x0 (iadd .i64 x4 1) (y3++([((([]:List ByteArray)++((lgt tyBlkT x0 (Int.toNat x4)).1)),(((lgt tyBlkT x0 (Int.toNat x4)).2).1,((List.map Blk.of (cpT (List.map Blk.un ((((lgt tyBlkT x0 (Int.toNat x4)).2).2).1)))),(((((lgt tyBlkT x0 (Int.toNat x4)).2).2).2).1,()))))])))
      (none))
     (none))
    (none))
   (none))
  (some (.exit 0,st_f75_0_e0 y3))
def la_f75_0 (x0:(List BlkT))(x4:Int)(y3:(List BlkT)):Option (Exit×VS):=some (.exit 0,st_f75_0_e0 (y3++x0.drop x4.toNat))
theorem be_f75_0 (x0:(List BlkT))(x4:Int)(y3:(List BlkT)):roundF g_f75 fg_f75_0 tb_f75_0 (st_f75_0 x0 x4 y3)=b_f75_0 x0 x4 y3:=by kernel_rfl
theorem ln_f75_0 (x0:(List BlkT))(x4:Int)(y3:(List BlkT)):lp_f75_0 x0 x4 y3=n_f75_0 x0 x4 y3:=(loopF_nxt _ _).trans (by
 rw [be_f75_0]
 simp only [b_f75_0,n_f75_0,nxt_br,nxt_n,nxt_r,nxt_e,nxt_0]
 rfl)
def r_f75 (p0:(List BlkT)):Option (V×List VO):=
 br ((cp1 p0 (0:Int) ([]:List BlkT)))
  (some (.t (.sl tyBlkT) (([]:List BlkT)++p0.drop (0:Int).toNat),[]))
  (none)
theorem e_f75 (p0:(List BlkT)):runF g_f75 tc_f75 rv_f75 false [.t (.sl tyBlkT) p0] []=r_f75 p0:=by kernel_rfl
theorem ok_f75:Option.map (trC Tryd.prog) Tryd.f75.body=some tc_f75.er:=by kernel_rfl
theorem rok_f75:trVs Tryd.prog Tryd.f75.results.toList=some (rv_f75.map Prod.fst):=by kernel_rfl
theorem gk_f75:GOk Tryd.prog g_f75:=gok_of _ (by
 intro p hp
 simp only [List.mem_cons,List.not_mem_nil,or_false] at hp
 rcases hp with rfl
 ·exact ⟨en_f75R,ms_f75R⟩)
theorem l_f75_0 (x0:(List BlkT))(x4:Int)(y3:(List BlkT))(h:(cp1 x0 x4 y3)=true):lp_f75_0 x0 x4 y3=la_f75_0 x0 x4 y3:=by
 obtain ⟨h1,h2,h4,h5⟩:=cP_of h
 clear h
 obtain ⟨h6,h7,h8⟩:=okN_p h4
 obtain ⟨k,rfl⟩:=Int.eq_ofNat_of_zero_le h1
 refine range_ind x0 (fun k=> ∀ y3:List BlkT,y3.length<=k->lp_f75_0 x0 (k:Int) y3=la_f75_0 x0 (k:Int) y3) ?_ ?_ k (by omega) y3 (by omega)
 ·intro y3 _
  have e2:ilt (x0.length:Int) (llen x0)=false:=decide_eq_false (by simp only [llen];omega)
  rw [ln_f75_0]
  unfold n_f75_0 la_f75_0
  rw [e2,br_false,Int.toNat_natCast,List.drop_length,List.append_nil]
 ·intro k hk ih y3 hy
  obtain ⟨g1,_,g3⟩:=h8 _ (List.getElem_mem hk)
  have e2:ilt (k:Int) (llen x0)=true:=decide_eq_true (by simp only [llen];omega)
  have e3:cIx x0 (k:Int)=true:=by rw [cIx_nat];exact decide_eq_true hk
  have e5:((([]:List ByteArray)++x0[k].1),(x0[k].2.1,((List.map Blk.of (cpT (List.map Blk.un x0[k].2.2.1))),(x0[k].2.2.2.1,()))))=x0[k]:=by
   unfold cpT
   rw [map_of_unB,List.nil_append]
  rw [ln_f75_0]
  unfold n_f75_0
  rw [e2,e3,Int.toNat_natCast,lgt_get (y:=tyBlkT) hk,g3,e5,br_true,br_true,br_true,cAppN (by omega) (by simp only [List.length_nil];omega),br_true,cAppN (by omega) (by simp only [List.length_singleton];omega),br_true,add1 (k:=k),ih _ (by rw [List.length_append,List.length_singleton];omega)]
  unfold la_f75_0
  rw [Int.toNat_natCast,Int.toNat_natCast,List.drop_eq_getElem_cons hk,List.append_assoc,List.singleton_append]
theorem lo_f75_0: ∀ S l p,g_f75.L 0 (fgt fg_f75_0 S)=some (true,l)->pickA l=some p->loopF (roundF g_f75 fg_f75_0 tb_f75_0) S=some p:=
 lok_of (s:=sh_f75_0) ⟨by decide,by decide⟩ (by kernel_rfl) fun x y hok p hp=>by
 simp only [pickA_br,pickA_one] at hp
 exact (l_f75_0 x.1 x.2.2.1 y.1 (by simpa using hok)).trans hp
theorem lk_f75:tc_f75.lok g_f75:=by
 repeat (first|exact trivial|exact lo_f75_0|refine ⟨?_, ?_⟩)
theorem s_f75 (l:List BlkT)(h:okN (fuel+1) l=true):r_f75 l=some (.t (.sl tyBlkT) (cpT l),[]):=by
 refine brY (cP_in ⟨by omega,by omega,h,by show ((0:Nat):Int)<=0;omega⟩) ?_
 rw [Int.toNat_zero,List.drop_zero,List.nil_append]
 rfl
theorem mr_f75:Meets Tryd.prog 75 (runF g_f75 tc_f75 rv_f75 false):=by
 obtain ⟨c,hc,hi⟩:=Option.map_eq_some_iff.1 ok_f75
 exact meets_of (by decide) Tryd.func75 hc hi Tryd.ntmps75 rok_f75 gk_f75 lk_f75 mixed
end
theorem ma_ref07_Copy: ∀ N:Nat,Meets Tryd.prog 75 (strip (@sp_f75R ⟨N⟩))
 |0=>meets_zero fun x=>by first|rfl|simp [okN]
 |N+1=>by
  letI:Fuel:=⟨N⟩
  haveI:Nonempty (PLift (Meets Tryd.prog 75 (strip sp_f75R))):=⟨⟨ma_ref07_Copy N⟩⟩
  exact meets_spec mr_f75 fun x hok=>(e_f75 x.1).trans (s_f75 x.1 hok)
def sp_f75:Ent:=spec (.pr (.sl tyBlkT) .nil) (fun x=>(okT x.1)) (fun x=>(.t (.sl tyBlkT) (cpT x.1)))
theorem ms_f75:Meets Tryd.prog 75 (strip sp_f75):=meets_fuel ma_ref07_Copy fun x hok=>fuel_ref07_Copy x.1 hok
end
end Go.Proofs.YtkkoedniahnneaaDoor.K
set_option linter.unusedSectionVars false
namespace Go.Proofs.YtkkoedniahnneaaDoor.K
open Go.RowKit
noncomputable section
set_option linter.unusedSectionVars false
def fdX (w:ByteArray)(x:BlkT):Bool:= !x.1.isEmpty&&seq (x.1.headD (ByteArray.mk #[])) w
def fdT (l:List BlkT)(w:ByteArray):List BlkT:=l.filter (fdX w)
def fdOk (l:List BlkT)(_w:ByteArray):Bool:=okT l
def fd0 (l:List BlkT)(n k:Int)(m:List BlkT):Bool:=cP (0<=k/\k<=l.length/\n=l.length/\l.length<=100000/\m.length<=k)
theorem okB_filter {p:BlkT->Bool}: ∀ {n:Nat} {l:List BlkT},okB n l=true->okB n (l.filter p)=true
 |0,_,h=>h
 |n+1,l,h=>by
  unfold okB at h ⊢
  obtain ⟨h1,h2⟩:=Bool.and_eq_true_iff.1 h
  have h1:=of_decide_eq_true h1
  have:=List.length_filter_le p l
  refine Bool.and_eq_true_iff.2 ⟨decide_eq_true (by omega),List.all_eq_true.2 fun x hx=> ?_⟩
  exact List.all_eq_true.1 h2 x (List.mem_filter.1 hx).1
theorem okT_filter {p:BlkT->Bool}{l:List BlkT}(h:okT l=true):okT (l.filter p)=true:=by
 obtain ⟨N,h⟩:=okT_fuel h
 obtain ⟨h1,h2⟩:=okN_b h
 exact cP_in ⟨N,okN_i (okB_filter h1) h2⟩
theorem okT_len {l:List BlkT}(h:okT l=true):l.length<=100000:=by
 obtain ⟨N,h⟩:=okT_fuel h
 cases N with
 |zero=>cases (okN_b h).1
 |succ N=>exact (okN_p h).1
theorem ifz {α:Type}(l:List α):igt (llen l) 0= !l.isEmpty:=by
 cases l with
 |nil=>rfl
 |cons x l=>
  simp only [igt,llen,List.length_cons,List.isEmpty_cons]
  exact decide_eq_true (by omega)
def fg_f38_0:Fg:=⟨[(1,some .str),(5,none),(8,some (.sl tyBlkT)),(9,some tI),(10,some tI)],[(5,none),(29,none)]⟩
def tb_f38_0:TC:=(.sq (.reg [(oP 11 (.bin false .lss (.t 10) (.t 9)))]) (.sq (.cd (.t 11) .sk (.fg ⟨[(5,none)],[(5,none),(29,none)]⟩ (.ex 0))) (.sq (.bk 1 (.sq (.reg [(oP 12 (.ix 4 (.t 8) (.t 10))),(oM 13 (.ld true 4 (.t 12))),(oM 7 (.new [(.v (.slice none 0 0)),(.v (.bool false)),(.v (.slice none 0 0)),(.v (.int .i64 0))])),(.mk none none (.m (.st 4 (.t 7) (.t 13))))]) (.sq (.reg [(oP 14 (.fa 0 (.t 7))),(oL 15 14),(oP 16 (.len false (.t 15))),(oP 17 (.bin false .gtr (.t 16) (cI 0))),(oV 18 17),(oQ 19 18 true (.fa 0 (.t 7))),(oG 20 18 true (.m (.ld false 1 (.t 19)))),(oQ 21 18 true (.ix 1 (.t 20) (cI 0))),(oG 22 18 true (.m (.ld false 1 (.t 21)))),(oQ 23 18 true (.mv (.t 1))),(oQ 24 18 true (.bin false .eql (.t 22) (.t 23))),(oP 25 (.pick (.t 18) (.t 24) (cB false)))]) (.cd (.t 25) (.reg [(oV 26 5),(oM 27 (.ld true 4 (.t 7))),(oM 28 (.bs 38 4 1 [(.v (.slice none 0 0)),(.v (.bool false)),(.v (.slice none 0 0)),(.v (.int .i64 0))] [(0,4,(.t 27))])),(oM 29 (.app 38 4 64 (.t 26) (.t 28))),(oV 5 29)]) .sk)))) (.reg [(oP 30 (.bin false .add (.t 10) (cI 1))),(oV 10 30)]))))
def tc_f38:TC:=(.sq (.reg [(oP 4 (.mv (.c (.v (.slice none 0 0)))))]) (.sq (.reg [(oP 5 (.mv (.c (.v (.slice none 0 0)))))]) (.sq (.sq (.reg [(oV 8 0),(oP 9 (.len false (.t 8))),(oP 10 (.mv (cI 0)))]) (.bk 0 (.nw 5 38 (.lp 0 fg_f38_0 tb_f38_0)))) (.sq (.reg [(oV 31 5),(oC 32 74 [(.t 31)]),(oV 4 32)]) .rt))))
def rv_f38:List (RV×Option Ty):=[((.t 4),some (.sl tyBlkT))]
abbrev sh_f38_0:Sh:=⟨[(1,.ty .str),(5,.ms 5),(8,.ty (.sl tyBlkT)),(9,.ty tI),(10,.ty tI)],[(5,.arr 38 tyBlkT),(29,.no)]⟩
def st_f38_0 (x1:ByteArray)(x8:(List BlkT))(x9:Int)(x10:Int)(y5:(List BlkT)):VS:=sh_f38_0.st (x1,(),x8,x9,x10,()) (y5,(),())
abbrev sh_f38_0_e0:Sh:=⟨[(5,.ms 5)],[(5,.arr 38 tyBlkT),(29,.no)]⟩
def st_f38_0_e0 (y5:(List BlkT)):VS:=sh_f38_0_e0.st ((),()) (y5,(),())
-- loop 0: (x1 : ByteArray) (x8 : (List BlkT)) (x9 : Int) (x10 : Int) (y5 : (List BlkT)); out: ('exit', 0) (y5 : (List BlkT))
def L_f38_0:VS->Option (Bool×List (Bool×Exit×VS)):=mkL sh_f38_0 (fun x y=>(fd0 x.2.2.1 x.2.2.2.1 x.2.2.2.2.1 y.1)) (fun x y=>[(true,.exit 0,st_f38_0_e0 (y.1++fdT (x.2.2.1.drop x.2.2.2.2.1.toNat) x.1))])
def g_f38:G:=⟨TYs,[],33,EL [(74,sp_f74)],keeps,(Ls [L_f38_0]),IL [],RL []⟩
def b_f38_0 (x1:ByteArray)(x8:(List BlkT))(x9:Int)(x10:Int)(y5:(List BlkT)):Option (Exit×VS):=
 br ((ilt x10 x9))
  (br (cIx x8 x10)
   (br ((igt (llen ((lgt tyBlkT x8 (Int.toNat x10)).1)) 0))
    (br (cIx ((lgt tyBlkT x8 (Int.toNat x10)).1) 0)
     (br ((seq (lgt .str ((lgt tyBlkT x8 (Int.toNat x10)).1) (Int.toNat 0)) x1))
      (br (cApp y5 ([((lgt tyBlkT x8 (Int.toNat x10)).1,(((lgt tyBlkT x8 (Int.toNat x10)).2).1,((List.map Blk.of (List.map Blk.un ((((lgt tyBlkT x8 (Int.toNat x10)).2).2).1))),(((((lgt tyBlkT x8 (Int.toNat x10)).2).2).2).1,()))))]) 64)
       (some (.normal,st_f38_0 x1 x8 x9 (iadd .i64 x10 1) (y5++([((lgt tyBlkT x8 (Int.toNat x10)).1,(((lgt tyBlkT x8 (Int.toNat x10)).2).1,((List.map Blk.of (List.map Blk.un ((((lgt tyBlkT x8 (Int.toNat x10)).2).2).1))),(((((lgt tyBlkT x8 (Int.toNat x10)).2).2).2).1,()))))]))))
       (none))
      (some (.normal,st_f38_0 x1 x8 x9 (iadd .i64 x10 1) y5)))
     (none))
    (some (.normal,st_f38_0 x1 x8 x9 (iadd .i64 x10 1) y5)))
   (none))
  (some (.exit 0,st_f38_0_e0 y5))
noncomputable def lp_f38_0 (x1:ByteArray)(x8:(List BlkT))(x9:Int)(x10:Int)(y5:(List BlkT)):Option (Exit×VS):=loopF (roundF g_f38 fg_f38_0 tb_f38_0) (st_f38_0 x1 x8 x9 x10 y5)
noncomputable def n_f38_0 (x1:ByteArray)(x8:(List BlkT))(x9:Int)(x10:Int)(y5:(List BlkT)):Option (Exit×VS):=
 br ((ilt x10 x9))
  (br (cIx x8 x10)
   (br ((igt (llen ((lgt tyBlkT x8 (Int.toNat x10)).1)) 0))
    (br (cIx ((lgt tyBlkT x8 (Int.toNat x10)).1) 0)
     (br ((seq (lgt .str ((lgt tyBlkT x8 (Int.toNat x10)).1) (Int.toNat 0)) x1))
      (br (cApp y5 ([((lgt tyBlkT x8 (Int.toNat x10)).1,(((lgt tyBlkT x8 (Int.toNat x10)).2).1,((List.map Blk.of (List.map Blk.un ((((lgt tyBlkT x8 (Int.toNat x10)).2).2).1))),(((((lgt tyBlkT x8 (Int.toNat x10)).2).2).2).1,()))))]) 64)
       (lp_f38_0 x1 x8 x9 (iadd .i64 x10 1) (y5++([((lgt tyBlkT x8 (Int.toNat x10)).1,(((lgt tyBlkT x8 (Int.toNat x10)).2).1,((List.map Blk.of (List.map Blk.un ((((lgt tyBlkT x8 (Int.toNat x10)).2).2).1))),(((((lgt tyBlkT x8 (Int.toNat x10)).2).2).2).1,()))))])))
       (none))
      (lp_f38_0 x1 x8 x9 (iadd .i64 x10 1) y5))
     (none))
    (lp_f38_0 x1 x8 x9 (iadd .i64 x10 1) y5))
   (none))
  (some (.exit 0,st_f38_0_e0 y5))
def la_f38_0 (x1:ByteArray)(x8:(List BlkT))(x9:Int)(x10:Int)(y5:(List BlkT)):Option (Exit×VS):=some (.exit 0,st_f38_0_e0 (y5++fdT (x8.drop x10.toNat) x1))
theorem be_f38_0 (x1:ByteArray)(x8:(List BlkT))(x9:Int)(x10:Int)(y5:(List BlkT)):roundF g_f38 fg_f38_0 tb_f38_0 (st_f38_0 x1 x8 x9 x10 y5)=b_f38_0 x1 x8 x9 x10 y5:=by kernel_rfl
theorem ln_f38_0 (x1:ByteArray)(x8:(List BlkT))(x9:Int)(x10:Int)(y5:(List BlkT)):lp_f38_0 x1 x8 x9 x10 y5=n_f38_0 x1 x8 x9 x10 y5:=(loopF_nxt _ _).trans (by
 rw [be_f38_0]
 simp only [b_f38_0,n_f38_0,nxt_br,nxt_n,nxt_r,nxt_e,nxt_0]
 rfl)
def r_f38 (p0:(List BlkT))(p1:ByteArray):Option (V×List VO):=
 br ((fd0 p0 (llen p0) (0:Int) ([]:List BlkT)))
  (br ((okT (([]:List BlkT)++fdT (p0.drop (0:Int).toNat) p1)))
   (some (.t (.sl tyBlkT) (cpT (([]:List BlkT)++fdT (p0.drop (0:Int).toNat) p1)),[]))
   (none))
  (none)
theorem e_f38 (p0:(List BlkT))(p1:ByteArray):runF g_f38 tc_f38 rv_f38 false [.t (.sl tyBlkT) p0,.t .str p1] []=r_f38 p0 p1:=by kernel_rfl
theorem ok_f38:Option.map (trC Tryd.prog) Tryd.f38.body=some tc_f38.er:=by kernel_rfl
theorem rok_f38:trVs Tryd.prog Tryd.f38.results.toList=some (rv_f38.map Prod.fst):=by kernel_rfl
theorem en_f38:Entered Tryd.prog 38:= .inr ⟨by decide,_,Tryd.func38,by kernel_rfl,by kernel_rfl⟩
theorem gk_f38:GOk Tryd.prog g_f38:=gok_of _ (by
 intro p hp
 simp only [List.mem_cons,List.not_mem_nil,or_false] at hp
 rcases hp with rfl
 ·exact ⟨en_f74,ms_f74⟩)
theorem l_f38_0 (x1:ByteArray)(x8:(List BlkT))(x9:Int)(x10:Int)(y5:(List BlkT))(h:(fd0 x8 x9 x10 y5)=true):lp_f38_0 x1 x8 x9 x10 y5=la_f38_0 x1 x8 x9 x10 y5:=by
 obtain ⟨h1,h2,rfl,h4,h5⟩:=cP_of h
 clear h
 obtain ⟨k,rfl⟩:=Int.eq_ofNat_of_zero_le h1
 refine range_ind x8 (fun k=> ∀ y5:List BlkT,y5.length<=k->lp_f38_0 x1 x8 (x8.length:Int) (k:Int) y5=la_f38_0 x1 x8 (x8.length:Int) (k:Int) y5) ?_ ?_ k (by omega) y5 (by omega)
 ·intro y5 _
  have e2:ilt (x8.length:Int) (x8.length:Int)=false:=decide_eq_false (by omega)
  rw [ln_f38_0]
  unfold n_f38_0 la_f38_0
  rw [e2,br_false,Int.toNat_natCast,List.drop_length]
  unfold fdT
  rw [List.filter_nil,List.append_nil]
 ·intro k hk ih y5 hy
  have e2:ilt (k:Int) (x8.length:Int)=true:=decide_eq_true (by omega)
  have e3:cIx x8 (k:Int)=true:=by rw [cIx_nat];exact decide_eq_true hk
  have e5:(x8[k].1,(x8[k].2.1,((List.map Blk.of (List.map Blk.un x8[k].2.2.1)),(x8[k].2.2.2.1,()))))=x8[k]:=by rw [map_of_unB]
  rw [ln_f38_0]
  unfold n_f38_0
  rw [e2,e3,Int.toNat_natCast,lgt_get (y:=tyBlkT) hk,e5,br_true,br_true,cAppN (by omega) (by simp only [List.length_singleton];omega),br_true,add1 (k:=k),ih (y5++[x8[k]]) (by rw [List.length_append,List.length_singleton];omega),ih y5 (by omega),ifz]
  unfold la_f38_0 fdT
  rw [Int.toNat_natCast,Int.toNat_natCast,List.drop_eq_getElem_cons hk,List.filter_cons]
  have ef:fdX x1 x8[k]=(!x8[k].1.isEmpty&&seq (x8[k].1.headD (ByteArray.mk #[])) x1):=rfl
  cases hw:x8[k].1.isEmpty with
  |true=>
   rw [ef,hw]
   rfl
  |false=>
   have hp:0<x8[k].1.length:=by
    rcases Nat.eq_zero_or_pos x8[k].1.length with h|h
    ·rw [List.eq_nil_of_length_eq_zero h] at hw;cases hw
    ·exact h
   have e6:cIx x8[k].1 0=true:=by show cIx x8[k].1 ((0:Nat):Int)=true;rw [cIx_nat];exact decide_eq_true hp
   rw [e6,Int.toNat_zero,lgt_get (y:= .str) hp,ef,hw,headD_get hp]
   cases seq x8[k].1[0] x1 with
   |true=>
    rw [List.append_assoc,List.singleton_append]
    rfl
   |false=>rfl
theorem lo_f38_0: ∀ S l p,g_f38.L 0 (fgt fg_f38_0 S)=some (true,l)->pickA l=some p->loopF (roundF g_f38 fg_f38_0 tb_f38_0) S=some p:=
 lok_of (s:=sh_f38_0) ⟨by decide,by decide⟩ (by kernel_rfl) fun x y hok p hp=>by
 simp only [pickA_br,pickA_one] at hp
 exact (l_f38_0 x.1 x.2.2.1 x.2.2.2.1 x.2.2.2.2.1 y.1 (by simpa using hok)).trans hp
theorem lk_f38:tc_f38.lok g_f38:=by
 repeat (first|exact trivial|exact lo_f38_0|refine ⟨?_, ?_⟩)
theorem s_f38 (l:List BlkT)(w:ByteArray)(h:fdOk l w=true):r_f38 l w=some (.t (.sl tyBlkT) (fdT l w),[]):=by
 have h1:=okT_len h
 have h2:okT (fdT l w)=true:=okT_filter h
 unfold r_f38
 rw [Int.toNat_zero,List.drop_zero,List.nil_append]
 exact brY (cP_in ⟨by omega,by omega,rfl,h1,by show ((0:Nat):Int)<=0;omega⟩) (brY h2 rfl)
def sp_f38:Ent:=spec (.pr (.sl tyBlkT) (.pr .str .nil)) (fun x=>(fdOk x.1 x.2.1)) (fun x=>(.t (.sl tyBlkT) (fdT x.1 x.2.1)))
theorem ms_f38:Meets Tryd.prog 38 (strip sp_f38):=by
 obtain ⟨c,hc,hi⟩:=Option.map_eq_some_iff.1 ok_f38
 exact meets_spec (R:=runF g_f38 tc_f38 rv_f38 false) (meets_of (by decide) Tryd.func38 hc hi Tryd.ntmps38 rok_f38 gk_f38 lk_f38 mixed) fun x hok=>(e_f38 x.1 x.2.1).trans (s_f38 x.1 x.2.1 hok)
def fg_f39_0:Fg:=⟨[(0,some (.sl tyBlkT)),(1,some .str),(5,none),(6,some tI)],[(5,none),(37,none)]⟩
def tb_f39_0:TC:=(.sq (.sq (.reg [(oV 7 6),(oV 8 0),(oP 9 (.len false (.t 8))),(oP 10 (.bin false .lss (.t 7) (.t 9)))]) (.cd (.t 10) .sk (.fg ⟨[(5,none)],[(5,none),(37,none)]⟩ (.ex 0)))) (.sq (.bk 1 (.sq (.reg [(oV 13 0),(oV 14 6),(oP 15 (.ix 4 (.t 13) (.t 14))),(oP 16 (.fa 0 (.t 15))),(oL 17 16),(oP 18 (.len false (.t 17))),(oP 19 (.bin false .gtr (.t 18) (cI 0))),(oV 20 19),(oQ 21 20 true (.mv (.t 0))),(oQ 22 20 true (.mv (.t 6))),(oQ 23 20 true (.ix 4 (.t 21) (.t 22))),(oQ 24 20 true (.fa 0 (.t 23))),(oG 25 20 true (.m (.ld false 1 (.t 24)))),(oQ 26 20 true (.ix 1 (.t 25) (cI 0))),(oG 27 20 true (.m (.ld false 1 (.t 26)))),(oQ 28 20 true (.mv (.t 1))),(oQ 29 20 true (.bin false .eql (.t 27) (.t 28))),(oP 30 (.pick (.t 20) (.t 29) (cB false)))]) (.cd (.t 30) (.reg [(oV 31 5),(oV 32 0),(oV 33 6),(oP 34 (.ix 4 (.t 32) (.t 33))),(oM 35 (.ld true 4 (.t 34))),(oM 36 (.bs 38 4 1 [(.v (.slice none 0 0)),(.v (.bool false)),(.v (.slice none 0 0)),(.v (.int .i64 0))] [(0,4,(.t 35))])),(oM 37 (.app 38 4 64 (.t 31) (.t 36))),(oV 5 37)]) .sk))) (.reg [(oV 11 6),(oP 12 (.bin false .add (.t 11) (cI 1))),(oV 6 12)])))
def tc_f39:TC:=(.sq (.reg [(oP 4 (.mv (.c (.v (.slice none 0 0)))))]) (.sq (.reg [(oP 5 (.mv (.c (.v (.slice none 0 0)))))]) (.sq (.sq (.reg [(oP 6 (.mv (cI 0)))]) (.bk 0 (.nw 5 38 (.lp 0 fg_f39_0 tb_f39_0)))) (.sq (.reg [(oV 38 5),(oC 39 75 [(.t 38)]),(oV 4 39)]) .rt))))
def rv_f39:List (RV×Option Ty):=[((.t 4),some (.sl tyBlkT))]
abbrev sh_f39_0:Sh:=⟨[(0,.ty (.sl tyBlkT)),(1,.ty .str),(5,.ms 5),(6,.ty tI)],[(5,.arr 38 tyBlkT),(37,.no)]⟩
def st_f39_0 (x0:(List BlkT))(x1:ByteArray)(x6:Int)(y5:(List BlkT)):VS:=sh_f39_0.st (x0,x1,(),x6,()) (y5,(),())
abbrev sh_f39_0_e0:Sh:=⟨[(5,.ms 5)],[(5,.arr 38 tyBlkT),(37,.no)]⟩
def st_f39_0_e0 (y5:(List BlkT)):VS:=sh_f39_0_e0.st ((),()) (y5,(),())
-- loop 0: (x0 : (List BlkT)) (x1 : ByteArray) (x6 : Int) (y5 : (List BlkT)); out: ('exit', 0) (y5 : (List BlkT))
def L_f39_0:VS->Option (Bool×List (Bool×Exit×VS)):=mkL sh_f39_0 (fun x y=>(fd0 x.1 x.1.length x.2.2.2.1 y.1)) (fun x y=>[(true,.exit 0,st_f39_0_e0 (y.1++fdT (x.1.drop x.2.2.2.1.toNat) x.2.1))])
def g_f39:G:=⟨TYs,[],40,EL [(75,sp_f75)],keeps,(Ls [L_f39_0]),IL [],RL []⟩
def b_f39_0 (x0:(List BlkT))(x1:ByteArray)(x6:Int)(y5:(List BlkT)):Option (Exit×VS):=
 br ((ilt x6 (llen x0)))
  (br (cIx x0 x6)
   (br ((igt (llen ((lgt tyBlkT x0 (Int.toNat x6)).1)) 0))
    (br (cIx x0 x6)
     (br (cIx ((lgt tyBlkT x0 (Int.toNat x6)).1) 0)
      (br ((seq (lgt .str ((lgt tyBlkT x0 (Int.toNat x6)).1) (Int.toNat 0)) x1))
       (br (cIx x0 x6)
        (br (cApp y5 ([((lgt tyBlkT x0 (Int.toNat x6)).1,(((lgt tyBlkT x0 (Int.toNat x6)).2).1,((List.map Blk.of (List.map Blk.un ((((lgt tyBlkT x0 (Int.toNat x6)).2).2).1))),(((((lgt tyBlkT x0 (Int.toNat x6)).2).2).2).1,()))))]) 64)
         (some (.normal,st_f39_0 x0 x1 (iadd .i64 x6 1) (y5++([((lgt tyBlkT x0 (Int.toNat x6)).1,(((lgt tyBlkT x0 (Int.toNat x6)).2).1,((List.map Blk.of (List.map Blk.un ((((lgt tyBlkT x0 (Int.toNat x6)).2).2).1))),(((((lgt tyBlkT x0 (Int.toNat x6)).2).2).2).1,()))))]))))
         (none))
        (none))
       (some (.normal,st_f39_0 x0 x1 (iadd .i64 x6 1) y5)))
      (none))
     (none))
    (some (.normal,st_f39_0 x0 x1 (iadd .i64 x6 1) y5)))
   (none))
  (some (.exit 0,st_f39_0_e0 y5))
noncomputable def lp_f39_0 (x0:(List BlkT))(x1:ByteArray)(x6:Int)(y5:(List BlkT)):Option (Exit×VS):=loopF (roundF g_f39 fg_f39_0 tb_f39_0) (st_f39_0 x0 x1 x6 y5)
noncomputable def n_f39_0 (x0:(List BlkT))(x1:ByteArray)(x6:Int)(y5:(List BlkT)):Option (Exit×VS):=
 br ((ilt x6 (llen x0)))
  (br (cIx x0 x6)
   (br ((igt (llen ((lgt tyBlkT x0 (Int.toNat x6)).1)) 0))
    (br (cIx x0 x6)
     (br (cIx ((lgt tyBlkT x0 (Int.toNat x6)).1) 0)
      (br ((seq (lgt .str ((lgt tyBlkT x0 (Int.toNat x6)).1) (Int.toNat 0)) x1))
       (br (cIx x0 x6)
        (br (cApp y5 ([((lgt tyBlkT x0 (Int.toNat x6)).1,(((lgt tyBlkT x0 (Int.toNat x6)).2).1,((List.map Blk.of (List.map Blk.un ((((lgt tyBlkT x0 (Int.toNat x6)).2).2).1))),(((((lgt tyBlkT x0 (Int.toNat x6)).2).2).2).1,()))))]) 64)
         (lp_f39_0 x0 x1 (iadd .i64 x6 1) (y5++([((lgt tyBlkT x0 (Int.toNat x6)).1,(((lgt tyBlkT x0 (Int.toNat x6)).2).1,((List.map Blk.of (List.map Blk.un ((((lgt tyBlkT x0 (Int.toNat x6)).2).2).1))),(((((lgt tyBlkT x0 (Int.toNat x6)).2).2).2).1,()))))])))
         (none))
        (none))
       (lp_f39_0 x0 x1 (iadd .i64 x6 1) y5))
      (none))
     (none))
    (lp_f39_0 x0 x1 (iadd .i64 x6 1) y5))
   (none))
  (some (.exit 0,st_f39_0_e0 y5))
def la_f39_0 (x0:(List BlkT))(x1:ByteArray)(x6:Int)(y5:(List BlkT)):Option (Exit×VS):=some (.exit 0,st_f39_0_e0 (y5++fdT (x0.drop x6.toNat) x1))
theorem be_f39_0 (x0:(List BlkT))(x1:ByteArray)(x6:Int)(y5:(List BlkT)):roundF g_f39 fg_f39_0 tb_f39_0 (st_f39_0 x0 x1 x6 y5)=b_f39_0 x0 x1 x6 y5:=by kernel_rfl
theorem ln_f39_0 (x0:(List BlkT))(x1:ByteArray)(x6:Int)(y5:(List BlkT)):lp_f39_0 x0 x1 x6 y5=n_f39_0 x0 x1 x6 y5:=(loopF_nxt _ _).trans (by
 rw [be_f39_0]
 simp only [b_f39_0,n_f39_0,nxt_br,nxt_n,nxt_r,nxt_e,nxt_0]
 rfl)
def r_f39 (p0:(List BlkT))(p1:ByteArray):Option (V×List VO):=
 br ((fd0 p0 p0.length (0:Int) ([]:List BlkT)))
  (br ((okT (([]:List BlkT)++fdT (p0.drop (0:Int).toNat) p1)))
   (some (.t (.sl tyBlkT) (cpT (([]:List BlkT)++fdT (p0.drop (0:Int).toNat) p1)),[]))
   (none))
  (none)
theorem e_f39 (p0:(List BlkT))(p1:ByteArray):runF g_f39 tc_f39 rv_f39 false [.t (.sl tyBlkT) p0,.t .str p1] []=r_f39 p0 p1:=by kernel_rfl
theorem ok_f39:Option.map (trC Tryd.prog) Tryd.f39.body=some tc_f39.er:=by kernel_rfl
theorem rok_f39:trVs Tryd.prog Tryd.f39.results.toList=some (rv_f39.map Prod.fst):=by kernel_rfl
theorem en_f39:Entered Tryd.prog 39:= .inr ⟨by decide,_,Tryd.func39,by kernel_rfl,by kernel_rfl⟩
theorem gk_f39:GOk Tryd.prog g_f39:=gok_of _ (by
 intro p hp
 simp only [List.mem_cons,List.not_mem_nil,or_false] at hp
 rcases hp with rfl
 ·exact ⟨en_f75,ms_f75⟩)
theorem l_f39_0 (x0:(List BlkT))(x1:ByteArray)(x6:Int)(y5:(List BlkT))(h:(fd0 x0 x0.length x6 y5)=true):lp_f39_0 x0 x1 x6 y5=la_f39_0 x0 x1 x6 y5:=by
 obtain ⟨h1,h2,_,h4,h5⟩:=cP_of h
 clear h
 obtain ⟨k,rfl⟩:=Int.eq_ofNat_of_zero_le h1
 refine range_ind x0 (fun k=> ∀ y5:List BlkT,y5.length<=k->lp_f39_0 x0 x1 (k:Int) y5=la_f39_0 x0 x1 (k:Int) y5) ?_ ?_ k (by omega) y5 (by omega)
 ·intro y5 _
  have e2:ilt (x0.length:Int) (llen x0)=false:=decide_eq_false (by simp only [llen];omega)
  rw [ln_f39_0]
  unfold n_f39_0 la_f39_0
  rw [e2,br_false,Int.toNat_natCast,List.drop_length]
  unfold fdT
  rw [List.filter_nil,List.append_nil]
 ·intro k hk ih y5 hy
  have e2:ilt (k:Int) (llen x0)=true:=decide_eq_true (by simp only [llen];omega)
  have e3:cIx x0 (k:Int)=true:=by rw [cIx_nat];exact decide_eq_true hk
  have e5:(x0[k].1,(x0[k].2.1,((List.map Blk.of (List.map Blk.un x0[k].2.2.1)),(x0[k].2.2.2.1,()))))=x0[k]:=by rw [map_of_unB]
  rw [ln_f39_0]
  unfold n_f39_0
  rw [e2,e3,Int.toNat_natCast,lgt_get (y:=tyBlkT) hk,e5,cAppN (by omega) (by simp only [List.length_singleton];omega),add1 (k:=k),ih (y5++[x0[k]]) (by rw [List.length_append,List.length_singleton];omega),ih y5 (by omega),ifz]
  unfold la_f39_0 fdT
  rw [Int.toNat_natCast,Int.toNat_natCast,List.drop_eq_getElem_cons hk,List.filter_cons]
  have ef:fdX x1 x0[k]=(!x0[k].1.isEmpty&&seq (x0[k].1.headD (ByteArray.mk #[])) x1):=rfl
  cases hw:x0[k].1.isEmpty with
  |true=>
   rw [ef,hw]
   rfl
  |false=>
   have hp:0<x0[k].1.length:=by
    rcases Nat.eq_zero_or_pos x0[k].1.length with h|h
    ·rw [List.eq_nil_of_length_eq_zero h] at hw;cases hw
    ·exact h
   have e6:cIx x0[k].1 0=true:=by show cIx x0[k].1 ((0:Nat):Int)=true;rw [cIx_nat];exact decide_eq_true hp
   rw [e6,Int.toNat_zero,lgt_get (y:= .str) hp,ef,hw,headD_get hp]
   cases seq x0[k].1[0] x1 with
   |true=>
    rw [List.append_assoc,List.singleton_append]
    rfl
   |false=>rfl
theorem lo_f39_0: ∀ S l p,g_f39.L 0 (fgt fg_f39_0 S)=some (true,l)->pickA l=some p->loopF (roundF g_f39 fg_f39_0 tb_f39_0) S=some p:=
 lok_of (s:=sh_f39_0) ⟨by decide,by decide⟩ (by kernel_rfl) fun x y hok p hp=>by
 simp only [pickA_br,pickA_one] at hp
 exact (l_f39_0 x.1 x.2.1 x.2.2.2.1 y.1 (by simpa using hok)).trans hp
theorem lk_f39:tc_f39.lok g_f39:=by
 repeat (first|exact trivial|exact lo_f39_0|refine ⟨?_, ?_⟩)
theorem s_f39 (l:List BlkT)(w:ByteArray)(h:fdOk l w=true):r_f39 l w=some (.t (.sl tyBlkT) (fdT l w),[]):=by
 have h1:=okT_len h
 have h2:okT (fdT l w)=true:=okT_filter h
 unfold r_f39
 rw [Int.toNat_zero,List.drop_zero,List.nil_append]
 exact brY (cP_in ⟨by omega,by omega,rfl,h1,by show ((0:Nat):Int)<=0;omega⟩) (brY h2 rfl)
def sp_f39:Ent:=spec (.pr (.sl tyBlkT) (.pr .str .nil)) (fun x=>(fdOk x.1 x.2.1)) (fun x=>(.t (.sl tyBlkT) (fdT x.1 x.2.1)))
theorem ms_f39:Meets Tryd.prog 39 (strip sp_f39):=by
 obtain ⟨c,hc,hi⟩:=Option.map_eq_some_iff.1 ok_f39
 exact meets_spec (R:=runF g_f39 tc_f39 rv_f39 false) (meets_of (by decide) Tryd.func39 hc hi Tryd.ntmps39 rok_f39 gk_f39 lk_f39 mixed) fun x hok=>(e_f39 x.1 x.2.1).trans (s_f39 x.1 x.2.1 hok)
mutual
theorem smB_refl: ∀ b:K.Blk,smB b b=true
 |.mk ws o wi _=>by
  show (eqW ws ws&&((o==o)&&smL wi wi))=true
  rw [show eqW ws ws=true from decide_eq_true rfl,beq_self_eq_true,smL_refl wi]
  rfl
theorem smL_refl: ∀ l:List K.Blk,smL l l=true
 | []=>rfl
 |b::r=>by
  show (smB b b&&smL r r)=true
  rw [smB_refl b,smL_refl r]
  rfl
end
theorem smT_refl (l:List BlkT):smT l l=true:=smL_refl _
def slT (_ _:List BlkT):Bool:=true
def slS (n:Nat)(a b:List BlkT):Bool:=okN n a&&cP (a=b)
def slOk (a b:List BlkT):Bool:=okT a&&cP (a=b)
theorem fuel_ref07_SameLines (a b:List BlkT)(h:slOk a b=true): ∃ N,slS N a b=true:=by
 obtain ⟨h1,h2⟩:=Bool.and_eq_true_iff.1 h
 obtain ⟨N,h1⟩:=okT_fuel h1
 exact ⟨N,Bool.and_eq_true_iff.2 ⟨h1,h2⟩⟩
theorem en_f37:Entered Tryd.prog 37:= .inr ⟨by decide,_,Tryd.func37,by kernel_rfl,by kernel_rfl⟩
def sp_f37R [Fuel]:Ent:=spec (.pr (.sl tyBlkT) (.pr (.sl tyBlkT) .nil)) (fun x=>(slS fuel x.1 x.2.1)) (fun x=>(.t .bool (slT x.1 x.2.1)))
theorem en_f37R:Entered Tryd.prog 37:=en_f37
section
variable [Fuel][Nonempty (PLift (Meets Tryd.prog 37 (strip sp_f37R)))]
theorem ms_f37R:Meets Tryd.prog 37 (strip sp_f37R):=(Classical.choice (inferInstance:Nonempty (PLift (Meets Tryd.prog 37 (strip sp_f37R))))).down
def sl0 [Fuel](a b:List BlkT)(k:Int):Bool:=cP (0<=k/\k<=a.length/\a=b/\okN (fuel+1) a=true)
def dr_f37_0:List DO:=[(.mk (oV 16 0) []),(.mk (oV 17 5) []),(.mk (oP 18 (.ix 4 (.t 16) (.t 17))) [0,1]),(.mk (oP 19 (.fa 3 (.t 18))) [2]),(.mk (oL 20 19) [3]),(.mk (oV 21 1) []),(.mk (oV 22 5) []),(.mk (oP 23 (.ix 4 (.t 21) (.t 22))) [5,6]),(.mk (oP 24 (.fa 3 (.t 23))) [7]),(.mk (oL 25 24) [8]),(.mk (oP 26 (.bin false .neq (.t 20) (.t 25))) [4,9]),(.mk (oV 27 26) [10]),(.mk (oQ 28 27 false (.mv (.t 0))) [11]),(.mk (oQ 29 27 false (.mv (.t 5))) [11]),(.mk (oQ 30 27 false (.ix 4 (.t 28) (.t 29))) [12,13,11]),(.mk (oQ 31 27 false (.fa 2 (.t 30))) [14,11]),(.mk (oG 32 27 false (.m (.ld false 1 (.t 31)))) [15,11]),(.mk (oQ 33 27 false (.mv (.t 1))) [11]),(.mk (oQ 34 27 false (.mv (.t 5))) [11]),(.mk (oQ 35 27 false (.ix 4 (.t 33) (.t 34))) [17,18,11]),(.mk (oQ 36 27 false (.fa 2 (.t 35))) [19,11]),(.mk (oG 37 27 false (.m (.ld false 1 (.t 36)))) [20,11]),(.mk (oG 38 27 false (.call 37 [(.t 32),(.t 37)])) [16,21,11,11]),(.mk (oQ 39 27 false (.nt (.t 38))) [22,11]),(.mk (oP 40 (.pick (.t 27) (cB true) (.t 39))) [11,23])]
def fg_f37_0:Fg:=⟨[(0,some (.sl tyBlkT)),(1,some (.sl tyBlkT)),(5,some tI)],[]⟩
def tb_f37_0:TC:=(.sq (.sq (.reg [(oV 10 5),(oV 11 0),(oP 12 (.len false (.t 11))),(oP 13 (.bin false .lss (.t 10) (.t 12)))]) (.cd (.t 13) .sk (.fg ⟨[],[]⟩ (.ex 0)))) (.sq (.bk 1 (.sq (.dr dr_f37_0 [(0,[]),(1,[]),(2,[]),(3,[]),(4,[]),(5,[]),(6,[]),(7,[]),(8,[]),(9,[]),(10,[]),(11,[]),(12,[]),(13,[]),(14,[]),(15,[]),(16,[]),(17,[]),(18,[]),(19,[]),(20,[]),(21,[]),(22,[]),(23,[]),(24,[])] (.of [0,1,2,3,4,5,6,7,8,9,10,11,12,13,14,15,16,17,18,19,20,21,22,23,24])) (.cd (.t 40) (.sq (.reg [(oP 4 (.mv (cB false)))]) (.fg ⟨[(4,some .bool)],[]⟩ .rt)) .sk))) (.reg [(oV 14 5),(oP 15 (.bin false .add (.t 14) (cI 1))),(oV 5 15)])))
def tc_f37:TC:=(.sq (.reg [(oP 4 (.mv (cB false)))]) (.sq (.sq (.reg [(oV 6 0),(oV 7 1),(oC 8 41 [(.t 6),(.t 7)]),(oP 9 (.nt (.t 8)))]) (.cd (.t 9) (.sq (.reg [(oP 4 (.mv (cB false)))]) .rt) .sk)) (.sq (.sq (.reg [(oP 5 (.mv (cI 0)))]) (.bk 0 (.lp 0 fg_f37_0 tb_f37_0))) (.sq (.reg [(oP 4 (.mv (cB true)))]) .rt))))
def rv_f37:List (RV×Option Ty):=[((.t 4),some .bool)]
abbrev sh_f37_0:Sh:=⟨[(0,.ty (.sl tyBlkT)),(1,.ty (.sl tyBlkT)),(5,.ty tI)],[]⟩
def st_f37_0 (x0:(List BlkT))(x1:(List BlkT))(x5:Int):VS:=sh_f37_0.st (x0,x1,x5,()) ()
abbrev sh_f37_0_ret:Sh:=⟨[(4,.ty .bool)],[]⟩
def st_f37_0_ret (x4:Bool):VS:=sh_f37_0_ret.st (x4,()) ()
abbrev sh_f37_0_e0:Sh:=⟨[],[]⟩
def st_f37_0_e0  : VS:=sh_f37_0_e0.st () ()
-- loop 0: (x0 : (List BlkT)) (x1 : (List BlkT)) (x5 : Int); out: ('ret',) (x4 : Bool); ('exit', 0)
def L_f37_0:VS->Option (Bool×List (Bool×Exit×VS)):=mkL sh_f37_0 (fun x y=>(sl0 x.1 x.2.1 x.2.2.1)) (fun x y=>[((false),.ret,st_f37_0_ret (false)),(true,.exit 0,st_f37_0_e0)])
def g_f37:G:=⟨TYs,[],41,EL [(37,sp_f37R),(41,sp_f41)],keeps,(Ls [L_f37_0]),IL [],RL []⟩
def b_f37_0 (x0:(List BlkT))(x1:(List BlkT))(x5:Int):Option (Exit×VS):=
 br ((ilt x5 (llen x0)))
  (br (cIx x0 x5)
   (br (cIx x1 x5)
    (br ((ine (((((lgt tyBlkT x0 (Int.toNat x5)).2).2).2).1) (((((lgt tyBlkT x1 (Int.toNat x5)).2).2).2).1)))
     (some (.ret,st_f37_0_ret false))
     (br (cIx x0 x5)
      (br (cIx x1 x5)
       (br ((slS fuel (List.map Blk.un ((((lgt tyBlkT x0 (Int.toNat x5)).2).2).1)) (List.map Blk.un ((((lgt tyBlkT x1 (Int.toNat x5)).2).2).1))))
        (br ((!(slT (List.map Blk.un ((((lgt tyBlkT x0 (Int.toNat x5)).2).2).1)) (List.map Blk.un ((((lgt tyBlkT x1 (Int.toNat x5)).2).2).1)))))
         (some (.ret,st_f37_0_ret false))
         (some (.normal,st_f37_0 x0 x1 (iadd .i64 x5 1))))
        (none))
       (none))
      (none)))
    (none))
   (none))
  (some (.exit 0,st_f37_0_e0))
noncomputable def lp_f37_0 (x0:(List BlkT))(x1:(List BlkT))(x5:Int):Option (Exit×VS):=loopF (roundF g_f37 fg_f37_0 tb_f37_0) (st_f37_0 x0 x1 x5)
noncomputable def n_f37_0 (x0:(List BlkT))(x1:(List BlkT))(x5:Int):Option (Exit×VS):=
 br ((ilt x5 (llen x0)))
  (br (cIx x0 x5)
   (br (cIx x1 x5)
    (br ((ine (((((lgt tyBlkT x0 (Int.toNat x5)).2).2).2).1) (((((lgt tyBlkT x1 (Int.toNat x5)).2).2).2).1)))
     (some (.ret,st_f37_0_ret false))
     (br (cIx x0 x5)
      (br (cIx x1 x5)
       (br ((slS fuel (List.map Blk.un ((((lgt tyBlkT x0 (Int.toNat x5)).2).2).1)) (List.map Blk.un ((((lgt tyBlkT x1 (Int.toNat x5)).2).2).1))))
        (br ((!(slT (List.map Blk.un ((((lgt tyBlkT x0 (Int.toNat x5)).2).2).1)) (List.map Blk.un ((((lgt tyBlkT x1 (Int.toNat x5)).2).2).1)))))
         (some (.ret,st_f37_0_ret false))
         (lp_f37_0 x0 x1 (iadd .i64 x5 1)))
        (none))
       (none))
      (none)))
    (none))
   (none))
  (some (.exit 0,st_f37_0_e0))
def la_f37_0 (x0:(List BlkT))(x1:(List BlkT))(x5:Int):Option (Exit×VS):=br (false) (some (.ret,st_f37_0_ret (false)))<|some (.exit 0,st_f37_0_e0)
theorem be_f37_0 (x0:(List BlkT))(x1:(List BlkT))(x5:Int):roundF g_f37 fg_f37_0 tb_f37_0 (st_f37_0 x0 x1 x5)=b_f37_0 x0 x1 x5:=by kernel_rfl
theorem ln_f37_0 (x0:(List BlkT))(x1:(List BlkT))(x5:Int):lp_f37_0 x0 x1 x5=n_f37_0 x0 x1 x5:=(loopF_nxt _ _).trans (by
 rw [be_f37_0]
 simp only [b_f37_0,n_f37_0,nxt_br,nxt_n,nxt_r,nxt_e,nxt_0]
 rfl)
def r_f37 (p0:(List BlkT))(p1:(List BlkT)):Option (V×List VO):=
 br ((okST p0 p1))
  (br ((!(smT p0 p1)))
   (some (.t .bool false,[]))
   (br ((sl0 p0 p1 (0:Int)))
    (br ((false))
     (some (.t .bool (false),[]))
     (some (.t .bool true,[])))
    (none)))
  (none)
theorem e_f37 (p0:(List BlkT))(p1:(List BlkT)):runF g_f37 tc_f37 rv_f37 false [.t (.sl tyBlkT) p0,.t (.sl tyBlkT) p1] []=r_f37 p0 p1:=by kernel_rfl
theorem ok_f37:Option.map (trC Tryd.prog) Tryd.f37.body=some tc_f37.er:=by kernel_rfl
theorem rok_f37:trVs Tryd.prog Tryd.f37.results.toList=some (rv_f37.map Prod.fst):=by kernel_rfl
theorem gk_f37:GOk Tryd.prog g_f37:=gok_of _ (by
 intro p hp
 simp only [List.mem_cons,List.not_mem_nil,or_false] at hp
 rcases hp with rfl|rfl
 ·exact ⟨en_f37R,ms_f37R⟩
 ·exact ⟨en_f41,ms_f41⟩)
theorem l_f37_0 (x0:(List BlkT))(x1:(List BlkT))(x5:Int)(h:(sl0 x0 x1 x5)=true):lp_f37_0 x0 x1 x5=la_f37_0 x0 x1 x5:=by
 obtain ⟨h1,h2,rfl,h4⟩:=cP_of h
 clear h
 obtain ⟨h6,h7,h8⟩:=okN_p h4
 obtain ⟨k,rfl⟩:=Int.eq_ofNat_of_zero_le h1
 refine range_ind x0 (fun k=>lp_f37_0 x0 x0 (k:Int)=la_f37_0 x0 x0 (k:Int)) ?_ ?_ k (by omega)
 ·have e2:ilt (x0.length:Int) (llen x0)=false:=decide_eq_false (by simp only [llen];omega)
  rw [ln_f37_0]
  unfold n_f37_0 la_f37_0
  rw [e2,br_false]
  rfl
 ·intro k hk ih
  obtain ⟨g1,_,g3⟩:=h8 _ (List.getElem_mem hk)
  have e2:ilt (k:Int) (llen x0)=true:=decide_eq_true (by simp only [llen];omega)
  have e3:cIx x0 (k:Int)=true:=by rw [cIx_nat];exact decide_eq_true hk
  have e4:slS fuel (x0[k].2.2.1.map Blk.un) (x0[k].2.2.1.map Blk.un)=true:=Bool.and_eq_true_iff.2 ⟨g3,cP_in rfl⟩
  have e5:ine x0[k].2.2.2.1 x0[k].2.2.2.1=false:=by simp [ine]
  rw [ln_f37_0]
  simp only [n_f37_0]
  rw [e2,e3,Int.toNat_natCast,lgt_get (y:=tyBlkT) hk,e4,e5,add1 (k:=k),ih]
  rfl
theorem lo_f37_0: ∀ S l p,g_f37.L 0 (fgt fg_f37_0 S)=some (true,l)->pickA l=some p->loopF (roundF g_f37 fg_f37_0 tb_f37_0) S=some p:=
 lok_of (s:=sh_f37_0) ⟨by decide,by decide⟩ (by kernel_rfl) fun x y hok p hp=>by
 simp only [pickA_br,pickA_one] at hp
 exact (l_f37_0 x.1 x.2.1 x.2.2.1 (by simpa using hok)).trans hp
theorem lk_f37:tc_f37.lok g_f37:=by
 repeat (first|exact trivial|exact lo_f37_0|refine ⟨?_, ?_⟩)
theorem s_f37 (a b:List BlkT)(h:slS (fuel+1) a b=true):r_f37 a b=some (.t .bool (slT a b),[]):=by
 obtain ⟨h1,h2⟩:=Bool.and_eq_true_iff.1 h
 obtain rfl:=cP_of h2
 unfold r_f37
 rw [smT_refl]
 refine brY (cP_in ⟨_,h1⟩) ?_
 rw [Bool.not_true,br_false]
 exact brY (cP_in ⟨by omega,by omega,rfl,h1⟩) rfl
theorem mr_f37:Meets Tryd.prog 37 (runF g_f37 tc_f37 rv_f37 false):=by
 obtain ⟨c,hc,hi⟩:=Option.map_eq_some_iff.1 ok_f37
 exact meets_of (by decide) Tryd.func37 hc hi Tryd.ntmps37 rok_f37 gk_f37 lk_f37 mixed
end
theorem ma_ref07_SameLines: ∀ N:Nat,Meets Tryd.prog 37 (strip (@sp_f37R ⟨N⟩))
 |0=>meets_zero fun x=>by first|rfl|simp [slS]
 |N+1=>by
  letI:Fuel:=⟨N⟩
  haveI:Nonempty (PLift (Meets Tryd.prog 37 (strip sp_f37R))):=⟨⟨ma_ref07_SameLines N⟩⟩
  exact meets_spec mr_f37 fun x hok=>(e_f37 x.1 x.2.1).trans (s_f37 x.1 x.2.1 hok)
def sp_f37:Ent:=spec (.pr (.sl tyBlkT) (.pr (.sl tyBlkT) .nil)) (fun x=>(slOk x.1 x.2.1)) (fun x=>(.t .bool (slT x.1 x.2.1)))
theorem ms_f37:Meets Tryd.prog 37 (strip sp_f37):=meets_fuel ma_ref07_SameLines fun x hok=>fuel_ref07_SameLines x.1 x.2.1 hok
mutual
def szB:K.Blk->Int->Int
 |.mk ws _ wi _,d=>1+(ws.length:Int).tdiv 8+szL wi d 0
def szL:List K.Blk->Int->Int->Int
 | [],_,n=>n
 |b::r,m,n=>if n<=m then szL r m (n+szB b (m-n)) else n
end
mutual
def toB:K.Blk->Nat
 |.mk ws _ wi _=>1+ws.length+toL wi
def toL:List K.Blk->Nat
 | []=>0
 |b::r=>toB b+toL r
end
mutual
theorem szB_le: ∀ (b:K.Blk) (d:Int),0<=szB b d/\szB b d<=toB b
 |.mk ws o wi ln,d=>by
  obtain ⟨h1,h2⟩:=szL_le wi d 0 (Int.le_refl 0)
  have h3:=Int.tdiv_eq_ediv_of_nonneg (b:=8) (show (0:Int)<=(ws.length:Int) by omega)
  show 0<=1+(ws.length:Int).tdiv 8+szL wi d 0/\1+(ws.length:Int).tdiv 8+szL wi d 0<=((1+ws.length+toL wi:Nat):Int)
  rw [h3]
  omega
theorem szL_le: ∀ (l:List K.Blk) (m n:Int),0<=n->n<=szL l m n/\szL l m n<=n+toL l
 | [],m,n,h=>by
  show n<=n/\n<=n+((0:Nat):Int)
  omega
 |b::r,m,n,h=>by
  show n<=(if n<=m then szL r m (n+szB b (m-n)) else n)/\(if n<=m then szL r m (n+szB b (m-n)) else n)<=n+((toB b+toL r:Nat):Int)
  obtain ⟨h1,h2⟩:=szB_le b (m-n)
  split
  ·obtain ⟨h3,h4⟩:=szL_le r m (n+szB b (m-n)) (by omega)
   omega
  ·omega
end
def toT (l:List BlkT):Nat:=toL (l.map Blk.of)
def szA (l:List BlkT)(m n:Int):Int:=szL (l.map Blk.of) m n
def szT (l:List BlkT)(m:Int):Int:=szA l m 0
theorem toT_cons (x:BlkT)(l:List BlkT):toT (x::l)=(1+x.1.length+toT (x.2.2.1.map Blk.un))+toT l:=by
 unfold toT
 rw [map_of_unB,List.map_cons]
 rfl
theorem szA_cons (x:BlkT)(l:List BlkT)(m n:Int):szA (x::l) m n=if n<=m then szA l m (n+(1+(x.1.length:Int).tdiv 8+szT (x.2.2.1.map Blk.un) (m-n))) else n:=by
 unfold szT szA
 rw [map_of_unB,List.map_cons]
 rfl
def szS (k:Nat)(l:List BlkT)(m:Int):Bool:=okN k l&&cP (toT l<=1000000000000∧ -2000000000000<=m/\m<=2000000000000)
def sp_f30R [Fuel]:Ent:=spec (.pr (.sl tyBlkT) (.pr tI .nil)) (fun x=>(szS fuel x.1 x.2.1)) (fun x=>(.t tI (szT x.1 x.2.1)))
section
variable [Fuel][Nonempty (PLift (Meets Tryd.prog 30 (strip sp_f30R)))]
-- loop 0: (x0 : (List BlkT)) (x1 : Int) (x5 : Int) (x6 : Int); out: ('exit', 0) (x5 : Int)
end
end
end Go.Proofs.YtkkoedniahnneaaDoor.K
namespace Go.Proofs.YtkkoedniahnneaaDoor.K
open Go.RowKit
noncomputable section
set_option linter.unusedSectionVars false
theorem meets_zeroS {P:Program}{f:FuncId}{l:List SV}{os:List SO}{ok:SVt l->SOt os->Bool}{F:SVt l->SOt os->V}{O:SVt l->SOt os->List VO}(h: ∀ x y,ok x y=false):Meets P f (strip (specS l os ok F O)):=
 meets_S fun x y hok=>by rw [h x y] at hok;cases hok
theorem meets_fuelS {P:Program}{f:FuncId}{l:List SV}{os:List SO}{okN:Nat->SVt l->SOt os->Bool}{ok:SVt l->SOt os->Bool}{F:SVt l->SOt os->V}{O:SVt l->SOt os->List VO}
  (hN: ∀ N,Meets P f (strip (specS l os (okN N) F O))) (h: ∀ x y,ok x y=true→ ∃ N,okN N x y=true):Meets P f (strip (specS l os ok F O)):=by
 intro args objs r os' hF
 unfold strip specS at hF
 split at hF
 ·rename_i r' os'' hq
  split at hq
  ·rename_i x y hx hy
   simp only [Option.some.injEq,Prod.mk.injEq] at hF hq
   obtain ⟨rfl,rfl⟩:=hF
   obtain ⟨h1,rfl,rfl⟩:=hq
   obtain ⟨N,hn⟩:=h x y h1
   exact hN N args objs _ _ (by unfold strip specS;simp only [hx,hy,hn])
  ·cases hq
 ·cases hF
def escI (c:Int):List Int:=bif ieq c 34||ieq c 92 then [92,c] else [c]
theorem escI_len (c:Int):(escI c).length<=2:=by
 unfold escI
 cases ieq c 34||ieq c 92<;>simp
def escL (l:List Int):List Int:=l.flatMap escI
theorem escL_cons (c:Int)(l:List Int):escL (c::l)=escI c++escL l:=rfl
theorem escL_len: ∀ l:List Int,(escL l).length<=2*l.length
 | []=>Nat.le_refl _
 |c::l=>by
  have:=escL_len l
  have:=escI_len c
  rw [escL_cons,List.length_append,List.length_cons]
  omega
def qtI (s:ByteArray):List Int:=[34]++escL (bytesL s)++[34]
def qtF (s:ByteArray):ByteArray:=bif plnB s then s else strOf (qtI s)
def qt0 (s:ByteArray)(k:Int)(y:List Int):Bool:=cP (0<=k/\k<=s.size/\s.size<=2000000000/\y.length<=1+2*k)
def fg_f102_0:Fg:=⟨[(0,some .str),(3,none),(4,some tI)],[(3,none),(8,none),(27,none),(33,none)]⟩
def tb_f102_0:TC:=(.sq (.sq (.reg [(oV 9 4),(oV 10 0),(oP 11 (.len true (.t 10))),(oP 12 (.bin false .lss (.t 9) (.t 11)))]) (.cd (.t 12) .sk (.fg ⟨[(3,none)],[(3,none),(8,none),(27,none),(33,none)]⟩ (.ex 0)))) (.sq (.bk 1 (.sq (.sq (.reg [(oV 15 0),(oV 16 4),(oP 17 (.sx (.t 15) (.t 16))),(oP 18 (.bin false .eql (.t 17) (.c (.v (.int .u8 34))))),(oV 19 18),(oQ 20 19 false (.mv (.t 0))),(oQ 21 19 false (.mv (.t 4))),(oQ 22 19 false (.sx (.t 20) (.t 21))),(oQ 23 19 false (.bin false .eql (.t 22) (.c (.v (.int .u8 92))))),(oP 24 (.pick (.t 19) (cB true) (.t 23)))]) (.cd (.t 24) (.reg [(oV 25 3),(oM 26 (.bs 5 1 1 [(.v (.int .u8 0))] [(0,1,(.c (.v (.int .u8 92))))])),(oM 27 (.app 5 1 1 (.t 25) (.t 26))),(oV 3 27)]) .sk)) (.reg [(oV 28 3),(oV 29 0),(oV 30 4),(oP 31 (.sx (.t 29) (.t 30))),(oM 32 (.bs 5 1 1 [(.v (.int .u8 0))] [(0,1,(.t 31))])),(oM 33 (.app 5 1 1 (.t 28) (.t 32))),(oV 3 33)]))) (.reg [(oV 13 4),(oP 14 (.bin false .add (.t 13) (cI 1))),(oV 4 14)])))
def tc_f102:TC:=(.sq (.reg [(oP 2 (.mv (.c (.v (.string (ByteArray.mk #[]))))))]) (.sq (.sq (.reg [(oV 5 0),(oC 6 115 [(.t 5)])]) (.cd (.t 6) (.sq (.reg [(oV 7 0),(oV 2 7)]) .rt) .sk)) (.sq (.reg [(oM 8 (.bs 5 1 1 [(.v (.int .u8 0))] [(0,1,(.c (.v (.int .u8 34))))])),(oV 3 8)]) (.sq (.sq (.reg [(oP 4 (.mv (cI 0)))]) (.bk 0 (.nw 3 5 (.lp 0 fg_f102_0 tb_f102_0)))) (.sq (.reg [(oV 34 3),(oM 35 (.bs 5 1 1 [(.v (.int .u8 0))] [(0,1,(.c (.v (.int .u8 34))))])),(oM 36 (.app 5 1 1 (.t 34) (.t 35))),(oC 37 2440448 [(.t 36)]),(oV 2 37)]) .rt)))))
def rv_f102:List (RV×Option Ty):=[((.t 2),some .str)]
abbrev sh_f102_0:Sh:=⟨[(0,.ty .str),(3,.ms 8),(4,.ty tI)],[(3,.no),(8,.arr 5 (.int .u8)),(27,.no),(33,.no)]⟩
def st_f102_0 (x0:ByteArray)(x4:Int)(y8:(List Int)):VS:=sh_f102_0.st (x0,(),x4,()) ((),y8,(),(),())
abbrev sh_f102_0_e0:Sh:=⟨[(3,.ms 8)],[(3,.no),(8,.arr 5 (.int .u8)),(27,.no),(33,.no)]⟩
def st_f102_0_e0 (y8:(List Int)):VS:=sh_f102_0_e0.st ((),()) ((),y8,(),(),())
-- loop 0: (x0 : ByteArray) (x4 : Int) (y8 : (List Int)); out: ('exit', 0) (y8 : (List Int))
def L_f102_0:VS->Option (Bool×List (Bool×Exit×VS)):=mkL sh_f102_0 (fun x y=>(qt0 x.1 x.2.2.1 y.2.1)) (fun x y=>[(true,.exit 0,st_f102_0_e0 (y.2.1++escL ((bytesL x.1).drop x.2.2.1.toNat)))])
def g_f102:G:=⟨TYs,[8],38,EL [(115,sp_f115),(2440448,sp_op_convert_28_9)],keeps,(Ls [L_f102_0]),IL [],RL []⟩
def b_f102_0_1 (x0:ByteArray)(x4:Int)(y8:(List Int)):Option (Exit×VS):=
 br (cApp y8 ([92]) 1)
  (br (cSx x0 x4)
   (br (cApp (y8++([92])) ([(sgt x0 x4)]) 1)
    (some (.normal,st_f102_0 x0 (iadd .i64 x4 1) ((y8++([92]))++([(sgt x0 x4)]))))
    (none))
   (none))
  (none)
def b_f102_0 (x0:ByteArray)(x4:Int)(y8:(List Int)):Option (Exit×VS):=
 br ((ilt x4 (slen x0)))
  (br (cSx x0 x4)
   (br ((ieq (sgt x0 x4) 34))
    (b_f102_0_1 x0 x4 y8)
    (br (cSx x0 x4)
     (br ((ieq (sgt x0 x4) 92))
      (b_f102_0_1 x0 x4 y8)
      (br (cSx x0 x4)
       (br (cApp y8 ([(sgt x0 x4)]) 1)
        (some (.normal,st_f102_0 x0 (iadd .i64 x4 1) (y8++([(sgt x0 x4)]))))
        (none))
       (none)))
     (none)))
   (none))
  (some (.exit 0,st_f102_0_e0 y8))
noncomputable def lp_f102_0 (x0:ByteArray)(x4:Int)(y8:(List Int)):Option (Exit×VS):=loopF (roundF g_f102 fg_f102_0 tb_f102_0) (st_f102_0 x0 x4 y8)
noncomputable def n_f102_0_1 (x0:ByteArray)(x4:Int)(y8:(List Int)):Option (Exit×VS):=
 br (cApp y8 ([92]) 1)
  (br (cSx x0 x4)
   (br (cApp (y8++([92])) ([(sgt x0 x4)]) 1)
    (lp_f102_0 x0 (iadd .i64 x4 1) ((y8++([92]))++([(sgt x0 x4)])))
    (none))
   (none))
  (none)
noncomputable def n_f102_0 (x0:ByteArray)(x4:Int)(y8:(List Int)):Option (Exit×VS):=
 br ((ilt x4 (slen x0)))
  (br (cSx x0 x4)
   (br ((ieq (sgt x0 x4) 34))
    (n_f102_0_1 x0 x4 y8)
    (br (cSx x0 x4)
     (br ((ieq (sgt x0 x4) 92))
      (n_f102_0_1 x0 x4 y8)
      (br (cSx x0 x4)
       (br (cApp y8 ([(sgt x0 x4)]) 1)
        (lp_f102_0 x0 (iadd .i64 x4 1) (y8++([(sgt x0 x4)])))
        (none))
       (none)))
     (none)))
   (none))
  (some (.exit 0,st_f102_0_e0 y8))
def la_f102_0 (x0:ByteArray)(x4:Int)(y8:(List Int)):Option (Exit×VS):=some (.exit 0,st_f102_0_e0 (y8++escL ((bytesL x0).drop x4.toNat)))
theorem be_f102_0 (x0:ByteArray)(x4:Int)(y8:(List Int)):roundF g_f102 fg_f102_0 tb_f102_0 (st_f102_0 x0 x4 y8)=b_f102_0 x0 x4 y8:=by kernel_rfl
theorem ln_f102_0 (x0:ByteArray)(x4:Int)(y8:(List Int)):lp_f102_0 x0 x4 y8=n_f102_0 x0 x4 y8:=(loopF_nxt _ _).trans (by
 rw [be_f102_0]
 simp only [b_f102_0,b_f102_0_1,n_f102_0,n_f102_0_1,nxt_br,nxt_n,nxt_r,nxt_e,nxt_0]
 rfl)
def r_f102 (p0:ByteArray):Option (V×List VO):=
 br ((nameG p0))
  (br ((plnB p0))
   (some (.t .str p0,[]))
   (br ((qt0 p0 (0:Int) ([34])))
    (br (cApp (([34])++escL ((bytesL p0).drop (0:Int).toNat)) ([34]) 1)
     (some (.t .str (strOf ((([34])++escL ((bytesL p0).drop (0:Int).toNat))++([34]))),[]))
     (none))
    (none)))
  (none)
theorem e_f102 (p0:ByteArray):runF g_f102 tc_f102 rv_f102 false [.t .str p0] []=r_f102 p0:=by kernel_rfl
theorem ok_f102:Option.map (trC Tryd.prog) Tryd.f102.body=some tc_f102.er:=by kernel_rfl
theorem rok_f102:trVs Tryd.prog Tryd.f102.results.toList=some (rv_f102.map Prod.fst):=by kernel_rfl
theorem en_f102:Entered Tryd.prog 102:= .inr ⟨by decide,_,Tryd.func102,by kernel_rfl,by kernel_rfl⟩
theorem gk_f102:GOk Tryd.prog g_f102:=gok_of _ (by
 intro p hp
 simp only [List.mem_cons,List.not_mem_nil,or_false] at hp
 rcases hp with rfl|rfl
 ·exact ⟨en_f115,ms_f115⟩
 ·exact ⟨en_op_convert_28_9,ms_op_convert_28_9⟩)
theorem l_f102_0 (x0:ByteArray)(x4:Int)(y8:(List Int))(h:(qt0 x0 x4 y8)=true):lp_f102_0 x0 x4 y8=la_f102_0 x0 x4 y8:=by
 obtain ⟨h1,h2,h3,h4⟩:=cP_of h
 clear h
 obtain ⟨k,rfl⟩:=Int.eq_ofNat_of_zero_le h1
 have hl:=bytesG_len x0
 refine range_ind (bytesL x0) (fun k=> ∀ y8:List Int,y8.length<=1+2*k->lp_f102_0 x0 (k:Int) y8=la_f102_0 x0 (k:Int) y8) ?_ ?_ k (by omega) y8 (by omega)
 ·intro y8 _
  have e2:ilt ((bytesL x0).length:Int) (slen x0)=false:=decide_eq_false (by simp only [slen];omega)
  rw [ln_f102_0]
  unfold n_f102_0 la_f102_0
  rw [e2,br_false,Int.toNat_natCast,List.drop_length]
  show _=some (_,st_f102_0_e0 (y8++[]))
  rw [List.append_nil]
 ·intro k hk ih y8 hy
  have hk2:k<x0.size:=by omega
  have e2:ilt (k:Int) (slen x0)=true:=decide_eq_true (by simp only [slen];omega)
  have e3:cSx x0 (k:Int)=true:=by simp only [cSx,decide_eq_true_eq];omega
  rw [ln_f102_0]
  unfold n_f102_0 n_f102_0_1
  rw [e2,e3,sgt_get hk2,br_true,br_true,br_true,br_true,br_true,cAppN (by omega) (by simp only [List.length_singleton];omega),br_true,cAppN (by omega) (by rw [List.length_append];simp only [List.length_singleton];omega),br_true,cAppN (by omega) (by simp only [List.length_singleton];omega),br_true,add1 (k:=k),ih (y8++[92]++[(bytesL x0)[k]]) (by rw [List.length_append,List.length_append];simp only [List.length_singleton];omega),ih (y8++[(bytesL x0)[k]]) (by rw [List.length_append,List.length_singleton];omega)]
  unfold la_f102_0
  rw [Int.toNat_natCast,Int.toNat_natCast,List.drop_eq_getElem_cons hk,escL_cons]
  unfold escI
  cases ieq (bytesL x0)[k] 34<;>cases ieq (bytesL x0)[k] 92<;>simp [br_true,br_false]
theorem lo_f102_0: ∀ S l p,g_f102.L 0 (fgt fg_f102_0 S)=some (true,l)->pickA l=some p->loopF (roundF g_f102 fg_f102_0 tb_f102_0) S=some p:=
 lok_of (s:=sh_f102_0) ⟨by decide,by decide⟩ (by kernel_rfl) fun x y hok p hp=>by
 simp only [pickA_br,pickA_one] at hp
 exact (l_f102_0 x.1 x.2.2.1 y.2.1 (by simpa using hok)).trans hp
theorem lk_f102:tc_f102.lok g_f102:=by
 repeat (first|exact trivial|exact lo_f102_0|refine ⟨?_, ?_⟩)
theorem s_f102 (s:ByteArray)(h:wsz s=true):r_f102 s=some (.t .str (qtF s),[]):=by
 have h0:s.size<=2000000000:=of_decide_eq_true h
 have hl:=bytesG_len s
 have h1:=escL_len (bytesL s)
 unfold r_f102 qtF
 refine brY (decide_eq_true (by omega)) ?_
 cases plnB s with
 |true=>rfl
 |false=>
  rw [br_false]
  refine brY (cP_in ⟨by omega,by omega,h0,by simp only [List.length_singleton];omega⟩) ?_
  rw [Int.toNat_zero,List.drop_zero,cAppN (by omega) (by rw [List.length_append];simp only [List.length_singleton];omega),br_true]
  rfl
def sp_f102:Ent:=spec (.pr .str .nil) (fun x=>(wsz x.1)) (fun x=>(.t .str (qtF x.1)))
theorem ms_f102:Meets Tryd.prog 102 (strip sp_f102):=by
 obtain ⟨c,hc,hi⟩:=Option.map_eq_some_iff.1 ok_f102
 exact meets_spec (R:=runF g_f102 tc_f102 rv_f102 false) (meets_of (by decide) Tryd.func102 hc hi Tryd.ntmps102 rok_f102 gk_f102 lk_f102 mixed) fun x hok=>(e_f102 x.1).trans (s_f102 x.1 hok)
def indL (n:Nat):List Int:=List.replicate (2*n) 32
def indF (b:List Int)(n:Int):List Int:=b++indL n.toNat
def indOk (b:List Int)(n:Int):Bool:=cP (0<=n/\n<=1000000/\b.length<=50000000000)
def ind0 (n k:Int)(y:List Int):Bool:=cP (0<=k/\k<=n/\n<=1000000/\y.length<=50000000000+2*k)
def fg_f101_0:Fg:=⟨[(0,none),(1,some tI),(5,some tI)],[(0,none),(13,none),(49000,none),(50000,none)]⟩
def tb_f101_0:TC:=(.sq (.sq (.reg [(oV 6 5),(oV 7 1),(oP 8 (.bin false .lss (.t 6) (.t 7)))]) (.cd (.t 8) .sk (.fg ⟨[(0,none)],[(0,none),(13,none),(49000,none),(50000,none)]⟩ (.ex 0)))) (.sq (.bk 1 (.reg [(oV 11 0),(oM 12 (.bs 5 1 2 [(.v (.int .u8 0)),(.v (.int .u8 0))] [(0,1,(.c (.v (.int .u8 32)))),(1,1,(.c (.v (.int .u8 32))))])),(oM 13 (.app 5 1 1 (.t 11) (.t 12))),(oV 0 13)])) (.reg [(oV 9 5),(oP 10 (.bin false .add (.t 9) (cI 1))),(oV 5 10)])))
def tc_f101:TC:=(.ad [(50000,49000)] (.sq (.reg [(oP 4 (.mv (.c (.v (.slice none 0 0)))))]) (.sq (.sq (.reg [(oP 5 (.mv (cI 0)))]) (.bk 0 (.nw 0 5 (.lp 0 fg_f101_0 tb_f101_0)))) (.sq (.reg [(oV 14 0),(oV 4 14)]) .rt))))
def rv_f101:List (RV×Option Ty):=[((.t 4),none)]
abbrev sh_f101_0:Sh:=⟨[(0,.ms 49000),(1,.ty tI),(5,.ty tI)],[(0,.no),(13,.no),(49000,.arr 5 (.int .u8)),(50000,.no)]⟩
def st_f101_0 (x1:Int)(x5:Int)(y49000:(List Int)):VS:=sh_f101_0.st ((),x1,x5,()) ((),(),y49000,(),())
abbrev sh_f101_0_e0:Sh:=⟨[(0,.ms 49000)],[(0,.no),(13,.no),(49000,.arr 5 (.int .u8)),(50000,.no)]⟩
def st_f101_0_e0 (y49000:(List Int)):VS:=sh_f101_0_e0.st ((),()) ((),(),y49000,(),())
-- loop 0: (x1 : Int) (x5 : Int) (y49000 : (List Int)); out: ('exit', 0) (y49000 : (List Int))
def L_f101_0:VS->Option (Bool×List (Bool×Exit×VS)):=mkL sh_f101_0 (fun x y=>(ind0 x.2.1 x.2.2.1 y.2.2.1)) (fun x y=>[(true,.exit 0,st_f101_0_e0 (indF y.2.2.1 (x.2.1-x.2.2.1)))])
def g_f101:G:=⟨TYs,[],15,EL [],keeps,(Ls [L_f101_0]),IL [],RL []⟩
def b_f101_0 (x1:Int)(x5:Int)(y49000:(List Int)):Option (Exit×VS):=
 br ((ilt x5 x1))
  (br (cApp y49000 ([32,32]) 1)
   (some (.normal,st_f101_0 x1 (iadd .i64 x5 1) (y49000++([32,32]))))
   (none))
  (some (.exit 0,st_f101_0_e0 y49000))
noncomputable def lp_f101_0 (x1:Int)(x5:Int)(y49000:(List Int)):Option (Exit×VS):=loopF (roundF g_f101 fg_f101_0 tb_f101_0) (st_f101_0 x1 x5 y49000)
noncomputable def n_f101_0 (x1:Int)(x5:Int)(y49000:(List Int)):Option (Exit×VS):=
 br ((ilt x5 x1))
  (br (cApp y49000 ([32,32]) 1)
   (lp_f101_0 x1 (iadd .i64 x5 1) (y49000++([32,32])))
   (none))
  (some (.exit 0,st_f101_0_e0 y49000))
def la_f101_0 (x1:Int)(x5:Int)(y49000:(List Int)):Option (Exit×VS):=some (.exit 0,st_f101_0_e0 (indF y49000 (x1-x5)))
theorem be_f101_0 (x1:Int)(x5:Int)(y49000:(List Int)):roundF g_f101 fg_f101_0 tb_f101_0 (st_f101_0 x1 x5 y49000)=b_f101_0 x1 x5 y49000:=by kernel_rfl
theorem ln_f101_0 (x1:Int)(x5:Int)(y49000:(List Int)):lp_f101_0 x1 x5 y49000=n_f101_0 x1 x5 y49000:=(loopF_nxt _ _).trans (by
 rw [be_f101_0]
 simp only [b_f101_0,n_f101_0,nxt_br,nxt_n,nxt_r,nxt_e,nxt_0]
 rfl)
def r_f101 (p0:(List Int))(p1:Int):Option (V×List VO):=
 br ((ind0 p1 (0:Int) p0))
  (some (.ms 50001,[.no,.arr 5 (.int .u8) (indF p0 (p1-(0:Int)))]))
  (none)
theorem e_f101 (p0:(List Int))(p1:Int):runF g_f101 tc_f101 rv_f101 true [.ms 50000,.t tI p1] [.arr 5 (.int .u8) p0]=r_f101 p0 p1:=by kernel_rfl
theorem ok_f101:Option.map (trC Tryd.prog) Tryd.f101.body=some tc_f101.er:=by kernel_rfl
theorem rok_f101:trVs Tryd.prog Tryd.f101.results.toList=some (rv_f101.map Prod.fst):=by kernel_rfl
theorem en_f101:Entered Tryd.prog 101:= .inr ⟨by decide,_,Tryd.func101,by kernel_rfl,by kernel_rfl⟩
theorem gk_f101:GOk Tryd.prog g_f101:=gok_of _ (fun p hp=>by cases hp)
theorem l_f101_0 (x1:Int)(x5:Int)(y49000:(List Int))(h:(ind0 x1 x5 y49000)=true):lp_f101_0 x1 x5 y49000=la_f101_0 x1 x5 y49000:=by
 obtain ⟨h1,h2,h3,h4⟩:=cP_of h
 clear h
 obtain ⟨k,rfl⟩:=Int.eq_ofNat_of_zero_le h1
 obtain ⟨n,rfl⟩:=Int.eq_ofNat_of_zero_le (show 0<=x1 by omega)
 have key: ∀ (m k:Nat) (y:List Int),n=k+m->y.length<=50000000000+2*k->lp_f101_0 (n:Int) (k:Int) y=la_f101_0 (n:Int) (k:Int) y:=by
  intro m
  induction m with
  |zero=>
   intro k y hm hy
   obtain rfl:n=k:=by omega
   have e2:ilt (n:Int) (n:Int)=false:=decide_eq_false (by omega)
   rw [ln_f101_0]
   unfold n_f101_0 la_f101_0
   rw [e2,br_false,Int.sub_self]
   show _=some (_,st_f101_0_e0 (y++[]))
   rw [List.append_nil]
  |succ m ih=>
   intro k y hm hy
   have e2:ilt (k:Int) (n:Int)=true:=decide_eq_true (by omega)
   rw [ln_f101_0]
   unfold n_f101_0
   rw [e2,br_true,cAppN (by omega) (by simp only [List.length_cons,List.length_nil];omega),br_true,add1 (k:=k),ih (k+1) (y++[32,32]) (by omega) (by rw [List.length_append];simp only [List.length_cons,List.length_nil];omega)]
   unfold la_f101_0 indF indL
   rw [show ((n:Int)-((k+1:Nat):Int)).toNat=m by omega,show ((n:Int)-(k:Int)).toNat=m+1 by omega,show 2*(m+1)=2*m+1+1 by omega,List.replicate_succ,List.replicate_succ,List.append_assoc]
   rfl
 exact key (n-k) k y49000 (by omega) (by omega)
theorem lo_f101_0: ∀ S l p,g_f101.L 0 (fgt fg_f101_0 S)=some (true,l)->pickA l=some p->loopF (roundF g_f101 fg_f101_0 tb_f101_0) S=some p:=
 lok_of (s:=sh_f101_0) ⟨by decide,by decide⟩ (by kernel_rfl) fun x y hok p hp=>by
 simp only [pickA_br,pickA_one] at hp
 exact (l_f101_0 x.2.1 x.2.2.1 y.2.2.1 (by simpa using hok)).trans hp
theorem lk_f101:tc_f101.lok g_f101:=by
 repeat (first|exact trivial|exact lo_f101_0|refine ⟨?_, ?_⟩)
theorem s_f101 (b:List Int)(n:Int)(h:indOk b n=true):r_f101 b n=some (.ms 50001,[.no,.arr 5 (.int .u8) (indF b n)]):=by
 obtain ⟨h1,h2,h3⟩:=cP_of h
 unfold r_f101
 refine brY (cP_in ⟨by omega,h1,h2,by omega⟩) ?_
 rw [Int.sub_zero]
def sp_f101:Ent:=specS [.ms 50000,.ty tI] [.arr 5 (.int .u8)] (fun x y=>(indOk y.1 x.2.1)) (fun x y=>(.ms 50001)) (fun x y=>[.no,.arr 5 (.int .u8) (indF y.1 x.2.1)])
theorem ms_f101:Meets Tryd.prog 101 (strip sp_f101):=by
 obtain ⟨c,hc,hi⟩:=Option.map_eq_some_iff.1 ok_f101
 exact meets_specS (R:=runF g_f101 tc_f101 rv_f101 true) (meets_of (by decide) Tryd.func101 hc hi Tryd.ntmps101 rok_f101 gk_f101 lk_f101 mixed) fun x y hok=>(e_f101 y.1 x.2.1).trans (s_f101 y.1 x.2.1 hok)
end
end Go.Proofs.YtkkoedniahnneaaDoor.K
set_option linter.unusedSectionVars false
namespace Go.Proofs.YtkkoedniahnneaaDoor.K
open Go.RowKit
noncomputable section
set_option linter.unusedSectionVars false
def wdsT (l:List ByteArray):List Int:=l.flatMap fun w=>32::bytesL (qtF w)
def wdsL:List ByteArray->List Int
 | []=>[]
 |w::r=>bytesL (qtF w)++wdsT r
def wdsD (l:List ByteArray)(k:Nat):List Int:=if k=0 then wdsL l else wdsT (l.drop k)
theorem wdsT_cons (w:ByteArray)(l:List ByteArray):wdsT (w::l)=32::(bytesL (qtF w)++wdsT l):=rfl
theorem wdsD_end (l:List ByteArray):wdsD l l.length=[]:=by
 unfold wdsD
 split
 ·rename_i h
  rw [List.eq_nil_of_length_eq_zero h]
  rfl
 ·rw [List.drop_length]
  rfl
theorem wdsD_step {l:List ByteArray}{k:Nat}(h:k<l.length):wdsD l k=(if k=0 then [] else [32])++(bytesL (qtF l[k])++wdsD l (k+1)):=by
 unfold wdsD
 rw [if_neg (Nat.succ_ne_zero k)]
 by_cases hz:k=0
 ·subst hz
  rw [if_pos rfl,if_pos rfl]
  cases l with
  |nil=>cases h
  |cons a b=>rfl
 ·rw [if_neg hz,if_neg hz,List.drop_eq_getElem_cons h,wdsT_cons]
  rfl
mutual
def wrB:K.Blk->List Int->Nat->List Int
 |.mk ws o wi _,b,n=>bif !o then ((b++indL n)++wdsL ws)++[59,10] else (wrL wi (((b++indL n)++wdsL ws)++[32,123,10]) (n+1)++indL n)++[125,10]
def wrL:List K.Blk->List Int->Nat->List Int
 | [],b,_=>b
 |x::r,b,n=>if b.length<=16384 then wrL r (wrB x b n) n else b
end
mutual
def pnB:K.Blk->Nat->List Int
 |.mk ws o wi _,n=>(indL n++wdsL ws)++(bif !o then [59,10] else ([32,123,10]++(pnL wi (n+1)++(indL n++[125,10]))))
def pnL:List K.Blk->Nat->List Int
 | [],_=>[]
 |x::r,n=>pnB x n++pnL r n
end
mutual
theorem wrB_or: ∀ (x:K.Blk) (b:List Int) (n:Nat),wrB x b n=b++pnB x n∨(16384<(wrB x b n).length/\(wrB x b n).length<=b.length+(pnB x n).length)
 |.mk ws o wi ln,b,n=>by
  unfold wrB pnB
  cases o with
  |false=>exact .inl (by simp only [Bool.not_false,cond_true,List.append_assoc])
  |true=>
   simp only [Bool.not_true,cond_false]
   rcases wrL_or wi (((b++indL n)++wdsL ws)++[32,123,10]) (n+1) with h|⟨h1,h2⟩
   ·exact .inl (by rw [h];simp only [List.append_assoc])
   ·refine .inr ⟨?_, ?_⟩
    ·simp only [List.length_append]
     omega
    ·simp only [List.length_append] at h2 ⊢
     omega
theorem wrL_or: ∀ (l:List K.Blk) (b:List Int) (n:Nat),wrL l b n=b++pnL l n∨(16384<(wrL l b n).length/\(wrL l b n).length<=b.length+(pnL l n).length)
 | [],b,n=> .inl (List.append_nil b).symm
 |x::r,b,n=>by
  unfold wrL pnL
  by_cases hb:b.length<=16384
  ·rw [if_pos hb]
   rcases wrB_or x b n with h|⟨h1,h2⟩
   ·rcases wrL_or r (wrB x b n) n with g|⟨g1,g2⟩
    ·exact .inl (by rw [g,h,List.append_assoc])
    ·refine .inr ⟨g1, ?_⟩
     rw [h] at g2 ⊢
     simp only [List.length_append] at g2 ⊢
     omega
   ·rcases wrL_or r (wrB x b n) n with g|⟨g1,g2⟩
    ·refine .inr ?_
     rw [g]
     simp only [List.length_append]
     omega
    ·refine .inr ⟨g1, ?_⟩
     simp only [List.length_append]
     omega
  ·rw [if_neg hb]
   refine .inr ⟨by omega, ?_⟩
   simp only [List.length_append]
   omega
end
theorem wrL_le (l:List K.Blk)(b:List Int)(n:Nat):(wrL l b n).length<=b.length+(pnL l n).length:=by
 rcases wrL_or l b n with h|h
 ·rw [h,List.length_append]
  omega
 ·exact h.2
def pnT (l:List BlkT)(n:Nat):List Int:=pnL (l.map Blk.of) n
def wrF (b:List Int)(l:List BlkT)(n:Int):List Int:=wrL (l.map Blk.of) b n.toNat
def wrS (k:Nat)(b:List Int)(l:List BlkT)(n:Int):Bool:=okN k l&&cP (0<=n/\n+k<=1000001/\b.length+(pnT l n.toNat).length<=40000000000)
def wrOk (b:List Int)(l:List BlkT)(n:Int):Bool:=okT l&&cP (0<=n/\n<=1/\b.length+(pnT l n.toNat).length<=40000000000)
theorem prT_cons (x:BlkT)(l:List BlkT)(n:Nat):pnT (x::l) n=((indL n++wdsL x.1)++(bif !x.2.1 then [59,10] else ([32,123,10]++(pnT (x.2.2.1.map Blk.un) (n+1)++(indL n++[125,10])))))++pnT l n:=by
 unfold pnT
 rw [map_of_unB,List.map_cons]
 show pnB (Blk.of x) n++pnL (l.map Blk.of) n=_
 rw [show pnB (Blk.of x) n=(indL n++wdsL x.1)++(bif !x.2.1 then [59,10] else ([32,123,10]++(pnL x.2.2.1 (n+1)++(indL n++[125,10])))) from rfl]
theorem wrF_cons (b:List Int)(x:BlkT)(l:List BlkT)(n:Nat):wrF b (x::l) (n:Int)=if b.length<=16384 then wrF (bif !x.2.1 then ((b++indL n)++wdsL x.1)++[59,10] else (wrF (((b++indL n)++wdsL x.1)++[32,123,10]) (x.2.2.1.map Blk.un) ((n+1:Nat):Int)++indL n)++[125,10]) l (n:Int) else b:=by
 unfold wrF
 rw [map_of_unB,Int.toNat_natCast,Int.toNat_natCast,List.map_cons]
 rfl
theorem fuel_ref07_write (b:List Int)(l:List BlkT)(n:Int)(h:wrOk b l n=true): ∃ N,wrS N b l n=true:=by
 obtain ⟨h1,h2⟩:=Bool.and_eq_true_iff.1 h
 obtain ⟨N,h1⟩:=okT_fuel h1
 obtain ⟨h3,h4,h5⟩:=cP_of h2
 have:=(okN_b h1).2
 exact ⟨N,Bool.and_eq_true_iff.2 ⟨h1,cP_in ⟨by omega,by omega,h5⟩⟩⟩
theorem lgt_wd {l:List BlkT}{k:Nat}(hk:k<l.length):wrA l (k:Int)=l[k].1:=by show (lgt tyBlkT l _).1=_;rw [Int.toNat_natCast,lgt_get (y:=tyBlkT) hk]
def ww0 (l:List BlkT)(i j:Int)(y:List Int):Bool:=cP (cIx l i=true/\0<=j/\j<=(wrA l i).length/\(wrA l i).length<=100000/\(wrA l i).all wsz=true/\y.length+(wdsD (wrA l i) j.toNat).length<=45000000000)
theorem en_f57:Entered Tryd.prog 57:= .inr ⟨by decide,_,Tryd.func57,by kernel_rfl,by kernel_rfl⟩
def sp_f57R [Fuel]:Ent:=specS [.ms 50000,.ty (.sl tyBlkT),.ty tI] [.arr 5 (.int .u8)] (fun x y=>(wrS fuel y.1 x.2.1 x.2.2.1)) (fun x y=>(.ms 50001)) (fun x y=>[.no,.arr 5 (.int .u8) (wrF y.1 x.2.1 x.2.2.1)])
theorem en_f57R:Entered Tryd.prog 57:=en_f57
section
variable [Fuel][Nonempty (PLift (Meets Tryd.prog 57 (strip sp_f57R)))]
theorem ms_f57R:Meets Tryd.prog 57 (strip sp_f57R):=(Classical.choice (inferInstance:Nonempty (PLift (Meets Tryd.prog 57 (strip sp_f57R))))).down
def ww1 [Fuel](l:List BlkT)(n i:Int)(y:List Int):Bool:=cP (0<=i/\i<=l.length/\okN (fuel+1) l=true/\0<=n/\n+fuel+1<=1000001/\y.length+(pnT (l.drop i.toNat) n.toNat).length<=40000000000)
def fg_f57_0:Fg:=⟨[(0,none),(1,some (.sl tyBlkT)),(2,some tI),(7,some tI),(8,some tI)],[(0,none),(22,none),(37,none),(48,none),(56,none),(58,none),(67,none),(70,none),(71,none),(5022,none),(5067,none),(5070,none),(10022,none),(10067,none),(10070,none),(15022,none),(15067,none),(15070,none),(49000,none),(50000,none)]⟩
def tb_f57_0:TC:=(.sq (.sq (.reg [(oV 23 8),(oV 24 1),(oV 25 7),(oP 26 (.ix 4 (.t 24) (.t 25))),(oP 27 (.fa 0 (.t 26))),(oL 28 27),(oP 29 (.len false (.t 28))),(oP 30 (.bin false .lss (.t 23) (.t 29)))]) (.cd (.t 30) .sk (.fg ⟨[(0,none),(1,some (.sl tyBlkT)),(2,some tI),(7,some tI)],[(0,none),(22,none),(37,none),(48,none),(56,none),(58,none),(67,none),(70,none),(71,none),(5022,none),(5067,none),(5070,none),(10022,none),(10067,none),(10070,none),(15022,none),(15067,none),(15070,none),(49000,none),(50000,none)]⟩ (.ex 2)))) (.sq (.bk 3 (.sq (.sq (.reg [(oV 33 8),(oP 34 (.bin false .gtr (.t 33) (cI 0)))]) (.cd (.t 34) (.reg [(oV 35 0),(oM 36 (.bs 5 1 1 [(.v (.int .u8 0))] [(0,1,(.c (.v (.int .u8 32))))])),(oM 37 (.app 5 1 1 (.t 35) (.t 36))),(oV 0 37)]) .sk)) (.reg [(oV 38 0),(oV 39 1),(oV 40 7),(oP 41 (.ix 4 (.t 39) (.t 40))),(oP 42 (.fa 0 (.t 41))),(oL 43 42),(oV 44 8),(oP 45 (.ix 1 (.t 43) (.t 44))),(oL 46 45),(oC 47 102 [(.t 46)]),(oM 48 (.app 5 1 1 (.t 38) (.t 47))),(oV 0 48)]))) (.reg [(oV 31 8),(oP 32 (.bin false .add (.t 31) (cI 1))),(oV 8 32)])))
def fg_f57_1:Fg:=⟨[(0,none),(1,some (.sl tyBlkT)),(2,some tI),(7,some tI)],[(0,none),(22,none),(37,none),(48,none),(56,none),(58,none),(67,none),(70,none),(71,none),(5022,none),(5067,none),(5070,none),(10022,none),(10067,none),(10070,none),(15022,none),(15067,none),(15070,none),(49000,none),(50000,none)]⟩
def tb_f57_1:TC:=(.mv [(22,49000),(70,49000)] (.sq (.sq (.reg [(oV 9 7),(oV 10 1),(oP 11 (.len false (.t 10))),(oP 12 (.bin false .lss (.t 9) (.t 11))),(oV 13 12),(oQ 14 13 true (.mv (.t 0))),(oQ 15 13 true (.len false (.t 14))),(oQ 16 13 true (.bin false .leq (.t 15) (cI 16384))),(oP 17 (.pick (.t 13) (.t 16) (cB false)))]) (.cd (.t 17) .sk (.fg ⟨[(0,none)],[(0,none),(22,none),(37,none),(48,none),(56,none),(58,none),(67,none),(70,none),(71,none),(5022,none),(5067,none),(5070,none),(10022,none),(10067,none),(10070,none),(15022,none),(15067,none),(15070,none),(49000,none),(50000,none)]⟩ (.ex 0)))) (.sq (.bk 1 (.sq (.reg [(oV 20 0),(oV 21 2),(oC 22 101 [(.t 20),(.t 21)]),(oV 0 22)]) (.sq (.sq (.reg [(oP 8 (.mv (cI 0)))]) (.bk 2 (.nw 0 5 (.lp 0 fg_f57_0 tb_f57_0)))) (.sq (.sq (.reg [(oV 49 1),(oV 50 7),(oP 51 (.ix 4 (.t 49) (.t 50))),(oP 52 (.fa 1 (.t 51))),(oL 53 52),(oP 54 (.nt (.t 53)))]) (.cd (.t 54) (.sq (.reg [(oV 55 0),(oM 56 (.app 5 1 1 (.t 55) (.c (.v (.string (ByteArray.mk #[59,10])))))),(oV 0 56)]) (.fg ⟨[(0,none),(1,some (.sl tyBlkT)),(2,some tI),(7,some tI)],[(0,none),(22,none),(37,none),(48,none),(56,none),(58,none),(67,none),(70,none),(71,none),(5022,none),(5067,none),(5070,none),(10022,none),(10067,none),(10070,none),(15022,none),(15067,none),(15070,none),(49000,none),(50000,none)]⟩ (.ex 1))) .sk)) (.sq (.reg [(oV 57 0),(oM 58 (.app 5 1 1 (.t 57) (.c (.v (.string (ByteArray.mk #[32,123,10])))))),(oV 0 58)]) (.sq (.reg [(oV 59 0),(oV 60 1),(oV 61 7),(oP 62 (.ix 4 (.t 60) (.t 61))),(oP 63 (.fa 2 (.t 62))),(oL 64 63),(oV 65 2),(oP 66 (.bin false .add (.t 65) (cI 1))),(oC 67 57 [(.t 59),(.t 64),(.t 66)]),(oV 0 67)]) (.reg [(oV 68 0),(oV 69 2),(oC 70 101 [(.t 68),(.t 69)]),(oM 71 (.app 5 1 1 (.t 70) (.c (.v (.string (ByteArray.mk #[125,10])))))),(oV 0 71)]))))))) (.reg [(oV 18 7),(oP 19 (.bin false .add (.t 18) (cI 1))),(oV 7 19)]))))
def tc_f57:TC:=(.ad [(50000,49000)] (.sq (.reg [(oP 6 (.mv (.c (.v (.slice none 0 0)))))]) (.sq (.sq (.reg [(oP 7 (.mv (cI 0)))]) (.bk 0 (.nw 0 5 (.lp 1 fg_f57_1 tb_f57_1)))) (.sq (.reg [(oV 72 0),(oV 6 72)]) .rt))))
def rv_f57:List (RV×Option Ty):=[((.t 6),none)]
abbrev sh_f57_0:Sh:=⟨[(0,.ms 22),(1,.ty (.sl tyBlkT)),(2,.ty tI),(7,.ty tI),(8,.ty tI)],[(0,.no),(22,.arr 5 (.int .u8)),(37,.no),(48,.no),(56,.no),(58,.no),(67,.no),(70,.no),(71,.no),(5022,.no),(5067,.no),(5070,.no),(10022,.no),(10067,.no),(10070,.no),(15022,.no),(15067,.no),(15070,.no),(49000,.no),(50000,.no)]⟩
def st_f57_0 (x1:(List BlkT))(x2:Int)(x7:Int)(x8:Int)(y22:(List Int)):VS:=sh_f57_0.st ((),x1,x2,x7,x8,()) ((),y22,(),(),(),(),(),(),(),(),(),(),(),(),(),(),(),(),(),(),())
abbrev sh_f57_0_e2:Sh:=⟨[(0,.ms 22),(1,.ty (.sl tyBlkT)),(2,.ty tI),(7,.ty tI)],[(0,.no),(22,.arr 5 (.int .u8)),(37,.no),(48,.no),(56,.no),(58,.no),(67,.no),(70,.no),(71,.no),(5022,.no),(5067,.no),(5070,.no),(10022,.no),(10067,.no),(10070,.no),(15022,.no),(15067,.no),(15070,.no),(49000,.no),(50000,.no)]⟩
def st_f57_0_e2 (x1:(List BlkT))(x2:Int)(x7:Int)(y22:(List Int)):VS:=sh_f57_0_e2.st ((),x1,x2,x7,()) ((),y22,(),(),(),(),(),(),(),(),(),(),(),(),(),(),(),(),(),(),())
-- loop 0: (x1 : (List BlkT)) (x2 : Int) (x7 : Int) (x8 : Int) (y22 : (List Int)); out: ('exit', 2) (x1 : (List BlkT)) (x2 : Int) (x7 : Int) (y22 : (List Int))
abbrev sh_f57_1:Sh:=⟨[(0,.ms 49000),(1,.ty (.sl tyBlkT)),(2,.ty tI),(7,.ty tI)],[(0,.no),(22,.no),(37,.no),(48,.no),(56,.no),(58,.no),(67,.no),(70,.no),(71,.no),(5022,.no),(5067,.no),(5070,.no),(10022,.no),(10067,.no),(10070,.no),(15022,.no),(15067,.no),(15070,.no),(49000,.arr 5 (.int .u8)),(50000,.no)]⟩
def st_f57_1 (x1:(List BlkT))(x2:Int)(x7:Int)(y49000:(List Int)):VS:=sh_f57_1.st ((),x1,x2,x7,()) ((),(),(),(),(),(),(),(),(),(),(),(),(),(),(),(),(),(),y49000,(),())
abbrev sh_f57_1_e0:Sh:=⟨[(0,.ms 49000)],[(0,.no),(22,.no),(37,.no),(48,.no),(56,.no),(58,.no),(67,.no),(70,.no),(71,.no),(5022,.no),(5067,.no),(5070,.no),(10022,.no),(10067,.no),(10070,.no),(15022,.no),(15067,.no),(15070,.no),(49000,.arr 5 (.int .u8)),(50000,.no)]⟩
def st_f57_1_e0 (y49000:(List Int)):VS:=sh_f57_1_e0.st ((),()) ((),(),(),(),(),(),(),(),(),(),(),(),(),(),(),(),(),(),y49000,(),())
-- loop 1: (x1 : (List BlkT)) (x2 : Int) (x7 : Int) (y49000 : (List Int)); out: ('exit', 0) (y49000 : (List Int))
def L_f57_0:VS->Option (Bool×List (Bool×Exit×VS)):=mkL sh_f57_0 (fun x y=>(ww0 x.2.1 x.2.2.2.1 x.2.2.2.2.1 y.2.1)) (fun x y=>[(true,.exit 2,st_f57_0_e2 (x.2.1) (x.2.2.1) (x.2.2.2.1) (y.2.1++wdsD (wrA x.2.1 x.2.2.2.1) x.2.2.2.2.1.toNat))])
def L_f57_1:VS->Option (Bool×List (Bool×Exit×VS)):=mkL sh_f57_1 (fun x y=>(ww1 x.2.1 x.2.2.1 x.2.2.2.1 y.2.2.2.2.2.2.2.2.2.2.2.2.2.2.2.2.2.2.1)) (fun x y=>[(true,.exit 0,st_f57_1_e0 (wrF y.2.2.2.2.2.2.2.2.2.2.2.2.2.2.2.2.2.2.1 (x.2.1.drop x.2.2.2.1.toNat) x.2.2.1))])
def g_f57:G:=⟨TYs,[],73,EL [(57,sp_f57R),(101,sp_f101),(102,sp_f102)],(101::57::keeps),(Ls [L_f57_0,L_f57_1]),IL [],RL []⟩
def b_f57_0 (x1:(List BlkT))(x2:Int)(x7:Int)(x8:Int)(y22:(List Int)):Option (Exit×VS):=
 br (cIx x1 x7)
  (br ((ilt x8 (llen ((lgt tyBlkT x1 (Int.toNat x7)).1))))
   (br ((igt x8 0))
    (br (cApp y22 ([32]) 1)
     (br (cIx x1 x7)
      (br (cIx ((lgt tyBlkT x1 (Int.toNat x7)).1) x8)
       (br ((wsz (lgt .str ((lgt tyBlkT x1 (Int.toNat x7)).1) (Int.toNat x8))))
        (br (cApp (y22++([32])) (bytesL (qtF (lgt .str ((lgt tyBlkT x1 (Int.toNat x7)).1) (Int.toNat x8)))) 1)
         (some (.normal,st_f57_0 x1 x2 x7 (iadd .i64 x8 1) ((y22++([32]))++(bytesL (qtF (lgt .str ((lgt tyBlkT x1 (Int.toNat x7)).1) (Int.toNat x8)))))))
         (none))
        (none))
       (none))
      (none))
     (none))
    (br (cIx x1 x7)
     (br (cIx ((lgt tyBlkT x1 (Int.toNat x7)).1) x8)
      (br ((wsz (lgt .str ((lgt tyBlkT x1 (Int.toNat x7)).1) (Int.toNat x8))))
       (br (cApp y22 (bytesL (qtF (lgt .str ((lgt tyBlkT x1 (Int.toNat x7)).1) (Int.toNat x8)))) 1)
        (some (.normal,st_f57_0 x1 x2 x7 (iadd .i64 x8 1) (y22++(bytesL (qtF (lgt .str ((lgt tyBlkT x1 (Int.toNat x7)).1) (Int.toNat x8)))))))
        (none))
       (none))
      (none))
     (none)))
   (some (.exit 2,st_f57_0_e2 x1 x2 x7 y22)))
  (none)
noncomputable def lp_f57_0 (x1:(List BlkT))(x2:Int)(x7:Int)(x8:Int)(y22:(List Int)):Option (Exit×VS):=loopF (roundF g_f57 fg_f57_0 tb_f57_0) (st_f57_0 x1 x2 x7 x8 y22)
noncomputable def n_f57_0 (x1:(List BlkT))(x2:Int)(x7:Int)(x8:Int)(y22:(List Int)):Option (Exit×VS):=
 br (cIx x1 x7)
  (br ((ilt x8 (llen ((lgt tyBlkT x1 (Int.toNat x7)).1))))
   (br ((igt x8 0))
    (br (cApp y22 ([32]) 1)
     (br (cIx x1 x7)
      (br (cIx ((lgt tyBlkT x1 (Int.toNat x7)).1) x8)
       (br ((wsz (lgt .str ((lgt tyBlkT x1 (Int.toNat x7)).1) (Int.toNat x8))))
        (br (cApp (y22++([32])) (bytesL (qtF (lgt .str ((lgt tyBlkT x1 (Int.toNat x7)).1) (Int.toNat x8)))) 1)
         (lp_f57_0 x1 x2 x7 (iadd .i64 x8 1) ((y22++([32]))++(bytesL (qtF (lgt .str ((lgt tyBlkT x1 (Int.toNat x7)).1) (Int.toNat x8))))))
         (none))
        (none))
       (none))
      (none))
     (none))
    (br (cIx x1 x7)
     (br (cIx ((lgt tyBlkT x1 (Int.toNat x7)).1) x8)
      (br ((wsz (lgt .str ((lgt tyBlkT x1 (Int.toNat x7)).1) (Int.toNat x8))))
       (br (cApp y22 (bytesL (qtF (lgt .str ((lgt tyBlkT x1 (Int.toNat x7)).1) (Int.toNat x8)))) 1)
        (lp_f57_0 x1 x2 x7 (iadd .i64 x8 1) (y22++(bytesL (qtF (lgt .str ((lgt tyBlkT x1 (Int.toNat x7)).1) (Int.toNat x8))))))
        (none))
       (none))
      (none))
     (none)))
   (some (.exit 2,st_f57_0_e2 x1 x2 x7 y22)))
  (none)
def la_f57_0 (x1:(List BlkT))(x2:Int)(x7:Int)(x8:Int)(y22:(List Int)):Option (Exit×VS):=some (.exit 2,st_f57_0_e2 (x1) (x2) (x7) (y22++wdsD (wrA x1 x7) x8.toNat))
theorem be_f57_0 (x1:(List BlkT))(x2:Int)(x7:Int)(x8:Int)(y22:(List Int)):roundF g_f57 fg_f57_0 tb_f57_0 (st_f57_0 x1 x2 x7 x8 y22)=b_f57_0 x1 x2 x7 x8 y22:=by kernel_rfl
theorem ln_f57_0 (x1:(List BlkT))(x2:Int)(x7:Int)(x8:Int)(y22:(List Int)):lp_f57_0 x1 x2 x7 x8 y22=n_f57_0 x1 x2 x7 x8 y22:=(loopF_nxt _ _).trans (by
 rw [be_f57_0]
 simp only [b_f57_0,n_f57_0,nxt_br,nxt_n,nxt_r,nxt_e,nxt_0]
 rfl)
def b_f57_1 (x1:(List BlkT))(x2:Int)(x7:Int)(y49000:(List Int)):Option (Exit×VS):=
 br ((ilt x7 (llen x1)))
  (br ((ile (llen y49000) 16384))
   (br ((indOk y49000 x2))
    (br ((ww0 x1 x7 (0:Int) (indF y49000 x2)))
     (br (cIx (x1) (x7))
      (br ((!(((lgt tyBlkT (x1) (Int.toNat (x7))).2).1)))
       (br (cApp ((indF y49000 x2)++wdsD (wrA x1 x7) (0:Int).toNat) (bytesL (ByteArray.mk #[59,10])) 1)
        (some (.normal,st_f57_1 (x1) (x2) (iadd .i64 (x7) 1) (((indF y49000 x2)++wdsD (wrA x1 x7) (0:Int).toNat)++(bytesL (ByteArray.mk #[59,10])))))
        (none))
       (br (cApp ((indF y49000 x2)++wdsD (wrA x1 x7) (0:Int).toNat) (bytesL (ByteArray.mk #[32,123,10])) 1)
        (br (cIx (x1) (x7))
         (br ((wrS fuel (((indF y49000 x2)++wdsD (wrA x1 x7) (0:Int).toNat)++(bytesL (ByteArray.mk #[32,123,10]))) (List.map Blk.un ((((lgt tyBlkT (x1) (Int.toNat (x7))).2).2).1)) (iadd .i64 (x2) 1)))
          (br ((indOk (wrF (((indF y49000 x2)++wdsD (wrA x1 x7) (0:Int).toNat)++(bytesL (ByteArray.mk #[32,123,10]))) (List.map Blk.un ((((lgt tyBlkT (x1) (Int.toNat (x7))).2).2).1)) (iadd .i64 (x2) 1)) (x2)))
           (br (cApp (indF (wrF (((indF y49000 x2)++wdsD (wrA x1 x7) (0:Int).toNat)++(bytesL (ByteArray.mk #[32,123,10]))) (List.map Blk.un ((((lgt tyBlkT (x1) (Int.toNat (x7))).2).2).1)) (iadd .i64 (x2) 1)) (x2)) (bytesL (ByteArray.mk #[125,10])) 1)
            (some (.normal,st_f57_1 (x1) (x2) (iadd .i64 (x7) 1) ((indF (wrF (((indF y49000 x2)++wdsD (wrA x1 x7) (0:Int).toNat)++(bytesL (ByteArray.mk #[32,123,10]))) (List.map Blk.un ((((lgt tyBlkT (x1) (Int.toNat (x7))).2).2).1)) (iadd .i64 (x2) 1)) (x2))++(bytesL (ByteArray.mk #[125,10])))))
            (none))
           (none))
          (none))
         (none))
        (none)))
      (none))
     (none))
    (none))
   (some (.exit 0,st_f57_1_e0 y49000)))
  (some (.exit 0,st_f57_1_e0 y49000))
noncomputable def lp_f57_1 (x1:(List BlkT))(x2:Int)(x7:Int)(y49000:(List Int)):Option (Exit×VS):=loopF (roundF g_f57 fg_f57_1 tb_f57_1) (st_f57_1 x1 x2 x7 y49000)
noncomputable def n_f57_1 (x1:(List BlkT))(x2:Int)(x7:Int)(y49000:(List Int)):Option (Exit×VS):=
 br ((ilt x7 (llen x1)))
  (br ((ile (llen y49000) 16384))
   (br ((indOk y49000 x2))
    (br ((ww0 x1 x7 (0:Int) (indF y49000 x2)))
     (br (cIx (x1) (x7))
      (br ((!(((lgt tyBlkT (x1) (Int.toNat (x7))).2).1)))
       (br (cApp ((indF y49000 x2)++wdsD (wrA x1 x7) (0:Int).toNat) (bytesL (ByteArray.mk #[59,10])) 1)
        (lp_f57_1 (x1) (x2) (iadd .i64 (x7) 1) (((indF y49000 x2)++wdsD (wrA x1 x7) (0:Int).toNat)++(bytesL (ByteArray.mk #[59,10]))))
        (none))
       (br (cApp ((indF y49000 x2)++wdsD (wrA x1 x7) (0:Int).toNat) (bytesL (ByteArray.mk #[32,123,10])) 1)
        (br (cIx (x1) (x7))
         (br ((wrS fuel (((indF y49000 x2)++wdsD (wrA x1 x7) (0:Int).toNat)++(bytesL (ByteArray.mk #[32,123,10]))) (List.map Blk.un ((((lgt tyBlkT (x1) (Int.toNat (x7))).2).2).1)) (iadd .i64 (x2) 1)))
          (br ((indOk (wrF (((indF y49000 x2)++wdsD (wrA x1 x7) (0:Int).toNat)++(bytesL (ByteArray.mk #[32,123,10]))) (List.map Blk.un ((((lgt tyBlkT (x1) (Int.toNat (x7))).2).2).1)) (iadd .i64 (x2) 1)) (x2)))
           (br (cApp (indF (wrF (((indF y49000 x2)++wdsD (wrA x1 x7) (0:Int).toNat)++(bytesL (ByteArray.mk #[32,123,10]))) (List.map Blk.un ((((lgt tyBlkT (x1) (Int.toNat (x7))).2).2).1)) (iadd .i64 (x2) 1)) (x2)) (bytesL (ByteArray.mk #[125,10])) 1)
            (lp_f57_1 (x1) (x2) (iadd .i64 (x7) 1) ((indF (wrF (((indF y49000 x2)++wdsD (wrA x1 x7) (0:Int).toNat)++(bytesL (ByteArray.mk #[32,123,10]))) (List.map Blk.un ((((lgt tyBlkT (x1) (Int.toNat (x7))).2).2).1)) (iadd .i64 (x2) 1)) (x2))++(bytesL (ByteArray.mk #[125,10]))))
            (none))
           (none))
          (none))
         (none))
        (none)))
      (none))
     (none))
    (none))
   (some (.exit 0,st_f57_1_e0 y49000)))
  (some (.exit 0,st_f57_1_e0 y49000))
def la_f57_1 (x1:(List BlkT))(x2:Int)(x7:Int)(y49000:(List Int)):Option (Exit×VS):=some (.exit 0,st_f57_1_e0 (wrF y49000 (x1.drop x7.toNat) x2))
theorem be_f57_1 (x1:(List BlkT))(x2:Int)(x7:Int)(y49000:(List Int)):roundF g_f57 fg_f57_1 tb_f57_1 (st_f57_1 x1 x2 x7 y49000)=b_f57_1 x1 x2 x7 y49000:=by kernel_rfl
theorem ln_f57_1 (x1:(List BlkT))(x2:Int)(x7:Int)(y49000:(List Int)):lp_f57_1 x1 x2 x7 y49000=n_f57_1 x1 x2 x7 y49000:=(loopF_nxt _ _).trans (by
 rw [be_f57_1]
 simp only [b_f57_1,n_f57_1,nxt_br,nxt_n,nxt_r,nxt_e,nxt_0]
 rfl)
def r_f57 (p0:(List Int))(p1:(List BlkT))(p2:Int):Option (V×List VO):=
 br ((ww1 p1 p2 (0:Int) p0))
  (some (.ms 50001,[.no,.arr 5 (.int .u8) (wrF p0 (p1.drop (0:Int).toNat) p2)]))
  (none)
theorem e_f57 (p0:(List Int))(p1:(List BlkT))(p2:Int):runF g_f57 tc_f57 rv_f57 true [.ms 50000,.t (.sl tyBlkT) p1,.t tI p2] [.arr 5 (.int .u8) p0]=r_f57 p0 p1 p2:=by kernel_rfl
theorem ok_f57:Option.map (trC Tryd.prog) Tryd.f57.body=some tc_f57.er:=by kernel_rfl
theorem rok_f57:trVs Tryd.prog Tryd.f57.results.toList=some (rv_f57.map Prod.fst):=by kernel_rfl
theorem gk_f57:GOk Tryd.prog g_f57:=gok_of _ (by
 intro p hp
 simp only [List.mem_cons,List.not_mem_nil,or_false] at hp
 rcases hp with rfl|rfl|rfl
 ·exact ⟨en_f57R,ms_f57R⟩
 ·exact ⟨en_f101,ms_f101⟩
 ·exact ⟨en_f102,ms_f102⟩)
theorem l_f57_0 (x1:(List BlkT))(x2:Int)(x7:Int)(x8:Int)(y22:(List Int))(h:(ww0 x1 x7 x8 y22)=true):lp_f57_0 x1 x2 x7 x8 y22=la_f57_0 x1 x2 x7 x8 y22:=by
 obtain ⟨h1,h2,h3,h4,h5,h6⟩:=cP_of h
 clear h
 obtain ⟨k,rfl⟩:=Int.eq_ofNat_of_zero_le h2
 rw [Int.toNat_natCast] at h6
 refine range_ind (wrA x1 x7) (fun k=> ∀ y22:List Int,y22.length+(wdsD (wrA x1 x7) k).length<=45000000000->lp_f57_0 x1 x2 x7 (k:Int) y22=la_f57_0 x1 x2 x7 (k:Int) y22) ?_ ?_ k (by omega) y22 h6
 ·intro y22 _
  have e2:ilt ((wrA x1 x7).length:Int) (llen (wrA x1 x7))=false:=decide_eq_false (by simp only [llen];omega)
  rw [ln_f57_0]
  unfold n_f57_0 la_f57_0
  rw [h1,br_true,e2,br_false,Int.toNat_natCast,wdsD_end,List.append_nil]
 ·intro k hk ih y22 hy
  rw [wdsD_step hk,List.length_append,List.length_append] at hy
  have e2:ilt (k:Int) (llen (wrA x1 x7))=true:=decide_eq_true (by simp only [llen];omega)
  have e3:cIx (wrA x1 x7) (k:Int)=true:=by rw [cIx_nat];exact decide_eq_true hk
  have e4:lgt .str (wrA x1 x7) (k:Int).toNat=(wrA x1 x7)[k]:=by rw [Int.toNat_natCast,lgt_get (y:= .str) hk]
  have hs:wsz (wrA x1 x7)[k]=true:=List.all_eq_true.1 h5 _ (List.getElem_mem hk)
  rw [ln_f57_0]
  unfold n_f57_0
  unfold la_f57_0 at ih ⊢
  rw [h1,br_true,e2,br_true,e4,hs,e3,br_true,br_true,br_true,br_true,add1 (k:=k),Int.toNat_natCast,wdsD_step hk]
  by_cases hz:k=0
  ·have e5:igt (k:Int) 0=false:=decide_eq_false (by omega)
   rw [if_pos hz] at hy ⊢
   simp only [List.length_nil] at hy
   rw [e5,br_false,br_true,br_true,cAppN (by omega) (by omega),br_true,ih _ (by rw [List.length_append];omega),Int.toNat_natCast,List.nil_append,List.append_assoc]
  ·have e5:igt (k:Int) 0=true:=decide_eq_true (by omega)
   rw [if_neg hz] at hy ⊢
   simp only [List.length_singleton] at hy
   rw [e5,br_true,cAppN (by omega) (by simp only [List.length_singleton];omega),br_true,cAppN (by omega) (by rw [List.length_append,List.length_singleton];omega),br_true,ih _ (by rw [List.length_append,List.length_append,List.length_singleton];omega),Int.toNat_natCast,List.append_assoc,List.append_assoc]
theorem l_f57_1 (x1:(List BlkT))(x2:Int)(x7:Int)(y49000:(List Int))(h:(ww1 x1 x2 x7 y49000)=true):lp_f57_1 x1 x2 x7 y49000=la_f57_1 x1 x2 x7 y49000:=by
 obtain ⟨h1,h2,h3,h4,h5,h6⟩:=cP_of h
 clear h
 obtain ⟨g6,g7,g8⟩:=okN_p h3
 obtain ⟨k,rfl⟩:=Int.eq_ofNat_of_zero_le h1
 obtain ⟨n,rfl⟩:=Int.eq_ofNat_of_zero_le h4
 rw [Int.toNat_natCast,Int.toNat_natCast] at h6
 refine range_ind x1 (fun k=> ∀ y:List Int,y.length+(pnT (x1.drop k) n).length<=40000000000->lp_f57_1 x1 (n:Int) (k:Int) y=la_f57_1 x1 (n:Int) (k:Int) y) ?_ ?_ k (by omega) y49000 h6
 ·intro y _
  have e2:ilt (x1.length:Int) (llen x1)=false:=decide_eq_false (by simp only [llen];omega)
  rw [ln_f57_1]
  unfold n_f57_1 la_f57_1
  rw [e2,br_false,Int.toNat_natCast,List.drop_length]
  rfl
 ·intro k hk ih y hy
  obtain ⟨w1,w2,w3⟩:=g8 _ (List.getElem_mem hk)
  rw [List.drop_eq_getElem_cons hk,prT_cons] at hy
  simp only [List.length_append] at hy
  have e2:ilt (k:Int) (llen x1)=true:=decide_eq_true (by simp only [llen];omega)
  have e3:cIx x1 (k:Int)=true:=by rw [cIx_nat];exact decide_eq_true hk
  have ew:=lgt_wd hk
  rw [ln_f57_1]
  simp only [n_f57_1]
  unfold la_f57_1 at ih ⊢
  rw [Int.toNat_natCast,List.drop_eq_getElem_cons hk,wrF_cons]
  by_cases hb:y.length<=16384
  ·have e4:ile (llen y) 16384=true:=decide_eq_true (by simp only [llen];omega)
   have e5:indOk y (n:Int)=true:=cP_in ⟨by omega,by omega,by omega⟩
   have e6:indF y (n:Int)=y++indL n:=by unfold indF;rw [Int.toNat_natCast]
   have e7:ww0 x1 (k:Int) 0 (y++indL n)=true:=cP_in ⟨e3,by omega,by omega,by rw [ew];exact w1,by rw [ew];exact w2,by
    rw [ew,Int.toNat_zero,List.length_append]
    show _+(wdsL x1[k].1).length<=_
    omega⟩
   have e8:wdsD (wrA x1 (k:Int)) 0=wdsL x1[k].1:=by rw [ew];rfl
   rw [e2,br_true,e4,br_true,e5,br_true,e6,e7,br_true,Int.toNat_zero,e8,e3,br_true,lgt_get (y:=tyBlkT) hk,if_pos hb]
   have q1:bytesL (ByteArray.mk #[59,10])=[59,10]:=by kernel_rfl
   have q2:bytesL (ByteArray.mk #[32,123,10])=[32,123,10]:=by kernel_rfl
   have q3:bytesL (ByteArray.mk #[125,10])=[125,10]:=by kernel_rfl
   rw [q1,q2,q3,add1 (k:=k),add1 (k:=n)]
   cases ho:x1[k].2.1 with
   |false=>
    rw [ho] at hy
    simp only [Bool.not_false,cond_true,List.length_cons,List.length_nil] at hy
    rw [Bool.not_false,br_true,cond_true,cAppN (by omega) (by simp only [List.length_append,List.length_cons,List.length_nil];omega),br_true,ih _ (by simp only [List.length_append,List.length_cons,List.length_nil];omega),Int.toNat_natCast]
   |true=>
    rw [ho] at hy
    simp only [Bool.not_true,cond_false,List.length_append,List.length_cons,List.length_nil] at hy
    have hw:=wrL_le ((x1[k].2.2.1.map Blk.un).map Blk.of) (y++indL n++wdsL x1[k].1++[32,123,10]) (n+1)
    have hw:(wrF (y++indL n++wdsL x1[k].1++[32,123,10]) (x1[k].2.2.1.map Blk.un) ((n+1:Nat):Int)).length<=(y++indL n++wdsL x1[k].1++[32,123,10]).length+(pnT (x1[k].2.2.1.map Blk.un) (n+1)).length:=by
     unfold wrF
     rw [Int.toNat_natCast]
     exact hw
    have u1:wrS fuel (y++indL n++wdsL x1[k].1++[32,123,10]) (x1[k].2.2.1.map Blk.un) ((n+1:Nat):Int)=true:=by
     refine Bool.and_eq_true_iff.2 ⟨w3,cP_in ⟨by omega,by omega, ?_⟩⟩
     rw [Int.toNat_natCast]
     simp only [List.length_append,List.length_cons,List.length_nil]
     omega
    generalize hW:wrF (y++indL n++wdsL x1[k].1++[32,123,10]) (x1[k].2.2.1.map Blk.un) ((n+1:Nat):Int)=W at hw ⊢
    simp only [List.length_append,List.length_cons,List.length_nil] at hw
    have u2:indOk W (n:Int)=true:=cP_in ⟨by omega,by omega,by omega⟩
    have u3:indF W (n:Int)=W++indL n:=by unfold indF;rw [Int.toNat_natCast]
    rw [Bool.not_true,br_false,cond_false,cAppN (by omega) (by simp only [List.length_append,List.length_cons,List.length_nil];omega),br_true,br_true,u1,br_true,u2,br_true,u3,cAppN (by omega) (by simp only [List.length_append,List.length_cons,List.length_nil];omega),br_true,ih _ (by simp only [List.length_append,List.length_cons,List.length_nil];omega),Int.toNat_natCast]
  ·have e4:ile (llen y) 16384=false:=decide_eq_false (by simp only [llen];omega)
   rw [e2,br_true,e4,br_false,if_neg hb]
theorem lo_f57_0: ∀ S l p,g_f57.L 0 (fgt fg_f57_0 S)=some (true,l)->pickA l=some p->loopF (roundF g_f57 fg_f57_0 tb_f57_0) S=some p:=
 lok_of (s:=sh_f57_0) ⟨by decide,by decide⟩ (by kernel_rfl) fun x y hok p hp=>by
 simp only [pickA_br,pickA_one] at hp
 exact (l_f57_0 x.2.1 x.2.2.1 x.2.2.2.1 x.2.2.2.2.1 y.2.1 (by simpa using hok)).trans hp
theorem lo_f57_1: ∀ S l p,g_f57.L 1 (fgt fg_f57_1 S)=some (true,l)->pickA l=some p->loopF (roundF g_f57 fg_f57_1 tb_f57_1) S=some p:=
 lok_of (s:=sh_f57_1) ⟨by decide,by decide⟩ (by kernel_rfl) fun x y hok p hp=>by
 simp only [pickA_br,pickA_one] at hp
 exact (l_f57_1 x.2.1 x.2.2.1 x.2.2.2.1 y.2.2.2.2.2.2.2.2.2.2.2.2.2.2.2.2.2.2.1 (by simpa using hok)).trans hp
theorem lk_f57:tc_f57.lok g_f57:=by
 repeat (first|exact trivial|exact lo_f57_0|exact lo_f57_1|refine ⟨?_, ?_⟩)
theorem s_f57 (b:List Int)(l:List BlkT)(n:Int)(h:wrS (fuel+1) b l n=true):r_f57 b l n=some (.ms 50001,[.no,.arr 5 (.int .u8) (wrF b l n)]):=by
 obtain ⟨h1,h2⟩:=Bool.and_eq_true_iff.1 h
 obtain ⟨h2,h3,h4⟩:=cP_of h2
 unfold r_f57
 refine brY (cP_in ⟨by omega,by omega,h1,h2,by omega,by rw [Int.toNat_zero,List.drop_zero];omega⟩) ?_
 rw [Int.toNat_zero,List.drop_zero]
theorem mr_f57:Meets Tryd.prog 57 (runF g_f57 tc_f57 rv_f57 true):=by
 obtain ⟨c,hc,hi⟩:=Option.map_eq_some_iff.1 ok_f57
 exact meets_of (by decide) Tryd.func57 hc hi Tryd.ntmps57 rok_f57 gk_f57 lk_f57 mixed
end
theorem ma_ref07_write: ∀ N:Nat,Meets Tryd.prog 57 (strip (@sp_f57R ⟨N⟩))
 |0=>meets_zeroS fun x y=>by first|rfl|simp [wrS]
 |N+1=>by
  letI:Fuel:=⟨N⟩
  haveI:Nonempty (PLift (Meets Tryd.prog 57 (strip sp_f57R))):=⟨⟨ma_ref07_write N⟩⟩
  exact meets_specS mr_f57 fun x y hok=>(e_f57 y.1 x.2.1 x.2.2.1).trans (s_f57 y.1 x.2.1 x.2.2.1 hok)
def sp_f57:Ent:=specS [.ms 50000,.ty (.sl tyBlkT),.ty tI] [.arr 5 (.int .u8)] (fun x y=>(wrOk y.1 x.2.1 x.2.2.1)) (fun x y=>(.ms 50001)) (fun x y=>[.no,.arr 5 (.int .u8) (wrF y.1 x.2.1 x.2.2.1)])
theorem ms_f57:Meets Tryd.prog 57 (strip sp_f57):=meets_fuelS ma_ref07_write fun x y hok=>fuel_ref07_write y.1 x.2.1 x.2.2.1 hok
theorem okT_p {l:List BlkT}(h:okT l=true):l.length<=100000∧ ∀ x∈l,x.1.length<=100000/\x.1.all wsz=true/\okT (x.2.2.1.map Blk.un)=true:=by
 obtain ⟨N,h⟩:=okT_fuel h
 cases N with
 |zero=>cases (okN_b h).1
 |succ N=>
  obtain ⟨h1,_,h3⟩:=okN_p h
  exact ⟨h1,fun x hx=>⟨(h3 x hx).1,(h3 x hx).2.1,cP_in ⟨N,(h3 x hx).2.2⟩⟩⟩
def wrN (l:List BlkT)(n:Int):List Int:=wrF [] l n
def wrNOk (l:List BlkT)(n:Int):Bool:=okT l&&cP (n=0/\(pnT l n.toNat).length<=40000000000)
def ww2 (l:List BlkT)(n i:Int)(y:List Int):Bool:=cP (0<=i/\i<=l.length/\okT l=true/\n=0/\y.length+(pnT (l.drop i.toNat) n.toNat).length<=40000000000)
def fg_f57N_0:Fg:=⟨[(0,none),(1,some (.sl tyBlkT)),(2,some tI),(7,some tI),(8,some tI)],[(0,none),(22,none),(37,none),(48,none),(56,none),(58,none),(67,none),(70,none),(71,none),(5022,none),(5067,none),(5070,none),(10022,none),(10067,none),(10070,none),(15022,none),(15067,none),(15070,none)]⟩
def tb_f57N_0:TC:=(.sq (.sq (.reg [(oV 23 8),(oV 24 1),(oV 25 7),(oP 26 (.ix 4 (.t 24) (.t 25))),(oP 27 (.fa 0 (.t 26))),(oL 28 27),(oP 29 (.len false (.t 28))),(oP 30 (.bin false .lss (.t 23) (.t 29)))]) (.cd (.t 30) .sk (.fg ⟨[(0,none),(1,some (.sl tyBlkT)),(2,some tI),(7,some tI)],[(0,none),(22,none),(37,none),(48,none),(56,none),(58,none),(67,none),(70,none),(71,none),(5022,none),(5067,none),(5070,none),(10022,none),(10067,none),(10070,none),(15022,none),(15067,none),(15070,none)]⟩ (.ex 2)))) (.sq (.bk 3 (.sq (.sq (.reg [(oV 33 8),(oP 34 (.bin false .gtr (.t 33) (cI 0)))]) (.cd (.t 34) (.reg [(oV 35 0),(oM 36 (.bs 5 1 1 [(.v (.int .u8 0))] [(0,1,(.c (.v (.int .u8 32))))])),(oM 37 (.app 5 1 1 (.t 35) (.t 36))),(oV 0 37)]) .sk)) (.reg [(oV 38 0),(oV 39 1),(oV 40 7),(oP 41 (.ix 4 (.t 39) (.t 40))),(oP 42 (.fa 0 (.t 41))),(oL 43 42),(oV 44 8),(oP 45 (.ix 1 (.t 43) (.t 44))),(oL 46 45),(oC 47 102 [(.t 46)]),(oM 48 (.app 5 1 1 (.t 38) (.t 47))),(oV 0 48)]))) (.reg [(oV 31 8),(oP 32 (.bin false .add (.t 31) (cI 1))),(oV 8 32)])))
def fg_f57N_1:Fg:=⟨[(0,none),(1,some (.sl tyBlkT)),(2,some tI),(7,some tI)],[(0,none),(22,none),(37,none),(48,none),(56,none),(58,none),(67,none),(70,none),(71,none),(5022,none),(5067,none),(5070,none),(10022,none),(10067,none),(10070,none),(15022,none),(15067,none),(15070,none)]⟩
def tb_f57N_1:TC:=(.mv [(22,0),(70,0)] (.sq (.sq (.reg [(oV 9 7),(oV 10 1),(oP 11 (.len false (.t 10))),(oP 12 (.bin false .lss (.t 9) (.t 11))),(oV 13 12),(oQ 14 13 true (.mv (.t 0))),(oQ 15 13 true (.len false (.t 14))),(oQ 16 13 true (.bin false .leq (.t 15) (cI 16384))),(oP 17 (.pick (.t 13) (.t 16) (cB false)))]) (.cd (.t 17) .sk (.fg ⟨[(0,none)],[(0,none),(22,none),(37,none),(48,none),(56,none),(58,none),(67,none),(70,none),(71,none),(5022,none),(5067,none),(5070,none),(10022,none),(10067,none),(10070,none),(15022,none),(15067,none),(15070,none)]⟩ (.ex 0)))) (.sq (.bk 1 (.sq (.reg [(oV 20 0),(oV 21 2),(oC 22 101 [(.t 20),(.t 21)]),(oV 0 22)]) (.sq (.sq (.reg [(oP 8 (.mv (cI 0)))]) (.bk 2 (.nw 0 5 (.lp 0 fg_f57N_0 tb_f57N_0)))) (.sq (.sq (.reg [(oV 49 1),(oV 50 7),(oP 51 (.ix 4 (.t 49) (.t 50))),(oP 52 (.fa 1 (.t 51))),(oL 53 52),(oP 54 (.nt (.t 53)))]) (.cd (.t 54) (.sq (.reg [(oV 55 0),(oM 56 (.app 5 1 1 (.t 55) (.c (.v (.string (ByteArray.mk #[59,10])))))),(oV 0 56)]) (.fg ⟨[(0,none),(1,some (.sl tyBlkT)),(2,some tI),(7,some tI)],[(0,none),(22,none),(37,none),(48,none),(56,none),(58,none),(67,none),(70,none),(71,none),(5022,none),(5067,none),(5070,none),(10022,none),(10067,none),(10070,none),(15022,none),(15067,none),(15070,none)]⟩ (.ex 1))) .sk)) (.sq (.reg [(oV 57 0),(oM 58 (.app 5 1 1 (.t 57) (.c (.v (.string (ByteArray.mk #[32,123,10])))))),(oV 0 58)]) (.sq (.reg [(oV 59 0),(oV 60 1),(oV 61 7),(oP 62 (.ix 4 (.t 60) (.t 61))),(oP 63 (.fa 2 (.t 62))),(oL 64 63),(oV 65 2),(oP 66 (.bin false .add (.t 65) (cI 1))),(oC 67 57 [(.t 59),(.t 64),(.t 66)]),(oV 0 67)]) (.reg [(oV 68 0),(oV 69 2),(oC 70 101 [(.t 68),(.t 69)]),(oM 71 (.app 5 1 1 (.t 70) (.c (.v (.string (ByteArray.mk #[125,10])))))),(oV 0 71)]))))))) (.reg [(oV 18 7),(oP 19 (.bin false .add (.t 18) (cI 1))),(oV 7 19)]))))
def tc_f57N:TC:=(.sq (.reg [(oP 6 (.mv (.c (.v (.slice none 0 0)))))]) (.sq (.sq (.reg [(oP 7 (.mv (cI 0)))]) (.bk 0 (.nw 0 5 (.lp 1 fg_f57N_1 tb_f57N_1)))) (.sq (.reg [(oV 72 0),(oV 6 72)]) .rt)))
def rv_f57N:List (RV×Option Ty):=[((.t 6),none)]
abbrev sh_f57N_0:Sh:=⟨[(0,.ms 22),(1,.ty (.sl tyBlkT)),(2,.ty tI),(7,.ty tI),(8,.ty tI)],[(0,.no),(22,.arr 5 (.int .u8)),(37,.no),(48,.no),(56,.no),(58,.no),(67,.no),(70,.no),(71,.no),(5022,.no),(5067,.no),(5070,.no),(10022,.no),(10067,.no),(10070,.no),(15022,.no),(15067,.no),(15070,.no)]⟩
def st_f57N_0 (x1:(List BlkT))(x2:Int)(x7:Int)(x8:Int)(y22:(List Int)):VS:=sh_f57N_0.st ((),x1,x2,x7,x8,()) ((),y22,(),(),(),(),(),(),(),(),(),(),(),(),(),(),(),(),())
abbrev sh_f57N_0_e2:Sh:=⟨[(0,.ms 22),(1,.ty (.sl tyBlkT)),(2,.ty tI),(7,.ty tI)],[(0,.no),(22,.arr 5 (.int .u8)),(37,.no),(48,.no),(56,.no),(58,.no),(67,.no),(70,.no),(71,.no),(5022,.no),(5067,.no),(5070,.no),(10022,.no),(10067,.no),(10070,.no),(15022,.no),(15067,.no),(15070,.no)]⟩
def st_f57N_0_e2 (x1:(List BlkT))(x2:Int)(x7:Int)(y22:(List Int)):VS:=sh_f57N_0_e2.st ((),x1,x2,x7,()) ((),y22,(),(),(),(),(),(),(),(),(),(),(),(),(),(),(),(),())
-- loop 0: (x1 : (List BlkT)) (x2 : Int) (x7 : Int) (x8 : Int) (y22 : (List Int)); out: ('exit', 2) (x1 : (List BlkT)) (x2 : Int) (x7 : Int) (y22 : (List Int))
abbrev sh_f57N_1:Sh:=⟨[(0,.ms 0),(1,.ty (.sl tyBlkT)),(2,.ty tI),(7,.ty tI)],[(0,.arr 5 (.int .u8)),(22,.no),(37,.no),(48,.no),(56,.no),(58,.no),(67,.no),(70,.no),(71,.no),(5022,.no),(5067,.no),(5070,.no),(10022,.no),(10067,.no),(10070,.no),(15022,.no),(15067,.no),(15070,.no)]⟩
def st_f57N_1 (x1:(List BlkT))(x2:Int)(x7:Int)(y0:(List Int)):VS:=sh_f57N_1.st ((),x1,x2,x7,()) (y0,(),(),(),(),(),(),(),(),(),(),(),(),(),(),(),(),(),())
abbrev sh_f57N_1_e0:Sh:=⟨[(0,.ms 0)],[(0,.arr 5 (.int .u8)),(22,.no),(37,.no),(48,.no),(56,.no),(58,.no),(67,.no),(70,.no),(71,.no),(5022,.no),(5067,.no),(5070,.no),(10022,.no),(10067,.no),(10070,.no),(15022,.no),(15067,.no),(15070,.no)]⟩
def st_f57N_1_e0 (y0:(List Int)):VS:=sh_f57N_1_e0.st ((),()) (y0,(),(),(),(),(),(),(),(),(),(),(),(),(),(),(),(),(),())
-- loop 1: (x1 : (List BlkT)) (x2 : Int) (x7 : Int) (y0 : (List Int)); out: ('exit', 0) (y0 : (List Int))
def L_f57N_0:VS->Option (Bool×List (Bool×Exit×VS)):=mkL sh_f57N_0 (fun x y=>(ww0 x.2.1 x.2.2.2.1 x.2.2.2.2.1 y.2.1)) (fun x y=>[(true,.exit 2,st_f57N_0_e2 (x.2.1) (x.2.2.1) (x.2.2.2.1) (y.2.1++wdsD (wrA x.2.1 x.2.2.2.1) x.2.2.2.2.1.toNat))])
def L_f57N_1:VS->Option (Bool×List (Bool×Exit×VS)):=mkL sh_f57N_1 (fun x y=>(ww2 x.2.1 x.2.2.1 x.2.2.2.1 y.1)) (fun x y=>[(true,.exit 0,st_f57N_1_e0 (wrF y.1 (x.2.1.drop x.2.2.2.1.toNat) x.2.2.1))])
def g_f57N:G:=⟨TYs,[],73,EL [(57,sp_f57),(101,sp_f101),(102,sp_f102)],(101::57::keeps),(Ls [L_f57N_0,L_f57N_1]),IL [],RL []⟩
def b_f57N_0 (x1:(List BlkT))(x2:Int)(x7:Int)(x8:Int)(y22:(List Int)):Option (Exit×VS):=
 br (cIx x1 x7)
  (br ((ilt x8 (llen ((lgt tyBlkT x1 (Int.toNat x7)).1))))
   (br ((igt x8 0))
    (br (cApp y22 ([32]) 1)
     (br (cIx x1 x7)
      (br (cIx ((lgt tyBlkT x1 (Int.toNat x7)).1) x8)
       (br ((wsz (lgt .str ((lgt tyBlkT x1 (Int.toNat x7)).1) (Int.toNat x8))))
        (br (cApp (y22++([32])) (bytesL (qtF (lgt .str ((lgt tyBlkT x1 (Int.toNat x7)).1) (Int.toNat x8)))) 1)
         (some (.normal,st_f57N_0 x1 x2 x7 (iadd .i64 x8 1) ((y22++([32]))++(bytesL (qtF (lgt .str ((lgt tyBlkT x1 (Int.toNat x7)).1) (Int.toNat x8)))))))
         (none))
        (none))
       (none))
      (none))
     (none))
    (br (cIx x1 x7)
     (br (cIx ((lgt tyBlkT x1 (Int.toNat x7)).1) x8)
      (br ((wsz (lgt .str ((lgt tyBlkT x1 (Int.toNat x7)).1) (Int.toNat x8))))
       (br (cApp y22 (bytesL (qtF (lgt .str ((lgt tyBlkT x1 (Int.toNat x7)).1) (Int.toNat x8)))) 1)
        (some (.normal,st_f57N_0 x1 x2 x7 (iadd .i64 x8 1) (y22++(bytesL (qtF (lgt .str ((lgt tyBlkT x1 (Int.toNat x7)).1) (Int.toNat x8)))))))
        (none))
       (none))
      (none))
     (none)))
   (some (.exit 2,st_f57N_0_e2 x1 x2 x7 y22)))
  (none)
noncomputable def lp_f57N_0 (x1:(List BlkT))(x2:Int)(x7:Int)(x8:Int)(y22:(List Int)):Option (Exit×VS):=loopF (roundF g_f57N fg_f57N_0 tb_f57N_0) (st_f57N_0 x1 x2 x7 x8 y22)
noncomputable def n_f57N_0 (x1:(List BlkT))(x2:Int)(x7:Int)(x8:Int)(y22:(List Int)):Option (Exit×VS):=
 br (cIx x1 x7)
  (br ((ilt x8 (llen ((lgt tyBlkT x1 (Int.toNat x7)).1))))
   (br ((igt x8 0))
    (br (cApp y22 ([32]) 1)
     (br (cIx x1 x7)
      (br (cIx ((lgt tyBlkT x1 (Int.toNat x7)).1) x8)
       (br ((wsz (lgt .str ((lgt tyBlkT x1 (Int.toNat x7)).1) (Int.toNat x8))))
        (br (cApp (y22++([32])) (bytesL (qtF (lgt .str ((lgt tyBlkT x1 (Int.toNat x7)).1) (Int.toNat x8)))) 1)
         (lp_f57N_0 x1 x2 x7 (iadd .i64 x8 1) ((y22++([32]))++(bytesL (qtF (lgt .str ((lgt tyBlkT x1 (Int.toNat x7)).1) (Int.toNat x8))))))
         (none))
        (none))
       (none))
      (none))
     (none))
    (br (cIx x1 x7)
     (br (cIx ((lgt tyBlkT x1 (Int.toNat x7)).1) x8)
      (br ((wsz (lgt .str ((lgt tyBlkT x1 (Int.toNat x7)).1) (Int.toNat x8))))
       (br (cApp y22 (bytesL (qtF (lgt .str ((lgt tyBlkT x1 (Int.toNat x7)).1) (Int.toNat x8)))) 1)
        (lp_f57N_0 x1 x2 x7 (iadd .i64 x8 1) (y22++(bytesL (qtF (lgt .str ((lgt tyBlkT x1 (Int.toNat x7)).1) (Int.toNat x8))))))
        (none))
       (none))
      (none))
     (none)))
   (some (.exit 2,st_f57N_0_e2 x1 x2 x7 y22)))
  (none)
def la_f57N_0 (x1:(List BlkT))(x2:Int)(x7:Int)(x8:Int)(y22:(List Int)):Option (Exit×VS):=some (.exit 2,st_f57N_0_e2 (x1) (x2) (x7) (y22++wdsD (wrA x1 x7) x8.toNat))
theorem be_f57N_0 (x1:(List BlkT))(x2:Int)(x7:Int)(x8:Int)(y22:(List Int)):roundF g_f57N fg_f57N_0 tb_f57N_0 (st_f57N_0 x1 x2 x7 x8 y22)=b_f57N_0 x1 x2 x7 x8 y22:=by kernel_rfl
theorem ln_f57N_0 (x1:(List BlkT))(x2:Int)(x7:Int)(x8:Int)(y22:(List Int)):lp_f57N_0 x1 x2 x7 x8 y22=n_f57N_0 x1 x2 x7 x8 y22:=(loopF_nxt _ _).trans (by
 rw [be_f57N_0]
 simp only [b_f57N_0,n_f57N_0,nxt_br,nxt_n,nxt_r,nxt_e,nxt_0]
 rfl)
def b_f57N_1 (x1:(List BlkT))(x2:Int)(x7:Int)(y0:(List Int)):Option (Exit×VS):=
 br ((ilt x7 (llen x1)))
  (br ((ile (llen y0) 16384))
   (br ((indOk y0 x2))
    (br ((ww0 x1 x7 (0:Int) (indF y0 x2)))
     (br (cIx (x1) (x7))
      (br ((!(((lgt tyBlkT (x1) (Int.toNat (x7))).2).1)))
       (br (cApp ((indF y0 x2)++wdsD (wrA x1 x7) (0:Int).toNat) (bytesL (ByteArray.mk #[59,10])) 1)
        (some (.normal,st_f57N_1 (x1) (x2) (iadd .i64 (x7) 1) (((indF y0 x2)++wdsD (wrA x1 x7) (0:Int).toNat)++(bytesL (ByteArray.mk #[59,10])))))
        (none))
       (br (cApp ((indF y0 x2)++wdsD (wrA x1 x7) (0:Int).toNat) (bytesL (ByteArray.mk #[32,123,10])) 1)
        (br (cIx (x1) (x7))
         (br ((wrOk (((indF y0 x2)++wdsD (wrA x1 x7) (0:Int).toNat)++(bytesL (ByteArray.mk #[32,123,10]))) (List.map Blk.un ((((lgt tyBlkT (x1) (Int.toNat (x7))).2).2).1)) (iadd .i64 (x2) 1)))
          (br ((indOk (wrF (((indF y0 x2)++wdsD (wrA x1 x7) (0:Int).toNat)++(bytesL (ByteArray.mk #[32,123,10]))) (List.map Blk.un ((((lgt tyBlkT (x1) (Int.toNat (x7))).2).2).1)) (iadd .i64 (x2) 1)) (x2)))
           (br (cApp (indF (wrF (((indF y0 x2)++wdsD (wrA x1 x7) (0:Int).toNat)++(bytesL (ByteArray.mk #[32,123,10]))) (List.map Blk.un ((((lgt tyBlkT (x1) (Int.toNat (x7))).2).2).1)) (iadd .i64 (x2) 1)) (x2)) (bytesL (ByteArray.mk #[125,10])) 1)
            (some (.normal,st_f57N_1 (x1) (x2) (iadd .i64 (x7) 1) ((indF (wrF (((indF y0 x2)++wdsD (wrA x1 x7) (0:Int).toNat)++(bytesL (ByteArray.mk #[32,123,10]))) (List.map Blk.un ((((lgt tyBlkT (x1) (Int.toNat (x7))).2).2).1)) (iadd .i64 (x2) 1)) (x2))++(bytesL (ByteArray.mk #[125,10])))))
            (none))
           (none))
          (none))
         (none))
        (none)))
      (none))
     (none))
    (none))
   (some (.exit 0,st_f57N_1_e0 y0)))
  (some (.exit 0,st_f57N_1_e0 y0))
noncomputable def lp_f57N_1 (x1:(List BlkT))(x2:Int)(x7:Int)(y0:(List Int)):Option (Exit×VS):=loopF (roundF g_f57N fg_f57N_1 tb_f57N_1) (st_f57N_1 x1 x2 x7 y0)
noncomputable def n_f57N_1 (x1:(List BlkT))(x2:Int)(x7:Int)(y0:(List Int)):Option (Exit×VS):=
 br ((ilt x7 (llen x1)))
  (br ((ile (llen y0) 16384))
   (br ((indOk y0 x2))
    (br ((ww0 x1 x7 (0:Int) (indF y0 x2)))
     (br (cIx (x1) (x7))
      (br ((!(((lgt tyBlkT (x1) (Int.toNat (x7))).2).1)))
       (br (cApp ((indF y0 x2)++wdsD (wrA x1 x7) (0:Int).toNat) (bytesL (ByteArray.mk #[59,10])) 1)
        (lp_f57N_1 (x1) (x2) (iadd .i64 (x7) 1) (((indF y0 x2)++wdsD (wrA x1 x7) (0:Int).toNat)++(bytesL (ByteArray.mk #[59,10]))))
        (none))
       (br (cApp ((indF y0 x2)++wdsD (wrA x1 x7) (0:Int).toNat) (bytesL (ByteArray.mk #[32,123,10])) 1)
        (br (cIx (x1) (x7))
         (br ((wrOk (((indF y0 x2)++wdsD (wrA x1 x7) (0:Int).toNat)++(bytesL (ByteArray.mk #[32,123,10]))) (List.map Blk.un ((((lgt tyBlkT (x1) (Int.toNat (x7))).2).2).1)) (iadd .i64 (x2) 1)))
          (br ((indOk (wrF (((indF y0 x2)++wdsD (wrA x1 x7) (0:Int).toNat)++(bytesL (ByteArray.mk #[32,123,10]))) (List.map Blk.un ((((lgt tyBlkT (x1) (Int.toNat (x7))).2).2).1)) (iadd .i64 (x2) 1)) (x2)))
           (br (cApp (indF (wrF (((indF y0 x2)++wdsD (wrA x1 x7) (0:Int).toNat)++(bytesL (ByteArray.mk #[32,123,10]))) (List.map Blk.un ((((lgt tyBlkT (x1) (Int.toNat (x7))).2).2).1)) (iadd .i64 (x2) 1)) (x2)) (bytesL (ByteArray.mk #[125,10])) 1)
            (lp_f57N_1 (x1) (x2) (iadd .i64 (x7) 1) ((indF (wrF (((indF y0 x2)++wdsD (wrA x1 x7) (0:Int).toNat)++(bytesL (ByteArray.mk #[32,123,10]))) (List.map Blk.un ((((lgt tyBlkT (x1) (Int.toNat (x7))).2).2).1)) (iadd .i64 (x2) 1)) (x2))++(bytesL (ByteArray.mk #[125,10]))))
            (none))
           (none))
          (none))
         (none))
        (none)))
      (none))
     (none))
    (none))
   (some (.exit 0,st_f57N_1_e0 y0)))
  (some (.exit 0,st_f57N_1_e0 y0))
def la_f57N_1 (x1:(List BlkT))(x2:Int)(x7:Int)(y0:(List Int)):Option (Exit×VS):=some (.exit 0,st_f57N_1_e0 (wrF y0 (x1.drop x7.toNat) x2))
theorem be_f57N_1 (x1:(List BlkT))(x2:Int)(x7:Int)(y0:(List Int)):roundF g_f57N fg_f57N_1 tb_f57N_1 (st_f57N_1 x1 x2 x7 y0)=b_f57N_1 x1 x2 x7 y0:=by kernel_rfl
theorem ln_f57N_1 (x1:(List BlkT))(x2:Int)(x7:Int)(y0:(List Int)):lp_f57N_1 x1 x2 x7 y0=n_f57N_1 x1 x2 x7 y0:=(loopF_nxt _ _).trans (by
 rw [be_f57N_1]
 simp only [b_f57N_1,n_f57N_1,nxt_br,nxt_n,nxt_r,nxt_e,nxt_0]
 rfl)
def r_f57N (p1:(List BlkT))(p2:Int):Option (V×List VO):=
 br ((ww2 p1 p2 (0:Int) ([]:List Int)))
  (some (.ms 50000,[.arr 5 (.int .u8) (wrF ([]:List Int) (p1.drop (0:Int).toNat) p2)]))
  (none)
theorem e_f57N (p1:(List BlkT))(p2:Int):runF g_f57N tc_f57N rv_f57N true [.c (.slice none 0 0),.t (.sl tyBlkT) p1,.t tI p2] []=r_f57N p1 p2:=by kernel_rfl
theorem ok_f57N:Option.map (trC Tryd.prog) Tryd.f57.body=some tc_f57N.er:=by kernel_rfl
theorem rok_f57N:trVs Tryd.prog Tryd.f57.results.toList=some (rv_f57N.map Prod.fst):=by kernel_rfl
theorem en_f57N:Entered Tryd.prog 57:= .inr ⟨by decide,_,Tryd.func57,by kernel_rfl,by kernel_rfl⟩
theorem gk_f57N:GOk Tryd.prog g_f57N:=gok_of _ (by
 intro p hp
 simp only [List.mem_cons,List.not_mem_nil,or_false] at hp
 rcases hp with rfl|rfl|rfl
 ·exact ⟨en_f57,ms_f57⟩
 ·exact ⟨en_f101,ms_f101⟩
 ·exact ⟨en_f102,ms_f102⟩)
theorem l_f57N_0 (x1:(List BlkT))(x2:Int)(x7:Int)(x8:Int)(y22:(List Int))(h:(ww0 x1 x7 x8 y22)=true):lp_f57N_0 x1 x2 x7 x8 y22=la_f57N_0 x1 x2 x7 x8 y22:=by
 obtain ⟨h1,h2,h3,h4,h5,h6⟩:=cP_of h
 clear h
 obtain ⟨k,rfl⟩:=Int.eq_ofNat_of_zero_le h2
 rw [Int.toNat_natCast] at h6
 refine range_ind (wrA x1 x7) (fun k=> ∀ y22:List Int,y22.length+(wdsD (wrA x1 x7) k).length<=45000000000->lp_f57N_0 x1 x2 x7 (k:Int) y22=la_f57N_0 x1 x2 x7 (k:Int) y22) ?_ ?_ k (by omega) y22 h6
 ·intro y22 _
  have e2:ilt ((wrA x1 x7).length:Int) (llen (wrA x1 x7))=false:=decide_eq_false (by simp only [llen];omega)
  rw [ln_f57N_0]
  unfold n_f57N_0 la_f57N_0
  rw [h1,br_true,e2,br_false,Int.toNat_natCast,wdsD_end,List.append_nil]
 ·intro k hk ih y22 hy
  rw [wdsD_step hk,List.length_append,List.length_append] at hy
  have e2:ilt (k:Int) (llen (wrA x1 x7))=true:=decide_eq_true (by simp only [llen];omega)
  have e3:cIx (wrA x1 x7) (k:Int)=true:=by rw [cIx_nat];exact decide_eq_true hk
  have e4:lgt .str (wrA x1 x7) (k:Int).toNat=(wrA x1 x7)[k]:=by rw [Int.toNat_natCast,lgt_get (y:= .str) hk]
  have hs:wsz (wrA x1 x7)[k]=true:=List.all_eq_true.1 h5 _ (List.getElem_mem hk)
  rw [ln_f57N_0]
  unfold n_f57N_0
  unfold la_f57N_0 at ih ⊢
  rw [h1,br_true,e2,br_true,e4,hs,e3,br_true,br_true,br_true,br_true,add1 (k:=k),Int.toNat_natCast,wdsD_step hk]
  by_cases hz:k=0
  ·have e5:igt (k:Int) 0=false:=decide_eq_false (by omega)
   rw [if_pos hz] at hy ⊢
   simp only [List.length_nil] at hy
   rw [e5,br_false,br_true,br_true,cAppN (by omega) (by omega),br_true,ih _ (by rw [List.length_append];omega),Int.toNat_natCast,List.nil_append,List.append_assoc]
  ·have e5:igt (k:Int) 0=true:=decide_eq_true (by omega)
   rw [if_neg hz] at hy ⊢
   simp only [List.length_singleton] at hy
   rw [e5,br_true,cAppN (by omega) (by simp only [List.length_singleton];omega),br_true,cAppN (by omega) (by rw [List.length_append,List.length_singleton];omega),br_true,ih _ (by rw [List.length_append,List.length_append,List.length_singleton];omega),Int.toNat_natCast,List.append_assoc,List.append_assoc]
theorem l_f57N_1 (x1:(List BlkT))(x2:Int)(x7:Int)(y0:(List Int))(h:(ww2 x1 x2 x7 y0)=true):lp_f57N_1 x1 x2 x7 y0=la_f57N_1 x1 x2 x7 y0:=by
 obtain ⟨h1,h2,h3,h4,h6⟩:=cP_of h
 clear h
 obtain ⟨g6,g8⟩:=okT_p h3
 obtain ⟨k,rfl⟩:=Int.eq_ofNat_of_zero_le h1
 obtain ⟨n,rfl⟩:=Int.eq_ofNat_of_zero_le (show 0<=x2 by omega)
 rw [Int.toNat_natCast,Int.toNat_natCast] at h6
 refine range_ind x1 (fun k=> ∀ y:List Int,y.length+(pnT (x1.drop k) n).length<=40000000000->lp_f57N_1 x1 (n:Int) (k:Int) y=la_f57N_1 x1 (n:Int) (k:Int) y) ?_ ?_ k (by omega) y0 h6
 ·intro y _
  have e2:ilt (x1.length:Int) (llen x1)=false:=decide_eq_false (by simp only [llen];omega)
  rw [ln_f57N_1]
  unfold n_f57N_1 la_f57N_1
  rw [e2,br_false,Int.toNat_natCast,List.drop_length]
  rfl
 ·intro k hk ih y hy
  obtain ⟨w1,w2,w3⟩:=g8 _ (List.getElem_mem hk)
  rw [List.drop_eq_getElem_cons hk,prT_cons] at hy
  simp only [List.length_append] at hy
  have e2:ilt (k:Int) (llen x1)=true:=decide_eq_true (by simp only [llen];omega)
  have e3:cIx x1 (k:Int)=true:=by rw [cIx_nat];exact decide_eq_true hk
  have ew:=lgt_wd hk
  rw [ln_f57N_1]
  simp only [n_f57N_1]
  unfold la_f57N_1 at ih ⊢
  rw [Int.toNat_natCast,List.drop_eq_getElem_cons hk,wrF_cons]
  by_cases hb:y.length<=16384
  ·have e4:ile (llen y) 16384=true:=decide_eq_true (by simp only [llen];omega)
   have e5:indOk y (n:Int)=true:=cP_in ⟨by omega,by omega,by omega⟩
   have e6:indF y (n:Int)=y++indL n:=by unfold indF;rw [Int.toNat_natCast]
   have e7:ww0 x1 (k:Int) 0 (y++indL n)=true:=cP_in ⟨e3,by omega,by omega,by rw [ew];exact w1,by rw [ew];exact w2,by
    rw [ew,Int.toNat_zero,List.length_append]
    show _+(wdsL x1[k].1).length<=_
    omega⟩
   have e8:wdsD (wrA x1 (k:Int)) 0=wdsL x1[k].1:=by rw [ew];rfl
   rw [e2,br_true,e4,br_true,e5,br_true,e6,e7,br_true,Int.toNat_zero,e8,e3,br_true,lgt_get (y:=tyBlkT) hk,if_pos hb]
   have q1:bytesL (ByteArray.mk #[59,10])=[59,10]:=by kernel_rfl
   have q2:bytesL (ByteArray.mk #[32,123,10])=[32,123,10]:=by kernel_rfl
   have q3:bytesL (ByteArray.mk #[125,10])=[125,10]:=by kernel_rfl
   rw [q1,q2,q3,add1 (k:=k),add1 (k:=n)]
   cases ho:x1[k].2.1 with
   |false=>
    rw [ho] at hy
    simp only [Bool.not_false,cond_true,List.length_cons,List.length_nil] at hy
    rw [Bool.not_false,br_true,cond_true,cAppN (by omega) (by simp only [List.length_append,List.length_cons,List.length_nil];omega),br_true,ih _ (by simp only [List.length_append,List.length_cons,List.length_nil];omega),Int.toNat_natCast]
   |true=>
    rw [ho] at hy
    simp only [Bool.not_true,cond_false,List.length_append,List.length_cons,List.length_nil] at hy
    have hw:=wrL_le ((x1[k].2.2.1.map Blk.un).map Blk.of) (y++indL n++wdsL x1[k].1++[32,123,10]) (n+1)
    have hw:(wrF (y++indL n++wdsL x1[k].1++[32,123,10]) (x1[k].2.2.1.map Blk.un) ((n+1:Nat):Int)).length<=(y++indL n++wdsL x1[k].1++[32,123,10]).length+(pnT (x1[k].2.2.1.map Blk.un) (n+1)).length:=by
     unfold wrF
     rw [Int.toNat_natCast]
     exact hw
    have u1:wrOk (y++indL n++wdsL x1[k].1++[32,123,10]) (x1[k].2.2.1.map Blk.un) ((n+1:Nat):Int)=true:=by
     refine Bool.and_eq_true_iff.2 ⟨w3,cP_in ⟨by omega,by omega, ?_⟩⟩
     rw [Int.toNat_natCast]
     simp only [List.length_append,List.length_cons,List.length_nil]
     omega
    generalize hW:wrF (y++indL n++wdsL x1[k].1++[32,123,10]) (x1[k].2.2.1.map Blk.un) ((n+1:Nat):Int)=W at hw ⊢
    simp only [List.length_append,List.length_cons,List.length_nil] at hw
    have u2:indOk W (n:Int)=true:=cP_in ⟨by omega,by omega,by omega⟩
    have u3:indF W (n:Int)=W++indL n:=by unfold indF;rw [Int.toNat_natCast]
    rw [Bool.not_true,br_false,cond_false,cAppN (by omega) (by simp only [List.length_append,List.length_cons,List.length_nil];omega),br_true,br_true,u1,br_true,u2,br_true,u3,cAppN (by omega) (by simp only [List.length_append,List.length_cons,List.length_nil];omega),br_true,ih _ (by simp only [List.length_append,List.length_cons,List.length_nil];omega),Int.toNat_natCast]
  ·have e4:ile (llen y) 16384=false:=decide_eq_false (by simp only [llen];omega)
   rw [e2,br_true,e4,br_false,if_neg hb]
theorem lo_f57N_0: ∀ S l p,g_f57N.L 0 (fgt fg_f57N_0 S)=some (true,l)->pickA l=some p->loopF (roundF g_f57N fg_f57N_0 tb_f57N_0) S=some p:=
 lok_of (s:=sh_f57N_0) ⟨by decide,by decide⟩ (by kernel_rfl) fun x y hok p hp=>by
 simp only [pickA_br,pickA_one] at hp
 exact (l_f57N_0 x.2.1 x.2.2.1 x.2.2.2.1 x.2.2.2.2.1 y.2.1 (by simpa using hok)).trans hp
theorem lo_f57N_1: ∀ S l p,g_f57N.L 1 (fgt fg_f57N_1 S)=some (true,l)->pickA l=some p->loopF (roundF g_f57N fg_f57N_1 tb_f57N_1) S=some p:=
 lok_of (s:=sh_f57N_1) ⟨by decide,by decide⟩ (by kernel_rfl) fun x y hok p hp=>by
 simp only [pickA_br,pickA_one] at hp
 exact (l_f57N_1 x.2.1 x.2.2.1 x.2.2.2.1 y.1 (by simpa using hok)).trans hp
theorem lk_f57N:tc_f57N.lok g_f57N:=by
 repeat (first|exact trivial|exact lo_f57N_0|exact lo_f57N_1|refine ⟨?_, ?_⟩)
theorem s_f57N (l:List BlkT)(n:Int)(h:wrNOk l n=true):r_f57N l n=some (.ms 50000,[.arr 5 (.int .u8) (wrN l n)]):=by
 obtain ⟨h1,h2⟩:=Bool.and_eq_true_iff.1 h
 obtain ⟨rfl,h4⟩:=cP_of h2
 unfold r_f57N
 refine brY (cP_in ⟨by omega,by omega,h1,rfl,by rw [Int.toNat_zero,List.drop_zero];exact Nat.le_trans (Nat.le_of_eq (Nat.zero_add _)) h4⟩) ?_
 rw [Int.toNat_zero,List.drop_zero]
 rfl
def sp_f57N:Ent:=specB [.nl,.ty (.sl tyBlkT),.ty tI] [] (fun x y=>(wrNOk x.2.1 x.2.2.1)) (fun x y=>(.ms 50000)) (fun x y=>[.arr 5 (.int .u8) (wrN x.2.1 x.2.2.1)])
theorem ms_f57N:Meets Tryd.prog 57 (strip sp_f57N):=by
 obtain ⟨c,hc,hi⟩:=Option.map_eq_some_iff.1 ok_f57N
 exact meets_B (meets_specS (R:=runF g_f57N tc_f57N rv_f57N true) (meets_of (by decide) Tryd.func57 hc hi Tryd.ntmps57 rok_f57N gk_f57N lk_f57N mixed) fun x y hok=>(e_f57N x.2.1 x.2.2.1).trans (s_f57N x.2.1 x.2.2.1 hok))
end
end Go.Proofs.YtkkoedniahnneaaDoor.K
set_option linter.unusedSectionVars false
namespace Go.Proofs.YtkkoedniahnneaaDoor.K
open Go.RowKit
noncomputable section
set_option linter.unusedSectionVars false
mutual
def moB:K.Blk->Nat
 |.mk ws _ wi _=>max ws.length (moL wi)
def moL:List K.Blk->Nat
 | []=>0
 |b::r=>max (moB b) (moL r)
end
def moT (l:List BlkT):Nat:=moL (l.map Blk.of)
def moF (l:List BlkT):Int:=(moT l:Int)
theorem moT_cons (x:BlkT)(l:List BlkT):moT (x::l)=max (max x.1.length (moT (x.2.2.1.map Blk.un))) (moT l):=by
 unfold moT
 rw [map_of_unB,List.map_cons]
 rfl
mutual
theorem wi_moB: ∀ b:K.Blk,wiB b=decide (64<moB b)
 |.mk ws o wi ln=>by
  show (decide (64<ws.length)||wiL wi)=decide (64<max ws.length (moL wi))
  rw [wi_moL wi,Bool.eq_iff_iff,Bool.or_eq_true,decide_eq_true_eq,decide_eq_true_eq,decide_eq_true_eq]
  omega
theorem wi_moL: ∀ l:List K.Blk,wiL l=decide (64<moL l)
 | []=>rfl
 |b::r=>by
  show (wiB b||wiL r)=decide (64<max (moB b) (moL r))
  rw [wi_moB b,wi_moL r,Bool.eq_iff_iff,Bool.or_eq_true,decide_eq_true_eq,decide_eq_true_eq,decide_eq_true_eq]
  omega
end
theorem wi_moT (l:List BlkT):wiT l=decide (64<moT l):=wi_moL _
theorem fuel_blocks_most (l:List BlkT)(h:okT l=true): ∃ N,okN N l=true:=okT_fuel h
theorem en_f71:Entered Tryd.prog 71:= .inr ⟨by decide,_,Tryd.func71,by kernel_rfl,by kernel_rfl⟩
def sp_f71R [Fuel]:Ent:=spec (.pr (.sl tyBlkT) .nil) (fun x=>(okN fuel x.1)) (fun x=>(.t tI (moF x.1)))
theorem en_f71R:Entered Tryd.prog 71:=en_f71
section
variable [Fuel][Nonempty (PLift (Meets Tryd.prog 71 (strip sp_f71R)))]
theorem ms_f71R:Meets Tryd.prog 71 (strip sp_f71R):=(Classical.choice (inferInstance:Nonempty (PLift (Meets Tryd.prog 71 (strip sp_f71R))))).down
def dr_f71_0:List DO:=[(.mk (oV 12 3) []),(.mk (oP 13 (.fa 0 (.t 5))) []),(.mk (oL 14 13) [1]),(.mk (oP 15 (.len false (.t 14))) [2]),(.mk (oP 16 (.fa 2 (.t 5))) []),(.mk (oL 17 16) [4]),(.mk (oC 18 71 [(.t 17)]) [5]),(.mk (oP 19 (.mx3 (.t 12) (.t 15) (.t 18))) [0,3,6]),(.mk (oV 3 19) [7,6,0,1,2,3,4,5,6,7])]
def fg_f71_0:Fg:=⟨[(3,some tI),(6,some (.sl tyBlkT)),(7,some tI),(8,some tI)],[]⟩
def tb_f71_0:TC:=(.sq (.reg [(oP 9 (.bin false .lss (.t 8) (.t 7)))]) (.sq (.cd (.t 9) .sk (.fg ⟨[(3,some tI)],[]⟩ (.ex 0))) (.sq (.bk 1 (.sq (.reg [(oP 10 (.ix 4 (.t 6) (.t 8))),(oM 11 (.ld true 4 (.t 10))),(oM 5 (.new [(.v (.slice none 0 0)),(.v (.bool false)),(.v (.slice none 0 0)),(.v (.int .i64 0))])),(.mk none none (.m (.st 4 (.t 5) (.t 11))))]) (.dr dr_f71_0 [(0,[]),(1,[5]),(2,[5]),(3,[]),(4,[5]),(5,[5]),(6,[]),(7,[]),(8,[])] (.of [0,1,2,3,4,5,6,7,8])))) (.reg [(oP 20 (.bin false .add (.t 8) (cI 1))),(oV 8 20)]))))
def tc_f71:TC:=(.sq (.reg [(oP 2 (.mv (cI 0)))]) (.sq (.reg [(oP 3 (.mv (cI 0)))]) (.sq (.sq (.reg [(oV 6 0),(oP 7 (.len false (.t 6))),(oP 8 (.mv (cI 0)))]) (.bk 0 (.lp 0 fg_f71_0 tb_f71_0))) (.sq (.reg [(oV 21 3),(oV 2 21)]) .rt))))
def rv_f71:List (RV×Option Ty):=[((.t 2),some tI)]
abbrev sh_f71_0:Sh:=⟨[(3,.ty tI),(6,.ty (.sl tyBlkT)),(7,.ty tI),(8,.ty tI)],[]⟩
def st_f71_0 (x3:Int)(x6:(List BlkT))(x7:Int)(x8:Int):VS:=sh_f71_0.st (x3,x6,x7,x8,()) ()
abbrev sh_f71_0_e0:Sh:=⟨[(3,.ty tI)],[]⟩
def st_f71_0_e0 (x3:Int):VS:=sh_f71_0_e0.st (x3,()) ()
-- loop 0: (x3 : Int) (x6 : (List BlkT)) (x7 : Int) (x8 : Int); out: ('exit', 0) (x3 : Int)
def L_f71_0:VS->Option (Bool×List (Bool×Exit×VS)):=mkL sh_f71_0 (fun x y=>(dp0 x.2.1 x.2.2.1 x.2.2.2.1 x.1)) (fun x y=>[(true,.exit 0,st_f71_0_e0 (imx x.1 (moF (x.2.1.drop x.2.2.2.1.toNat))))])
def g_f71:G:=⟨TYs,[],22,EL [(71,sp_f71R)],keeps,(Ls [L_f71_0]),IL [],RL []⟩
def b_f71_0 (x3:Int)(x6:(List BlkT))(x7:Int)(x8:Int):Option (Exit×VS):=
 br ((ilt x8 x7))
  (br (cIx x6 x8)
   (br ((okN fuel (List.map Blk.un ((((lgt tyBlkT x6 (Int.toNat x8)).2).2).1))))
    (some (.normal,st_f71_0 (imx (imx x3 (llen ((lgt tyBlkT x6 (Int.toNat x8)).1))) (moF (List.map Blk.un ((((lgt tyBlkT x6 (Int.toNat x8)).2).2).1)))) x6 x7 (iadd .i64 x8 1)))
    (none))
   (none))
  (some (.exit 0,st_f71_0_e0 x3))
noncomputable def lp_f71_0 (x3:Int)(x6:(List BlkT))(x7:Int)(x8:Int):Option (Exit×VS):=loopF (roundF g_f71 fg_f71_0 tb_f71_0) (st_f71_0 x3 x6 x7 x8)
noncomputable def n_f71_0 (x3:Int)(x6:(List BlkT))(x7:Int)(x8:Int):Option (Exit×VS):=
 br ((ilt x8 x7))
  (br (cIx x6 x8)
   (br ((okN fuel (List.map Blk.un ((((lgt tyBlkT x6 (Int.toNat x8)).2).2).1))))
    (lp_f71_0 (imx (imx x3 (llen ((lgt tyBlkT x6 (Int.toNat x8)).1))) (moF (List.map Blk.un ((((lgt tyBlkT x6 (Int.toNat x8)).2).2).1)))) x6 x7 (iadd .i64 x8 1))
    (none))
   (none))
  (some (.exit 0,st_f71_0_e0 x3))
def la_f71_0 (x3:Int)(x6:(List BlkT))(x7:Int)(x8:Int):Option (Exit×VS):=some (.exit 0,st_f71_0_e0 (imx x3 (moF (x6.drop x8.toNat))))
theorem be_f71_0 (x3:Int)(x6:(List BlkT))(x7:Int)(x8:Int):roundF g_f71 fg_f71_0 tb_f71_0 (st_f71_0 x3 x6 x7 x8)=b_f71_0 x3 x6 x7 x8:=by kernel_rfl
theorem ln_f71_0 (x3:Int)(x6:(List BlkT))(x7:Int)(x8:Int):lp_f71_0 x3 x6 x7 x8=n_f71_0 x3 x6 x7 x8:=(loopF_nxt _ _).trans (by
 rw [be_f71_0]
 simp only [b_f71_0,n_f71_0,nxt_br,nxt_n,nxt_r,nxt_e,nxt_0]
 rfl)
def r_f71 (p0:(List BlkT)):Option (V×List VO):=
 br ((dp0 p0 (llen p0) (0:Int) (0:Int)))
  (some (.t tI (imx (0:Int) (moF (p0.drop (0:Int).toNat))),[]))
  (none)
theorem e_f71 (p0:(List BlkT)):runF g_f71 tc_f71 rv_f71 false [.t (.sl tyBlkT) p0] []=r_f71 p0:=by kernel_rfl
theorem ok_f71:Option.map (trC Tryd.prog) Tryd.f71.body=some tc_f71.er:=by kernel_rfl
theorem rok_f71:trVs Tryd.prog Tryd.f71.results.toList=some (rv_f71.map Prod.fst):=by kernel_rfl
theorem gk_f71:GOk Tryd.prog g_f71:=gok_of _ (by
 intro p hp
 simp only [List.mem_cons,List.not_mem_nil,or_false] at hp
 rcases hp with rfl
 ·exact ⟨en_f71R,ms_f71R⟩)
theorem l_f71_0 (x3:Int)(x6:(List BlkT))(x7:Int)(x8:Int)(h:(dp0 x6 x7 x8 x3)=true):lp_f71_0 x3 x6 x7 x8=la_f71_0 x3 x6 x7 x8:=by
 obtain ⟨h1,h2,rfl,h4,h5⟩:=cP_of h
 clear h
 obtain ⟨h6,h7,h8⟩:=okN_p h4
 obtain ⟨k,rfl⟩:=Int.eq_ofNat_of_zero_le h1
 obtain ⟨m,rfl⟩:=Int.eq_ofNat_of_zero_le h5
 refine range_ind x6 (fun k=> ∀ m:Nat,lp_f71_0 (m:Int) x6 (x6.length:Int) (k:Int)=la_f71_0 (m:Int) x6 (x6.length:Int) (k:Int)) ?_ ?_ k (by omega) m
 ·intro m
  rw [ln_f71_0]
  have e:imx (m:Int) (moF [])=(m:Int):=(imxB m 0).trans (by rw [Nat.max_eq_left (Nat.zero_le _)])
  have e2:ilt (x6.length:Int) (x6.length:Int)=false:=decide_eq_false (by omega)
  unfold n_f71_0 la_f71_0
  rw [e2,br_false,Int.toNat_natCast,List.drop_length,e]
 ·intro k hk ih m
  obtain ⟨_,_,g3⟩:=h8 _ (List.getElem_mem hk)
  have e2:ilt (k:Int) (x6.length:Int)=true:=decide_eq_true (by omega)
  have e3:cIx x6 (k:Int)=true:=by rw [cIx_nat];exact decide_eq_true hk
  rw [ln_f71_0]
  unfold n_f71_0
  rw [e2,e3,Int.toNat_natCast,lgt_get (y:=tyBlkT) hk,br_true,br_true]
  refine brY g3 ?_
  have e4:imx (imx (m:Int) (llen x6[k].1)) (moF (List.map Blk.un x6[k].2.2.1))=((max (max m x6[k].1.length) (moT (List.map Blk.un x6[k].2.2.1)):Nat):Int):=by
   unfold moF
   rw [show llen x6[k].1=(x6[k].1.length:Int) from rfl,imxB,imxB]
  rw [e4,add1 (k:=k),ih]
  unfold la_f71_0
  rw [Int.toNat_natCast,Int.toNat_natCast,List.drop_eq_getElem_cons hk]
  unfold moF
  rw [imxB,imxB,moT_cons,Nat.max_assoc,Nat.max_assoc,Nat.max_assoc]
theorem lo_f71_0: ∀ S l p,g_f71.L 0 (fgt fg_f71_0 S)=some (true,l)->pickA l=some p->loopF (roundF g_f71 fg_f71_0 tb_f71_0) S=some p:=
 lok_of (s:=sh_f71_0) ⟨by decide,by decide⟩ (by kernel_rfl) fun x y hok p hp=>by
 simp only [pickA_br,pickA_one] at hp
 exact (l_f71_0 x.1 x.2.1 x.2.2.1 x.2.2.2.1 (by simpa using hok)).trans hp
theorem lk_f71:tc_f71.lok g_f71:=by
 repeat (first|exact trivial|exact lo_f71_0|refine ⟨?_, ?_⟩)
theorem s_f71 (l:List BlkT)(h:okN (fuel+1) l=true):r_f71 l=some (.t tI (moF l),[]):=by
 refine brY (cP_in ⟨by omega,by omega,rfl,h,by omega⟩) ?_
 rw [Int.toNat_zero,List.drop_zero]
 have e:imx (0:Int) (moF l)=moF l:=(imxB 0 (moT l)).trans (by rw [Nat.max_eq_right (Nat.zero_le _)];rfl)
 rw [e]
theorem mr_f71:Meets Tryd.prog 71 (runF g_f71 tc_f71 rv_f71 false):=by
 obtain ⟨c,hc,hi⟩:=Option.map_eq_some_iff.1 ok_f71
 exact meets_of (by decide) Tryd.func71 hc hi Tryd.ntmps71 rok_f71 gk_f71 lk_f71 mixed
end
theorem ma_blocks_most: ∀ N:Nat,Meets Tryd.prog 71 (strip (@sp_f71R ⟨N⟩))
 |0=>meets_zero fun x=>by first|rfl|simp [okN]
 |N+1=>by
  letI:Fuel:=⟨N⟩
  haveI:Nonempty (PLift (Meets Tryd.prog 71 (strip sp_f71R))):=⟨⟨ma_blocks_most N⟩⟩
  exact meets_spec mr_f71 fun x hok=>(e_f71 x.1).trans (s_f71 x.1 hok)
def sp_f71:Ent:=spec (.pr (.sl tyBlkT) .nil) (fun x=>(okT x.1)) (fun x=>(.t tI (moF x.1)))
theorem ms_f71:Meets Tryd.prog 71 (strip sp_f71):=meets_fuel ma_blocks_most fun x hok=>fuel_blocks_most x.1 hok
theorem strOf_szF (l:List Int):(strOf l).size=l.length:=by
 show Array.size _=_
 simp [strOf]
def chF (l:List BlkT):Int:=bif !frT l then 1 else bif decide (16<dpT l)||decide (64<moT l) then 3 else 0
def tc_f33:TC:=(.sq (.reg [(oP 2 (.mv (cI 0)))]) (.sq (.bk 0 (.sq (.reg [(oV 4 0),(oC 5 70 [(.t 4)]),(oP 6 (.nt (.t 5))),(oV 3 6)]) (.cd (.t 3) (.sq (.reg [(oP 2 (.mv (cI 1)))]) .rt) (.sq (.reg [(oV 8 0),(oC 9 35 [(.t 8)]),(oP 10 (.bin false .gtr (.t 9) (cI 16))),(oV 11 10),(oQ 12 11 false (.mv (.t 0))),(oG 13 11 false (.call 71 [(.t 12)])),(oQ 14 11 false (.bin false .gtr (.t 13) (cI 64))),(oP 15 (.pick (.t 11) (cB true) (.t 14))),(oV 7 15)]) (.cd (.t 7) (.sq (.reg [(oP 2 (.mv (cI 3)))]) .rt) .sk))))) (.sq (.reg [(oP 2 (.mv (cI 0)))]) .rt)))
def rv_f33:List (RV×Option Ty):=[((.t 2),some tI)]
def g_f33:G:=⟨TYs,[],16,EL [(35,sp_f35),(70,sp_f70),(71,sp_f71)],keeps,(fun _ _=>none),IL [],RL []⟩
def r_f33 (p0:(List BlkT)):Option (V×List VO):=
 br ((okT p0))
  (br ((!(frT p0)))
   (some (.t tI 1,[]))
   (br ((okT p0))
    (br ((igt (dpF p0) 16))
     (some (.t tI 3,[]))
     (br ((okT p0))
      (br ((igt (moF p0) 64))
       (some (.t tI 3,[]))
       (some (.t tI 0,[])))
      (none)))
    (none)))
  (none)
theorem e_f33 (p0:(List BlkT)):runF g_f33 tc_f33 rv_f33 false [.t (.sl tyBlkT) p0] []=r_f33 p0:=by kernel_rfl
theorem ok_f33:Option.map (trC Tryd.prog) Tryd.f33.body=some tc_f33.er:=by kernel_rfl
theorem rok_f33:trVs Tryd.prog Tryd.f33.results.toList=some (rv_f33.map Prod.fst):=by kernel_rfl
theorem en_f33:Entered Tryd.prog 33:= .inr ⟨by decide,_,Tryd.func33,by kernel_rfl,by kernel_rfl⟩
theorem gk_f33:GOk Tryd.prog g_f33:=gok_of _ (by
 intro p hp
 simp only [List.mem_cons,List.not_mem_nil,or_false] at hp
 rcases hp with rfl|rfl|rfl
 ·exact ⟨en_f35,ms_f35⟩
 ·exact ⟨en_f70,ms_f70⟩
 ·exact ⟨en_f71,ms_f71⟩)
theorem lk_f33:tc_f33.lok g_f33:=by repeat (first|exact trivial|refine ⟨?_, ?_⟩)
theorem s_f33 (l:List BlkT)(h:okT l=true):r_f33 l=some (.t tI (chF l),[]):=by
 have e1:igt (dpF l) 16=decide (16<dpT l):=igt_nat (a:=dpT l) (b:=16)
 have e2:igt (moF l) 64=decide (64<moT l):=igt_nat (a:=moT l) (b:=64)
 unfold r_f33 chF
 rw [h,e1,e2]
 cases frT l<;>cases decide (16<dpT l)<;>cases decide (64<moT l)<;>rfl
def sp_f33:Ent:=spec (.pr (.sl tyBlkT) .nil) (fun x=>(okT x.1)) (fun x=>(.t tI (chF x.1)))
theorem ms_f33:Meets Tryd.prog 33 (strip sp_f33):=by
 obtain ⟨c,hc,hi⟩:=Option.map_eq_some_iff.1 ok_f33
 exact meets_spec (R:=runF g_f33 tc_f33 rv_f33 false) (meets_of (by decide) Tryd.func33 hc hi Tryd.ntmps33 rok_f33 gk_f33 lk_f33 mixed) fun x hok=>(e_f33 x.1).trans (s_f33 x.1 hok)
def tc_f34:TC:=(.sq (.reg [(oP 2 (.mv (cI 0)))]) (.sq (.sq (.reg [(oV 3 0),(oC 4 72 [(.t 3)]),(oP 5 (.nt (.t 4)))]) (.cd (.t 5) (.sq (.reg [(oP 2 (.mv (cI 1)))]) .rt) .sk)) (.sq (.sq (.reg [(oV 6 0),(oC 7 36 [(.t 6)]),(oP 8 (.bin false .gtr (.t 7) (cI 16))),(oV 9 8),(oQ 10 9 false (.mv (.t 0))),(oG 11 9 false (.call 73 [(.t 10)])),(oP 12 (.pick (.t 9) (cB true) (.t 11)))]) (.cd (.t 12) (.sq (.reg [(oP 2 (.mv (cI 3)))]) .rt) .sk)) (.sq (.reg [(oP 2 (.mv (cI 0)))]) .rt))))
def rv_f34:List (RV×Option Ty):=[((.t 2),some tI)]
def g_f34:G:=⟨TYs,[],13,EL [(36,sp_f36),(72,sp_f72),(73,sp_f73)],keeps,(fun _ _=>none),IL [],RL []⟩
def r_f34 (p0:(List BlkT)):Option (V×List VO):=
 br ((okT p0))
  (br ((!(frT p0)))
   (some (.t tI 1,[]))
   (br ((okT p0))
    (br ((igt (dpF p0) 16))
     (some (.t tI 3,[]))
     (br ((okT p0))
      (br ((wiT p0))
       (some (.t tI 3,[]))
       (some (.t tI 0,[])))
      (none)))
    (none)))
  (none)
theorem e_f34 (p0:(List BlkT)):runF g_f34 tc_f34 rv_f34 false [.t (.sl tyBlkT) p0] []=r_f34 p0:=by kernel_rfl
theorem ok_f34:Option.map (trC Tryd.prog) Tryd.f34.body=some tc_f34.er:=by kernel_rfl
theorem rok_f34:trVs Tryd.prog Tryd.f34.results.toList=some (rv_f34.map Prod.fst):=by kernel_rfl
theorem en_f34:Entered Tryd.prog 34:= .inr ⟨by decide,_,Tryd.func34,by kernel_rfl,by kernel_rfl⟩
theorem gk_f34:GOk Tryd.prog g_f34:=gok_of _ (by
 intro p hp
 simp only [List.mem_cons,List.not_mem_nil,or_false] at hp
 rcases hp with rfl|rfl|rfl
 ·exact ⟨en_f36,ms_f36⟩
 ·exact ⟨en_f72,ms_f72⟩
 ·exact ⟨en_f73,ms_f73⟩)
theorem lk_f34:tc_f34.lok g_f34:=by repeat (first|exact trivial|refine ⟨?_, ?_⟩)
theorem s_f34 (l:List BlkT)(h:okT l=true):r_f34 l=some (.t tI (chF l),[]):=by
 have e1:igt (dpF l) 16=decide (16<dpT l):=igt_nat (a:=dpT l) (b:=16)
 unfold r_f34 chF
 rw [h,e1,wi_moT]
 cases frT l<;>cases decide (16<dpT l)<;>cases decide (64<moT l)<;>rfl
def sp_f34:Ent:=spec (.pr (.sl tyBlkT) .nil) (fun x=>(okT x.1)) (fun x=>(.t tI (chF x.1)))
theorem ms_f34:Meets Tryd.prog 34 (strip sp_f34):=by
 obtain ⟨c,hc,hi⟩:=Option.map_eq_some_iff.1 ok_f34
 exact meets_spec (R:=runF g_f34 tc_f34 rv_f34 false) (meets_of (by decide) Tryd.func34 hc hi Tryd.ntmps34 rok_f34 gk_f34 lk_f34 mixed) fun x hok=>(e_f34 x.1).trans (s_f34 x.1 hok)
def pntF (l:List BlkT):ByteArray×Int:=bif ine (chF l) 0 then (ByteArray.mk #[],chF l) else bif decide (8192<(pnT l 0).length) then (ByteArray.mk #[],3) else bif igt (endN (strOf (pnT l 0))) 200 then (ByteArray.mk #[],3) else (strOf (pnT l 0),0)
def pntOk (l:List BlkT):Bool:=okT l&&cP ((pnT l 0).length<=40000000000)
def tc_f25:TC:=(.sq (.reg [(oP 2 (.mv (.c (.v (.string (ByteArray.mk #[])))))),(oP 3 (.mv (cI 0)))]) (.sq (.sq (.reg [(oV 6 0),(oC 7 34 [(.t 6)]),(oV 4 7)]) (.sq (.reg [(oV 8 4),(oP 9 (.bin false .neq (.t 8) (cI 0)))]) (.cd (.t 9) (.sq (.reg [(oV 10 4),(oP 2 (.mv (.c (.v (.string (ByteArray.mk #[])))))),(oV 3 10)]) .rt) .sk))) (.sq (.reg [(oV 11 0),(oC 12 57 [(.c (.v (.slice none 0 0))),(.t 11),(cI 0)]),(oV 5 12)]) (.sq (.sq (.reg [(oV 13 5),(oP 14 (.len false (.t 13))),(oP 15 (.bin false .gtr (.t 14) (cI 8192))),(oV 16 15),(oQ 17 16 false (.mv (.t 5))),(oG 18 16 false (.call 2440448 [(.t 17)])),(oG 19 16 false (.call 58 [(.t 18)])),(oQ 20 16 false (.bin false .gtr (.t 19) (cI 200))),(oP 21 (.pick (.t 16) (cB true) (.t 20)))]) (.cd (.t 21) (.sq (.reg [(oP 2 (.mv (.c (.v (.string (ByteArray.mk #[])))))),(oP 3 (.mv (cI 3)))]) .rt) .sk)) (.sq (.reg [(oV 22 5),(oC 23 2440448 [(.t 22)]),(oV 2 23),(oP 3 (.mv (cI 0)))]) .rt)))))
def rv_f25:List (RV×Option Ty):=[((.t 2),some .str),((.t 3),some tI)]
def g_f25:G:=⟨TYs,[],24,EL [(34,sp_f34),(57,sp_f57N),(58,sp_f58),(2440448,sp_op_convert_28_9)],keeps,(fun _ _=>none),IL [],RL []⟩
def r_f25 (p0:(List BlkT)):Option (V×List VO):=
 br ((okT p0))
  (br ((ine (chF p0) 0))
   (some (.tu [(.t .str (ByteArray.mk #[])),(.t tI (chF p0))],[]))
   (br ((wrNOk p0 0))
    (br ((igt (llen (wrN p0 0)) 8192))
     (some (.tu [(.t .str (ByteArray.mk #[])),(.t tI 3)],[]))
     (br ((nameG (strOf (wrN p0 0))))
      (br ((igt (endN (strOf (wrN p0 0))) 200))
       (some (.tu [(.t .str (ByteArray.mk #[])),(.t tI 3)],[]))
       (some (.tu [(.t .str (strOf (wrN p0 0))),(.t tI 0)],[])))
      (none)))
    (none)))
  (none)
theorem e_f25 (p0:(List BlkT)):runF g_f25 tc_f25 rv_f25 false [.t (.sl tyBlkT) p0] []=r_f25 p0:=by kernel_rfl
theorem ok_f25:Option.map (trC Tryd.prog) Tryd.f25.body=some tc_f25.er:=by kernel_rfl
theorem rok_f25:trVs Tryd.prog Tryd.f25.results.toList=some (rv_f25.map Prod.fst):=by kernel_rfl
theorem en_f25:Entered Tryd.prog 25:= .inr ⟨by decide,_,Tryd.func25,by kernel_rfl,by kernel_rfl⟩
theorem gk_f25:GOk Tryd.prog g_f25:=gok_of _ (by
 intro p hp
 simp only [List.mem_cons,List.not_mem_nil,or_false] at hp
 rcases hp with rfl|rfl|rfl|rfl
 ·exact ⟨en_f34,ms_f34⟩
 ·exact ⟨en_f57N,ms_f57N⟩
 ·exact ⟨en_f58,ms_f58⟩
 ·exact ⟨en_op_convert_28_9,ms_op_convert_28_9⟩)
theorem lk_f25:tc_f25.lok g_f25:=by repeat (first|exact trivial|refine ⟨?_, ?_⟩)
theorem s_f25 (l:List BlkT)(h:pntOk l=true):r_f25 l=some (.tu [.t .str (pntF l).1,.t tI (pntF l).2],[]):=by
 obtain ⟨h1,h2⟩:=Bool.and_eq_true_iff.1 h
 have h2:=cP_of h2
 have e1:wrNOk l 0=true:=Bool.and_eq_true_iff.2 ⟨h1,cP_in ⟨rfl,h2⟩⟩
 unfold r_f25 pntF
 refine brY h1 ?_
 cases ine (chF l) 0 with
 |true=>rfl
 |false=>
  rw [br_false,e1,br_true,cond_false]
  have hor:wrN l 0=pnT l 0∨(16384<(wrN l 0).length/\(wrN l 0).length<=0+(pnT l 0).length):=by
   rcases wrL_or (l.map Blk.of) [] 0 with h|h
   ·exact .inl h
   ·exact .inr h
  rcases hor with he|⟨g1,g2⟩
  ·rw [he]
   have e3:igt (llen (pnT l 0)) 8192=decide (8192<(pnT l 0).length):=by simp only [igt,llen];rw [Bool.eq_iff_iff,decide_eq_true_eq,decide_eq_true_eq];omega
   rw [e3]
   by_cases hg:8192<(pnT l 0).length
   ·rw [decide_eq_true hg]
    rfl
   ·rw [decide_eq_false hg,br_false,cond_false]
    refine brY (decide_eq_true ?_) ?_
    ·have:(strOf (pnT l 0)).size=(pnT l 0).length:=strOf_szF _
     omega
    ·cases igt (endN (strOf (pnT l 0))) 200<;>rfl
  ·have e3:igt (llen (wrN l 0)) 8192=true:=by simp only [igt,llen];rw [decide_eq_true_eq];omega
   rw [e3,decide_eq_true (show 8192<(pnT l 0).length by omega)]
   rfl
def sp_f25:Ent:=spec (.pr (.sl tyBlkT) .nil) (fun x=>(pntOk x.1)) (fun x=>(.tu [(.t .str ((pntF x.1).1)),(.t tI ((pntF x.1).2))]))
theorem ms_f25:Meets Tryd.prog 25 (strip sp_f25):=by
 obtain ⟨c,hc,hi⟩:=Option.map_eq_some_iff.1 ok_f25
 exact meets_spec (R:=runF g_f25 tc_f25 rv_f25 false) (meets_of (by decide) Tryd.func25 hc hi Tryd.ntmps25 rok_f25 gk_f25 lk_f25 mixed) fun x hok=>(e_f25 x.1).trans (s_f25 x.1 hok)
end
end Go.Proofs.YtkkoedniahnneaaDoor.K
namespace Go.Proofs.YtkkoedniahnneaaDoor.K
open Go.RowKit
noncomputable section
set_option linter.unusedSectionVars false
def qd:List Int->Bool×(List Int×Nat)
 | []=>(false,([],0))
 |c::l=>bif ieq c 34 then (true,([],1)) else bif ieq c 92 then (match l with
  | []=>(false,([],1))
  |e::r=>bif ieq e 34||ieq e 92 then ((qd r).1,(e::(qd r).2.1,(qd r).2.2+2)) else (false,([],1))) else bif isClI c then ((qd l).1,(c::(qd l).2.1,(qd l).2.2+1)) else (false,([],0))
abbrev lxR (x:ParserXX):List Int:=(bytesL x.1.1).drop x.1.2.1.toNat
def lxTo (x:ParserXX)(n:Int):ParserXX:=((x.1.1,(x.1.2.1+n,x.1.2.2)),x.2)
def qdF (x:ParserXX):TokenX:=bif (qd ((bytesL x.1.1).drop (x.1.2.1+1).toNat)).1 then (119,(strOf (qd ((bytesL x.1.1).drop (x.1.2.1+1).toNat)).2.1,(false,(x.1.2.2.1,())))) else (63,(ByteArray.mk #[],(false,(x.1.2.2.1,()))))
def qdD (x:ParserXX):ParserXX:=lxTo x (1+(qd ((bytesL x.1.1).drop (x.1.2.1+1).toNat)).2.2)
-- loop 0: (y2 : TokenX) (y3 : (List Int)) (y50000 : ParserXX); out: ('ret',) (y2 : TokenX) (y50000 : ParserXX); ('exit', 0) (y2 : TokenX) (y50000 : ParserXX)
end
end Go.Proofs.YtkkoedniahnneaaDoor.K
namespace Go.Proofs.YtkkoedniahnneaaDoor.K
open Go.RowKit
noncomputable section
set_option linter.unusedSectionVars false
def cmL:List Int->Bool×Nat
 | []=>(false,0)
 |c::l=>bif ieq c 10 then (false,0) else bif isClI c then ((cmL l).1,(cmL l).2+1) else (true,0)
def skL:List Int->Bool->Bool->Bool×(Nat×(Nat×Bool))
 | [],_,w=>(false,(0,(0,w)))
 |c::l,com,w=>bif com&& !ieq c 10 then (bif isClI c then ((skL l true w).1,((skL l true w).2.1+1,(skL l true w).2.2)) else (true,(0,(0,w)))) else
   bif blkI c then ((skL l false false).1,((skL l false false).2.1+1,((skL l false false).2.2.1+(bif ieq c 10 then 1 else 0),(skL l false false).2.2.2))) else
   bif ieq c 35 then ((skL l true w).1,((skL l true w).2.1+1,(skL l true w).2.2)) else (false,(0,(0,w)))
def ltL:List Int->Nat
 | []=>0
 |c::l=>bif ltrB c then ltL l+1 else 0
abbrev lxW (x:ParserXX):Bool:=x.1.2.2.2.1
abbrev lxL (x:ParserXX):Int:=x.1.2.2.1
def lxSk (x:ParserXX)(k:Bool×(Nat×(Nat×Bool))):ParserXX:=((x.1.1,(x.1.2.1+k.2.1,(x.1.2.2.1+k.2.2.1,(k.2.2.2,())))),x.2)
def lxOk2 (x:ParserXX):Bool:=cP (0<=x.1.2.1/\x.1.2.1<=x.1.1.size/\x.1.1.size<=1000000/\0<=x.1.2.2.1/\x.1.2.2.1<=x.1.2.1+1)
def nxP (x:ParserXX):TokenX×ParserXX:=
 bif (skL (lxR x) false (lxW x)).1 then ((63,(ByteArray.mk #[],(false,(lxL (lxSk x (skL (lxR x) false (lxW x))),())))),lxSk x (skL (lxR x) false (lxW x))) else nxQ (lxSk x (skL (lxR x) false (lxW x)))
where nxQ (x:ParserXX):TokenX×ParserXX:=
 bif ige x.1.2.1 (slen x.1.1) then ((0,(ByteArray.mk #[],(false,(lxL x,())))),x) else
 bif ieq (sgt x.1.1 x.1.2.1) 59||(ieq (sgt x.1.1 x.1.2.1) 123||ieq (sgt x.1.1 x.1.2.1) 125) then ((sgt x.1.1 x.1.2.1,(ByteArray.mk #[],(false,(lxL x,())))),((x.1.1,(x.1.2.1+1,(lxL x,(false,())))),x.2)) else
 bif lxW x||(ine (sgt x.1.1 x.1.2.1) 34&& !ltrB (sgt x.1.1 x.1.2.1)) then ((63,(ByteArray.mk #[],(false,(lxL x,())))),x) else
 bif ieq (sgt x.1.1 x.1.2.1) 34 then (qdF ((x.1.1,(x.1.2.1,(lxL x,(true,())))),x.2),qdD ((x.1.1,(x.1.2.1,(lxL x,(true,())))),x.2)) else
 ((119,(ssl x.1.1 x.1.2.1 (x.1.2.1+ltL (lxR x)),(true,(lxL x,())))),lxTo ((x.1.1,(x.1.2.1,(lxL x,(true,())))),x.2) (ltL (lxR x)))
def nxF (x:ParserXX):TokenX:=(nxP x).1
def nxD (x:ParserXX):ParserXX:=(nxP x).2
-- loop 0: (y2 : TokenX) (y50000 : ParserXX); out: ('ret',) (y2 : TokenX) (y50000 : ParserXX); ('exit', 2) (y2 : TokenX) (y50000 : ParserXX)
-- loop 1: (y2 : TokenX) (y50000 : ParserXX); out: ('ret',) (y2 : TokenX) (y50000 : ParserXX); ('exit', 0) (y2 : TokenX) (y50000 : ParserXX)
-- loop 2: (x5 : Int) (y2 : TokenX) (y50000 : ParserXX); out: ('exit', 4) (x5 : Int) (y2 : TokenX) (y50000 : ParserXX)
theorem skL_le: ∀ (l:List Int) (com w:Bool),(skL l com w).2.1<=l.length/\(skL l com w).2.2.1<=(skL l com w).2.1
 | [],_,_=>⟨Nat.le_refl _,Nat.le_refl _⟩
 |c::l,com,w=>by
  obtain ⟨h1,h2⟩:=skL_le l true w
  obtain ⟨h3,h4⟩:=skL_le l false false
  rw [skL.eq_def]
  simp only [List.length_cons]
  cases com&& !ieq c 10 with
  |true=>
   rw [cond_true]
   cases isClI c with
   |true=>exact ⟨by show _+1<=_;omega,by show (skL l true w).2.2.1<=(skL l true w).2.1+1;omega⟩
   |false=>exact ⟨Nat.zero_le _,Nat.le_refl _⟩
  |false=>
   rw [cond_false]
   cases blkI c with
   |true=>
    rw [cond_true]
    cases ieq c 10 with
    |true=>exact ⟨by show _+1<=_;omega,by show _+1<=_+1;omega⟩
    |false=>exact ⟨by show _+1<=_;omega,by show _+0<=_+1;omega⟩
   |false=>
    rw [cond_false]
    cases ieq c 35 with
    |true=>exact ⟨by show _+1<=_;omega,by show (skL l true w).2.2.1<=(skL l true w).2.1+1;omega⟩
    |false=>exact ⟨Nat.zero_le _,Nat.le_refl _⟩
theorem ltL_le: ∀ l:List Int,ltL l<=l.length
 | []=>Nat.le_refl _
 |c::l=>by
  have:=ltL_le l
  unfold ltL
  cases ltrB c<;>simp<;>omega
end
end Go.Proofs.YtkkoedniahnneaaDoor.K
namespace Go.Proofs.YtkkoedniahnneaaDoor.K
open Go.RowKit
noncomputable section
set_option linter.unusedSectionVars false
def tkD (x:ParserXX):ParserXX:=((nxD x).1,(nxF x,(nxD x).2.2))
def flD (x:ParserXX):ParserXX:=bif ieq x.2.2.1 0 then (x.1,(x.2.1,((bif ieq x.2.1.1 0 then endN x.1.1+1 else x.2.1.2.2.2.1),x.2.2.2))) else x
theorem endN_le (s:ByteArray):0<=endN s/\endN s<=s.size:=by
 unfold endN
 have:(bl s).count 10<=(bl s).length:=List.count_le_length
 rw [bl_len] at this
 omega
end
end Go.Proofs.YtkkoedniahnneaaDoor.K
namespace Go.Proofs.YtkkoedniahnneaaDoor.K
open Go.RowKit
noncomputable section
set_option linter.unusedSectionVars false
theorem meets_zeroP {P:Program}{f:FuncId}{b a:Ty}{ok:b.T->a.T->Bool}{F:b.T->a.T->V}{H:b.T->a.T->b.T}(h: ∀ d x,ok d x=false):Meets P f (strip (specP b a ok F H)):=by
 intro args objs r os hF
 unfold strip specP at hF
 split at hF
 ·rename_i r0 os0 hq
  split at hq
  ·split at hq
   ·simp only [h,Option.some.injEq,Prod.mk.injEq,Bool.false_eq_true,false_and] at hq
   ·cases hq
  ·cases hq
 ·cases hF
theorem meets_fuelP {P:Program}{f:FuncId}{b a:Ty}{okN:Nat->b.T->a.T->Bool}{ok:b.T->a.T->Bool}{F:b.T->a.T->V}{H:b.T->a.T->b.T}
  (hN: ∀ N,Meets P f (strip (specP b a (okN N) F H))) (h: ∀ d x,ok d x=true→ ∃ N,okN N d x=true):Meets P f (strip (specP b a ok F H)):=by
 intro args objs r os hF
 unfold strip specP at hF
 split at hF
 ·rename_i r0 os0 hq
  split at hq
  ·split at hq
   ·rename_i d x hd hx
    simp only [Option.some.injEq,Prod.mk.injEq] at hF hq
    obtain ⟨h1,h2⟩:=hF
    obtain ⟨h3,h4,h5⟩:=hq
    subst h1 h2 h4 h5
    obtain ⟨N,hn⟩:=h d x h3
    exact hN N _ _ _ _ (by unfold strip specP;simp only [hd,hx,hn])
   ·cases hq
  ·cases hq
 ·cases hF
theorem qd_le: ∀ l:List Int,(qd l).2.2<=l.length∧ ∀ e r,l=e::r->(qd r).2.2<=r.length
 | []=>⟨Nat.le_refl _,fun _ _ h=>by cases h⟩
 |c::l=>by
  obtain ⟨h1,h2⟩:=qd_le l
  refine ⟨?_,fun e r h=>by cases h;exact h1⟩
  rw [qd.eq_def]
  simp only [List.length_cons]
  cases ieq c 34 with
  |true=>show 1<=_;omega
  |false=>
   rw [cond_false]
   cases ieq c 92 with
   |false=>
    rw [cond_false]
    cases isClI c with
    |true=>show (qd l).2.2+1<=_;omega
    |false=>exact Nat.zero_le _
   |true=>
    rw [cond_true]
    cases l with
    |nil=>show 1<=_;omega
    |cons e r=>
     have h3:=h2 e r rfl
     simp only [List.length_cons]
     cases ieq e 34||ieq e 92 with
     |true=>show (qd r).2.2+2<=_;omega
     |false=>show 1<=_;omega
structure Adv (x y:ParserXX):Prop where
 text:y.1.1=x.1.1
 rest:y.2=x.2
 le:x.1.2.1<=y.1.2.1
 size:y.1.2.1<=(y.1.1.size:Int)
 line0:0<=y.1.2.2.1
 line:y.1.2.2.1<=y.1.2.1+1
theorem adv_sk {x:ParserXX}(h:lxOk2 x=true):Adv x (lxSk x (skL (lxR x) false (lxW x))):=by
 obtain ⟨h1,h2,h3,h4,h5⟩:=cP_of h
 have hb:=bytesG_len x.1.1
 have hk:=skL_le (lxR x) false (lxW x)
 rw [show (lxR x).length=(bytesL x.1.1).length-x.1.2.1.toNat from List.length_drop] at hk
 generalize skL (lxR x) false (lxW x)=K at hk ⊢
 refine ⟨rfl,rfl, ?_, ?_, ?_, ?_⟩
 ·show x.1.2.1<=x.1.2.1+(K.2.1:Int)
  omega
 ·show x.1.2.1+(K.2.1:Int)<=(x.1.1.size:Int)
  omega
 ·show 0<=x.1.2.2.1+(K.2.2.1:Int)
  omega
 ·show x.1.2.2.1+(K.2.2.1:Int)<=x.1.2.1+(K.2.1:Int)+1
  omega
theorem adv_q {y:ParserXX}(h1:0<=y.1.2.1)(h2:y.1.2.1<=(y.1.1.size:Int))(h3:0<=y.1.2.2.1)(h4:y.1.2.2.1<=y.1.2.1+1):
  Adv y (nxP.nxQ y).2/\((nxP.nxQ y).1.1=63∨(nxP.nxQ y).1.1=0∨y.1.2.1+1<=(nxP.nxQ y).2.1.2.1):=by
 obtain ⟨⟨t,a,ln,w,u1⟩,r⟩:=y
 simp only at h1 h2 h3 h4
 obtain ⟨k,rfl⟩:=Int.eq_ofNat_of_zero_le h1
 have hl:=bytesG_len t
 unfold nxP.nxQ
 simp only
 by_cases hlt:k<t.size
 ·have hkl:k<(bytesL t).length:=by omega
  have e1:ige (k:Int) (slen t)=false:=decide_eq_false (by simp only [slen];omega)
  rw [e1,cond_false,sgt_get hlt]
  cases ieq (bytesL t)[k] 59||(ieq (bytesL t)[k] 123||ieq (bytesL t)[k] 125) with
  |true=>exact ⟨⟨rfl,rfl,by show (k:Int)<=(k:Int)+1;omega,by show (k:Int)+1<=(t.size:Int);omega,h3,by show ln<=(k:Int)+1+1;omega⟩,.inr (.inr (by show (k:Int)+1<=(k:Int)+1;omega))⟩
  |false=>
   rw [cond_false]
   cases hc:lxW ((t,((k:Int),(ln,(w,u1)))),r)||(ine (bytesL t)[k] 34&& !ltrB (bytesL t)[k]) with
   |true=>exact ⟨⟨rfl,rfl,Int.le_refl _,h2,h3,h4⟩,.inl rfl⟩
   |false=>
    rw [cond_false]
    cases h34:ieq (bytesL t)[k] 34 with
    |true=>
     have hq:=(qd_le ((bytesL t).drop (k+1))).1
     rw [List.length_drop] at hq
     have e9: ∀ q:Bool,(qdD ((t,((k:Int),(ln,(q,())))),r))=((t,((k:Int)+(1+((qd ((bytesL t).drop (k+1))).2.2:Int)),(ln,(q,())))),r):=fun q=>by
      show ((t,((k:Int)+(1+((qd ((bytesL t).drop ((k:Int)+1).toNat)).2.2:Int)),(ln,(q,())))),r)=_
      rw [show ((k:Int)+1).toNat=k+1 by omega]
     rw [cond_true]
     show Adv _ (qdD ((t,((k:Int),(ln,(true,())))),r))/\(_∨_∨(k:Int)+1<=(qdD ((t,((k:Int),(ln,(true,())))),r)).1.2.1)
     rw [e9]
     refine ⟨⟨rfl,rfl, ?_, ?_,h3, ?_⟩,.inr (.inr ?_)⟩
     ·show (k:Int)<=(k:Int)+(1+((qd ((bytesL t).drop (k+1))).2.2:Int));omega
     ·show (k:Int)+(1+((qd ((bytesL t).drop (k+1))).2.2:Int))<=(t.size:Int);omega
     ·show ln<=(k:Int)+(1+((qd ((bytesL t).drop (k+1))).2.2:Int))+1;omega
     ·show (k:Int)+1<=(k:Int)+(1+((qd ((bytesL t).drop (k+1))).2.2:Int));omega
    |false=>
     have hlet:ltrB (bytesL t)[k]=true:=by
      rw [show ine (bytesL t)[k] 34= !ieq (bytesL t)[k] 34 from rfl,h34] at hc
      cases hq:ltrB (bytesL t)[k] with
      |true=>rfl
      |false=>rw [hq] at hc;cases hw:lxW ((t,((k:Int),(ln,(w,u1)))),r)<;>rw [hw] at hc<;>cases hc
     have e6:lxR ((t,((k:Int),(ln,(w,u1)))),r)=(bytesL t).drop k:=rfl
     have hq:=ltL_le ((bytesL t).drop k)
     rw [List.length_drop] at hq
     have hp:1<=ltL ((bytesL t).drop k):=by
      rw [List.drop_eq_getElem_cons hkl]
      unfold ltL
      rw [hlet,cond_true]
      omega
     rw [cond_false,e6]
     refine ⟨⟨rfl,rfl, ?_, ?_,h3, ?_⟩,.inr (.inr ?_)⟩
     ·show (k:Int)<=(k:Int)+(ltL ((bytesL t).drop k):Int);omega
     ·show (k:Int)+(ltL ((bytesL t).drop k):Int)<=(t.size:Int);omega
     ·show ln<=(k:Int)+(ltL ((bytesL t).drop k):Int)+1;omega
     ·show (k:Int)+1<=(k:Int)+(ltL ((bytesL t).drop k):Int);omega
 ·have e1:ige (k:Int) (slen t)=true:=decide_eq_true (by simp only [slen];omega)
  rw [e1]
  exact ⟨⟨rfl,rfl,Int.le_refl _,h2,h3,h4⟩,.inr (.inl rfl)⟩
theorem adv_nx {x:ParserXX}(h:lxOk2 x=true):Adv x (nxD x)/\((nxF x).1=63∨(nxF x).1=0∨x.1.2.1+1<=(nxD x).1.2.1):=by
 obtain ⟨h1,h2,h3,h4,h5⟩:=cP_of h
 have ha:=adv_sk h
 unfold nxD nxF nxP
 cases (skL (lxR x) false (lxW x)).1 with
 |true=>exact ⟨ha,.inl rfl⟩
 |false=>
  rw [cond_false]
  generalize lxSk x (skL (lxR x) false (lxW x))=y at ha ⊢
  obtain ⟨b1,b2⟩:=adv_q (y:=y) (Int.le_trans h1 ha.le) ha.size ha.line0 ha.line
  refine ⟨⟨b1.text.trans ha.text,b1.rest.trans ha.rest,Int.le_trans ha.le b1.le,b1.size,b1.line0,b1.line⟩, ?_⟩
  rcases b2 with b2|b2|b2
  ·exact .inl b2
  ·exact .inr (.inl b2)
  ·exact .inr (.inr (by have:=ha.le;omega))
end
end Go.Proofs.YtkkoedniahnneaaDoor.K
namespace Go.Proofs.YtkkoedniahnneaaDoor.K
open Go.RowKit
noncomputable section
set_option linter.unusedSectionVars false
def rmX (x:ParserXX):Nat:=((x.1.1.size:Int)-x.1.2.1).toNat
structure Tk (x y:ParserXX):Prop where
 ok:lxOk2 y=true
 text:y.1.1=x.1.1
 rest:y.2.2=x.2.2
 rm:rmX y<=rmX x
 adv:y.2.1.1=119∨y.2.1.1=59∨y.2.1.1=123∨y.2.1.1=125->rmX y+1<=rmX x
theorem tk_ok {x:ParserXX}(h:lxOk2 x=true):Tk x (tkD x):=by
 obtain ⟨h1,h2,h3,h4,h5⟩:=cP_of h
 obtain ⟨a,b⟩:=adv_nx h
 have e1:(tkD x).1=(nxD x).1:=rfl
 have e2:(tkD x).2.1=nxF x:=rfl
 have e3:(tkD x).2.2=(nxD x).2.2:=rfl
 have hz:(tkD x).1.1.size=x.1.1.size:=by rw [e1,a.text]
 have hl:=a.le
 have hs:=a.size
 have ha0:=a.line0
 have ha1:=a.line
 rw [←e1] at hl hs ha0 ha1
 refine ⟨cP_in ⟨by omega,hs,by omega,ha0,ha1⟩,by rw [e1,a.text],by rw [e3,a.rest], ?_,fun hh=> ?_⟩
 ·unfold rmX
  omega
 ·have:x.1.2.1+1<=(tkD x).1.2.1:=by
   rcases b with b|b|b
   ·rw [e2,b] at hh
    omega
   ·rw [e2,b] at hh
    omega
   ·exact b
  unfold rmX
  omega
def wsG:Nat->List ByteArray->ParserXX->List ByteArray×ParserXX
 |0,ws,x=>(ws,x)
 |m+1,ws,x=>bif ieq x.2.1.1 119 then wsG m (ws++[x.2.1.2.1]) (tkD x) else (ws,x)
theorem wsG_not {m:Nat}{ws:List ByteArray}{x:ParserXX}(h:ieq x.2.1.1 119=false):wsG m ws x=(ws,x):=by
 cases m with
 |zero=>rfl
 |succ m=>
  unfold wsG
  rw [h]
  rfl
theorem wsG_st: ∀ (m:Nat) (ws:List ByteArray) (x:ParserXX),lxOk2 x=true->rmX x+1<=m->wsG (m+1) ws x=wsG m ws x
 |0,_,_,_,h=>by omega
 |m+1,ws,x,hx,h=>by
  cases hq:ieq x.2.1.1 119 with
  |false=>rw [wsG_not hq,wsG_not hq]
  |true=>
   have e1:wsG (m+1+1) ws x=wsG (m+1) (ws++[x.2.1.2.1]) (tkD x):=by
    show (bif ieq x.2.1.1 119 then wsG (m+1) (ws++[x.2.1.2.1]) (tkD x) else (ws,x))=_
    rw [hq]
    rfl
   have e2:wsG (m+1) ws x=wsG m (ws++[x.2.1.2.1]) (tkD x):=by
    show (bif ieq x.2.1.1 119 then wsG m (ws++[x.2.1.2.1]) (tkD x) else (ws,x))=_
    rw [hq]
    rfl
   rw [e1,e2]
   cases hn:ieq (tkD x).2.1.1 119 with
   |false=>rw [wsG_not hn,wsG_not hn]
   |true=>
    have ht:=tk_ok hx
    have:=ht.adv (.inl (eq_of_beq hn))
    exact wsG_st m _ _ ht.ok (by omega)
theorem wsG_up {x:ParserXX}(hx:lxOk2 x=true)(ws:List ByteArray): ∀ k m:Nat,rmX x+1<=m->wsG (m+k) ws x=wsG m ws x
 |0,_,_=>rfl
 |k+1,m,h=>(wsG_st (m+k) ws x hx (by omega)).trans (wsG_up hx ws k m h)
def wsX (ws:List ByteArray)(x:ParserXX):List ByteArray×ParserXX:=wsG (rmX x+1) ws x
theorem wsX_not {ws:List ByteArray}{x:ParserXX}(h:ieq x.2.1.1 119=false):wsX ws x=(ws,x):=wsG_not h
theorem wsX_word {ws:List ByteArray}{x:ParserXX}(hx:lxOk2 x=true)(h:ieq x.2.1.1 119=true):wsX ws x=wsX (ws++[x.2.1.2.1]) (tkD x):=by
 have ht:=tk_ok hx
 have e1:wsX ws x=wsG (rmX x) (ws++[x.2.1.2.1]) (tkD x):=by
  show (bif ieq x.2.1.1 119 then wsG (rmX x) (ws++[x.2.1.2.1]) (tkD x) else (ws,x))=_
  rw [h]
  rfl
 rw [e1]
 unfold wsX
 cases hn:ieq (tkD x).2.1.1 119 with
 |false=>rw [wsG_not hn,wsG_not hn]
 |true=>
  have:=ht.adv (.inl (eq_of_beq hn))
  obtain ⟨k,hk⟩: ∃ k,rmX x=(rmX (tkD x)+1)+k:=⟨rmX x-(rmX (tkD x)+1),by omega⟩
  rw [hk,wsG_up ht.ok _ k _ (Nat.le_refl _)]
theorem wsX_ok: ∀ (m:Nat) (ws:List ByteArray) (x:ParserXX),lxOk2 x=true->rmX x<=m->lxOk2 (wsX ws x).2=true/\(wsX ws x).2.1.1=x.1.1/\(wsX ws x).2.2.2=x.2.2/\rmX (wsX ws x).2<=rmX x/\ieq (wsX ws x).2.2.1.1 119=false/\(wsX ws x).1.length<=ws.length+rmX x+1
 |m,ws,x,hx,hm=>by
  cases hq:ieq x.2.1.1 119 with
  |false=>
   rw [wsX_not hq]
   exact ⟨hx,rfl,rfl,Nat.le_refl _,hq,by show ws.length<=_;omega⟩
  |true=>
   have ht:=tk_ok hx
   rw [wsX_word hx hq]
   cases hn:ieq (tkD x).2.1.1 119 with
   |false=>
    rw [wsX_not hn]
    exact ⟨ht.ok,ht.text,ht.rest,ht.rm,hn,by rw [List.length_append,List.length_singleton];omega⟩
   |true=>
    have h1:=ht.adv (.inl (eq_of_beq hn))
    cases m with
    |zero=>omega
    |succ m=>
     obtain ⟨g1,g2,g3,g4,g5,g6⟩:=wsX_ok m (ws++[x.2.1.2.1]) (tkD x) ht.ok (by omega)
     rw [List.length_append,List.length_singleton] at g6
     exact ⟨g1,g2.trans ht.text,g3.trans ht.rest,by omega,g5,by omega⟩
end
end Go.Proofs.YtkkoedniahnneaaDoor.K
namespace Go.Proofs.YtkkoedniahnneaaDoor.K
open Go.RowKit
noncomputable section
set_option linter.unusedSectionVars false
def okR (x:ParserXX):Bool:=lxOk2 x&&cP (1<=x.1.2.2.1/\1<=x.2.1.2.2.2.1)
theorem nx_line (x:ParserXX):(nxF x).2.2.2.1=(nxD x).1.2.2.1:=by
 unfold nxF nxD nxP
 cases (skL (lxR x) false (lxW x)).1 with
 |true=>rfl
 |false=>
  rw [cond_false]
  generalize lxSk x (skL (lxR x) false (lxW x))=y
  unfold nxP.nxQ
  cases ige y.1.2.1 (slen y.1.1) with
  |true=>rfl
  |false=>
   rw [cond_false]
   cases ieq (sgt y.1.1 y.1.2.1) 59||(ieq (sgt y.1.1 y.1.2.1) 123||ieq (sgt y.1.1 y.1.2.1) 125) with
   |true=>rfl
   |false=>
    rw [cond_false]
    cases lxW y||(ine (sgt y.1.1 y.1.2.1) 34&& !ltrB (sgt y.1.1 y.1.2.1)) with
    |true=>rfl
    |false=>
     rw [cond_false]
     cases ieq (sgt y.1.1 y.1.2.1) 34 with
     |false=>rfl
     |true=>
      rw [cond_true]
      unfold qdF qdD lxTo
      cases (qd ((bytesL ((y.1.1,(y.1.2.1,(lxL y,(true,())))),y.2).1.1).drop (((y.1.1,(y.1.2.1,(lxL y,(true,())))),y.2).1.2.1+1).toNat)).1<;>rfl
theorem nx_up {x:ParserXX}:x.1.2.2.1<=(nxD x).1.2.2.1:=by
 have hs:x.1.2.2.1<=(lxSk x (skL (lxR x) false (lxW x))).1.2.2.1:=by
  show x.1.2.2.1<=x.1.2.2.1+((skL (lxR x) false (lxW x)).2.2.1:Int)
  omega
 unfold nxD nxP
 cases (skL (lxR x) false (lxW x)).1 with
 |true=>exact hs
 |false=>
  rw [cond_false]
  generalize lxSk x (skL (lxR x) false (lxW x))=y at hs ⊢
  unfold nxP.nxQ
  cases ige y.1.2.1 (slen y.1.1) with
  |true=>exact hs
  |false=>
   rw [cond_false]
   cases ieq (sgt y.1.1 y.1.2.1) 59||(ieq (sgt y.1.1 y.1.2.1) 123||ieq (sgt y.1.1 y.1.2.1) 125) with
   |true=>exact hs
   |false=>
    rw [cond_false]
    cases lxW y||(ine (sgt y.1.1 y.1.2.1) 34&& !ltrB (sgt y.1.1 y.1.2.1)) with
    |true=>exact hs
    |false=>
     rw [cond_false]
     cases ieq (sgt y.1.1 y.1.2.1) 34 with
     |false=>exact hs
     |true=>exact hs
theorem okR_tk {x:ParserXX}(h:okR x=true):okR (tkD x)=true:=by
 obtain ⟨h1,h2⟩:=Bool.and_eq_true_iff.1 h
 obtain ⟨h2,h3⟩:=cP_of h2
 have hu:=nx_up (x:=x)
 have hl:=nx_line x
 refine Bool.and_eq_true_iff.2 ⟨(tk_ok h1).ok,cP_in ⟨?_, ?_⟩⟩
 ·show 1<=(nxD x).1.2.2.1
  omega
 ·show 1<=(nxF x).2.2.2.1
  omega
theorem okR_lx {x:ParserXX}(h:okR x=true):lxOk2 x=true:=(Bool.and_eq_true_iff.1 h).1
theorem okR_ws: ∀ (m:Nat) (ws:List ByteArray) (x:ParserXX),okR x=true->rmX x<=m->okR (wsX ws x).2=true
 |m,ws,x,hx,hm=>by
  have hx1:=okR_lx hx
  cases hq:ieq x.2.1.1 119 with
  |false=>
   rw [wsX_not hq]
   exact hx
  |true=>
   have ht:=tk_ok hx1
   rw [wsX_word hx1 hq]
   cases hn:ieq (tkD x).2.1.1 119 with
   |false=>
    rw [wsX_not hn]
    exact okR_tk hx
   |true=>
    have h1:=ht.adv (.inl (eq_of_beq hn))
    cases m with
    |zero=>omega
    |succ m=>exact okR_ws m _ (tkD x) (okR_tk hx) (by omega)
theorem fl_err {x:ParserXX}(h:okR x=true):ine (flD x).2.2.1 0=true:=by
 obtain ⟨h1,h2⟩:=Bool.and_eq_true_iff.1 h
 obtain ⟨h2,h3⟩:=cP_of h2
 have he:=endN_le x.1.1
 unfold flD
 cases hq:ieq x.2.2.1 0 with
 |false=>
  rw [cond_false]
  show (!ieq x.2.2.1 0)=true
  rw [hq]
  rfl
 |true=>
  rw [cond_true]
  show (bif ieq x.2.1.1 0 then endN x.1.1+1 else x.2.1.2.2.2.1) != 0
  cases ieq x.2.1.1 0 with
  |true=>rw [cond_true,bne_iff_ne];omega
  |false=>rw [cond_false,bne_iff_ne];omega
def dS (b:Bool)(x:ParserXX):ParserXX:=(x.1,(x.2.1,(x.2.2.1,(x.2.2.2.1||b,()))))
theorem okR_dS {b:Bool}{x:ParserXX}(h:okR x=true):okR (dS b x)=true:=h
abbrev RecT:Type:=Int->List BlkT->ParserXX->List BlkT×ParserXX
def stC (rec:RecT)(lv:Int)(acc:List BlkT)(ln:Int)(ws:List ByteArray)(i:List BlkT×ParserXX):List BlkT×ParserXX:=
 bif ine i.2.2.2.1 0 then (acc,i.2) else bif ine i.2.2.1.1 125 then (acc,flD i.2) else rec lv (acc++[(ws,(true,(i.1.map Blk.of,(ln,()))))]) (tkD i.2)
def stB (rec:RecT)(lv:Int)(acc:List BlkT)(ln:Int)(ws:List ByteArray)(y:ParserXX):List BlkT×ParserXX:=
 bif ieq y.2.1.1 59 then rec lv (acc++[(ws,(false,([],(ln,()))))]) (tkD y) else
 bif ieq y.2.1.1 123 then stC rec lv acc ln ws (rec (lv+1) [] (tkD y)) else (acc,flD y)
def stG:Nat->Int->List BlkT->ParserXX->List BlkT×ParserXX
 |0,_,acc,x=>(acc,x)
 |N+1,lv,acc,x=>
  bif !(ieq x.2.2.1 0&&(ine x.2.1.1 0&&ine x.2.1.1 125)) then (acc,x) else
  bif ine x.2.1.1 119|| !x.2.1.2.2.1 then (acc,flD x) else
  stB (fun lv acc x=>stG N lv acc x) lv acc x.2.1.2.2.2.1 (wsX [] (dS (igt lv 16) x)).1 (dS (igt (llen (wsX [] (dS (igt lv 16) x)).1) 64) (wsX [] (dS (igt lv 16) x)).2)
end
end Go.Proofs.YtkkoedniahnneaaDoor.K
namespace Go.Proofs.YtkkoedniahnneaaDoor.K
open Go.RowKit
noncomputable section
set_option linter.unusedSectionVars false
theorem wsX_adv: ∀ (m:Nat) (ws:List ByteArray) (x:ParserXX),lxOk2 x=true->ieq x.2.1.1 119=true->rmX x<=m->(wsX ws x).2.2.1.1=59∨(wsX ws x).2.2.1.1=123->rmX (wsX ws x).2+1<=rmX x
 |m,ws,x,hx,hq,hm,hs=>by
  have ht:=tk_ok hx
  rw [wsX_word hx hq] at hs ⊢
  cases hn:ieq (tkD x).2.1.1 119 with
  |false=>
   rw [wsX_not hn] at hs ⊢
   exact ht.adv (by rcases hs with h|h;exact .inr (.inl h);exact .inr (.inr (.inl h)))
  |true=>
   have h1:=ht.adv (.inl (eq_of_beq hn))
   cases m with
   |zero=>omega
   |succ m=>
    have:=wsX_adv m _ (tkD x) ht.ok hn (by omega) hs
    omega
theorem okR_fl {x:ParserXX}(h:okR x=true):okR (flD x)=true:=by
 unfold flD
 cases ieq x.2.2.1 0 with
 |false=>exact h
 |true=>exact h
theorem rm_fl (x:ParserXX):rmX (flD x)=rmX x:=by
 unfold flD
 cases ieq x.2.2.1 0<;>rfl
def hdX (lv:Int)(x:ParserXX):ParserXX:=dS (igt (llen (wsX [] (dS (igt lv 16) x)).1) 64) (wsX [] (dS (igt lv 16) x)).2
theorem hd_ok {lv:Int}{x:ParserXX}(h:okR x=true):okR (hdX lv x)=true/\rmX (hdX lv x)<=rmX x:=by
 have h1:okR (dS (igt lv 16) x)=true:=h
 exact ⟨okR_ws _ [] _ h1 (Nat.le_refl _),(wsX_ok _ [] (dS (igt lv 16) x) (okR_lx h1) (Nat.le_refl _)).2.2.2.1⟩
theorem hd_adv {lv:Int}{x:ParserXX}(h:okR x=true)(hq:ieq x.2.1.1 119=true)(hs:(hdX lv x).2.1.1=59∨(hdX lv x).2.1.1=123):rmX (hdX lv x)+1<=rmX x:=by
 have h1:okR (dS (igt lv 16) x)=true:=h
 exact wsX_adv _ [] (dS (igt lv 16) x) (okR_lx h1) hq (Nat.le_refl _) hs
theorem rm_tk {x:ParserXX}(h:okR x=true):rmX (tkD x)<=rmX x:=(tk_ok (okR_lx h)).rm
theorem stG_eq (N:Nat)(lv:Int)(acc:List BlkT)(x:ParserXX):stG (N+1) lv acc x=bif !(ieq x.2.2.1 0&&(ine x.2.1.1 0&&ine x.2.1.1 125)) then (acc,x) else
  bif ine x.2.1.1 119|| !x.2.1.2.2.1 then (acc,flD x) else stB (stG N) lv acc x.2.1.2.2.2.1 (wsX [] (dS (igt lv 16) x)).1 (hdX lv x):=rfl
theorem stG_ok: ∀ (N:Nat) (lv:Int) (acc:List BlkT) (x:ParserXX),okR x=true->okR (stG N lv acc x).2=true/\rmX (stG N lv acc x).2<=rmX x
 |0,_,_,x,h=>⟨h,Nat.le_refl _⟩
 |N+1,lv,acc,x,h=>by
  rw [stG_eq]
  cases !(ieq x.2.2.1 0&&(ine x.2.1.1 0&&ine x.2.1.1 125)) with
  |true=>exact ⟨h,Nat.le_refl _⟩
  |false=>
   rw [cond_false]
   cases ine x.2.1.1 119|| !x.2.1.2.2.1 with
   |true=>exact ⟨okR_fl h,by rw [cond_true,rm_fl];exact Nat.le_refl _⟩
   |false=>
    rw [cond_false]
    obtain ⟨h1,h2⟩:=hd_ok (lv:=lv) h
    generalize (wsX [] (dS (igt lv 16) x)).1=ws
    generalize hdX lv x=y at h1 h2 ⊢
    have k1:=rm_tk h1
    unfold stB
    cases ieq y.2.1.1 59 with
    |true=>
     rw [cond_true]
     obtain ⟨g1,g2⟩:=stG_ok N lv (acc++[(ws,(false,([],(x.2.1.2.2.2.1,()))))]) (tkD y) (okR_tk h1)
     exact ⟨g1,by omega⟩
    |false=>
     rw [cond_false]
     cases ieq y.2.1.1 123 with
     |false=>exact ⟨okR_fl h1,by rw [cond_false,rm_fl];exact h2⟩
     |true=>
      rw [cond_true]
      obtain ⟨g1,g2⟩:=stG_ok N (lv+1) [] (tkD y) (okR_tk h1)
      generalize stG N (lv+1) [] (tkD y)=i at g1 g2 ⊢
      unfold stC
      cases ine i.2.2.2.1 0 with
      |true=>exact ⟨g1,by rw [cond_true];show rmX i.2<=_;omega⟩
      |false=>
       rw [cond_false]
       cases ine i.2.2.1.1 125 with
       |true=>exact ⟨okR_fl g1,by rw [cond_true];show rmX (flD i.2)<=_;rw [rm_fl];omega⟩
       |false=>
        rw [cond_false]
        obtain ⟨f1,f2⟩:=stG_ok N lv (acc++[(ws,(true,(i.1.map Blk.of,(x.2.1.2.2.2.1,()))))]) (tkD i.2) (okR_tk g1)
        have:=rm_tk g1
        exact ⟨f1,by omega⟩
theorem stG_st: ∀ (N:Nat) (lv:Int) (acc:List BlkT) (x:ParserXX),okR x=true->rmX x+1<=N->stG (N+1) lv acc x=stG N lv acc x
 |0,_,_,_,_,h=>by omega
 |N+1,lv,acc,x,h,hN=>by
  rw [stG_eq,stG_eq]
  cases !(ieq x.2.2.1 0&&(ine x.2.1.1 0&&ine x.2.1.1 125)) with
  |true=>rfl
  |false=>
   rw [cond_false,cond_false]
   cases hc:ine x.2.1.1 119|| !x.2.1.2.2.1 with
   |true=>rfl
   |false=>
    rw [cond_false,cond_false]
    have hq:ieq x.2.1.1 119=true:=by
     cases hz:ieq x.2.1.1 119 with
     |true=>rfl
     |false=>
      rw [show ine x.2.1.1 119= !ieq x.2.1.1 119 from rfl,hz] at hc
      cases hc
    obtain ⟨h1,h2⟩:=hd_ok (lv:=lv) h
    have ha:=hd_adv (lv:=lv) h hq
    generalize (wsX [] (dS (igt lv 16) x)).1=ws
    generalize hdX lv x=y at h1 h2 ha ⊢
    have k1:=rm_tk h1
    unfold stB
    cases h59:ieq y.2.1.1 59 with
    |true=>
     rw [cond_true,cond_true]
     have:=ha (.inl (eq_of_beq h59))
     exact stG_st N _ _ _ (okR_tk h1) (by omega)
    |false=>
     rw [cond_false,cond_false]
     cases h123:ieq y.2.1.1 123 with
     |false=>rfl
     |true=>
      rw [cond_true,cond_true]
      have:=ha (.inr (eq_of_beq h123))
      rw [stG_st N (lv+1) [] (tkD y) (okR_tk h1) (by omega)]
      obtain ⟨g1,g2⟩:=stG_ok N (lv+1) [] (tkD y) (okR_tk h1)
      generalize stG N (lv+1) [] (tkD y)=i at g1 g2 ⊢
      unfold stC
      cases ine i.2.2.2.1 0 with
      |true=>rfl
      |false=>
       rw [cond_false,cond_false]
       cases ine i.2.2.1.1 125 with
       |true=>rfl
       |false=>
        rw [cond_false,cond_false]
        have:=rm_tk g1
        exact stG_st N _ _ _ (okR_tk g1) (by omega)
theorem stG_up {x:ParserXX}(h:okR x=true)(lv:Int)(acc:List BlkT): ∀ k N:Nat,rmX x+1<=N->stG (N+k) lv acc x=stG N lv acc x
 |0,_,_=>rfl
 |k+1,N,hN=>(stG_st (N+k) lv acc x h (by omega)).trans (stG_up h lv acc k N hN)
def stX (lv:Int)(acc:List BlkT)(x:ParserXX):List BlkT×ParserXX:=stG (rmX x+1) lv acc x
theorem stX_is {x:ParserXX}(h:okR x=true){N:Nat}(hN:rmX x+1<=N)(lv:Int)(acc:List BlkT):stG N lv acc x=stX lv acc x:=by
 obtain ⟨k,rfl⟩: ∃ k,N=(rmX x+1)+k:=⟨N-(rmX x+1),by omega⟩
 exact stG_up h lv acc k _ (Nat.le_refl _)
end
end Go.Proofs.YtkkoedniahnneaaDoor.K
set_option linter.unusedSectionVars false
namespace Go.Proofs.YtkkoedniahnneaaDoor.K
open Go.RowKit
noncomputable section
set_option linter.unusedSectionVars false
def stBad (lv:Int)(acc:List BlkT)(x:ParserXX):Bool:=ieq x.2.2.1 0&&ine (stX lv acc x).2.2.2.1 0
def stF (x:ParserXX)(lv:Int):List BlkT:=bif stBad lv [] x then [] else (stX lv [] x).1
def stD (x:ParserXX)(lv:Int):ParserXX:=(stX lv [] x).2
def stS:Nat->ParserXX->Int->Bool
 |0,_,_=>false
 |n+1,x,lv=>okR x&&cP (rmX x<=n/\0<=lv/\lv+rmX x<=2000000)
theorem stX_eq {x:ParserXX}(h:okR x=true)(lv:Int)(acc:List BlkT):stX lv acc x=bif !(ieq x.2.2.1 0&&(ine x.2.1.1 0&&ine x.2.1.1 125)) then (acc,x) else
  bif ine x.2.1.1 119|| !x.2.1.2.2.1 then (acc,flD x) else stB stX lv acc x.2.1.2.2.2.1 (wsX [] (dS (igt lv 16) x)).1 (hdX lv x):=by
 rw [show stX lv acc x=stG (rmX x+1) lv acc x from rfl,stG_eq]
 cases !(ieq x.2.2.1 0&&(ine x.2.1.1 0&&ine x.2.1.1 125)) with
 |true=>rfl
 |false=>
  rw [cond_false,cond_false]
  cases hc:ine x.2.1.1 119|| !x.2.1.2.2.1 with
  |true=>rfl
  |false=>
   rw [cond_false,cond_false]
   have hq:ieq x.2.1.1 119=true:=by
    cases hz:ieq x.2.1.1 119 with
    |true=>rfl
    |false=>
     rw [show ine x.2.1.1 119= !ieq x.2.1.1 119 from rfl,hz] at hc
     cases hc
   obtain ⟨h1,h2⟩:=hd_ok (lv:=lv) h
   have ha:=hd_adv (lv:=lv) h hq
   generalize (wsX [] (dS (igt lv 16) x)).1=ws
   generalize hdX lv x=y at h1 h2 ha ⊢
   have k1:=rm_tk h1
   unfold stB
   cases h59:ieq y.2.1.1 59 with
   |true=>
    rw [cond_true,cond_true]
    have:=ha (.inl (eq_of_beq h59))
    exact stX_is (okR_tk h1) (by omega) _ _
   |false=>
    rw [cond_false,cond_false]
    cases h123:ieq y.2.1.1 123 with
    |false=>rfl
    |true=>
     rw [cond_true,cond_true]
     have:=ha (.inr (eq_of_beq h123))
     rw [stX_is (okR_tk h1) (by omega)]
     obtain ⟨g1,g2⟩:=stG_ok (rmX (tkD y)+1) (lv+1) [] (tkD y) (okR_tk h1)
     rw [show stG (rmX (tkD y)+1) (lv+1) [] (tkD y)=stX (lv+1) [] (tkD y) from rfl] at g1 g2
     generalize stX (lv+1) [] (tkD y)=i at g1 g2 ⊢
     unfold stC
     cases ine i.2.2.2.1 0 with
     |true=>rfl
     |false=>
      rw [cond_false,cond_false]
      cases ine i.2.2.1.1 125 with
      |true=>rfl
      |false=>
       rw [cond_false,cond_false]
       have:=rm_tk g1
       exact stX_is (okR_tk g1) (by omega) _ _
def sp_f94R [Fuel]:Ent:=specP tyParserXX (.pr tI .nil) (fun d x=>(stS fuel d x.1)) (fun d x=>(.t (.sl tyBlkT) (stF d x.1))) (fun d x=>(stD d x.1))
section
variable [Fuel][Nonempty (PLift (Meets Tryd.prog 94 (strip sp_f94R)))]
-- loop 0: (x1 : Int) (y5 : (List BlkT)) (y6_1 : Bool) (y6_3 : Int) (y20600 : (List ByteArray)) (y50000 : ParserXX); out: ('exit', 2) (x1 : Int) (y5 : (List BlkT)) (y6_1 : Bool) (y6_3 : Int) (y20600 : (List ByteArray)) (y50000 : ParserXX)
-- loop 1: (x1 : Int) (y5 : (List BlkT)) (y50000 : ParserXX); out: ('ret',) (y5 : (List BlkT)) (y50000 : ParserXX); ('exit', 0) (y5 : (List BlkT)) (y50000 : ParserXX)
end
end
end Go.Proofs.YtkkoedniahnneaaDoor.K
namespace Go.Proofs.YtkkoedniahnneaaDoor.K
open Go.RowKit
noncomputable section
set_option linter.unusedSectionVars false
def psX (s:ByteArray):ParserXX:=((s,(0,(1,(false,())))),((0,(ByteArray.mk #[],(false,(0,())))),(0,(false,()))))
def psY (s:ByteArray):ParserXX:=stD (tkD (psX s)) 1
def psZ (s:ByteArray):ParserXX:=bif ieq (psY s).2.2.1 0&&ine (psY s).2.1.1 0 then flD (psY s) else psY s
def paB (s:ByteArray):List BlkT×(Int×Int):=bif igt (slen s) 8192 then ([],(0,3)) else bif igt (endN s) 200 then ([],(0,3)) else
 bif ine (psZ s).2.2.1 0 then ([],((psZ s).2.2.1,1)) else bif (psZ s).2.2.2.1 then ([],(0,3)) else (stF (tkD (psX s)) 1,(0,0))
def paOk (s:ByteArray):Bool:=nameG s
theorem okR_ps {s:ByteArray}(h:s.size<=8192):okR (tkD (psX s))=true/\rmX (tkD (psX s))<=8192/\lxOk2 (psX s)=true:=by
 have h0:lxOk2 (psX s)=true:=cP_in ⟨Int.le_refl 0,by show (0:Int)<=(s.size:Int);omega,by show s.size<=1000000;omega,by show (0:Int)<=1;omega,by show (1:Int)<=0+1;omega⟩
 have hu:=nx_up (x:=psX s)
 have hu:(1:Int)<=(nxD (psX s)).1.2.2.1:=hu
 have hl:=nx_line (psX s)
 have ht:=tk_ok h0
 have hr:rmX (psX s)<=8192:=by
  show ((s.size:Int)-0).toNat<=8192
  omega
 refine ⟨Bool.and_eq_true_iff.2 ⟨ht.ok,cP_in ⟨hu, ?_⟩⟩,by have:=ht.rm;omega,h0⟩
 show 1<=(nxF (psX s)).2.2.2.1
 omega
end
end Go.Proofs.YtkkoedniahnneaaDoor.K
namespace Go.Proofs.YtkkoedniahnneaaDoor.K
open Go.RowKit
noncomputable section
set_option linter.unusedSectionVars false
def pkL:List Int->Bool->Bool->Nat×(Nat×Bool)
 | [],_,w=>(0,(0,w))
 |c::l,com,w=>bif com&&isClI c then ((pkL l true false).1+1,(pkL l true false).2) else
   bif blkI c then ((pkL l false false).1+1,((pkL l false false).2.1+(bif ieq c 10 then 1 else 0),(pkL l false false).2.2)) else
   bif ieq c 35 then ((pkL l true false).1+1,(pkL l true false).2) else (0,(0,w))
theorem cl_10 {c:Int}(h:ieq c 10=true):isClI c=false/\blkI c=true:=by
 obtain rfl:=eq_of_beq h
 exact ⟨rfl,rfl⟩
theorem cl_no {c:Int}(h:isClI c=false)(h2:ieq c 10=false):blkI c=false/\ieq c 35=false/\ieq c 59=false/\ieq c 123=false/\ieq c 125=false/\ieq c 34=false:=by
 have q: ∀ n:Int,isClI n=true->ieq c n=false:=fun n hn=>by
  cases hc:ieq c n with
  |false=>rfl
  |true=>
   obtain rfl:=eq_of_beq hc
   rw [h] at hn
   cases hn
 refine ⟨?_,q 35 rfl,q 59 rfl,q 123 rfl,q 125 rfl,q 34 rfl⟩
 unfold blkI
 rw [q 9 rfl,q 32 rfl,h2]
 rfl
theorem pk_sk: ∀ (l:List Int) (com w w':Bool),(com=false->w'=w)→
  (pkL l com w').1=(skL l com w).2.1/\(pkL l com w').2.1=(skL l com w).2.2.1∧
  ((skL l com w).1=true→ ∃ c r,l.drop (skL l com w).2.1=c::r/\isClI c=false/\ieq c 10=false)∧
  ((skL l com w).1=false->(pkL l com w').2.2=(skL l com w).2.2.2∨l.drop (skL l com w).2.1=[])
 | [],com,w,w',_=>⟨rfl,rfl,(fun h=>absurd h (by simp [skL])),fun _=> .inr rfl⟩
 |c::l,com,w,w',h=>by
  have i1:=pk_sk l true w false (fun h=>by cases h)
  have i2:=pk_sk l false false false (fun _=>rfl)
  rw [pkL.eq_def,skL.eq_def]
  simp only
  cases com with
  |false=>
   simp only [Bool.false_and,cond_false]
   obtain rfl:=h rfl
   cases blkI c with
   |true=>
    simp only [cond_true]
    obtain ⟨a1,a2,a3,a4⟩:=i2
    exact ⟨by rw [a1],by rw [a2],fun hh=>a3 hh,fun hh=>a4 hh⟩
   |false=>
    simp only [cond_false]
    cases ieq c 35 with
    |true=>
     simp only [cond_true]
     obtain ⟨a1,a2,a3,a4⟩:=i1
     exact ⟨by rw [a1],a2,fun hh=>a3 hh,fun hh=>a4 hh⟩
    |false=>
     simp
  |true=>
   simp only [Bool.true_and]
   cases h10:ieq c 10 with
   |true=>
    obtain ⟨c1,c2⟩:=cl_10 h10
    rw [c1,c2]
    simp only [cond_true,cond_false,Bool.not_true]
    obtain ⟨a1,a2,a3,a4⟩:=i2
    exact ⟨by rw [a1],by rw [a2],fun hh=>a3 hh,fun hh=>a4 hh⟩
   |false=>
    simp only [cond_true,Bool.not_false]
    cases hc:isClI c with
    |true=>
     simp only [cond_true]
     obtain ⟨a1,a2,a3,a4⟩:=i1
     exact ⟨by rw [a1],a2,fun hh=>a3 hh,fun hh=>a4 hh⟩
    |false=>
     obtain ⟨b1,b2,_⟩:=cl_no hc h10
     rw [b1,b2]
     simp [hc,h10]
     exact beq_eq_false_iff_ne.1 h10
theorem pkL_le: ∀ (l:List Int) (com w:Bool),(pkL l com w).1<=l.length/\(pkL l com w).2.1<=(pkL l com w).1
 | [],_,_=>⟨Nat.le_refl _,Nat.le_refl _⟩
 |c::l,com,w=>by
  obtain ⟨h1,h2⟩:=pkL_le l true false
  obtain ⟨h3,h4⟩:=pkL_le l false false
  rw [pkL.eq_def]
  simp only [List.length_cons]
  cases com&&isClI c with
  |true=>
   rw [cond_true]
   exact ⟨by show _+1<=_;omega,by show (pkL l true false).2.1<=(pkL l true false).1+1;omega⟩
  |false=>
   rw [cond_false]
   cases blkI c with
   |true=>
    rw [cond_true]
    cases ieq c 10 with
    |true=>exact ⟨by show _+1<=_;omega,by show _+1<=_+1;omega⟩
    |false=>exact ⟨by show _+1<=_;omega,by show _+0<=_+1;omega⟩
   |false=>
    rw [cond_false]
    cases ieq c 35 with
    |true=>exact ⟨by show _+1<=_;omega,by show (pkL l true false).2.1<=(pkL l true false).1+1;omega⟩
    |false=>exact ⟨Nat.zero_le _,Nat.le_refl _⟩
def nlC (l:List Int):Nat:=l.countP fun c=>ieq c 10
theorem sk_cnt: ∀ (l:List Int) (com w:Bool),(skL l com w).2.2.1=nlC (l.take (skL l com w).2.1)
 | [],_,_=>rfl
 |c::l,com,w=>by
  have i1:=sk_cnt l true w
  have i2:=sk_cnt l false false
  have q: ∀ n,nlC ((c::l).take (n+1))=nlC (l.take n)+(bif ieq c 10 then 1 else 0):=fun n=>by
   unfold nlC
   rw [List.take_succ_cons,List.countP_cons]
   cases ieq c 10<;>rfl
  rw [skL.eq_def]
  simp only
  cases h10:ieq c 10 with
  |true=>
   obtain ⟨c1,c2⟩:=cl_10 h10
   rw [c2]
   simp only [Bool.not_true,Bool.and_false,cond_false,cond_true]
   rw [q,h10,i2]
   rfl
  |false=>
   simp only [Bool.not_false,Bool.and_true,cond_false]
   cases com with
   |true=>
    simp only [cond_true]
    cases isClI c with
    |true=>
     simp only [cond_true]
     rw [q,h10,i1]
     rfl
    |false=>rfl
   |false=>
    simp only [cond_false]
    cases blkI c with
    |true=>
     simp only [cond_true]
     rw [q,h10,i2]
     rfl
    |false=>
     simp only [cond_false]
     cases ieq c 35 with
     |true=>
      simp only [cond_true]
      rw [q,h10,i1]
      rfl
     |false=>rfl
theorem qd_nl: ∀ l:List Int,nlC (l.take (qd l).2.2)=0∧ ∀ e r,l=e::r->nlC (r.take (qd r).2.2)=0
 | []=>⟨rfl,fun _ _ h=>by cases h⟩
 |c::l=>by
  obtain ⟨h1,h2⟩:=qd_nl l
  refine ⟨?_,fun e r h=>by cases h;exact h1⟩
  have q: ∀ (c:Int) (l:List Int) (n:Nat),ieq c 10=false->nlC ((c::l).take (n+1))=nlC (l.take n):=fun c l n h=>by
   unfold nlC
   rw [List.take_succ_cons,List.countP_cons,h]
   rfl
  have q2: ∀ n:Int,ieq c n=true->ieq n 10=false->ieq c 10=false:=fun n h h2=>by rw [eq_of_beq h];exact h2
  rw [qd.eq_def]
  simp only
  cases h34:ieq c 34 with
  |true=>
   rw [cond_true]
   exact q c l 0 (q2 34 h34 rfl)
  |false=>
   rw [cond_false]
   cases h92:ieq c 92 with
   |true=>
    rw [cond_true]
    have hc:=q2 92 h92 rfl
    cases l with
    |nil=>exact q c [] 0 hc
    |cons e r=>
     have h3:=h2 e r rfl
     simp only
     cases he:ieq e 34||ieq e 92 with
     |false=>exact q c (e::r) 0 hc
     |true=>
      rw [cond_true]
      have hen:ieq e 10=false:=by
       cases h1:ieq e 34 with
       |true=>rw [eq_of_beq h1];rfl
       |false=>
        rw [h1,Bool.false_or] at he
        rw [eq_of_beq he]
        rfl
      show nlC ((c::e::r).take ((qd r).2.2+1+1))=0
      rw [q c _ _ hc,q e _ _ hen,h3]
   |false=>
    rw [cond_false]
    cases hcl:isClI c with
    |false=>rfl
    |true=>
     rw [cond_true]
     have hc:ieq c 10=false:=by
      cases h:ieq c 10 with
      |false=>rfl
      |true=>rw [(cl_10 h).1] at hcl;cases hcl
     show nlC ((c::l).take ((qd l).2.2+1))=0
     rw [q c _ _ hc,h1]
theorem lt_nl: ∀ l:List Int,nlC (l.take (ltL l))=0
 | []=>rfl
 |c::l=>by
  have ih:=lt_nl l
  unfold ltL
  cases hc:ltrB c with
  |false=>rfl
  |true=>
   rw [cond_true]
   have h10:ieq c 10=false:=by
    cases h:ieq c 10 with
    |false=>rfl
    |true=>
     rw [eq_of_beq h] at hc
     have hz:ltrB 10=false:=by kernel_rfl
     rw [hz] at hc
     cases hc
   unfold nlC at ih ⊢
   rw [List.take_succ_cons,List.countP_cons,h10]
   simpa using ih
end
end Go.Proofs.YtkkoedniahnneaaDoor.K
namespace Go.Proofs.YtkkoedniahnneaaDoor.K
open Go.RowKit
noncomputable section
set_option linter.unusedSectionVars false
abbrev pxR (x:ParserX):List Int:=(bytesL x.1.1).drop x.1.2.1.toNat
abbrev pxW (x:ParserX):Bool:=x.1.2.2.2.1
abbrev pxL (x:ParserX):Int:=x.1.2.2.1
def pxTo (x:ParserX)(n:Int)(w:Bool):ParserX:=((x.1.1,(x.1.2.1+n,(x.1.2.2.1,(w,())))),x.2)
def pqOk (x:ParserX):Bool:=cP (0<=x.1.2.1/\x.1.2.1<x.1.1.size/\x.1.1.size<=1000000)
def qx:List Int->Bool
 | []=>false
 |c::l=>bif ieq c 34 then true else bif ieq c 92 then (match l with
  | []=>true
  |e::r=>bif ieq e 34||ieq e 92 then qx r else true) else bif isClI c then qx l else true
def pqT (l:List Int)(ok:Bool)(x:ParserX):Token:=bif ok then (4,(x.1.2.2.1,(strOf l,()))) else (5,(x.1.2.2.1,(ByteArray.mk #[],())))
def pqN (a:Int)(ok:Bool)(x:ParserX):ParserX:=bif ok then ((x.1.1,(a,(x.1.2.2.1,(true,())))),x.2) else x
def pqF (x:ParserX):Token:=pqT (qd ((bytesL x.1.1).drop (x.1.2.1+1).toNat)).2.1 (qd ((bytesL x.1.1).drop (x.1.2.1+1).toNat)).1 x
def pqD (x:ParserX):ParserX:=pqN (x.1.2.1+1+(qd ((bytesL x.1.1).drop (x.1.2.1+1).toNat)).2.2) (qd ((bytesL x.1.1).drop (x.1.2.1+1).toNat)).1 x
def pq0 (i:Int)(y:List Int)(x:ParserX):Bool:=cP (0<=i/\i<=x.1.1.size/\x.1.1.size<=1000000/\y.length<=i)
def dr_f144_0:List DO:=[(.mk (oV 37 0) []),(.mk (oP 38 (.nc (.t 37))) [0]),(.mk (oP 39 (.fa 2 (.t 38))) [1]),(.mk (oL 40 39) [2]),(.mk (oV 41 3) []),(.mk (oC 42 2440448 [(.t 41)]) [4]),(.mk (oP 43 (.bd [(.v (.int .i64 0)),(.v (.int .i64 0)),(.v (.string (ByteArray.mk #[])))] [(0,1,(cI 4)),(1,1,(.t 40)),(2,1,(.t 42))])) [3,5]),(.mk (.mk none none (.m (.st 3 (.t 2) (.t 43)))) [6,0,1,2,3,4,5,6])]
def fg_f144_0:Fg:=⟨[(0,none),(2,none),(3,none),(4,some tI)],[(2,some tyToken),(3,none),(97,none),(50000,some tyParserX)]⟩
def tb_f144_0:TC:=(.sq (.sq (.reg [(oV 11 4),(oV 12 0),(oP 13 (.nc (.t 12))),(oP 14 (.fa 0 (.t 13))),(oL 15 14),(oP 16 (.len true (.t 15))),(oP 17 (.bin false .lss (.t 11) (.t 16)))]) (.cd (.t 17) .sk (.fg ⟨[(0,none),(2,none)],[(2,some tyToken),(50000,some tyParserX)]⟩ (.ex 0)))) (.sq (.bk 1 (.sq (.reg [(oV 20 0),(oP 21 (.nc (.t 20))),(oP 22 (.fa 0 (.t 21))),(oL 23 22),(oV 24 4),(oP 25 (.sx (.t 23) (.t 24))),(oV 5 25)]) (.sq (.bk 2 (.sq (.reg [(oV 27 5),(oP 28 (.bin false .eql (.t 27) (.c (.v (.int .u8 34))))),(oV 26 28)]) (.cd (.t 26) (.sq (.reg [(oV 29 0),(oV 30 0),(oV 31 4),(oP 32 (.bin false .add (.t 31) (cI 1))),(oP 33 (.nc (.t 29))),(oP 34 (.fa 1 (.t 33))),(.mk none none (.m (.st 1 (.t 34) (.t 32)))),(oP 35 (.nc (.t 30))),(oP 36 (.fa 3 (.t 35))),(.mk none none (.m (.st 1 (.t 36) (cB true))))]) (.sq (.dr dr_f144_0 [(0,[50000]),(1,[50000]),(2,[50000]),(3,[50000]),(4,[3,97]),(5,[3,42,97,5042,10042,15042]),(6,[]),(7,[2])] (.of [0,1,2,3,4,5,6,7])) (.fg ⟨[(2,none)],[(2,some tyToken),(50000,some tyParserX)]⟩ .rt))) (.sq (.reg [(oV 45 5),(oP 46 (.bin false .eql (.t 45) (.c (.v (.int .u8 92))))),(oV 44 46)]) (.cd (.t 44) (.sq (.reg [(oV 47 4),(oP 48 (.bin false .add (.t 47) (cI 1))),(oV 4 48)]) (.sq (.sq (.reg [(oV 49 4),(oV 50 0),(oP 51 (.nc (.t 50))),(oP 52 (.fa 0 (.t 51))),(oL 53 52),(oP 54 (.len true (.t 53))),(oP 55 (.bin false .eql (.t 49) (.t 54))),(oV 56 55),(oQ 57 56 false (.mv (.t 0))),(oQ 58 56 false (.nc (.t 57))),(oQ 59 56 false (.fa 0 (.t 58))),(oG 60 56 false (.m (.ld false 1 (.t 59)))),(oQ 61 56 false (.mv (.t 4))),(oQ 62 56 false (.sx (.t 60) (.t 61))),(oQ 63 56 false (.bin false .neq (.t 62) (.c (.v (.int .u8 34))))),(oQ 64 56 false (.mv (.t 63))),(oQ 65 64 true (.mv (.t 0))),(oQ 66 64 true (.nc (.t 65))),(oQ 67 64 true (.fa 0 (.t 66))),(oG 68 64 true (.m (.ld false 1 (.t 67)))),(oQ 69 64 true (.mv (.t 4))),(oQ 70 64 true (.sx (.t 68) (.t 69))),(oQ 71 64 true (.bin false .neq (.t 70) (.c (.v (.int .u8 92))))),(oQ 72 56 false (.pick (.t 64) (.t 71) (cB false))),(oP 73 (.pick (.t 56) (cB true) (.t 72)))]) (.cd (.t 73) (.sq (.reg [(oV 74 0),(oP 75 (.nc (.t 74))),(oP 76 (.fa 2 (.t 75))),(oL 77 76),(oP 78 (.bd [(.v (.int .i64 0)),(.v (.int .i64 0)),(.v (.string (ByteArray.mk #[])))] [(0,1,(cI 5)),(1,1,(.t 77)),(2,1,(.c (.v (.string (ByteArray.mk #[])))))])),(.mk none none (.m (.st 3 (.t 2) (.t 78))))]) (.fg ⟨[(2,none)],[(2,some tyToken),(50000,some tyParserX)]⟩ .rt)) .sk)) (.reg [(oV 79 0),(oP 80 (.nc (.t 79))),(oP 81 (.fa 0 (.t 80))),(oL 82 81),(oV 83 4),(oP 84 (.sx (.t 82) (.t 83))),(oV 5 84)]))) (.sq (.reg [(oV 86 5),(oC 87 139 [(.t 86)]),(oP 88 (.nt (.t 87))),(oV 85 88)]) (.cd (.t 85) (.sq (.reg [(oV 89 0),(oP 90 (.nc (.t 89))),(oP 91 (.fa 2 (.t 90))),(oL 92 91),(oP 93 (.bd [(.v (.int .i64 0)),(.v (.int .i64 0)),(.v (.string (ByteArray.mk #[])))] [(0,1,(cI 5)),(1,1,(.t 92)),(2,1,(.c (.v (.string (ByteArray.mk #[])))))])),(.mk none none (.m (.st 3 (.t 2) (.t 93))))]) (.fg ⟨[(2,none)],[(2,some tyToken),(50000,some tyParserX)]⟩ .rt)) .sk))))))) (.reg [(oV 94 3),(oV 95 5),(oM 96 (.bs 5 1 1 [(.v (.int .u8 0))] [(0,1,(.t 95))])),(oM 97 (.app 5 1 1 (.t 94) (.t 96))),(oV 3 97)])))) (.reg [(oV 18 4),(oP 19 (.bin false .add (.t 18) (cI 1))),(oV 4 19)])))
def tc_f144:TC:=(.sq (.reg [(oM 2 (.new [(.v (.int .i64 0)),(.v (.int .i64 0)),(.v (.string (ByteArray.mk #[])))]))]) (.sq (.reg [(oP 3 (.mv (.c (.v (.slice none 0 0)))))]) (.sq (.sq (.reg [(oV 6 0),(oP 7 (.nc (.t 6))),(oP 8 (.fa 1 (.t 7))),(oL 9 8),(oP 10 (.bin false .add (.t 9) (cI 1))),(oV 4 10)]) (.bk 0 (.nw 3 5 (.lp 0 fg_f144_0 tb_f144_0)))) (.sq (.reg [(oV 98 0),(oP 99 (.nc (.t 98))),(oP 100 (.fa 2 (.t 99))),(oL 101 100),(oP 102 (.bd [(.v (.int .i64 0)),(.v (.int .i64 0)),(.v (.string (ByteArray.mk #[])))] [(0,1,(cI 5)),(1,1,(.t 101)),(2,1,(.c (.v (.string (ByteArray.mk #[])))))])),(.mk none none (.m (.st 3 (.t 2) (.t 102))))]) .rt))))
def rv_f144:List (RV×Option Ty):=[((.c 2 true 3),some tyToken)]
abbrev sh_f144_0:Sh:=⟨[(0,.ptr 50000 0),(2,.ptr 2 0),(3,.ms 3),(4,.ty tI)],[(2,.box tyToken),(3,.arr 5 (.int .u8)),(97,.no),(50000,.box tyParserX)]⟩
def st_f144_0 (x4:Int)(y2:Token)(y3:(List Int))(y50000:ParserX):VS:=sh_f144_0.st ((),(),(),x4,()) (y2,y3,(),y50000,())
abbrev sh_f144_0_ret:Sh:=⟨[(2,.ptr 2 0)],[(2,.box tyToken),(50000,.box tyParserX)]⟩
def st_f144_0_ret (y2:Token)(y50000:ParserX):VS:=sh_f144_0_ret.st ((),()) (y2,y50000,())
abbrev sh_f144_0_e0:Sh:=⟨[(0,.ptr 50000 0),(2,.ptr 2 0)],[(2,.box tyToken),(50000,.box tyParserX)]⟩
def st_f144_0_e0 (y2:Token)(y50000:ParserX):VS:=sh_f144_0_e0.st ((),(),()) (y2,y50000,())
-- loop 0: (x4 : Int) (y2 : Token) (y3 : (List Int)) (y50000 : ParserX); out: ('ret',) (y2 : Token) (y50000 : ParserX); ('exit', 0) (y2 : Token) (y50000 : ParserX)
def L_f144_0:VS->Option (Bool×List (Bool×Exit×VS)):=mkL sh_f144_0 (fun x y=>(pq0 x.2.2.2.1 y.2.1 y.2.2.2.1)) (fun x y=>[((qx ((bytesL y.2.2.2.1.1.1).drop x.2.2.2.1.toNat)),.ret,st_f144_0_ret (pqT (y.2.1++(qd ((bytesL y.2.2.2.1.1.1).drop x.2.2.2.1.toNat)).2.1) (qd ((bytesL y.2.2.2.1.1.1).drop x.2.2.2.1.toNat)).1 y.2.2.2.1) (pqN (x.2.2.2.1+(qd ((bytesL y.2.2.2.1.1.1).drop x.2.2.2.1.toNat)).2.2) (qd ((bytesL y.2.2.2.1.1.1).drop x.2.2.2.1.toNat)).1 y.2.2.2.1)),(true,.exit 0,st_f144_0_e0 (y.1) (y.2.2.2.1))])
def g_f144:G:=⟨TYs,[],103,EL [(139,sp_f139),(2440448,sp_op_convert_28_9)],keeps,(Ls [L_f144_0]),IL [],RL []⟩
def b_f144_0_1 (x4:Int)(y2:Token)(y3:(List Int))(y50000:ParserX):Option (Exit×VS):=
 br (cSx y50000.1.1 (iadd .i64 x4 1))
  (br (cApp y3 ([(sgt y50000.1.1 (iadd .i64 x4 1))]) 1)
   (some (.normal,st_f144_0 (iadd .i64 (iadd .i64 x4 1) 1) y2 (y3++([(sgt y50000.1.1 (iadd .i64 x4 1))])) y50000))
   (none))
  (none)
def b_f144_0 (x4:Int)(y2:Token)(y3:(List Int))(y50000:ParserX):Option (Exit×VS):=
 br ((ilt x4 (slen y50000.1.1)))
  (br (cSx y50000.1.1 x4)
   (br ((ieq (sgt y50000.1.1 x4) 34))
    (some (.ret,st_f144_0_ret (4,(y50000.1.2.2.1,((strOf y3),()))) ((y50000.1.1,((iadd .i64 x4 1),(y50000.1.2.2.1,(true,y50000.1.2.2.2.2)))),y50000.2)))
    (br ((ieq (sgt y50000.1.1 x4) 92))
     (br ((ieq (iadd .i64 x4 1) (slen y50000.1.1)))
      (some (.ret,st_f144_0_ret (5,(y50000.1.2.2.1,((ByteArray.mk #[]),()))) y50000))
      (br (cSx y50000.1.1 (iadd .i64 x4 1))
       (br ((ine (sgt y50000.1.1 (iadd .i64 x4 1)) 34))
        (br (cSx y50000.1.1 (iadd .i64 x4 1))
         (br ((ine (sgt y50000.1.1 (iadd .i64 x4 1)) 92))
          (some (.ret,st_f144_0_ret (5,(y50000.1.2.2.1,((ByteArray.mk #[]),()))) y50000))
          (b_f144_0_1 x4 y2 y3 y50000))
         (none))
        (b_f144_0_1 x4 y2 y3 y50000))
       (none)))
     (br ((!(isClI (sgt y50000.1.1 x4))))
      (some (.ret,st_f144_0_ret (5,(y50000.1.2.2.1,((ByteArray.mk #[]),()))) y50000))
      (br (cApp y3 ([(sgt y50000.1.1 x4)]) 1)
       (some (.normal,st_f144_0 (iadd .i64 x4 1) y2 (y3++([(sgt y50000.1.1 x4)])) y50000))
       (none)))))
   (none))
  (some (.exit 0,st_f144_0_e0 y2 y50000))
noncomputable def lp_f144_0 (x4:Int)(y2:Token)(y3:(List Int))(y50000:ParserX):Option (Exit×VS):=loopF (roundF g_f144 fg_f144_0 tb_f144_0) (st_f144_0 x4 y2 y3 y50000)
noncomputable def n_f144_0_1 (x4:Int)(y2:Token)(y3:(List Int))(y50000:ParserX):Option (Exit×VS):=
 br (cSx y50000.1.1 (iadd .i64 x4 1))
  (br (cApp y3 ([(sgt y50000.1.1 (iadd .i64 x4 1))]) 1)
   (lp_f144_0 (iadd .i64 (iadd .i64 x4 1) 1) y2 (y3++([(sgt y50000.1.1 (iadd .i64 x4 1))])) y50000)
   (none))
  (none)
noncomputable def n_f144_0 (x4:Int)(y2:Token)(y3:(List Int))(y50000:ParserX):Option (Exit×VS):=
 br ((ilt x4 (slen y50000.1.1)))
  (br (cSx y50000.1.1 x4)
   (br ((ieq (sgt y50000.1.1 x4) 34))
    (some (.ret,st_f144_0_ret (4,(y50000.1.2.2.1,((strOf y3),()))) ((y50000.1.1,((iadd .i64 x4 1),(y50000.1.2.2.1,(true,y50000.1.2.2.2.2)))),y50000.2)))
    (br ((ieq (sgt y50000.1.1 x4) 92))
     (br ((ieq (iadd .i64 x4 1) (slen y50000.1.1)))
      (some (.ret,st_f144_0_ret (5,(y50000.1.2.2.1,((ByteArray.mk #[]),()))) y50000))
      (br (cSx y50000.1.1 (iadd .i64 x4 1))
       (br ((ine (sgt y50000.1.1 (iadd .i64 x4 1)) 34))
        (br (cSx y50000.1.1 (iadd .i64 x4 1))
         (br ((ine (sgt y50000.1.1 (iadd .i64 x4 1)) 92))
          (some (.ret,st_f144_0_ret (5,(y50000.1.2.2.1,((ByteArray.mk #[]),()))) y50000))
          (n_f144_0_1 x4 y2 y3 y50000))
         (none))
        (n_f144_0_1 x4 y2 y3 y50000))
       (none)))
     (br ((!(isClI (sgt y50000.1.1 x4))))
      (some (.ret,st_f144_0_ret (5,(y50000.1.2.2.1,((ByteArray.mk #[]),()))) y50000))
      (br (cApp y3 ([(sgt y50000.1.1 x4)]) 1)
       (lp_f144_0 (iadd .i64 x4 1) y2 (y3++([(sgt y50000.1.1 x4)])) y50000)
       (none)))))
   (none))
  (some (.exit 0,st_f144_0_e0 y2 y50000))
def la_f144_0 (x4:Int)(y2:Token)(y3:(List Int))(y50000:ParserX):Option (Exit×VS):=br (qx ((bytesL y50000.1.1).drop x4.toNat)) (some (.ret,st_f144_0_ret (pqT (y3++(qd ((bytesL y50000.1.1).drop x4.toNat)).2.1) (qd ((bytesL y50000.1.1).drop x4.toNat)).1 y50000) (pqN (x4+(qd ((bytesL y50000.1.1).drop x4.toNat)).2.2) (qd ((bytesL y50000.1.1).drop x4.toNat)).1 y50000)))<|some (.exit 0,st_f144_0_e0 (y2) (y50000))
theorem be_f144_0 (x4:Int)(y2:Token)(y3:(List Int))(y50000:ParserX):roundF g_f144 fg_f144_0 tb_f144_0 (st_f144_0 x4 y2 y3 y50000)=b_f144_0 x4 y2 y3 y50000:=by kernel_rfl
theorem ln_f144_0 (x4:Int)(y2:Token)(y3:(List Int))(y50000:ParserX):lp_f144_0 x4 y2 y3 y50000=n_f144_0 x4 y2 y3 y50000:=(loopF_nxt _ _).trans (by
 rw [be_f144_0]
 simp only [b_f144_0,b_f144_0_1,n_f144_0,n_f144_0_1,nxt_br,nxt_n,nxt_r,nxt_e,nxt_0]
 rfl)
def r_f144 (d0:ParserX):Option (V×List VO):=
 br ((pq0 (iadd .i64 d0.1.2.1 1) ([]:List Int) d0))
  (br ((qx ((bytesL d0.1.1).drop (iadd .i64 d0.1.2.1 1).toNat)))
   (some (.t tyToken (pqT (([]:List Int)++(qd ((bytesL d0.1.1).drop (iadd .i64 d0.1.2.1 1).toNat)).2.1) (qd ((bytesL d0.1.1).drop (iadd .i64 d0.1.2.1 1).toNat)).1 d0),[.box (.t tyParserX (pqN ((iadd .i64 d0.1.2.1 1)+(qd ((bytesL d0.1.1).drop (iadd .i64 d0.1.2.1 1).toNat)).2.2) (qd ((bytesL d0.1.1).drop (iadd .i64 d0.1.2.1 1).toNat)).1 d0))]))
   (some (.t tyToken (5,(((((d0).1).2).2).1,((ByteArray.mk #[]),()))),[.box (.t tyParserX (d0))])))
  (none)
theorem e_f144 (d0:ParserX):runF g_f144 tc_f144 rv_f144 false [.ptr 50000 0] [.box (.t tyParserX d0)]=r_f144 d0:=by kernel_rfl
theorem ok_f144:Option.map (trC Tryd.prog) Tryd.f144.body=some tc_f144.er:=by kernel_rfl
theorem rok_f144:trVs Tryd.prog Tryd.f144.results.toList=some (rv_f144.map Prod.fst):=by kernel_rfl
theorem en_f144:Entered Tryd.prog 144:= .inr ⟨by decide,_,Tryd.func144,by kernel_rfl,by kernel_rfl⟩
theorem gk_f144:GOk Tryd.prog g_f144:=gok_of _ (by
 intro p hp
 simp only [List.mem_cons,List.not_mem_nil,or_false] at hp
 rcases hp with rfl|rfl
 ·exact ⟨en_f139,ms_f139⟩
 ·exact ⟨en_op_convert_28_9,ms_op_convert_28_9⟩)
theorem l_f144_0 (x4:Int)(y2:Token)(y3:(List Int))(y50000:ParserX)(h:(pq0 x4 y3 y50000)=true):lp_f144_0 x4 y2 y3 y50000=la_f144_0 x4 y2 y3 y50000:=by
 obtain ⟨⟨t,a,ln,w,u1⟩,r⟩:=y50000
 obtain ⟨h1,h2,h3,h4⟩:=cP_of h
 clear h
 simp only at h1 h2 h3 h4
 obtain ⟨k,rfl⟩:=Int.eq_ofNat_of_zero_le h1
 have hl:=bytesG_len t
 have key: ∀ (m k:Nat) (y:List Int),t.size-k<=m->k<=t.size->y.length<=k->lp_f144_0 (k:Int) y2 y ((t,(a,(ln,(w,u1)))),r)=la_f144_0 (k:Int) y2 y ((t,(a,(ln,(w,u1)))),r):=by
  intro m
  induction m using Nat.strongRecOn with
  |ind m ih=>
   intro k y hm hk hy
   rw [ln_f144_0]
   unfold n_f144_0 n_f144_0_1
   simp only
   have la: ∀ (k:Nat) (y:List Int),la_f144_0 (k:Int) y2 y ((t,(a,(ln,(w,u1)))),r)=br (qx ((bytesL t).drop k)) (some (.ret,st_f144_0_ret (pqT (y++(qd ((bytesL t).drop k)).2.1) (qd ((bytesL t).drop k)).1 ((t,(a,(ln,(w,u1)))),r)) (pqN ((k:Int)+(qd ((bytesL t).drop k)).2.2) (qd ((bytesL t).drop k)).1 ((t,(a,(ln,(w,u1)))),r)))) (some (.exit 0,st_f144_0_e0 y2 ((t,(a,(ln,(w,u1)))),r))):=fun k y=>rfl
   by_cases hlt:k<t.size
   ·have hkl:k<(bytesL t).length:=by omega
    have e2:ilt (k:Int) (slen t)=true:=decide_eq_true (by simp only [slen];omega)
    have e3:cSx t (k:Int)=true:=by simp only [cSx,decide_eq_true_eq];omega
    have ei: ∀ (j:Nat) (z:List Int),t.size-j<m->j<=t.size->z.length<=j->lp_f144_0 (j:Int) y2 z ((t,(a,(ln,(w,u1)))),r)=br (qx ((bytesL t).drop j)) (some (.ret,st_f144_0_ret (pqT (z++(qd ((bytesL t).drop j)).2.1) (qd ((bytesL t).drop j)).1 ((t,(a,(ln,(w,u1)))),r)) (pqN ((j:Int)+(qd ((bytesL t).drop j)).2.2) (qd ((bytesL t).drop j)).1 ((t,(a,(ln,(w,u1)))),r)))) (some (.exit 0,st_f144_0_e0 y2 ((t,(a,(ln,(w,u1)))),r))):=fun j z h1 h2 h3=>(ih _ h1 j z (Nat.le_refl _) h2 h3).trans (la j z)
    rw [la,e2,br_true,e3,br_true,sgt_get hlt,add1 (k:=k),List.drop_eq_getElem_cons hkl]
    generalize (bytesL t)[k]=c
    have eq:qd (c::(bytesL t).drop (k+1))=bif ieq c 34 then (true,([],1)) else bif ieq c 92 then (match (bytesL t).drop (k+1) with
      | []=>(false,([],1))
      |e::r=>bif ieq e 34||ieq e 92 then ((qd r).1,(e::(qd r).2.1,(qd r).2.2+2)) else (false,([],1))) else bif isClI c then ((qd ((bytesL t).drop (k+1))).1,(c::(qd ((bytesL t).drop (k+1))).2.1,(qd ((bytesL t).drop (k+1))).2.2+1)) else (false,([],0)):=qd.eq_def _
    have eqx:qx (c::(bytesL t).drop (k+1))=bif ieq c 34 then true else bif ieq c 92 then (match (bytesL t).drop (k+1) with
      | []=>true
      |e::r=>bif ieq e 34||ieq e 92 then qx r else true) else bif isClI c then qx ((bytesL t).drop (k+1)) else true:=qx.eq_def _
    rw [eq,eqx]
    cases h34:ieq c 34 with
    |true=>
     rw [br_true,cond_true,cond_true,br_true,List.append_nil]
     rfl
    |false=>
     rw [br_false,cond_false,cond_false]
     cases h92:ieq c 92 with
     |false=>
      rw [br_false,cond_false,cond_false]
      cases isClI c with
      |false=>rfl
      |true=>
       rw [cond_true,cond_true,Bool.not_true,br_false,cAppN (by omega) (by simp only [List.length_singleton];omega),br_true,ei (k+1) _ (by omega) (by omega) (by rw [List.length_append,List.length_singleton];omega),List.append_assoc,List.singleton_append]
       rw [show (((k+1:Nat):Int)+((qd ((bytesL t).drop (k+1))).2.2:Int))=(k:Int)+(((qd ((bytesL t).drop (k+1))).2.2+1:Nat):Int) by omega]
     |true=>
      rw [br_true,cond_true,cond_true]
      by_cases hl2:k+1<t.size
      ·have hkl2:k+1<(bytesL t).length:=by omega
       have f2:ieq ((k+1:Nat):Int) (slen t)=false:=by
        rw [show ieq ((k+1:Nat):Int) (slen t)=(((k+1:Nat):Int)==slen t) from rfl,beq_eq_false_iff_ne]
        simp only [slen]
        omega
       have f3:cSx t ((k+1:Nat):Int)=true:=by simp only [cSx,decide_eq_true_eq];omega
       rw [f2,br_false,f3,br_true,br_true,br_true,sgt_get hl2,add1 (show k+1<4611686018427387904 by omega),List.drop_eq_getElem_cons hkl2,cAppN (by omega) (by simp only [List.length_singleton];omega),br_true,ei (k+1+1) _ (by omega) (by omega) (by rw [List.length_append,List.length_singleton];omega),List.append_assoc,List.singleton_append]
       generalize (bytesL t)[k+1]=d
       simp only
       rw [show (((k+1+1:Nat):Int)+((qd ((bytesL t).drop (k+1+1))).2.2:Int))=(k:Int)+(((qd ((bytesL t).drop (k+1+1))).2.2+2:Nat):Int) by omega]
       show br (!ieq d 34) (br (!ieq d 92) _ _) _=_
       cases ieq d 34<;>cases ieq d 92<;>rfl
      ·have f2:ieq ((k+1:Nat):Int) (slen t)=true:=by
        rw [show ieq ((k+1:Nat):Int) (slen t)=(((k+1:Nat):Int)==slen t) from rfl,beq_iff_eq]
        simp only [slen]
        omega
       rw [f2,br_true,List.drop_eq_nil_of_le (by omega)]
       rfl
   ·obtain rfl:k=t.size:=by omega
    have e2:ilt ((t.size:Nat):Int) (slen t)=false:=decide_eq_false (by simp only [slen];omega)
    rw [la,e2,br_false,List.drop_eq_nil_of_le (by omega)]
    rfl
 exact key _ k y3 (Nat.le_refl _) (by omega) (by omega)
theorem lo_f144_0: ∀ S l p,g_f144.L 0 (fgt fg_f144_0 S)=some (true,l)->pickA l=some p->loopF (roundF g_f144 fg_f144_0 tb_f144_0) S=some p:=
 lok_of (s:=sh_f144_0) ⟨by decide,by decide⟩ (by kernel_rfl) fun x y hok p hp=>by
 simp only [pickA_br,pickA_one] at hp
 exact (l_f144_0 x.2.2.2.1 y.1 y.2.1 y.2.2.2.1 (by simpa using hok)).trans hp
theorem lk_f144:tc_f144.lok g_f144:=by
 repeat (first|exact trivial|exact lo_f144_0|refine ⟨?_, ?_⟩)
theorem qx_no: ∀ l:List Int,(qx l=false->(qd l).1=false)∧ ∀ e r,l=e::r->qx r=false->(qd r).1=false
 | []=>⟨fun _=>rfl,fun _ _ h=>by cases h⟩
 |c::l=>by
  obtain ⟨h1,h2⟩:=qx_no l
  refine ⟨?_,fun e r h=>by cases h;exact h1⟩
  rw [qd.eq_def,qx.eq_def]
  simp only
  cases ieq c 34 with
  |true=>exact fun h=>by cases h
  |false=>
   rw [cond_false,cond_false]
   cases ieq c 92 with
   |false=>
    rw [cond_false,cond_false]
    cases isClI c with
    |true=>exact h1
    |false=>exact fun h=>by cases h
   |true=>
    rw [cond_true,cond_true]
    cases l with
    |nil=>exact fun h=>by cases h
    |cons e r=>
     simp only
     cases ieq e 34||ieq e 92 with
     |true=>exact h2 e r rfl
     |false=>exact fun h=>by cases h
theorem s_f144 (x:ParserX)(h:pqOk x=true):r_f144 x=some (.t tyToken (pqF x),[.box (.t tyParserX (pqD x))]):=by
 obtain ⟨⟨t,a,ln,w,u1⟩,r⟩:=x
 obtain ⟨h1,h2,h3⟩:=cP_of h
 simp only at h1 h2 h3
 obtain ⟨k,rfl⟩:=Int.eq_ofNat_of_zero_le h1
 unfold r_f144
 simp only
 rw [add1 (k:=k)]
 refine brY (cP_in ⟨by omega,by show ((k+1:Nat):Int)<=(t.size:Int);omega,h3,by show ((0:Nat):Int)<=((k+1:Nat):Int);omega⟩) ?_
 unfold pqF pqD
 simp only
 rw [Int.toNat_natCast,show ((k:Int)+1).toNat=k+1 by omega,List.nil_append,show ((k+1:Nat):Int)=(k:Int)+1 by omega]
 cases hq:qx ((bytesL t).drop (k+1)) with
 |true=>rfl
 |false=>
  rw [br_false,(qx_no _).1 hq]
  rfl
def sp_f144:Ent:=specP tyParserX .nil (fun d x=>(pqOk d)) (fun d x=>(.t tyToken (pqF d))) (fun d x=>(pqD d))
theorem ms_f144:Meets Tryd.prog 144 (strip sp_f144):=by
 obtain ⟨c,hc,hi⟩:=Option.map_eq_some_iff.1 ok_f144
 exact meets_specP (R:=runF g_f144 tc_f144 rv_f144 false) (meets_of (by decide) Tryd.func144 hc hi Tryd.ntmps144 rok_f144 gk_f144 lk_f144 mixed) rfl fun d x hok=>(e_f144 d).trans (s_f144 d hok)
end
end Go.Proofs.YtkkoedniahnneaaDoor.K
