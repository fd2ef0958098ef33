import Derived.Test.YtkkoedniahnneaaDoorQ4
import Derived.Test.YtkkoedniahnneaaDoorQ3
import Derived.Deep.DeepCutAuto
import Derived.Deep.DrawnRows
import Derived.Deep.LoopGhost
import Derived.StillTailTactics
import Derived.Shelf.Strings.Replace
set_option linter.unusedSimpArgs false
set_option linter.unusedVariables false
namespace Go.Proofs.YtkkoedniahnneaaDoor.K
open Go.RowKit
noncomputable section
set_option linter.unusedSectionVars false
def cmN:List Int->Nat
 | []=>0
 |c::l=>bif isClI c then cmN l+1 else 0
theorem cmN_le: ∀ l:List Int,cmN l<=l.length
 | []=>Nat.le_refl _
 |c::l=>by
  have:=cmN_le l
  unfold cmN
  cases isClI c<;>simp<;>omega
theorem pk_cm: ∀ l:List Int,pkL l true false=((pkL (l.drop (cmN l)) false false).1+cmN l,(pkL (l.drop (cmN l)) false false).2)
 | []=>rfl
 |c::l=>by
  have ih:=pk_cm l
  cases h:isClI c with
  |true=>
   have e1:pkL (c::l) true false=((pkL l true false).1+1,(pkL l true false).2):=by rw [pkL.eq_def];simp only [h];rfl
   have e2:cmN (c::l)=cmN l+1:=by rw [cmN.eq_def];simp only [h];rfl
   rw [e1,e2,ih,List.drop_succ_cons]
   rfl
  |false=>
   have e1:pkL (c::l) true false=pkL (c::l) false false:=by rw [pkL.eq_def,pkL.eq_def];simp only [h];rfl
   have e2:cmN (c::l)=0:=by rw [cmN.eq_def];simp only [h];rfl
   rw [e1,e2,List.drop_zero]
   rfl
def pxUp (x:ParserX)(n:Int):ParserX:=((x.1.1,(x.1.2.1+n,x.1.2.2)),x.2)
def pxSk (x:ParserX)(k:Nat×(Nat×Bool)):ParserX:=((x.1.1,(x.1.2.1+k.1,(x.1.2.2.1+k.2.1,(k.2.2,())))),x.2)
def px0 (x:ParserX):Bool:=cP (0<=x.1.2.1/\x.1.2.1<x.1.1.size/\x.1.1.size<=1000000)
def px1 (x:ParserX):Bool:=cP (0<=x.1.2.1/\x.1.2.1<=x.1.1.size/\x.1.1.size<=1000000/\0<=x.1.2.2.1/\x.1.2.2.1<=x.1.2.1+1)
def pkX (x:ParserX):Nat×(Nat×Bool):=pkL (pxR x) false (pxW x)
def pkD (x:ParserX):ParserX:=pxSk x (pkX x)
def dr_f142_0:List DO:=[(.mk (oV 3 0) []),(.mk (oP 4 (.nc (.t 3))) [0]),(.mk (oP 5 (.fa 1 (.t 4))) [1]),(.mk (oL 6 5) [2]),(.mk (oV 7 0) []),(.mk (oP 8 (.nc (.t 7))) [4]),(.mk (oP 9 (.fa 0 (.t 8))) [5]),(.mk (oL 10 9) [6]),(.mk (oP 11 (.len true (.t 10))) [7]),(.mk (oP 12 (.bin false .lss (.t 6) (.t 11))) [3,8])]
def dr_f142_1:List DO:=[(.mk (oV 13 0) []),(.mk (oP 14 (.nc (.t 13))) [0]),(.mk (oP 15 (.fa 0 (.t 14))) [1]),(.mk (oL 16 15) [2]),(.mk (oV 17 0) []),(.mk (oP 18 (.nc (.t 17))) [4]),(.mk (oP 19 (.fa 1 (.t 18))) [5]),(.mk (oL 20 19) [6]),(.mk (oP 21 (.sx (.t 16) (.t 20))) [3,7]),(.mk (oV 2 21) [8,0,1,2,3,4,5,6,7,8])]
def dr_f142_2:List DO:=[(.mk (oV 37 0) []),(.mk (oP 38 (.nc (.t 37))) [0]),(.mk (oP 39 (.fa 1 (.t 38))) [1]),(.mk (oL 40 39) [2]),(.mk (oP 41 (.bin false .add (.t 40) (cI 1))) [3]),(.mk (oV 42 0) []),(.mk (oP 43 (.nc (.t 42))) [5]),(.mk (oP 44 (.fa 0 (.t 43))) [6]),(.mk (oL 45 44) [7]),(.mk (oP 46 (.len true (.t 45))) [8]),(.mk (oP 47 (.bin false .lss (.t 41) (.t 46))) [4,9]),(.mk (oV 48 47) [10]),(.mk (oQ 49 48 true (.mv (.t 0))) [11]),(.mk (oQ 50 48 true (.nc (.t 49))) [12,11]),(.mk (oQ 51 48 true (.fa 0 (.t 50))) [13,11]),(.mk (oG 52 48 true (.m (.ld false 1 (.t 51)))) [14,11]),(.mk (oQ 53 48 true (.mv (.t 0))) [11]),(.mk (oQ 54 48 true (.nc (.t 53))) [16,11]),(.mk (oQ 55 48 true (.fa 1 (.t 54))) [17,11]),(.mk (oG 56 48 true (.m (.ld false 1 (.t 55)))) [18,11]),(.mk (oQ 57 48 true (.bin false .add (.t 56) (cI 1))) [19,11]),(.mk (oQ 58 48 true (.sx (.t 52) (.t 57))) [15,20,11]),(.mk (oQ 59 48 true (.bin false .neq (.t 58) (.c (.v (.int .u8 10))))) [21,11]),(.mk (oP 60 (.pick (.t 48) (.t 59) (cB false))) [11,22]),(.mk (oV 61 60) [23,11]),(.mk (oQ 62 61 true (.mv (.t 0))) [24]),(.mk (oQ 63 61 true (.nc (.t 62))) [25,24]),(.mk (oQ 64 61 true (.fa 0 (.t 63))) [26,24]),(.mk (oG 65 61 true (.m (.ld false 1 (.t 64)))) [27,24]),(.mk (oQ 66 61 true (.mv (.t 0))) [24]),(.mk (oQ 67 61 true (.nc (.t 66))) [29,24]),(.mk (oQ 68 61 true (.fa 1 (.t 67))) [30,24]),(.mk (oG 69 61 true (.m (.ld false 1 (.t 68)))) [31,24]),(.mk (oQ 70 61 true (.bin false .add (.t 69) (cI 1))) [32,24]),(.mk (oQ 71 61 true (.sx (.t 65) (.t 70))) [28,33,24]),(.mk (oG 72 61 true (.call 139 [(.t 71)])) [34,24,24]),(.mk (oP 73 (.pick (.t 61) (.t 72) (cB false))) [24,35])]
def fg_f142_0:Fg:=⟨[(0,none)],[(50000,some tyParserX)]⟩
def tb_f142_0:TC:=(.sq (.sq (.dr dr_f142_2 [(0,[50000]),(1,[50000]),(2,[50000]),(3,[50000]),(4,[]),(5,[50000]),(6,[50000]),(7,[50000]),(8,[50000]),(9,[]),(10,[]),(11,[]),(12,[50000]),(13,[50000]),(14,[50000]),(15,[50000]),(16,[50000]),(17,[50000]),(18,[50000]),(19,[50000]),(20,[]),(21,[]),(22,[]),(23,[]),(24,[]),(25,[50000]),(26,[50000]),(27,[50000]),(28,[50000]),(29,[50000]),(30,[50000]),(31,[50000]),(32,[50000]),(33,[]),(34,[]),(35,[]),(36,[])] (.of [0,1,2,3,4,5,6,7,8,9,10,11,12,13,14,15,16,17,18,19,20,21,22,23,24,25,26,27,28,29,30,31,32,33,34,35,36])) (.cd (.t 73) .sk (.fg ⟨[(0,none)],[(50000,some tyParserX)]⟩ (.ex 3)))) (.bk 4 (.reg [(oV 74 0),(oP 75 (.nc (.t 74))),(oP 76 (.fa 1 (.t 75))),(oL 77 76),(oP 78 (.bin false .add (.t 77) (cI 1))),(oP 79 (.nc (.t 74))),(oP 80 (.fa 1 (.t 79))),(.mk none none (.m (.st 1 (.t 80) (.t 78))))])))
def fg_f142_1:Fg:=⟨[(0,none)],[(50000,some tyParserX)]⟩
def tb_f142_1:TC:=(.sq (.sq (.dr dr_f142_0 [(0,[50000]),(1,[50000]),(2,[50000]),(3,[50000]),(4,[50000]),(5,[50000]),(6,[50000]),(7,[50000]),(8,[]),(9,[])] (.of [0,1,2,3,4,5,6,7,8,9])) (.cd (.t 12) .sk (.fg ⟨[],[(50000,some tyParserX)]⟩ (.ex 0)))) (.bk 1 (.sq (.sq (.dr dr_f142_1 [(0,[50000]),(1,[50000]),(2,[50000]),(3,[50000]),(4,[50000]),(5,[50000]),(6,[50000]),(7,[50000]),(8,[]),(9,[])] (.of [0,1,2,3,4,5,6,7,8,9])) (.sq (.reg [(oV 22 2)]) (.bk 2 (.sq (.reg [(oP 24 (.bin false .eql (.t 22) (.c (.v (.int .u8 10))))),(oV 23 24)]) (.cd (.t 23) (.reg [(oV 25 0),(oP 26 (.nc (.t 25))),(oP 27 (.fa 2 (.t 26))),(oL 28 27),(oP 29 (.bin false .add (.t 28) (cI 1))),(oP 30 (.nc (.t 25))),(oP 31 (.fa 2 (.t 30))),(.mk none none (.m (.st 1 (.t 31) (.t 29))))]) (.sq (.sq (.reg [(oP 33 (.bin false .eql (.t 22) (.c (.v (.int .u8 32))))),(oV 32 33)]) (.cd (.t 32) .sk (.reg [(oP 34 (.bin false .eql (.t 22) (.c (.v (.int .u8 9))))),(oV 32 34)]))) (.cd (.t 32) .sk (.sq (.reg [(oP 36 (.bin false .eql (.t 22) (.c (.v (.int .u8 35))))),(oV 35 36)]) (.cd (.t 35) (.bk 3 (.lp 0 fg_f142_0 tb_f142_0)) (.fg ⟨[],[(50000,some tyParserX)]⟩ .rt)))))))))) (.reg [(oV 81 0),(oV 82 0),(oV 83 0),(oP 84 (.nc (.t 83))),(oP 85 (.fa 1 (.t 84))),(oL 86 85),(oP 87 (.bin false .add (.t 86) (cI 1))),(oP 88 (.nc (.t 81))),(oP 89 (.fa 1 (.t 88))),(.mk none none (.m (.st 1 (.t 89) (.t 87)))),(oP 90 (.nc (.t 82))),(oP 91 (.fa 3 (.t 90))),(.mk none none (.m (.st 1 (.t 91) (cB false))))]))))
def tc_f142:TC:=(.bk 0 (.lp 1 fg_f142_1 tb_f142_1))
def rv_f142:List (RV×Option Ty):=[]
abbrev sh_f142_0:Sh:=⟨[(0,.ptr 50000 0)],[(50000,.box tyParserX)]⟩
def st_f142_0 (y50000:ParserX):VS:=sh_f142_0.st ((),()) (y50000,())
abbrev sh_f142_0_e3:Sh:=⟨[(0,.ptr 50000 0)],[(50000,.box tyParserX)]⟩
def st_f142_0_e3 (y50000:ParserX):VS:=sh_f142_0_e3.st ((),()) (y50000,())
-- loop 0: (y50000 : ParserX); out: ('exit', 3) (y50000 : ParserX)
abbrev sh_f142_1:Sh:=⟨[(0,.ptr 50000 0)],[(50000,.box tyParserX)]⟩
def st_f142_1 (y50000:ParserX):VS:=sh_f142_1.st ((),()) (y50000,())
abbrev sh_f142_1_ret:Sh:=⟨[],[(50000,.box tyParserX)]⟩
def st_f142_1_ret (y50000:ParserX):VS:=sh_f142_1_ret.st () (y50000,())
abbrev sh_f142_1_e0:Sh:=⟨[],[(50000,.box tyParserX)]⟩
def st_f142_1_e0 (y50000:ParserX):VS:=sh_f142_1_e0.st () (y50000,())
-- loop 1: (y50000 : ParserX); out: ('ret',) (y50000 : ParserX); ('exit', 0) (y50000 : ParserX)
def L_f142_0:VS->Option (Bool×List (Bool×Exit×VS)):=mkL sh_f142_0 (fun x y=>(px0 y.1)) (fun x y=>[(true,.exit 3,st_f142_0_e3 (pxUp y.1 (cmN ((bytesL y.1.1.1).drop (y.1.1.2.1+1).toNat))))])
def L_f142_1:VS->Option (Bool×List (Bool×Exit×VS)):=mkL sh_f142_1 (fun x y=>(px1 y.1)) (fun x y=>[((ilt (pkD y.1).1.2.1 (slen y.1.1.1)),.ret,st_f142_1_ret (pkD y.1)),(true,.exit 0,st_f142_1_e0 (pkD y.1))])
def g_f142:G:=⟨TYs,[],92,EL [(139,sp_f139)],keeps,(Ls [L_f142_0,L_f142_1]),IL [],RL []⟩
def b_f142_0 (y50000:ParserX):Option (Exit×VS):=
 br ((ilt (iadd .i64 y50000.1.2.1 1) (slen y50000.1.1)))
  (br (cSx y50000.1.1 (iadd .i64 y50000.1.2.1 1))
   (br ((ine (sgt y50000.1.1 (iadd .i64 y50000.1.2.1 1)) 10))
    (br (cSx y50000.1.1 (iadd .i64 y50000.1.2.1 1))
     (br ((isClI (sgt y50000.1.1 (iadd .i64 y50000.1.2.1 1))))
      (some (.normal,st_f142_0 ((y50000.1.1,((iadd .i64 y50000.1.2.1 1),y50000.1.2.2)),y50000.2)))
      (some (.exit 3,st_f142_0_e3 y50000)))
     (none))
    (some (.exit 3,st_f142_0_e3 y50000)))
   (none))
  (some (.exit 3,st_f142_0_e3 y50000))
noncomputable def lp_f142_0 (y50000:ParserX):Option (Exit×VS):=loopF (roundF g_f142 fg_f142_0 tb_f142_0) (st_f142_0 y50000)
noncomputable def n_f142_0 (y50000:ParserX):Option (Exit×VS):=
 br ((ilt (iadd .i64 y50000.1.2.1 1) (slen y50000.1.1)))
  (br (cSx y50000.1.1 (iadd .i64 y50000.1.2.1 1))
   (br ((ine (sgt y50000.1.1 (iadd .i64 y50000.1.2.1 1)) 10))
    (br (cSx y50000.1.1 (iadd .i64 y50000.1.2.1 1))
     (br ((isClI (sgt y50000.1.1 (iadd .i64 y50000.1.2.1 1))))
      (lp_f142_0 ((y50000.1.1,((iadd .i64 y50000.1.2.1 1),y50000.1.2.2)),y50000.2))
      (some (.exit 3,st_f142_0_e3 y50000)))
     (none))
    (some (.exit 3,st_f142_0_e3 y50000)))
   (none))
  (some (.exit 3,st_f142_0_e3 y50000))
def la_f142_0 (y50000:ParserX):Option (Exit×VS):=some (.exit 3,st_f142_0_e3 (pxUp y50000 (cmN ((bytesL y50000.1.1).drop (y50000.1.2.1+1).toNat))))
theorem be_f142_0 (y50000:ParserX):roundF g_f142 fg_f142_0 tb_f142_0 (st_f142_0 y50000)=b_f142_0 y50000:=by kernel_rfl
theorem ln_f142_0 (y50000:ParserX):lp_f142_0 y50000=n_f142_0 y50000:=(loopF_nxt _ _).trans (by
 rw [be_f142_0]
 simp only [b_f142_0,n_f142_0,nxt_br,nxt_n,nxt_r,nxt_e,nxt_0]
 rfl)
def b_f142_1_1 (y50000:ParserX):Option (Exit×VS):=
 br ((ieq (sgt y50000.1.1 y50000.1.2.1) 35))
  (br ((px0 y50000))
   (some (.normal,st_f142_1 ((((pxUp y50000 (cmN ((bytesL y50000.1.1).drop (y50000.1.2.1+1).toNat))).1).1,((iadd .i64 ((((pxUp y50000 (cmN ((bytesL y50000.1.1).drop (y50000.1.2.1+1).toNat))).1).2).1) 1),(((((pxUp y50000 (cmN ((bytesL y50000.1.1).drop (y50000.1.2.1+1).toNat))).1).2).2).1,(false,(((((pxUp y50000 (cmN ((bytesL y50000.1.1).drop (y50000.1.2.1+1).toNat))).1).2).2).2).2)))),(pxUp y50000 (cmN ((bytesL y50000.1.1).drop (y50000.1.2.1+1).toNat))).2)))
   (none))
  (some (.ret,st_f142_1_ret y50000))
def b_f142_1 (y50000:ParserX):Option (Exit×VS):=
 br ((ilt y50000.1.2.1 (slen y50000.1.1)))
  (br (cSx y50000.1.1 y50000.1.2.1)
   (br ((ieq (sgt y50000.1.1 y50000.1.2.1) 10))
    (some (.normal,st_f142_1 ((y50000.1.1,((iadd .i64 y50000.1.2.1 1),((iadd .i64 y50000.1.2.2.1 1),(false,y50000.1.2.2.2.2)))),y50000.2)))
    (br ((ieq (sgt y50000.1.1 y50000.1.2.1) 32))
     (br ((ieq (sgt y50000.1.1 y50000.1.2.1) 32))
      (some (.normal,st_f142_1 ((y50000.1.1,((iadd .i64 y50000.1.2.1 1),(y50000.1.2.2.1,(false,y50000.1.2.2.2.2)))),y50000.2)))
      (b_f142_1_1 y50000))
     (br ((ieq (sgt y50000.1.1 y50000.1.2.1) 9))
      (some (.normal,st_f142_1 ((y50000.1.1,((iadd .i64 y50000.1.2.1 1),(y50000.1.2.2.1,(false,y50000.1.2.2.2.2)))),y50000.2)))
      (b_f142_1_1 y50000))))
   (none))
  (some (.exit 0,st_f142_1_e0 y50000))
noncomputable def lp_f142_1 (y50000:ParserX):Option (Exit×VS):=loopF (roundF g_f142 fg_f142_1 tb_f142_1) (st_f142_1 y50000)
noncomputable def n_f142_1_1 (y50000:ParserX):Option (Exit×VS):=
 br ((ieq (sgt y50000.1.1 y50000.1.2.1) 35))
  (br ((px0 y50000))
   (lp_f142_1 ((((pxUp y50000 (cmN ((bytesL y50000.1.1).drop (y50000.1.2.1+1).toNat))).1).1,((iadd .i64 ((((pxUp y50000 (cmN ((bytesL y50000.1.1).drop (y50000.1.2.1+1).toNat))).1).2).1) 1),(((((pxUp y50000 (cmN ((bytesL y50000.1.1).drop (y50000.1.2.1+1).toNat))).1).2).2).1,(false,(((((pxUp y50000 (cmN ((bytesL y50000.1.1).drop (y50000.1.2.1+1).toNat))).1).2).2).2).2)))),(pxUp y50000 (cmN ((bytesL y50000.1.1).drop (y50000.1.2.1+1).toNat))).2))
   (none))
  (some (.ret,st_f142_1_ret y50000))
noncomputable def n_f142_1 (y50000:ParserX):Option (Exit×VS):=
 br ((ilt y50000.1.2.1 (slen y50000.1.1)))
  (br (cSx y50000.1.1 y50000.1.2.1)
   (br ((ieq (sgt y50000.1.1 y50000.1.2.1) 10))
    (lp_f142_1 ((y50000.1.1,((iadd .i64 y50000.1.2.1 1),((iadd .i64 y50000.1.2.2.1 1),(false,y50000.1.2.2.2.2)))),y50000.2))
    (br ((ieq (sgt y50000.1.1 y50000.1.2.1) 32))
     (br ((ieq (sgt y50000.1.1 y50000.1.2.1) 32))
      (lp_f142_1 ((y50000.1.1,((iadd .i64 y50000.1.2.1 1),(y50000.1.2.2.1,(false,y50000.1.2.2.2.2)))),y50000.2))
      (n_f142_1_1 y50000))
     (br ((ieq (sgt y50000.1.1 y50000.1.2.1) 9))
      (lp_f142_1 ((y50000.1.1,((iadd .i64 y50000.1.2.1 1),(y50000.1.2.2.1,(false,y50000.1.2.2.2.2)))),y50000.2))
      (n_f142_1_1 y50000))))
   (none))
  (some (.exit 0,st_f142_1_e0 y50000))
def la_f142_1 (y50000:ParserX):Option (Exit×VS):=br (ilt (pkD y50000).1.2.1 (slen y50000.1.1)) (some (.ret,st_f142_1_ret (pkD y50000)))<|some (.exit 0,st_f142_1_e0 (pkD y50000))
theorem be_f142_1 (y50000:ParserX):roundF g_f142 fg_f142_1 tb_f142_1 (st_f142_1 y50000)=b_f142_1 y50000:=by kernel_rfl
theorem ln_f142_1 (y50000:ParserX):lp_f142_1 y50000=n_f142_1 y50000:=(loopF_nxt _ _).trans (by
 rw [be_f142_1]
 simp only [b_f142_1,b_f142_1_1,n_f142_1,n_f142_1_1,nxt_br,nxt_n,nxt_r,nxt_e,nxt_0]
 rfl)
def r_f142 (d0:ParserX):Option (V×List VO):=
 br ((px1 d0))
  (br ((ilt (pkD d0).1.2.1 (slen d0.1.1)))
   (some (.tu [],[.box (.t tyParserX (pkD d0))]))
   (some (.tu [],[.box (.t tyParserX (pkD d0))])))
  (none)
theorem e_f142 (d0:ParserX):runF g_f142 tc_f142 rv_f142 false [.ptr 50000 0] [.box (.t tyParserX d0)]=r_f142 d0:=by kernel_rfl
theorem ok_f142:Option.map (trC Tryd.prog) Tryd.f142.body=some tc_f142.er:=by kernel_rfl
theorem rok_f142:trVs Tryd.prog Tryd.f142.results.toList=some (rv_f142.map Prod.fst):=by kernel_rfl
theorem en_f142:Entered Tryd.prog 142:= .inr ⟨by decide,_,Tryd.func142,by kernel_rfl,by kernel_rfl⟩
theorem gk_f142:GOk Tryd.prog g_f142:=gok_of _ (by
 intro p hp
 simp only [List.mem_cons,List.not_mem_nil,or_false] at hp
 rcases hp with rfl
 ·exact ⟨en_f139,ms_f139⟩)
theorem l_f142_0 (y50000:ParserX)(h:(px0 y50000)=true):lp_f142_0 y50000=la_f142_0 y50000:=by
 obtain ⟨⟨t,a,z⟩,r⟩:=y50000
 obtain ⟨h1,h2,h3⟩:=cP_of h
 clear h
 simp only at h1 h2 h3
 obtain ⟨k,rfl⟩:=Int.eq_ofNat_of_zero_le h1
 have hl:=bytesG_len t
 have la: ∀ k:Nat,la_f142_0 ((t,((k:Int),z)),r)=some (.exit 3,st_f142_0_e3 ((t,((k:Int)+(cmN ((bytesL t).drop (k+1)):Int),z)),r)):=fun k=>by
  show some (_,st_f142_0_e3 ((t,((k:Int)+(cmN ((bytesL t).drop ((k:Int)+1).toNat):Int),z)),r))=_
  rw [show ((k:Int)+1).toNat=k+1 by omega]
 have key: ∀ (m k:Nat),k+1+m=t.size->lp_f142_0 ((t,((k:Int),z)),r)=la_f142_0 ((t,((k:Int),z)),r):=by
  intro m
  induction m with
  |zero=>
   intro k hm
   have e2:ilt ((k+1:Nat):Int) (slen t)=false:=decide_eq_false (by simp only [slen];omega)
   rw [ln_f142_0,la]
   unfold n_f142_0
   simp only
   rw [add1 (k:=k),e2,br_false,List.drop_eq_nil_of_le (by omega)]
   show _=some (_,st_f142_0_e3 ((t,((k:Int)+0,z)),r))
   rw [Int.add_zero]
  |succ m ih=>
   intro k hm
   have hlt:k+1<t.size:=by omega
   have hkl:k+1<(bytesL t).length:=by omega
   have e2:ilt ((k+1:Nat):Int) (slen t)=true:=decide_eq_true (by simp only [slen];omega)
   have e3:cSx t ((k+1:Nat):Int)=true:=by simp only [cSx,decide_eq_true_eq];omega
   rw [ln_f142_0,la]
   unfold n_f142_0
   simp only
   rw [add1 (k:=k),e2,br_true,e3,br_true,br_true,sgt_get hlt,ih (k+1) (by omega),la,List.drop_eq_getElem_cons hkl]
   generalize (bytesL t)[k+1]=c
   have e:cmN (c::(bytesL t).drop (k+1+1))=bif isClI c then cmN ((bytesL t).drop (k+1+1))+1 else 0:=by rw [cmN.eq_def]
   rw [e,show ine c 10= !ieq c 10 from rfl]
   cases h10:ieq c 10 with
   |true=>
    rw [(cl_10 h10).1,Bool.not_true,br_false]
    show _=some (_,st_f142_0_e3 ((t,((k:Int)+0,z)),r))
    rw [Int.add_zero]
   |false=>
    rw [Bool.not_false,br_true]
    cases isClI c with
    |true=>
     rw [br_true,cond_true,show (((k+1:Nat):Int)+(cmN ((bytesL t).drop (k+1+1)):Int))=(k:Int)+((cmN ((bytesL t).drop (k+1+1))+1:Nat):Int) by omega]
    |false=>
     rw [br_false]
     show _=some (_,st_f142_0_e3 ((t,((k:Int)+0,z)),r))
     rw [Int.add_zero]
 exact key (t.size-k-1) k (by omega)
theorem l_f142_1 (y50000:ParserX)(h:(px1 y50000)=true):lp_f142_1 y50000=la_f142_1 y50000:=by
 obtain ⟨⟨t,a,ln,w,u1⟩,r⟩:=y50000
 obtain ⟨h1,h2,h3,h4,h5⟩:=cP_of h
 clear h
 simp only at h1 h2 h3 h4 h5
 obtain ⟨k,rfl⟩:=Int.eq_ofNat_of_zero_le h1
 have hl:=bytesG_len t
 have key: ∀ (m k:Nat) (ln:Int) (w:Bool),t.size-k=m->k<=t.size->0<=ln->ln<=(k:Int)+1->lp_f142_1 ((t,((k:Int),(ln,(w,())))),r)=la_f142_1 ((t,((k:Int),(ln,(w,())))),r):=by
  intro m
  induction m using Nat.strongRecOn with
  |ind m ih=>
   intro k ln w hm hk hl0 hl1
   have la: ∀ (a ln:Int) (w:Bool),la_f142_1 ((t,(a,(ln,(w,())))),r)=br (ilt (pkD ((t,(a,(ln,(w,())))),r)).1.2.1 (slen t)) (some (.ret,st_f142_1_ret (pkD ((t,(a,(ln,(w,())))),r)))) (some (.exit 0,st_f142_1_e0 (pkD ((t,(a,(ln,(w,())))),r)))):=fun a ln w=>rfl
   have pd: ∀ (k:Nat) (ln:Int) (w:Bool),pkD ((t,((k:Int),(ln,(w,())))),r)=((t,((k:Int)+((pkL ((bytesL t).drop k) false w).1:Int),(ln+((pkL ((bytesL t).drop k) false w).2.1:Int),((pkL ((bytesL t).drop k) false w).2.2,())))),r):=fun k ln w=>rfl
   have go: ∀ (k':Nat) (ln':Int) (w':Bool),k<k'->k'<=t.size->0<=ln'->ln'<=(k':Int)+1->pkD ((t,((k:Int),(ln,(w,())))),r)=pkD ((t,((k':Int),(ln',(w',())))),r)->lp_f142_1 ((t,((k':Int),(ln',(w',())))),r)=la_f142_1 ((t,((k:Int),(ln,(w,())))),r):=fun k' ln' w' g1 g2 g3 g4 g5=>by
    rw [ih (t.size-k') (by omega) k' ln' w' rfl g2 g3 g4,la,la,g5]
   rw [ln_f142_1]
   unfold n_f142_1 n_f142_1_1
   simp only
   by_cases hlt:k<t.size
   ·have hkl:k<(bytesL t).length:=by omega
    have e2:ilt (k:Int) (slen t)=true:=decide_eq_true (by simp only [slen];omega)
    have e3:cSx t (k:Int)=true:=by simp only [cSx,decide_eq_true_eq];omega
    have e0:px0 ((t,((k:Int),(ln,(w,())))),r)=true:=cP_in ⟨by show (0:Int)<=(k:Int);omega,by show (k:Int)<(t.size:Int);omega,h3⟩
    have hc:(bytesL t).drop k=(bytesL t)[k]::(bytesL t).drop (k+1):=List.drop_eq_getElem_cons hkl
    have hm:=cmN_le ((bytesL t).drop (k+1))
    rw [List.length_drop] at hm
    have eu:pxUp ((t,((k:Int),(ln,(w,())))),r) (cmN ((bytesL t).drop ((k:Int)+1).toNat):Int)=((t,(((k+cmN ((bytesL t).drop (k+1)):Nat):Int),(ln,(w,())))),r):=by
     unfold pxUp
     rw [show ((k:Int)+1).toNat=k+1 by omega]
     simp only
     rw [show (k:Int)+(cmN ((bytesL t).drop (k+1)):Int)=((k+cmN ((bytesL t).drop (k+1)):Nat):Int) by omega]
    rw [e2,br_true,e3,br_true,sgt_get hlt,e0,br_true,eu]
    simp only
    rw [add1 (k:=k),add1 (show k+cmN ((bytesL t).drop (k+1))<4611686018427387904 by omega),iadd_in (show-9223372036854775808<=ln+1/\ln+1<=9223372036854775807 by omega)]
    generalize hg:(bytesL t)[k]=c at hc
    have ec: ∀ q:Bool,pkL (c::(bytesL t).drop (k+1)) false q=bif blkI c then ((pkL ((bytesL t).drop (k+1)) false false).1+1,((pkL ((bytesL t).drop (k+1)) false false).2.1+(bif ieq c 10 then 1 else 0),(pkL ((bytesL t).drop (k+1)) false false).2.2)) else
      bif ieq c 35 then ((pkL ((bytesL t).drop (k+1)) true false).1+1,(pkL ((bytesL t).drop (k+1)) true false).2) else (0,(0,q)):=fun q=>by rw [pkL.eq_def];rfl
    have blk:blkI c=(ieq c 9||(ieq c 32||ieq c 10)):=rfl
    cases h10:ieq c 10 with
    |true=>
     rw [br_true]
     refine go (k+1) (ln+1) false (by omega) (by omega) (by omega) (by omega) ?_
     rw [pd,pd,hc,ec,blk,h10,Bool.or_true,Bool.or_true,cond_true,cond_true]
     simp only
     rw [show (k:Int)+(((pkL ((bytesL t).drop (k+1)) false false).1+1:Nat):Int)=((k+1:Nat):Int)+((pkL ((bytesL t).drop (k+1)) false false).1:Int) by omega,show ln+(((pkL ((bytesL t).drop (k+1)) false false).2.1+1:Nat):Int)=ln+1+((pkL ((bytesL t).drop (k+1)) false false).2.1:Int) by omega]
    |false=>
     have sp:blkI c=true->pkD ((t,((k:Int),(ln,(w,())))),r)=pkD ((t,(((k+1:Nat):Int),(ln,(false,())))),r):=fun hb=>by
      rw [pd,pd,hc,ec,hb,h10,cond_true,cond_false]
      simp only [Nat.add_zero]
      rw [show (k:Int)+(((pkL ((bytesL t).drop (k+1)) false false).1+1:Nat):Int)=((k+1:Nat):Int)+((pkL ((bytesL t).drop (k+1)) false false).1:Int) by omega]
     have sg:lp_f142_1 ((t,(((k+1:Nat):Int),(ln,(false,())))),r)=lp_f142_1 ((t,(((k+1:Nat):Int),(ln,(false,())))),r):=rfl
     rw [br_false]
     cases h32:ieq c 32 with
     |true=>
      rw [br_true,br_true]
      exact go (k+1) ln false (by omega) (by omega) hl0 (by omega) (sp (by rw [blk,h32,Bool.true_or,Bool.or_true]))
     |false=>
      rw [br_false]
      cases h9:ieq c 9 with
      |true=>
       rw [br_true]
       exact go (k+1) ln false (by omega) (by omega) hl0 (by omega) (sp (by rw [blk,h9,Bool.true_or]))
      |false=>
       rw [br_false]
       have hb:blkI c=false:=by rw [blk,h9,h32,h10];rfl
       cases h35:ieq c 35 with
       |true=>
        rw [br_true]
        refine go (k+cmN ((bytesL t).drop (k+1))+1) ln false (by omega) (by omega) hl0 (by omega) ?_
        rw [pd,pd,hc,ec,hb,h35,cond_false,cond_true,pk_cm,List.drop_drop]
        simp only
        rw [show k+1+cmN ((bytesL t).drop (k+1))=k+cmN ((bytesL t).drop (k+1))+1 by omega]
        generalize (pkL ((bytesL t).drop (k+cmN ((bytesL t).drop (k+1))+1)) false false)=K
        rw [show (k:Int)+((K.1+cmN ((bytesL t).drop (k+1))+1:Nat):Int)=((k+cmN ((bytesL t).drop (k+1))+1:Nat):Int)+(K.1:Int) by omega]
       |false=>
        rw [br_false,la,pd,hc,ec,hb,h35,cond_false,cond_false]
        simp only
        rw [show (k:Int)+((0:Nat):Int)=(k:Int) by omega,show ln+((0:Nat):Int)=ln by omega,e2,br_true]
   ·obtain rfl:k=t.size:=by omega
    have e2:ilt ((t.size:Nat):Int) (slen t)=false:=decide_eq_false (by simp only [slen];omega)
    rw [e2,br_false,la,pd,List.drop_eq_nil_of_le (by omega)]
    simp only [pkL]
    rw [show ((t.size:Nat):Int)+((0:Nat):Int)=((t.size:Nat):Int) by omega,show ln+((0:Nat):Int)=ln by omega,e2,br_false]
 exact key _ k ln w rfl (by omega) h4 h5
theorem lo_f142_0: ∀ S l p,g_f142.L 0 (fgt fg_f142_0 S)=some (true,l)->pickA l=some p->loopF (roundF g_f142 fg_f142_0 tb_f142_0) S=some p:=
 lok_of (s:=sh_f142_0) ⟨by decide,by decide⟩ (by kernel_rfl) fun x y hok p hp=>by
 simp only [pickA_br,pickA_one] at hp
 exact (l_f142_0 y.1 (by simpa using hok)).trans hp
theorem lo_f142_1: ∀ S l p,g_f142.L 1 (fgt fg_f142_1 S)=some (true,l)->pickA l=some p->loopF (roundF g_f142 fg_f142_1 tb_f142_1) S=some p:=
 lok_of (s:=sh_f142_1) ⟨by decide,by decide⟩ (by kernel_rfl) fun x y hok p hp=>by
 simp only [pickA_br,pickA_one] at hp
 exact (l_f142_1 y.1 (by simpa using hok)).trans hp
theorem lk_f142:tc_f142.lok g_f142:=by
 repeat (first|exact trivial|exact lo_f142_0|exact lo_f142_1|refine ⟨?_, ?_⟩)
theorem s_f142 (x:ParserX)(h:px1 x=true):r_f142 x=some (.tu [],[.box (.t tyParserX (pkD x))]):=by
 unfold r_f142
 refine brY h ?_
 cases ilt (pkD x).1.2.1 (slen x.1.1)<;>rfl
def sp_f142:Ent:=specP tyParserX .nil (fun d x=>(px1 d)) (fun d x=>(.tu [])) (fun d x=>(pkD d))
theorem ms_f142:Meets Tryd.prog 142 (strip sp_f142):=by
 obtain ⟨c,hc,hi⟩:=Option.map_eq_some_iff.1 ok_f142
 exact meets_specP (R:=runF g_f142 tc_f142 rv_f142 false) (meets_of (by decide) Tryd.func142 hc hi Tryd.ntmps142 rok_f142 gk_f142 lk_f142 mixed) rfl fun d x hok=>(e_f142 d).trans (s_f142 d hok)
end
end Go.Proofs.YtkkoedniahnneaaDoor.K
namespace Go.Proofs.YtkkoedniahnneaaDoor.K
open Go.RowKit
noncomputable section
set_option linter.unusedSectionVars false
def pxN (x:ParserX)(n:Int):ParserX:=((x.1.1,(x.1.2.1+n,(x.1.2.2.1,(false,())))),x.2)
def tkP (k:Int)(x:ParserX):Token:=(k,(pxL x,(ByteArray.mk #[],())))
def pnQ (x:ParserX):Token×ParserX:=
 bif ieq x.1.2.1 (slen x.1.1) then (tkP 6 x,x) else
 bif ieq (sgt x.1.1 x.1.2.1) 59 then (tkP 0 x,pxN x 1) else
 bif ieq (sgt x.1.1 x.1.2.1) 123 then (tkP 1 x,pxN x 1) else
 bif ieq (sgt x.1.1 x.1.2.1) 125 then (tkP 2 x,pxN x 1) else
 bif pxW x then (tkP 5 x,pxN x 0) else
 bif ltrB (sgt x.1.1 x.1.2.1) then ((3,(pxL x,(ssl x.1.1 x.1.2.1 (x.1.2.1+ltL (pxR x)),()))),pxTo x (ltL (pxR x)) true) else
 bif ieq (sgt x.1.1 x.1.2.1) 34 then (pqF (pxN x 0),pqD (pxN x 0)) else (tkP 5 x,pxN x 0)
def pnF (x:ParserX):Token:=(pnQ (pkD x)).1
def pnD (x:ParserX):ParserX:=(pnQ (pkD x)).2
def ixK (c:Int):Int:=bif ieq c 59 then 0 else bif ieq c 123 then 1 else bif ieq c 125 then 2 else-1
theorem ix_tab:((List.range 256).all fun n=>ixbF (ByteArray.mk #[59,123,125]) (n:Int)==ixK (n:Int))=true:=by kernel_rfl
theorem ix_eq {c:Int}(h:bytI c=true):ixbF (ByteArray.mk #[59,123,125]) c=ixK c:=by
 obtain ⟨h1,h2⟩:=of_decide_eq_true h
 obtain ⟨n,rfl⟩:=Int.eq_ofNat_of_zero_le h1
 exact eq_of_beq (List.all_eq_true.1 ix_tab n (List.mem_range.2 (by omega)))
def pl0 (x:ParserX):Bool:=cP (0<=x.1.2.1/\x.1.2.1<=x.1.1.size/\x.1.1.size<=1000000)
def dr_f117_0:List DO:=[(.mk (oV 8 0) []),(.mk (oP 9 (.nc (.t 8))) [0]),(.mk (oP 10 (.fa 1 (.t 9))) [1]),(.mk (oL 11 10) [2]),(.mk (oV 12 0) []),(.mk (oP 13 (.nc (.t 12))) [4]),(.mk (oP 14 (.fa 0 (.t 13))) [5]),(.mk (oL 15 14) [6]),(.mk (oP 16 (.len true (.t 15))) [7]),(.mk (oP 17 (.bin false .eql (.t 11) (.t 16))) [3,8])]
def dr_f117_1:List DO:=[(.mk (oV 30 0) []),(.mk (oP 31 (.nc (.t 30))) [0]),(.mk (oP 32 (.fa 0 (.t 31))) [1]),(.mk (oL 33 32) [2]),(.mk (oV 34 0) []),(.mk (oP 35 (.nc (.t 34))) [4]),(.mk (oP 36 (.fa 1 (.t 35))) [5]),(.mk (oL 37 36) [6]),(.mk (oP 38 (.sx (.t 33) (.t 37))) [3,7]),(.mk (oV 4 38) [8,0,1,2,3,4,5,6,7,8])]
def dr_f117_2:List DO:=[(.mk (oV 50 4) []),(.mk (oC 51 143 [(.c (.v (.string (ByteArray.mk #[59,123,125])))),(.t 50)]) [0]),(.mk (oV 52 0) []),(.mk (oP 53 (.nc (.t 52))) [2]),(.mk (oP 54 (.fa 2 (.t 53))) [3]),(.mk (oL 55 54) [4]),(.mk (oP 56 (.bd [(.v (.int .i64 0)),(.v (.int .i64 0)),(.v (.string (ByteArray.mk #[])))] [(0,1,(.t 51)),(1,1,(.t 55)),(2,1,(.c (.v (.string (ByteArray.mk #[])))))])) [1,5]),(.mk (.mk none none (.m (.st 3 (.t 2) (.t 56)))) [6,1,0,1,2,3,4,5,6])]
def dr_f117_3:List DO:=[(.mk (oV 71 0) []),(.mk (oP 72 (.nc (.t 71))) [0]),(.mk (oP 73 (.fa 1 (.t 72))) [1]),(.mk (oL 74 73) [2]),(.mk (oV 75 0) []),(.mk (oP 76 (.nc (.t 75))) [4]),(.mk (oP 77 (.fa 0 (.t 76))) [5]),(.mk (oL 78 77) [6]),(.mk (oP 79 (.len true (.t 78))) [7]),(.mk (oP 80 (.bin false .lss (.t 74) (.t 79))) [3,8]),(.mk (oV 81 80) [9]),(.mk (oQ 82 81 true (.mv (.t 0))) [10]),(.mk (oQ 83 81 true (.nc (.t 82))) [11,10]),(.mk (oQ 84 81 true (.fa 0 (.t 83))) [12,10]),(.mk (oG 85 81 true (.m (.ld false 1 (.t 84)))) [13,10]),(.mk (oQ 86 81 true (.mv (.t 0))) [10]),(.mk (oQ 87 81 true (.nc (.t 86))) [15,10]),(.mk (oQ 88 81 true (.fa 1 (.t 87))) [16,10]),(.mk (oG 89 81 true (.m (.ld false 1 (.t 88)))) [17,10]),(.mk (oQ 90 81 true (.sx (.t 85) (.t 89))) [14,18,10]),(.mk (oG 91 81 true (.call 140 [(.t 90)])) [19,10,10]),(.mk (oP 92 (.pick (.t 81) (.t 91) (cB false))) [10,20])]
def dr_f117_4:List DO:=[(.mk (oV 103 0) []),(.mk (oP 104 (.nc (.t 103))) [0]),(.mk (oP 105 (.fa 2 (.t 104))) [1]),(.mk (oL 106 105) [2]),(.mk (oV 107 0) []),(.mk (oP 108 (.nc (.t 107))) [4]),(.mk (oP 109 (.fa 0 (.t 108))) [5]),(.mk (oL 110 109) [6]),(.mk (oV 111 5) []),(.mk (oV 112 0) []),(.mk (oP 113 (.nc (.t 112))) [9]),(.mk (oP 114 (.fa 1 (.t 113))) [10]),(.mk (oL 115 114) [11]),(.mk (oP 116 (.sls (.t 110) (some (.t 111)) (some (.t 115)))) [7,8,12]),(.mk (oP 117 (.bd [(.v (.int .i64 0)),(.v (.int .i64 0)),(.v (.string (ByteArray.mk #[])))] [(0,1,(cI 3)),(1,1,(.t 106)),(2,1,(.t 116))])) [3,13]),(.mk (.mk none none (.m (.st 3 (.t 2) (.t 117)))) [14,0,1,2,3,4,5,6,7,8,9,10,11,12,13,14])]
def fg_f117_0:Fg:=⟨[(0,none),(2,none),(5,some tI)],[(2,some tyToken),(50000,some tyParserX)]⟩
def tb_f117_0:TC:=(.sq (.sq (.dr dr_f117_3 [(0,[50000]),(1,[50000]),(2,[50000]),(3,[50000]),(4,[50000]),(5,[50000]),(6,[50000]),(7,[50000]),(8,[]),(9,[]),(10,[]),(11,[50000]),(12,[50000]),(13,[50000]),(14,[50000]),(15,[50000]),(16,[50000]),(17,[50000]),(18,[50000]),(19,[]),(20,[]),(21,[])] (.of [0,1,2,3,4,5,6,7,8,9,10,11,12,13,14,15,16,17,18,19,20,21])) (.cd (.t 92) .sk (.fg ⟨[(0,none),(2,none),(5,some tI)],[(2,some tyToken),(50000,some tyParserX)]⟩ (.ex 1)))) (.bk 2 (.reg [(oV 93 0),(oP 94 (.nc (.t 93))),(oP 95 (.fa 1 (.t 94))),(oL 96 95),(oP 97 (.bin false .add (.t 96) (cI 1))),(oP 98 (.nc (.t 93))),(oP 99 (.fa 1 (.t 98))),(.mk none none (.m (.st 1 (.t 99) (.t 97))))])))
def tc_f117:TC:=(.sq (.reg [(oM 2 (.new [(.v (.int .i64 0)),(.v (.int .i64 0)),(.v (.string (ByteArray.mk #[])))]))]) (.sq (.reg [(oV 6 0),(oC 7 142 [(.t 6)])]) (.sq (.sq (.dr dr_f117_0 [(0,[50000]),(1,[50000]),(2,[50000]),(3,[50000]),(4,[50000]),(5,[50000]),(6,[50000]),(7,[50000]),(8,[]),(9,[])] (.of [0,1,2,3,4,5,6,7,8,9])) (.cd (.t 17) (.sq (.reg [(oV 18 0),(oP 19 (.nc (.t 18))),(oP 20 (.fa 2 (.t 19))),(oL 21 20),(oP 22 (.bd [(.v (.int .i64 0)),(.v (.int .i64 0)),(.v (.string (ByteArray.mk #[])))] [(0,1,(cI 6)),(1,1,(.t 21)),(2,1,(.c (.v (.string (ByteArray.mk #[])))))])),(.mk none none (.m (.st 3 (.t 2) (.t 22))))]) .rt) .sk)) (.sq (.reg [(oV 23 0),(oP 24 (.nc (.t 23))),(oP 25 (.fa 3 (.t 24))),(oL 26 25),(oV 3 26)]) (.sq (.reg [(oV 27 0),(oP 28 (.nc (.t 27))),(oP 29 (.fa 3 (.t 28))),(.mk none none (.m (.st 1 (.t 29) (cB false))))]) (.sq (.sq (.dr dr_f117_1 [(0,[50000]),(1,[50000]),(2,[50000]),(3,[50000]),(4,[50000]),(5,[50000]),(6,[50000]),(7,[50000]),(8,[]),(9,[])] (.of [0,1,2,3,4,5,6,7,8,9])) (.bk 0 (.sq (.reg [(oV 40 4),(oC 41 143 [(.c (.v (.string (ByteArray.mk #[59,123,125])))),(.t 40)]),(oP 42 (.bin false .geq (.t 41) (cI 0))),(oV 39 42)]) (.cd (.t 39) (.sq (.reg [(oV 43 0),(oP 44 (.nc (.t 43))),(oP 45 (.fa 1 (.t 44))),(oL 46 45),(oP 47 (.bin false .add (.t 46) (cI 1))),(oP 48 (.nc (.t 43))),(oP 49 (.fa 1 (.t 48))),(.mk none none (.m (.st 1 (.t 49) (.t 47))))]) (.sq (.dr dr_f117_2 [(0,[]),(1,[]),(2,[50000]),(3,[50000]),(4,[50000]),(5,[50000]),(6,[]),(7,[2])] (.of [0,1,2,3,4,5,6,7])) .rt)) (.sq (.reg [(oV 58 3),(oV 57 58)]) (.cd (.t 57) (.sq (.reg [(oV 59 0),(oP 60 (.nc (.t 59))),(oP 61 (.fa 2 (.t 60))),(oL 62 61),(oP 63 (.bd [(.v (.int .i64 0)),(.v (.int .i64 0)),(.v (.string (ByteArray.mk #[])))] [(0,1,(cI 5)),(1,1,(.t 62)),(2,1,(.c (.v (.string (ByteArray.mk #[])))))])),(.mk none none (.m (.st 3 (.t 2) (.t 63))))]) .rt) (.sq (.reg [(oV 65 4),(oC 66 140 [(.t 65)]),(oV 64 66)]) (.cd (.t 64) (.sq (.reg [(oV 67 0),(oP 68 (.nc (.t 67))),(oP 69 (.fa 1 (.t 68))),(oL 70 69),(oV 5 70)]) (.sq (.bk 1 (.lp 0 fg_f117_0 tb_f117_0)) (.sq (.reg [(oV 100 0),(oP 101 (.nc (.t 100))),(oP 102 (.fa 3 (.t 101))),(.mk none none (.m (.st 1 (.t 102) (cB true))))]) (.sq (.dr dr_f117_4 [(0,[50000]),(1,[50000]),(2,[50000]),(3,[50000]),(4,[50000]),(5,[50000]),(6,[50000]),(7,[50000]),(8,[]),(9,[50000]),(10,[50000]),(11,[50000]),(12,[50000]),(13,[]),(14,[]),(15,[2])] (.of [0,1,2,3,4,5,6,7,8,9,10,11,12,13,14,15])) .rt)))) (.sq (.reg [(oV 119 4),(oP 120 (.bin false .eql (.t 119) (.c (.v (.int .u8 34))))),(oV 118 120)]) (.cd (.t 118) (.sq (.reg [(oV 121 0),(oC 122 144 [(.t 121)]),(.mk none none (.m (.st 3 (.t 2) (.t 122))))]) .rt) .sk)))))))))) (.sq (.reg [(oV 123 0),(oP 124 (.nc (.t 123))),(oP 125 (.fa 2 (.t 124))),(oL 126 125),(oP 127 (.bd [(.v (.int .i64 0)),(.v (.int .i64 0)),(.v (.string (ByteArray.mk #[])))] [(0,1,(cI 5)),(1,1,(.t 126)),(2,1,(.c (.v (.string (ByteArray.mk #[])))))])),(.mk none none (.m (.st 3 (.t 2) (.t 127))))]) .rt)))))))
def rv_f117:List (RV×Option Ty):=[((.c 2 true 3),some tyToken)]
abbrev sh_f117_0:Sh:=⟨[(0,.ptr 50000 0),(2,.ptr 2 0),(5,.ty tI)],[(2,.box tyToken),(50000,.box tyParserX)]⟩
def st_f117_0 (x5:Int)(y2:Token)(y50000:ParserX):VS:=sh_f117_0.st ((),(),x5,()) (y2,y50000,())
abbrev sh_f117_0_e1:Sh:=⟨[(0,.ptr 50000 0),(2,.ptr 2 0),(5,.ty tI)],[(2,.box tyToken),(50000,.box tyParserX)]⟩
def st_f117_0_e1 (x5:Int)(y2:Token)(y50000:ParserX):VS:=sh_f117_0_e1.st ((),(),x5,()) (y2,y50000,())
-- loop 0: (x5 : Int) (y2 : Token) (y50000 : ParserX); out: ('exit', 1) (x5 : Int) (y2 : Token) (y50000 : ParserX)
def L_f117_0:VS->Option (Bool×List (Bool×Exit×VS)):=mkL sh_f117_0 (fun x y=>(pl0 y.2.1)) (fun x y=>[(true,.exit 1,st_f117_0_e1 (x.2.2.1) (y.1) (pxUp y.2.1 (ltL (pxR y.2.1))))])
def g_f117:G:=⟨TYs,[],128,EL [(140,sp_f140),(142,sp_f142),(143,sp_f143),(144,sp_f144)],keeps,(Ls [L_f117_0]),IL [],RL []⟩
def b_f117_0 (x5:Int)(y2:Token)(y50000:ParserX):Option (Exit×VS):=
 br ((ilt y50000.1.2.1 (slen y50000.1.1)))
  (br (cSx y50000.1.1 y50000.1.2.1)
   (br ((ltrB (sgt y50000.1.1 y50000.1.2.1)))
    (some (.normal,st_f117_0 x5 y2 ((y50000.1.1,((iadd .i64 y50000.1.2.1 1),y50000.1.2.2)),y50000.2)))
    (some (.exit 1,st_f117_0_e1 x5 y2 y50000)))
   (none))
  (some (.exit 1,st_f117_0_e1 x5 y2 y50000))
noncomputable def lp_f117_0 (x5:Int)(y2:Token)(y50000:ParserX):Option (Exit×VS):=loopF (roundF g_f117 fg_f117_0 tb_f117_0) (st_f117_0 x5 y2 y50000)
noncomputable def n_f117_0 (x5:Int)(y2:Token)(y50000:ParserX):Option (Exit×VS):=
 br ((ilt y50000.1.2.1 (slen y50000.1.1)))
  (br (cSx y50000.1.1 y50000.1.2.1)
   (br ((ltrB (sgt y50000.1.1 y50000.1.2.1)))
    (lp_f117_0 x5 y2 ((y50000.1.1,((iadd .i64 y50000.1.2.1 1),y50000.1.2.2)),y50000.2))
    (some (.exit 1,st_f117_0_e1 x5 y2 y50000)))
   (none))
  (some (.exit 1,st_f117_0_e1 x5 y2 y50000))
def la_f117_0 (x5:Int)(y2:Token)(y50000:ParserX):Option (Exit×VS):=some (.exit 1,st_f117_0_e1 (x5) (y2) (pxUp y50000 (ltL (pxR y50000))))
theorem be_f117_0 (x5:Int)(y2:Token)(y50000:ParserX):roundF g_f117 fg_f117_0 tb_f117_0 (st_f117_0 x5 y2 y50000)=b_f117_0 x5 y2 y50000:=by kernel_rfl
theorem ln_f117_0 (x5:Int)(y2:Token)(y50000:ParserX):lp_f117_0 x5 y2 y50000=n_f117_0 x5 y2 y50000:=(loopF_nxt _ _).trans (by
 rw [be_f117_0]
 simp only [b_f117_0,n_f117_0,nxt_br,nxt_n,nxt_r,nxt_e,nxt_0]
 rfl)
def r_f117 (d0:ParserX):Option (V×List VO):=
 br ((px1 d0))
  (br ((ieq ((((pkD d0).1).2).1) (slen (((pkD d0).1).1))))
   (some (.t tyToken (6,(((((pkD d0).1).2).2).1,((ByteArray.mk #[]),()))),[.box (.t tyParserX (pkD d0))]))
   (br (cSx (((pkD d0).1).1) ((((pkD d0).1).2).1))
    (br ((ige (ixbF (ByteArray.mk #[59,123,125]) (sgt (((pkD d0).1).1) ((((pkD d0).1).2).1))) 0))
     (some (.t tyToken ((ixbF (ByteArray.mk #[59,123,125]) (sgt (((pkD d0).1).1) ((((pkD d0).1).2).1))),(((((pkD d0).1).2).2).1,((ByteArray.mk #[]),()))),[.box (.t tyParserX ((((pkD d0).1).1,((iadd .i64 ((((pkD d0).1).2).1) 1),(((((pkD d0).1).2).2).1,(false,(((((pkD d0).1).2).2).2).2)))),(pkD d0).2))]))
     (br ((((((pkD d0).1).2).2).2).1)
      (some (.t tyToken (5,(((((pkD d0).1).2).2).1,((ByteArray.mk #[]),()))),[.box (.t tyParserX ((((pkD d0).1).1,((((pkD d0).1).2).1,(((((pkD d0).1).2).2).1,(false,(((((pkD d0).1).2).2).2).2)))),(pkD d0).2))]))
      (br ((ltrB (sgt (((pkD d0).1).1) ((((pkD d0).1).2).1))))
       (br ((pl0 ((((pkD d0).1).1,((((pkD d0).1).2).1,(((((pkD d0).1).2).2).1,(false,(((((pkD d0).1).2).2).2).2)))),(pkD d0).2)))
        (br (cSs (((pxUp ((((pkD d0).1).1,((((pkD d0).1).2).1,(((((pkD d0).1).2).2).1,(false,(((((pkD d0).1).2).2).2).2)))),(pkD d0).2) (ltL (pxR ((((pkD d0).1).1,((((pkD d0).1).2).1,(((((pkD d0).1).2).2).1,(false,(((((pkD d0).1).2).2).2).2)))),(pkD d0).2)))).1).1) (((((pkD d0).1).2).1)) ((((pxUp ((((pkD d0).1).1,((((pkD d0).1).2).1,(((((pkD d0).1).2).2).1,(false,(((((pkD d0).1).2).2).2).2)))),(pkD d0).2) (ltL (pxR ((((pkD d0).1).1,((((pkD d0).1).2).1,(((((pkD d0).1).2).2).1,(false,(((((pkD d0).1).2).2).2).2)))),(pkD d0).2)))).1).2).1))
         (some (.t tyToken (3,(((((pxUp ((((pkD d0).1).1,((((pkD d0).1).2).1,(((((pkD d0).1).2).2).1,(false,(((((pkD d0).1).2).2).2).2)))),(pkD d0).2) (ltL (pxR ((((pkD d0).1).1,((((pkD d0).1).2).1,(((((pkD d0).1).2).2).1,(false,(((((pkD d0).1).2).2).2).2)))),(pkD d0).2)))).1).2).2).1,((ssl (((pxUp ((((pkD d0).1).1,((((pkD d0).1).2).1,(((((pkD d0).1).2).2).1,(false,(((((pkD d0).1).2).2).2).2)))),(pkD d0).2) (ltL (pxR ((((pkD d0).1).1,((((pkD d0).1).2).1,(((((pkD d0).1).2).2).1,(false,(((((pkD d0).1).2).2).2).2)))),(pkD d0).2)))).1).1) (((((pkD d0).1).2).1)) ((((pxUp ((((pkD d0).1).1,((((pkD d0).1).2).1,(((((pkD d0).1).2).2).1,(false,(((((pkD d0).1).2).2).2).2)))),(pkD d0).2) (ltL (pxR ((((pkD d0).1).1,((((pkD d0).1).2).1,(((((pkD d0).1).2).2).1,(false,(((((pkD d0).1).2).2).2).2)))),(pkD d0).2)))).1).2).1)),()))),[.box (.t tyParserX ((((pxUp ((((pkD d0).1).1,((((pkD d0).1).2).1,(((((pkD d0).1).2).2).1,(false,(((((pkD d0).1).2).2).2).2)))),(pkD d0).2) (ltL (pxR ((((pkD d0).1).1,((((pkD d0).1).2).1,(((((pkD d0).1).2).2).1,(false,(((((pkD d0).1).2).2).2).2)))),(pkD d0).2)))).1).1,((((pxUp ((((pkD d0).1).1,((((pkD d0).1).2).1,(((((pkD d0).1).2).2).1,(false,(((((pkD d0).1).2).2).2).2)))),(pkD d0).2) (ltL (pxR ((((pkD d0).1).1,((((pkD d0).1).2).1,(((((pkD d0).1).2).2).1,(false,(((((pkD d0).1).2).2).2).2)))),(pkD d0).2)))).1).2).1,(((((pxUp ((((pkD d0).1).1,((((pkD d0).1).2).1,(((((pkD d0).1).2).2).1,(false,(((((pkD d0).1).2).2).2).2)))),(pkD d0).2) (ltL (pxR ((((pkD d0).1).1,((((pkD d0).1).2).1,(((((pkD d0).1).2).2).1,(false,(((((pkD d0).1).2).2).2).2)))),(pkD d0).2)))).1).2).2).1,(true,(((((pxUp ((((pkD d0).1).1,((((pkD d0).1).2).1,(((((pkD d0).1).2).2).1,(false,(((((pkD d0).1).2).2).2).2)))),(pkD d0).2) (ltL (pxR ((((pkD d0).1).1,((((pkD d0).1).2).1,(((((pkD d0).1).2).2).1,(false,(((((pkD d0).1).2).2).2).2)))),(pkD d0).2)))).1).2).2).2).2)))),(pxUp ((((pkD d0).1).1,((((pkD d0).1).2).1,(((((pkD d0).1).2).2).1,(false,(((((pkD d0).1).2).2).2).2)))),(pkD d0).2) (ltL (pxR ((((pkD d0).1).1,((((pkD d0).1).2).1,(((((pkD d0).1).2).2).1,(false,(((((pkD d0).1).2).2).2).2)))),(pkD d0).2)))).2))]))
         (none))
        (none))
       (br ((ieq (sgt (((pkD d0).1).1) ((((pkD d0).1).2).1)) 34))
        (br ((pqOk ((((pkD d0).1).1,((((pkD d0).1).2).1,(((((pkD d0).1).2).2).1,(false,(((((pkD d0).1).2).2).2).2)))),(pkD d0).2)))
         (some (.t tyToken (pqF ((((pkD d0).1).1,((((pkD d0).1).2).1,(((((pkD d0).1).2).2).1,(false,(((((pkD d0).1).2).2).2).2)))),(pkD d0).2)),[.box (.t tyParserX (pqD ((((pkD d0).1).1,((((pkD d0).1).2).1,(((((pkD d0).1).2).2).1,(false,(((((pkD d0).1).2).2).2).2)))),(pkD d0).2)))]))
         (none))
        (some (.t tyToken (5,(((((pkD d0).1).2).2).1,((ByteArray.mk #[]),()))),[.box (.t tyParserX ((((pkD d0).1).1,((((pkD d0).1).2).1,(((((pkD d0).1).2).2).1,(false,(((((pkD d0).1).2).2).2).2)))),(pkD d0).2))]))))))
    (none)))
  (none)
theorem e_f117 (d0:ParserX):runF g_f117 tc_f117 rv_f117 false [.ptr 50000 0] [.box (.t tyParserX d0)]=r_f117 d0:=by kernel_rfl
theorem ok_f117:Option.map (trC Tryd.prog) Tryd.f117.body=some tc_f117.er:=by kernel_rfl
theorem rok_f117:trVs Tryd.prog Tryd.f117.results.toList=some (rv_f117.map Prod.fst):=by kernel_rfl
theorem en_f117:Entered Tryd.prog 117:= .inr ⟨by decide,_,Tryd.func117,by kernel_rfl,by kernel_rfl⟩
theorem gk_f117:GOk Tryd.prog g_f117:=gok_of _ (by
 intro p hp
 simp only [List.mem_cons,List.not_mem_nil,or_false] at hp
 rcases hp with rfl|rfl|rfl|rfl
 ·exact ⟨en_f140,ms_f140⟩
 ·exact ⟨en_f142,ms_f142⟩
 ·exact ⟨en_f143,ms_f143⟩
 ·exact ⟨en_f144,ms_f144⟩)
theorem l_f117_0 (x5:Int)(y2:Token)(y50000:ParserX)(h:(pl0 y50000)=true):lp_f117_0 x5 y2 y50000=la_f117_0 x5 y2 y50000:=by
 obtain ⟨⟨t,a,z⟩,r⟩:=y50000
 obtain ⟨h1,h2,h3⟩:=cP_of h
 clear h
 simp only at h1 h2 h3
 obtain ⟨k,rfl⟩:=Int.eq_ofNat_of_zero_le h1
 have hl:=bytesG_len t
 have la: ∀ k:Nat,la_f117_0 x5 y2 ((t,((k:Int),z)),r)=some (.exit 1,st_f117_0_e1 x5 y2 ((t,((k:Int)+(ltL ((bytesL t).drop k):Int),z)),r)):=fun k=>rfl
 have key: ∀ (m k:Nat),k+m=t.size->lp_f117_0 x5 y2 ((t,((k:Int),z)),r)=la_f117_0 x5 y2 ((t,((k:Int),z)),r):=by
  intro m
  induction m with
  |zero=>
   intro k hm
   have e2:ilt (k:Int) (slen t)=false:=decide_eq_false (by simp only [slen];omega)
   rw [ln_f117_0,la]
   unfold n_f117_0
   simp only
   rw [e2,br_false,List.drop_eq_nil_of_le (by omega)]
   show _=some (_,st_f117_0_e1 x5 y2 ((t,((k:Int)+0,z)),r))
   rw [Int.add_zero]
  |succ m ih=>
   intro k hm
   have hlt:k<t.size:=by omega
   have hkl:k<(bytesL t).length:=by omega
   have e2:ilt (k:Int) (slen t)=true:=decide_eq_true (by simp only [slen];omega)
   have e3:cSx t (k:Int)=true:=by simp only [cSx,decide_eq_true_eq];omega
   rw [ln_f117_0,la]
   unfold n_f117_0
   simp only
   rw [e2,br_true,e3,br_true,sgt_get hlt,add1 (k:=k),ih (k+1) (by omega),la,List.drop_eq_getElem_cons hkl]
   generalize (bytesL t)[k]=c
   have e:ltL (c::(bytesL t).drop (k+1))=bif ltrB c then ltL ((bytesL t).drop (k+1))+1 else 0:=by rw [ltL.eq_def]
   rw [e]
   cases ltrB c with
   |true=>rw [br_true,cond_true,show (((k+1:Nat):Int)+(ltL ((bytesL t).drop (k+1)):Int))=(k:Int)+((ltL ((bytesL t).drop (k+1))+1:Nat):Int) by omega]
   |false=>
    rw [br_false]
    show _=some (_,st_f117_0_e1 x5 y2 ((t,((k:Int)+0,z)),r))
    rw [Int.add_zero]
 exact key (t.size-k) k (by omega)
theorem lo_f117_0: ∀ S l p,g_f117.L 0 (fgt fg_f117_0 S)=some (true,l)->pickA l=some p->loopF (roundF g_f117 fg_f117_0 tb_f117_0) S=some p:=
 lok_of (s:=sh_f117_0) ⟨by decide,by decide⟩ (by kernel_rfl) fun x y hok p hp=>by
 simp only [pickA_br,pickA_one] at hp
 exact (l_f117_0 x.2.2.1 y.1 y.2.1 (by simpa using hok)).trans hp
theorem lk_f117:tc_f117.lok g_f117:=by
 repeat (first|exact trivial|exact lo_f117_0|refine ⟨?_, ?_⟩)
theorem pk_at {x:ParserX}(h:px1 x=true):0<=(pkD x).1.2.1/\(pkD x).1.2.1<=(pkD x).1.1.size/\(pkD x).1.1.size<=1000000:=by
 obtain ⟨h1,h2,h3,h4,h5⟩:=cP_of h
 have hb:=bytesG_len x.1.1
 have hk:=(pkL_le (pxR x) false (pxW x)).1
 rw [show (pxR x).length=(bytesL x.1.1).length-x.1.2.1.toNat from List.length_drop] at hk
 show 0<=x.1.2.1+((pkL (pxR x) false (pxW x)).1:Int)/\x.1.2.1+((pkL (pxR x) false (pxW x)).1:Int)<=(x.1.1.size:Int)/\x.1.1.size<=1000000
 omega
theorem s_f117 (x:ParserX)(h:px1 x=true):r_f117 x=some (.t tyToken (pnF x),[.box (.t tyParserX (pnD x))]):=by
 have hy:=pk_at h
 unfold r_f117 pnF pnD
 refine brY h ?_
 generalize pkD x=y at hy ⊢
 obtain ⟨⟨t,a,ln,w,u1⟩,r⟩:=y
 obtain ⟨y1,y2,y3⟩:=hy
 simp only at y1 y2 y3
 obtain ⟨k,rfl⟩:=Int.eq_ofNat_of_zero_le y1
 have hl:=bytesG_len t
 unfold pnQ
 simp only
 by_cases hlt:k<t.size
 ·have hkl:k<(bytesL t).length:=by omega
  have e1:ieq (k:Int) (slen t)=false:=by
   rw [show ieq (k:Int) (slen t)=((k:Int)==slen t) from rfl,beq_eq_false_iff_ne]
   simp only [slen]
   omega
  have e3:cSx t (k:Int)=true:=by simp only [cSx,decide_eq_true_eq];omega
  have e4:pl0 ((t,((k:Int),(ln,(false,u1)))),r)=true:=cP_in ⟨by show (0:Int)<=(k:Int);omega,by show (k:Int)<=(t.size:Int);omega,y3⟩
  have e5:pqOk ((t,((k:Int),(ln,(false,u1)))),r)=true:=cP_in ⟨by show (0:Int)<=(k:Int);omega,by show (k:Int)<(t.size:Int);omega,y3⟩
  have e6: ∀ q:Bool,pxR ((t,((k:Int),(ln,(q,u1)))),r)=(bytesL t).drop k:=fun q=>rfl
  have e7:=ltL_le ((bytesL t).drop k)
  rw [List.length_drop] at e7
  have e8:pxUp ((t,((k:Int),(ln,(false,u1)))),r) (ltL ((bytesL t).drop k):Int)=((t,((k:Int)+(ltL ((bytesL t).drop k):Int),(ln,(false,u1)))),r):=rfl
  have e9:cSs t (k:Int) ((k:Int)+(ltL ((bytesL t).drop k):Int))=true:=decide_eq_true (by omega)
  have n0:pxN ((t,((k:Int),(ln,(w,u1)))),r) 0=((t,((k:Int),(ln,(false,u1)))),r):=by
   show ((t,((k:Int)+0,(ln,(false,())))),r)=_
   rw [Int.add_zero]
  have n1:pxN ((t,((k:Int),(ln,(w,u1)))),r) 1=((t,((k:Int)+1,(ln,(false,u1)))),r):=rfl
  rw [e1,br_false,cond_false,e3,br_true,e4,br_true,e5,br_true,e6,e8,n0,n1]
  simp only
  rw [e9,br_true,add1 (k:=k),sgt_get hlt,ix_eq (bytI_at hkl)]
  generalize (bytesL t)[k]=c
  have f1:((k+1:Nat):Int)=(k:Int)+1:=by omega
  rw [f1]
  unfold ixK
  cases ieq c 59 with
  |true=>rfl
  |false=>
   cases ieq c 123 with
   |true=>rfl
   |false=>
    cases ieq c 125 with
    |true=>rfl
    |false=>
     cases w with
     |true=>rfl
     |false=>cases ltrB c<;>cases ieq c 34<;>rfl
 ·have e1:ieq (k:Int) (slen t)=true:=by
   rw [show ieq (k:Int) (slen t)=((k:Int)==slen t) from rfl,beq_iff_eq]
   simp only [slen]
   omega
  rw [e1]
  rfl
def sp_f117:Ent:=specP tyParserX .nil (fun d x=>(px1 d)) (fun d x=>(.t tyToken (pnF d))) (fun d x=>(pnD d))
theorem ms_f117:Meets Tryd.prog 117 (strip sp_f117):=by
 obtain ⟨c,hc,hi⟩:=Option.map_eq_some_iff.1 ok_f117
 exact meets_specP (R:=runF g_f117 tc_f117 rv_f117 false) (meets_of (by decide) Tryd.func117 hc hi Tryd.ntmps117 rok_f117 gk_f117 lk_f117 mixed) rfl fun d x hok=>(e_f117 d).trans (s_f117 d hok)
def psD (x:ParserX):ParserX:=((pnD x).1,(pnF x,(pnD x).2.2))
def tc_f79:TC:=(.reg [(oV 2 0),(oV 3 0),(oP 4 (.nc (.t 3))),(oP 5 (.fa 0 (.t 4))),(oC 6 117 [(.t 5)]),(oP 7 (.nc (.t 2))),(oP 8 (.fa 4 (.t 7))),(.mk none none (.m (.st 3 (.t 8) (.t 6))))])
def rv_f79:List (RV×Option Ty):=[]
def g_f79:G:=⟨TYs,[],9,EL [(117,sp_f117)],keeps,(fun _ _=>none),IL [],RL []⟩
def r_f79 (d0:ParserX):Option (V×List VO):=
 br ((px1 d0))
  (some (.tu [],[.box (.t tyParserX ((pnD d0).1,((pnF d0),((pnD d0).2).2)))]))
  (none)
theorem e_f79 (d0:ParserX):runF g_f79 tc_f79 rv_f79 false [.ptr 50000 0] [.box (.t tyParserX d0)]=r_f79 d0:=by kernel_rfl
theorem ok_f79:Option.map (trC Tryd.prog) Tryd.f79.body=some tc_f79.er:=by kernel_rfl
theorem rok_f79:trVs Tryd.prog Tryd.f79.results.toList=some (rv_f79.map Prod.fst):=by kernel_rfl
theorem gk_f79:GOk Tryd.prog g_f79:=gok_of _ (by
 intro p hp
 simp only [List.mem_cons,List.not_mem_nil,or_false] at hp
 rcases hp with rfl
 ·exact ⟨en_f117,ms_f117⟩)
theorem lk_f79:tc_f79.lok g_f79:=by repeat (first|exact trivial|refine ⟨?_, ?_⟩)
theorem s_f79 (x:ParserX)(h:px1 x=true):r_f79 x=some (.tu [],[.box (.t tyParserX (psD x))]):=by
 unfold r_f79
 exact brY h rfl
def sp_f79:Ent:=specP tyParserX .nil (fun d x=>(px1 d)) (fun d x=>(.tu [])) (fun d x=>(psD d))
theorem ms_f79:Meets Tryd.prog 79 (strip sp_f79):=by
 obtain ⟨c,hc,hi⟩:=Option.map_eq_some_iff.1 ok_f79
 exact meets_specP (R:=runF g_f79 tc_f79 rv_f79 false) (meets_of (by decide) Tryd.func79 hc hi Tryd.ntmps79 rok_f79 gk_f79 lk_f79 mixed) rfl fun d x hok=>(e_f79 d).trans (s_f79 d hok)
end
end Go.Proofs.YtkkoedniahnneaaDoor.K
namespace Go.Proofs.YtkkoedniahnneaaDoor.K
open Go.RowKit
noncomputable section
set_option linter.unusedSectionVars false
theorem ltr_cl_tab:((List.range 256).all fun n=> !ltrB (n:Int)||isClI (n:Int))=true:=by kernel_rfl
theorem ltr_cl {c:Int}(h:bytI c=true)(h2:isClI c=false):ltrB c=false:=by
 obtain ⟨h1,h3⟩:=of_decide_eq_true h
 obtain ⟨n,rfl⟩:=Int.eq_ofNat_of_zero_le h1
 have:=List.all_eq_true.1 ltr_cl_tab n (List.mem_range.2 (by omega))
 rw [h2,Bool.or_false] at this
 cases hl:ltrB (n:Int) with
 |false=>rfl
 |true=>rw [hl] at this;cases this
theorem ltr_34:ltrB 34=false:=by kernel_rfl
def kindT (t:TokenX):Int:=bif ieq t.1 119 then (bif t.2.2.1 then 3 else 4) else bif ieq t.1 59 then 0 else bif ieq t.1 123 then 1 else bif ieq t.1 125 then 2 else bif ieq t.1 63 then 5 else 6
structure PTok (x:ParserXX) (y:ParserX):Prop where
 kind:y.2.1.1=kindT x.2.1
 line:y.2.1.2.1=x.2.1.2.2.2.1
 text:y.2.1.2.2.1=x.2.1.2.1
 body:y.1.1=x.1.1
 at_:x.2.1.1≠63->x.2.1.1≠0->y.1=x.1
 end_:x.2.1.1=0->x.2.1.2.2.2.1=endN x.1.1+1
 k6:y.2.1.1=6->x.2.1.1=0
def LN (x:ParserXX):Prop:=x.1.2.2.1=1+(nlC ((bytesL x.1.1).take x.1.2.1.toNat):Int)
theorem nlC_add (l:List Int)(a b:Nat):nlC (l.take (a+b))=nlC (l.take a)+nlC ((l.drop a).take b):=by
 unfold nlC
 rw [List.take_add,List.countP_append]
theorem nlC_end (t:ByteArray):(nlC (bytesL t):Int)=endN t:=by
 unfold endN nlC bytesL
 rw [List.countP_map,List.count_eq_countP]
 congr 1
 refine List.countP_congr fun b _=> ?_
 simp only [Function.comp,ieq,beq_iff_eq]
 constructor
 ·intro h
  exact UInt8.toNat_inj.1 (by exact_mod_cast h)
 ·rintro rfl
  rfl
theorem drp_at {t:ByteArray}{k n:Nat}{c:Int}{r:List Int}(h:((bytesL t).drop k).drop n=c::r):k+n<t.size/\sgt t ((k+n:Nat):Int)=c/\bytI c=true:=by
 have hl:=bytesG_len t
 rw [List.drop_drop] at h
 have hlt:k+n<(bytesL t).length:=by
  apply Classical.byContradiction
  intro hc
  rw [List.drop_eq_nil_of_le (by omega)] at h
  cases h
 rw [List.drop_eq_getElem_cons hlt] at h
 obtain ⟨h1,_⟩:=List.cons.inj h
 have hk:k+n<t.size:=by omega
 refine ⟨hk, ?_, ?_⟩
 ·rw [sgt_get hk]
  exact h1
 ·rw [←h1]
  exact bytI_at hlt
theorem ne_ieq {a b:Int}(h:a≠b):ieq a b=false:=beq_eq_false_iff_ne.2 h
theorem ieqs_no {k:Nat}{t:ByteArray}(h:k<t.size):ieq (k:Int) (slen t)=false:=ne_ieq (by simp only [slen];omega)
theorem tok_q {t:ByteArray}{k:Nat}{ln:Int}{w:Bool}{rx:Token×Int×Int×Value×Unit}{ry:TokenX×Int×Bool×Unit}(hk:k<=t.size)(hln:ln=1+(nlC ((bytesL t).take k):Int)):
  ∀ (f:TokenX) (d:ParserXX),nxP.nxQ ((t,((k:Int),(ln,(w,())))),ry)=(f,d)→ ∀ (g:Token) (e:ParserX),pnQ ((t,((k:Int),(ln,(w,())))),rx)=(g,e)→
   (g.1=kindT f/\g.2.1=f.2.2.2.1/\g.2.2.1=f.2.1/\e.1.1=d.1.1/\(f.1≠63->f.1≠0->e.1=d.1)/\(f.1=0->f.2.2.2.1=endN d.1.1+1)/\(g.1=6->f.1=0))/\(f.1≠63->d.1.2.2.1=1+(nlC ((bytesL d.1.1).take d.1.2.1.toNat):Int))/\e.2=rx:=by
 have hl:=bytesG_len t
 intro f d hf g e hg
 unfold nxP.nxQ at hf
 unfold pnQ at hg
 simp only at hf hg
 by_cases hlt:k<t.size
 ·have hkl:k<(bytesL t).length:=by omega
  have e1:ige (k:Int) (slen t)=false:=decide_eq_false (by simp only [slen];omega)
  have one: ∀ n:Nat,(k:Int)+(n:Int)=((k+n:Nat):Int):=fun n=>by omega
  have ec:(bytesL t).drop k=(bytesL t)[k]::(bytesL t).drop (k+1):=List.drop_eq_getElem_cons hkl
  have hb:=bytI_at hkl
  have ln1: ∀ c:Int,(bytesL t)[k]=c->ieq c 10=false->ln=1+(nlC ((bytesL t).take ((k:Int)+1).toNat):Int):=fun c h1 h2=>by
   rw [show ((k:Int)+1).toNat=k+1 by omega,nlC_add,ec,hln]
   unfold nlC
   rw [List.take_succ_cons,List.take_zero,List.countP_cons,List.countP_nil,h1,h2]
   simp
  rw [e1,cond_false,sgt_get hlt] at hf
  rw [ieqs_no hlt,cond_false,sgt_get hlt] at hg
  generalize hc:(bytesL t)[k]=c at hf hg ec hb ln1
  cases h59:ieq c 59 with
  |true=>
   rw [h59] at hf hg
   obtain ⟨rfl,rfl⟩:=Prod.mk.inj hf
   obtain ⟨rfl,rfl⟩:=Prod.mk.inj hg
   obtain rfl:=eq_of_beq h59
   exact ⟨⟨rfl,rfl,rfl,rfl,fun _ _=>rfl,(fun h=>by cases h),(fun h=>by cases h)⟩,fun _=>ln1 _ rfl rfl,rfl⟩
  |false=>
   rw [h59,cond_false] at hg
   rw [h59,Bool.false_or] at hf
   cases h123:ieq c 123 with
   |true=>
    rw [h123] at hf hg
    obtain ⟨rfl,rfl⟩:=Prod.mk.inj hf
    obtain ⟨rfl,rfl⟩:=Prod.mk.inj hg
    obtain rfl:=eq_of_beq h123
    exact ⟨⟨rfl,rfl,rfl,rfl,fun _ _=>rfl,(fun h=>by cases h),(fun h=>by cases h)⟩,fun _=>ln1 _ rfl rfl,rfl⟩
   |false=>
    rw [h123,cond_false] at hg
    rw [h123,Bool.false_or] at hf
    cases h125:ieq c 125 with
    |true=>
     rw [h125] at hf hg
     obtain ⟨rfl,rfl⟩:=Prod.mk.inj hf
     obtain ⟨rfl,rfl⟩:=Prod.mk.inj hg
     obtain rfl:=eq_of_beq h125
     exact ⟨⟨rfl,rfl,rfl,rfl,fun _ _=>rfl,(fun h=>by cases h),(fun h=>by cases h)⟩,fun _=>ln1 _ rfl rfl,rfl⟩
    |false=>
     rw [h125,cond_false] at hg
     rw [h125,cond_false] at hf
     cases w with
     |true=>
      obtain ⟨rfl,rfl⟩:=Prod.mk.inj hf
      obtain ⟨rfl,rfl⟩:=Prod.mk.inj hg
      exact ⟨⟨rfl,rfl,rfl,rfl,fun h=>absurd rfl h,(fun h=>by cases h),(fun h=>by cases h)⟩,fun h=>absurd rfl h,rfl⟩
     |false=>
      rw [show pxW ((t,((k:Int),(ln,(false,())))),rx)=false from rfl,cond_false] at hg
      rw [show lxW ((t,((k:Int),(ln,(false,())))),ry)=false from rfl,Bool.false_or] at hf
      cases h34:ieq c 34 with
      |true=>
       obtain rfl:=eq_of_beq h34
       rw [ltr_34,cond_false,h34,cond_true] at hg
       rw [show ine 34 34=false from rfl,Bool.false_and,cond_false,h34,cond_true] at hf
       have n0:pxN ((t,((k:Int),(ln,(false,())))),rx) 0=((t,((k:Int),(ln,(false,())))),rx):=by
        show ((t,((k:Int)+0,(ln,(false,())))),rx)=_
        rw [Int.add_zero]
       rw [n0] at hg
       obtain ⟨rfl,rfl⟩:=Prod.mk.inj hf
       obtain ⟨rfl,rfl⟩:=Prod.mk.inj hg
       unfold qdF qdD pqF pqD
       have kk:((k:Int)+1).toNat=k+1:=by omega
       simp only [kk]
       have hq:=(qd_nl ((bytesL t).drop (k+1))).1
       cases hqd:(qd ((bytesL t).drop (k+1))).1 with
       |false=>exact ⟨⟨rfl,rfl,rfl,rfl,fun h=>absurd rfl h,(fun h=>by cases h),(fun h=>by cases h)⟩,fun h=>absurd rfl h,rfl⟩
       |true=>
        refine ⟨⟨rfl,rfl,rfl,rfl,fun _ _=> ?_,(fun h=>by cases h),(fun h=>by cases h)⟩,fun _=> ?_,rfl⟩
        ·show (t,((k:Int)+1+((qd ((bytesL t).drop (k+1))).2.2:Int),(ln,(true,()))))=(t,((k:Int)+(1+((qd ((bytesL t).drop (k+1))).2.2:Int)),(ln,(true,()))))
         rw [Int.add_assoc]
        ·show ln=1+(nlC ((bytesL t).take ((k:Int)+(1+((qd ((bytesL t).drop (k+1))).2.2:Int))).toNat):Int)
         rw [show ((k:Int)+(1+((qd ((bytesL t).drop (k+1))).2.2:Int))).toNat=(k+1)+(qd ((bytesL t).drop (k+1))).2.2 by omega,nlC_add,hq,Nat.add_zero]
         have:=ln1 _ rfl rfl
         rw [kk] at this
         exact this
      |false=>
       rw [show ine c 34= !ieq c 34 from rfl,h34,Bool.not_false,Bool.true_and] at hf
       rw [h34] at hg
       cases hlt2:ltrB c with
       |true=>
        rw [hlt2] at hf hg
        obtain ⟨rfl,rfl⟩:=Prod.mk.inj hf
        obtain ⟨rfl,rfl⟩:=Prod.mk.inj hg
        have hq:=lt_nl ((bytesL t).drop k)
        refine ⟨⟨rfl,rfl,rfl,rfl,fun _ _=>rfl,(fun h=>by cases h),(fun h=>by cases h)⟩,fun _=> ?_,rfl⟩
        show ln=1+(nlC ((bytesL t).take ((k:Int)+(ltL ((bytesL t).drop k):Int)).toNat):Int)
        rw [show ((k:Int)+(ltL ((bytesL t).drop k):Int)).toNat=k+ltL ((bytesL t).drop k) by omega,nlC_add,hq,Nat.add_zero]
        exact hln
       |false=>
        rw [hlt2] at hf hg
        obtain ⟨rfl,rfl⟩:=Prod.mk.inj hf
        obtain ⟨rfl,rfl⟩:=Prod.mk.inj hg
        exact ⟨⟨rfl,rfl,rfl,rfl,fun h=>absurd rfl h,(fun h=>by cases h),(fun h=>by cases h)⟩,fun h=>absurd rfl h,rfl⟩
 ·obtain rfl:k=t.size:=by omega
  have e1:ige ((t.size:Nat):Int) (slen t)=true:=decide_eq_true (by simp only [slen];omega)
  have e2:ieq ((t.size:Nat):Int) (slen t)=true:=beq_iff_eq.2 rfl
  rw [e1,cond_true] at hf
  rw [e2,cond_true] at hg
  obtain ⟨rfl,rfl⟩:=Prod.mk.inj hf
  obtain ⟨rfl,rfl⟩:=Prod.mk.inj hg
  refine ⟨⟨rfl,rfl,rfl,rfl,fun _ h=>absurd rfl h,fun _=> ?_,fun _=>rfl⟩,fun _=> ?_,rfl⟩
  ·show ln=endN t+1
   rw [hln, ← nlC_end,List.take_of_length_le (by omega)]
   omega
  ·show ln=1+(nlC ((bytesL t).take ((t.size:Nat):Int).toNat):Int)
   rw [Int.toNat_natCast]
   exact hln
theorem tok_step {x:ParserXX}{y:ParserX}(he:y.1=x.1)(hx:lxOk2 x=true)(hn:LN x):PTok (tkD x) (psD y)/\((tkD x).2.1.1≠63->LN (tkD x))/\(psD y).2.2=y.2.2:=by
 obtain ⟨⟨t,a,ln,w,u1⟩,rx⟩:=x
 obtain ⟨ly,ry⟩:=y
 simp only at he
 subst he
 obtain ⟨h1,h2,h3,h4,h5⟩:=cP_of hx
 simp only at h1 h2 h3 h4 h5
 obtain ⟨k,rfl⟩:=Int.eq_ofNat_of_zero_le h1
 have hl:=bytesG_len t
 have hn:ln=1+(nlC ((bytesL t).take k):Int):=by
  have:=hn
  unfold LN at this
  simp only [Int.toNat_natCast] at this
  exact this
 obtain ⟨p1,p2,p3,p4⟩:=pk_sk ((bytesL t).drop k) false w w (fun _=>rfl)
 have hle:=(skL_le ((bytesL t).drop k) false w).1
 have hcn:=sk_cnt ((bytesL t).drop k) false w
 rw [List.length_drop] at hle
 have ey:pkD ((t,((k:Int),(ln,(w,u1)))),ry)=((t,(((k+(skL ((bytesL t).drop k) false w).2.1:Nat):Int),(ln+((skL ((bytesL t).drop k) false w).2.2.1:Int),((pkL ((bytesL t).drop k) false w).2.2,())))),ry):=by
  show ((t,((k:Int)+((pkL ((bytesL t).drop k) false w).1:Int),(ln+((pkL ((bytesL t).drop k) false w).2.1:Int),((pkL ((bytesL t).drop k) false w).2.2,())))),ry)=_
  rw [p1,p2,show (k:Int)+((skL ((bytesL t).drop k) false w).2.1:Int)=((k+(skL ((bytesL t).drop k) false w).2.1:Nat):Int) by omega]
 have ex:lxSk ((t,((k:Int),(ln,(w,u1)))),rx) (skL ((bytesL t).drop k) false w)=((t,(((k+(skL ((bytesL t).drop k) false w).2.1:Nat):Int),(ln+((skL ((bytesL t).drop k) false w).2.2.1:Int),((skL ((bytesL t).drop k) false w).2.2.2,())))),rx):=by
  show ((t,((k:Int)+((skL ((bytesL t).drop k) false w).2.1:Int),(ln+((skL ((bytesL t).drop k) false w).2.2.1:Int),((skL ((bytesL t).drop k) false w).2.2.2,())))),rx)=_
  rw [show (k:Int)+((skL ((bytesL t).drop k) false w).2.1:Int)=((k+(skL ((bytesL t).drop k) false w).2.1:Nat):Int) by omega]
 have hln2:ln+((skL ((bytesL t).drop k) false w).2.2.1:Int)=1+(nlC ((bytesL t).take (k+(skL ((bytesL t).drop k) false w).2.1)):Int):=by
  rw [nlC_add,hcn,hn]
  omega
 have enx:nxP ((t,((k:Int),(ln,(w,u1)))),rx)=bif (skL ((bytesL t).drop k) false w).1 then ((63,(ByteArray.mk #[],(false,(lxL (lxSk ((t,((k:Int),(ln,(w,u1)))),rx) (skL ((bytesL t).drop k) false w)),())))),lxSk ((t,((k:Int),(ln,(w,u1)))),rx) (skL ((bytesL t).drop k) false w)) else nxP.nxQ (lxSk ((t,((k:Int),(ln,(w,u1)))),rx) (skL ((bytesL t).drop k) false w)):=rfl
 rw [ex] at enx
 generalize skL ((bytesL t).drop k) false w=S at*
 generalize (pkL ((bytesL t).drop k) false w).2.2=pw at*
 have etk:tkD ((t,((k:Int),(ln,(w,u1)))),rx)=((nxP ((t,((k:Int),(ln,(w,u1)))),rx)).2.1,((nxP ((t,((k:Int),(ln,(w,u1)))),rx)).1,(nxP ((t,((k:Int),(ln,(w,u1)))),rx)).2.2.2)):=rfl
 have eps:psD ((t,((k:Int),(ln,(w,u1)))),ry)=((pnQ (pkD ((t,((k:Int),(ln,(w,u1)))),ry))).2.1,((pnQ (pkD ((t,((k:Int),(ln,(w,u1)))),ry))).1,(pnQ (pkD ((t,((k:Int),(ln,(w,u1)))),ry))).2.2.2)):=rfl
 rw [etk,eps,ey,enx]
 cases hS:S.1 with
 |true=>
  obtain ⟨c,r,hd,hc1,hc2⟩:=p3 hS
  obtain ⟨g1,g2,g3⟩:=drp_at hd
  obtain ⟨_,_,c59,c123,c125,c34⟩:=cl_no hc1 hc2
  have hlt:=ltr_cl g3 hc1
  have e:pnQ ((t,(((k+S.2.1:Nat):Int),(ln+(S.2.2.1:Int),(pw,())))),ry)=(tkP 5 ((t,(((k+S.2.1:Nat):Int),(ln+(S.2.2.1:Int),(pw,())))),ry),pxN ((t,(((k+S.2.1:Nat):Int),(ln+(S.2.2.1:Int),(pw,())))),ry) 0):=by
   unfold pnQ
   simp only
   rw [ieqs_no g1,g2,c59,c123,c125,hlt,c34]
   cases pw<;>rfl
  rw [e]
  exact ⟨⟨rfl,rfl,rfl,rfl,fun h=>absurd rfl h,(fun h=>by cases h),(fun h=>by cases h)⟩,fun h=>absurd rfl h,rfl⟩
 |false=>
  rw [cond_false]
  have hpw:pnQ ((t,(((k+S.2.1:Nat):Int),(ln+(S.2.2.1:Int),(pw,())))),ry)=pnQ ((t,(((k+S.2.1:Nat):Int),(ln+(S.2.2.1:Int),(pw,())))),ry):=rfl
  rcases p4 hS with hw|hd
  ·rw [hw]
   obtain ⟨⟨q1,q2,q3,q4,q5,q6,q9⟩,q7,q8⟩:=tok_q (w:=S.2.2.2) (rx:=ry) (ry:=rx) (show k+S.2.1<=t.size by omega) hln2 _ _ rfl _ _ rfl
   exact ⟨⟨q1,q2,q3,q4,q5,q6,q9⟩,q7,congrArg (fun z=>z.2) q8⟩
  ·have hz:k+S.2.1=t.size:=by
    have:=congrArg List.length hd
    rw [List.length_drop,List.length_drop,List.length_nil] at this
    omega
   have e2:ieq ((k+S.2.1:Nat):Int) (slen t)=true:=by rw [hz];exact beq_iff_eq.2 rfl
   have epw:pnQ ((t,(((k+S.2.1:Nat):Int),(ln+(S.2.2.1:Int),(pw,())))),ry)=(tkP 6 ((t,(((k+S.2.1:Nat):Int),(ln+(S.2.2.1:Int),(pw,())))),ry),((t,(((k+S.2.1:Nat):Int),(ln+(S.2.2.1:Int),(pw,())))),ry)):=by
    unfold pnQ
    simp only
    rw [e2]
    rfl
   have esw:nxP.nxQ ((t,(((k+S.2.1:Nat):Int),(ln+(S.2.2.1:Int),(S.2.2.2,())))),rx)=((0,(ByteArray.mk #[],(false,(ln+(S.2.2.1:Int),())))),((t,(((k+S.2.1:Nat):Int),(ln+(S.2.2.1:Int),(S.2.2.2,())))),rx)):=by
    unfold nxP.nxQ
    simp only
    have e1:ige ((k+S.2.1:Nat):Int) (slen t)=true:=decide_eq_true (by simp only [slen];omega)
    rw [e1]
    rfl
   rw [epw,esw]
   refine ⟨⟨rfl,rfl,rfl,rfl,fun _ h=>absurd rfl h,fun _=> ?_,fun _=>rfl⟩,fun _=> ?_,rfl⟩
   ·show ln+(S.2.2.1:Int)=endN t+1
    rw [hln2,hz, ← nlC_end,List.take_of_length_le (by omega)]
    omega
   ·show ln+(S.2.2.1:Int)=1+(nlC ((bytesL t).take ((k+S.2.1:Nat):Int).toNat):Int)
    rw [Int.toNat_natCast]
    exact hln2
end
end Go.Proofs.YtkkoedniahnneaaDoor.K
namespace Go.Proofs.YtkkoedniahnneaaDoor.K
open Go.RowKit
noncomputable section
set_option linter.unusedSectionVars false
def pcs (y:ParserX):Array Value:= #[.string y.1.1,.int .i64 y.1.2.1,.int .i64 y.1.2.2.1,.bool y.1.2.2.2.1,.int .i64 y.2.1.1,.int .i64 y.2.1.2.1,.string y.2.1.2.2.1,.int .i64 y.2.2.1,.int .i64 y.2.2.2.1,y.2.2.2.2.1]
abbrev pall (y:ParserX):Value:=y.2.2.2.2.1
def QB (w:World)(b:Nat)(y:ParserX):Prop:= ∃ T,Go.Proofs.YtkkoedniahnneaaDoor.Blk w b T (pcs y)
theorem QB.lt {w:World}{b:Nat}{y:ParserX}(h:QB w b y):b<w.heap.size:=by obtain ⟨T,h⟩:=h;exact h.lt
theorem QB.cell {w:World}{b:Nat}{y:ParserX}(h:QB w b y)(i:Nat):w.cell? ⟨b,i,none⟩=(pcs y)[i]? :=by obtain ⟨T,h⟩:=h;exact h.cell i
theorem QB.frozen {w:World}{b:Nat}{y:ParserX}(h:QB w b y)(i:Nat):w.frozen? ⟨b,i,none⟩=false:=by obtain ⟨T,h⟩:=h;exact h.frozen i
theorem QB.grown {w w':World}{b:Nat}{y:ParserX}{r:Option Nat}(h:QB w b y)(hg:w.grownBy w' r)(hne:some b≠r):QB w' b y:=by obtain ⟨T,h⟩:=h;exact ⟨T,h.grown hg hne⟩
theorem QB.alloc {w:World}{b:Nat}{y:ParserX}(h:QB w b y)(o:Obj):QB (w.alloc o) b y:=by obtain ⟨T,h⟩:=h;exact ⟨T,h.alloc o⟩
theorem QB.far {w:World}{b:Nat}{y:ParserX}(h:QB w b y){p:Addr}(hp:b≠p.block)(u:Value):QB (w.setCell p u) b y:=by obtain ⟨T,h⟩:=h;exact ⟨T,h.far hp u⟩
theorem QB.drew {w:World}{b:Nat}{y:ParserX}(h:QB w b y):QB w.drew b y:=h
theorem QB.set_ {w:World}{b:Nat}{y:ParserX}(h:QB w b y)(i:Nat)(u:Value)(y':ParserX)(e:(pcs y).setIfInBounds i u=pcs y'):QB (w.setCell ⟨b,i,none⟩ u) b y':=by
 obtain ⟨T,h⟩:=h
 exact ⟨T,e▸h.set_ i u⟩
theorem pcs_cs {X:Nat->Nat->Prop}{w:World}{σ:Pl}(y:ParserX)(ha:(pall y).oneCell'=true):Cs X w σ (tyParserX.cells y) (pcs y).toList:=by
 show Cs X w σ (List.map D.v (pcs y).toList) (pcs y).toList
 refine Cs.plain fun u hu=> ?_
 simp only [pcs,List.mem_cons,List.not_mem_nil,or_false] at hu
 rcases hu with rfl|rfl|rfl|rfl|rfl|rfl|rfl|rfl|rfl|rfl<;>first|rfl|exact ha
theorem cs_pcs {X:Nat->Nat->Prop}{w:World}{σ:Pl}(y:ParserX){vs:List Value}(h:Cs X w σ (tyParserX.cells y) vs):vs=(pcs y).toList:=by
 have h:Cs X w σ [.v (.string y.1.1),.v (.int .i64 y.1.2.1),.v (.int .i64 y.1.2.2.1),.v (.bool y.1.2.2.2.1),.v (.int .i64 y.2.1.1),.v (.int .i64 y.2.1.2.1),.v (.string y.2.1.2.2.1),.v (.int .i64 y.2.2.1),.v (.int .i64 y.2.2.2.1),.v y.2.2.2.2.1] vs:=h
 simp only [Cs,C] at h
 obtain ⟨_,_,rfl,⟨rfl,_⟩,_,_,rfl,⟨rfl,_⟩,_,_,rfl,⟨rfl,_⟩,_,_,rfl,⟨rfl,_⟩,_,_,rfl,⟨rfl,_⟩,_,_,rfl,⟨rfl,_⟩,_,_,rfl,⟨rfl,_⟩,_,_,rfl,⟨rfl,_⟩,_,_,rfl,⟨rfl,_⟩,_,_,rfl,⟨rfl,_⟩,rfl⟩:=h
 rfl
theorem step_calls {b:Nat}{y:ParserX}{w:World}(hb:QB w b y)(h:px1 y=true)(ha:(pall y).oneCell'=true):
  Calls Tryd.prog 79 #[.pointer (some ⟨b,0,none⟩)] w fun e w'=>e= .returned (.tuple #[])/\QB w' b (psD y)/\w.grownBy w' (some b):=by
 have hF:strip sp_f79 [.ptr 50000 0] [.box (.t tyParserX y)]=some (.tu [],[.box (.t tyParserX (psD y))]):=by
  unfold sp_f79 strip specP
  simp only [V.as,Ty.args,dif_pos,h]
 obtain ⟨T,hb⟩:=hb
 have hbl:=hb.lt
 refine (of_does (by decide) (ms_f79 _ _ _ _ hF (fun g _=>g=b) w (fun k=>if k=50000 then .box b else .no) [.pointer (some ⟨b,0,none⟩)] (fun g q e=>by rw [e];exact hbl) ⟨?_, ?_⟩ ?_)).mono ?_
 ·intro j o hj
  cases j with
  |zero=>
   simp only [List.getElem?_cons_zero,Option.some.injEq] at hj
   subst hj
   refine ⟨⟨b,T,(pcs y).toList,by simp, ?_,pcs_cs y ha,fun o=>rfl⟩,by simp⟩
   exact hb
  |succ j=>simp at hj
 ·intro i j g hij hi hj
  simp only [List.length_singleton] at hi hj
  omega
 ·simp only [V.ds,V.d,Cs,C]
  exact ⟨_,_,rfl,⟨b,by simp,rfl⟩,rfl⟩
 ·rintro e w' ⟨u,X',σ',rfl,h1,h2⟩
  have hu:u= .tuple #[]:=by
   have h1:C X' w' σ' (.tu []) u:=h1
   simp only [C,Cs] at h1
   obtain ⟨vs,rfl,rfl⟩:=h1
   rfl
  subst hu
  refine ⟨rfl, ?_, ?_⟩
  ·obtain ⟨g1,_⟩:=h2.at_ 0 (.box (.t tyParserX (psD y))) rfl
   obtain ⟨g,T',vs,e1,e2,e3,_⟩:=g1
   have:=h2.same 0 Nat.zero_lt_one
   rw [this] at e1
   simp at e1
   subst e1
   rw [cs_pcs _ e3] at e2
   exact ⟨T',e2⟩
  ·refine ⟨h2.fr.os,h2.fr.tape,h2.fr.output,h2.fr.size,fun j hj hne=>h2.fr.keep j hj ?_⟩
   intro hm
   have:j=b:=by simpa [lentB,List.range_succ,SC.blk] using hm
   exact hne (by rw [this])
def st1 (lv:Int)(x:ParserXX):(BlkT×ParserXX) ⊕ ParserXX:=
 bif ieq (hdX lv x).2.1.1 59 then .inl (((wsX [] (dS (igt lv 16) x)).1,(false,([],(x.2.1.2.2.2.1,())))),tkD (hdX lv x)) else
 bif ieq (hdX lv x).2.1.1 123 then
  bif ine (stX (lv+1) [] (tkD (hdX lv x))).2.2.2.1 0 then .inr (stX (lv+1) [] (tkD (hdX lv x))).2 else
  bif ine (stX (lv+1) [] (tkD (hdX lv x))).2.2.1.1 125 then .inr (flD (stX (lv+1) [] (tkD (hdX lv x))).2) else
  .inl (((wsX [] (dS (igt lv 16) x)).1,(true,((stX (lv+1) [] (tkD (hdX lv x))).1.map Blk.of,(x.2.1.2.2.2.1,())))),tkD (stX (lv+1) [] (tkD (hdX lv x))).2)
 else .inr (flD (hdX lv x))
theorem st1_eq {x:ParserXX}(h:okR x=true)(he:x.2.2.1=0)(hs:x.2.1.1=119)(hp:x.2.1.2.2.1=true)(lv:Int)(acc:List BlkT):
  stX lv acc x=match st1 lv x with
   |.inl (k,z)=>stX lv (acc++[k]) z
   |.inr z=>(acc,z):=by
 rw [stX_eq h,he,hs,hp]
 show (stB stX lv acc x.2.1.2.2.2.1 (wsX [] (dS (igt lv 16) x)).1 (hdX lv x))=_
 unfold st1 stB stC
 cases ieq (hdX lv x).2.1.1 59 with
 |true=>rfl
 |false=>
  simp only [cond_false]
  cases ieq (hdX lv x).2.1.1 123 with
  |false=>rfl
  |true=>
   simp only [cond_true]
   cases ine (stX (lv+1) [] (tkD (hdX lv x))).2.2.2.1 0 with
   |true=>rfl
   |false=>
    simp only [cond_false]
    cases ine (stX (lv+1) [] (tkD (hdX lv x))).2.2.1.1 125<;>rfl
abbrev XX (b:Nat)(v:Value):Nat->Nat->Prop:=fun g _=>g<=b∨v.ownBlock=some g
structure FrS (b:Nat) (v:Value) (w:World) (v':Value) (w':World):Prop where
 fr:FrP b v w w'
 own:v'.ownBlock=v.ownBlock∨ ∃ g,v'.ownBlock=some g/\w.heap.size<=g
theorem FrS.ext {b:Nat}{v v':Value}{w w':World}(h:FrS b v w v' w'):Ext0 (XX b v) w (XX b v') w':=by
 refine ⟨h.fr.size,fun g o hg hx=>⟨fun hx'=> ?_, ?_⟩⟩
 ·rcases hx' with e|e
  ·exact hx (.inl e)
  ·rcases h.own with q|⟨g',q,q2⟩
   ·exact hx (.inr (q▸e))
   ·rw [q] at e
    have:=Option.some.inj e
    omega
 ·exact World.cell?_of_block (h.fr.block g hg (fun e=>hx (.inl (Nat.le_of_eq e))) (fun e=>hx (.inr e.symm)))
theorem FrS.refl (b:Nat)(v:Value)(w:World):FrS b v w v w:=⟨⟨rfl,rfl,rfl,Nat.le_refl _,fun _ _ _ _=>rfl⟩,.inl rfl⟩
theorem FrS.trans {b:Nat}{v v1 v2:Value}{w w1 w2:World}(h:FrS b v w v1 w1)(k:FrS b v1 w1 v2 w2):FrS b v w v2 w2:=by
 refine ⟨⟨k.fr.os.trans h.fr.os,k.fr.tape.trans h.fr.tape,k.fr.output.trans h.fr.output,Nat.le_trans h.fr.size k.fr.size,fun j hj h3 h4=> ?_⟩, ?_⟩
 ·refine (k.fr.block j (Nat.lt_of_lt_of_le hj h.fr.size) h3 (fun e=> ?_)).trans (h.fr.block j hj h3 h4)
  rcases h.own with q|⟨g',q,q2⟩
  ·exact h4 (e.trans q)
  ·rw [q] at e
   have:=Option.some.inj e
   omega
 ·rcases k.own with q|⟨g',q,q2⟩
  ·rw [q]
   exact h.own
  ·exact .inr ⟨g',q,Nat.le_trans h.fr.size q2⟩
theorem FrS.grb {b:Nat}{v:Value}{w w':World}(h:w.grownBy w' (some b)):FrS b v w v w':=⟨.grb h,.inl rfl⟩
theorem FrS.bel {b:Nat}{v:Value}{w w':World}(h:Below w.heap.size w w'):FrS b v w v w':=⟨.bel h,.inl rfl⟩
theorem rows_refs (l:List BlkT):D.refss (l.flatMap tyBlkT.cells)=[]:=by
 have h: ∀ a b:List D,D.refss (a++b)=D.refss a++D.refss b:=by
  intro a b
  induction a with
  |nil=>rfl
  |cons d a ih=>simp only [List.cons_append,D.refss,ih,List.append_assoc]
 induction l with
 |nil=>rfl
 |cons x l ih=>rw [List.flatMap_cons,h,ih,Ty.refs_cells];rfl
structure RowAt (w:World) (b:Nat) (v:Value) (rows:List BlkT) (cells:List Value):Prop where
 own:w.ownsRow (b+1) 38 4 v rows.length cells
 cs:Cs (XX b v) w nowhere (rows.flatMap tyBlkT.cells) cells
theorem RowAt.one {w:World}{b:Nat}{v:Value}{rows:List BlkT}{cells:List Value}(h:RowAt w b v rows cells): ∀ u∈cells,u.oneCell'=true:=by
 refine Cs.cell1 h.cs ?_
 rw [List.all_flatMap]
 exact List.all_eq_true.2 fun k _=>Ty.cells_cell1 tyBlkT k
theorem RowAt.nil_ (w:World)(b:Nat):RowAt w b (.slice none 0 0) [] []:=⟨World.ownsRow_nil _ _ _ _,by simp [Cs]⟩
theorem RowAt.ext {w w':World}{b:Nat}{v:Value}{rows:List BlkT}{cells:List Value}(h:RowAt w b v rows cells)(hg:w.grownBy w' (some b)):RowAt w' b v rows cells:=by
 refine ⟨own_grown h.own hg (fun g e e2=> ?_),Cs.ext0 (FrS.grb hg).ext _ _ (by rw [rows_refs];simp) h.cs⟩
 have:=(h.own.lt g e).1
 have:=Option.some.inj e2
 omega
theorem RowAt.one_v {w:World}{b:Nat}{v:Value}{rows:List BlkT}{cells:List Value}(h:RowAt w b v rows cells):v.oneCell'=true:=by
 obtain ⟨A,c,rfl⟩:=own_slice h.own
 rfl
end
end Go.Proofs.YtkkoedniahnneaaDoor.K
namespace Go.Proofs.YtkkoedniahnneaaDoor.K
open Go.RowKit
attribute [local go_sem ↓] Go.wp_at_zero Go.wp_at_succ
noncomputable section
set_option linter.unusedSectionVars false
abbrev nilS:Value:= .slice none 0 0
structure SA (w:World) (b:Nat) (y:ParserX) (x:ParserXX) (rows:List BlkT) (cells:List Value):Prop where
 blk:QB w b y
 tok:PTok x y
 ok:okR x=true
 ln:x.2.1.1≠63->LN x
 err:x.2.2.1=0
 row:RowAt w b (pall y) rows cells
 sz:x.1.1.size<=8192
 len:rows.length+rmX x<=20000
def DP (q:Prop)(x:ParserXX)(y:ParserX):Prop:=x.2.2.2.1=true↔(16<y.2.2.2.1∨64<y.2.2.1∨q)
abbrev XN (v v0:Value)(n:Nat):Nat->Nat->Prop:=fun g _=>(g<n/\v0.ownBlock≠some g)∨v.ownBlock=some g
theorem C.less {X X':Nat->Nat->Prop}{w:World}{d:D}{u:Value}(h:C X w nowhere d u)(hx: ∀ g q,X' g q->X g q)(hr:d.refs=[]):C X' w nowhere d u:=
 C.ext0 ⟨Nat.le_refl _,fun g o _ hn=>⟨fun hx'=>hn (hx g o hx'),rfl⟩⟩ d u (by rw [hr];simp) h
theorem Cs.less {X X':Nat->Nat->Prop}{w:World}{ds:List D}{us:List Value}(h:Cs X w nowhere ds us)(hx: ∀ g q,X' g q->X g q)(hr:D.refss ds=[]):Cs X' w nowhere ds us:=
 Cs.ext0 ⟨Nat.le_refl _,fun g o _ hn=>⟨fun hx'=>hn (hx g o hx'),rfl⟩⟩ ds us (by rw [hr];simp) h
def StmtsPost (b:Nat)(y:ParserX)(x:ParserXX)(lv:Int)(rows:List BlkT)(cells:List Value)(w:World)(q:Prop)(e:Ending)(w':World):Prop:=
 (∃ sv y',e= .returned (.tuple #[sv,.bool true])/\(stX lv [] x).2.2.2.1=0/\SA w' b y' (stX lv [] x).2 rows cells/\DP q (stX lv [] x).2 y'/\rmX (stX lv [] x).2<=rmX x/\y'.2.1.1≠3∧
  C (XN (pall y') (pall y) w.heap.size) w' nowhere (.sl (stX lv [] x).1.length ((stX lv [] x).1.flatMap tyBlkT.cells)) sv/\FrS b (pall y) w (pall y') w')∨
 (∃ sv y' ok,e= .returned (.tuple #[sv,.bool ok])/\(stX lv [] x).2.2.2.1≠0/\QB w' b y'/\y'.2.1.2.1=(stX lv [] x).2.2.2.1/\(ok=true->y'.2.1.1≠2/\y'.2.1.1≠6)/\FrP b (pall y) w w')
def StmtsOK (m:Nat):Prop:= ∀ (b:Nat) (y:ParserX) (x:ParserXX) (lv:Int) (rows:List BlkT) (cells:List Value) (w:World) (q:Prop),SA w b y x rows cells->DP q x y->0<=lv->lv+rmX x<=20000->rmX x<=m→
 Calls Tryd.prog 80 #[.pointer (some ⟨b,0,none⟩),.int .i64 lv] w (StmtsPost b y x lv rows cells w q)
def StmtPost (b:Nat)(y:ParserX)(x:ParserXX)(lv:Int)(rows:List BlkT)(cells:List Value)(w:World)(q:Prop)(e:Ending)(w':World):Prop:=
 (∃ k z vs y',st1 lv x= .inl (k,z)/\e= .returned (.tuple #[.agg vs,.bool true])/\SA w' b y' z rows cells/\DP (q∨16<lv) z y'/\rmX z+1<=rmX x∧
  Cs (XN (pall y') (pall y) w.heap.size) w' nowhere (tyBlkT.cells k) vs.toList/\FrS b (pall y) w (pall y') w')∨
 (∃ A n c ln z y',st1 lv x= .inr z/\e= .returned (.tuple #[.agg #[.slice A n c,.bool false,nilS,.int .i64 ln],.bool false])/\z.2.2.1≠0/\QB w' b y'/\y'.2.1.2.1=z.2.2.1/\FrP b (pall y) w w')
def StmtOK (m:Nat):Prop:= ∀ (b:Nat) (y:ParserX) (x:ParserXX) (lv:Int) (rows:List BlkT) (cells:List Value) (w:World) (q:Prop),SA w b y x rows cells->x.2.1.1=119->x.2.1.2.2.1=true->DP q x y->0<=lv->lv+rmX x<=20000->rmX x<=m→
 Calls Tryd.prog 118 #[.pointer (some ⟨b,0,none⟩),.int .i64 lv] w (StmtPost b y x lv rows cells w q)
theorem ptok_dS {x:ParserXX}{y:ParserX}(c:Bool)(h:PTok x y):PTok (dS c x) y:=⟨h.kind,h.line,h.text,h.body,h.at_,h.end_,h.k6⟩
structure LI (w:World) (b rb:Nat) (x0:ParserXX) (y:ParserX) (lny:Int) (g:Nat) (x':ParserXX) (y':ParserX) (ws:List ByteArray) (wv:Value) (wr:World):Prop where
 eq:wsX [] x0=wsX ws x'
 tok:PTok x' y'
 ok:okR x'=true
 ln:x'.2.1.1≠63->LN x'
 text:x'.1.1=x0.1.1
 yrest:y'.2.2=y.2.2
 blk:QB wr b y'
 bb:Go.Proofs.YtkkoedniahnneaaDoor.Blk wr (rb+1) 38 #[wv,.bool false,nilS,.int .i64 lny]
 rbk:Go.Proofs.YtkkoedniahnneaaDoor.Blk wr rb 38 #[nilS,.bool false,nilS,.int .i64 0]
 own:wr.ownsRow (rb+2) 9 1 wv ws.length (ws.map Value.string)
 fr:w.grownBy wr (some b)
 ms:(if x'.2.1.1=119 then rmX x'+1 else 0)<=g
 len:ws.length+(if x'.2.1.1=119 then rmX x'+1 else 0)<=20001
theorem px_of {x:ParserXX}{y:ParserX}(h:y.1=x.1)(hx:lxOk2 x=true):px1 y=true:=by
 obtain ⟨h1,h2,h3,h4,h5⟩:=cP_of hx
 rw [←h] at h1 h2 h3 h4 h5
 exact cP_in ⟨h1,h2,h3,h4,h5⟩
theorem grb_more {w w1 w2:World}{b:Nat}{r:Option Nat}(h:w.grownBy w1 (some b))(k:w1.grownBy w2 r)(hr: ∀ g,r=some g->g=b∨w.heap.size<=g):w.grownBy w2 (some b):=
 ⟨k.os.trans h.os,k.tape.trans h.tape,k.output.trans h.output,Nat.le_trans h.size k.size,fun i hi hne=>(k.block i (Nat.lt_of_lt_of_le hi h.size) (fun e=>by
  rcases hr i e.symm with q|q
  ·exact hne (by rw [q])
  ·omega)).trans (h.block i hi hne)⟩
theorem grb_set {w w1:World}{b:Nat}(h:w.grownBy w1 (some b))(p:Addr)(u:Value)(hp:w.heap.size<=p.block):w.grownBy (w1.setCell p u) (some b):=
 ⟨h.os,h.tape,h.output,by simpa [World.setCell] using h.size,fun i hi hne=>(Below.heap_setCell _ _ _ _ (fun e=>by omega)).trans (h.block i hi hne)⟩
theorem li_next {w:World}{b rb:Nat}{x0:ParserXX}{y:ParserX}{lny:Int}{g:Nat}{x':ParserXX}{y':ParserX}{ws:List ByteArray}{wv:Value}{wr w5 w6:World}{A':Option Addr}{cc':Nat}{sy':ByteArray}(H:LI w b rb x0 y lny g x' y' ws wv wr)(hw:x'.2.1.1=119)
  (hbr:b<rb) (hrb:w.heap.size=rb) (hbb:Go.Proofs.YtkkoedniahnneaaDoor.Blk w5 (rb+1) 38 #[wv,.bool false,nilS,.int .i64 lny]) (hr5:Go.Proofs.YtkkoedniahnneaaDoor.Blk w5 rb 38 #[nilS,.bool false,nilS,.int .i64 0])
  (ho:w5.ownsRow (rb+2) 9 1 (.slice A' (ws.length+1) cc') (ws.length+1) (ws.map Value.string++[Value.string sy'])) (hg5:(wr.alloc (.cells #[.string sy'] 9)).drew.grownBy w5 wv.ownBlock)
  (hsy:sy'=y'.2.1.2.2.1) (hb6:QB w6 b (psD y')) (hg6:(w5.setCell ⟨rb+1,0,none⟩ (.slice A' (ws.length+1) cc')).grownBy w6 (some b)):
  LI w b rb x0 y lny (rmX x') (tkD x') (psD y') (ws++[sy']) (.slice A' (ws.length+1) cc') w6:=by
 have hx:=okR_lx H.ok
 have ht:=tk_ok hx
 obtain ⟨t1,t2,t3⟩:=tok_step (H.tok.at_ (by rw [hw];decide) (by rw [hw];decide)) hx (H.ln (by rw [hw];decide))
 have hi:ieq x'.2.1.1 119=true:=by rw [hw];rfl
 have hadv:(if (tkD x').2.1.1=119 then rmX (tkD x')+1 else 0)<=rmX x':=by
  split
  ·rename_i hq
   exact ht.adv (.inl hq)
  ·exact Nat.zero_le _
 have hlen:=H.len
 rw [if_pos hw] at hlen
 refine ⟨?_,t1,okR_tk H.ok,t2,ht.text.trans H.text,t3.trans H.yrest,hb6, ?_, ?_, ?_, ?_,hadv, ?_⟩
 ·rw [H.eq,wsX_word hx hi,hsy,H.tok.text]
 ·exact (hbb.set_ 0 (.slice A' (ws.length+1) cc')).grown hg6 (fun e=>by have:=Option.some.inj e;omega)
 ·exact (hr5.far (p:=⟨rb+1,0,none⟩) (by show rb≠rb+1;omega) (.slice A' (ws.length+1) cc')).grown hg6 (fun e=>by have:=Option.some.inj e;omega)
 ·rw [List.length_append,List.length_singleton,List.map_append,List.map_singleton]
  exact own_grown (ownsRow_setCell_below ho (show rb+1<rb+2 by omega) _) hg6 (fun g e e2=>by
   have:=(ho.lt g e).1
   have:=Option.some.inj e2
   omega)
 ·have h1:w.grownBy (wr.alloc (.cells #[.string sy'] 9)).drew (some b):=grb_more H.fr (only_of_below (((Below.refl wr.heap.size wr).alloc (Nat.le_refl _) _).drew) none) (fun g e=>by cases e)
  have h2:w.grownBy w5 (some b):=grb_more h1 hg5 (fun g e=> .inr (by have:=(H.own.lt g e).1;omega))
  exact only_trans (grb_set h2 ⟨rb+1,0,none⟩ (.slice A' (ws.length+1) cc') (by show w.heap.size<=rb+1;omega)) hg6
 ·rw [List.length_append,List.length_singleton]
  omega
theorem li_end {w:World}{b rb:Nat}{x:ParserXX}{y:ParserX}{lv lny:Int}{g:Nat}{x':ParserXX}{y':ParserX}{ws:List ByteArray}{wv:Value}{wr:World}(hx:okR x=true)(H:LI w b rb (dS (igt lv 16) x) y lny g x' y' ws wv wr)(hw:x'.2.1.1≠119):
  wsX [] (dS (igt lv 16) x)=(ws,x')/\hdX lv x=dS (igt (llen ws) 64) x'/\x'.2.2=(dS (igt lv 16) x).2.2/\rmX x'<=rmX x:=by
 have e:wsX [] (dS (igt lv 16) x)=(ws,x'):=by rw [H.eq,wsX_not (ne_ieq hw)]
 obtain ⟨_,_,h3,h4,_⟩:=wsX_ok _ [] (dS (igt lv 16) x) (okR_lx (okR_dS hx)) (Nat.le_refl _)
 rw [e] at h3 h4
 refine ⟨e, ?_,h3,h4⟩
 unfold hdX
 rw [e]
theorem dp_head {q:Prop}{x:ParserXX}{y:ParserX}{lv:Int}{x':ParserXX}{y7:ParserX}{ws:List ByteArray}(h:DP q x y)(hx:x'.2.2=(dS (igt lv 16) x).2.2)(hd:y7.2.2.2=y.2.2.2)(hw:y7.2.2.1=if ((ws.length:Nat):Int) > y.2.2.1 then ((ws.length:Nat):Int) else y.2.2.1):
  DP (q∨16<lv) (dS (igt (llen ws) 64) x') y7:=by
 unfold DP at h ⊢
 have e:(dS (igt (llen ws) 64) x').2.2.2.1=((x.2.2.2.1||igt lv 16)||igt (llen ws) 64):=by
  show (x'.2.2.2.1||igt (llen ws) 64)=_
  rw [show x'.2.2.2.1=x'.2.2.2.1 from rfl,hx]
  rfl
 rw [e,hd,hw,Bool.or_eq_true,Bool.or_eq_true,h]
 simp only [igt,llen,decide_eq_true_eq]
 split<;>constructor<;>intro h
 ·rcases h with (h|h)|h
  ·rcases h with h|h|h
   ·exact .inl h
   ·exact .inr (.inl (by omega))
   ·exact .inr (.inr (.inl h))
  ·exact .inr (.inr (.inr h))
  ·exact .inr (.inl h)
 ·rcases h with h|h|h|h
  ·exact .inl (.inl (.inl h))
  ·exact .inr h
  ·exact .inl (.inl (.inr (.inr h)))
  ·exact .inl (.inr h)
 ·rcases h with (h|h)|h
  ·rcases h with h|h|h
   ·exact .inl h
   ·exact .inr (.inl h)
   ·exact .inr (.inr (.inl h))
  ·exact .inr (.inr (.inr h))
  ·exact .inr (.inl (by omega))
 ·rcases h with h|h|h|h
  ·exact .inl (.inl (.inl h))
  ·exact .inl (.inl (.inr (.inl h)))
  ·exact .inl (.inl (.inr (.inr h)))
  ·exact .inl (.inr h)
theorem pq_rest (x:ParserX):(pqD x).2=x.2:=by
 unfold pqD pqN
 cases (qd ((bytesL x.1.1).drop (x.1.2.1+1).toNat)).1<;>rfl
theorem pn_rest (x:ParserX):(pnQ x).2.2=x.2:=by
 unfold pnQ
 cases ieq x.1.2.1 (slen x.1.1) with
 |true=>rfl
 |false=>
  cases ieq (sgt x.1.1 x.1.2.1) 59 with
  |true=>rfl
  |false=>
   cases ieq (sgt x.1.1 x.1.2.1) 123 with
   |true=>rfl
   |false=>
    cases ieq (sgt x.1.1 x.1.2.1) 125 with
    |true=>rfl
    |false=>
     cases pxW x with
     |true=>rfl
     |false=>
      cases ltrB (sgt x.1.1 x.1.2.1) with
      |true=>rfl
      |false=>
       cases ieq (sgt x.1.1 x.1.2.1) 34 with
       |true=>exact pq_rest (pxN x 0)
       |false=>rfl
theorem psD_all (y:ParserX):(psD y).2.2=y.2.2:=by
 show (pnQ (pkD y)).2.2.2=y.2.2
 rw [pn_rest]
 rfl
theorem dp_tk {q:Prop}{x:ParserXX}{y:ParserX}(hx:lxOk2 x=true)(h:DP q x y):DP q (tkD x) (psD y):=by
 unfold DP at h ⊢
 have e1:(tkD x).2.2=x.2.2:=(tk_ok hx).rest
 have e2:(psD y).2.2=y.2.2:=psD_all y
 rw [e1,e2]
 exact h
theorem strs_cs {X:Nat->Nat->Prop}{w:World}: ∀ l:List ByteArray,Cs X w nowhere (l.flatMap (Ty.cells .str)) (l.map Value.string)
 | []=>by simp [Cs]
 |s::l=>by
  rw [List.flatMap_cons,List.map_cons]
  exact Cs.cons (C.mkv rfl) (strs_cs l)
theorem words_c {X:Nat->Nat->Prop}{w:World}{B:Nat}{wv:Value}{ws:List ByteArray}(h:w.ownsRow B 9 1 wv ws.length (ws.map Value.string))(hX: ∀ b q,X b q->b<B):C X w nowhere (.sl ws.length (ws.flatMap (Ty.cells .str))) wv:=
 own_cG (y:= .str) h (strs_cs ws) (by intro u hu;obtain ⟨s,_,rfl⟩:=List.mem_map.1 hu;rfl) hX
theorem xx_lt {w:World}{b rb:Nat}{v:Value}{rows:List BlkT}{cells:List Value}(h:RowAt w b v rows cells)(hrb:w.heap.size=rb): ∀ g q,XN v v w.heap.size g q->g<rb+2:=by
 intro g q hx
 rcases hx with h1|h1
 ·have:=h1.1
  omega
 ·have:=(h.own.lt g h1).2
  omega
theorem sa_step {w:World}{b rb:Nat}{x:ParserXX}{y:ParserX}{lv lny:Int}{g:Nat}{x':ParserXX}{y' y7:ParserX}{ws:List ByteArray}{wv:Value}{wr wF:World}{rows:List BlkT}{cells:List Value}{q:Prop}
  (HS:SA w b y x rows cells) (hp:x.2.1.1=119) (hd:DP q x y) (H:LI w b rb (dS (igt lv 16) x) y lny g x' y' ws wv wr) (hs:x'.2.1.1=59∨x'.2.1.1=123)
  (h71:y7.1=x'.1) (h72:y7.2.2.2=y.2.2.2) (h7w:y7.2.2.1=if ((ws.length:Nat):Int) > y.2.2.1 then ((ws.length:Nat):Int) else y.2.2.1)
  (hQ:QB wF b (psD y7)) (hg:w.grownBy wF (some b)):
  SA wF b (psD y7) (tkD (hdX lv x)) rows cells/\DP (q∨16<lv) (tkD (hdX lv x)) (psD y7)/\rmX (tkD (hdX lv x))+1<=rmX x/\pall (psD y7)=pall y/\wsX [] (dS (igt lv 16) x)=(ws,x')/\(hdX lv x).2.1.1=x'.2.1.1:=by
 have hw:x'.2.1.1≠119:=by rcases hs with h|h<;>rw [h]<;>decide
 have h63:x'.2.1.1≠63:=by rcases hs with h|h<;>rw [h]<;>decide
 obtain ⟨k1,k2,k3,k4⟩:=li_end HS.ok H hw
 have hx':=okR_lx H.ok
 have hok:okR (dS (igt (llen ws) 64) x')=true:=okR_dS H.ok
 have hadv:=hd_adv (lv:=lv) HS.ok (by rw [hp];rfl) (by rw [k2];exact hs)
 rw [k2] at hadv
 obtain ⟨t1,t2,_⟩:=tok_step (x:=dS (igt (llen ws) 64) x') (y:=y7) h71 (okR_lx hok) (H.ln h63)
 have ht:=tk_ok (okR_lx hok)
 have hall:pall (psD y7)=pall y:=by rw [show pall (psD y7)=(psD y7).2.2.2.2.1 from rfl,psD_all,h72]
 rw [k2]
 refine ⟨⟨hQ,t1,okR_tk hok,t2, ?_, ?_, ?_, ?_⟩,dp_tk (okR_lx hok) (dp_head hd k3 h72 h7w), ?_,hall,k1,rfl⟩
 ·rw [ht.rest]
  show x'.2.2.1=0
  rw [k3]
  exact HS.err
 ·rw [hall]
  exact HS.row.ext hg
 ·rw [ht.text]
  show x'.1.1.size<=8192
  rw [H.text]
  exact HS.sz
 ·have:=HS.len
  have:=ht.rm
  omega
 ·have:=ht.rm
  omega
theorem nil_c {X:Nat->Nat->Prop}{w:World}:C X w nowhere (.sl 0 []) nilS:=by
 simp only [C]
 exact ⟨none,0,rfl,Nat.le_refl _,by simp [maxLen],by simp,fun h=>absurd h (by decide)⟩
theorem fin59 {w:World}{b rb:Nat}{x:ParserXX}{y:ParserX}{lv lny:Int}{g:Nat}{x':ParserXX}{y' y7:ParserX}{ws:List ByteArray}{wv:Value}{wr wF:World}{rows:List BlkT}{cells:List Value}{q:Prop}
  (HS:SA w b y x rows cells) (hp:x.2.1.1=119) (hd:DP q x y) (H:LI w b rb (dS (igt lv 16) x) y lny g x' y' ws wv wr) (h59:x'.2.1.1=59) (hbr:b<rb) (hrb:w.heap.size=rb) (hl:lny=y.2.1.2.1)
  (h71:y7.1=x'.1) (h72:y7.2.2.2=y.2.2.2) (h7w:y7.2.2.1=if ((ws.length:Nat):Int) > y.2.2.1 then ((ws.length:Nat):Int) else y.2.2.1)
  (hQ:QB wF b (psD y7)) (hg:w.grownBy wF (some b)) (ho:wF.ownsRow (rb+2) 9 1 wv ws.length (ws.map Value.string)):
  StmtPost b y x lv rows cells w q (.returned (.tuple #[.agg #[wv,.bool false,nilS,.int .i64 lny],.bool true])) wF:=by
 obtain ⟨s1,s2,s3,hall,k1,k2⟩:=sa_step HS hp hd H (.inl h59) h71 h72 h7w hQ hg
 refine .inl ⟨(ws,(false,([],(x.2.1.2.2.2.1,())))),tkD (hdX lv x), #[wv,.bool false,nilS,.int .i64 lny],psD y7, ?_,rfl,s1,s2,s3, ?_, ?_⟩
 ·unfold st1
  rw [k1,k2,h59]
  rfl
 ·rw [hall]
  have hline:lny=x.2.1.2.2.2.1:=by rw [hl];exact HS.tok.line
  rw [hline]
  exact Cs.cons (words_c ho (xx_lt HS.row hrb)) (Cs.cons (C.mkv rfl) (Cs.cons nil_c (Cs.cons (C.mkv rfl) (by simp [Cs,Ty.cells]))))
 ·rw [hall]
  exact FrS.grb hg
theorem fl_line {x:ParserXX}{y:ParserX}(ht:PTok x y)(he:x.2.2.1=0):y.2.1.2.1=(flD x).2.2.1:=by
 rw [ht.line]
 unfold flD
 rw [he]
 show _=(bif ieq x.2.1.1 0 then endN x.1.1+1 else x.2.1.2.2.2.1)
 by_cases h0:x.2.1.1=0
 ·rw [h0]
  exact ht.end_ h0
 ·rw [ne_ieq h0]
  rfl
theorem kindT_2 {t:TokenX}(h:kindT t=2):t.1=125:=by
 unfold kindT at h
 by_cases h125:t.1=125
 ·exact h125
 ·rw [ne_ieq h125] at h
  revert h
  cases ieq t.1 119<;>cases t.2.2.1<;>cases ieq t.1 59<;>cases ieq t.1 123<;>cases ieq t.1 63<;>exact fun h=>absurd h (by decide)
structure Kp (b rb:Nat) (w w':World):Prop where
 os:w'.os=w.os
 tape:w'.tape=w.tape
 output:w'.output=w.output
 size:w.heap.size<=w'.heap.size
 block: ∀ j,j<w.heap.size->j≠b->j≠rb->j≠rb+1->w'.heap[j]? = w.heap[j]?
theorem Kp.grb {b rb:Nat}{w w':World}(h:w.grownBy w' (some b)):Kp b rb w w':=⟨h.os,h.tape,h.output,h.size,fun j hj h1 _ _=>h.block j hj (fun e=>h1 (Option.some.inj e))⟩
theorem Kp.set_ {b rb:Nat}{w w':World}(h:Kp b rb w w')(p:Addr)(u:Value)(hp:p.block=b∨p.block=rb∨p.block=rb+1):Kp b rb w (w'.setCell p u):=
 ⟨h.os,h.tape,h.output,by simpa [World.setCell] using h.size,fun j hj h1 h2 h3=>(Below.heap_setCell _ _ _ _ (fun e=>by rcases hp with q|q|q<;>omega)).trans (h.block j hj h1 h2 h3)⟩
theorem Kp.refl (b rb:Nat)(w:World):Kp b rb w w:=⟨rfl,rfl,rfl,Nat.le_refl _,fun _ _ _ _ _=>rfl⟩
theorem Kp.put4 {b rb:Nat}{w w':World}(h:Kp b rb w w')(u0 u1 u2 u3:Value):Kp b rb w ((((w'.setCell ⟨rb,0,none⟩ u0).setCell ⟨rb,1,none⟩ u1).setCell ⟨rb,2,none⟩ u2).setCell ⟨rb,3,none⟩ u3):=
 (((h.set_ ⟨rb,0,none⟩ u0 (.inr (.inl rfl))).set_ ⟨rb,1,none⟩ u1 (.inr (.inl rfl))).set_ ⟨rb,2,none⟩ u2 (.inr (.inl rfl))).set_ ⟨rb,3,none⟩ u3 (.inr (.inl rfl))
theorem Kp.frs {b rb:Nat}{v v':Value}{w w1 w2:World}(h:FrS b v w v' w1)(k:Kp b rb w1 w2)(hrb:w.heap.size=rb):FrS b v w v' w2:=
 ⟨⟨k.os.trans h.fr.os,k.tape.trans h.fr.tape,k.output.trans h.fr.output,Nat.le_trans h.fr.size k.size,fun j hj h1 h2=>(k.block j (Nat.lt_of_lt_of_le hj h.fr.size) h1 (by omega) (by omega)).trans (h.fr.block j hj h1 h2)⟩,h.own⟩
theorem own_same {w w':World}{base:Nat}{e:TypeId}{size n:Nat}{v:Value}{xs:List Value}(h:w.ownsRow base e size v n xs)(hs: ∀ g,v.ownBlock=some g->w'.heap[g]? = w.heap[g]?):w'.ownsRow base e size v n xs:=by
 refine ⟨h.1, ?_⟩
 rcases h.2 with hn|⟨g,cap,cur,hv,h1,h2,h3⟩
 ·exact .inl hn
 ·exact .inr ⟨g,cap,cur,hv,h1,(hs g (by rw [hv];rfl)).trans h2,h3⟩
theorem own_cX {X:Nat->Nat->Prop}{w:World}{B e:Nat}{y:Ty}{l:List y.T}{cells:List Value}{sv:Value}(h:w.ownsRow B e y.sz sv l.length cells)(hc:Cs X w nowhere (l.flatMap y.cells) cells)(h1: ∀ u∈cells,u.oneCell'=true)(hX: ∀ g,sv.ownBlock=some g→ ∀ q, ¬ X g q):C X w nowhere (.sl l.length (l.flatMap y.cells)) sv:=by
 obtain ⟨g,A,c,rfl,h2,h3,h4⟩:=Sl.of_own h
 simp only [C]
 refine ⟨A,c,rfl,h2,h3,fun h0=> ?_,fun h0=> ?_⟩
 ·have:l=[]:=List.eq_nil_of_length_eq_zero h0
  rw [this]
  rfl
 ·obtain ⟨b,off,rfl,g1,g2⟩:=h4 h0
  exact ⟨b,off,cells,rfl,hc,g1,fun q _=>hX b rfl _,fun j u hu=>g2 j u hu,h1⟩
theorem fin123 {w:World}{b rb:Nat}{x:ParserXX}{y:ParserX}{lv lny:Int}{x':ParserXX}{y8 y9:ParserX}{ws:List ByteArray}{wv sv:Value}{w8 w9 wF:World}{rows:List BlkT}{cells:List Value}{q:Prop}
  (HS:SA w b y x rows cells) (h123:(hdX lv x).2.1.1=123) (k1:wsX [] (dS (igt lv 16) x)=(ws,x')) (hbr:b<rb) (hrb:w.heap.size=rb) (hl:lny=y.2.1.2.1) (s3:rmX (tkD (hdX lv x))+1<=rmX x)
  (herr:(stX (lv+1) [] (tkD (hdX lv x))).2.2.2.1=0) (h125:(stX (lv+1) [] (tkD (hdX lv x))).2.2.1.1=125)
  (hS9:SA w9 b y9 (stX (lv+1) [] (tkD (hdX lv x))).2 rows cells) (hD9:DP (q∨16<lv) (stX (lv+1) [] (tkD (hdX lv x))).2 y9) (hrm:rmX (stX (lv+1) [] (tkD (hdX lv x))).2<=rmX (tkD (hdX lv x)))
  (hC9:C (XN (pall y9) (pall y8) w8.heap.size) w9 nowhere (.sl (stX (lv+1) [] (tkD (hdX lv x))).1.length ((stX (lv+1) [] (tkD (hdX lv x))).1.flatMap tyBlkT.cells)) sv)
  (hF8:w.grownBy w8 (some b)) (h8:rb+2<=w8.heap.size) (hall:pall y8=pall y) (hF9:FrS b (pall y8) w8 (pall y9) w9) (ho:w8.ownsRow (rb+2) 9 1 wv ws.length (ws.map Value.string))
  (hQ:QB wF b (psD y9)) (hk:Kp b rb w9 wF):
  StmtPost b y x lv rows cells w q (.returned (.tuple #[.agg #[wv,.bool true,sv,.int .i64 lny],.bool true])) wF:=by
 have hok:=hS9.ok
 have ht:=tk_ok (okR_lx hok)
 obtain ⟨t1,t2,_⟩:=tok_step (hS9.tok.at_ (by rw [h125];decide) (by rw [h125];decide)) (okR_lx hok) (hS9.ln (by rw [h125];decide))
 have hpa:pall (psD y9)=pall y9:=by rw [show pall (psD y9)=(psD y9).2.2.2.2.1 from rfl,psD_all]
 rw [hall] at hF9
 have hFS:FrS b (pall y) w (pall y9) w9:=(FrS.grb hF8).trans hF9
 have hFF:FrS b (pall y) w (pall y9) wF:=Kp.frs hFS hk hrb
 have hpl:=HS.row.own.lt
 have hpo: ∀ g,(pall y9).ownBlock=some g->(g<rb/\b<g)∨w8.heap.size<=g:=fun g hg=>by
  rcases hF9.own with e|⟨g',e,e2⟩
  ·rw [e] at hg
   have:=hpl g hg
   exact .inl (by omega)
  ·rw [e] at hg
   have:=Option.some.inj hg
   exact .inr (by omega)
 have hwl:=ho.lt
 have hoF:wF.ownsRow (rb+2) 9 1 wv ws.length (ws.map Value.string):=by
  refine own_same ho fun g hg=> ?_
  obtain ⟨g1,g2⟩:=hwl g hg
  refine (hk.block g (Nat.lt_of_lt_of_le g2 hF9.fr.size) (by omega) (by omega) (by omega)).trans (hF9.fr.block g g2 (by omega) (fun e=> ?_))
  have:=hpl g e.symm
  omega
 refine .inl ⟨(ws,(true,((stX (lv+1) [] (tkD (hdX lv x))).1.map Blk.of,(x.2.1.2.2.2.1,())))),tkD (stX (lv+1) [] (tkD (hdX lv x))).2, #[wv,.bool true,sv,.int .i64 lny],psD y9, ?_,rfl,⟨hQ,t1,okR_tk hok,t2, ?_, ?_, ?_, ?_⟩,dp_tk (okR_lx hok) hD9, ?_, ?_, ?_⟩
 ·unfold st1
  rw [k1,h123,herr,h125]
  rfl
 ·rw [ht.rest]
  exact herr
 ·rw [hpa]
  refine ⟨own_same hS9.row.own fun g hg=> ?_,Cs.ext0 hFF.ext _ _ (by rw [rows_refs];simp) HS.row.cs⟩
  have h1:=(hS9.row.own.lt g hg)
  exact hk.block g h1.2 (by omega) (by rcases hpo g hg with h|h<;>omega) (by rcases hpo g hg with h|h<;>omega)
 ·rw [ht.text]
  exact hS9.sz
 ·have:=hS9.len
  have:=ht.rm
  omega
 ·have:=ht.rm
  omega
 ·rw [hpa]
  have hline:lny=x.2.1.2.2.2.1:=by rw [hl];exact HS.tok.line
  have hX: ∀ g,wv.ownBlock=some g→ ∀ q, ¬ XN (pall y9) (pall y) w.heap.size g q:=fun g hg q hx=>by
   obtain ⟨g1,g2⟩:=hwl g hg
   rcases hx with e|e
   ·have:=e.1
    omega
   ·rcases hpo g e with h|h<;>omega
  have e8:Ext0 (XN (pall y9) (pall y8) w8.heap.size) w9 (XN (pall y9) (pall y8) w8.heap.size) wF:=⟨hk.size,fun g o hg hx=>⟨hx,World.cell?_of_block (hk.block g hg (fun e=>hx (.inl ⟨by omega,fun q=>by rw [hall] at q;have:=hpl g q;omega⟩)) (fun e=>hx (.inl ⟨by omega,fun q=>by rw [hall] at q;have:=hpl g q;omega⟩)) (fun e=>hx (.inl ⟨by omega,fun q=>by rw [hall] at q;have:=hpl g q;omega⟩)))⟩⟩
  have hsv:C (XN (pall y9) (pall y) w.heap.size) wF nowhere (.sl ((stX (lv+1) [] (tkD (hdX lv x))).1.map Blk.of).length (Blk.dss ((stX (lv+1) [] (tkD (hdX lv x))).1.map Blk.of))) sv:=by
   have h1:=C.ext0 (σ':=nowhere) e8 _ _ (by simp [D.refs]) hC9
   have h2:C (XN (pall y9) (pall y) w.heap.size) wF nowhere (V.t (.sl tyBlkT) (stX (lv+1) [] (tkD (hdX lv x))).1).d sv:=C.less h1 (fun g q hx=>hx.imp (fun h=>⟨Nat.lt_of_lt_of_le h.1 hF8.size,by rw [hall];exact h.2⟩) id) rfl
   rw [←blks_of] at h2
   exact h2
  rw [hline]
  exact Cs.cons (own_cX (y:= .str) hoF (strs_cs ws) (by intro u hu;obtain ⟨s,_,rfl⟩:=List.mem_map.1 hu;rfl) hX) (Cs.cons (C.mkv rfl) (Cs.cons hsv (Cs.cons (C.mkv rfl) (by simp [Cs,Ty.cells]))))
 ·rw [hpa]
  exact hFF
theorem finno {w:World}{b rb:Nat}{x:ParserXX}{y:ParserX}{lv:Int}{y8 y9:ParserX}{A:Option Addr}{n c:Nat}{ln:Int}{w8 w9 wF:World}{rows:List BlkT}{cells:List Value}{q:Prop}
  (_HS:SA w b y x rows cells) (h123:(hdX lv x).2.1.1=123) (herr:(stX (lv+1) [] (tkD (hdX lv x))).2.2.2.1=0) (h125:(stX (lv+1) [] (tkD (hdX lv x))).2.2.1.1≠125)
  (hS9:SA w9 b y9 (stX (lv+1) [] (tkD (hdX lv x))).2 rows cells) (hF8:w.grownBy w8 (some b)) (hall:pall y8=pall y) (hF9:FrS b (pall y8) w8 (pall y9) w9) (hrb:w.heap.size=rb)
  (hQ:QB wF b y9) (hk:Kp b rb w9 wF):StmtPost b y x lv rows cells w q (.returned (.tuple #[.agg #[.slice A n c,.bool false,nilS,.int .i64 ln],.bool false])) wF:=by
 rw [hall] at hF9
 refine .inr ⟨A,n,c,ln,flD (stX (lv+1) [] (tkD (hdX lv x))).2,y9, ?_,rfl, ?_,hQ,fl_line hS9.tok herr,(Kp.frs ((FrS.grb hF8).trans hF9) hk hrb).fr⟩
 ·unfold st1
  rw [h123,herr,show ine (stX (lv+1) [] (tkD (hdX lv x))).2.2.1.1 125=true from bne_iff_ne.2 h125]
  rfl
 ·exact bne_iff_ne.1 (fl_err hS9.ok)
theorem finbad {w:World}{b rb:Nat}{x:ParserXX}{y:ParserX}{lv lny:Int}{g:Nat}{x':ParserXX}{y' y7:ParserX}{ws:List ByteArray}{wv:Value}{A:Option Addr}{n c:Nat}{ln:Int}{wr wF:World}{rows:List BlkT}{cells:List Value}{q:Prop}
  (HS:SA w b y x rows cells) (H:LI w b rb (dS (igt lv 16) x) y lny g x' y' ws wv wr) (hw:x'.2.1.1≠119) (h59:x'.2.1.1≠59) (h123:x'.2.1.1≠123)
  (h7:y7.2.1.2.1=y'.2.1.2.1) (hQ:QB wF b y7) (hg:w.grownBy wF (some b)):
  StmtPost b y x lv rows cells w q (.returned (.tuple #[.agg #[.slice A n c,.bool false,nilS,.int .i64 ln],.bool false])) wF:=by
 obtain ⟨k1,k2,k3,k4⟩:=li_end HS.ok H hw
 have hok:okR (dS (igt (llen ws) 64) x')=true:=okR_dS H.ok
 have he0:(dS (igt (llen ws) 64) x').2.2.1=0:=by
  show x'.2.2.1=0
  rw [k3]
  exact HS.err
 refine .inr ⟨A,n,c,ln,flD (dS (igt (llen ws) 64) x'),y7, ?_,rfl, ?_,hQ, ?_,FrP.grb hg⟩
 ·unfold st1
  rw [k2,show (dS (igt (llen ws) 64) x').2.1.1=x'.2.1.1 from rfl,ne_ieq h59,ne_ieq h123]
  rfl
 ·have:=fl_err hok
  exact bne_iff_ne.1 this
 ·rw [h7,H.tok.line]
  unfold flD
  rw [he0]
  show _=(bif ieq x'.2.1.1 0 then endN x'.1.1+1 else x'.2.1.2.2.2.1)
  by_cases h0:x'.2.1.1=0
  ·rw [h0]
   exact H.tok.end_ h0
  ·rw [ne_ieq h0]
   rfl
set_option maxHeartbeats 4000000 in
theorem stmt_any (m:Nat)(IH: ∀ j,j<m->StmtsOK j):StmtOK m:=by
 intro b y x lv rows cells w q hs h119 hpl hdp hlv hlvm hrm
 have HS:=Lib.hid hs
 have HDP:=Lib.hid hdp
 have H119:=Lib.hid h119
 have HRM:=Lib.hid hrm
 have HLV:=Lib.hid (And.intro hlv hlvm)
 clear h119 hpl hrm hlv hlvm
 have HIH:=Lib.hid IH
 have hb:=hs.blk
 have hbl:=hb.lt
 have z5:=hb.cell 5
 obtain ⟨⟨ty,ay,ly,wy,u1⟩,⟨ky,lny,sy,u2⟩,wdy,dpy,ally,u3⟩:=y
 simp only [pcs,List.getElem?_toArray,List.getElem?_cons_zero,List.getElem?_cons_succ] at z5
 clear hs hdp IH
 go_enter Tryd.func118,Tryd.ntmps118
 go_wp2_with fail
 have hbw:b≠w.heap.size:=Nat.ne_of_lt hbl
 have HROW:=Lib.hid HS.out.row
 clear hb z5
 generalize hrb:w.heap.size=rb at*
 obtain ⟨wx,hwx⟩: ∃ wx,wx=(w.alloc (Obj.cells #[nilS,Value.bool false,nilS,Value.int IntKind.i64 0] 38)).alloc (Obj.cells #[nilS,Value.bool false,nilS,Value.int IntKind.i64 lny] 38):=⟨_,rfl⟩
 have HLI:Hid (LI w b rb (dS (igt lv 16) x) ((ty,ay,ly,wy,u1),(ky,lny,sy,u2),wdy,dpy,ally,u3) lny (rmX x+1) (dS (igt lv 16) x) ((ty,ay,ly,wy,u1),(ky,lny,sy,u2),wdy,dpy,ally,u3) [] nilS wx):=by
  refine Lib.hid ⟨rfl,ptok_dS _ HS.out.tok,HS.out.ok,HS.out.ln,rfl,rfl, ?_, ?_, ?_,World.ownsRow_nil _ _ _ _, ?_, ?_, ?_⟩
  ·rw [hwx]
   exact (HS.out.blk.alloc _).alloc _
  ·rw [hwx]
   have:=Go.Proofs.YtkkoedniahnneaaDoor.Blk.new (w.alloc (Obj.cells #[nilS,Value.bool false,nilS,Value.int IntKind.i64 0] 38)) 38 #[nilS,Value.bool false,nilS,Value.int IntKind.i64 lny]
   simpa [hrb] using this
  ·rw [hwx]
   have:=(Go.Proofs.YtkkoedniahnneaaDoor.Blk.new w 38 #[nilS,Value.bool false,nilS,Value.int IntKind.i64 0]).alloc (Obj.cells #[nilS,Value.bool false,nilS,Value.int IntKind.i64 lny] 38)
   rw [hrb] at this
   exact this
  ·rw [hwx]
   exact only_of_below (((Below.refl _ _).alloc (Nat.le_refl _) _).alloc (by simp) _) _
  ·show (if x.2.1.1=119 then rmX x+1 else 0)<=_
   split<;>omega
  ·have:=HS.out.len
   show ([]:List ByteArray).length+(if x.2.1.1=119 then rmX x+1 else 0)<=20001
   simp only [List.length_nil]
   split<;>omega
 rw [←hwx]
 have HRB:=Lib.hid hrb
 have HBR:Hid (b<rb):=Lib.hid hbl
 clear hwx hrb
 go_loopg [20] (rmX x+1) (fun g _ wr=> ∃ x' y' ws wv,Hid (LI w b rb (dS (igt lv 16) x) ((ty,ay,ly,wy,u1),(ky,lny,sy,u2),wdy,dpy,ally,u3) lny g x' y' ws wv wr))
 case atStart=>exact ⟨_,_,_,_,HLI⟩
 case round=>
  obtain ⟨x',y',ws,wv,HI⟩:=hrel
  clear HLI
  obtain ⟨⟨ty',ay',ly',wy',u1'⟩,⟨ky',lny',sy',u2'⟩,wdy',dpy',ally',u3'⟩:=y'
  have hb:=HI.out.blk
  have z4:=hb.cell 4
  have z6:=hb.cell 6
  have zb:=HI.out.bb.cell 0
  have fzb:=HI.out.bb.frozen 0
  simp only [pcs,List.getElem?_toArray,List.getElem?_cons_zero,List.getElem?_cons_succ] at z4 z6 zb
  clear hb
  by_cases hw:x'.2.1.1=119
  ·have hkk:ky'=3∨ky'=4:=by
    have:=HI.out.tok.kind
    unfold kindT at this
    rw [hw] at this
    cases hp:x'.2.1.2.2.1 with
    |true=>rw [hp] at this;exact .inl this
    |false=>rw [hp] at this;exact .inr this
   have HW:=Lib.hid hw
   clear hw
   have hpx:px1 (((ty',ay',ly',wy',u1'),(ky',lny',sy',u2'),wdy',dpy',ally',u3'):ParserX)=true:=px_of (HI.out.tok.at_ (by rw [HW.out];decide) (by rw [HW.out];decide)) (okR_lx HI.out.ok)
   have HPX:=Lib.hid hpx
   clear hpx
   rcases hkk with rfl|rfl
   all_goals (
    go_wp2_with fail
    refine wp_region_held_drew (S:=fun w'=>w'.cell? ⟨b,6,none⟩=some (.string sy')) (by kernel_rfl) z6 (fun hS=> ?_)
    refine anyH_val 0 31 (.pointer (some ⟨rb+1,0,none⟩)) (by assumption) rfl (by kernel_rfl) (by kernel_rfl) (by kernel_rfl) (fun o ho=>by cases ho;exact ⟨rfl,fun w hw=>by (try dsimp only at hw);go_simp⟩) (fun _ _ _ _ _ h=>h) ?_
    simp only [List.setIfInBounds_toArray,List.set_cons_zero,List.set_cons_succ]
    refine anyH_val 2 33 (.pointer (some ⟨b,0,none⟩)) (by assumption) rfl (by kernel_rfl) (by kernel_rfl) (by kernel_rfl) (fun o ho=>by cases ho;exact ⟨rfl,fun w hw=>by (try dsimp only at hw);go_simp⟩) (fun _ _ _ _ _ h=>h) ?_
    simp only [List.setIfInBounds_toArray,List.set_cons_zero,List.set_cons_succ]
    refine anyH_val 3 34 (.pointer (some ⟨b,0,none⟩)) (by assumption) rfl (by kernel_rfl) (by kernel_rfl) (by kernel_rfl) (fun o ho=>by cases ho;exact ⟨rfl,fun w hw=>by (try dsimp only at hw);go_simp⟩) (fun _ _ _ _ _ h=>h) ?_
    simp only [List.setIfInBounds_toArray,List.set_cons_zero,List.set_cons_succ]
    refine anyH_val 4 35 (.pointer (some ⟨b,4,none⟩)) (by assumption) rfl (by kernel_rfl) (by kernel_rfl) (by kernel_rfl) (fun o ho=>by cases ho;exact ⟨rfl,fun w hw=>by (try dsimp only at hw);go_simp⟩) (fun _ _ _ _ _ h=>h) ?_
    simp only [List.setIfInBounds_toArray,List.set_cons_zero,List.set_cons_succ]
    refine anyH_val 5 36 (.pointer (some ⟨b,6,none⟩)) (by assumption) rfl (by kernel_rfl) (by kernel_rfl) (by kernel_rfl) (fun o ho=>by cases ho;exact ⟨rfl,fun w hw=>by (try dsimp only at hw);go_simp⟩) (fun _ _ _ _ _ h=>h) ?_
    simp only [List.setIfInBounds_toArray,List.set_cons_zero,List.set_cons_succ]
    refine anyH_val 6 37 (.string sy') (by assumption) rfl (by kernel_rfl) (by kernel_rfl) (by kernel_rfl) (fun o ho=>by cases ho;exact ⟨rfl,fun w hw=>by (try dsimp only at hw);go_simp⟩) (fun _ _ _ _ _ h=>h) ?_
    simp only [List.setIfInBounds_toArray,List.set_cons_zero,List.set_cons_succ]
    have hba:=HI.out.blk.alloc (.cells #[.string sy'] 9)
    have hbba:=HI.out.bb.alloc (.cells #[.string sy'] 9)
    have k6:=hba.cell 6
    have kb:=hbba.cell 0
    simp only [pcs,List.getElem?_toArray,List.getElem?_cons_zero,List.getElem?_cons_succ] at k6 kb
    clear hba hbba
    refine wpAnyH_ready (rs:=[1,7]) (by kernel_rfl) (by simp) ?_
    refine AllReadyH.cons rfl (fun K hK=> ?_) (AllReadyH.cons rfl (fun K hK=> ?_) AllReadyH.nil)
    ·skip
     go_simp
     refine hK.out _ _ z6 (fun hS=> ?_)
     clear hK K
     (try simp only [Act.put,List.setIfInBounds_toArray,List.set_cons_zero,List.set_cons_succ])
     refine wpAnyH_ready (rs:=[7]) (by kernel_rfl) (by simp) ?_
     refine AllReadyH.cons rfl (fun K hK=> ?_) AllReadyH.nil
     go_simp
     refine hK.out _ _ k6 (fun hS=> ?_)
     clear hK K
     (try simp only [Act.put,List.setIfInBounds_toArray,List.set_cons_zero,List.set_cons_succ])
     refine wpAnyH_ready (rs:=[8]) (by kernel_rfl) (by simp) ?_
     refine AllReadyH.cons rfl (fun K hK=> ?_) AllReadyH.nil
     refine step_app 39 rfl elemStr rfl _ _ rfl (rb+2) wv ws.length (ws.map Value.string) rfl (HI.out.own.alloc (.cells #[.string sy'] 9)) _ _ _ _ rfl (Sl.made _ _ 1 1 _ rfl (by decide)) (by simp [Value.oneCell']) (by have:=HI.out.len;omega) (by decide) (by have:=HI.out.bb.lt;simp;omega) ?_
     intro v' w5 hown5 hg5 hat5
     obtain ⟨A',cc',rfl⟩:=own_slice hown5
     have hG5:(wr.alloc (.cells #[.string sy'] 9)).drew.grownBy w5 wv.ownBlock:=hg5
     have hnb:some b≠wv.ownBlock:=fun e=>by have:=(HI.out.own.lt _ e.symm).1;have:=HBR.out;omega
     have hnbb:some (rb+1)≠wv.ownBlock:=fun e=>by have:=(HI.out.own.lt _ e.symm).1;omega
     have hnr:some rb≠wv.ownBlock:=fun e=>by have:=(HI.out.own.lt _ e.symm).1;omega
     have HB5:=Lib.hid ((HI.out.blk.alloc (.cells #[.string sy'] 9)).drew.grown hG5 hnb)
     have HBB5:=Lib.hid ((HI.out.bb.alloc (.cells #[.string sy'] 9)).drew.grown hG5 hnbb)
     have HRB5:=Lib.hid ((HI.out.rbk.alloc (.cells #[.string sy'] 9)).drew.grown hG5 hnr)
     have HG5:=Lib.hid hG5
     have HOWN5:=Lib.hid hown5
     have m6:=HB5.out.cell 6
     have mb:=HBB5.out.cell 0
     have fz5:=HBB5.out.frozen 0
     simp only [pcs,List.getElem?_toArray,List.getElem?_cons_zero,List.getElem?_cons_succ] at m6 mb
     clear hnb hnbb hnr hG5 hg5 hown5
     refine hK.out _ _ m6 (fun hS=> ?_)
     clear hK K
     (try simp only [Act.put,List.setIfInBounds_toArray,List.set_cons_zero,List.set_cons_succ])
     refine anyH_val 9 40 (.pointer (some ⟨rb+1,0,none⟩)) (by assumption) rfl (by kernel_rfl) (by kernel_rfl) (by kernel_rfl) (fun o ho=>by cases ho;exact ⟨rfl,fun w hw=>by (try dsimp only at hw);go_simp⟩) (fun _ _ _ _ _ h=>h) ?_
     simp only [List.setIfInBounds_toArray,List.set_cons_zero,List.set_cons_succ]
     refine wpAnyH_ready (rs:=[10]) (by kernel_rfl) (by simp) ?_
     refine AllReadyH.cons rfl (fun K hK=> ?_) AllReadyH.nil
     go_simp
     refine hK.out _ _ (by have:=(HB5.out.far (p:=⟨rb+1,0,none⟩) (by have:=HBR.out;show b≠rb+1;omega) (Value.slice A' (ws.length+1) cc')).cell 6;simpa [pcs] using this) (fun hS=> ?_)
     clear hK K
     (try simp only [Act.put,List.setIfInBounds_toArray,List.set_cons_zero,List.set_cons_succ])
     refine wpAnyH_done (by kernel_rfl) ?_ _
     clear hS m6 mb fz5
     go_wp2_with fail
     have hBs:=HB5.out.far (p:=⟨rb+1,0,none⟩) (by have:=HBR.out;show b≠rb+1;omega) (Value.slice A' (ws.length+1) cc')
     refine (step_calls hBs HPX.out (by have:=HROW.out.one_v;have h2:=HI.out.yrest;simp only [Prod.mk.injEq] at h2;rw [show pall _=ally' from rfl,h2.2.2.1];exact this)).mono ?_
     rintro e w6 ⟨rfl,hb6,hg6⟩
     have hnew:=li_next HI.out HW.out HBR.out HRB.out HBB5.out HRB5.out HOWN5.out HG5.out rfl hb6 hg6
     have HNEW:=Lib.hid hnew
     clear hnew hBs hb6 hg6
     go_wp2_with fail
     go_roundg (rmX x')
     case measure=>have:=HI.out.ms;rw [if_pos HW.out] at this;omega
     case rel=>exact ⟨_,_,_,_,HNEW⟩
    ·skip
     go_simp
     refine hK.out _ _ k6 (fun hS=> ?_)
     clear hK K
     (try simp only [Act.put,List.setIfInBounds_toArray,List.set_cons_zero,List.set_cons_succ])
     refine wpAnyH_ready (rs:=[1]) (by kernel_rfl) (by simp) ?_
     refine AllReadyH.cons rfl (fun K hK=> ?_) AllReadyH.nil
     go_simp
     refine hK.out _ _ k6 (fun hS=> ?_)
     clear hK K
     (try simp only [Act.put,List.setIfInBounds_toArray,List.set_cons_zero,List.set_cons_succ])
     refine wpAnyH_ready (rs:=[8]) (by kernel_rfl) (by simp) ?_
     refine AllReadyH.cons rfl (fun K hK=> ?_) AllReadyH.nil
     refine step_app 39 rfl elemStr rfl _ _ rfl (rb+2) wv ws.length (ws.map Value.string) rfl (HI.out.own.alloc (.cells #[.string sy'] 9)) _ _ _ _ rfl (Sl.made _ _ 1 1 _ rfl (by decide)) (by simp [Value.oneCell']) (by have:=HI.out.len;omega) (by decide) (by have:=HI.out.bb.lt;simp;omega) ?_
     intro v' w5 hown5 hg5 hat5
     obtain ⟨A',cc',rfl⟩:=own_slice hown5
     have hG5:(wr.alloc (.cells #[.string sy'] 9)).drew.grownBy w5 wv.ownBlock:=hg5
     have hnb:some b≠wv.ownBlock:=fun e=>by have:=(HI.out.own.lt _ e.symm).1;have:=HBR.out;omega
     have hnbb:some (rb+1)≠wv.ownBlock:=fun e=>by have:=(HI.out.own.lt _ e.symm).1;omega
     have hnr:some rb≠wv.ownBlock:=fun e=>by have:=(HI.out.own.lt _ e.symm).1;omega
     have HB5:=Lib.hid ((HI.out.blk.alloc (.cells #[.string sy'] 9)).drew.grown hG5 hnb)
     have HBB5:=Lib.hid ((HI.out.bb.alloc (.cells #[.string sy'] 9)).drew.grown hG5 hnbb)
     have HRB5:=Lib.hid ((HI.out.rbk.alloc (.cells #[.string sy'] 9)).drew.grown hG5 hnr)
     have HG5:=Lib.hid hG5
     have HOWN5:=Lib.hid hown5
     have m6:=HB5.out.cell 6
     have mb:=HBB5.out.cell 0
     have fz5:=HBB5.out.frozen 0
     simp only [pcs,List.getElem?_toArray,List.getElem?_cons_zero,List.getElem?_cons_succ] at m6 mb
     clear hnb hnbb hnr hG5 hg5 hown5
     refine hK.out _ _ m6 (fun hS=> ?_)
     clear hK K
     (try simp only [Act.put,List.setIfInBounds_toArray,List.set_cons_zero,List.set_cons_succ])
     refine anyH_val 9 40 (.pointer (some ⟨rb+1,0,none⟩)) (by assumption) rfl (by kernel_rfl) (by kernel_rfl) (by kernel_rfl) (fun o ho=>by cases ho;exact ⟨rfl,fun w hw=>by (try dsimp only at hw);go_simp⟩) (fun _ _ _ _ _ h=>h) ?_
     simp only [List.setIfInBounds_toArray,List.set_cons_zero,List.set_cons_succ]
     refine wpAnyH_ready (rs:=[10]) (by kernel_rfl) (by simp) ?_
     refine AllReadyH.cons rfl (fun K hK=> ?_) AllReadyH.nil
     go_simp
     refine hK.out _ _ (by have:=(HB5.out.far (p:=⟨rb+1,0,none⟩) (by have:=HBR.out;show b≠rb+1;omega) (Value.slice A' (ws.length+1) cc')).cell 6;simpa [pcs] using this) (fun hS=> ?_)
     clear hK K
     (try simp only [Act.put,List.setIfInBounds_toArray,List.set_cons_zero,List.set_cons_succ])
     refine wpAnyH_done (by kernel_rfl) ?_ _
     clear hS m6 mb fz5
     go_wp2_with fail
     have hBs:=HB5.out.far (p:=⟨rb+1,0,none⟩) (by have:=HBR.out;show b≠rb+1;omega) (Value.slice A' (ws.length+1) cc')
     refine (step_calls hBs HPX.out (by have:=HROW.out.one_v;have h2:=HI.out.yrest;simp only [Prod.mk.injEq] at h2;rw [show pall _=ally' from rfl,h2.2.2.1];exact this)).mono ?_
     rintro e w6 ⟨rfl,hb6,hg6⟩
     have hnew:=li_next HI.out HW.out HBR.out HRB.out HBB5.out HRB5.out HOWN5.out HG5.out rfl hb6 hg6
     have HNEW:=Lib.hid hnew
     clear hnew hBs hb6 hg6
     go_wp2_with fail
     go_roundg (rmX x')
     case measure=>have:=HI.out.ms;rw [if_pos HW.out] at this;omega
     case rel=>exact ⟨_,_,_,_,HNEW⟩)
  ·have hnw:ieq x'.2.1.1 119=false:=ne_ieq hw
   have hws:wsX [] (dS (igt lv 16) x)=(ws,x'):=by rw [HI.out.eq,wsX_not hnw]
   have hhd:hdX lv x=dS (igt (llen ws) 64) x':=by unfold hdX;rw [hws]
   have hln:=HI.out.len
   rw [if_neg hw] at hln
   have hcase:(x'.2.1.1=59/\ky'=0)∨(x'.2.1.1=123/\ky'=1)∨(x'.2.1.1≠59/\x'.2.1.1≠123/\ky'≠0/\ky'≠1/\ky'≠3/\ky'≠4):=by
    have h:=HI.out.tok.kind
    have h:ky'=kindT x'.2.1:=h
    unfold kindT at h
    rw [hnw,cond_false] at h
    by_cases h59:x'.2.1.1=59
    ·rw [h59] at h
     exact .inl ⟨h59,h⟩
    ·rw [ne_ieq h59,cond_false] at h
     by_cases h123:x'.2.1.1=123
     ·rw [h123] at h
      exact .inr (.inl ⟨h123,h⟩)
     ·rw [ne_ieq h123,cond_false] at h
      refine .inr (.inr ⟨h59,h123, ?_⟩)
      rw [h]
      cases ieq x'.2.1.1 125<;>cases ieq x'.2.1.1 63<;>decide
   have HWS:=Lib.hid hws
   have HHD:=Lib.hid hhd
   have HLN:=Lib.hid hln
   have HNW:=Lib.hid hw
   have H72:Hid ((dpy',(ally',u3'))=(dpy,(ally,u3))):=Lib.hid (congrArg Prod.snd HI.out.yrest)
   have HEW:Hid (wdy'=wdy):=Lib.hid (congrArg Prod.fst HI.out.yrest)
   clear hnw hws hhd hln hw
   have z7:=HI.out.blk.cell 7
   have fz7:=HI.out.blk.frozen 7
   simp only [pcs,List.getElem?_toArray,List.getElem?_cons_zero,List.getElem?_cons_succ] at z7
   obtain ⟨Aw,cw,hwv⟩:=own_slice HI.out.own
   subst hwv
   obtain ⟨wd2,hwd2⟩: ∃ v:Int,v=if ((ws.length:Nat):Int) > wdy' then ((ws.length:Nat):Int) else wdy':=⟨_,rfl⟩
   have HWD2:=Lib.hid hwd2
   clear hwd2
   rcases hcase with ⟨h59,rfl⟩|⟨h123,rfl⟩|⟨h59,h123,hk0,hk1,hk3,hk4⟩
   ·have HKX:=Lib.hid h59
    clear h59
    go_wp2_with fail
    refine wp_region_held_drew (S:=fun w'=>w'.cell? ⟨rb+1,0,none⟩=some (.slice Aw ws.length cw)) (by kernel_rfl) zb (fun hS=> ?_)
    refine anyH_val 0 41 (.pointer (some ⟨b,0,none⟩)) (by assumption) rfl (by kernel_rfl) (by kernel_rfl) (by kernel_rfl) (fun o ho=>by cases ho;exact ⟨rfl,fun w hw=>by (try dsimp only at hw);go_simp⟩) (fun _ _ _ _ _ h=>h) ?_
    simp only [List.setIfInBounds_toArray,List.set_cons_zero,List.set_cons_succ]
    refine anyH_val 1 42 (.pointer (some ⟨b,0,none⟩)) (by assumption) rfl (by kernel_rfl) (by kernel_rfl) (by kernel_rfl) (fun o ho=>by cases ho;exact ⟨rfl,fun w hw=>by (try dsimp only at hw);go_simp⟩) (fun _ _ _ _ _ h=>h) ?_
    simp only [List.setIfInBounds_toArray,List.set_cons_zero,List.set_cons_succ]
    refine anyH_val 2 43 (.pointer (some ⟨b,0,none⟩)) (by assumption) rfl (by kernel_rfl) (by kernel_rfl) (by kernel_rfl) (fun o ho=>by cases ho;exact ⟨rfl,fun w hw=>by (try dsimp only at hw);go_simp⟩) (fun _ _ _ _ _ h=>h) ?_
    simp only [List.setIfInBounds_toArray,List.set_cons_zero,List.set_cons_succ]
    refine anyH_val 3 44 (.pointer (some ⟨b,7,none⟩)) (by assumption) rfl (by kernel_rfl) (by kernel_rfl) (by kernel_rfl) (fun o ho=>by cases ho;exact ⟨rfl,fun w hw=>by (try dsimp only at hw);go_simp⟩) (fun _ _ _ _ _ h=>h) ?_
    simp only [List.setIfInBounds_toArray,List.set_cons_zero,List.set_cons_succ]
    refine anyH_val 5 46 (.pointer (some ⟨rb+1,0,none⟩)) (by assumption) rfl (by kernel_rfl) (by kernel_rfl) (by kernel_rfl) (fun o ho=>by cases ho;exact ⟨rfl,fun w hw=>by (try dsimp only at hw);go_simp⟩) (fun _ _ _ _ _ h=>h) ?_
    simp only [List.setIfInBounds_toArray,List.set_cons_zero,List.set_cons_succ]
    refine anyH_val 6 47 (.slice Aw ws.length cw) (by assumption) rfl (by kernel_rfl) (by kernel_rfl) (by kernel_rfl) (fun o ho=>by cases ho;exact ⟨rfl,fun w hw=>by (try dsimp only at hw);go_simp⟩) (fun _ _ _ _ _ h=>h) ?_
    simp only [List.setIfInBounds_toArray,List.set_cons_zero,List.set_cons_succ]
    refine anyH_val 7 48 (.int .i64 ((ws.length:Nat):Int)) (by assumption) rfl (by kernel_rfl) (by kernel_rfl) (by kernel_rfl) (fun o ho=>by cases ho;exact ⟨rfl,fun w hw=>by (try dsimp only at hw);go_simp⟩) (fun _ _ _ _ _ h=>h) ?_
    simp only [List.setIfInBounds_toArray,List.set_cons_zero,List.set_cons_succ]
    refine wpAnyH_ready (rs:=[4]) (by kernel_rfl) (by simp) ?_
    refine AllReadyH.cons rfl (fun K hK=> ?_) AllReadyH.nil
    go_simp
    refine hK.out _ _ zb (fun hS=> ?_)
    clear hK K
    (try simp only [Act.put,List.setIfInBounds_toArray,List.set_cons_zero,List.set_cons_succ])
    refine anyH_val 8 49 (.int .i64 wd2) (by assumption) rfl (by kernel_rfl) (by kernel_rfl) (by kernel_rfl) (fun o ho=>by cases ho;exact ⟨rfl,fun w hw=>by rw [HWD2.out];simp [execOp,resolve,invoke,builtin,Act.eval,Builtin.max_,Builtin.max2]⟩) (fun _ _ _ _ _ h=>h) ?_
    simp only [List.setIfInBounds_toArray,List.set_cons_zero,List.set_cons_succ]
    refine anyH_val 9 50 (.pointer (some ⟨b,0,none⟩)) (by assumption) rfl (by kernel_rfl) (by kernel_rfl) (by kernel_rfl) (fun o ho=>by cases ho;exact ⟨rfl,fun w hw=>by (try dsimp only at hw);go_simp⟩) (fun _ _ _ _ _ h=>h) ?_
    simp only [List.setIfInBounds_toArray,List.set_cons_zero,List.set_cons_succ]
    refine anyH_val 10 51 (.pointer (some ⟨b,7,none⟩)) (by assumption) rfl (by kernel_rfl) (by kernel_rfl) (by kernel_rfl) (fun o ho=>by cases ho;exact ⟨rfl,fun w hw=>by (try dsimp only at hw);go_simp⟩) (fun _ _ _ _ _ h=>h) ?_
    simp only [List.setIfInBounds_toArray,List.set_cons_zero,List.set_cons_succ]
    refine wpAnyH_ready (rs:=[11]) (by kernel_rfl) (by simp) ?_
    refine AllReadyH.cons rfl (fun K hK=> ?_) AllReadyH.nil
    go_simp
    refine hK.out _ _ (by have:=(HI.out.bb.far (p:=⟨b,7,none⟩) (by have:=HBR.out;show rb+1≠b;omega) (Value.int .i64 wd2)).cell 0;simpa using this) (fun hS=> ?_)
    clear hK K
    (try simp only [Act.put,List.setIfInBounds_toArray,List.set_cons_zero,List.set_cons_succ])
    refine wpAnyH_done (by kernel_rfl) ?_ _
    clear hS
    have HB7:Hid (QB (wr.setCell ⟨b,7,none⟩ (.int .i64 wd2)) b (((ty',ay',ly',wy',u1'),(0,lny',sy',u2'),wd2,dpy',ally',u3'):ParserX)):=Lib.hid (HI.out.blk.set_ 7 (.int .i64 wd2) _ rfl)
    have HBB7:=Lib.hid (HI.out.bb.far (p:=⟨b,7,none⟩) (by have:=HBR.out;show rb+1≠b;omega) (Value.int .i64 wd2))
    have HRB7:=Lib.hid (HI.out.rbk.far (p:=⟨b,7,none⟩) (by have:=HBR.out;show rb≠b;omega) (Value.int .i64 wd2))
    have HG7:=Lib.hid (show w.grownBy (wr.setCell ⟨b,7,none⟩ (.int .i64 wd2)) (some b) from grown_set HI.out.fr 7 _)
    have HOWN7:=Lib.hid (ownsRow_setCell_below HI.out.own (show b<rb+2 by have:=HBR.out;omega) (Value.int .i64 wd2) (a:=⟨b,7,none⟩))
    have e4:=HB7.out.cell 4
    simp only [pcs,List.getElem?_toArray,List.getElem?_cons_zero,List.getElem?_cons_succ] at e4
    have hyx:(((ty',ay',ly',wy',u1'),(0,lny',sy',u2'),wd2,dpy',ally',u3'):ParserX).1=x'.1:=HI.out.tok.at_ (by rw [HKX.out];decide) (by rw [HKX.out];decide)
    have HYX:=Lib.hid hyx
    have HPX7:=Lib.hid (px_of hyx (okR_lx HI.out.ok))
    have HALL7:Hid ((pall (((ty',ay',ly',wy',u1'),(0,lny',sy',u2'),wd2,dpy',ally',u3'):ParserX)).oneCell'=true):=Lib.hid (by have:=HROW.out.one_v;have h2:=HI.out.yrest;simp only [Prod.mk.injEq] at h2;rw [show pall _=ally' from rfl,h2.2.2.1];exact this)
    clear hyx
    go_wp2_with fail
    refine (step_calls HB7.out.drew HPX7.out HALL7.out).mono ?_
    rintro e w8 ⟨rfl,hb8,hg8⟩
    have HBB8:=Lib.hid (HBB7.out.drew.grown hg8 (fun e=>by have:=Option.some.inj e;have:=HBR.out;omega))
    have HRB8:=Lib.hid (HRB7.out.drew.grown hg8 (fun e=>by have:=Option.some.inj e;have:=HBR.out;omega))
    have HOWN8:=Lib.hid (own_grown HOWN7.out.drew hg8 (fun g e e2=>by have:=(HOWN7.out.lt g e).1;have:=Option.some.inj e2;have:=HBR.out;omega))
    have HG8:=Lib.hid (only_trans (grb_more HG7.out (only_of_below (Below.refl _ _).drew none) (fun g e=>by cases e)) hg8)
    have HB8:=Lib.hid hb8
    have c0:=HBB8.out.cell 0
    have c1:=HBB8.out.cell 1
    have c2:=HBB8.out.cell 2
    have c3:=HBB8.out.cell 3
    have d0:=HRB8.out.cell 0
    have d1:=HRB8.out.cell 1
    have d2:=HRB8.out.cell 2
    have d3:=HRB8.out.cell 3
    have f0:=HRB8.out.frozen 0
    have f1:=HRB8.out.frozen 1
    have f2:=HRB8.out.frozen 2
    have f3:=HRB8.out.frozen 3
    simp only [List.getElem?_toArray,List.getElem?_cons_zero,List.getElem?_cons_succ] at c0 c1 c2 c3 d0 d1 d2 d3
    clear hb8 hg8
    go_wp2_with fail
    have HRBF:=Lib.hid ((((HRB8.out.set_ 0 (Value.slice Aw ws.length cw)).set_ 1 (Value.bool false)).set_ 2 nilS).set_ 3 (Value.int .i64 lny))
    have p0:=HRBF.out.cell 0
    have p1:=HRBF.out.cell 1
    have p2:=HRBF.out.cell 2
    have p3:=HRBF.out.cell 3
    simp only [List.setIfInBounds_toArray,List.set_cons_zero,List.set_cons_succ,List.getElem?_toArray,List.getElem?_cons_zero,List.getElem?_cons_succ] at p0 p1 p2 p3
    (try simp only [Exit.inBlock,Exit.then])
    refine bodyPost_ret (v:= .tuple #[.agg #[.slice Aw ws.length cw,.bool false,nilS,.int .i64 lny],.bool true]) ?_ rfl ?_
    ·simp only [results,show Tryd.func118.results= #[.cell 4 38,.tmp 5] from rfl]
     go_simp
    ·have hB:=((((HB8.out.far (p:=⟨rb,0,none⟩) (by have:=HBR.out;show b≠rb;omega) (Value.slice Aw ws.length cw)).far (p:=⟨rb,1,none⟩) (by have:=HBR.out;show b≠rb;omega) (Value.bool false)).far (p:=⟨rb,2,none⟩) (by have:=HBR.out;show b≠rb;omega) nilS).far (p:=⟨rb,3,none⟩) (by have:=HBR.out;show b≠rb;omega) (Value.int .i64 lny))
     have hG:=grb_set (grb_set (grb_set (grb_set HG8.out ⟨rb,0,none⟩ (Value.slice Aw ws.length cw) (Nat.le_of_eq HRB.out)) ⟨rb,1,none⟩ (Value.bool false) (Nat.le_of_eq HRB.out)) ⟨rb,2,none⟩ nilS (Nat.le_of_eq HRB.out)) ⟨rb,3,none⟩ (Value.int .i64 lny) (Nat.le_of_eq HRB.out)
     have hO:=ownsRow_setCell_below (ownsRow_setCell_below (ownsRow_setCell_below (ownsRow_setCell_below HOWN8.out (a:=⟨rb,0,none⟩) (show rb<rb+2 by omega) (Value.slice Aw ws.length cw)) (a:=⟨rb,1,none⟩) (show rb<rb+2 by omega) (Value.bool false)) (a:=⟨rb,2,none⟩) (show rb<rb+2 by omega) nilS) (a:=⟨rb,3,none⟩) (show rb<rb+2 by omega) (Value.int .i64 lny)
     exact fin59 (y7:=(((ty',ay',ly',wy',u1'),(0,lny',sy',u2'),wd2,dpy',ally',u3'):ParserX)) HS.out H119.out HDP.out HI.out HKX.out HBR.out HRB.out rfl HYX.out H72.out (by have e:wdy'=wdy:=HEW.out;show wd2=if ((ws.length:Nat):Int) > wdy then ((ws.length:Nat):Int) else wdy;rw [HWD2.out,e]) hB hG hO
   ·have HKX:=Lib.hid h123
    clear h123
    go_wp2_with fail
    refine wp_region_held_drew (S:=fun w'=>w'.cell? ⟨rb+1,0,none⟩=some (.slice Aw ws.length cw)) (by kernel_rfl) zb (fun hS=> ?_)
    refine anyH_val 0 41 (.pointer (some ⟨b,0,none⟩)) (by assumption) rfl (by kernel_rfl) (by kernel_rfl) (by kernel_rfl) (fun o ho=>by cases ho;exact ⟨rfl,fun w hw=>by (try dsimp only at hw);go_simp⟩) (fun _ _ _ _ _ h=>h) ?_
    simp only [List.setIfInBounds_toArray,List.set_cons_zero,List.set_cons_succ]
    refine anyH_val 1 42 (.pointer (some ⟨b,0,none⟩)) (by assumption) rfl (by kernel_rfl) (by kernel_rfl) (by kernel_rfl) (fun o ho=>by cases ho;exact ⟨rfl,fun w hw=>by (try dsimp only at hw);go_simp⟩) (fun _ _ _ _ _ h=>h) ?_
    simp only [List.setIfInBounds_toArray,List.set_cons_zero,List.set_cons_succ]
    refine anyH_val 2 43 (.pointer (some ⟨b,0,none⟩)) (by assumption) rfl (by kernel_rfl) (by kernel_rfl) (by kernel_rfl) (fun o ho=>by cases ho;exact ⟨rfl,fun w hw=>by (try dsimp only at hw);go_simp⟩) (fun _ _ _ _ _ h=>h) ?_
    simp only [List.setIfInBounds_toArray,List.set_cons_zero,List.set_cons_succ]
    refine anyH_val 3 44 (.pointer (some ⟨b,7,none⟩)) (by assumption) rfl (by kernel_rfl) (by kernel_rfl) (by kernel_rfl) (fun o ho=>by cases ho;exact ⟨rfl,fun w hw=>by (try dsimp only at hw);go_simp⟩) (fun _ _ _ _ _ h=>h) ?_
    simp only [List.setIfInBounds_toArray,List.set_cons_zero,List.set_cons_succ]
    refine anyH_val 5 46 (.pointer (some ⟨rb+1,0,none⟩)) (by assumption) rfl (by kernel_rfl) (by kernel_rfl) (by kernel_rfl) (fun o ho=>by cases ho;exact ⟨rfl,fun w hw=>by (try dsimp only at hw);go_simp⟩) (fun _ _ _ _ _ h=>h) ?_
    simp only [List.setIfInBounds_toArray,List.set_cons_zero,List.set_cons_succ]
    refine anyH_val 6 47 (.slice Aw ws.length cw) (by assumption) rfl (by kernel_rfl) (by kernel_rfl) (by kernel_rfl) (fun o ho=>by cases ho;exact ⟨rfl,fun w hw=>by (try dsimp only at hw);go_simp⟩) (fun _ _ _ _ _ h=>h) ?_
    simp only [List.setIfInBounds_toArray,List.set_cons_zero,List.set_cons_succ]
    refine anyH_val 7 48 (.int .i64 ((ws.length:Nat):Int)) (by assumption) rfl (by kernel_rfl) (by kernel_rfl) (by kernel_rfl) (fun o ho=>by cases ho;exact ⟨rfl,fun w hw=>by (try dsimp only at hw);go_simp⟩) (fun _ _ _ _ _ h=>h) ?_
    simp only [List.setIfInBounds_toArray,List.set_cons_zero,List.set_cons_succ]
    refine wpAnyH_ready (rs:=[4]) (by kernel_rfl) (by simp) ?_
    refine AllReadyH.cons rfl (fun K hK=> ?_) AllReadyH.nil
    go_simp
    refine hK.out _ _ zb (fun hS=> ?_)
    clear hK K
    (try simp only [Act.put,List.setIfInBounds_toArray,List.set_cons_zero,List.set_cons_succ])
    refine anyH_val 8 49 (.int .i64 wd2) (by assumption) rfl (by kernel_rfl) (by kernel_rfl) (by kernel_rfl) (fun o ho=>by cases ho;exact ⟨rfl,fun w hw=>by rw [HWD2.out];simp [execOp,resolve,invoke,builtin,Act.eval,Builtin.max_,Builtin.max2]⟩) (fun _ _ _ _ _ h=>h) ?_
    simp only [List.setIfInBounds_toArray,List.set_cons_zero,List.set_cons_succ]
    refine anyH_val 9 50 (.pointer (some ⟨b,0,none⟩)) (by assumption) rfl (by kernel_rfl) (by kernel_rfl) (by kernel_rfl) (fun o ho=>by cases ho;exact ⟨rfl,fun w hw=>by (try dsimp only at hw);go_simp⟩) (fun _ _ _ _ _ h=>h) ?_
    simp only [List.setIfInBounds_toArray,List.set_cons_zero,List.set_cons_succ]
    refine anyH_val 10 51 (.pointer (some ⟨b,7,none⟩)) (by assumption) rfl (by kernel_rfl) (by kernel_rfl) (by kernel_rfl) (fun o ho=>by cases ho;exact ⟨rfl,fun w hw=>by (try dsimp only at hw);go_simp⟩) (fun _ _ _ _ _ h=>h) ?_
    simp only [List.setIfInBounds_toArray,List.set_cons_zero,List.set_cons_succ]
    refine wpAnyH_ready (rs:=[11]) (by kernel_rfl) (by simp) ?_
    refine AllReadyH.cons rfl (fun K hK=> ?_) AllReadyH.nil
    go_simp
    refine hK.out _ _ (by have:=(HI.out.bb.far (p:=⟨b,7,none⟩) (by have:=HBR.out;show rb+1≠b;omega) (Value.int .i64 wd2)).cell 0;simpa using this) (fun hS=> ?_)
    clear hK K
    (try simp only [Act.put,List.setIfInBounds_toArray,List.set_cons_zero,List.set_cons_succ])
    refine wpAnyH_done (by kernel_rfl) ?_ _
    clear hS
    have HB7:Hid (QB (wr.setCell ⟨b,7,none⟩ (.int .i64 wd2)) b (((ty',ay',ly',wy',u1'),(1,lny',sy',u2'),wd2,dpy',ally',u3'):ParserX)):=Lib.hid (HI.out.blk.set_ 7 (.int .i64 wd2) _ rfl)
    have HBB7:=Lib.hid (HI.out.bb.far (p:=⟨b,7,none⟩) (by have:=HBR.out;show rb+1≠b;omega) (Value.int .i64 wd2))
    have HRB7:=Lib.hid (HI.out.rbk.far (p:=⟨b,7,none⟩) (by have:=HBR.out;show rb≠b;omega) (Value.int .i64 wd2))
    have HG7:=Lib.hid (show w.grownBy (wr.setCell ⟨b,7,none⟩ (.int .i64 wd2)) (some b) from grown_set HI.out.fr 7 _)
    have HOWN7:=Lib.hid (ownsRow_setCell_below HI.out.own (show b<rb+2 by have:=HBR.out;omega) (Value.int .i64 wd2) (a:=⟨b,7,none⟩))
    have e4:=HB7.out.cell 4
    simp only [pcs,List.getElem?_toArray,List.getElem?_cons_zero,List.getElem?_cons_succ] at e4
    have hyx:(((ty',ay',ly',wy',u1'),(1,lny',sy',u2'),wd2,dpy',ally',u3'):ParserX).1=x'.1:=HI.out.tok.at_ (by rw [HKX.out];decide) (by rw [HKX.out];decide)
    have HYX:=Lib.hid hyx
    have HPX7:=Lib.hid (px_of hyx (okR_lx HI.out.ok))
    have HALL7:Hid ((pall (((ty',ay',ly',wy',u1'),(1,lny',sy',u2'),wd2,dpy',ally',u3'):ParserX)).oneCell'=true):=Lib.hid (by have:=HROW.out.one_v;have h2:=HI.out.yrest;simp only [Prod.mk.injEq] at h2;rw [show pall _=ally' from rfl,h2.2.2.1];exact this)
    clear hyx
    clear z4 z6 zb fzb z7 fz7
    go_wp2_with fail
    refine (step_calls HB7.out.drew HPX7.out HALL7.out).mono ?_
    rintro e w8 ⟨rfl,hb8,hg8⟩
    have HBB8:=Lib.hid (HBB7.out.drew.grown hg8 (fun e=>by have:=Option.some.inj e;have:=HBR.out;omega))
    have HRB8:=Lib.hid (HRB7.out.drew.grown hg8 (fun e=>by have:=Option.some.inj e;have:=HBR.out;omega))
    have HOWN8:=Lib.hid (own_grown HOWN7.out.drew hg8 (fun g e e2=>by have:=(HOWN7.out.lt g e).1;have:=Option.some.inj e2;have:=HBR.out;omega))
    have HG8:=Lib.hid (only_trans (grb_more HG7.out (only_of_below (Below.refl _ _).drew none) (fun g e=>by cases e)) hg8)
    have HB8:=Lib.hid hb8
    clear hb8 hg8
    have hstep:=sa_step (q:=q) (lv:=lv) (y7:=(((ty',ay',ly',wy',u1'),(1,lny',sy',u2'),wd2,dpy',ally',u3'):ParserX)) HS.out H119.out HDP.out HI.out (.inr HKX.out) HYX.out H72.out (by have e:wdy'=wdy:=HEW.out;show wd2=if ((ws.length:Nat):Int) > wdy then ((ws.length:Nat):Int) else wdy;rw [HWD2.out,e]) HB8.out HG8.out
    obtain ⟨s1,s2,s3,hall8,k1,k2⟩:=hstep
    rw [HKX.out] at k2
    have hih:=HIH.out (rmX (tkD (hdX lv x))) (by have:=HRM.out;omega) b _ _ (lv+1) rows cells w8 (q∨16<lv) s1 s2 (by have:=HLV.out;omega) (by have:=HLV.out;omega) (Nat.le_refl _)
    have q1:IntKind.i64.wrap (lv+1)=lv+1:=IntWalk.i64_in _ (by have:=HLV.out;omega)
    have S1:=Lib.hid s1
    have S3:=Lib.hid s3
    have HA8:=Lib.hid hall8
    have HK1:=Lib.hid k1
    have HK2:=Lib.hid k2
    have HI8:=Lib.hid hih
    clear s1 s2 s3 hall8 k1 k2 hih
    generalize (((ty',ay',ly',wy',u1'),(1,lny',sy',u2'),wd2,dpy',ally',u3'):ParserX)=y7 at*
    clear HB7 HBB7 HRB7 HG7 HOWN7 HPX7 HALL7 e4
    go_wp2_with fail
    refine HI8.out.mono ?_
    rintro e w9 hpost
    have hne1:rb+1≠b:=by have:=HBR.out;omega
    have hne0:rb≠b:=by have:=HBR.out;omega
    have hpl8: ∀ g,(pall (psD y7)).ownBlock=some g->g<rb:=fun g hg=>by rw [HA8.out] at hg;have:=(HROW.out.own.lt g hg).2;have:=HRB.out;omega
    have keep:FrP b (pall (psD y7)) w8 w9->Hid (Go.Proofs.YtkkoedniahnneaaDoor.Blk w9 (rb+1) 38 #[.slice Aw ws.length cw,.bool false,nilS,.int .i64 lny])/\Hid (Go.Proofs.YtkkoedniahnneaaDoor.Blk w9 rb 38 #[nilS,.bool false,nilS,.int .i64 0]):=fun hF=>
     ⟨Lib.hid ((hF.block (rb+1) HBB8.out.lt hne1 (fun e=>by have:=hpl8 _ e.symm;omega)).trans HBB8.out),Lib.hid ((hF.block rb HRB8.out.lt hne0 (fun e=>by have:=hpl8 _ e.symm;omega)).trans HRB8.out)⟩
    rcases hpost with ⟨sv,y9,rfl,herr,hSA,hDP,hrm9,hk3,hC,hF⟩|⟨sv,y9,ok9,rfl,herr,hQ9,hline,hkk,hF⟩
    ·obtain ⟨HBB9,HRB9⟩:=keep hF.fr
     have hrow9:=hSA.row.one_v
     have e4:=hSA.blk.cell 4
     simp only [pcs,List.getElem?_toArray,List.getElem?_cons_zero,List.getElem?_cons_succ] at e4
     have HC:=Lib.hid hC
     have hsv: ∃ A n c,sv= .slice A n c:=by
      simp only [C] at hC
      obtain ⟨A,c,rfl,_⟩:=hC
      exact ⟨_,_,_,rfl⟩
     clear hC
     obtain ⟨As,ns,cs,rfl⟩:=hsv
     have HSA:=Lib.hid hSA
     have HDP9:=Lib.hid hDP
     have HF:=Lib.hid hF
     have HERR:=Lib.hid herr
     have HRM9:=Lib.hid hrm9
     have HROW9:=Lib.hid hrow9
     clear keep hSA hDP hF herr hrm9 hk3 hrow9 hpl8 hne0 hne1 q1
     by_cases h125:(stX (lv+1) [] (tkD (hdX lv x))).2.2.1.1=125
     ·have hk9:y9.2.1.1=2:=by rw [HSA.out.tok.kind];unfold kindT;rw [h125];rfl
      rw [hk9] at e4
      have HPX9:=Lib.hid (px_of (HSA.out.tok.at_ (by rw [h125];decide) (by rw [h125];decide)) (okR_lx HSA.out.ok))
      have H125:=Lib.hid h125
      clear h125 hk9
      go_wp2_with fail
      refine (step_calls HSA.out.blk HPX9.out HROW9.out).mono ?_
      rintro e w10 ⟨rfl,hb10,hg10⟩
      have HBB10:=Lib.hid (HBB9.out.grown hg10 (fun e=>by have:=Option.some.inj e;have:=HBR.out;omega))
      have HRB10:=Lib.hid (HRB9.out.grown hg10 (fun e=>by have:=Option.some.inj e;have:=HBR.out;omega))
      have HB10:=Lib.hid hb10
      have HG10:=Lib.hid hg10
      have c0:=HBB10.out.cell 0
      have c1:=HBB10.out.cell 1
      have c2:=HBB10.out.cell 2
      have c3:=HBB10.out.cell 3
      have d0:=HRB10.out.cell 0
      have d1:=HRB10.out.cell 1
      have d2:=HRB10.out.cell 2
      have d3:=HRB10.out.cell 3
      have f0:=HRB10.out.frozen 0
      have f1:=HRB10.out.frozen 1
      have f2:=HRB10.out.frozen 2
      have f3:=HRB10.out.frozen 3
      have g1:=HBB10.out.frozen 1
      have g2:=HBB10.out.frozen 2
      simp only [List.getElem?_toArray,List.getElem?_cons_zero,List.getElem?_cons_succ] at c0 c1 c2 c3 d0 d1 d2 d3
      clear hb10 hg10 e4
      go_wp2_with fail
      have HBQ:=Lib.hid ((HB10.out.far (p:=⟨rb+1,1,none⟩) (by have:=HBR.out;show b≠rb+1;omega) (Value.bool true)).far (p:=⟨rb+1,2,none⟩) (by have:=HBR.out;show b≠rb+1;omega) (Value.slice As ns cs))
      have HRBQ:=Lib.hid ((HRB10.out.far (p:=⟨rb+1,1,none⟩) (by show rb≠rb+1;omega) (Value.bool true)).far (p:=⟨rb+1,2,none⟩) (by show rb≠rb+1;omega) (Value.slice As ns cs))
      clear c0 c1 c2 c3 d0 d1 d2 d3 f0 f1 f2 f3 g1 g2
      have HRBF:=Lib.hid ((((HRBQ.out.set_ 0 (Value.slice Aw ws.length cw)).set_ 1 (Value.bool true)).set_ 2 (Value.slice As ns cs)).set_ 3 (Value.int .i64 lny))
      have p0:=HRBF.out.cell 0
      have p1:=HRBF.out.cell 1
      have p2:=HRBF.out.cell 2
      have p3:=HRBF.out.cell 3
      simp only [List.setIfInBounds_toArray,List.set_cons_zero,List.set_cons_succ,List.getElem?_toArray,List.getElem?_cons_zero,List.getElem?_cons_succ] at p0 p1 p2 p3
      (try simp only [Exit.inBlock,Exit.then])
      refine bodyPost_ret (v:= .tuple #[.agg #[(Value.slice Aw ws.length cw),(Value.bool true),(Value.slice As ns cs),.int .i64 lny],.bool true]) ?_ rfl ?_
      ·simp only [results,show Tryd.func118.results= #[.cell 4 38,.tmp 5] from rfl]
       go_simp
      ·have hB:=((((HBQ.out.far (p:=⟨rb,0,none⟩) (by have:=HBR.out;show b≠rb;omega) (Value.slice Aw ws.length cw)).far (p:=⟨rb,1,none⟩) (by have:=HBR.out;show b≠rb;omega) (Value.bool true)).far (p:=⟨rb,2,none⟩) (by have:=HBR.out;show b≠rb;omega) (Value.slice As ns cs)).far (p:=⟨rb,3,none⟩) (by have:=HBR.out;show b≠rb;omega) (Value.int .i64 lny))
       have hR:=Lib.hid HRBF.out
       exact fin123 HS.out HK2.out HK1.out HBR.out HRB.out rfl S3.out HERR.out H125.out HSA.out HDP9.out HRM9.out HC.out HG8.out HBB8.out.lt HA8.out HF.out HOWN8.out hB (Kp.put4 (((Kp.grb HG10.out).set_ ⟨rb+1,1,none⟩ (Value.bool true) (.inr (.inr rfl))).set_ ⟨rb+1,2,none⟩ (Value.slice As ns cs) (.inr (.inr rfl))) _ _ _ _)
     ·have hk2:=beq_eq_false_iff_ne.2 (fun h=>h125 (kindT_2 (HSA.out.tok.kind.symm.trans h)))
      have H125:=Lib.hid h125
      have HBBQ:=HBB9
      have HRBQ:=HRB9
      have HBQ:=Lib.hid HSA.out.blk
      clear h125
      have c0:=HBBQ.out.cell 0
      have c1:=HBBQ.out.cell 1
      have c2:=HBBQ.out.cell 2
      have c3:=HBBQ.out.cell 3
      have d0:=HRBQ.out.cell 0
      have d1:=HRBQ.out.cell 1
      have d2:=HRBQ.out.cell 2
      have d3:=HRBQ.out.cell 3
      have f0:=HRBQ.out.frozen 0
      have f1:=HRBQ.out.frozen 1
      have f2:=HRBQ.out.frozen 2
      have f3:=HRBQ.out.frozen 3
      simp only [List.getElem?_toArray,List.getElem?_cons_zero,List.getElem?_cons_succ] at c0 c1 c2 c3 d0 d1 d2 d3
      go_wp2_with fail
      have HRBF:=Lib.hid ((((HRBQ.out.set_ 0 (Value.slice Aw ws.length cw)).set_ 1 (Value.bool false)).set_ 2 nilS).set_ 3 (Value.int .i64 lny))
      have p0:=HRBF.out.cell 0
      have p1:=HRBF.out.cell 1
      have p2:=HRBF.out.cell 2
      have p3:=HRBF.out.cell 3
      simp only [List.setIfInBounds_toArray,List.set_cons_zero,List.set_cons_succ,List.getElem?_toArray,List.getElem?_cons_zero,List.getElem?_cons_succ] at p0 p1 p2 p3
      (try simp only [Exit.inBlock,Exit.then])
      refine bodyPost_ret (v:= .tuple #[.agg #[(Value.slice Aw ws.length cw),(Value.bool false),nilS,.int .i64 lny],.bool false]) ?_ rfl ?_
      ·simp only [results,show Tryd.func118.results= #[.cell 4 38,.tmp 5] from rfl]
       go_simp
      ·have hB:=((((HBQ.out.far (p:=⟨rb,0,none⟩) (by have:=HBR.out;show b≠rb;omega) (Value.slice Aw ws.length cw)).far (p:=⟨rb,1,none⟩) (by have:=HBR.out;show b≠rb;omega) (Value.bool false)).far (p:=⟨rb,2,none⟩) (by have:=HBR.out;show b≠rb;omega) nilS).far (p:=⟨rb,3,none⟩) (by have:=HBR.out;show b≠rb;omega) (Value.int .i64 lny))
       have hR:=Lib.hid HRBF.out
       exact finno HS.out HK2.out HERR.out H125.out HSA.out HG8.out HA8.out HF.out HRB.out hB (Kp.put4 (Kp.refl b rb w9) _ _ _ _)
    ·obtain ⟨HBBQ,HRBQ⟩:=keep hF
     have HF:=Lib.hid hF
     have HERR:=Lib.hid herr
     have HLINE:=Lib.hid hline
     have HBQ:=Lib.hid hQ9
     clear keep hF herr hline hpl8 hne0 hne1 q1
     have hfin:Hid (∀ (wF:World) (A:Option Addr) (n c:Nat) (ln:Int),QB wF b y9->Kp b rb w9 wF->StmtPost b ((ty,ay,ly,wy,u1),(ky,lny,sy,u2),wdy,dpy,ally,u3) x lv rows cells w q (.returned (.tuple #[.agg #[.slice A n c,.bool false,nilS,.int .i64 ln],.bool false])) wF):=Lib.hid (fun wF A n c ln hB hK=>by
      refine .inr ⟨A,n,c,ln,(stX (lv+1) [] (tkD (hdX lv x))).2,y9, ?_,rfl,HERR.out,hB,HLINE.out, ?_⟩
      ·unfold st1
       rw [HK2.out,show ine (stX (lv+1) [] (tkD (hdX lv x))).2.2.2.1 0=true from bne_iff_ne.2 HERR.out]
       rfl
      ·have h1:=HF.out
       rw [HA8.out] at h1
       exact (Kp.frs (v':=pall _) ((FrS.grb HG8.out).trans ⟨h1,.inl rfl⟩) hK HRB.out).fr)
     have c0:=HBBQ.out.cell 0
     have c1:=HBBQ.out.cell 1
     have c2:=HBBQ.out.cell 2
     have c3:=HBBQ.out.cell 3
     have d0:=HRBQ.out.cell 0
     have d1:=HRBQ.out.cell 1
     have d2:=HRBQ.out.cell 2
     have d3:=HRBQ.out.cell 3
     have f0:=HRBQ.out.frozen 0
     have f1:=HRBQ.out.frozen 1
     have f2:=HRBQ.out.frozen 2
     have f3:=HRBQ.out.frozen 3
     simp only [List.getElem?_toArray,List.getElem?_cons_zero,List.getElem?_cons_succ] at c0 c1 c2 c3 d0 d1 d2 d3
     cases ok9 with
     |false=>
      clear hkk hQ9
      go_wp2_with fail
      have HRBF:=Lib.hid ((((HRBQ.out.set_ 0 (Value.slice Aw ws.length cw)).set_ 1 (Value.bool false)).set_ 2 nilS).set_ 3 (Value.int .i64 lny))
      have p0:=HRBF.out.cell 0
      have p1:=HRBF.out.cell 1
      have p2:=HRBF.out.cell 2
      have p3:=HRBF.out.cell 3
      simp only [List.setIfInBounds_toArray,List.set_cons_zero,List.set_cons_succ,List.getElem?_toArray,List.getElem?_cons_zero,List.getElem?_cons_succ] at p0 p1 p2 p3
      (try simp only [Exit.inBlock,Exit.then])
      refine bodyPost_ret (v:= .tuple #[.agg #[(Value.slice Aw ws.length cw),(Value.bool false),nilS,.int .i64 lny],.bool false]) ?_ rfl ?_
      ·simp only [results,show Tryd.func118.results= #[.cell 4 38,.tmp 5] from rfl]
       go_simp
      ·have hB:=((((HBQ.out.far (p:=⟨rb,0,none⟩) (by have:=HBR.out;show b≠rb;omega) (Value.slice Aw ws.length cw)).far (p:=⟨rb,1,none⟩) (by have:=HBR.out;show b≠rb;omega) (Value.bool false)).far (p:=⟨rb,2,none⟩) (by have:=HBR.out;show b≠rb;omega) nilS).far (p:=⟨rb,3,none⟩) (by have:=HBR.out;show b≠rb;omega) (Value.int .i64 lny))
       have hR:=Lib.hid HRBF.out
       exact hfin.out _ _ _ _ _ hB (Kp.put4 (Kp.refl b rb w9) _ _ _ _)
     |true=>
      have hk2:=beq_eq_false_iff_ne.2 (hkk rfl).1
      have e4:=hQ9.cell 4
      simp only [pcs,List.getElem?_toArray,List.getElem?_cons_zero,List.getElem?_cons_succ] at e4
      clear hkk hQ9
      go_wp2_with fail
      have HRBF:=Lib.hid ((((HRBQ.out.set_ 0 (Value.slice Aw ws.length cw)).set_ 1 (Value.bool false)).set_ 2 nilS).set_ 3 (Value.int .i64 lny))
      have p0:=HRBF.out.cell 0
      have p1:=HRBF.out.cell 1
      have p2:=HRBF.out.cell 2
      have p3:=HRBF.out.cell 3
      simp only [List.setIfInBounds_toArray,List.set_cons_zero,List.set_cons_succ,List.getElem?_toArray,List.getElem?_cons_zero,List.getElem?_cons_succ] at p0 p1 p2 p3
      (try simp only [Exit.inBlock,Exit.then])
      refine bodyPost_ret (v:= .tuple #[.agg #[(Value.slice Aw ws.length cw),(Value.bool false),nilS,.int .i64 lny],.bool false]) ?_ rfl ?_
      ·simp only [results,show Tryd.func118.results= #[.cell 4 38,.tmp 5] from rfl]
       go_simp
      ·have hB:=((((HBQ.out.far (p:=⟨rb,0,none⟩) (by have:=HBR.out;show b≠rb;omega) (Value.slice Aw ws.length cw)).far (p:=⟨rb,1,none⟩) (by have:=HBR.out;show b≠rb;omega) (Value.bool false)).far (p:=⟨rb,2,none⟩) (by have:=HBR.out;show b≠rb;omega) nilS).far (p:=⟨rb,3,none⟩) (by have:=HBR.out;show b≠rb;omega) (Value.int .i64 lny))
       have hR:=Lib.hid HRBF.out
       exact hfin.out _ _ _ _ _ hB (Kp.put4 (Kp.refl b rb w9) _ _ _ _)
   ·have HK0:=Lib.hid h59
    have HK1:=Lib.hid h123
    clear h59 h123
    replace hk0:=beq_eq_false_iff_ne.2 hk0
    replace hk1:=beq_eq_false_iff_ne.2 hk1
    replace hk3:=beq_eq_false_iff_ne.2 hk3
    replace hk4:=beq_eq_false_iff_ne.2 hk4
    go_wp2_with fail
    refine wp_region_held_drew (S:=fun w'=>w'.cell? ⟨rb+1,0,none⟩=some (.slice Aw ws.length cw)) (by kernel_rfl) zb (fun hS=> ?_)
    refine anyH_val 0 41 (.pointer (some ⟨b,0,none⟩)) (by assumption) rfl (by kernel_rfl) (by kernel_rfl) (by kernel_rfl) (fun o ho=>by cases ho;exact ⟨rfl,fun w hw=>by (try dsimp only at hw);go_simp⟩) (fun _ _ _ _ _ h=>h) ?_
    simp only [List.setIfInBounds_toArray,List.set_cons_zero,List.set_cons_succ]
    refine anyH_val 1 42 (.pointer (some ⟨b,0,none⟩)) (by assumption) rfl (by kernel_rfl) (by kernel_rfl) (by kernel_rfl) (fun o ho=>by cases ho;exact ⟨rfl,fun w hw=>by (try dsimp only at hw);go_simp⟩) (fun _ _ _ _ _ h=>h) ?_
    simp only [List.setIfInBounds_toArray,List.set_cons_zero,List.set_cons_succ]
    refine anyH_val 2 43 (.pointer (some ⟨b,0,none⟩)) (by assumption) rfl (by kernel_rfl) (by kernel_rfl) (by kernel_rfl) (fun o ho=>by cases ho;exact ⟨rfl,fun w hw=>by (try dsimp only at hw);go_simp⟩) (fun _ _ _ _ _ h=>h) ?_
    simp only [List.setIfInBounds_toArray,List.set_cons_zero,List.set_cons_succ]
    refine anyH_val 3 44 (.pointer (some ⟨b,7,none⟩)) (by assumption) rfl (by kernel_rfl) (by kernel_rfl) (by kernel_rfl) (fun o ho=>by cases ho;exact ⟨rfl,fun w hw=>by (try dsimp only at hw);go_simp⟩) (fun _ _ _ _ _ h=>h) ?_
    simp only [List.setIfInBounds_toArray,List.set_cons_zero,List.set_cons_succ]
    refine anyH_val 5 46 (.pointer (some ⟨rb+1,0,none⟩)) (by assumption) rfl (by kernel_rfl) (by kernel_rfl) (by kernel_rfl) (fun o ho=>by cases ho;exact ⟨rfl,fun w hw=>by (try dsimp only at hw);go_simp⟩) (fun _ _ _ _ _ h=>h) ?_
    simp only [List.setIfInBounds_toArray,List.set_cons_zero,List.set_cons_succ]
    refine anyH_val 6 47 (.slice Aw ws.length cw) (by assumption) rfl (by kernel_rfl) (by kernel_rfl) (by kernel_rfl) (fun o ho=>by cases ho;exact ⟨rfl,fun w hw=>by (try dsimp only at hw);go_simp⟩) (fun _ _ _ _ _ h=>h) ?_
    simp only [List.setIfInBounds_toArray,List.set_cons_zero,List.set_cons_succ]
    refine anyH_val 7 48 (.int .i64 ((ws.length:Nat):Int)) (by assumption) rfl (by kernel_rfl) (by kernel_rfl) (by kernel_rfl) (fun o ho=>by cases ho;exact ⟨rfl,fun w hw=>by (try dsimp only at hw);go_simp⟩) (fun _ _ _ _ _ h=>h) ?_
    simp only [List.setIfInBounds_toArray,List.set_cons_zero,List.set_cons_succ]
    refine wpAnyH_ready (rs:=[4]) (by kernel_rfl) (by simp) ?_
    refine AllReadyH.cons rfl (fun K hK=> ?_) AllReadyH.nil
    go_simp
    refine hK.out _ _ zb (fun hS=> ?_)
    clear hK K
    (try simp only [Act.put,List.setIfInBounds_toArray,List.set_cons_zero,List.set_cons_succ])
    refine anyH_val 8 49 (.int .i64 wd2) (by assumption) rfl (by kernel_rfl) (by kernel_rfl) (by kernel_rfl) (fun o ho=>by cases ho;exact ⟨rfl,fun w hw=>by rw [HWD2.out];simp [execOp,resolve,invoke,builtin,Act.eval,Builtin.max_,Builtin.max2]⟩) (fun _ _ _ _ _ h=>h) ?_
    simp only [List.setIfInBounds_toArray,List.set_cons_zero,List.set_cons_succ]
    refine anyH_val 9 50 (.pointer (some ⟨b,0,none⟩)) (by assumption) rfl (by kernel_rfl) (by kernel_rfl) (by kernel_rfl) (fun o ho=>by cases ho;exact ⟨rfl,fun w hw=>by (try dsimp only at hw);go_simp⟩) (fun _ _ _ _ _ h=>h) ?_
    simp only [List.setIfInBounds_toArray,List.set_cons_zero,List.set_cons_succ]
    refine anyH_val 10 51 (.pointer (some ⟨b,7,none⟩)) (by assumption) rfl (by kernel_rfl) (by kernel_rfl) (by kernel_rfl) (fun o ho=>by cases ho;exact ⟨rfl,fun w hw=>by (try dsimp only at hw);go_simp⟩) (fun _ _ _ _ _ h=>h) ?_
    simp only [List.setIfInBounds_toArray,List.set_cons_zero,List.set_cons_succ]
    refine wpAnyH_ready (rs:=[11]) (by kernel_rfl) (by simp) ?_
    refine AllReadyH.cons rfl (fun K hK=> ?_) AllReadyH.nil
    go_simp
    refine hK.out _ _ (by have:=(HI.out.bb.far (p:=⟨b,7,none⟩) (by have:=HBR.out;show rb+1≠b;omega) (Value.int .i64 wd2)).cell 0;simpa using this) (fun hS=> ?_)
    clear hK K
    (try simp only [Act.put,List.setIfInBounds_toArray,List.set_cons_zero,List.set_cons_succ])
    refine wpAnyH_done (by kernel_rfl) ?_ _
    clear hS
    have HB7:Hid (QB (wr.setCell ⟨b,7,none⟩ (.int .i64 wd2)) b (((ty',ay',ly',wy',u1'),(_,lny',sy',u2'),wd2,dpy',ally',u3'):ParserX)):=Lib.hid (HI.out.blk.set_ 7 (.int .i64 wd2) _ rfl)
    have HBB7:=Lib.hid (HI.out.bb.far (p:=⟨b,7,none⟩) (by have:=HBR.out;show rb+1≠b;omega) (Value.int .i64 wd2))
    have HRB7:=Lib.hid (HI.out.rbk.far (p:=⟨b,7,none⟩) (by have:=HBR.out;show rb≠b;omega) (Value.int .i64 wd2))
    have HG7:=Lib.hid (show w.grownBy (wr.setCell ⟨b,7,none⟩ (.int .i64 wd2)) (some b) from grown_set HI.out.fr 7 _)
    have HOWN7:=Lib.hid (ownsRow_setCell_below HI.out.own (show b<rb+2 by have:=HBR.out;omega) (Value.int .i64 wd2) (a:=⟨b,7,none⟩))
    have e4:=HB7.out.cell 4
    simp only [pcs,List.getElem?_toArray,List.getElem?_cons_zero,List.getElem?_cons_succ] at e4
    generalize wr.setCell ⟨b,7,none⟩ (.int .i64 wd2)=W7 at*
    have HBQ:=HB7
    have HBBQ:=HBB7
    have HRBQ:=HRB7
    have HGQ:=HG7
    clear HB7 HBB7 HRB7 HOWN7 HG7 z4 z6 zb fzb z7 fz7
    have c0:=HBBQ.out.cell 0
    have c1:=HBBQ.out.cell 1
    have c2:=HBBQ.out.cell 2
    have c3:=HBBQ.out.cell 3
    have d0:=HRBQ.out.cell 0
    have d1:=HRBQ.out.cell 1
    have d2:=HRBQ.out.cell 2
    have d3:=HRBQ.out.cell 3
    have f0:=HRBQ.out.frozen 0
    have f1:=HRBQ.out.frozen 1
    have f2:=HRBQ.out.frozen 2
    have f3:=HRBQ.out.frozen 3
    simp only [List.getElem?_toArray,List.getElem?_cons_zero,List.getElem?_cons_succ] at c0 c1 c2 c3 d0 d1 d2 d3
    go_wp2_with fail
    have HRBF:=Lib.hid ((((HRBQ.out.set_ 0 (Value.slice Aw ws.length cw)).set_ 1 (Value.bool false)).set_ 2 nilS).set_ 3 (Value.int .i64 lny))
    have p0:=HRBF.out.cell 0
    have p1:=HRBF.out.cell 1
    have p2:=HRBF.out.cell 2
    have p3:=HRBF.out.cell 3
    simp only [List.setIfInBounds_toArray,List.set_cons_zero,List.set_cons_succ,List.getElem?_toArray,List.getElem?_cons_zero,List.getElem?_cons_succ] at p0 p1 p2 p3
    (try simp only [Exit.inBlock,Exit.then])
    refine bodyPost_ret (v:= .tuple #[.agg #[(Value.slice Aw ws.length cw),(Value.bool false),nilS,.int .i64 lny],.bool false]) ?_ rfl ?_
    ·simp only [results,show Tryd.func118.results= #[.cell 4 38,.tmp 5] from rfl]
     go_simp
    ·have hB:=((((HBQ.out.far (p:=⟨rb,0,none⟩) (by have:=HBR.out;show b≠rb;omega) (Value.slice Aw ws.length cw)).far (p:=⟨rb,1,none⟩) (by have:=HBR.out;show b≠rb;omega) (Value.bool false)).far (p:=⟨rb,2,none⟩) (by have:=HBR.out;show b≠rb;omega) nilS).far (p:=⟨rb,3,none⟩) (by have:=HBR.out;show b≠rb;omega) (Value.int .i64 lny))
     have hR:=Lib.hid HRBF.out
     have hG:=grb_set (grb_set (grb_set (grb_set HGQ.out ⟨rb,0,none⟩ (Value.slice Aw ws.length cw) (Nat.le_of_eq HRB.out)) ⟨rb,1,none⟩ (Value.bool false) (Nat.le_of_eq HRB.out)) ⟨rb,2,none⟩ nilS (Nat.le_of_eq HRB.out)) ⟨rb,3,none⟩ (Value.int .i64 lny) (Nat.le_of_eq HRB.out)
     exact finbad (y7:=(((ty',ay',ly',wy',u1'),(ky',lny',sy',u2'),wd2,dpy',ally',u3'):ParserX)) HS.out HI.out HNW.out HK0.out HK1.out rfl hB.drew (grb_more hG (only_of_below (Below.refl _ _).drew none) (fun g e=>by cases e))
end
end Go.Proofs.YtkkoedniahnneaaDoor.K
namespace Go.Proofs.YtkkoedniahnneaaDoor.K
open Go.RowKit
attribute [local go_sem ↓] Go.wp_at_zero Go.wp_at_succ
noncomputable section
set_option linter.unusedSectionVars false
theorem elemBlk:ElemOk Tryd.prog 35 38 4 64:=ElemOk.of (.agg #[nilS,.bool false,nilS,.int .i64 0]) (by kernel_rfl) (by kernel_rfl) (by kernel_rfl) (by decide)
structure LJ (w:World) (b:Nat) (y:ParserX) (x:ParserXX) (lv:Int) (rows:List BlkT) (cells:List Value) (q:Prop) (g:Nat) (x':ParserXX) (y':ParserX) (acc:List BlkT) (ca:List Value) (wr:World):Prop where
 eq:stX lv [] x=stX lv acc x'
 sa:SA wr b y' x' (rows++acc) (cells++ca)
 cs:Cs (XN (pall y') (pall y) w.heap.size) wr nowhere (acc.flatMap tyBlkT.cells) ca
 dp:DP (q∨(acc≠[]/\16<lv)) x' y'
 fr:FrS b (pall y) w (pall y') wr
 ms:rmX x'<=g
 rm:rmX x'<=rmX x
theorem rows_len: ∀ l:List BlkT,(l.flatMap tyBlkT.cells).length=l.length*4
 | []=>rfl
 |k::l=>by
  rw [List.flatMap_cons,List.length_append,rows_len l,Ty.cells_len tyBlkT,List.length_cons]
  show 4+l.length*4=_
  omega
theorem ca_len {X:Nat->Nat->Prop}{w:World}{l:List BlkT}{ca:List Value}(h:Cs X w nowhere (l.flatMap tyBlkT.cells) ca):ca.length=l.length*4:=by
 rw [h.len,rows_len]
theorem own_succ {w:World}{base:Nat}{e:TypeId}{size n:Nat}{v:Value}{xs:List Value}(h:w.ownsRow base e size v (n+1) xs): ∃ g c,v= .slice (some ⟨g,0,none⟩) (n+1) c:=by
 rcases h.2 with ⟨_,h0⟩|⟨g,cap,cur,rfl,_⟩
 ·omega
 ·exact ⟨g,cap,rfl⟩
theorem own_pos {w:World}{base:Nat}{e:TypeId}{size n:Nat}{v:Value}{xs:List Value}(h:w.ownsRow base e size v n xs)(hn:0<n): ∃ g c,v= .slice (some ⟨g,0,none⟩) n c:=by
 rcases h.2 with ⟨_,h0⟩|⟨g,cap,cur,rfl,_⟩
 ·omega
 ·exact ⟨g,cap,rfl⟩
theorem FrS.extN {b n:Nat}{v v' v0:Value}{w w':World}(h:FrS b v w v' w')(hb:b<n)(h0:v0.ownBlock≠some b)(hn:n<=w.heap.size):Ext0 (XN v v0 n) w (XN v' v0 n) w':=by
 refine ⟨h.fr.size,fun g o hg hx=>⟨fun hx'=> ?_, ?_⟩⟩
 ·rcases hx' with e|e
  ·exact hx (.inl e)
  ·rcases h.own with q|⟨g',q,q2⟩
   ·exact hx (.inr (q▸e))
   ·rw [q] at e
    have:=Option.some.inj e
    omega
 ·exact World.cell?_of_block (h.fr.block g hg (fun e=>hx (.inl (by rw [e];exact ⟨hb,h0⟩))) (fun e=>hx (.inr e.symm)))
theorem FrS.setg {b:Nat}{v v':Value}{w w':World}(h:FrS b v w v' w')(p:Addr)(u:Value)(hp:p.block=b∨v'.ownBlock=some p.block):FrS b v w v' (w'.setCell p u):=by
 refine ⟨⟨h.fr.os,h.fr.tape,h.fr.output,by simpa [World.setCell] using h.fr.size,fun j hj h1 h2=>(Below.heap_setCell _ _ _ _ (fun e=> ?_)).trans (h.fr.block j hj h1 h2)⟩,h.own⟩
 rcases hp with q|q
 ·omega
 ·rcases h.own with r|⟨g',r,r2⟩
  ·rw [r] at q
   exact h2 (by rw [e,q])
  ·rw [r] at q
   have:=Option.some.inj q
   omega
theorem FrS.app {b:Nat}{v v':Value}{w w1 w':World}(h:FrS b v w v w1)(k:w1.grownBy w' v.ownBlock)(ho:v'.ownBlock=v.ownBlock∨v'.ownBlock=some w1.heap.size):FrS b v w v' w':=
 ⟨⟨k.os.trans h.fr.os,k.tape.trans h.fr.tape,k.output.trans h.fr.output,Nat.le_trans h.fr.size k.size,fun j hj h1 h2=>(k.block j (Nat.lt_of_lt_of_le hj h.fr.size) h2).trans (h.fr.block j hj h1 h2)⟩,ho.imp id (fun e=>⟨_,e,h.fr.size⟩)⟩
theorem set4_app: ∀ (xs:List Value) (a b c d p q r s:Value),(((((xs++[a,b,c,d]).set xs.length p).set (xs.length+1) q).set (xs.length+2) r).set (xs.length+3) s)=xs++[p,q,r,s]
 | [],a,b,c,d,p,q,r,s=>rfl
 |x::xs,a,b,c,d,p,q,r,s=>by
  have:=set4_app xs a b c d p q r s
  simp only [List.cons_append,List.length_cons]
  rw [show xs.length+1+1=(xs.length+1)+1 from rfl,show xs.length+1+2=(xs.length+2)+1 by omega,show xs.length+1+3=(xs.length+3)+1 by omega]
  simp only [List.set_cons_succ,this]
theorem own_put4 {w:World}{B g n cap k:Nat}{e:TypeId}{xs:List Value}{a b c d:Value}(h:w.ownsRow B e 4 (.slice (some ⟨g,0,none⟩) n cap) n (xs++[a,b,c,d]))(hk:k=xs.length)(p q r s:Value):
  ((((w.setCell ⟨g,k,none⟩ p).setCell ⟨g,k+1,none⟩ q).setCell ⟨g,k+2,none⟩ r).setCell ⟨g,k+3,none⟩ s).ownsRow B e 4 (.slice (some ⟨g,0,none⟩) n cap) n (xs++[p,q,r,s]):=by
 subst hk
 rw [←set4_app xs a b c d p q r s]
 exact ((((((h.stored _ p).1).stored _ q).1.stored _ r).1).stored _ s).1
theorem lj_next {w:World}{b:Nat}{y:ParserX}{x:ParserXX}{lv:Int}{rows:List BlkT}{cells:List Value}{q:Prop}{g:Nat}{x':ParserXX}{y':ParserX}{acc:List BlkT}{ca:List Value}{wr w1 wF:World}{k:BlkT}{z:ParserXX}{y1 y2:ParserX}{vs:List Value}{v':Value}
  (HJ:LJ w b y x lv rows cells q g x' y' acc ca wr) (hb:b<w.heap.size) (h0:(pall y).ownBlock≠some b) (h1:x'.2.1.1=119) (h2:x'.2.1.2.2.1=true) (hst:st1 lv x'= .inl (k,z)) (hsa:SA w1 b y1 z (rows++acc) (cells++ca)) (hdp:DP ((q∨(acc≠[]/\16<lv))∨16<lv) z y1) (hrm:rmX z+1<=rmX x')
  (hcs:Cs (XN (pall y1) (pall y') wr.heap.size) w1 nowhere (tyBlkT.cells k) vs) (hfr:FrS b (pall y') wr (pall y1) w1) (hF:FrS b (pall y1) w1 v' wF) (hy:y2=(y1.1,(y1.2.1,(y1.2.2.1,(y1.2.2.2.1,(v',())))))) (hQ:QB wF b y2)
  (hown:wF.ownsRow (b+1) 38 4 v' ((rows++acc).length+1) ((cells++ca)++vs)):
  LJ w b y x lv rows cells q (rmX z) z y2 (acc++[k]) (ca++vs) wF:=by
 have hsz:=HJ.fr.fr.size
 have hpl: ∀ g,(pall y').ownBlock=some g->b+1<=g:=fun g e=>(HJ.sa.row.own.lt g e).1
 have hall:pall y2=v':=by rw [hy]
 have e1:(rows++(acc++[k])).length=(rows++acc).length+1:=by rw [←List.append_assoc,List.length_append,List.length_singleton]
 have hk1:([k]:List BlkT).flatMap tyBlkT.cells=tyBlkT.cells k:=by rw [List.flatMap_cons,List.flatMap_nil,List.append_nil]
 refine ⟨?_,⟨hQ, ?_,hsa.ok,hsa.ln,hsa.err,⟨?_, ?_⟩,hsa.sz, ?_⟩, ?_, ?_, ?_,Nat.le_refl _, ?_⟩
 ·rw [HJ.eq,st1_eq HJ.sa.ok HJ.sa.err h1 h2 lv acc,hst]
 ·rw [hy]
  exact ⟨hsa.tok.kind,hsa.tok.line,hsa.tok.text,hsa.tok.body,hsa.tok.at_,hsa.tok.end_,hsa.tok.k6⟩
 ·rw [hall,e1, ← List.append_assoc]
  exact hown
 ·rw [hall, ← List.append_assoc, ← List.append_assoc,List.flatMap_append,hk1]
  refine Cs.app (Cs.ext0 hF.ext _ _ (by rw [rows_refs];simp) hsa.row.cs) (Cs.ext0 hF.ext _ _ (by rw [Ty.refs_cells];simp) (Cs.less hcs (fun g q hx=>hx.imp (fun h=>⟨by omega,fun e=>by have:=hpl g e;omega⟩) id) (Ty.refs_cells _ _)))
 ·rw [e1]
  have:=HJ.sa.len
  omega
 ·rw [hall,List.flatMap_append,hk1]
  refine Cs.app (Cs.ext0 ((hfr.trans hF).extN hb h0 hsz) _ _ (by rw [rows_refs];simp) HJ.cs) (Cs.ext0 (hF.extN hb h0 (Nat.le_trans hsz hfr.fr.size)) _ _ (by rw [Ty.refs_cells];simp) (Cs.less hcs (fun g q hx=>hx.imp (fun h=>⟨Nat.lt_of_lt_of_le h.1 hsz,fun e=>by rcases HJ.fr.own with q|⟨g',q,q2⟩;exact h.2 (q▸e);rw [q] at e;have:=Option.some.inj e;omega⟩) id) (Ty.refs_cells _ _)))
 ·unfold DP at hdp ⊢
  rw [hdp,hy]
  constructor
  ·rintro (h|h|(h|h)|h)
   ·exact .inl h
   ·exact .inr (.inl h)
   ·exact .inr (.inr (.inl h))
   ·exact .inr (.inr (.inr ⟨by simp,h.2⟩))
   ·exact .inr (.inr (.inr ⟨by simp,h⟩))
  ·rintro (h|h|h|h)
   ·exact .inl h
   ·exact .inr (.inl h)
   ·exact .inr (.inr (.inl (.inl h)))
   ·exact .inr (.inr (.inr h.2))
 ·rw [hall]
  exact (HJ.fr.trans hfr).trans hF
 ·have:=HJ.rm
  omega
theorem kindT_6 {x:ParserXX}{y:ParserX}(ht:PTok x y)(h0:x.2.1.1≠0):y.2.1.1≠6:=fun h=>h0 (ht.k6 h)
theorem stx_end {x:ParserXX}{y:ParserX}(hx:okR x=true)(he:x.2.2.1=0)(ht:PTok x y)(hk:y.2.1.1≠3)(lv:Int)(acc:List BlkT):
  stX lv acc x=(acc,x)∨(stX lv acc x=(acc,flD x)/\x.2.1.1≠0/\x.2.1.1≠125):=by
 rw [stX_eq hx,he]
 by_cases h0:x.2.1.1=0
 ·rw [h0]
  exact .inl rfl
 ·by_cases h125:x.2.1.1=125
  ·rw [h125]
   exact .inl rfl
  ·refine .inr ⟨?_,h0,h125⟩
   rw [show ine x.2.1.1 0=true from bne_iff_ne.2 h0,show ine x.2.1.1 125=true from bne_iff_ne.2 h125]
   have:(ine x.2.1.1 119|| !x.2.1.2.2.1)=true:=by
    by_cases h119:x.2.1.1=119
    ·cases hp:x.2.1.2.2.1 with
     |false=>simp
     |true=>
      refine absurd ?_ hk
      rw [ht.kind]
      unfold kindT
      rw [h119,hp]
      rfl
    ·rw [show ine x.2.1.1 119=true from bne_iff_ne.2 h119]
     rfl
   rw [this]
   rfl
theorem Sl.pre {w:World}{A:Option Addr}{n c size:Nat}{xs:List Value}(h:Sl w (.slice A n c) size n xs)(k:Nat)(hk:k<=n):Sl w (.slice A k c) size k (xs.take (k*size)):=by
 obtain ⟨h1,A',c',hv,h2,h3,h4⟩:=h
 injection hv with e1 _ e2
 subst e1 e2
 have hm:k*size<=n*size:=Nat.mul_le_mul_right _ hk
 refine ⟨by rw [List.length_take,h1,Nat.min_eq_left hm],_,_,rfl,by omega,h3,fun hp=> ?_⟩
 obtain ⟨b,off,e,hb,hc⟩:=h4 (by omega)
 refine ⟨b,off,e,hb,fun j u hu=>hc j u ?_⟩
 have hj:j<k*size:=by
  have:=(List.getElem?_eq_some_iff.1 hu).1
  simp at this
  omega
 rwa [List.getElem?_take_of_lt hj] at hu
theorem FrS.new_ {b:Nat}{v v1 v':Value}{w w1 w':World}{r:Option Nat}(h:FrS b v w v1 w1)(k:w1.grownBy w' r)(hr: ∀ g,r=some g->w.heap.size<=g)(ho: ∃ g,v'.ownBlock=some g/\w.heap.size<=g):FrS b v w v' w':=
 ⟨⟨k.os.trans h.fr.os,k.tape.trans h.fr.tape,k.output.trans h.fr.output,Nat.le_trans h.fr.size k.size,fun j hj h1 h2=>(k.block j (Nat.lt_of_lt_of_le hj h.fr.size) (fun e=>by have:=hr j e.symm;omega)).trans (h.fr.block j hj h1 h2)⟩,.inr ho⟩
theorem dp_nil {q:Prop}{x:ParserXX}{y y3:ParserX}{lv:Int}(h:DP (q∨(([]:List BlkT)≠[]/\16<lv)) x y)(h1:y3.2.2.1=y.2.2.1)(h2:y3.2.2.2.1=y.2.2.2.1):DP q x y3:=by
 unfold DP at h ⊢
 rw [h,h1,h2]
 simp
theorem dp_max {q:Prop}{x:ParserXX}{y y3:ParserX}{lv:Int}{acc:List BlkT}(ha:acc≠[])(h:DP (q∨(acc≠[]/\16<lv)) x y)(h1:y3.2.2.1=y.2.2.1)(h2:y3.2.2.2.1=max y.2.2.2.1 lv):DP q x y3:=by
 unfold DP at h ⊢
 rw [h,h1,h2]
 simp only [ne_eq,ha,not_false_eq_true,true_and]
 constructor
 ·rintro (h|h|h|h)
  ·exact .inl (by omega)
  ·exact .inr (.inl h)
  ·exact .inr (.inr h)
  ·exact .inl (by omega)
 ·rintro (h|h|h)
  ·by_cases h2:16<lv
   ·exact .inr (.inr (.inr h2))
   ·exact .inl (by omega)
  ·exact .inr (.inl h)
  ·exact .inr (.inr (.inl h))
theorem fin_stmts {w:World}{b:Nat}{y:ParserX}{x:ParserXX}{lv:Int}{rows:List BlkT}{cells:List Value}{q:Prop}{g:Nat}{x':ParserXX}{y' y3:ParserX}{acc:List BlkT}{ca:List Value}{wr wF:World}{v' sv:Value}{dep:Int}
  (HS:SA w b y x rows cells) (HJ:LJ w b y x lv rows cells q g x' y' acc ca wr) (hk:y'.2.1.1≠3) (hy:y3=(y'.1,(y'.2.1,(y'.2.2.1,(dep,(v',())))))) (hd:DP q x' y3) (hQ:QB wF b y3)
  (hown:wF.ownsRow (b+1) 38 4 v' rows.length cells) (hF:FrS b (pall y) w v' wF) (hC:C (XN v' (pall y) w.heap.size) wF nowhere (.sl acc.length (acc.flatMap tyBlkT.cells)) sv):
  StmtsPost b y x lv rows cells w q (.returned (.tuple #[sv,.bool true])) wF:=by
 have hall:pall y3=v':=by rw [hy]
 have ht:PTok x' y3:=by
  rw [hy]
  exact ⟨HJ.sa.tok.kind,HJ.sa.tok.line,HJ.sa.tok.text,HJ.sa.tok.body,HJ.sa.tok.at_,HJ.sa.tok.end_,HJ.sa.tok.k6⟩
 have hk3:y3.2.1.1≠3:=by rw [hy];exact hk
 rcases stx_end HJ.sa.ok HJ.sa.err HJ.sa.tok hk lv acc with h|⟨h,h0,h125⟩
 ·have e:stX lv [] x=(acc,x'):=HJ.eq.trans h
  refine .inl ⟨sv,y3,rfl, ?_, ?_, ?_, ?_,hk3, ?_, ?_⟩
  ·rw [e]
   exact HJ.sa.err
  ·rw [e]
   refine ⟨hQ,ht,HJ.sa.ok,HJ.sa.ln,HJ.sa.err, ?_,HJ.sa.sz, ?_⟩
   ·rw [hall]
    exact ⟨hown,Cs.ext0 hF.ext _ _ (by rw [rows_refs];simp) HS.row.cs⟩
   ·have:=HJ.sa.len
    have h2:(rows++acc).length=rows.length+acc.length:=List.length_append
    show rows.length+rmX x'<=20000
    omega
  ·rw [e]
   exact hd
  ·rw [e]
   exact HJ.rm
  ·rw [e,hall]
   exact hC
  ·rw [hall]
   exact hF
 ·have e:stX lv [] x=(acc,flD x'):=HJ.eq.trans h
  refine .inr ⟨sv,y3,true,rfl, ?_,hQ, ?_,fun _=>⟨fun h2=> ?_,kindT_6 ht h0⟩,hF.fr⟩
  ·rw [e]
   exact bne_iff_ne.1 (fl_err HJ.sa.ok)
  ·rw [e]
   exact fl_line ht HJ.sa.err
  ·exact h125 (kindT_2 (ht.kind.symm.trans h2))
theorem win_c {w:World}{b:Nat}{y:ParserX}{x:ParserXX}{lv:Int}{rows:List BlkT}{cells:List Value}{q:Prop}{g:Nat}{x':ParserXX}{y':ParserX}{acc:List BlkT}{ca:List Value}{wr wF:World}{v':Value}{gb N c1:Nat}
  (HS:SA w b y x rows cells) (HJ:LJ w b y x lv rows cells q g x' y' acc ca wr) (hall:pall y'= .slice (some ⟨gb,0,none⟩) N c1) (hN:N=(rows++acc).length)
  (hF:FrS b (pall y') wr v' wF) (hnew: ∃ g,v'.ownBlock=some g/\wr.heap.size<=g) (hsame:wF.heap[gb]? = wr.heap[gb]?):
  C (XN v' (pall y) w.heap.size) wF nowhere (.sl acc.length (acc.flatMap tyBlkT.cells)) (.slice (some ⟨gb,rows.length*4,none⟩) (N-rows.length) (N-rows.length)):=by
 have hown:=HJ.sa.row.own
 rw [hall, ← hN] at hown
 have hgl:=hown.lt gb rfl
 have hcl:cells.length=rows.length*4:=HS.row.own.1
 have hca:ca.length=acc.length*4:=ca_len HJ.cs
 have hNl:N=rows.length+acc.length:=by rw [hN,List.length_append]
 have hsz:=HJ.fr.fr.size
 have h0:(pall y).ownBlock≠some b:=fun e=>by have:=(HS.row.own.lt b e).1;omega
 have hm:N<=maxLen:=by
  obtain ⟨_,A,c,e,h2,h3,_⟩:=Sl.of_own hown
  injection e with _ e2 e3
  omega
 simp only [C]
 refine ⟨_,N-rows.length,by rw [show N-rows.length=acc.length by omega],by omega,by omega,fun h=> ?_,fun h=> ?_⟩
 ·rw [List.eq_nil_of_length_eq_zero h]
  rfl
 ·refine ⟨gb,rows.length*4,ca,rfl,Cs.ext0 (hF.extN HS.blk.lt h0 hsz) _ _ (by rw [rows_refs];simp) HJ.cs,Nat.lt_of_lt_of_le hgl.2 hF.fr.size,fun j _ hx=> ?_,fun j u hu=> ?_,Cs.cell1 HJ.cs ?_⟩
  ·rcases hx with ⟨e1,e2⟩|e
   ·rcases HJ.fr.own with q|⟨g',q,q2⟩
    ·rw [hall] at q
     exact e2 q.symm
    ·rw [hall] at q
     have h7:gb=g':=Option.some.inj q
     omega
   ·obtain ⟨g',q,q2⟩:=hnew
    rw [q] at e
    have h7:g'=gb:=Option.some.inj e
    omega
  ·have hj:j<ca.length:=(List.getElem?_eq_some_iff.1 hu).1
   have h1:wr.cell? ⟨gb,rows.length*4+j,none⟩=some u:=by
    rw [hown.cellAt (rows.length*4+j) (show rows.length*4+j<N*4 by omega), ← hcl,List.getElem?_append_right (by omega),Nat.add_sub_cancel_left]
    exact hu
   exact (World.cell?_of_block hsame).trans h1
  ·rw [List.all_flatMap]
   exact List.all_eq_true.2 fun k _=>Ty.cells_cell1 tyBlkT k
theorem kindT_3 {t:TokenX}(h:kindT t=3):t.1=119/\t.2.2.1=true:=by
 unfold kindT at h
 by_cases h1:t.1=119
 ·refine ⟨h1, ?_⟩
  rw [h1] at h
  cases hp:t.2.2.1 with
  |true=>rfl
  |false=>rw [hp] at h;exact absurd h (by decide)
 ·rw [ne_ieq h1] at h
  revert h
  cases t.2.2.1<;>cases ieq t.1 59<;>cases ieq t.1 123<;>cases ieq t.1 125<;>cases ieq t.1 63<;>exact fun h=>absurd h (by decide)
theorem vs_form {X:Nat->Nat->Prop}{w:World}{k:BlkT}{vs:Array Value}(h:Cs X w nowhere (tyBlkT.cells k) vs.toList): ∃ A n c o A2 n2 c2 ln,vs= #[.slice A n c,.bool o,.slice A2 n2 c2,.int .i64 ln]:=by
 have h:Cs X w nowhere [.sl k.1.length (k.1.flatMap (Ty.cells .str)),.v (.bool k.2.1),.sl k.2.2.1.length (Blk.dss k.2.2.1),.v (.int .i64 k.2.2.2.1)] vs.toList:=h
 simp only [Cs,C] at h
 obtain ⟨u1,r1,e1,⟨A,c,rfl,_⟩,u2,r2,rfl,⟨rfl,_⟩,u3,r3,rfl,⟨A2,c2,rfl,_⟩,u4,r4,rfl,⟨rfl,_⟩,rfl⟩:=h
 exact ⟨A,_,c,_,A2,_,c2,_,Array.toList_inj.1 e1⟩
set_option maxHeartbeats 4000000 in
theorem stmts_any (m:Nat)(IH:StmtOK m):StmtsOK m:=by
 intro b y x lv rows cells w q hs hdp hlv hlvm hrm
 have HS:=Lib.hid hs
 have HDP:=Lib.hid hdp
 have HIH:=Lib.hid IH
 have HRM:=Lib.hid hrm
 have HLV:=Lib.hid (And.intro hlv hlvm)
 obtain ⟨A0,c0,hall⟩:=own_slice hs.row.own
 have z9:=hs.blk.cell 9
 simp only [pcs,List.getElem?_toArray,List.getElem?_cons_zero,List.getElem?_cons_succ] at z9
 rw [show y.2.2.2.2.1= .slice A0 rows.length c0 from hall] at z9
 have HALL:=Lib.hid hall
 clear hs hdp hrm hlv hlvm IH hall
 go_enter Tryd.func80,Tryd.ntmps80
 go_wp2_with fail
 have HLJ:Hid (LJ w b y x lv rows cells q (rmX x) x y [] [] w):=Lib.hid ⟨rfl,by rw [List.append_nil,List.append_nil];exact HS.out,by simp [Cs],by
   have:=HDP.out
   unfold DP at this ⊢
   simpa using this,FrS.refl _ _ _,Nat.le_refl _,Nat.le_refl _⟩
 go_loopg [16] (rmX x) (fun g _ wr=> ∃ x' y' acc ca,Hid (LJ w b y x lv rows cells q g x' y' acc ca wr))
 case atStart=>exact ⟨_,_,_,_,HLJ⟩
 case round=>
  obtain ⟨x',y',acc,ca,HJ⟩:=hrel
  clear HLJ
  have z4:=HJ.out.sa.blk.cell 4
  simp only [pcs,List.getElem?_toArray,List.getElem?_cons_zero,List.getElem?_cons_succ] at z4
  by_cases hk:y'.2.1.1=3
  ·rw [hk] at z4
   have hkt:=kindT_3 (HJ.out.sa.tok.kind.symm.trans hk)
   have HK3:=Lib.hid hk
   clear hk
   go_wp2_with fail
   refine (HIH.out b y' x' lv (rows++acc) (cells++ca) wr (q∨(acc≠[]/\16<lv)) HJ.out.sa hkt.1 hkt.2 HJ.out.dp HLV.out.1 (by have:=HLV.out.2;have:=HJ.out.rm;omega) (by have:=HRM.out;have:=HJ.out.rm;omega)).mono ?_
   rintro e w1 hpost
   clear z4
   have HKT:=Lib.hid hkt
   clear hkt
   rcases hpost with ⟨k,z,vs,y1,hst,rfl,hsa1,hdp1,hrm1,hcs1,hfr1⟩|⟨A,n,c,ln,z,y1,hst,rfl,herr,hQ1,hline,hfr1⟩
   ·obtain ⟨Aw,nw,cw,ob,Ai,ni,ci,ln,hvs⟩:=vs_form hcs1
    subst hvs
    have HST:=Lib.hid hst
    have HSA1:=Lib.hid hsa1
    have HDP1:=Lib.hid hdp1
    have HRM1:=Lib.hid hrm1
    have HCS1:=Lib.hid hcs1
    have HFR1:=Lib.hid hfr1
    clear hst hsa1 hdp1 hrm1 hcs1 hfr1
    go_wp2_with fail
    obtain ⟨A1,c1,hall1⟩:=own_slice HSA1.out.row.own
    obtain ⟨N,hN⟩: ∃ N,N=(rows++acc).length:=⟨_,rfl⟩
    rw [←hN] at hall1
    obtain ⟨bb,hbb⟩: ∃ bb,bb=w1.heap.size:=⟨_,rfl⟩
    obtain ⟨w2,hw2⟩: ∃ w2,w2=w1.alloc (Obj.cells #[Value.slice Aw nw cw,Value.bool ob,Value.slice Ai ni ci,Value.int .i64 ln] 38):=⟨_,rfl⟩
    have HB2:Hid (QB w2 b y1):=Lib.hid (by rw [hw2];exact HSA1.out.blk.alloc _)
    have HBK2:Hid (Go.Proofs.YtkkoedniahnneaaDoor.Blk w2 bb 38 #[Value.slice Aw nw cw,Value.bool ob,Value.slice Ai ni ci,Value.int .i64 ln]):=Lib.hid (by rw [hw2,hbb];exact Go.Proofs.YtkkoedniahnneaaDoor.Blk.new w1 _ _)
    have HFS2:Hid (FrS b (pall y') wr (pall y1) w2):=Lib.hid (HFR1.out.trans (FrS.bel (by rw [hw2];exact (Below.refl _ _).alloc (Nat.le_refl _) _)))
    have HROW2:Hid (w2.ownsRow (b+1) 38 4 (.slice A1 N c1) N (cells++ca)):=Lib.hid (by rw [hw2, ← hall1,hN];exact HSA1.out.row.own.alloc _)
    have HF12:Hid (Below w1.heap.size w1 w2):=Lib.hid (by rw [hw2];exact (Below.refl _ _).alloc (Nat.le_refl _) _)
    have HBB:=Lib.hid hbb
    have HNN:=Lib.hid hN
    have HA1:Hid (pall y1= .slice A1 N c1):=Lib.hid hall1
    rw [←hw2, ← hbb]
    clear hw2 hbb hN hall1
    have z9:=HB2.out.cell 9
    have b0:=HBK2.out.cell 0
    have b1:=HBK2.out.cell 1
    have b2:=HBK2.out.cell 2
    have b3:=HBK2.out.cell 3
    simp only [pcs,List.getElem?_toArray,List.getElem?_cons_zero,List.getElem?_cons_succ] at z9 b0 b1 b2 b3
    rw [show y1.2.2.2.2.1= .slice A1 N c1 from HA1.out] at z9
    have ha:=HBK2.out.alloc (.cells #[nilS,.bool false,nilS,.int .i64 0] 38)
    have a0:=ha.cell 0
    have a1:=ha.cell 1
    have a2:=ha.cell 2
    have a3:=ha.cell 3
    have hz:=(HB2.out.alloc (.cells #[nilS,.bool false,nilS,.int .i64 0] 38)).cell 9
    simp only [pcs,List.getElem?_toArray,List.getElem?_cons_zero,List.getElem?_cons_succ] at a0 a1 a2 a3 hz
    rw [show y1.2.2.2.2.1= .slice A1 N c1 from HA1.out] at hz
    have HAL:=Lib.hid (And.intro a0 (And.intro a1 (And.intro a2 a3)))
    clear ha a0 a1 a2 a3
    refine wp_region_held_drew (S:=fun w'=>w'.cell? ⟨bb,0,none⟩=some (.slice Aw nw cw)/\w'.cell? ⟨bb,1,none⟩=some (.bool ob)/\w'.cell? ⟨bb,2,none⟩=some (.slice Ai ni ci)/\w'.cell? ⟨bb,3,none⟩=some (.int .i64 ln)) (by kernel_rfl) ⟨b0,b1,b2,b3⟩ (fun hS=> ?_)
    refine anyH_val 0 30 (.pointer (some ⟨b,0,none⟩)) (by assumption) rfl (by kernel_rfl) (by kernel_rfl) (by kernel_rfl) (fun o ho=>by cases ho;exact ⟨rfl,fun w hw=>by (try dsimp only at hw);(try obtain ⟨hw0,hw1,hw2,hw3⟩:=hw);go_simp⟩) (fun _ _ _ _ _ h=>h) ?_
    simp only [List.setIfInBounds_toArray,List.set_cons_zero,List.set_cons_succ]
    refine anyH_val 1 31 (.pointer (some ⟨b,0,none⟩)) (by assumption) rfl (by kernel_rfl) (by kernel_rfl) (by kernel_rfl) (fun o ho=>by cases ho;exact ⟨rfl,fun w hw=>by (try dsimp only at hw);(try obtain ⟨hw0,hw1,hw2,hw3⟩:=hw);go_simp⟩) (fun _ _ _ _ _ h=>h) ?_
    simp only [List.setIfInBounds_toArray,List.set_cons_zero,List.set_cons_succ]
    refine anyH_val 2 32 (.pointer (some ⟨b,9,none⟩)) (by assumption) rfl (by kernel_rfl) (by kernel_rfl) (by kernel_rfl) (fun o ho=>by cases ho;exact ⟨rfl,fun w hw=>by (try dsimp only at hw);(try obtain ⟨hw0,hw1,hw2,hw3⟩:=hw);go_simp⟩) (fun _ _ _ _ _ h=>h) ?_
    simp only [List.setIfInBounds_toArray,List.set_cons_zero,List.set_cons_succ]
    refine anyH_val 4 34 (.agg #[.slice Aw nw cw,.bool ob,.slice Ai ni ci,.int .i64 ln]) (by assumption) rfl (by kernel_rfl) (by kernel_rfl) (by kernel_rfl) (fun o ho=>by cases ho;exact ⟨rfl,fun w hw=>by (try dsimp only at hw);(try obtain ⟨hw0,hw1,hw2,hw3⟩:=hw);go_simp⟩) (fun _ _ _ _ _ h=>h) ?_
    simp only [List.setIfInBounds_toArray,List.set_cons_zero,List.set_cons_succ]
    refine wpAnyH_ready (rs:=[3,6]) (by kernel_rfl) (by simp) ?_
    refine AllReadyH.cons rfl (fun K hK=> ?_) (AllReadyH.cons rfl (fun K hK=> ?_) AllReadyH.nil)
    ·skip
     go_simp
     refine hK.out _ _ ⟨b0,b1,b2,b3⟩ (fun hS=> ?_)
     clear hK K
     (try simp only [Act.put,List.setIfInBounds_toArray,List.set_cons_zero,List.set_cons_succ])
     refine anyH_val 5 35 (.int .i64 ((N:Nat):Int)) (by assumption) rfl (by kernel_rfl) (by kernel_rfl) (by kernel_rfl) (fun o ho=>by cases ho;exact ⟨rfl,fun w hw=>by (try dsimp only at hw);(try obtain ⟨hw0,hw1,hw2,hw3⟩:=hw);go_simp⟩) (fun _ _ _ _ _ h=>h) ?_
     simp only [List.setIfInBounds_toArray,List.set_cons_zero,List.set_cons_succ]
     refine wpAnyH_ready (rs:=[6]) (by kernel_rfl) (by simp) ?_
     refine AllReadyH.cons rfl (fun K hK=> ?_) AllReadyH.nil
     go_simp
     refine hK.out _ _ HAL.out (fun hS=> ?_)
     clear hK K
     (try simp only [Act.put,List.setIfInBounds_toArray,List.set_cons_zero,List.set_cons_succ])
     refine wpAnyH_ready (rs:=[7]) (by kernel_rfl) (by simp) ?_
     refine AllReadyH.cons rfl (fun K hK=> ?_) AllReadyH.nil
     clear b0 b1 b2 b3
     refine step_app 37 rfl elemBlk rfl _ _ rfl (b+1) (.slice A1 N c1) N (cells++ca) rfl (HROW2.out.alloc (.cells #[nilS,.bool false,nilS,.int .i64 0] 38)) _ _ _ _ rfl (Sl.made _ _ 1 4 _ rfl (by decide)) (by simp [Value.oneCell']) (by have:=HSA1.out.len;have:=HNN.out;omega) (by decide) (by have:=HB2.out.lt;simp;omega) ?_
     intro v' w5 hown5 hg5 hat5
     obtain ⟨g,c',rfl⟩:=own_succ hown5
     have hown1: ∀ j,(Value.slice A1 N c1).ownBlock=some j->b+1<=j/\j<bb:=fun j hj=>by rw [←HA1.out] at hj;have:=HSA1.out.row.own.lt j hj;have:=HBB.out;omega
     have hG5:(w2.alloc (.cells #[nilS,.bool false,nilS,.int .i64 0] 38)).drew.grownBy w5 (Value.slice A1 N c1).ownBlock:=hg5
     have hgg:=(hown5.lt g rfl)
     have hbbl:bb<w2.heap.size:=HBK2.out.lt
     have hgb:g≠bb:=by
      rcases hat5 with e|e
      ·have:=hown1 g e.symm;omega
      ·have:=Option.some.inj e
       have h3:(w2.alloc (.cells #[nilS,.bool false,nilS,.int .i64 0] 38)).heap.size=w2.heap.size+1:=by simp
       have h4:g=(w2.alloc (.cells #[nilS,.bool false,nilS,.int .i64 0] 38)).heap.size:=this
       omega
     have hgb2:b≠g:=by omega
     have HB5:=Lib.hid ((HB2.out.alloc (.cells #[nilS,.bool false,nilS,.int .i64 0] 38)).drew.grown hG5 (fun e=>by have:=hown1 b e.symm;omega))
     have HBK5:=Lib.hid ((HBK2.out.alloc (.cells #[nilS,.bool false,nilS,.int .i64 0] 38)).drew.grown hG5 (fun e=>by have:=hown1 bb e.symm;omega))
     have HF5:Hid (FrS b (pall y1) w1 (.slice (some ⟨g,0,none⟩) (N+1) c') w5):=Lib.hid (by
      have h1:FrS b (pall y1) w1 (pall y1) (w2.alloc (.cells #[nilS,.bool false,nilS,.int .i64 0] 38)).drew:=FrS.bel ((HF12.out.trans (((Below.refl w2.heap.size w2).alloc (Nat.le_refl _) _).drew.mono HF12.out.size)))
      rw [HA1.out] at h1 ⊢
      exact h1.app hG5 hat5)
     have HOWN5:=Lib.hid hown5
     have hlen5:(cells++ca).length=N*4:=HROW2.out.1
     have n0:=(hown5.cellAt (N*4) (by omega))
     have n1:=(hown5.cellAt (N*4+1) (by omega))
     have n2:=(hown5.cellAt (N*4+2) (by omega))
     have n3:=(hown5.cellAt (N*4+3) (by omega))
     rw [←hlen5] at n0 n1 n2 n3
     simp only [List.getElem?_append_right (Nat.le_refl _),List.getElem?_append_right (Nat.le_add_right _ _),Nat.sub_self,Nat.add_sub_cancel_left,List.getElem?_cons_zero,List.getElem?_cons_succ] at n0 n1 n2 n3
     rw [hlen5] at n0 n1 n2 n3
     have fn0:=hown5.frozenAt (N*4)
     have fn1:=hown5.frozenAt (N*4+1)
     have fn2:=hown5.frozenAt (N*4+2)
     have fn3:=hown5.frozenAt (N*4+3)
     have y9:=HB5.out.cell 9
     have fy9:=HB5.out.frozen 9
     have e0:=HBK5.out.cell 0
     have e1:=HBK5.out.cell 1
     have e2:=HBK5.out.cell 2
     have e3:=HBK5.out.cell 3
     simp only [pcs,List.getElem?_toArray,List.getElem?_cons_zero,List.getElem?_cons_succ] at y9 e0 e1 e2 e3
     have HLEN5:=Lib.hid hlen5
     have HGB:=Lib.hid hgb
     have HGB2:=Lib.hid hgb2
     have hNN:((N:Nat):Int)<((N+1:Nat):Int):=by omega
     clear hown5 hg5 hat5 hG5 hown1 hgg hlen5 hgb hgb2 hz hbbl
     refine hK.out _ _ ⟨e0,e1,e2,e3⟩ (fun hS=> ?_)
     clear hK K
     (try simp only [Act.put,List.setIfInBounds_toArray,List.set_cons_zero,List.set_cons_succ])
     refine anyH_val 8 38 (.pointer (some ⟨g,N*4,none⟩)) (by assumption) rfl (by kernel_rfl) (by kernel_rfl) (by kernel_rfl) (fun o ho=>by cases ho;exact ⟨rfl,fun w hw=>by (try dsimp only at hw);(try obtain ⟨hw0,hw1,hw2,hw3⟩:=hw);(go_simp;(try (intro h;exfalso;omega)))⟩) (fun _ _ _ _ _ h=>h) ?_
     simp only [List.setIfInBounds_toArray,List.set_cons_zero,List.set_cons_succ]
     refine anyH_val 10 39 (.pointer (some ⟨b,0,none⟩)) (by assumption) rfl (by kernel_rfl) (by kernel_rfl) (by kernel_rfl) (fun o ho=>by cases ho;exact ⟨rfl,fun w hw=>by (try dsimp only at hw);(try obtain ⟨hw0,hw1,hw2,hw3⟩:=hw);go_simp⟩) (fun _ _ _ _ _ h=>h) ?_
     simp only [List.setIfInBounds_toArray,List.set_cons_zero,List.set_cons_succ]
     refine anyH_val 11 40 (.pointer (some ⟨b,9,none⟩)) (by assumption) rfl (by kernel_rfl) (by kernel_rfl) (by kernel_rfl) (fun o ho=>by cases ho;exact ⟨rfl,fun w hw=>by (try dsimp only at hw);(try obtain ⟨hw0,hw1,hw2,hw3⟩:=hw);go_simp⟩) (fun _ _ _ _ _ h=>h) ?_
     simp only [List.setIfInBounds_toArray,List.set_cons_zero,List.set_cons_succ]
     refine wpAnyH_ready (rs:=[9,12]) (by kernel_rfl) (by simp) ?_
     refine AllReadyH.cons rfl (fun K hK=> ?_) (AllReadyH.cons rfl (fun K hK=> ?_) AllReadyH.nil)
     ·skip
      go_simp
      have hkk:=((((HBK5.out.far (p:=⟨g,N*4,none⟩) (fun e=>HGB.out e.symm) (.slice Aw nw cw)).far (p:=⟨g,N*4+1,none⟩) (fun e=>HGB.out e.symm) (.bool ob)).far (p:=⟨g,N*4+2,none⟩) (fun e=>HGB.out e.symm) (.slice Ai ni ci)).far (p:=⟨g,N*4+3,none⟩) (fun e=>HGB.out e.symm) (.int .i64 ln))
      have e0':=hkk.cell 0
      have e1':=hkk.cell 1
      have e2':=hkk.cell 2
      have e3':=hkk.cell 3
      simp only [List.getElem?_toArray,List.getElem?_cons_zero,List.getElem?_cons_succ] at e0' e1' e2' e3'
      refine hK.out _ _ ⟨e0',e1',e2',e3'⟩ (fun hS=> ?_)
      clear hK K
      (try simp only [Act.put,List.setIfInBounds_toArray,List.set_cons_zero,List.set_cons_succ])
      have y9':=(((((HB5.out.far (p:=⟨g,N*4,none⟩) (fun e=>HGB2.out e) (.slice Aw nw cw)).far (p:=⟨g,N*4+1,none⟩) (fun e=>HGB2.out e) (.bool ob)).far (p:=⟨g,N*4+2,none⟩) (fun e=>HGB2.out e) (.slice Ai ni ci)).far (p:=⟨g,N*4+3,none⟩) (fun e=>HGB2.out e) (.int .i64 ln))).cell 9
      have fy9':=(((((HB5.out.far (p:=⟨g,N*4,none⟩) (fun e=>HGB2.out e) (.slice Aw nw cw)).far (p:=⟨g,N*4+1,none⟩) (fun e=>HGB2.out e) (.bool ob)).far (p:=⟨g,N*4+2,none⟩) (fun e=>HGB2.out e) (.slice Ai ni ci)).far (p:=⟨g,N*4+3,none⟩) (fun e=>HGB2.out e) (.int .i64 ln))).frozen 9
      simp only [pcs,List.getElem?_toArray,List.getElem?_cons_zero,List.getElem?_cons_succ] at y9'
      refine wpAnyH_ready (rs:=[12]) (by kernel_rfl) (by simp) ?_
      refine AllReadyH.cons rfl (fun K hK=> ?_) AllReadyH.nil
      go_simp
      have hkl:=((((HBK5.out.far (p:=⟨g,N*4,none⟩) (fun e=>HGB.out e.symm) (.slice Aw nw cw)).far (p:=⟨g,N*4+1,none⟩) (fun e=>HGB.out e.symm) (.bool ob)).far (p:=⟨g,N*4+2,none⟩) (fun e=>HGB.out e.symm) (.slice Ai ni ci)).far (p:=⟨g,N*4+3,none⟩) (fun e=>HGB.out e.symm) (.int .i64 ln)).far (p:=⟨b,9,none⟩) (by have:=HBB.out;have:=HSA1.out.blk.lt;show bb≠b;omega) (Value.slice (some ⟨g,0,none⟩) (N+1) c')
      have f0':=hkl.cell 0
      have f1':=hkl.cell 1
      have f2':=hkl.cell 2
      have f3':=hkl.cell 3
      simp only [List.getElem?_toArray,List.getElem?_cons_zero,List.getElem?_cons_succ] at f0' f1' f2' f3'
      refine hK.out _ _ ⟨f0',f1',f2',f3'⟩ (fun hS=> ?_)
      clear hK K
      (try simp only [Act.put,List.setIfInBounds_toArray,List.set_cons_zero,List.set_cons_succ])
      refine wpAnyH_done (by kernel_rfl) ?_ _
      clear e0' e1' e2' e3' f0' f1' f2' f3' y9' fy9' hkk hkl
      clear hS
      have HJN:=Lib.hid (lj_next (y2:=(y1.1,(y1.2.1,(y1.2.2.1,(y1.2.2.2.1,(Value.slice (some ⟨g,0,none⟩) (N+1) c',())))))) HJ.out (Nat.lt_of_lt_of_le HS.out.blk.lt (Nat.le_refl _)) (fun e=>by have:=(HS.out.row.own.lt b e).1;omega) HKT.out.1 HKT.out.2 HST.out HSA1.out HDP1.out HRM1.out HCS1.out HFR1.out (((((HF5.out.setg ⟨g,N*4,none⟩ (.slice Aw nw cw) (.inr rfl)).setg ⟨g,N*4+1,none⟩ (.bool ob) (.inr rfl)).setg ⟨g,N*4+2,none⟩ (.slice Ai ni ci) (.inr rfl)).setg ⟨g,N*4+3,none⟩ (.int .i64 ln) (.inr rfl)).setg ⟨b,9,none⟩ (Value.slice (some ⟨g,0,none⟩) (N+1) c') (.inl rfl)) rfl (((((HB5.out.far (p:=⟨g,N*4,none⟩) (fun e=>HGB2.out e) (.slice Aw nw cw)).far (p:=⟨g,N*4+1,none⟩) (fun e=>HGB2.out e) (.bool ob)).far (p:=⟨g,N*4+2,none⟩) (fun e=>HGB2.out e) (.slice Ai ni ci)).far (p:=⟨g,N*4+3,none⟩) (fun e=>HGB2.out e) (.int .i64 ln)).set_ 9 (Value.slice (some ⟨g,0,none⟩) (N+1) c') _ rfl) (by rw [←HNN.out];exact (ownsRow_setCell_below (own_put4 HOWN5.out HLEN5.out.symm (.slice Aw nw cw) (.bool ob) (.slice Ai ni ci) (.int .i64 ln)) (a:=⟨b,9,none⟩) (Nat.lt_succ_self b) (Value.slice (some ⟨g,0,none⟩) (N+1) c'))))
      clear n0 n1 n2 n3 fn0 fn1 fn2 fn3 y9 fy9 e0 e1 e2 e3 z9
      go_wp2_with fail
      go_roundg (rmX z)
      case measure=>have:=HJ.out.ms;have:=HRM1.out;omega
      case rel=>exact ⟨_,_,_,_,HJN⟩
     ·skip
      go_simp
      have hkk:=HBK5.out.far (p:=⟨b,9,none⟩) (by have:=HBB.out;have:=HSA1.out.blk.lt;show bb≠b;omega) (Value.slice (some ⟨g,0,none⟩) (N+1) c')
      have e0':=hkk.cell 0
      have e1':=hkk.cell 1
      have e2':=hkk.cell 2
      have e3':=hkk.cell 3
      simp only [List.getElem?_toArray,List.getElem?_cons_zero,List.getElem?_cons_succ] at e0' e1' e2' e3'
      refine hK.out _ _ ⟨e0',e1',e2',e3'⟩ (fun hS=> ?_)
      clear hK K
      (try simp only [Act.put,List.setIfInBounds_toArray,List.set_cons_zero,List.set_cons_succ])
      have HO6:=Lib.hid (ownsRow_setCell_below HOWN5.out (a:=⟨b,9,none⟩) (Nat.lt_succ_self b) (Value.slice (some ⟨g,0,none⟩) (N+1) c'))
      have m0:=(HO6.out.cellAt (N*4) (by have:=HLEN5.out;omega))
      have m1:=(HO6.out.cellAt (N*4+1) (by have:=HLEN5.out;omega))
      have m2:=(HO6.out.cellAt (N*4+2) (by have:=HLEN5.out;omega))
      have m3:=(HO6.out.cellAt (N*4+3) (by have:=HLEN5.out;omega))
      rw [←HLEN5.out] at m0 m1 m2 m3
      simp only [List.getElem?_append_right (Nat.le_refl _),List.getElem?_append_right (Nat.le_add_right _ _),Nat.sub_self,Nat.add_sub_cancel_left,List.getElem?_cons_zero,List.getElem?_cons_succ] at m0 m1 m2 m3
      rw [HLEN5.out] at m0 m1 m2 m3
      have fm0:=HO6.out.frozenAt (N*4)
      have fm1:=HO6.out.frozenAt (N*4+1)
      have fm2:=HO6.out.frozenAt (N*4+2)
      have fm3:=HO6.out.frozenAt (N*4+3)
      refine wpAnyH_ready (rs:=[9]) (by kernel_rfl) (by simp) ?_
      refine AllReadyH.cons rfl (fun K hK=> ?_) AllReadyH.nil
      go_simp
      have hkl:=(((((HBK5.out.far (p:=⟨b,9,none⟩) (by have:=HBB.out;have:=HSA1.out.blk.lt;show bb≠b;omega) (Value.slice (some ⟨g,0,none⟩) (N+1) c')).far (p:=⟨g,N*4,none⟩) (fun e=>HGB.out e.symm) (.slice Aw nw cw)).far (p:=⟨g,N*4+1,none⟩) (fun e=>HGB.out e.symm) (.bool ob)).far (p:=⟨g,N*4+2,none⟩) (fun e=>HGB.out e.symm) (.slice Ai ni ci)).far (p:=⟨g,N*4+3,none⟩) (fun e=>HGB.out e.symm) (.int .i64 ln))
      have f0':=hkl.cell 0
      have f1':=hkl.cell 1
      have f2':=hkl.cell 2
      have f3':=hkl.cell 3
      simp only [List.getElem?_toArray,List.getElem?_cons_zero,List.getElem?_cons_succ] at f0' f1' f2' f3'
      refine hK.out _ _ ⟨f0',f1',f2',f3'⟩ (fun hS=> ?_)
      clear hK K
      (try simp only [Act.put,List.setIfInBounds_toArray,List.set_cons_zero,List.set_cons_succ])
      refine wpAnyH_done (by kernel_rfl) ?_ _
      clear e0' e1' e2' e3' f0' f1' f2' f3' m0 m1 m2 m3 fm0 fm1 fm2 fm3 hkk hkl
      clear hS
      have HJN:=Lib.hid (lj_next (y2:=(y1.1,(y1.2.1,(y1.2.2.1,(y1.2.2.2.1,(Value.slice (some ⟨g,0,none⟩) (N+1) c',())))))) HJ.out (Nat.lt_of_lt_of_le HS.out.blk.lt (Nat.le_refl _)) (fun e=>by have:=(HS.out.row.own.lt b e).1;omega) HKT.out.1 HKT.out.2 HST.out HSA1.out HDP1.out HRM1.out HCS1.out HFR1.out (((((HF5.out.setg ⟨b,9,none⟩ (Value.slice (some ⟨g,0,none⟩) (N+1) c') (.inl rfl)).setg ⟨g,N*4,none⟩ (.slice Aw nw cw) (.inr rfl)).setg ⟨g,N*4+1,none⟩ (.bool ob) (.inr rfl)).setg ⟨g,N*4+2,none⟩ (.slice Ai ni ci) (.inr rfl)).setg ⟨g,N*4+3,none⟩ (.int .i64 ln) (.inr rfl)) rfl (((((HB5.out.set_ 9 (Value.slice (some ⟨g,0,none⟩) (N+1) c') _ rfl).far (p:=⟨g,N*4,none⟩) (fun e=>HGB2.out e) (.slice Aw nw cw)).far (p:=⟨g,N*4+1,none⟩) (fun e=>HGB2.out e) (.bool ob)).far (p:=⟨g,N*4+2,none⟩) (fun e=>HGB2.out e) (.slice Ai ni ci)).far (p:=⟨g,N*4+3,none⟩) (fun e=>HGB2.out e) (.int .i64 ln)) (by rw [←HNN.out];exact (own_put4 HO6.out HLEN5.out.symm (.slice Aw nw cw) (.bool ob) (.slice Ai ni ci) (.int .i64 ln))))
      clear n0 n1 n2 n3 fn0 fn1 fn2 fn3 y9 fy9 e0 e1 e2 e3 z9
      go_wp2_with fail
      go_roundg (rmX z)
      case measure=>have:=HJ.out.ms;have:=HRM1.out;omega
      case rel=>exact ⟨_,_,_,_,HJN⟩
    ·skip
     go_simp
     refine hK.out _ _ HAL.out (fun hS=> ?_)
     clear hK K
     (try simp only [Act.put,List.setIfInBounds_toArray,List.set_cons_zero,List.set_cons_succ])
     refine wpAnyH_ready (rs:=[3]) (by kernel_rfl) (by simp) ?_
     refine AllReadyH.cons rfl (fun K hK=> ?_) AllReadyH.nil
     go_simp
     refine hK.out _ _ HAL.out (fun hS=> ?_)
     clear hK K
     (try simp only [Act.put,List.setIfInBounds_toArray,List.set_cons_zero,List.set_cons_succ])
     refine anyH_val 5 35 (.int .i64 ((N:Nat):Int)) (by assumption) rfl (by kernel_rfl) (by kernel_rfl) (by kernel_rfl) (fun o ho=>by cases ho;exact ⟨rfl,fun w hw=>by (try dsimp only at hw);(try obtain ⟨hw0,hw1,hw2,hw3⟩:=hw);go_simp⟩) (fun _ _ _ _ _ h=>h) ?_
     simp only [List.setIfInBounds_toArray,List.set_cons_zero,List.set_cons_succ]
     refine wpAnyH_ready (rs:=[7]) (by kernel_rfl) (by simp) ?_
     refine AllReadyH.cons rfl (fun K hK=> ?_) AllReadyH.nil
     clear b0 b1 b2 b3
     refine step_app 37 rfl elemBlk rfl _ _ rfl (b+1) (.slice A1 N c1) N (cells++ca) rfl (HROW2.out.alloc (.cells #[nilS,.bool false,nilS,.int .i64 0] 38)) _ _ _ _ rfl (Sl.made _ _ 1 4 _ rfl (by decide)) (by simp [Value.oneCell']) (by have:=HSA1.out.len;have:=HNN.out;omega) (by decide) (by have:=HB2.out.lt;simp;omega) ?_
     intro v' w5 hown5 hg5 hat5
     obtain ⟨g,c',rfl⟩:=own_succ hown5
     have hown1: ∀ j,(Value.slice A1 N c1).ownBlock=some j->b+1<=j/\j<bb:=fun j hj=>by rw [←HA1.out] at hj;have:=HSA1.out.row.own.lt j hj;have:=HBB.out;omega
     have hG5:(w2.alloc (.cells #[nilS,.bool false,nilS,.int .i64 0] 38)).drew.grownBy w5 (Value.slice A1 N c1).ownBlock:=hg5
     have hgg:=(hown5.lt g rfl)
     have hbbl:bb<w2.heap.size:=HBK2.out.lt
     have hgb:g≠bb:=by
      rcases hat5 with e|e
      ·have:=hown1 g e.symm;omega
      ·have:=Option.some.inj e
       have h3:(w2.alloc (.cells #[nilS,.bool false,nilS,.int .i64 0] 38)).heap.size=w2.heap.size+1:=by simp
       have h4:g=(w2.alloc (.cells #[nilS,.bool false,nilS,.int .i64 0] 38)).heap.size:=this
       omega
     have hgb2:b≠g:=by omega
     have HB5:=Lib.hid ((HB2.out.alloc (.cells #[nilS,.bool false,nilS,.int .i64 0] 38)).drew.grown hG5 (fun e=>by have:=hown1 b e.symm;omega))
     have HBK5:=Lib.hid ((HBK2.out.alloc (.cells #[nilS,.bool false,nilS,.int .i64 0] 38)).drew.grown hG5 (fun e=>by have:=hown1 bb e.symm;omega))
     have HF5:Hid (FrS b (pall y1) w1 (.slice (some ⟨g,0,none⟩) (N+1) c') w5):=Lib.hid (by
      have h1:FrS b (pall y1) w1 (pall y1) (w2.alloc (.cells #[nilS,.bool false,nilS,.int .i64 0] 38)).drew:=FrS.bel ((HF12.out.trans (((Below.refl w2.heap.size w2).alloc (Nat.le_refl _) _).drew.mono HF12.out.size)))
      rw [HA1.out] at h1 ⊢
      exact h1.app hG5 hat5)
     have HOWN5:=Lib.hid hown5
     have hlen5:(cells++ca).length=N*4:=HROW2.out.1
     have n0:=(hown5.cellAt (N*4) (by omega))
     have n1:=(hown5.cellAt (N*4+1) (by omega))
     have n2:=(hown5.cellAt (N*4+2) (by omega))
     have n3:=(hown5.cellAt (N*4+3) (by omega))
     rw [←hlen5] at n0 n1 n2 n3
     simp only [List.getElem?_append_right (Nat.le_refl _),List.getElem?_append_right (Nat.le_add_right _ _),Nat.sub_self,Nat.add_sub_cancel_left,List.getElem?_cons_zero,List.getElem?_cons_succ] at n0 n1 n2 n3
     rw [hlen5] at n0 n1 n2 n3
     have fn0:=hown5.frozenAt (N*4)
     have fn1:=hown5.frozenAt (N*4+1)
     have fn2:=hown5.frozenAt (N*4+2)
     have fn3:=hown5.frozenAt (N*4+3)
     have y9:=HB5.out.cell 9
     have fy9:=HB5.out.frozen 9
     have e0:=HBK5.out.cell 0
     have e1:=HBK5.out.cell 1
     have e2:=HBK5.out.cell 2
     have e3:=HBK5.out.cell 3
     simp only [pcs,List.getElem?_toArray,List.getElem?_cons_zero,List.getElem?_cons_succ] at y9 e0 e1 e2 e3
     have HLEN5:=Lib.hid hlen5
     have HGB:=Lib.hid hgb
     have HGB2:=Lib.hid hgb2
     have hNN:((N:Nat):Int)<((N+1:Nat):Int):=by omega
     clear hown5 hg5 hat5 hG5 hown1 hgg hlen5 hgb hgb2 hz hbbl
     refine hK.out _ _ ⟨e0,e1,e2,e3⟩ (fun hS=> ?_)
     clear hK K
     (try simp only [Act.put,List.setIfInBounds_toArray,List.set_cons_zero,List.set_cons_succ])
     refine anyH_val 8 38 (.pointer (some ⟨g,N*4,none⟩)) (by assumption) rfl (by kernel_rfl) (by kernel_rfl) (by kernel_rfl) (fun o ho=>by cases ho;exact ⟨rfl,fun w hw=>by (try dsimp only at hw);(try obtain ⟨hw0,hw1,hw2,hw3⟩:=hw);(go_simp;(try (intro h;exfalso;omega)))⟩) (fun _ _ _ _ _ h=>h) ?_
     simp only [List.setIfInBounds_toArray,List.set_cons_zero,List.set_cons_succ]
     refine anyH_val 10 39 (.pointer (some ⟨b,0,none⟩)) (by assumption) rfl (by kernel_rfl) (by kernel_rfl) (by kernel_rfl) (fun o ho=>by cases ho;exact ⟨rfl,fun w hw=>by (try dsimp only at hw);(try obtain ⟨hw0,hw1,hw2,hw3⟩:=hw);go_simp⟩) (fun _ _ _ _ _ h=>h) ?_
     simp only [List.setIfInBounds_toArray,List.set_cons_zero,List.set_cons_succ]
     refine anyH_val 11 40 (.pointer (some ⟨b,9,none⟩)) (by assumption) rfl (by kernel_rfl) (by kernel_rfl) (by kernel_rfl) (fun o ho=>by cases ho;exact ⟨rfl,fun w hw=>by (try dsimp only at hw);(try obtain ⟨hw0,hw1,hw2,hw3⟩:=hw);go_simp⟩) (fun _ _ _ _ _ h=>h) ?_
     simp only [List.setIfInBounds_toArray,List.set_cons_zero,List.set_cons_succ]
     refine wpAnyH_ready (rs:=[9,12]) (by kernel_rfl) (by simp) ?_
     refine AllReadyH.cons rfl (fun K hK=> ?_) (AllReadyH.cons rfl (fun K hK=> ?_) AllReadyH.nil)
     ·skip
      go_simp
      have hkk:=((((HBK5.out.far (p:=⟨g,N*4,none⟩) (fun e=>HGB.out e.symm) (.slice Aw nw cw)).far (p:=⟨g,N*4+1,none⟩) (fun e=>HGB.out e.symm) (.bool ob)).far (p:=⟨g,N*4+2,none⟩) (fun e=>HGB.out e.symm) (.slice Ai ni ci)).far (p:=⟨g,N*4+3,none⟩) (fun e=>HGB.out e.symm) (.int .i64 ln))
      have e0':=hkk.cell 0
      have e1':=hkk.cell 1
      have e2':=hkk.cell 2
      have e3':=hkk.cell 3
      simp only [List.getElem?_toArray,List.getElem?_cons_zero,List.getElem?_cons_succ] at e0' e1' e2' e3'
      refine hK.out _ _ ⟨e0',e1',e2',e3'⟩ (fun hS=> ?_)
      clear hK K
      (try simp only [Act.put,List.setIfInBounds_toArray,List.set_cons_zero,List.set_cons_succ])
      have y9':=(((((HB5.out.far (p:=⟨g,N*4,none⟩) (fun e=>HGB2.out e) (.slice Aw nw cw)).far (p:=⟨g,N*4+1,none⟩) (fun e=>HGB2.out e) (.bool ob)).far (p:=⟨g,N*4+2,none⟩) (fun e=>HGB2.out e) (.slice Ai ni ci)).far (p:=⟨g,N*4+3,none⟩) (fun e=>HGB2.out e) (.int .i64 ln))).cell 9
      have fy9':=(((((HB5.out.far (p:=⟨g,N*4,none⟩) (fun e=>HGB2.out e) (.slice Aw nw cw)).far (p:=⟨g,N*4+1,none⟩) (fun e=>HGB2.out e) (.bool ob)).far (p:=⟨g,N*4+2,none⟩) (fun e=>HGB2.out e) (.slice Ai ni ci)).far (p:=⟨g,N*4+3,none⟩) (fun e=>HGB2.out e) (.int .i64 ln))).frozen 9
      simp only [pcs,List.getElem?_toArray,List.getElem?_cons_zero,List.getElem?_cons_succ] at y9'
      refine wpAnyH_ready (rs:=[12]) (by kernel_rfl) (by simp) ?_
      refine AllReadyH.cons rfl (fun K hK=> ?_) AllReadyH.nil
      go_simp
      have hkl:=((((HBK5.out.far (p:=⟨g,N*4,none⟩) (fun e=>HGB.out e.symm) (.slice Aw nw cw)).far (p:=⟨g,N*4+1,none⟩) (fun e=>HGB.out e.symm) (.bool ob)).far (p:=⟨g,N*4+2,none⟩) (fun e=>HGB.out e.symm) (.slice Ai ni ci)).far (p:=⟨g,N*4+3,none⟩) (fun e=>HGB.out e.symm) (.int .i64 ln)).far (p:=⟨b,9,none⟩) (by have:=HBB.out;have:=HSA1.out.blk.lt;show bb≠b;omega) (Value.slice (some ⟨g,0,none⟩) (N+1) c')
      have f0':=hkl.cell 0
      have f1':=hkl.cell 1
      have f2':=hkl.cell 2
      have f3':=hkl.cell 3
      simp only [List.getElem?_toArray,List.getElem?_cons_zero,List.getElem?_cons_succ] at f0' f1' f2' f3'
      refine hK.out _ _ ⟨f0',f1',f2',f3'⟩ (fun hS=> ?_)
      clear hK K
      (try simp only [Act.put,List.setIfInBounds_toArray,List.set_cons_zero,List.set_cons_succ])
      refine wpAnyH_done (by kernel_rfl) ?_ _
      clear e0' e1' e2' e3' f0' f1' f2' f3' y9' fy9' hkk hkl
      clear hS
      have HJN:=Lib.hid (lj_next (y2:=(y1.1,(y1.2.1,(y1.2.2.1,(y1.2.2.2.1,(Value.slice (some ⟨g,0,none⟩) (N+1) c',())))))) HJ.out (Nat.lt_of_lt_of_le HS.out.blk.lt (Nat.le_refl _)) (fun e=>by have:=(HS.out.row.own.lt b e).1;omega) HKT.out.1 HKT.out.2 HST.out HSA1.out HDP1.out HRM1.out HCS1.out HFR1.out (((((HF5.out.setg ⟨g,N*4,none⟩ (.slice Aw nw cw) (.inr rfl)).setg ⟨g,N*4+1,none⟩ (.bool ob) (.inr rfl)).setg ⟨g,N*4+2,none⟩ (.slice Ai ni ci) (.inr rfl)).setg ⟨g,N*4+3,none⟩ (.int .i64 ln) (.inr rfl)).setg ⟨b,9,none⟩ (Value.slice (some ⟨g,0,none⟩) (N+1) c') (.inl rfl)) rfl (((((HB5.out.far (p:=⟨g,N*4,none⟩) (fun e=>HGB2.out e) (.slice Aw nw cw)).far (p:=⟨g,N*4+1,none⟩) (fun e=>HGB2.out e) (.bool ob)).far (p:=⟨g,N*4+2,none⟩) (fun e=>HGB2.out e) (.slice Ai ni ci)).far (p:=⟨g,N*4+3,none⟩) (fun e=>HGB2.out e) (.int .i64 ln)).set_ 9 (Value.slice (some ⟨g,0,none⟩) (N+1) c') _ rfl) (by rw [←HNN.out];exact (ownsRow_setCell_below (own_put4 HOWN5.out HLEN5.out.symm (.slice Aw nw cw) (.bool ob) (.slice Ai ni ci) (.int .i64 ln)) (a:=⟨b,9,none⟩) (Nat.lt_succ_self b) (Value.slice (some ⟨g,0,none⟩) (N+1) c'))))
      clear n0 n1 n2 n3 fn0 fn1 fn2 fn3 y9 fy9 e0 e1 e2 e3 z9
      go_wp2_with fail
      go_roundg (rmX z)
      case measure=>have:=HJ.out.ms;have:=HRM1.out;omega
      case rel=>exact ⟨_,_,_,_,HJN⟩
     ·skip
      go_simp
      have hkk:=HBK5.out.far (p:=⟨b,9,none⟩) (by have:=HBB.out;have:=HSA1.out.blk.lt;show bb≠b;omega) (Value.slice (some ⟨g,0,none⟩) (N+1) c')
      have e0':=hkk.cell 0
      have e1':=hkk.cell 1
      have e2':=hkk.cell 2
      have e3':=hkk.cell 3
      simp only [List.getElem?_toArray,List.getElem?_cons_zero,List.getElem?_cons_succ] at e0' e1' e2' e3'
      refine hK.out _ _ ⟨e0',e1',e2',e3'⟩ (fun hS=> ?_)
      clear hK K
      (try simp only [Act.put,List.setIfInBounds_toArray,List.set_cons_zero,List.set_cons_succ])
      have HO6:=Lib.hid (ownsRow_setCell_below HOWN5.out (a:=⟨b,9,none⟩) (Nat.lt_succ_self b) (Value.slice (some ⟨g,0,none⟩) (N+1) c'))
      have m0:=(HO6.out.cellAt (N*4) (by have:=HLEN5.out;omega))
      have m1:=(HO6.out.cellAt (N*4+1) (by have:=HLEN5.out;omega))
      have m2:=(HO6.out.cellAt (N*4+2) (by have:=HLEN5.out;omega))
      have m3:=(HO6.out.cellAt (N*4+3) (by have:=HLEN5.out;omega))
      rw [←HLEN5.out] at m0 m1 m2 m3
      simp only [List.getElem?_append_right (Nat.le_refl _),List.getElem?_append_right (Nat.le_add_right _ _),Nat.sub_self,Nat.add_sub_cancel_left,List.getElem?_cons_zero,List.getElem?_cons_succ] at m0 m1 m2 m3
      rw [HLEN5.out] at m0 m1 m2 m3
      have fm0:=HO6.out.frozenAt (N*4)
      have fm1:=HO6.out.frozenAt (N*4+1)
      have fm2:=HO6.out.frozenAt (N*4+2)
      have fm3:=HO6.out.frozenAt (N*4+3)
      refine wpAnyH_ready (rs:=[9]) (by kernel_rfl) (by simp) ?_
      refine AllReadyH.cons rfl (fun K hK=> ?_) AllReadyH.nil
      go_simp
      have hkl:=(((((HBK5.out.far (p:=⟨b,9,none⟩) (by have:=HBB.out;have:=HSA1.out.blk.lt;show bb≠b;omega) (Value.slice (some ⟨g,0,none⟩) (N+1) c')).far (p:=⟨g,N*4,none⟩) (fun e=>HGB.out e.symm) (.slice Aw nw cw)).far (p:=⟨g,N*4+1,none⟩) (fun e=>HGB.out e.symm) (.bool ob)).far (p:=⟨g,N*4+2,none⟩) (fun e=>HGB.out e.symm) (.slice Ai ni ci)).far (p:=⟨g,N*4+3,none⟩) (fun e=>HGB.out e.symm) (.int .i64 ln))
      have f0':=hkl.cell 0
      have f1':=hkl.cell 1
      have f2':=hkl.cell 2
      have f3':=hkl.cell 3
      simp only [List.getElem?_toArray,List.getElem?_cons_zero,List.getElem?_cons_succ] at f0' f1' f2' f3'
      refine hK.out _ _ ⟨f0',f1',f2',f3'⟩ (fun hS=> ?_)
      clear hK K
      (try simp only [Act.put,List.setIfInBounds_toArray,List.set_cons_zero,List.set_cons_succ])
      refine wpAnyH_done (by kernel_rfl) ?_ _
      clear e0' e1' e2' e3' f0' f1' f2' f3' m0 m1 m2 m3 fm0 fm1 fm2 fm3 hkk hkl
      clear hS
      have HJN:=Lib.hid (lj_next (y2:=(y1.1,(y1.2.1,(y1.2.2.1,(y1.2.2.2.1,(Value.slice (some ⟨g,0,none⟩) (N+1) c',())))))) HJ.out (Nat.lt_of_lt_of_le HS.out.blk.lt (Nat.le_refl _)) (fun e=>by have:=(HS.out.row.own.lt b e).1;omega) HKT.out.1 HKT.out.2 HST.out HSA1.out HDP1.out HRM1.out HCS1.out HFR1.out (((((HF5.out.setg ⟨b,9,none⟩ (Value.slice (some ⟨g,0,none⟩) (N+1) c') (.inl rfl)).setg ⟨g,N*4,none⟩ (.slice Aw nw cw) (.inr rfl)).setg ⟨g,N*4+1,none⟩ (.bool ob) (.inr rfl)).setg ⟨g,N*4+2,none⟩ (.slice Ai ni ci) (.inr rfl)).setg ⟨g,N*4+3,none⟩ (.int .i64 ln) (.inr rfl)) rfl (((((HB5.out.set_ 9 (Value.slice (some ⟨g,0,none⟩) (N+1) c') _ rfl).far (p:=⟨g,N*4,none⟩) (fun e=>HGB2.out e) (.slice Aw nw cw)).far (p:=⟨g,N*4+1,none⟩) (fun e=>HGB2.out e) (.bool ob)).far (p:=⟨g,N*4+2,none⟩) (fun e=>HGB2.out e) (.slice Ai ni ci)).far (p:=⟨g,N*4+3,none⟩) (fun e=>HGB2.out e) (.int .i64 ln)) (by rw [←HNN.out];exact (own_put4 HO6.out HLEN5.out.symm (.slice Aw nw cw) (.bool ob) (.slice Ai ni ci) (.int .i64 ln))))
      clear n0 n1 n2 n3 fn0 fn1 fn2 fn3 y9 fy9 e0 e1 e2 e3 z9
      go_wp2_with fail
      go_roundg (rmX z)
      case measure=>have:=HJ.out.ms;have:=HRM1.out;omega
      case rel=>exact ⟨_,_,_,_,HJN⟩
   ·have HST:=Lib.hid hst
    have HERR:=Lib.hid herr
    have HLINE:=Lib.hid hline
    have HQ1:=Lib.hid hQ1
    have HFR1:=Lib.hid hfr1
    clear hst herr hline hQ1 hfr1
    go_wp2_with fail
    go_ret2
    have he:stX lv [] x=(acc,z):=by rw [HJ.out.eq,st1_eq HJ.out.sa.ok HJ.out.sa.err HKT.out.1 HKT.out.2 lv acc,HST.out]
    refine .inr ⟨nilS,y1,false,rfl, ?_,HQ1.out.alloc _, ?_,(fun h=>by cases h), ?_⟩
    ·rw [he]
     exact HERR.out
    ·rw [he]
     exact HLINE.out
    ·exact ((HJ.out.fr.trans ⟨HFR1.out,.inl rfl⟩).trans (FrS.bel (v:=pall y') ((Below.refl _ _).alloc (Nat.le_refl _) _))).fr
  ·have hk3:=beq_eq_false_iff_ne.2 hk
   have HK3:=Lib.hid hk
   clear hk
   obtain ⟨A1,c1,hall1⟩:=own_slice HJ.out.sa.row.own
   obtain ⟨N,hN⟩: ∃ N,N=(rows++acc).length:=⟨_,rfl⟩
   rw [←hN] at hall1
   have z9:=HJ.out.sa.blk.cell 9
   simp only [pcs,List.getElem?_toArray,List.getElem?_cons_zero,List.getElem?_cons_succ] at z9
   rw [show y'.2.2.2.2.1= .slice A1 N c1 from hall1] at z9
   have HNN:=Lib.hid hN
   have HA1:Hid (pall y'= .slice A1 N c1):=Lib.hid hall1
   clear hN hall1
   obtain ⟨wa,hwa⟩: ∃ wa,wa=wr.alloc (Obj.cells #[] 38):=⟨_,rfl⟩
   have hBa:QB wa b y':=by rw [hwa];exact HJ.out.sa.blk.alloc _
   have hslN:=Sl.of_own HJ.out.sa.row.own
   have hlenN:=HJ.out.sa.len
   have hcl:cells.length=rows.length*4:=HS.out.row.own.1
   have hkN:rows.length<=N:=by rw [HNN.out,List.length_append];omega
   have hslk:Sl wr (.slice A1 rows.length c1) 4 rows.length cells:=by
    have h2:Sl wr (.slice A1 N c1) 4 N (cells++ca):=by rw [HA1.out, ← HNN.out] at hslN;exact hslN
    have h1:=Sl.pre h2 rows.length hkN
    rw [←hcl,List.take_left] at h1
    exact h1
   have hNc:N<=c1:=by
    obtain ⟨_,A,c,e,h2,h3,_⟩:=hslN
    rw [HA1.out] at e
    injection e with _ e2 e3
    omega
   have HSK:=Lib.hid (show Sl wa (.slice A1 rows.length c1) 4 rows.length cells by rw [hwa];exact hslk.alloc _)
   have HM:Hid (wa.ownsRow (b+1) 38 4 (.slice (some ⟨wr.heap.size,0,none⟩) 0 0) 0 []):=Lib.hid (by rw [hwa];exact World.ownsRow_made wr #[] (size:=4) (e:=38) (base:=b+1) 0 (by have:=HJ.out.sa.blk.lt;omega) (Nat.zero_le _) rfl)
   have HFA:Hid (FrS b (pall y') wr (pall y') wa):=Lib.hid (FrS.bel (by rw [hwa];exact (Below.refl _ _).alloc (Nat.le_refl _) _))
   have HSZA:Hid (wa.heap.size=wr.heap.size+1):=Lib.hid (by rw [hwa];simp)
   have HBA:=Lib.hid hBa
   have z9a:=hBa.cell 9
   simp only [pcs,List.getElem?_toArray,List.getElem?_cons_zero,List.getElem?_cons_succ] at z9a
   rw [show y'.2.2.2.2.1= .slice A1 N c1 from HA1.out,hwa] at z9a
   have i1:((N:Nat):Int)<=(c1:Int):=by omega
   have i2:((rows.length:Nat):Int)<=((N:Nat):Int):=by omega
   have i3:((rows.length:Nat):Int)<=(c1:Int):=by omega
   have HLN:=Lib.hid hlenN
   have HCL:=Lib.hid hcl
   have HKN:=Lib.hid hkN
   clear hBa hslN hlenN hcl hslk hNc hkN
   by_cases hacc:acc=[]
   ·subst hacc
    obtain rfl:N=rows.length:=by rw [HNN.out,List.append_nil]
    have HWA:=Lib.hid hwa
    clear hwa
    go_wp2_with (at_builtin;rw [←HWA.out];refine wpList_app elemBlk rfl _ _ rfl (b+1) (.slice (some ⟨wr.heap.size,0,none⟩) 0 0) 0 [] rfl HM.out A1 rows.length c1 cells rfl HSK.out HS.out.row.one (by have:=HS.out.len;omega) (by decide) (by have:=HBA.out.lt;omega) ?_;intro v' w4 hown4 hg4 hat4;have HB4:=Lib.hid (HBA.out.grown hg4 (fun e=>by have:=Option.some.inj e;have h7:=HJ.out.sa.blk.lt;have h8:b=wr.heap.size:=this;omega));have y9:=HB4.out.cell 9;have fy9:=HB4.out.frozen 9;have y8:=HB4.out.cell 8;have fy8:=HB4.out.frozen 8;simp only [pcs,List.getElem?_toArray,List.getElem?_cons_zero,List.getElem?_cons_succ] at y9 y8;rw [show y'.2.2.2.2.1= .slice A1 rows.length c1 from HA1.out] at y9;obtain ⟨A',c',rfl⟩:=own_slice hown4;have HO4:=Lib.hid hown4;have HG4:=Lib.hid hg4;have HAT4:=Lib.hid hat4;clear hown4 hg4 hat4)
    go_ret2
    have hO:w4.ownsRow (b+1) 38 4 (.slice A' rows.length c') rows.length cells:=by have:=HO4.out;simpa using this
    have hnew: ∃ g,(Value.slice A' rows.length c').ownBlock=some g/\wr.heap.size<=g:=by
     have h7:(Value.slice A' rows.length c').ownBlock=(Value.slice A' (0+rows.length) c').ownBlock:=by cases A'<;>rfl
     rw [h7]
     rcases HAT4.out with e|e
     ·exact ⟨_,e,Nat.le_refl _⟩
     ·exact ⟨_,e,by have:=HSZA.out;omega⟩
    have hFr:FrS b (pall y') wr (.slice A' rows.length c') w4:=FrS.new_ HFA.out HG4.out (fun g e=>by have h7:wr.heap.size=g:=Option.some.inj e;omega) hnew
    have hF2:=hFr.setg ⟨b,9,none⟩ (.slice A' rows.length c') (.inl rfl)
    exact fin_stmts (y3:=(y'.1,(y'.2.1,(y'.2.2.1,(y'.2.2.2.1,(Value.slice A' rows.length c',())))))) HS.out HJ.out HK3.out rfl (dp_nil HJ.out.dp rfl rfl) (HB4.out.set_ 9 (.slice A' rows.length c') _ rfl)
     (ownsRow_setCell_below hO (a:=⟨b,9,none⟩) (Nat.lt_succ_self b) _) (HJ.out.fr.trans hF2) nil_c
   ·have hlt:rows.length<N:=by
     rw [HNN.out,List.length_append]
     have:0<acc.length:=List.length_pos_iff.2 hacc
     omega
    have hne:(((N:Nat):Int)==((rows.length:Nat):Int))=false:=beq_eq_false_iff_ne.2 (by omega)
    have HACC:=Lib.hid hacc
    have HLT:=Lib.hid hlt
    have hne2: ¬ (N=rows.length):=by omega
    clear hacc hlt
    have HWA:=Lib.hid hwa
    clear hwa
    have hA: ∃ gb,A1=some ⟨gb,0,none⟩:=by
     obtain ⟨gb,c,e⟩:=own_pos HJ.out.sa.row.own (by rw [←HNN.out];have:=HLT.out;omega)
     rw [HA1.out] at e
     injection e with e1 _ _
     exact ⟨gb,e1⟩
    obtain ⟨gb,rfl⟩:=hA
    have z8:=HBA.out.cell 8
    simp only [pcs,List.getElem?_toArray,List.getElem?_cons_zero,List.getElem?_cons_succ] at z8
    go_wp2_with (at_builtin;rw [←HWA.out];refine wpList_app elemBlk rfl _ _ rfl (b+1) (.slice (some ⟨wr.heap.size,0,none⟩) 0 0) 0 [] rfl HM.out (some ⟨gb,0,none⟩) rows.length c1 cells rfl HSK.out HS.out.row.one (by have:=HS.out.len;omega) (by decide) (by have:=HBA.out.lt;omega) ?_;intro v' w4 hown4 hg4 hat4;have HB4:=Lib.hid (HBA.out.grown hg4 (fun e=>by have:=Option.some.inj e;have h7:=HJ.out.sa.blk.lt;have h8:b=wr.heap.size:=this;omega));have y9:=HB4.out.cell 9;have fy9:=HB4.out.frozen 9;have y8:=HB4.out.cell 8;have fy8:=HB4.out.frozen 8;simp only [pcs,List.getElem?_toArray,List.getElem?_cons_zero,List.getElem?_cons_succ] at y9 y8;rw [show y'.2.2.2.2.1= .slice (some ⟨gb,0,none⟩) N c1 from HA1.out] at y9;obtain ⟨A',c',rfl⟩:=own_slice hown4;have HO4:=Lib.hid hown4;have HG4:=Lib.hid hg4;have HAT4:=Lib.hid hat4;clear hown4 hg4 hat4)
    go_ret2
    have hO:w4.ownsRow (b+1) 38 4 (.slice A' rows.length c') rows.length cells:=by have:=HO4.out;simpa using this
    have hnew: ∃ g,(Value.slice A' rows.length c').ownBlock=some g/\wr.heap.size<=g:=by
     have h7:(Value.slice A' rows.length c').ownBlock=(Value.slice A' (0+rows.length) c').ownBlock:=by cases A'<;>rfl
     rw [h7]
     rcases HAT4.out with e|e
     ·exact ⟨_,e,Nat.le_refl _⟩
     ·exact ⟨_,e,by have:=HSZA.out;omega⟩
    have hFr:FrS b (pall y') wr (.slice A' rows.length c') w4:=FrS.new_ HFA.out HG4.out (fun g e=>by have h7:wr.heap.size=g:=Option.some.inj e;omega) hnew
    have hF2:=(hFr.setg ⟨b,9,none⟩ (.slice A' rows.length c') (.inl rfl)).setg ⟨b,8,none⟩ (.int .i64 (max y'.2.2.2.1 lv)) (.inl rfl)
    have hgl:b+1<=gb/\gb<wr.heap.size:=HJ.out.sa.row.own.lt gb (by rw [HA1.out];rfl)
    have hsame:((w4.setCell ⟨b,9,none⟩ (.slice A' rows.length c')).setCell ⟨b,8,none⟩ (.int .i64 (max y'.2.2.2.1 lv))).heap[gb]? = wr.heap[gb]? :=by
     rw [Below.heap_setCell _ _ _ _ (by show gb≠b;omega),Below.heap_setCell _ _ _ _ (by show gb≠b;omega)]
     refine (HG4.out.block gb (by have:=HSZA.out;omega) (fun e=>by have h7:gb=wr.heap.size:=Option.some.inj e;omega)).trans ?_
     rw [HWA.out]
     exact Below.heap_alloc _ _ _ hgl.2
    exact fin_stmts (y3:=(y'.1,(y'.2.1,(y'.2.2.1,(max y'.2.2.2.1 lv,(Value.slice A' rows.length c',())))))) HS.out HJ.out HK3.out rfl (dp_max HACC.out HJ.out.dp rfl rfl) ((HB4.out.set_ 9 (.slice A' rows.length c') (y'.1,(y'.2.1,(y'.2.2.1,(y'.2.2.2.1,(Value.slice A' rows.length c',()))))) rfl).set_ 8 (.int .i64 (max y'.2.2.2.1 lv)) _ rfl)
     (ownsRow_setCell_below (ownsRow_setCell_below hO (a:=⟨b,9,none⟩) (Nat.lt_succ_self b) _) (a:=⟨b,8,none⟩) (Nat.lt_succ_self b) _) (HJ.out.fr.trans hF2) (win_c HS.out HJ.out HA1.out HNN.out hF2 hnew hsame)
end
end Go.Proofs.YtkkoedniahnneaaDoor.K
namespace Go.Proofs.YtkkoedniahnneaaDoor.K
open Go.RowKit
attribute [local go_sem ↓] Go.wp_at_zero Go.wp_at_succ
noncomputable section
set_option linter.unusedSectionVars false
theorem stmts_all (m:Nat):StmtsOK m:=by
 induction m using Nat.strongRecOn with
 |ind m ih=>exact stmts_any m (stmt_any m ih)
theorem count_calls (s:ByteArray)(w:World):Calls Tryd.prog 56 #[.string s,.string ⟨#[10]⟩] w fun e w'=>e= .returned (.int .i64 (endN s))/\w'=w:=by
 refine (Any.strings_Count_one Tryd.lays138 s 10 w).mono ?_
 rintro e w' ⟨rfl,rfl⟩
 exact ⟨rfl,rfl⟩
def py0 (s:ByteArray):ParserX:=((s,(0,(1,(false,())))),((0,(0,(ByteArray.mk #[],()))),(0,(0,(nilS,())))))
theorem px_init {s:ByteArray}(h:s.size<=8192):PTok (tkD (psX s)) (psD (py0 s))/\((tkD (psX s)).2.1.1≠63->LN (tkD (psX s)))/\px1 (py0 s)=true:=by
 obtain ⟨_,_,h2⟩:=okR_ps h
 obtain ⟨t1,t2,_⟩:=tok_step (x:=psX s) (y:=py0 s) rfl h2 (by
  show (1:Int)=1+(nlC ((bytesL s).take (0:Int).toNat):Int)
  rfl)
 exact ⟨t1,t2,px_of rfl h2⟩
theorem sa_init {s:ByteArray}(h:s.size<=8192){w:World}{b:Nat}(hQ:QB w b (psD (py0 s))):SA w b (psD (py0 s)) (tkD (psX s)) [] []/\DP False (tkD (psX s)) (psD (py0 s)):=by
 obtain ⟨o1,o2,h2⟩:=okR_ps h
 obtain ⟨t1,t2,_⟩:=px_init h
 have ht:=tk_ok h2
 have hp:pall (psD (py0 s))=nilS:=by rw [show pall (psD (py0 s))=(psD (py0 s)).2.2.2.2.1 from rfl,psD_all];rfl
 refine ⟨⟨hQ,t1,o1,t2, ?_, ?_, ?_, ?_⟩, ?_⟩
 ·rw [ht.rest]
  rfl
 ·rw [hp]
  exact RowAt.nil_ w b
 ·rw [ht.text]
  exact h
 ·show 0+rmX _<=20000
  omega
 ·unfold DP
  rw [ht.rest,psD_all]
  show (false=true)↔((16:Int)<0∨(64:Int)<0∨False)
  simp
theorem paB_in {s:ByteArray}(h:s.size<=8192)(h2:endN s<=200):paB s=bif ine (psZ s).2.2.1 0 then ([],((psZ s).2.2.1,1)) else bif (psZ s).2.2.2.1 then ([],(0,3)) else (stF (tkD (psX s)) 1,(0,0)):=by
 unfold paB
 rw [show igt (slen s) 8192=false from decide_eq_false (by simp only [slen];omega),show igt (endN s) 200=false from decide_eq_false (by omega)]
 rfl
theorem paB_bad {s:ByteArray}(h:s.size<=8192)(h2:endN s<=200)(he:(psY s).2.2.1≠0):paB s=([],((psY s).2.2.1,1)):=by
 have hz:psZ s=psY s:=by
  unfold psZ
  rw [ne_ieq he]
  rfl
 rw [paB_in h h2,hz,show ine (psY s).2.2.1 0=true from bne_iff_ne.2 he]
 rfl
theorem paB_end {s:ByteArray}(h:s.size<=8192)(h2:endN s<=200)(he:(psY s).2.2.1=0)(ht:(psY s).2.1.1≠0)(hk:okR (psY s)=true):paB s=([],((flD (psY s)).2.2.1,1)):=by
 have hz:psZ s=flD (psY s):=by
  unfold psZ
  rw [he,show ine (psY s).2.1.1 0=true from bne_iff_ne.2 ht]
  rfl
 rw [paB_in h h2,hz,fl_err hk]
 rfl
theorem paB_ok {s:ByteArray}(h:s.size<=8192)(h2:endN s<=200)(he:(psY s).2.2.1=0)(ht:(psY s).2.1.1=0):paB s=bif (psY s).2.2.2.1 then ([],(0,3)) else ((stX 1 [] (tkD (psX s))).1,(0,0)):=by
 have hz:psZ s=psY s:=by
  unfold psZ
  rw [ht]
  cases ieq (psY s).2.2.1 0<;>rfl
 have hf:stF (tkD (psX s)) 1=(stX 1 [] (tkD (psX s))).1:=by
  unfold stF stBad
  rw [show (stX 1 [] (tkD (psX s))).2=psY s from rfl,he]
  simp
 rw [paB_in h h2,hz,he,hf]
 rfl
def ParsePost (s:ByteArray)(w:World)(e:Ending)(w':World):Prop:=
 ∃ v,e= .returned (.tuple #[v,.int .i64 (paB s).2.1,.int .i64 (paB s).2.2])/\C (fun g _=>g<w.heap.size) w' nowhere (V.t (.sl tyBlkT) (paB s).1).d v/\Below w.heap.size w w'
theorem post_nil {s:ByteArray}{w w':World}{n e:Int}(h:paB s=([],(n,e)))(hb:Below w.heap.size w w'):ParsePost s w (.returned (.tuple #[nilS,.int .i64 n,.int .i64 e])) w':=by
 refine ⟨nilS, ?_, ?_,hb⟩
 ·rw [h]
 ·rw [h]
  exact nil_c
theorem post_ok {s:ByteArray}{w w1 w':World}{y':ParserX}{v0 v:Value}(h:paB s=((stX 1 [] (tkD (psX s))).1,(0,0)))(hn:v0.ownBlock=none)(hv:pall y'=v)(ho: ∀ g,v.ownBlock=some g->w.heap.size<=g)(hw:w.heap.size<=w1.heap.size)
  {sv:Value} (hC:C (XN v v0 w1.heap.size) w' nowhere (.sl (stX 1 [] (tkD (psX s))).1.length ((stX 1 [] (tkD (psX s))).1.flatMap tyBlkT.cells)) sv) (hb:Below w.heap.size w w'):ParsePost s w (.returned (.tuple #[sv,.int .i64 0,.int .i64 0])) w':=by
 refine ⟨sv, ?_, ?_,hb⟩
 ·rw [h]
 ·rw [h]
  exact C.less hC (fun g q hg=> .inl ⟨Nat.lt_of_lt_of_le hg hw,by rw [hn];simp⟩) rfl
set_option maxHeartbeats 4000000 in
theorem parseB_any (s:ByteArray)(w:World):Calls Tryd.prog 42 #[.string s] w (ParsePost s w):=by
 by_cases h1:s.size<=8192
 ·by_cases h2:endN s<=200
  ·have i1: ¬ ((s.size:Nat):Int) > 8192:=by omega
   have i2: ¬ endN s > 200:=by omega
   have H1:=Lib.hid h1
   have H2:=Lib.hid h2
   clear h1 h2
   go_enter Tryd.func42,Tryd.ntmps42
   go_wp2_with (go_at_call 56;refine (count_calls s _).mono ?_;rintro e w1 ⟨rfl,hw⟩;obtain rfl:=hw.symm)
   obtain ⟨b,hb⟩: ∃ b,b=w.heap.size:=⟨_,rfl⟩
   obtain ⟨wx,hwx⟩: ∃ wx,wx=w.alloc (Obj.cells #[.string s,.int .i64 0,.int .i64 1,.bool false,.int .i64 0,.int .i64 0,.string ⟨#[]⟩,.int .i64 0,.int .i64 0,nilS] 108):=⟨_,rfl⟩
   have hQ0:QB wx b (py0 s):=⟨_,by rw [hwx,hb];exact Go.Proofs.YtkkoedniahnneaaDoor.Blk.new w _ _⟩
   have hB0:Below w.heap.size w wx:=by rw [hwx];exact (Below.refl _ _).alloc (Nat.le_refl _) _
   rw [←hwx, ← hb]
   have HB:=Lib.hid hb
   have HB0:=Lib.hid hB0
   clear hwx hb hB0
   refine (step_calls hQ0 (px_init H1.out).2.2 rfl).mono ?_
   rintro e w1 ⟨rfl,hb1,hg1⟩
   obtain ⟨hsa,hdp⟩:=sa_init H1.out hb1
   have HB1:Hid (Below w.heap.size w w1):=Lib.hid (HB0.out.trans (below_of_only' hg1 (by rw [HB.out];exact Nat.le_refl _) HB0.out.size))
   have HSA:=Lib.hid hsa
   have hih:=stmts_all (rmX (tkD (psX s))) b _ _ 1 [] [] w1 False hsa hdp (by decide) (by have:=(okR_ps H1.out).2.1;omega) (Nat.le_refl _)
   have HIH:=Lib.hid hih
   clear hQ0 hb1 hg1 hsa hdp hih
   go_wp2_with fail
   refine HIH.out.mono ?_
   rintro e w2 hpost
   have hpn:pall (psD (py0 s))=nilS:=by rw [show pall (psD (py0 s))=(psD (py0 s)).2.2.2.2.1 from rfl,psD_all];rfl
   have bel:FrP b (pall (psD (py0 s))) w1 w2->Below w.heap.size w w2:=fun hF=>HB1.out.trans (by
    have:=hF.below (e:=38) (size:=4) (n:=0) (xs:=[]) (by rw [hpn];exact World.ownsRow_nil _ _ _ _) (by have:=HSA.out.blk.lt;omega)
    rw [HB.out] at this
    exact this)
   rcases hpost with ⟨sv,y',rfl,herr,hsa2,hdp2,hrm2,hk3,hC,hF⟩|⟨sv,y',ok2,rfl,herr,hQ2,hline,hkk,hF⟩
   ·have z4:=hsa2.blk.cell 4
    have z5:=hsa2.blk.cell 5
    have z7:=hsa2.blk.cell 7
    have z8:=hsa2.blk.cell 8
    simp only [pcs,List.getElem?_toArray,List.getElem?_cons_zero,List.getElem?_cons_succ] at z4 z5 z7 z8
    have hBel:=bel hF.fr
    have hown:=hF.own
    have HSA2:=Lib.hid hsa2
    have HC:=Lib.hid hC
    have HBEL:=Lib.hid hBel
    have HERR:=Lib.hid herr
    have HOWN:=Lib.hid hown
    have HPN:=Lib.hid hpn
    have HDP2:=Lib.hid hdp2
    clear bel hsa2 hdp2 hC hF hBel herr hrm2 hk3 hown hpn
    by_cases ht:(psY s).2.1.1=0
    ·have hk6:y'.2.1.1=6:=by
      have h7:=HSA2.out.tok.kind
      rw [h7]
      unfold kindT
      rw [show (stX 1 [] (tkD (psX s))).2.2.1.1=0 from ht]
      rfl
     rw [hk6] at z4
     have HT:=Lib.hid ht
     clear ht hk6
     cases hdeep:(psY s).2.2.2.1 with
     |true=>
      have h7:=HDP2.out.1 hdeep
      have HR:Hid (paB s=([],(0,3))):=Lib.hid (by rw [paB_ok H1.out H2.out HERR.out HT.out,hdeep];rfl)
      clear hdeep
      by_cases hd:16<y'.2.2.2.1
      ·clear h7
       go_wp2_with fail
       go_ret3
       exact post_nil HR.out HBEL.out
      ·have hw:64<y'.2.2.1:=by rcases h7 with h|h|h;exact absurd h hd;exact h;exact h.elim
       clear h7
       go_wp2_with fail
       go_ret3
       exact post_nil HR.out HBEL.out
     |false=>
      have h7: ¬ (16<y'.2.2.2.1∨64<y'.2.2.1∨False):=fun h=>by
       have:=HDP2.out.2 h
       rw [show (stX 1 [] (tkD (psX s))).2.2.2.2.1=false from hdeep] at this
       cases this
      have hd1: ¬ 16<y'.2.2.2.1:=fun h=>h7 (.inl h)
      have hd2: ¬ 64<y'.2.2.1:=fun h=>h7 (.inr (.inl h))
      have HR:Hid (paB s=((stX 1 [] (tkD (psX s))).1,(0,0))):=Lib.hid (by rw [paB_ok H1.out H2.out HERR.out HT.out,hdeep];rfl)
      clear hdeep h7
      go_wp2_with fail
      go_ret3
      exact post_ok HR.out (by rw [HPN.out];rfl) rfl (fun g hg=>by have:=(HSA2.out.row.own.lt g hg).1;have:=HB.out;omega) HB1.out.size HC.out HBEL.out
    ·have hk6:=beq_eq_false_iff_ne.2 (kindT_6 HSA2.out.tok ht)
     have HR:Hid (paB s=([],(y'.2.1.2.1,1))):=Lib.hid (by rw [fl_line HSA2.out.tok HERR.out];exact paB_end H1.out H2.out HERR.out ht HSA2.out.ok)
     clear ht
     go_wp2_with fail
     go_region_held3 (fun w'=>w'.cell? ⟨b,5,none⟩=some (.int .i64 y'.2.1.2.1)/\w'=w2.drew) (first|exact ⟨by assumption,rfl⟩|exact ⟨z5,rfl⟩|go_keep) (fail)
     go_wp2_with fail
     go_ret3
     exact post_nil HR.out HBEL.out.drew
   ·have z4:=hQ2.cell 4
    have z5:=hQ2.cell 5
    simp only [pcs,List.getElem?_toArray,List.getElem?_cons_zero,List.getElem?_cons_succ] at z4 z5
    have HR:Hid (paB s=([],(y'.2.1.2.1,1))):=Lib.hid (by rw [hline];exact paB_bad H1.out H2.out herr)
    have HBEL:=Lib.hid (bel hF)
    clear bel herr hQ2 hline hF
    cases ok2 with
    |true=>
     have hk6:=beq_eq_false_iff_ne.2 (hkk rfl).2
     clear hkk
     go_wp2_with fail
     go_region_held3 (fun w'=>w'.cell? ⟨b,5,none⟩=some (.int .i64 y'.2.1.2.1)/\w'=w2.drew) (first|exact ⟨by assumption,rfl⟩|exact ⟨z5,rfl⟩|go_keep) (fail)
     go_wp2_with fail
     go_ret3
     exact post_nil HR.out HBEL.out.drew
    |false=>
     clear hkk
     go_wp2_with fail
     go_region_held3 (fun w'=>w'.cell? ⟨b,5,none⟩=some (.int .i64 y'.2.1.2.1)/\w'=w2.drew) (first|exact ⟨by assumption,rfl⟩|exact ⟨z5,rfl⟩|go_keep) (fail)
     go_wp2_with fail
     go_ret3
     exact post_nil HR.out HBEL.out.drew
  ·have i1: ¬ ((s.size:Nat):Int) > 8192:=by omega
   have i2:endN s > 200:=by omega
   have HR:Hid (paB s=([],(0,3))):=Lib.hid (by
    unfold paB
    rw [show igt (slen s) 8192=false from decide_eq_false (by simp only [slen];omega),show igt (endN s) 200=true from decide_eq_true i2]
    rfl)
   clear h1 h2
   go_enter Tryd.func42,Tryd.ntmps42
   go_wp2_with (go_at_call 56;refine (count_calls s _).mono ?_;rintro e w1 ⟨rfl,hw⟩;obtain rfl:=hw.symm)
   go_ret3
   exact post_nil HR.out (Below.refl _ _)
 ·have i1:((s.size:Nat):Int) > 8192:=by omega
  have HR:Hid (paB s=([],(0,3))):=Lib.hid (by
   unfold paB
   rw [show igt (slen s) 8192=true from decide_eq_true (by simp only [slen];omega)]
   rfl)
  clear h1
  go_enter Tryd.func42,Tryd.ntmps42
  go_wp2_with fail
  go_ret3
  exact post_nil HR.out (Below.refl _ _)
end
end Go.Proofs.YtkkoedniahnneaaDoor.K
namespace Go.Proofs.YtkkoedniahnneaaDoor.K
open Go.RowKit
noncomputable section
set_option linter.unusedSectionVars false
def sp_f42:Ent:=spec (.pr .str .nil) (fun x=>(paOk x.1)) (fun x=>(.tu [(.t (.sl tyBlkT) ((paB x.1).1)),(.t tI (((paB x.1).2).1)),(.t tI (((paB x.1).2).2))]))
theorem en_f42:Entered Tryd.prog 42:= .inr ⟨by decide,_,Tryd.func42,by kernel_rfl,by kernel_rfl⟩
theorem ms_f42:Meets Tryd.prog 42 (strip sp_f42):=by
 unfold sp_f42
 refine meets_calls (fun x hok X w σ vs hfin hc=> ?_)
 obtain ⟨s,u⟩:=x
 simp only [Ty.canon,V.ds,V.d,Ty.d,Cs,C] at hc
 obtain ⟨v1,r1,rfl,⟨rfl,_⟩,rfl⟩:=hc
 refine (parseB_any s w).mono ?_
 rintro e w' ⟨v,rfl,hC,hb⟩
 refine ⟨_,rfl, ?_,hb⟩
 have hv:C X w' σ (V.t (.sl tyBlkT) (paB s).1).d v:=C.up _ _ (C.less hC (fun b q hq=>hfin b q hq) rfl)
 show C X w' σ (.tu [(V.t (.sl tyBlkT) (paB s).1).d,.v (.int .i64 (paB s).2.1),.v (.int .i64 (paB s).2.2)]) _
 simp only [C,Cs]
 exact ⟨_,rfl,_,_,rfl,hv,_,_,rfl,⟨rfl,rfl⟩,_,_,rfl,⟨rfl,rfl⟩,rfl⟩
end
end Go.Proofs.YtkkoedniahnneaaDoor.K
namespace Go.Proofs
open Go.Shelf
def Tryd.lays154_ren:Go.Shelf.Ren:=⟨fun|154=>153|138=>56|165=>126|143=>100|166=>60|197=>167|169=>55|195=>98|218=>99|240=>108|241=>152|219=>128|260=>172|276=>132|277=>166|217=>154|225=>155|224=>156|267=>157|266=>168|314=>169|n=>n,fun|9=>9|3=>3|4=>4|72=>75|0=>0|76=>84|105=>176|21=>21|5=>5|70=>73|20=>20|37=>28|75=>83|127=>127|164=>154|46=>148|119=>184|139=>187|138=>186|146=>169|51=>168|80=>77|n=>n,fun|1=>0|3=>1|4=>2|n=>n⟩
theorem Tryd.lays154:Go.Proofs.Lays.n154 Tryd.prog Tryd.lays154_ren:={
 mixed:=by kernel_rfl
 f138:=Tryd.func56.trans (congrArg some (by kernel_rfl))
 f143:=Tryd.func100.trans (congrArg some (by kernel_rfl))
 f154:=Tryd.func153.trans (congrArg some (by kernel_rfl))
 f165:=Tryd.func126.trans (congrArg some (by kernel_rfl))
 f166:=Tryd.func60.trans (congrArg some (by kernel_rfl))
 f169:=Tryd.func55.trans (congrArg some (by kernel_rfl))
 f195:=Tryd.func98.trans (congrArg some (by kernel_rfl))
 f197:=Tryd.func167.trans (congrArg some (by kernel_rfl))
 f217:=Tryd.func154.trans (congrArg some (by kernel_rfl))
 f218:=Tryd.func99.trans (congrArg some (by kernel_rfl))
 f219:=Tryd.func128.trans (congrArg some (by kernel_rfl))
 f224:=Tryd.func156.trans (congrArg some (by kernel_rfl))
 f225:=Tryd.func155.trans (congrArg some (by kernel_rfl))
 f240:=Tryd.func108.trans (congrArg some (by kernel_rfl))
 f241:=Tryd.func152.trans (congrArg some (by kernel_rfl))
 f260:=Tryd.func172.trans (congrArg some (by kernel_rfl))
 f266:=Tryd.func168.trans (congrArg some (by kernel_rfl))
 f267:=Tryd.func157.trans (congrArg some (by kernel_rfl))
 f276:=Tryd.func132.trans (congrArg some (by kernel_rfl))
 f277:=Tryd.func166.trans (congrArg some (by kernel_rfl))
 f314:=Tryd.func169.trans (congrArg some (by kernel_rfl))
 t0:=Tryd.underlying0
 a0:=Tryd.isAgg0
 z0:=Tryd.sizeOf0
 v0:=Tryd.zeroValue0
 t3:=Tryd.underlying3
 a3:=Tryd.isAgg3
 z3:=Tryd.sizeOf3
 v3:=Tryd.zeroValue3
 t4:=Tryd.underlying4
 a4:=Tryd.isAgg4
 z4:=Tryd.sizeOf4
 v4:=Tryd.zeroValue4
 t5:=Tryd.underlying5
 a5:=Tryd.isAgg5
 z5:=Tryd.sizeOf5
 v5:=Tryd.zeroValue5
 t9:=Tryd.underlying9
 a9:=Tryd.isAgg9
 z9:=Tryd.sizeOf9
 v9:=Tryd.zeroValue9
 t20:=Tryd.underlying20
 a20:=Tryd.isAgg20
 z20:=Tryd.sizeOf20
 v20:=Tryd.zeroValue20
 t21:=Tryd.underlying21
 a21:=Tryd.isAgg21
 z21:=Tryd.sizeOf21
 v21:=Tryd.zeroValue21
 t37:=Tryd.underlying28
 a37:=Tryd.isAgg28
 z37:=Tryd.sizeOf28
 v37:=Tryd.zeroValue28
 t46:=Tryd.underlying148
 a46:=Tryd.isAgg148
 z46:=Tryd.sizeOf148
 v46:=Tryd.zeroValue148
 t51:=Tryd.underlying168
 a51:=Tryd.isAgg168
 z51:=Tryd.sizeOf168
 v51:=Tryd.zeroValue168
 t70:=Tryd.underlying73
 a70:=Tryd.isAgg73
 z70:=Tryd.sizeOf73
 v70:=Tryd.zeroValue73
 t72:=Tryd.underlying75
 a72:=Tryd.isAgg75
 z72:=Tryd.sizeOf75
 v72:=Tryd.zeroValue75
 t75:=Tryd.underlying83
 a75:=Tryd.isAgg83
 z75:=Tryd.sizeOf83
 v75:=Tryd.zeroValue83
 t76:=Tryd.underlying84
 a76:=Tryd.isAgg84
 z76:=Tryd.sizeOf84
 v76:=Tryd.zeroValue84
 t105:=Tryd.underlying176
 a105:=Tryd.isAgg176
 z105:=Tryd.sizeOf176
 v105:=Tryd.zeroValue176
 t119:=Tryd.underlying184
 a119:=Tryd.isAgg184
 z119:=Tryd.sizeOf184
 t127:=Tryd.underlying127
 a127:=Tryd.isAgg127
 z127:=Tryd.sizeOf127
 v127:=Tryd.zeroValue127
 t138:=Tryd.underlying186
 a138:=Tryd.isAgg186
 z138:=Tryd.sizeOf186
 v138:=Tryd.zeroValue186
 t139:=Tryd.underlying187
 a139:=Tryd.isAgg187
 z139:=Tryd.sizeOf187
 v139:=Tryd.zeroValue187
 t146:=Tryd.underlying169
 a146:=Tryd.isAgg169
 z146:=Tryd.sizeOf169
 v146:=Tryd.zeroValue169
 t164:=Tryd.underlying154
 a164:=Tryd.isAgg154
 z164:=Tryd.sizeOf154
 v164:=Tryd.zeroValue154
 g1:=by kernel_rfl
 g3:=by kernel_rfl
 g4:=by kernel_rfl}
end Go.Proofs
namespace Go.Proofs.YtkkoedniahnneaaDoor.K
open Go.RowKit Go.Shelf
attribute [local go_sem ↓] Go.wp_at_zero Go.wp_at_succ
def repB (c:UInt8)(n:List UInt8)(l:List UInt8):List UInt8:=l.flatMap fun b=>if b=c then n else [b]
theorem repB_cons (c:UInt8)(n:List UInt8)(b:UInt8)(l:List UInt8):repB c n (b::l)=(if b=c then n else [b])++repB c n l:=rfl
theorem repB_none {c:UInt8}{n:List UInt8}: ∀ {l:List UInt8},l.count c=0->repB c n l=l
 | [],_=>rfl
 |b::l,h=>by
  rw [List.count_cons] at h
  have hb:b≠c:=fun e=>by rw [e] at h;simp at h
  rw [repB_cons,if_neg hb,repB_none (l:=l) (by omega)]
  rfl
theorem index_at: ∀ {l:List UInt8} {c:UInt8},0<l.count c→ ∃ j:Nat,Lib.indexByte l c=j/\j<l.length/\(∀ n,repB c n l=l.take j++(n++repB c n (l.drop (j+1))))/\(l.drop (j+1)).count c+1=l.count c
 | [],_,h=>by simp at h
 |b::l,c,h=>by
  by_cases hb:b=c
  ·subst hb
   refine ⟨0, ?_,by simp,fun n=> ?_, ?_⟩
   ·unfold Lib.indexByte
    simp
   ·rw [repB_cons,if_pos rfl]
    rfl
   ·rw [List.count_cons]
    simp
  ·rw [List.count_cons] at h
   have hbq:(b==c)=false:=beq_eq_false_iff_ne.2 hb
   rw [hbq] at h
   obtain ⟨j,h1,h2,h3,h4⟩:=index_at (l:=l) (c:=c) (by simpa using h)
   refine ⟨j+1, ?_,by rw [List.length_cons];omega,fun n=> ?_, ?_⟩
   ·unfold Lib.indexByte
    rw [h1,hbq,if_neg Bool.false_ne_true,show ((j:Int)== -1)=false from beq_eq_false_iff_ne.2 (by omega),if_neg Bool.false_ne_true]
    rfl
   ·rw [repB_cons,if_neg hb,h3 n]
    rfl
   ·rw [List.count_cons,hbq]
    simpa using h4
theorem repB_len (c:UInt8)(n:List UInt8)(hn:n.length=2): ∀ l:List UInt8,(repB c n l).length=l.length+l.count c
 | []=>rfl
 |b::l=>by
  rw [repB_cons,List.length_append,repB_len c n hn l,List.count_cons,List.length_cons]
  by_cases hb:b=c
  ·rw [if_pos hb,hn]
   simp [hb]
   omega
  ·rw [if_neg hb]
   simp [hb]
   omega
section
variable {P:Program}{ρ:Ren}
set_option maxHeartbeats 16000000 in
set_option maxRecDepth 1000000 in
/-- strings.Replace of one letter by two -/
theorem rep_some (L:Lays.n154 P ρ)(X:Builder.Extra P ρ)(s:ByteArray)(c:UInt8)(new:ByteArray)(w:World)(hs:s.size<=4000000000)(hn2:new.size=2)(hc0:0<(bl s).count c):
  Calls P (ρ.f 154) #[.string s,.string ⟨#[c]⟩,.string new,.int .i64 (-1)] w fun e w'=>e= .returned (.string (mkB (repB c (bl new) (bl s))))/\Below w.heap.size w w':=by
 have hC:=Any.strings_Count_one {L with} s c w
 obtain ⟨old,hold⟩: ∃ old:ByteArray,old=⟨#[c]⟩:=⟨_,rfl⟩
 obtain ⟨K,hK⟩: ∃ K:Nat,K=(bl s).count c:=⟨_,rfl⟩
 have hcc:Lib.countByte s.data.toList c=K:=hK.symm
 rw [hcc] at hC
 have hKs:K<=s.size:=by rw [hK, ← bl_len];exact List.count_le_length
 rw [←hK] at hc0
 have hne:old≠new:=fun e=>by rw [←e,hold] at hn2;have:(⟨#[c]⟩:ByteArray).size=1:=rfl;omega
 have ho1:old.size=1:=by rw [hold];rfl
 have hbeq:(old.toList==new.toList)=false:=(Lib.bytes_beq_false_iff old new).2 hne
 have hnz:((-1:Int)==0)=false:=rfl
 have hcz:((K:Int)==0)=false:=beq_eq_false_iff_ne.2 (by omega)
 have HKC:=Lib.hid hK
 have hod:decide (0<old.size)=true:=decide_eq_true (by omega)
 have hI: ∀ (t:ByteArray) (w:World),Calls P (ρ.f 143) #[.string t,.string old] w fun e w'=>e= .returned (.int .i64 (Lib.indexByte t.data.toList c))/\w'=w:=fun t w=>by rw [hold];exact Any.strings_Index_one {L with} t c w
 have HI:=Lib.hid hI
 rw [←hold] at hC ⊢
 clear hI hold hK hcc hne
 have mixed:=L.mixed
 have t72:=L.t72;have a72:=L.a72;have z72:=L.z72;have v72:=L.v72;have u72:=run_underlying L.t72
 have t70:=L.t70;have a70:=L.a70;have z70:=L.z70;have v70:=L.v70;have u70:=run_underlying L.t70
 have t37:=L.t37;have a37:=L.a37;have z37:=L.z37;have v37:=L.v37;have u37:=run_underlying L.t37
 have t3:=L.t3;have a3:=L.a3;have z3:=L.z3;have v3:=L.v3;have u3:=run_underlying L.t3
 have t9:=L.t9;have a9:=L.a9;have z9:=L.z9;have v9:=L.v9;have u9:=run_underlying L.t9
 have t4:=L.t4;have a4:=L.a4;have z4:=L.z4;have v4:=L.v4;have u4:=run_underlying L.t4
 have e138: ∀ args w,(callFunc (ρ.f 138) args).run P w= .ok (.enter (ρ.f 138) args) w:=enters_of L.f138 (by kernel_rfl) rfl
 have e143: ∀ args w,(callFunc (ρ.f 143) args).run P w= .ok (.enter (ρ.f 143) args) w:=enters_of L.f143 (by kernel_rfl) rfl
 have e165: ∀ args w,(callFunc (ρ.f 165) args).run P w= .ok (.enter (ρ.f 165) args) w:=enters_of L.f165 (by kernel_rfl) rfl
 have e166: ∀ args w,(callFunc (ρ.f 166) args).run P w= .ok (.enter (ρ.f 166) args) w:=enters_of L.f166 (by kernel_rfl) rfl
 have e169: ∀ args w,(callFunc (ρ.f 169) args).run P w= .ok (.enter (ρ.f 169) args) w:=enters_of L.f169 (by kernel_rfl) rfl
 go_enter L.f154,Body.n154_ntmps ρ
 go_wp2_with (first|(go_at_fn (ρ.f 138);refine hC.mono ?_;rintro e w' ⟨rfl,hw⟩;rw [hw]))
 clear hC
 rw [show ((s.size:Int)+(K:Int))=((s.size+K:Nat):Int) from (Int.natCast_add _ _).symm]
 refine (Any.Builder_Grow_fresh {L with} X w.heap.size w.heap.size _ _ (Nat.le_refl _) (heap_alloc_new w _) (by simp) (by omega)).mono ?_
 rintro e w1 ⟨rfl,hb0,hb1⟩
 have H1:=Lib.hid (Or.inr hb0:Lib.IsBuilder (ρ.t 72) (ρ.t 5) w.heap.size w.heap.size (Lib.byteCells []) w1)
 have Hb1:=Lib.hid (((Below.refl w.heap.size w).alloc (Nat.le_refl _) _).trans hb1)
 clear hb0 hb1
 go_wp2_with fail
 go_loopg [11,53] K (fun g s11 s53 wx=> ∃ (i start:Nat) (acc:List UInt8),s53= .int .i64 i/\s11= .int .i64 start/\i+g=K/\start<=s.size∧
  Hid (Lib.IsBuilder (ρ.t 72) (ρ.t 5) w.heap.size w.heap.size (Lib.byteCells acc) wx)/\Hid (Below w.heap.size w wx)/\Hid (acc++repB c (bl new) ((bl s).drop start)=repB c (bl new) (bl s)/\((bl s).drop start).count c=g)/\acc.length<=start+i)
 case atStart=>exact ⟨0,0,[],rfl,rfl,by omega,Nat.zero_le _,H1,Hb1,Lib.hid ⟨rfl,HKC.out.symm⟩,by simp⟩
 case round=>
  obtain ⟨i,start,acc,rfl,rfl,hig,hst,HB,HW,HR,hbd⟩:=hrel
  have hBw:w.heap.size<=wr.heap.size:=HW.out.size
  have c1:(0:Int)<=(start:Int):=by omega
  have c2:(start:Int)<=(s.size:Int):=by omega
  cases gk with
  |zero=>
   have hiK: ¬ ((i:Int)<(K:Int)):=by omega
   go_wp2_with fail
   refine (Any.Builder_WriteString {L with} X w.heap.size w.heap.size _ _ wr HB.out (by rw [Lib.byteCells_length,ByteArray.size_extract];omega) hBw).mono ?_
   rintro e w3 ⟨rfl,h3,hb3⟩
   rw [Lib.strCells_eq,Lib.extract_to_end, ← Lib.byteCells_append] at h3
   have hfin:acc++(bl s).drop start=repB c (bl new) (bl s):=by
    have:=HR.out
    rw [repB_none this.2] at this
    exact this.1
   rw [show s.data.toList=bl s from rfl,hfin] at h3
   have H3:=Lib.hid (Or.inr h3:Lib.IsBuilder (ρ.t 72) (ρ.t 5) w.heap.size w.heap.size _ w3)
   have Hb3:=Lib.hid (HW.out.trans hb3)
   have hBw3:w.heap.size<=w3.heap.size:=Hb3.out.size
   clear h3 hb3 hfin
   go_wp2_with fail
   refine (Any.Builder_String_any {L with} X w.heap.size w.heap.size _ w3 H3.out hBw3).mono ?_
   rintro e w5 ⟨rfl,hb5⟩
   have Hb5:=Lib.hid (Hb3.out.trans hb5)
   clear hb5
   go_wp2
   go_ret
   exact ⟨rfl,Hb5.out⟩
  |succ g=>
   have hiK:(i:Int)<(K:Int):=by omega
   obtain ⟨j,j1,j2,j3,j4⟩:=index_at (l:=(bl s).drop start) (c:=c) (by rw [HR.out.2];omega)
   have j2:j<s.size-start:=by rw [List.length_drop,bl_len] at j2;exact j2
   have c3:(start:Int)<=(start:Int)+(j:Int):=by omega
   have c4:(start:Int)+(j:Int)<=(s.size:Int):=by omega
   have hnext:Lib.byteCells acc++Lib.strCells (s.extract start (start+j))++Lib.strCells new=Lib.byteCells (acc++((bl s).drop start).take j++bl new):=by
    rw [Lib.strCells_eq,Lib.strCells_eq,Lib.extract_data,Nat.add_sub_cancel_left, ← Lib.byteCells_append, ← Lib.byteCells_append]
   have hrep:(acc++((bl s).drop start).take j++bl new)++repB c (bl new) ((bl s).drop (start+j+1))=repB c (bl new) (bl s)/\((bl s).drop (start+j+1)).count c=g:=by
    have h1:=HR.out.1
    have h2:=HR.out.2
    rw [j3,List.drop_drop] at h1
    rw [List.drop_drop] at j4
    rw [show start+j+1=start+(j+1) by omega]
    refine ⟨?_,by omega⟩
    rw [←h1]
    simp only [List.append_assoc]
   have hal:(acc++((bl s).drop start).take j++bl new).length<=(start+j+1)+(i+1):=by
    simp only [List.length_append,List.length_take,List.length_drop,bl_len]
    omega
   have HJ:=Lib.hid j1
   have HAL:=Lib.hid hal
   have Hn:=Lib.hid hnext
   have Hrep:=Lib.hid hrep
   clear hnext hrep HR j1 j3 j4 hal
   go_wp2_with (first|(go_at_fn (ρ.f 143);refine (HI.out _ _).mono ?_;rintro e w' ⟨rfl,hw⟩;rw [hw,Lib.extract_to_end,show s.data.toList=bl s from rfl,HJ.out]))
   refine (Any.Builder_WriteString {L with} X w.heap.size w.heap.size _ (s.extract start (start+j)) wr HB.out (by rw [Lib.byteCells_length,ByteArray.size_extract];omega) hBw).mono ?_
   rintro e w3 ⟨rfl,h3,hb3⟩
   have hBw3:w.heap.size<=w3.heap.size:=Nat.le_trans hBw hb3.size
   have H3:=Lib.hid h3
   have Hb3:=Lib.hid hb3
   clear h3 hb3
   go_wp2_with fail
   refine (Any.Builder_WriteString {L with} X w.heap.size w.heap.size _ new w3 (Or.inr H3.out) (by rw [List.length_append,Lib.byteCells_length,Lib.strCells_length,ByteArray.size_extract];omega) hBw3).mono ?_
   rintro e w4 ⟨rfl,h4,hb4⟩
   rw [Hn.out] at h4
   have H4:=Lib.hid (Or.inr h4:Lib.IsBuilder (ρ.t 72) (ρ.t 5) w.heap.size w.heap.size _ w4)
   have Hb4:=Lib.hid ((HW.out.trans Hb3.out).trans hb4)
   clear h4 hb4
   go_wp2
   go_roundg g
   case measure=>omega
   case rel=>exact ⟨i+1,start+j+1,_,by first|rfl|(simp;unfold wrap64;omega),by first|rfl|simp|(simp;unfold wrap64;omega),by omega,by omega,H4,Hb4,Hrep,HAL.out⟩
set_option maxHeartbeats 4000000 in
set_option maxRecDepth 1000000 in
theorem rep_absent (L:Lays.n154 P ρ)(s:ByteArray)(c:UInt8)(new:ByteArray)(w:World)(hn2:new.size=2)(hc0:(bl s).count c=0):
  Calls P (ρ.f 154) #[.string s,.string ⟨#[c]⟩,.string new,.int .i64 (-1)] w fun e w'=>e= .returned (.string s)/\w'=w:=by
 have hC:=Any.strings_Count_one {L with} s c w
 have hcc:Lib.countByte s.data.toList c=0:=hc0
 rw [hcc] at hC
 obtain ⟨old,hold⟩: ∃ old:ByteArray,old=⟨#[c]⟩:=⟨_,rfl⟩
 have hne:old≠new:=fun e=>by rw [←e,hold] at hn2;have:(⟨#[c]⟩:ByteArray).size=1:=rfl;omega
 have hbeq:(old.toList==new.toList)=false:=(Lib.bytes_beq_false_iff old new).2 hne
 have hnz:((-1:Int)==0)=false:=rfl
 rw [←hold] at hC ⊢
 clear hold hcc hne
 have t3:=L.t3;have a3:=L.a3;have z3:=L.z3;have v3:=L.v3
 have t9:=L.t9;have a9:=L.a9;have z9:=L.z9;have v9:=L.v9
 have t4:=L.t4;have a4:=L.a4;have z4:=L.z4;have v4:=L.v4
 have e138: ∀ args w,(callFunc (ρ.f 138) args).run P w= .ok (.enter (ρ.f 138) args) w:=enters_of L.f138 (by kernel_rfl) rfl
 go_enter L.f154,Body.n154_ntmps ρ
 go_wp2_with (first|(go_at_fn (ρ.f 138);refine hC.mono ?_;rintro e w' ⟨rfl,hw⟩;rw [hw]))
 go_ret
 exact ⟨rfl,rfl⟩
end
theorem bX2:Builder.Extra Tryd.prog Tryd.lays154_ren where
 sizeBuilder:=by kernel_rfl
 liesBuilder:=by kernel_rfl
 t5:=Tryd.lays105.t5
 a5:=Tryd.lays105.a5
 z5:=Tryd.lays105.z5
 v5:=Tryd.lays105.v5
 infoByte:=by kernel_rfl
 cellsByte:=by kernel_rfl
 sizeByte:=by kernel_rfl
 neB5:=by decide
noncomputable section
def esB (l:List UInt8):List UInt8:=l.flatMap fun b=>if b=34 then [92,34] else if b=92 then [92,92] else [b]
theorem esB_cons (b:UInt8)(l:List UInt8):esB (b::l)=(if b=34 then [92,34] else if b=92 then [92,92] else [b])++esB l:=rfl
theorem repB_app (c:UInt8)(n a b:List UInt8):repB c n (a++b)=repB c n a++repB c n b:=List.flatMap_append
theorem rp2: ∀ l:List UInt8,repB 34 [92,34] (repB 92 [92,92] l)=esB l
 | []=>rfl
 |b::l=>by
  rw [repB_cons,repB_app,rp2 l,esB_cons]
  congr 1
  by_cases h1:b=92
  ·subst h1
   rfl
  ·rw [if_neg h1,repB_cons]
   exact List.append_nil _
theorem byI_34 (b:UInt8):ieq ((b.toNat:Nat):Int) 34=decide (b=34):=by
 simp only [ieq]
 rw [Bool.eq_iff_iff,beq_iff_eq,decide_eq_true_eq, ← UInt8.toNat_inj]
 show _↔b.toNat=34
 omega
theorem byI_92 (b:UInt8):ieq ((b.toNat:Nat):Int) 92=decide (b=92):=by
 simp only [ieq]
 rw [Bool.eq_iff_iff,beq_iff_eq,decide_eq_true_eq, ← UInt8.toNat_inj]
 show _↔b.toNat=92
 omega
abbrev byI (b:UInt8):Int:=((b.toNat:Nat):Int)
theorem escL_bl: ∀ l:List UInt8,escL (l.map byI)=(esB l).map byI
 | []=>rfl
 |b::l=>by
  rw [List.map_cons,escL_cons,escL_bl l,esB_cons,List.map_append]
  congr 1
  unfold escI
  rw [show byI b=((b.toNat:Nat):Int) from rfl,byI_34,byI_92]
  by_cases h1:b=34
  ·subst h1
   rfl
  ·by_cases h2:b=92
   ·subst h2
    rfl
   ·rw [decide_eq_false h1,decide_eq_false h2,if_neg h1,if_neg h2]
    rfl
theorem qtI_bl (s:ByteArray):qtI s=([34]++esB (bl s)++[34]).map byI:=by
 unfold qtI
 rw [bytesL_bl,escL_bl,List.map_append,List.map_append]
 rfl
theorem strOf_map (l:List UInt8):bl (strOf (l.map byI))=l:=by
 show ((l.map byI).map fun n=>UInt8.ofNat n.toNat).toArray.toList=l
 rw [List.map_map]
 have:((fun n:Int=>UInt8.ofNat n.toNat) ∘ byI)=id:=by
  funext b
  show UInt8.ofNat (((b.toNat:Nat):Int)).toNat=b
  rw [Int.toNat_natCast,UInt8.ofNat_toNat]
 rw [this,List.map_id]
def rpF (s old new:ByteArray):ByteArray:=mkB (repB (old.data.toList.headD 0) (bl new) (bl s))
def rplF (s old new:ByteArray)(_n:Int):ByteArray:=rpF s old new
def rpOk (s old new:ByteArray):Bool:=decide (s.size<=4000000000/\old.size=1/\new.size=2)
def rplOk (s old new:ByteArray)(n:Int):Bool:=rpOk s old new&&decide (n= -1)
def sp_f153:Ent:=spec (.pr .str (.pr .str (.pr .str (.pr tI .nil)))) (fun x=>(rplOk x.1 x.2.1 x.2.2.1 x.2.2.2.1)) (fun x=>(.t .str (rplF x.1 x.2.1 x.2.2.1 x.2.2.2.1)))
theorem en_f153:Entered Tryd.prog 153:= .inr ⟨by decide,_,Tryd.func153,by kernel_rfl,by kernel_rfl⟩
theorem ms_f153:Meets Tryd.prog 153 (strip sp_f153):=meets_calls fun x hok X w σ vs hfin hc=>by
 obtain ⟨s,⟨d⟩,new,n,u⟩:=x
 obtain ⟨h1,h2⟩:=Bool.and_eq_true_iff.1 hok
 obtain ⟨h1,h3,h4⟩:=of_decide_eq_true h1
 obtain rfl:n= -1:=of_decide_eq_true h2
 obtain ⟨c,rfl⟩:=one_byte (show d.size=1 from h3)
 simp only [Ty.canon,V.ds,V.d,Ty.d,Cs,C] at hc
 obtain ⟨v1,r1,rfl,⟨rfl,_⟩,v2,r2,rfl,⟨rfl,_⟩,v3,r3,rfl,⟨rfl,_⟩,v4,r4,rfl,⟨rfl,_⟩,rfl⟩:=hc
 rcases Nat.eq_zero_or_pos ((bl s).count c) with h0|h0
 ·refine (rep_absent Tryd.lays154 s c new w h4 h0).mono ?_
  rintro e w' ⟨rfl,rfl⟩
  refine ⟨_,rfl, ?_,Below.refl _ _⟩
  simp only [V.d,Ty.d,C]
  have:rplF s ⟨#[c]⟩ new (-1)=s:=by
   show mkB (repB c (bl new) (bl s))=s
   rw [repB_none h0]
  rw [this]
  exact ⟨rfl,rfl⟩
 ·refine (rep_some Tryd.lays154 bX2 s c new w h1 h4 h0).mono ?_
  rintro e w' ⟨rfl,hb⟩
  refine ⟨_,rfl, ?_,hb⟩
  simp only [V.d,Ty.d,C]
  exact ⟨rfl,rfl⟩
def tc_f127:TC:=(.sq (.reg [(oP 6 (.mv (.c (.v (.string (ByteArray.mk #[]))))))]) (.sq (.reg [(oV 7 0),(oV 8 1),(oV 9 2),(oC 10 153 [(.t 7),(.t 8),(.t 9),(cI (-1))]),(oV 6 10)]) .rt))
def rv_f127:List (RV×Option Ty):=[((.t 6),some .str)]
def g_f127:G:=⟨TYs,[],11,EL [(153,sp_f153)],keeps,(fun _ _=>none),IL [],RL []⟩
def r_f127 (p0:ByteArray)(p1:ByteArray)(p2:ByteArray):Option (V×List VO):=
 br ((rplOk p0 p1 p2 (-1)))
  (some (.t .str (rplF p0 p1 p2 (-1)),[]))
  (none)
theorem e_f127 (p0:ByteArray)(p1:ByteArray)(p2:ByteArray):runF g_f127 tc_f127 rv_f127 false [.t .str p0,.t .str p1,.t .str p2] []=r_f127 p0 p1 p2:=by kernel_rfl
theorem ok_f127:Option.map (trC Tryd.prog) Tryd.f127.body=some tc_f127.er:=by kernel_rfl
theorem rok_f127:trVs Tryd.prog Tryd.f127.results.toList=some (rv_f127.map Prod.fst):=by kernel_rfl
theorem en_f127:Entered Tryd.prog 127:= .inr ⟨by decide,_,Tryd.func127,by kernel_rfl,by kernel_rfl⟩
theorem gk_f127:GOk Tryd.prog g_f127:=gok_of _ (by
 intro p hp
 simp only [List.mem_cons,List.not_mem_nil,or_false] at hp
 rcases hp with rfl
 ·exact ⟨en_f153,ms_f153⟩)
theorem lk_f127:tc_f127.lok g_f127:=by repeat (first|exact trivial|refine ⟨?_, ?_⟩)
theorem s_f127 (s old new:ByteArray)(h:rpOk s old new=true):r_f127 s old new=some (.t .str (rpF s old new),[]):=by
 unfold r_f127
 exact brY (Bool.and_eq_true_iff.2 ⟨h,rfl⟩) rfl
def sp_f127:Ent:=spec (.pr .str (.pr .str (.pr .str .nil))) (fun x=>(rpOk x.1 x.2.1 x.2.2.1)) (fun x=>(.t .str (rpF x.1 x.2.1 x.2.2.1)))
theorem ms_f127:Meets Tryd.prog 127 (strip sp_f127):=by
 obtain ⟨c,hc,hi⟩:=Option.map_eq_some_iff.1 ok_f127
 exact meets_spec (R:=runF g_f127 tc_f127 rv_f127 false) (meets_of (by decide) Tryd.func127 hc hi Tryd.ntmps127 rok_f127 gk_f127 lk_f127 mixed) fun x hok=>(e_f127 x.1 x.2.1 x.2.2.1).trans (s_f127 x.1 x.2.1 x.2.2.1 hok)
def tc_f97:TC:=(.sq (.reg [(oP 2 (.mv (.c (.v (.string (ByteArray.mk #[]))))))]) (.sq (.sq (.reg [(oV 6 0),(oC 7 114 [(.t 6)]),(oV 5 7),(oP 8 (.ext 0 (.t 5))),(oP 9 (.ext 1 (.t 5))),(oV 3 8),(oV 4 9)]) (.sq (.reg [(oV 10 4)]) (.cd (.t 10) (.sq (.reg [(oV 11 0),(oV 2 11)]) .rt) .sk))) (.sq (.reg [(oV 12 0),(oC 13 127 [(.t 12),(.c (.v (.string (ByteArray.mk #[92])))),(.c (.v (.string (ByteArray.mk #[92,92]))))]),(oC 14 127 [(.t 13),(.c (.v (.string (ByteArray.mk #[34])))),(.c (.v (.string (ByteArray.mk #[92,34]))))]),(oP 15 (.bin false .add (.c (.v (.string (ByteArray.mk #[34])))) (.t 14))),(oP 16 (.bin false .add (.t 15) (.c (.v (.string (ByteArray.mk #[34])))))),(oV 2 16)]) .rt)))
def rv_f97:List (RV×Option Ty):=[((.t 2),some .str)]
def g_f97:G:=⟨TYs,[],17,EL [(114,sp_f114),(127,sp_f127)],keeps,(fun _ _=>none),IL [],RL []⟩
def r_f97 (p0:ByteArray):Option (V×List VO):=
 br ((wdOk p0))
  (br ((wdF p0).2)
   (some (.t .str p0,[]))
   (br ((rpOk p0 (ByteArray.mk #[92]) (ByteArray.mk #[92,92])))
    (br ((rpOk (rpF p0 (ByteArray.mk #[92]) (ByteArray.mk #[92,92])) (ByteArray.mk #[34]) (ByteArray.mk #[92,34])))
     (br (cCat (ByteArray.mk #[34]) (rpF (rpF p0 (ByteArray.mk #[92]) (ByteArray.mk #[92,92])) (ByteArray.mk #[34]) (ByteArray.mk #[92,34])))
      (br (cCat (scat (ByteArray.mk #[34]) (rpF (rpF p0 (ByteArray.mk #[92]) (ByteArray.mk #[92,92])) (ByteArray.mk #[34]) (ByteArray.mk #[92,34]))) (ByteArray.mk #[34]))
       (some (.t .str (scat (scat (ByteArray.mk #[34]) (rpF (rpF p0 (ByteArray.mk #[92]) (ByteArray.mk #[92,92])) (ByteArray.mk #[34]) (ByteArray.mk #[92,34]))) (ByteArray.mk #[34])),[]))
       (none))
      (none))
     (none))
    (none)))
  (none)
theorem e_f97 (p0:ByteArray):runF g_f97 tc_f97 rv_f97 false [.t .str p0] []=r_f97 p0:=by kernel_rfl
theorem ok_f97:Option.map (trC Tryd.prog) Tryd.f97.body=some tc_f97.er:=by kernel_rfl
theorem rok_f97:trVs Tryd.prog Tryd.f97.results.toList=some (rv_f97.map Prod.fst):=by kernel_rfl
theorem gk_f97:GOk Tryd.prog g_f97:=gok_of _ (by
 intro p hp
 simp only [List.mem_cons,List.not_mem_nil,or_false] at hp
 rcases hp with rfl|rfl
 ·exact ⟨en_f114,ms_f114⟩
 ·exact ⟨en_f127,ms_f127⟩)
theorem lk_f97:tc_f97.lok g_f97:=by repeat (first|exact trivial|refine ⟨?_, ?_⟩)
theorem s_f97 (s:ByteArray)(h:wsz s=true):r_f97 s=some (.t .str (qtF s),[]):=by
 have h0:s.size<=2000000000:=of_decide_eq_true h
 unfold r_f97 qtF
 have hd:rpOk s (ByteArray.mk #[92]) (ByteArray.mk #[92,92])=true:=decide_eq_true ⟨by omega,rfl,rfl⟩
 have l1:(repB 92 [92,92] (bl s)).length<=2*s.size:=by
  rw [repB_len 92 [92,92] rfl, ← bl_len]
  have:(bl s).count 92<=(bl s).length:=List.count_le_length
  omega
 have l2:(repB 34 [92,34] (repB 92 [92,92] (bl s))).length<=4*s.size:=by
  rw [repB_len 34 [92,34] rfl]
  have:(repB 92 [92,92] (bl s)).count 34<=(repB 92 [92,92] (bl s)).length:=List.count_le_length
  omega
 have e1:rpF s (ByteArray.mk #[92]) (ByteArray.mk #[92,92])=mkB (repB 92 [92,92] (bl s)):=rfl
 have e2:rpF (mkB (repB 92 [92,92] (bl s))) (ByteArray.mk #[34]) (ByteArray.mk #[92,34])=mkB (repB 34 [92,34] (repB 92 [92,92] (bl s))):=rfl
 have z1:(mkB (repB 92 [92,92] (bl s))).size=(repB 92 [92,92] (bl s)).length:=rfl
 have z2:(mkB (repB 34 [92,34] (repB 92 [92,92] (bl s)))).size=(repB 34 [92,34] (repB 92 [92,92] (bl s))).length:=rfl
 have hd2:rpOk (mkB (repB 92 [92,92] (bl s))) (ByteArray.mk #[34]) (ByteArray.mk #[92,34])=true:=decide_eq_true ⟨by omega,rfl,rfl⟩
 rw [e1,e2]
 refine brY (decide_eq_true (by omega)) ?_
 show br (plnB s) _ _=_
 cases plnB s with
 |true=>rfl
 |false=>
  rw [br_false,cond_false]
  refine brY hd (brY hd2 (brY (decide_eq_true ?_) (brY (decide_eq_true ?_) ?_)))
  ·rw [z2]
   show 1+_<=_
   omega
  ·rw [show (scat (ByteArray.mk #[34]) (mkB (repB 34 [92,34] (repB 92 [92,92] (bl s))))).size=1+(mkB (repB 34 [92,34] (repB 92 [92,92] (bl s)))).size from ByteArray.size_append,z2]
   show 1+_+1<=_
   omega
  ·have:scat (scat (ByteArray.mk #[34]) (mkB (repB 34 [92,34] (repB 92 [92,92] (bl s))))) (ByteArray.mk #[34])=strOf (qtI s):=by
    refine bl_ext ?_
    rw [qtI_bl,strOf_map,bl_app,bl_app,rp2]
   rw [this]
def sp_f97:Ent:=spec (.pr .str .nil) (fun x=>(wsz x.1)) (fun x=>(.t .str (qtF x.1)))
theorem ms_f97:Meets Tryd.prog 97 (strip sp_f97):=by
 obtain ⟨c,hc,hi⟩:=Option.map_eq_some_iff.1 ok_f97
 exact meets_spec (R:=runF g_f97 tc_f97 rv_f97 false) (meets_of (by decide) Tryd.func97 hc hi Tryd.ntmps97 rok_f97 gk_f97 lk_f97 mixed) fun x hok=>(e_f97 x.1).trans (s_f97 x.1 hok)
end
end Go.Proofs.YtkkoedniahnneaaDoor.K
namespace Go.Proofs.YtkkoedniahnneaaDoor.K
open Go.RowKit Go.Shelf
noncomputable section
set_option linter.unusedSectionVars false
theorem Bld.below {w w':World}{b:Nat}{l:List UInt8}(h:Bld w b l)(hb:Below w.heap.size w w'):Bld w' b l:=by
 have hlt:=h.lt
 unfold Bld Lib.IsBuilderF Lib.BuilderAtF at h ⊢
 rcases h with ⟨hB,v,hv,hown,hne⟩|⟨hB,v,hv,hown,hne⟩
 ·exact .inl ⟨hB,v,(hb.block b hlt).trans hv,hown.kept (row:=none) ⟨hb.os,hb.tape,hb.output,hb.size,fun k hk _=>hb.block k hk⟩ (Classical.em _),hne⟩
 ·exact .inr ⟨hB,v,(hb.block b hlt).trans hv,hown.kept (row:=none) ⟨hb.os,hb.tape,hb.output,hb.size,fun k hk _=>hb.block k hk⟩ (Classical.em _),hne⟩
def BI (w:World)(b:Nat)(L:List Int):Prop:= ∃ U:List UInt8,Bld w b U/\U.map byI=L
theorem BI.alloc {w:World}{b:Nat}{L:List Int}(h:BI w b L)(o:Obj):BI (w.alloc o) b L:=by obtain ⟨U,h,e⟩:=h;exact ⟨U,h.alloc o,e⟩
theorem BI.below {w w':World}{b:Nat}{L:List Int}(h:BI w b L)(hb:Below w.heap.size w w'):BI w' b L:=by obtain ⟨U,h,e⟩:=h;exact ⟨U,h.below hb,e⟩
theorem BI.lt {w:World}{b:Nat}{L:List Int}(h:BI w b L):b<w.heap.size:=by obtain ⟨U,h,e⟩:=h;exact h.lt
theorem BI.new_ (w:World):BI (w.alloc (.cells #[.pointer none,.slice none 0 0] 75)) w.heap.size []:=⟨[],Bld.new w,rfl⟩
theorem wr_calls {b:Nat}{L:List Int}{s:ByteArray}{w:World}(h:BI w b L)(hlen:L.length+s.size<=140737488355328):
  Calls Tryd.prog 60 #[.pointer (some ⟨b,0,none⟩),.string s] w fun e w'=>e= .returned (.tuple #[.int .i64 s.size,.nilIface])/\BI w' b (L++bytesL s)/\Below b w w'/\Lib.OthersKept 5 (some b) w w':=by
 obtain ⟨U,h,rfl⟩:=h
 rw [List.length_map] at hlen
 refine (write_calls b U s w h hlen).mono ?_
 rintro e w' ⟨rfl,h1,h2,h3⟩
 exact ⟨rfl,⟨_,h1,by rw [List.map_append];rfl⟩,h2,h3⟩
theorem strI_calls {b:Nat}{L:List Int}{w:World}(h:BI w b L):Calls Tryd.prog 55 #[.pointer (some ⟨b,0,none⟩)] w fun e w'=>e= .returned (.string (strOf L))/\Below b w w':=by
 obtain ⟨U,h,rfl⟩:=h
 refine (str_calls b U w h).mono ?_
 rintro e w' ⟨rfl,h1⟩
 refine ⟨?_,h1⟩
 rw [show strOf (U.map byI)=mkB U from bl_ext (strOf_map U)]
theorem rep_ind: ∀ n:Nat,(Lib.repeatL (ByteArray.mk #[32,32]).data.toList n).map byI=indL n
 |0=>rfl
 |n+1=>by
  have ih:=rep_ind n
  unfold Lib.repeatL
  rw [List.map_append,ih]
  unfold indL
  rw [show 2*(n+1)=2*n+1+1 by omega,List.replicate_succ,List.replicate_succ]
  rfl
theorem rep_calls (n:Nat)(w:World)(h:n<=10000000):Calls Tryd.prog 96 #[.string ⟨#[32,32]⟩,.int .i64 n] w fun e w'=> ∃ t:ByteArray,e= .returned (.string t)/\bytesL t=indL n/\t.size=2*n/\Below w.heap.size w w':=by
 refine (Any.strings_Repeat Tryd.lays105 bX (ByteArray.mk #[32,32]) n w (by omega) (by show 2*n<=_;omega)).mono ?_
 rintro e w' ⟨rfl,hb⟩
 have e1:bytesL ⟨(Lib.repeatL (ByteArray.mk #[32,32]).data.toList n).toArray⟩=indL n:=rep_ind n
 refine ⟨_,rfl,e1, ?_,hb⟩
 have:=congrArg List.length e1
 rw [show (bytesL (⟨(Lib.repeatL (ByteArray.mk #[32,32]).data.toList n).toArray⟩:ByteArray)).length=_ from bytesG_len _] at this
 rw [this]
 unfold indL
 rw [List.length_replicate]
theorem written_calls (s:ByteArray)(w:World)(h:wsz s=true):Calls Tryd.prog 97 #[.string s] w fun e w'=>e= .returned (.string (qtF s))/\Below w.heap.size w w':=by
 have hF:strip sp_f97 [.t .str s] []=some (.t .str (qtF s),[]):=by
  unfold sp_f97
  exact strip_spec (a:= .pr .str .nil) (x:=(s,())) (by simp [Ty.args,as_t]) h
 refine (sc_calls ms_f97 hF w fun X=>⟨_,_,rfl,⟨rfl,rfl⟩,rfl⟩).mono ?_
 rintro en w' ⟨u,X',σ',rfl,h1,h2⟩
 have h1:C X' w' σ' (.v (.string (qtF s))) u:=h1
 simp only [C] at h1
 obtain ⟨rfl,_⟩:=h1
 exact ⟨rfl,h2⟩
theorem flat_at {α:Type}(f:α->List D)(m:Nat)(hf: ∀ x,(f x).length=m): ∀ (l:List α) (k:Nat) (x:α),l[k]? = some x->((l.flatMap f).drop (k*m)).take m=f x
 | [],k,x,h=>by simp at h
 |y::l,0,x,h=>by
  simp only [List.getElem?_cons_zero,Option.some.injEq] at h
  subst h
  rw [Nat.zero_mul,List.drop_zero,List.flatMap_cons, ← hf y,List.take_left]
 |y::l,k+1,x,h=>by
  simp only [List.getElem?_cons_succ] at h
  rw [List.flatMap_cons,Nat.succ_mul,Nat.add_comm,List.drop_append,List.drop_eq_nil_of_le (by rw [hf];omega),hf y,Nat.add_sub_cancel_left,List.nil_append]
  exact flat_at f m hf l k x h
theorem row_at {X:Nat->Nat->Prop}{w:World}{l:List BlkT}{sv:Value}(h:C X w nowhere (.sl l.length (l.flatMap tyBlkT.cells)) sv){k:Nat}{x:BlkT}(hx:l[k]? = some x):
  ∃ g off c Aw nw cw Ai ni ci,sv= .slice (some ⟨g,off,none⟩) l.length c/\g<w.heap.size/\w.cell? ⟨g,off+k*4,none⟩=some (.slice Aw nw cw)/\w.cell? ⟨g,off+k*4+1,none⟩=some (.bool x.2.1)/\w.cell? ⟨g,off+k*4+2,none⟩=some (.slice Ai ni ci)/\w.cell? ⟨g,off+k*4+3,none⟩=some (.int .i64 x.2.2.2.1)∧
   C X w nowhere (.sl x.1.length (x.1.flatMap (Ty.cells .str))) (.slice Aw nw cw)/\C X w nowhere (.sl (x.2.2.1.map Blk.un).length ((x.2.2.1.map Blk.un).flatMap tyBlkT.cells)) (.slice Ai ni ci):=by
 have hk:k<l.length:=(List.getElem?_eq_some_iff.1 hx).1
 simp only [C] at h
 obtain ⟨A,c,rfl,_,_,_,h6⟩:=h
 obtain ⟨g,off,vs,rfl,hcs,hfx⟩:=h6 (by omega)
 have h1:=(hcs.drop_ (k*4)).take_ 4
 rw [flat_at tyBlkT.cells 4 (fun x=>Ty.cells_len tyBlkT x) l k x hx] at h1
 have h1:Cs X w nowhere [.sl x.1.length (x.1.flatMap (Ty.cells .str)),.v (.bool x.2.1),.sl x.2.2.1.length (Blk.dss x.2.2.1),.v (.int .i64 x.2.2.2.1)] ((vs.drop (k*4)).take 4):=h1
 simp only [Cs] at h1
 obtain ⟨u1,r1,e1,q1,u2,r2,rfl,q2,u3,r3,rfl,q3,u4,r4,rfl,q4,rfl⟩:=h1
 have q2:=(C.v q2).1
 have q4:=(C.v q4).1
 subst q2 q4
 have hw: ∃ A n c,u1= .slice A n c:=by simp only [C] at q1;obtain ⟨A,c,rfl,_⟩:=q1;exact ⟨_,_,_,rfl⟩
 have hi: ∃ A n c,u3= .slice A n c:=by simp only [C] at q3;obtain ⟨A,c,rfl,_⟩:=q3;exact ⟨_,_,_,rfl⟩
 obtain ⟨Aw,nw,cw,rfl⟩:=hw
 obtain ⟨Ai,ni,ci,rfl⟩:=hi
 have at_: ∀ (i:Nat) u,i<4->([Value.slice Aw nw cw,.bool x.2.1,.slice Ai ni ci,.int .i64 x.2.2.2.1]:List Value)[i]? = some u->w.cell? ⟨g,off+k*4+i,none⟩=some u:=fun i u hi hu=>by
  rw [←e1,List.getElem?_take_of_lt hi,List.getElem?_drop] at hu
  have:=hfx.at_ (k*4+i) u hu
  rwa [←Nat.add_assoc] at this
 refine ⟨g,off,c,Aw,nw,cw,Ai,ni,ci,rfl,hfx.lt,at_ 0 _ (by omega) rfl,at_ 1 _ (by omega) rfl,at_ 2 _ (by omega) rfl,at_ 3 _ (by omega) rfl,q1, ?_⟩
 have:=blks_sl x.2.2.1
 have h3:C X w nowhere (V.t (.sl tyBlkT) (x.2.2.1.map Blk.un)).d (.slice Ai ni ci):=by rw [this];exact q3
 exact h3
theorem wd_at {X:Nat->Nat->Prop}{w:World}{l:List ByteArray}{A:Option Addr}{n c:Nat}(h:C X w nowhere (.sl l.length (l.flatMap (Ty.cells .str))) (.slice A n c)):
  n=l.length∧ ∀ (k:Nat) (s:ByteArray),l[k]? = some s→ ∃ g off,A=some ⟨g,off,none⟩/\w.cell? ⟨g,off+k,none⟩=some (.string s):=by
 simp only [C] at h
 obtain ⟨A',c',e,_,_,_,h6⟩:=h
 injection e with e1 e2 e3
 subst e1 e2
 refine ⟨rfl,fun k s hs=> ?_⟩
 have hk:k<l.length:=(List.getElem?_eq_some_iff.1 hs).1
 obtain ⟨g,off,vs,rfl,hcs,hfx⟩:=h6 (by omega)
 have hv:=cs_strs' _ _ hcs
 subst hv
 exact ⟨g,off,rfl,hfx.at_ k (.string s) (by rw [List.getElem?_map,hs];rfl)⟩
end
end Go.Proofs.YtkkoedniahnneaaDoor.K
