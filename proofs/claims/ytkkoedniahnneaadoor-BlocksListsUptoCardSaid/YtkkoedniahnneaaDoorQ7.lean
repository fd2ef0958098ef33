import Derived.Test.YtkkoedniahnneaaDoorQ6
set_option linter.unusedSimpArgs false
set_option linter.unusedVariables false
namespace Go.Proofs.YtkkoedniahnneaaDoor.K.ZZ
open Go.RowKit
noncomputable section
set_option linter.unusedSectionVars false
def blT (_:List Int)(_:List BlkT)(_:ByteArray):Bool:=true
def blOk (_:List Int)(l:List BlkT)(_:ByteArray):Bool:=cP (buOk l)
def bl0 (raw x o:List BlkT)(_w:ByteArray)(i:Int):Bool:=cP (pntOk raw=true/\pntOk x=true/\0<=i/\i<=2/\o.length<=100000)
def fg_f8_0:Fg:=⟨[(1,some (.sl tyBlkT)),(8,some (.sl tyBlkT)),(9,some (.sl tyBlkT)),(10,some .str),(11,some tI)],[]⟩
def tb_f8_0:TC:=(.sq (.sq (.reg [(oV 40 11),(oP 41 (.bin false .lss (.t 40) (cI 2)))]) (.cd (.t 41) .sk (.fg ⟨[],[]⟩ (.ex 0)))) (.sq (.bk 1 (.sq (.reg [(oV 45 8),(oC 46 24 [(.t 45)]),(oV 44 46),(oP 47 (.ext 0 (.t 44))),(oP 48 (.ext 1 (.t 44))),(oV 12 47),(oV 13 48)]) (.sq (.reg [(oV 50 8),(oC 51 25 [(.t 50)]),(oV 49 51),(oP 52 (.ext 0 (.t 49))),(oP 53 (.ext 1 (.t 49))),(oV 14 52),(oV 15 53)]) (.sq (.sq (.reg [(oV 54 13),(oV 55 15),(oP 56 (.bin false .neq (.t 54) (.t 55))),(oV 57 56),(oQ 58 57 false (.mv (.t 12))),(oQ 59 57 false (.mv (.t 14))),(oQ 60 57 false (.bin false .neq (.t 58) (.t 59))),(oP 61 (.pick (.t 57) (cB true) (.t 60))),(oV 62 61),(oQ 63 62 false (.mv (.t 8))),(oG 64 62 false (.call 33 [(.t 63)])),(oQ 65 62 false (.mv (.t 8))),(oG 66 62 false (.call 34 [(.t 65)])),(oQ 67 62 false (.bin false .neq (.t 64) (.t 66))),(oP 68 (.pick (.t 62) (cB true) (.t 67))),(oV 69 68),(oQ 70 69 false (.mv (.t 8))),(oG 71 69 false (.call 35 [(.t 70)])),(oQ 72 69 false (.mv (.t 8))),(oG 73 69 false (.call 36 [(.t 72)])),(oQ 74 69 false (.bin false .neq (.t 71) (.t 73))),(oP 75 (.pick (.t 69) (cB true) (.t 74))),(oV 76 75),(oQ 77 76 false (.mv (.t 8))),(oQ 78 76 false (.mv (.t 10))),(oG 79 76 false (.call 38 [(.t 77),(.t 78)])),(oQ 80 76 false (.mv (.t 8))),(oQ 81 76 false (.mv (.t 10))),(oG 82 76 false (.call 39 [(.t 80),(.t 81)])),(oG 83 76 false (.call 37 [(.t 79),(.t 82)])),(oQ 84 76 false (.nt (.t 83))),(oP 85 (.pick (.t 76) (cB true) (.t 84))),(oV 86 85),(oQ 87 86 false (.mv (.t 8))),(oQ 88 86 false (.mv (.t 9))),(oG 89 86 false (.call 40 [(.t 87),(.t 88)])),(oQ 90 86 false (.mv (.t 8))),(oQ 91 86 false (.mv (.t 9))),(oG 92 86 false (.call 41 [(.t 90),(.t 91)])),(oQ 93 86 false (.bin true .neq (.t 89) (.t 92))),(oP 94 (.pick (.t 86) (cB true) (.t 93))),(oV 95 94),(oQ 96 95 false (.mv (.t 8))),(oQ 97 95 false (.mv (.t 8))),(oG 98 95 false (.call 40 [(.t 96),(.t 97)])),(oQ 99 95 false (.nt (.t 98))),(oP 100 (.pick (.t 95) (cB true) (.t 99)))]) (.cd (.t 100) (.sq (.reg [(oP 6 (.mv (cB false)))]) (.fg ⟨[(6,some .bool)],[]⟩ .rt)) .sk)) (.reg [(oV 101 1),(oV 8 101)]))))) (.reg [(oV 42 11),(oP 43 (.bin false .add (.t 42) (cI 1))),(oV 11 43)])))
def tc_f8:TC:=(.sq (.reg [(oP 6 (.mv (cB false)))]) (.sq (.sq (.reg [(oV 16 0),(oC 17 13 [(.t 16)]),(oP 18 (.nt (.t 17))),(oV 19 18),(oQ 20 19 false (.mv (.t 1))),(oG 21 19 false (.call 30 [(.t 20),(cI 200)])),(oQ 22 19 false (.bin false .gtr (.t 21) (cI 200))),(oP 23 (.pick (.t 19) (cB true) (.t 22))),(oV 24 23),(oQ 25 24 false (.mv (.t 2))),(oQ 26 24 false (.len true (.t 25))),(oQ 27 24 false (.bin false .gtr (.t 26) (cI 100))),(oP 28 (.pick (.t 24) (cB true) (.t 27)))]) (.cd (.t 28) (.sq (.reg [(oC 29 21 []),(oV 6 29)]) .rt) .sk)) (.sq (.reg [(oV 30 0),(oC 31 15 [(.t 30)]),(oV 7 31)]) (.sq (.reg [(oV 32 7),(oC 33 31 [(.t 32),(cI 3)]),(oV 34 7),(oC 35 31 [(.t 34),(cI 1)]),(oV 8 33),(oV 9 35)]) (.sq (.reg [(oV 36 7),(oV 37 2),(oM 38 (.bs 9 1 3 [(.v (.string (ByteArray.mk #[]))),(.v (.string (ByteArray.mk #[]))),(.v (.string (ByteArray.mk #[])))] [(0,1,(.c (.v (.string (ByteArray.mk #[115,101,114,118,101,114]))))),(1,1,(.c (.v (.string (ByteArray.mk #[97]))))),(2,1,(.t 37))])),(oC 39 32 [(.t 36),(.t 38)]),(oV 10 39)]) (.sq (.sq (.reg [(oP 11 (.mv (cI 0)))]) (.bk 0 (.lp 0 fg_f8_0 tb_f8_0))) (.sq (.reg [(oC 102 21 []),(oV 6 102)]) .rt)))))))
def rv_f8:List (RV×Option Ty):=[((.t 6),some .bool)]
abbrev sh_f8_0:Sh:=⟨[(1,.ty (.sl tyBlkT)),(8,.ty (.sl tyBlkT)),(9,.ty (.sl tyBlkT)),(10,.ty .str),(11,.ty tI)],[]⟩
def st_f8_0 (x1:(List BlkT))(x8:(List BlkT))(x9:(List BlkT))(x10:ByteArray)(x11:Int):VS:=sh_f8_0.st (x1,x8,x9,x10,x11,()) ()
abbrev sh_f8_0_ret:Sh:=⟨[(6,.ty .bool)],[]⟩
def st_f8_0_ret (x6:Bool):VS:=sh_f8_0_ret.st (x6,()) ()
abbrev sh_f8_0_e0:Sh:=⟨[],[]⟩
def st_f8_0_e0  : VS:=sh_f8_0_e0.st () ()
-- loop 0: (x1 : (List BlkT)) (x8 : (List BlkT)) (x9 : (List BlkT)) (x10 : ByteArray) (x11 : Int); out: ('ret',) (x6 : Bool); ('exit', 0)
def L_f8_0:VS->Option (Bool×List (Bool×Exit×VS)):=mkL sh_f8_0 (fun x y=>(bl0 x.1 x.2.1 x.2.2.1 x.2.2.2.1 x.2.2.2.2.1)) (fun x y=>[(true,.exit 0,st_f8_0_e0)])
def g_f8:G:=⟨TYs,[],103,EL [(13,sp_f13),(15,sp_f15),(21,sp_f21),(24,sp_f24),(25,sp_f25),(30,sp_f30),(31,sp_f31),(32,sp_f32),(33,sp_f33),(34,sp_f34),(35,sp_f35),(36,sp_f36),(37,sp_f37),(38,sp_f38),(39,sp_f39),(40,sp_f40),(41,sp_f41)],keeps,(Ls [L_f8_0]),IL [],RL []⟩
def b_f8_0 (x1:(List BlkT))(x8:(List BlkT))(x9:(List BlkT))(x10:ByteArray)(x11:Int):Option (Exit×VS):=
 br ((ilt x11 2))
  (br ((pntOk x8))
   (br ((pntOk x8))
    (br ((ine ((pntF x8).2) ((pntF x8).2)))
     (some (.ret,st_f8_0_ret false))
     (br ((sne ((pntF x8).1) ((pntF x8).1)))
      (some (.ret,st_f8_0_ret false))
      (br ((okT x8))
       (br ((okT x8))
        (br ((ine (chF x8) (chF x8)))
         (some (.ret,st_f8_0_ret false))
         (br ((okT x8))
          (br ((okT x8))
           (br ((ine (dpF x8) (dpF x8)))
            (some (.ret,st_f8_0_ret false))
            (br ((fdOk x8 x10))
             (br ((fdOk x8 x10))
              (br ((slOk (fdT x8 x10) (fdT x8 x10)))
               (br ((!(slT (fdT x8 x10) (fdT x8 x10))))
                (some (.ret,st_f8_0_ret false))
                (br ((okST x8 x9))
                 (br ((okST x8 x9))
                  (br ((bneq (smT x8 x9) (smT x8 x9)))
                   (some (.ret,st_f8_0_ret false))
                   (br ((okST x8 x8))
                    (br ((!(smT x8 x8)))
                     (some (.ret,st_f8_0_ret false))
                     (some (.normal,st_f8_0 x1 x1 x9 x10 (iadd .i64 x11 1))))
                    (none)))
                  (none))
                 (none)))
               (none))
              (none))
             (none)))
           (none))
          (none)))
        (none))
       (none))))
    (none))
   (none))
  (some (.exit 0,st_f8_0_e0))
noncomputable def lp_f8_0 (x1:(List BlkT))(x8:(List BlkT))(x9:(List BlkT))(x10:ByteArray)(x11:Int):Option (Exit×VS):=loopF (roundF g_f8 fg_f8_0 tb_f8_0) (st_f8_0 x1 x8 x9 x10 x11)
noncomputable def n_f8_0 (x1:(List BlkT))(x8:(List BlkT))(x9:(List BlkT))(x10:ByteArray)(x11:Int):Option (Exit×VS):=
 br ((ilt x11 2))
  (br ((pntOk x8))
   (br ((pntOk x8))
    (br ((ine ((pntF x8).2) ((pntF x8).2)))
     (some (.ret,st_f8_0_ret false))
     (br ((sne ((pntF x8).1) ((pntF x8).1)))
      (some (.ret,st_f8_0_ret false))
      (br ((okT x8))
       (br ((okT x8))
        (br ((ine (chF x8) (chF x8)))
         (some (.ret,st_f8_0_ret false))
         (br ((okT x8))
          (br ((okT x8))
           (br ((ine (dpF x8) (dpF x8)))
            (some (.ret,st_f8_0_ret false))
            (br ((fdOk x8 x10))
             (br ((fdOk x8 x10))
              (br ((slOk (fdT x8 x10) (fdT x8 x10)))
               (br ((!(slT (fdT x8 x10) (fdT x8 x10))))
                (some (.ret,st_f8_0_ret false))
                (br ((okST x8 x9))
                 (br ((okST x8 x9))
                  (br ((bneq (smT x8 x9) (smT x8 x9)))
                   (some (.ret,st_f8_0_ret false))
                   (br ((okST x8 x8))
                    (br ((!(smT x8 x8)))
                     (some (.ret,st_f8_0_ret false))
                     (lp_f8_0 x1 x1 x9 x10 (iadd .i64 x11 1)))
                    (none)))
                  (none))
                 (none)))
               (none))
              (none))
             (none)))
           (none))
          (none)))
        (none))
       (none))))
    (none))
   (none))
  (some (.exit 0,st_f8_0_e0))
def la_f8_0 (x1:(List BlkT))(x8:(List BlkT))(x9:(List BlkT))(x10:ByteArray)(x11:Int):Option (Exit×VS):=some (.exit 0,st_f8_0_e0)
theorem be_f8_0 (x1:(List BlkT))(x8:(List BlkT))(x9:(List BlkT))(x10:ByteArray)(x11:Int):roundF g_f8 fg_f8_0 tb_f8_0 (st_f8_0 x1 x8 x9 x10 x11)=b_f8_0 x1 x8 x9 x10 x11:=by kernel_rfl
theorem ln_f8_0 (x1:(List BlkT))(x8:(List BlkT))(x9:(List BlkT))(x10:ByteArray)(x11:Int):lp_f8_0 x1 x8 x9 x10 x11=n_f8_0 x1 x8 x9 x10 x11:=(loopF_nxt _ _).trans (by
 rw [be_f8_0]
 simp only [b_f8_0,n_f8_0,nxt_br,nxt_n,nxt_r,nxt_e,nxt_0]
 rfl)
def r_f8 (p0:(List Int))(p1:(List BlkT))(p2:ByteArray):Option (V×List VO):=
 br ((!(light p0)))
  (some (.t .bool awk7,[]))
  (br ((szZOk p1 200))
   (br ((igt (szT p1 200) 200))
    (some (.t .bool awk7,[]))
    (br ((igt (slen p2) 100))
     (some (.t .bool awk7,[]))
     (br ((ls7Ok (roll p0) 3))
      (br ((ls7Ok (ls7N (roll p0) 3) 1))
       (br ((wdGOk (ls7N (ls7N (roll p0) 3) 1) ([(ByteArray.mk #[115,101,114,118,101,114]),(ByteArray.mk #[97]),p2])))
        (br ((bl0 p1 (ls7F (roll p0) 3) (ls7F (ls7N (roll p0) 3) 1) (dwdG (ls7N (ls7N (roll p0) 3) 1) ([(ByteArray.mk #[115,101,114,118,101,114]),(ByteArray.mk #[97]),p2])) (0:Int)))
         (some (.t .bool awk7,[]))
         (none))
        (none))
       (none))
      (none))))
   (none))
theorem e_f8 (p0:(List Int))(p1:(List BlkT))(p2:ByteArray):runF g_f8 tc_f8 rv_f8 false [.t (.sl tI) p0,.t (.sl tyBlkT) p1,.t .str p2] []=r_f8 p0 p1 p2:=by kernel_rfl
theorem ok_f8:Option.map (trC Tryd.prog) Tryd.f8.body=some tc_f8.er:=by kernel_rfl
theorem rok_f8:trVs Tryd.prog Tryd.f8.results.toList=some (rv_f8.map Prod.fst):=by kernel_rfl
theorem gk_f8:GOk Tryd.prog g_f8:=gok_of _ (by
 intro p hp
 simp only [List.mem_cons,List.not_mem_nil,or_false] at hp
 rcases hp with rfl|rfl|rfl|rfl|rfl|rfl|rfl|rfl|rfl|rfl|rfl|rfl|rfl|rfl|rfl|rfl|rfl
 ·exact ⟨en_f13,ms_f13⟩
 ·exact ⟨en_f15,ms_f15⟩
 ·exact ⟨en_f21,ms_f21⟩
 ·exact ⟨en_f24,ms_f24⟩
 ·exact ⟨en_f25,ms_f25⟩
 ·exact ⟨en_f30,ms_f30⟩
 ·exact ⟨en_f31,ms_f31⟩
 ·exact ⟨en_f32,ms_f32⟩
 ·exact ⟨en_f33,ms_f33⟩
 ·exact ⟨en_f34,ms_f34⟩
 ·exact ⟨en_f35,ms_f35⟩
 ·exact ⟨en_f36,ms_f36⟩
 ·exact ⟨en_f37,ms_f37⟩
 ·exact ⟨en_f38,ms_f38⟩
 ·exact ⟨en_f39,ms_f39⟩
 ·exact ⟨en_f40,ms_f40⟩
 ·exact ⟨en_f41,ms_f41⟩)
theorem l_f8_0 (x1:(List BlkT))(x8:(List BlkT))(x9:(List BlkT))(x10:ByteArray)(x11:Int)(h:(bl0 x1 x8 x9 x10 x11)=true):lp_f8_0 x1 x8 x9 x10 x11=la_f8_0 x1 x8 x9 x10 x11:=by
 obtain ⟨h1,h2,h3,h4,_⟩:=cP_of h
 clear h
 have la: ∀ (a a2 b b2 c c2:List BlkT) (w w2:ByteArray) (i i2:Int),la_f8_0 a b c w i=la_f8_0 a2 b2 c2 w2 i2:=fun _ _ _ _ _ _ _ _ _ _=>rfl
 have key: ∀ (j:Nat) (x:List BlkT) (i:Int),(2-i).toNat=j->pntOk x=true->0<=i->i<=2->lp_f8_0 x1 x x9 x10 i=la_f8_0 x1 x x9 x10 i:=by
  intro j
  induction j with
  |zero=>
   intro x i hj hp g1 g2
   have e2:ilt i 2=false:=decide_eq_false (by omega)
   rw [ln_f8_0]
   unfold n_f8_0
   rw [e2,br_false]
   rfl
  |succ j ih=>
   intro x i hj hp g1 g2
   have e2:ilt i 2=true:=decide_eq_true (by omega)
   have hk:okT x=true:=(Bool.and_eq_true_iff.1 hp).1
   have hf:fdOk x x10=true:=hk
   have hs:slOk (fdT x x10) (fdT x x10)=true:=slOk_s (okT_fil _ hk)
   have ho: ∀ o:List BlkT,okST x o=true:=fun o=>hk
   have e3: ∀ a:Int,ine a a=false:=fun a=>by unfold ine;simp
   have e4: ∀ a:ByteArray,sne a a=false:=fun a=>by unfold sne;simp
   have e5: ∀ a:Bool,bneq a a=false:=fun a=>by cases a<;>rfl
   rw [ln_f8_0]
   simp only [n_f8_0]
   rw [e2,hp,e3,e4,hk,e3,e3,hf,hs,ho,e5,ho,smT_refl,show iadd .i64 i 1=i+1 from iadd_in (by omega),ih x1 (i+1) (by omega) h1 (by omega) (by omega)]
   simp only [br_true,br_false,Bool.not_true]
   show br (!true) _ _=_
   rfl
 exact key _ x8 x11 rfl h2 h3 h4
theorem lo_f8_0: ∀ S l p,g_f8.L 0 (fgt fg_f8_0 S)=some (true,l)->pickA l=some p->loopF (roundF g_f8 fg_f8_0 tb_f8_0) S=some p:=
 lok_of (s:=sh_f8_0) ⟨by decide,by decide⟩ (by kernel_rfl) fun x y hok p hp=>by
 simp only [pickA_br,pickA_one] at hp
 exact (l_f8_0 x.1 x.2.1 x.2.2.1 x.2.2.2.1 x.2.2.2.2.1 (by simpa using hok)).trans hp
theorem lk_f8:tc_f8.lok g_f8:=by
 repeat (first|exact trivial|exact lo_f8_0|refine ⟨?_, ?_⟩)
theorem s_f8 (l:List Int)(raw:List BlkT)(w:ByteArray)(h:blOk l raw w=true):r_f8 l raw w=some (.t .bool (blT l raw w),[]):=by
 have hb:=cP_of h
 simp only [r_f8]
 cases hL:light l with
 |false=>rfl
 |true=>
  rw [Bool.not_true,br_false]
  refine brY (bu_szZ hb) ?_
  cases hz:igt (szT raw 200) 200 with
  |true=>rfl
  |false=>
   have hz2:K.szT raw 200<=200:=by
    have:=of_decide_eq_false hz
    have: ¬ (K.szT raw 200 > 200):=this
    omega
   have hp:=bu_pnt hb hz2
   rw [br_false]
   cases igt (slen w) 100 with
   |true=>rfl
   |false=>
    have hd:=dOk_roll hL
    obtain ⟨_,d2⟩:=lsG_ok 3 (roll l) hd
    have d2:dOk (ls7N (roll l) 3)=true:=d2
    obtain ⟨_,d3⟩:=lsG_ok 1 (ls7N (roll l) 3) d2
    have d3:dOk (ls7N (ls7N (roll l) 3) 1)=true:=d3
    have hx:pntOk (ls7F (roll l) 3)=true:=ls_pnt (n:=3) hd (by decide)
    have hy:okT (ls7F (ls7N (roll l) 3) 1)=true:=ls_okT (n:=1) d2 (by decide)
    rw [br_false]
    refine brY (Bool.and_eq_true_iff.2 ⟨hd,cP_in ⟨by decide,by decide⟩⟩) (brY (Bool.and_eq_true_iff.2 ⟨d2,cP_in ⟨by decide,by decide⟩⟩) (brY (Bool.and_eq_true_iff.2 ⟨d3,rfl⟩) (brY (cP_in ⟨hp,hx,by decide,by decide,(okT_p hy).1⟩) rfl)))
def sp_f8:Ent:=spec (.pr (.sl tI) (.pr (.sl tyBlkT) (.pr .str .nil))) (fun x=>(blOk x.1 x.2.1 x.2.2.1)) (fun x=>(.t .bool (blT x.1 x.2.1 x.2.2.1)))
theorem ms_f8:Meets Tryd.prog 8 (strip sp_f8):=by
 obtain ⟨c,hc,hi⟩:=Option.map_eq_some_iff.1 ok_f8
 exact meets_spec (R:=runF g_f8 tc_f8 rv_f8 false) (meets_of (by decide) Tryd.func8 hc hi Tryd.ntmps8 rok_f8 gk_f8 lk_f8 mixed) fun x hok=>(e_f8 x.1 x.2.1 x.2.2.1).trans (s_f8 x.1 x.2.1 x.2.2.1 hok)
end
end Go.Proofs.YtkkoedniahnneaaDoor.K.ZZ
namespace Go.Proofs.YtkkoedniahnneaaDoor.K
open Go.RowKit ZZ
theorem okw_BlocksLists (z0:List Int)(z1:List BlkT)(z2:ByteArray)(w0:Ty.wf (.sl tI) z0)(w1:Ty.wf (.sl tyBlkT) z1)(w2:Ty.wf .str z2)(u0:Ty.bulk (.sl tI) z0<=1048576)(u1:Ty.bulk (.sl tyBlkT) z1<=1048576)(u2:Ty.bulk .str z2<=1048576):ZZ.blOk z0 z1 z2=true:=cP_in (by
 have h:bulkL tyBlkT z1+1<=1048576:=u1
 rw [bu_all] at h
 unfold buOk
 omega)
theorem walkBlocksLists (z0:(List Int))(z1:(List BlkT))(z2:ByteArray)(W:World)(v0:Value)(v1:Value)(v2:Value)(c0:C noX W (fun _=> .no) (V.t (.sl tI) z0).d v0)(c1:C noX W (fun _=> .no) (V.t (.sl tyBlkT) z1).d v1)(c2:C noX W (fun _=> .no) (V.t .str z2).d v2)(w0:Ty.wf (.sl tI) z0)(w1:Ty.wf (.sl tyBlkT) z1)(w2:Ty.wf .str z2)(u0:Ty.bulk (.sl tI) z0<=1048576)(u1:Ty.bulk (.sl tyBlkT) z1<=1048576)(u2:Ty.bulk .str z2<=1048576):
  Calls Tryd.prog 8 #[v0,v1,v2] W fun r w'=>r= .returned (.bool true)/\Below W.heap.size W w':=
 calls_true (by decide) ms_f8 (args:=[.t (.sl tI) z0,.t (.sl tyBlkT) z1,.t .str z2]) (strip_spec (x:=(z0,z1,z2,())) rfl (okw_BlocksLists z0 z1 z2 w0 w1 w2 u0 u1 u2)) (by simp only [V.ds,Cs];exact ⟨_,_,rfl,c0,_,_,rfl,c1,_,_,rfl,c2,rfl⟩)
end Go.Proofs.YtkkoedniahnneaaDoor.K
