import Derived.Test.YtkkoedniahnneaaDoorQ3
set_option linter.unusedSimpArgs false
set_option linter.unusedVariables false
set_option linter.unusedSectionVars false
namespace Go.Proofs.YtkkoedniahnneaaDoor.K
open Go.RowKit
noncomputable section
set_option linter.unusedSectionVars false
def fdX (w:ByteArray)(x:BlkT):Bool:= !x.1.isEmpty&&seq (x.1.headD (ByteArray.mk #[])) w
def fdT (l:List BlkT)(w:ByteArray):List BlkT:=l.filter (fdX w)
def fdOk (l:List BlkT)(_w:ByteArray):Bool:=okT l
def fd0 (l:List BlkT)(n k:Int)(m:List BlkT):Bool:=cP (0<=k/\k<=l.length/\n=l.length/\l.length<=100000/\m.length<=k)
theorem okB_filter {p:BlkT->Bool}: ∀ {n:Nat} {l:List BlkT},okB n l=true->okB n (l.filter p)=true
 |0,_,h=>h
 |n+1,l,h=>by
  unfold okB at h ⊢
  obtain ⟨h1,h2⟩:=Bool.and_eq_true_iff.1 h
  have h1:=of_decide_eq_true h1
  have:=List.length_filter_le p l
  refine Bool.and_eq_true_iff.2 ⟨decide_eq_true (by omega),List.all_eq_true.2 fun x hx=> ?_⟩
  exact List.all_eq_true.1 h2 x (List.mem_filter.1 hx).1
theorem okT_filter {p:BlkT->Bool}{l:List BlkT}(h:okT l=true):okT (l.filter p)=true:=by
 obtain ⟨N,h⟩:=okT_fuel h
 obtain ⟨h1,h2⟩:=okN_b h
 exact cP_in ⟨N,okN_i (okB_filter h1) h2⟩
theorem okT_len {l:List BlkT}(h:okT l=true):l.length<=100000:=by
 obtain ⟨N,h⟩:=okT_fuel h
 cases N with
 |zero=>cases (okN_b h).1
 |succ N=>exact (okN_p h).1
theorem ifz {α:Type}(l:List α):igt (llen l) 0= !l.isEmpty:=by
 cases l with
 |nil=>rfl
 |cons x l=>
  simp only [igt,llen,List.length_cons,List.isEmpty_cons]
  exact decide_eq_true (by omega)
def fg_f38_0:Fg:=⟨[(1,some .str),(5,none),(8,some (.sl tyBlkT)),(9,some tI),(10,some tI)],[(5,none),(29,none)]⟩
def tb_f38_0:TC:=(.sq (.reg [(oP 11 (.bin false .lss (.t 10) (.t 9)))]) (.sq (.cd (.t 11) .sk (.fg ⟨[(5,none)],[(5,none),(29,none)]⟩ (.ex 0))) (.sq (.bk 1 (.sq (.reg [(oP 12 (.ix 4 (.t 8) (.t 10))),(oM 13 (.ld true 4 (.t 12))),(oM 7 (.new [(.v (.slice none 0 0)),(.v (.bool false)),(.v (.slice none 0 0)),(.v (.int .i64 0))])),(.mk none none (.m (.st 4 (.t 7) (.t 13))))]) (.sq (.reg [(oP 14 (.fa 0 (.t 7))),(oL 15 14),(oP 16 (.len false (.t 15))),(oP 17 (.bin false .gtr (.t 16) (cI 0))),(oV 18 17),(oQ 19 18 true (.fa 0 (.t 7))),(oG 20 18 true (.m (.ld false 1 (.t 19)))),(oQ 21 18 true (.ix 1 (.t 20) (cI 0))),(oG 22 18 true (.m (.ld false 1 (.t 21)))),(oQ 23 18 true (.mv (.t 1))),(oQ 24 18 true (.bin false .eql (.t 22) (.t 23))),(oP 25 (.pick (.t 18) (.t 24) (cB false)))]) (.cd (.t 25) (.reg [(oV 26 5),(oM 27 (.ld true 4 (.t 7))),(oM 28 (.bs 38 4 1 [(.v (.slice none 0 0)),(.v (.bool false)),(.v (.slice none 0 0)),(.v (.int .i64 0))] [(0,4,(.t 27))])),(oM 29 (.app 38 4 64 (.t 26) (.t 28))),(oV 5 29)]) .sk)))) (.reg [(oP 30 (.bin false .add (.t 10) (cI 1))),(oV 10 30)]))))
def tc_f38:TC:=(.sq (.reg [(oP 4 (.mv (.c (.v (.slice none 0 0)))))]) (.sq (.reg [(oP 5 (.mv (.c (.v (.slice none 0 0)))))]) (.sq (.sq (.reg [(oV 8 0),(oP 9 (.len false (.t 8))),(oP 10 (.mv (cI 0)))]) (.bk 0 (.nw 5 38 (.lp 0 fg_f38_0 tb_f38_0)))) (.sq (.reg [(oV 31 5),(oC 32 74 [(.t 31)]),(oV 4 32)]) .rt))))
def rv_f38:List (RV×Option Ty):=[((.t 4),some (.sl tyBlkT))]
abbrev sh_f38_0:Sh:=⟨[(1,.ty .str),(5,.ms 5),(8,.ty (.sl tyBlkT)),(9,.ty tI),(10,.ty tI)],[(5,.arr 38 tyBlkT),(29,.no)]⟩
def st_f38_0 (x1:ByteArray)(x8:(List BlkT))(x9:Int)(x10:Int)(y5:(List BlkT)):VS:=sh_f38_0.st (x1,(),x8,x9,x10,()) (y5,(),())
abbrev sh_f38_0_e0:Sh:=⟨[(5,.ms 5)],[(5,.arr 38 tyBlkT),(29,.no)]⟩
def st_f38_0_e0 (y5:(List BlkT)):VS:=sh_f38_0_e0.st ((),()) (y5,(),())
-- loop 0: (x1 : ByteArray) (x8 : (List BlkT)) (x9 : Int) (x10 : Int) (y5 : (List BlkT)); out: ('exit', 0) (y5 : (List BlkT))
def L_f38_0:VS->Option (Bool×List (Bool×Exit×VS)):=mkL sh_f38_0 (fun x y=>(fd0 x.2.2.1 x.2.2.2.1 x.2.2.2.2.1 y.1)) (fun x y=>[(true,.exit 0,st_f38_0_e0 (y.1++fdT (x.2.2.1.drop x.2.2.2.2.1.toNat) x.1))])
def g_f38:G:=⟨TYs,[],33,EL [(74,sp_f74)],keeps,(Ls [L_f38_0]),IL [],RL []⟩
def b_f38_0 (x1:ByteArray)(x8:(List BlkT))(x9:Int)(x10:Int)(y5:(List BlkT)):Option (Exit×VS):=
 br ((ilt x10 x9))
  (br (cIx x8 x10)
   (br ((igt (llen ((lgt tyBlkT x8 (Int.toNat x10)).1)) 0))
    (br (cIx ((lgt tyBlkT x8 (Int.toNat x10)).1) 0)
     (br ((seq (lgt .str ((lgt tyBlkT x8 (Int.toNat x10)).1) (Int.toNat 0)) x1))
      (br (cApp y5 ([((lgt tyBlkT x8 (Int.toNat x10)).1,(((lgt tyBlkT x8 (Int.toNat x10)).2).1,((List.map Blk.of (List.map Blk.un ((((lgt tyBlkT x8 (Int.toNat x10)).2).2).1))),(((((lgt tyBlkT x8 (Int.toNat x10)).2).2).2).1,()))))]) 64)
       (some (.normal,st_f38_0 x1 x8 x9 (iadd .i64 x10 1) (y5++([((lgt tyBlkT x8 (Int.toNat x10)).1,(((lgt tyBlkT x8 (Int.toNat x10)).2).1,((List.map Blk.of (List.map Blk.un ((((lgt tyBlkT x8 (Int.toNat x10)).2).2).1))),(((((lgt tyBlkT x8 (Int.toNat x10)).2).2).2).1,()))))]))))
       (none))
      (some (.normal,st_f38_0 x1 x8 x9 (iadd .i64 x10 1) y5)))
     (none))
    (some (.normal,st_f38_0 x1 x8 x9 (iadd .i64 x10 1) y5)))
   (none))
  (some (.exit 0,st_f38_0_e0 y5))
noncomputable def lp_f38_0 (x1:ByteArray)(x8:(List BlkT))(x9:Int)(x10:Int)(y5:(List BlkT)):Option (Exit×VS):=loopF (roundF g_f38 fg_f38_0 tb_f38_0) (st_f38_0 x1 x8 x9 x10 y5)
noncomputable def n_f38_0 (x1:ByteArray)(x8:(List BlkT))(x9:Int)(x10:Int)(y5:(List BlkT)):Option (Exit×VS):=
 br ((ilt x10 x9))
  (br (cIx x8 x10)
   (br ((igt (llen ((lgt tyBlkT x8 (Int.toNat x10)).1)) 0))
    (br (cIx ((lgt tyBlkT x8 (Int.toNat x10)).1) 0)
     (br ((seq (lgt .str ((lgt tyBlkT x8 (Int.toNat x10)).1) (Int.toNat 0)) x1))
      (br (cApp y5 ([((lgt tyBlkT x8 (Int.toNat x10)).1,(((lgt tyBlkT x8 (Int.toNat x10)).2).1,((List.map Blk.of (List.map Blk.un ((((lgt tyBlkT x8 (Int.toNat x10)).2).2).1))),(((((lgt tyBlkT x8 (Int.toNat x10)).2).2).2).1,()))))]) 64)
       (lp_f38_0 x1 x8 x9 (iadd .i64 x10 1) (y5++([((lgt tyBlkT x8 (Int.toNat x10)).1,(((lgt tyBlkT x8 (Int.toNat x10)).2).1,((List.map Blk.of (List.map Blk.un ((((lgt tyBlkT x8 (Int.toNat x10)).2).2).1))),(((((lgt tyBlkT x8 (Int.toNat x10)).2).2).2).1,()))))])))
       (none))
      (lp_f38_0 x1 x8 x9 (iadd .i64 x10 1) y5))
     (none))
    (lp_f38_0 x1 x8 x9 (iadd .i64 x10 1) y5))
   (none))
  (some (.exit 0,st_f38_0_e0 y5))
def la_f38_0 (x1:ByteArray)(x8:(List BlkT))(x9:Int)(x10:Int)(y5:(List BlkT)):Option (Exit×VS):=some (.exit 0,st_f38_0_e0 (y5++fdT (x8.drop x10.toNat) x1))
theorem be_f38_0 (x1:ByteArray)(x8:(List BlkT))(x9:Int)(x10:Int)(y5:(List BlkT)):roundF g_f38 fg_f38_0 tb_f38_0 (st_f38_0 x1 x8 x9 x10 y5)=b_f38_0 x1 x8 x9 x10 y5:=by kernel_rfl
theorem ln_f38_0 (x1:ByteArray)(x8:(List BlkT))(x9:Int)(x10:Int)(y5:(List BlkT)):lp_f38_0 x1 x8 x9 x10 y5=n_f38_0 x1 x8 x9 x10 y5:=(loopF_nxt _ _).trans (by
 rw [be_f38_0]
 simp only [b_f38_0,n_f38_0,nxt_br,nxt_n,nxt_r,nxt_e,nxt_0]
 rfl)
def r_f38 (p0:(List BlkT))(p1:ByteArray):Option (V×List VO):=
 br ((fd0 p0 (llen p0) (0:Int) ([]:List BlkT)))
  (br ((okT (([]:List BlkT)++fdT (p0.drop (0:Int).toNat) p1)))
   (some (.t (.sl tyBlkT) (cpT (([]:List BlkT)++fdT (p0.drop (0:Int).toNat) p1)),[]))
   (none))
  (none)
theorem e_f38 (p0:(List BlkT))(p1:ByteArray):runF g_f38 tc_f38 rv_f38 false [.t (.sl tyBlkT) p0,.t .str p1] []=r_f38 p0 p1:=by kernel_rfl
theorem ok_f38:Option.map (trC Tryd.prog) Tryd.f38.body=some tc_f38.er:=by kernel_rfl
theorem rok_f38:trVs Tryd.prog Tryd.f38.results.toList=some (rv_f38.map Prod.fst):=by kernel_rfl
theorem en_f38:Entered Tryd.prog 38:= .inr ⟨by decide,_,Tryd.func38,by kernel_rfl,by kernel_rfl⟩
theorem gk_f38:GOk Tryd.prog g_f38:=gok_of _ (by
 intro p hp
 simp only [List.mem_cons,List.not_mem_nil,or_false] at hp
 rcases hp with rfl
 ·exact ⟨en_f74,ms_f74⟩)
theorem l_f38_0 (x1:ByteArray)(x8:(List BlkT))(x9:Int)(x10:Int)(y5:(List BlkT))(h:(fd0 x8 x9 x10 y5)=true):lp_f38_0 x1 x8 x9 x10 y5=la_f38_0 x1 x8 x9 x10 y5:=by
 obtain ⟨h1,h2,rfl,h4,h5⟩:=cP_of h
 clear h
 obtain ⟨k,rfl⟩:=Int.eq_ofNat_of_zero_le h1
 refine range_ind x8 (fun k=> ∀ y5:List BlkT,y5.length<=k->lp_f38_0 x1 x8 (x8.length:Int) (k:Int) y5=la_f38_0 x1 x8 (x8.length:Int) (k:Int) y5) ?_ ?_ k (by omega) y5 (by omega)
 ·intro y5 _
  have e2:ilt (x8.length:Int) (x8.length:Int)=false:=decide_eq_false (by omega)
  rw [ln_f38_0]
  unfold n_f38_0 la_f38_0
  rw [e2,br_false,Int.toNat_natCast,List.drop_length]
  unfold fdT
  rw [List.filter_nil,List.append_nil]
 ·intro k hk ih y5 hy
  have e2:ilt (k:Int) (x8.length:Int)=true:=decide_eq_true (by omega)
  have e3:cIx x8 (k:Int)=true:=by rw [cIx_nat];exact decide_eq_true hk
  have e5:(x8[k].1,(x8[k].2.1,((List.map Blk.of (List.map Blk.un x8[k].2.2.1)),(x8[k].2.2.2.1,()))))=x8[k]:=by rw [map_of_unB]
  rw [ln_f38_0]
  unfold n_f38_0
  rw [e2,e3,Int.toNat_natCast,lgt_get (y:=tyBlkT) hk,e5,br_true,br_true,cAppN (by omega) (by simp only [List.length_singleton];omega),br_true,add1 (k:=k),ih (y5++[x8[k]]) (by rw [List.length_append,List.length_singleton];omega),ih y5 (by omega),ifz]
  unfold la_f38_0 fdT
  rw [Int.toNat_natCast,Int.toNat_natCast,List.drop_eq_getElem_cons hk,List.filter_cons]
  have ef:fdX x1 x8[k]=(!x8[k].1.isEmpty&&seq (x8[k].1.headD (ByteArray.mk #[])) x1):=rfl
  cases hw:x8[k].1.isEmpty with
  |true=>
   rw [ef,hw]
   rfl
  |false=>
   have hp:0<x8[k].1.length:=by
    rcases Nat.eq_zero_or_pos x8[k].1.length with h|h
    ·rw [List.eq_nil_of_length_eq_zero h] at hw;cases hw
    ·exact h
   have e6:cIx x8[k].1 0=true:=by show cIx x8[k].1 ((0:Nat):Int)=true;rw [cIx_nat];exact decide_eq_true hp
   rw [e6,Int.toNat_zero,lgt_get (y:= .str) hp,ef,hw,headD_get hp]
   cases seq x8[k].1[0] x1 with
   |true=>
    rw [List.append_assoc,List.singleton_append]
    rfl
   |false=>rfl
theorem lo_f38_0: ∀ S l p,g_f38.L 0 (fgt fg_f38_0 S)=some (true,l)->pickA l=some p->loopF (roundF g_f38 fg_f38_0 tb_f38_0) S=some p:=
 lok_of (s:=sh_f38_0) ⟨by decide,by decide⟩ (by kernel_rfl) fun x y hok p hp=>by
 simp only [pickA_br,pickA_one] at hp
 exact (l_f38_0 x.1 x.2.2.1 x.2.2.2.1 x.2.2.2.2.1 y.1 (by simpa using hok)).trans hp
theorem lk_f38:tc_f38.lok g_f38:=by
 repeat (first|exact trivial|exact lo_f38_0|refine ⟨?_, ?_⟩)
theorem s_f38 (l:List BlkT)(w:ByteArray)(h:fdOk l w=true):r_f38 l w=some (.t (.sl tyBlkT) (fdT l w),[]):=by
 have h1:=okT_len h
 have h2:okT (fdT l w)=true:=okT_filter h
 unfold r_f38
 rw [Int.toNat_zero,List.drop_zero,List.nil_append]
 exact brY (cP_in ⟨by omega,by omega,rfl,h1,by show ((0:Nat):Int)<=0;omega⟩) (brY h2 rfl)
def sp_f38:Ent:=spec (.pr (.sl tyBlkT) (.pr .str .nil)) (fun x=>(fdOk x.1 x.2.1)) (fun x=>(.t (.sl tyBlkT) (fdT x.1 x.2.1)))
theorem ms_f38:Meets Tryd.prog 38 (strip sp_f38):=by
 obtain ⟨c,hc,hi⟩:=Option.map_eq_some_iff.1 ok_f38
 exact meets_spec (R:=runF g_f38 tc_f38 rv_f38 false) (meets_of (by decide) Tryd.func38 hc hi Tryd.ntmps38 rok_f38 gk_f38 lk_f38 mixed) fun x hok=>(e_f38 x.1 x.2.1).trans (s_f38 x.1 x.2.1 hok)
-- loop 0: (x0 : (List BlkT)) (x1 : ByteArray) (x6 : Int) (y5 : (List BlkT)); out: ('exit', 0) (y5 : (List BlkT))
mutual
theorem smB_refl: ∀ b:K.Blk,smB b b=true
 |.mk ws o wi _=>by
  show (eqW ws ws&&((o==o)&&smL wi wi))=true
  rw [show eqW ws ws=true from decide_eq_true rfl,beq_self_eq_true,smL_refl wi]
  rfl
theorem smL_refl: ∀ l:List K.Blk,smL l l=true
 | []=>rfl
 |b::r=>by
  show (smB b b&&smL r r)=true
  rw [smB_refl b,smL_refl r]
  rfl
end
theorem smT_refl (l:List BlkT):smT l l=true:=smL_refl _
def slT (_ _:List BlkT):Bool:=true
def slS (n:Nat)(a b:List BlkT):Bool:=okN n a&&cP (a=b)
def slOk (a b:List BlkT):Bool:=okT a&&cP (a=b)
theorem fuel_ref07_SameLines (a b:List BlkT)(h:slOk a b=true): ∃ N,slS N a b=true:=by
 obtain ⟨h1,h2⟩:=Bool.and_eq_true_iff.1 h
 obtain ⟨N,h1⟩:=okT_fuel h1
 exact ⟨N,Bool.and_eq_true_iff.2 ⟨h1,h2⟩⟩
theorem en_f37:Entered Tryd.prog 37:= .inr ⟨by decide,_,Tryd.func37,by kernel_rfl,by kernel_rfl⟩
def sp_f37R [Fuel]:Ent:=spec (.pr (.sl tyBlkT) (.pr (.sl tyBlkT) .nil)) (fun x=>(slS fuel x.1 x.2.1)) (fun x=>(.t .bool (slT x.1 x.2.1)))
theorem en_f37R:Entered Tryd.prog 37:=en_f37
section
variable [Fuel][Nonempty (PLift (Meets Tryd.prog 37 (strip sp_f37R)))]
theorem ms_f37R:Meets Tryd.prog 37 (strip sp_f37R):=(Classical.choice (inferInstance:Nonempty (PLift (Meets Tryd.prog 37 (strip sp_f37R))))).down
def sl0 [Fuel](a b:List BlkT)(k:Int):Bool:=cP (0<=k/\k<=a.length/\a=b/\okN (fuel+1) a=true)
def dr_f37_0:List DO:=[(.mk (oV 16 0) []),(.mk (oV 17 5) []),(.mk (oP 18 (.ix 4 (.t 16) (.t 17))) [0,1]),(.mk (oP 19 (.fa 3 (.t 18))) [2]),(.mk (oL 20 19) [3]),(.mk (oV 21 1) []),(.mk (oV 22 5) []),(.mk (oP 23 (.ix 4 (.t 21) (.t 22))) [5,6]),(.mk (oP 24 (.fa 3 (.t 23))) [7]),(.mk (oL 25 24) [8]),(.mk (oP 26 (.bin false .neq (.t 20) (.t 25))) [4,9]),(.mk (oV 27 26) [10]),(.mk (oQ 28 27 false (.mv (.t 0))) [11]),(.mk (oQ 29 27 false (.mv (.t 5))) [11]),(.mk (oQ 30 27 false (.ix 4 (.t 28) (.t 29))) [12,13,11]),(.mk (oQ 31 27 false (.fa 2 (.t 30))) [14,11]),(.mk (oG 32 27 false (.m (.ld false 1 (.t 31)))) [15,11]),(.mk (oQ 33 27 false (.mv (.t 1))) [11]),(.mk (oQ 34 27 false (.mv (.t 5))) [11]),(.mk (oQ 35 27 false (.ix 4 (.t 33) (.t 34))) [17,18,11]),(.mk (oQ 36 27 false (.fa 2 (.t 35))) [19,11]),(.mk (oG 37 27 false (.m (.ld false 1 (.t 36)))) [20,11]),(.mk (oG 38 27 false (.call 37 [(.t 32),(.t 37)])) [16,21,11,11]),(.mk (oQ 39 27 false (.nt (.t 38))) [22,11]),(.mk (oP 40 (.pick (.t 27) (cB true) (.t 39))) [11,23])]
def fg_f37_0:Fg:=⟨[(0,some (.sl tyBlkT)),(1,some (.sl tyBlkT)),(5,some tI)],[]⟩
def tb_f37_0:TC:=(.sq (.sq (.reg [(oV 10 5),(oV 11 0),(oP 12 (.len false (.t 11))),(oP 13 (.bin false .lss (.t 10) (.t 12)))]) (.cd (.t 13) .sk (.fg ⟨[],[]⟩ (.ex 0)))) (.sq (.bk 1 (.sq (.dr dr_f37_0 [(0,[]),(1,[]),(2,[]),(3,[]),(4,[]),(5,[]),(6,[]),(7,[]),(8,[]),(9,[]),(10,[]),(11,[]),(12,[]),(13,[]),(14,[]),(15,[]),(16,[]),(17,[]),(18,[]),(19,[]),(20,[]),(21,[]),(22,[]),(23,[]),(24,[])] (.of [0,1,2,3,4,5,6,7,8,9,10,11,12,13,14,15,16,17,18,19,20,21,22,23,24])) (.cd (.t 40) (.sq (.reg [(oP 4 (.mv (cB false)))]) (.fg ⟨[(4,some .bool)],[]⟩ .rt)) .sk))) (.reg [(oV 14 5),(oP 15 (.bin false .add (.t 14) (cI 1))),(oV 5 15)])))
def tc_f37:TC:=(.sq (.reg [(oP 4 (.mv (cB false)))]) (.sq (.sq (.reg [(oV 6 0),(oV 7 1),(oC 8 41 [(.t 6),(.t 7)]),(oP 9 (.nt (.t 8)))]) (.cd (.t 9) (.sq (.reg [(oP 4 (.mv (cB false)))]) .rt) .sk)) (.sq (.sq (.reg [(oP 5 (.mv (cI 0)))]) (.bk 0 (.lp 0 fg_f37_0 tb_f37_0))) (.sq (.reg [(oP 4 (.mv (cB true)))]) .rt))))
def rv_f37:List (RV×Option Ty):=[((.t 4),some .bool)]
abbrev sh_f37_0:Sh:=⟨[(0,.ty (.sl tyBlkT)),(1,.ty (.sl tyBlkT)),(5,.ty tI)],[]⟩
def st_f37_0 (x0:(List BlkT))(x1:(List BlkT))(x5:Int):VS:=sh_f37_0.st (x0,x1,x5,()) ()
abbrev sh_f37_0_ret:Sh:=⟨[(4,.ty .bool)],[]⟩
def st_f37_0_ret (x4:Bool):VS:=sh_f37_0_ret.st (x4,()) ()
abbrev sh_f37_0_e0:Sh:=⟨[],[]⟩
def st_f37_0_e0  : VS:=sh_f37_0_e0.st () ()
-- loop 0: (x0 : (List BlkT)) (x1 : (List BlkT)) (x5 : Int); out: ('ret',) (x4 : Bool); ('exit', 0)
def L_f37_0:VS->Option (Bool×List (Bool×Exit×VS)):=mkL sh_f37_0 (fun x y=>(sl0 x.1 x.2.1 x.2.2.1)) (fun x y=>[((false),.ret,st_f37_0_ret (false)),(true,.exit 0,st_f37_0_e0)])
def g_f37:G:=⟨TYs,[],41,EL [(37,sp_f37R),(41,sp_f41)],keeps,(Ls [L_f37_0]),IL [],RL []⟩
def b_f37_0 (x0:(List BlkT))(x1:(List BlkT))(x5:Int):Option (Exit×VS):=
 br ((ilt x5 (llen x0)))
  (br (cIx x0 x5)
   (br (cIx x1 x5)
    (br ((ine (((((lgt tyBlkT x0 (Int.toNat x5)).2).2).2).1) (((((lgt tyBlkT x1 (Int.toNat x5)).2).2).2).1)))
     (some (.ret,st_f37_0_ret false))
     (br (cIx x0 x5)
      (br (cIx x1 x5)
       (br ((slS fuel (List.map Blk.un ((((lgt tyBlkT x0 (Int.toNat x5)).2).2).1)) (List.map Blk.un ((((lgt tyBlkT x1 (Int.toNat x5)).2).2).1))))
        (br ((!(slT (List.map Blk.un ((((lgt tyBlkT x0 (Int.toNat x5)).2).2).1)) (List.map Blk.un ((((lgt tyBlkT x1 (Int.toNat x5)).2).2).1)))))
         (some (.ret,st_f37_0_ret false))
         (some (.normal,st_f37_0 x0 x1 (iadd .i64 x5 1))))
        (none))
       (none))
      (none)))
    (none))
   (none))
  (some (.exit 0,st_f37_0_e0))
noncomputable def lp_f37_0 (x0:(List BlkT))(x1:(List BlkT))(x5:Int):Option (Exit×VS):=loopF (roundF g_f37 fg_f37_0 tb_f37_0) (st_f37_0 x0 x1 x5)
noncomputable def n_f37_0 (x0:(List BlkT))(x1:(List BlkT))(x5:Int):Option (Exit×VS):=
 br ((ilt x5 (llen x0)))
  (br (cIx x0 x5)
   (br (cIx x1 x5)
    (br ((ine (((((lgt tyBlkT x0 (Int.toNat x5)).2).2).2).1) (((((lgt tyBlkT x1 (Int.toNat x5)).2).2).2).1)))
     (some (.ret,st_f37_0_ret false))
     (br (cIx x0 x5)
      (br (cIx x1 x5)
       (br ((slS fuel (List.map Blk.un ((((lgt tyBlkT x0 (Int.toNat x5)).2).2).1)) (List.map Blk.un ((((lgt tyBlkT x1 (Int.toNat x5)).2).2).1))))
        (br ((!(slT (List.map Blk.un ((((lgt tyBlkT x0 (Int.toNat x5)).2).2).1)) (List.map Blk.un ((((lgt tyBlkT x1 (Int.toNat x5)).2).2).1)))))
         (some (.ret,st_f37_0_ret false))
         (lp_f37_0 x0 x1 (iadd .i64 x5 1)))
        (none))
       (none))
      (none)))
    (none))
   (none))
  (some (.exit 0,st_f37_0_e0))
def la_f37_0 (x0:(List BlkT))(x1:(List BlkT))(x5:Int):Option (Exit×VS):=br (false) (some (.ret,st_f37_0_ret (false)))<|some (.exit 0,st_f37_0_e0)
theorem be_f37_0 (x0:(List BlkT))(x1:(List BlkT))(x5:Int):roundF g_f37 fg_f37_0 tb_f37_0 (st_f37_0 x0 x1 x5)=b_f37_0 x0 x1 x5:=by kernel_rfl
theorem ln_f37_0 (x0:(List BlkT))(x1:(List BlkT))(x5:Int):lp_f37_0 x0 x1 x5=n_f37_0 x0 x1 x5:=(loopF_nxt _ _).trans (by
 rw [be_f37_0]
 simp only [b_f37_0,n_f37_0,nxt_br,nxt_n,nxt_r,nxt_e,nxt_0]
 rfl)
def r_f37 (p0:(List BlkT))(p1:(List BlkT)):Option (V×List VO):=
 br ((okST p0 p1))
  (br ((!(smT p0 p1)))
   (some (.t .bool false,[]))
   (br ((sl0 p0 p1 (0:Int)))
    (br ((false))
     (some (.t .bool (false),[]))
     (some (.t .bool true,[])))
    (none)))
  (none)
theorem e_f37 (p0:(List BlkT))(p1:(List BlkT)):runF g_f37 tc_f37 rv_f37 false [.t (.sl tyBlkT) p0,.t (.sl tyBlkT) p1] []=r_f37 p0 p1:=by kernel_rfl
theorem ok_f37:Option.map (trC Tryd.prog) Tryd.f37.body=some tc_f37.er:=by kernel_rfl
theorem rok_f37:trVs Tryd.prog Tryd.f37.results.toList=some (rv_f37.map Prod.fst):=by kernel_rfl
theorem gk_f37:GOk Tryd.prog g_f37:=gok_of _ (by
 intro p hp
 simp only [List.mem_cons,List.not_mem_nil,or_false] at hp
 rcases hp with rfl|rfl
 ·exact ⟨en_f37R,ms_f37R⟩
 ·exact ⟨en_f41,ms_f41⟩)
theorem l_f37_0 (x0:(List BlkT))(x1:(List BlkT))(x5:Int)(h:(sl0 x0 x1 x5)=true):lp_f37_0 x0 x1 x5=la_f37_0 x0 x1 x5:=by
 obtain ⟨h1,h2,rfl,h4⟩:=cP_of h
 clear h
 obtain ⟨h6,h7,h8⟩:=okN_p h4
 obtain ⟨k,rfl⟩:=Int.eq_ofNat_of_zero_le h1
 refine range_ind x0 (fun k=>lp_f37_0 x0 x0 (k:Int)=la_f37_0 x0 x0 (k:Int)) ?_ ?_ k (by omega)
 ·have e2:ilt (x0.length:Int) (llen x0)=false:=decide_eq_false (by simp only [llen];omega)
  rw [ln_f37_0]
  unfold n_f37_0 la_f37_0
  rw [e2,br_false]
  rfl
 ·intro k hk ih
  obtain ⟨g1,_,g3⟩:=h8 _ (List.getElem_mem hk)
  have e2:ilt (k:Int) (llen x0)=true:=decide_eq_true (by simp only [llen];omega)
  have e3:cIx x0 (k:Int)=true:=by rw [cIx_nat];exact decide_eq_true hk
  have e4:slS fuel (x0[k].2.2.1.map Blk.un) (x0[k].2.2.1.map Blk.un)=true:=Bool.and_eq_true_iff.2 ⟨g3,cP_in rfl⟩
  have e5:ine x0[k].2.2.2.1 x0[k].2.2.2.1=false:=by simp [ine]
  rw [ln_f37_0]
  simp only [n_f37_0]
  rw [e2,e3,Int.toNat_natCast,lgt_get (y:=tyBlkT) hk,e4,e5,add1 (k:=k),ih]
  rfl
theorem lo_f37_0: ∀ S l p,g_f37.L 0 (fgt fg_f37_0 S)=some (true,l)->pickA l=some p->loopF (roundF g_f37 fg_f37_0 tb_f37_0) S=some p:=
 lok_of (s:=sh_f37_0) ⟨by decide,by decide⟩ (by kernel_rfl) fun x y hok p hp=>by
 simp only [pickA_br,pickA_one] at hp
 exact (l_f37_0 x.1 x.2.1 x.2.2.1 (by simpa using hok)).trans hp
theorem lk_f37:tc_f37.lok g_f37:=by
 repeat (first|exact trivial|exact lo_f37_0|refine ⟨?_, ?_⟩)
theorem s_f37 (a b:List BlkT)(h:slS (fuel+1) a b=true):r_f37 a b=some (.t .bool (slT a b),[]):=by
 obtain ⟨h1,h2⟩:=Bool.and_eq_true_iff.1 h
 obtain rfl:=cP_of h2
 unfold r_f37
 rw [smT_refl]
 refine brY (cP_in ⟨_,h1⟩) ?_
 rw [Bool.not_true,br_false]
 exact brY (cP_in ⟨by omega,by omega,rfl,h1⟩) rfl
theorem mr_f37:Meets Tryd.prog 37 (runF g_f37 tc_f37 rv_f37 false):=by
 obtain ⟨c,hc,hi⟩:=Option.map_eq_some_iff.1 ok_f37
 exact meets_of (by decide) Tryd.func37 hc hi Tryd.ntmps37 rok_f37 gk_f37 lk_f37 mixed
end
theorem ma_ref07_SameLines: ∀ N:Nat,Meets Tryd.prog 37 (strip (@sp_f37R ⟨N⟩))
 |0=>meets_zero fun x=>by first|rfl|simp [slS]
 |N+1=>by
  letI:Fuel:=⟨N⟩
  haveI:Nonempty (PLift (Meets Tryd.prog 37 (strip sp_f37R))):=⟨⟨ma_ref07_SameLines N⟩⟩
  exact meets_spec mr_f37 fun x hok=>(e_f37 x.1 x.2.1).trans (s_f37 x.1 x.2.1 hok)
def sp_f37:Ent:=spec (.pr (.sl tyBlkT) (.pr (.sl tyBlkT) .nil)) (fun x=>(slOk x.1 x.2.1)) (fun x=>(.t .bool (slT x.1 x.2.1)))
theorem ms_f37:Meets Tryd.prog 37 (strip sp_f37):=meets_fuel ma_ref07_SameLines fun x hok=>fuel_ref07_SameLines x.1 x.2.1 hok
mutual
def szB:K.Blk->Int->Int
 |.mk ws _ wi _,d=>1+(ws.length:Int).tdiv 8+szL wi d 0
def szL:List K.Blk->Int->Int->Int
 | [],_,n=>n
 |b::r,m,n=>if n<=m then szL r m (n+szB b (m-n)) else n
end
mutual
def toB:K.Blk->Nat
 |.mk ws _ wi _=>1+ws.length+toL wi
def toL:List K.Blk->Nat
 | []=>0
 |b::r=>toB b+toL r
end
mutual
theorem szB_le: ∀ (b:K.Blk) (d:Int),0<=szB b d/\szB b d<=toB b
 |.mk ws o wi ln,d=>by
  obtain ⟨h1,h2⟩:=szL_le wi d 0 (Int.le_refl 0)
  have h3:=Int.tdiv_eq_ediv_of_nonneg (b:=8) (show (0:Int)<=(ws.length:Int) by omega)
  show 0<=1+(ws.length:Int).tdiv 8+szL wi d 0/\1+(ws.length:Int).tdiv 8+szL wi d 0<=((1+ws.length+toL wi:Nat):Int)
  rw [h3]
  omega
theorem szL_le: ∀ (l:List K.Blk) (m n:Int),0<=n->n<=szL l m n/\szL l m n<=n+toL l
 | [],m,n,h=>by
  show n<=n/\n<=n+((0:Nat):Int)
  omega
 |b::r,m,n,h=>by
  show n<=(if n<=m then szL r m (n+szB b (m-n)) else n)/\(if n<=m then szL r m (n+szB b (m-n)) else n)<=n+((toB b+toL r:Nat):Int)
  obtain ⟨h1,h2⟩:=szB_le b (m-n)
  split
  ·obtain ⟨h3,h4⟩:=szL_le r m (n+szB b (m-n)) (by omega)
   omega
  ·omega
end
def toT (l:List BlkT):Nat:=toL (l.map Blk.of)
def szA (l:List BlkT)(m n:Int):Int:=szL (l.map Blk.of) m n
def szT (l:List BlkT)(m:Int):Int:=szA l m 0
def szS (k:Nat)(l:List BlkT)(m:Int):Bool:=okN k l&&cP (toT l<=1000000000000∧ -2000000000000<=m/\m<=2000000000000)
def sp_f30R [Fuel]:Ent:=spec (.pr (.sl tyBlkT) (.pr tI .nil)) (fun x=>(szS fuel x.1 x.2.1)) (fun x=>(.t tI (szT x.1 x.2.1)))
section
variable [Fuel][Nonempty (PLift (Meets Tryd.prog 30 (strip sp_f30R)))]
-- loop 0: (x0 : (List BlkT)) (x1 : Int) (x5 : Int) (x6 : Int); out: ('exit', 0) (x5 : Int)
end
end
end Go.Proofs.YtkkoedniahnneaaDoor.K
namespace Go.Proofs.YtkkoedniahnneaaDoor.K
open Go.RowKit
noncomputable section
set_option linter.unusedSectionVars false
theorem meets_zeroS {P:Program}{f:FuncId}{l:List SV}{os:List SO}{ok:SVt l->SOt os->Bool}{F:SVt l->SOt os->V}{O:SVt l->SOt os->List VO}(h: ∀ x y,ok x y=false):Meets P f (strip (specS l os ok F O)):=
 meets_S fun x y hok=>by rw [h x y] at hok;cases hok
theorem meets_fuelS {P:Program}{f:FuncId}{l:List SV}{os:List SO}{okN:Nat->SVt l->SOt os->Bool}{ok:SVt l->SOt os->Bool}{F:SVt l->SOt os->V}{O:SVt l->SOt os->List VO}
  (hN: ∀ N,Meets P f (strip (specS l os (okN N) F O))) (h: ∀ x y,ok x y=true→ ∃ N,okN N x y=true):Meets P f (strip (specS l os ok F O)):=by
 intro args objs r os' hF
 unfold strip specS at hF
 split at hF
 ·rename_i r' os'' hq
  split at hq
  ·rename_i x y hx hy
   simp only [Option.some.injEq,Prod.mk.injEq] at hF hq
   obtain ⟨rfl,rfl⟩:=hF
   obtain ⟨h1,rfl,rfl⟩:=hq
   obtain ⟨N,hn⟩:=h x y h1
   exact hN N args objs _ _ (by unfold strip specS;simp only [hx,hy,hn])
  ·cases hq
 ·cases hF
def escI (c:Int):List Int:=bif ieq c 34||ieq c 92 then [92,c] else [c]
theorem escI_len (c:Int):(escI c).length<=2:=by
 unfold escI
 cases ieq c 34||ieq c 92<;>simp
def escL (l:List Int):List Int:=l.flatMap escI
theorem escL_cons (c:Int)(l:List Int):escL (c::l)=escI c++escL l:=rfl
theorem escL_len: ∀ l:List Int,(escL l).length<=2*l.length
 | []=>Nat.le_refl _
 |c::l=>by
  have:=escL_len l
  have:=escI_len c
  rw [escL_cons,List.length_append,List.length_cons]
  omega
def qtI (s:ByteArray):List Int:=[34]++escL (bytesL s)++[34]
def qtF (s:ByteArray):ByteArray:=bif plnB s then s else strOf (qtI s)
def qt0 (s:ByteArray)(k:Int)(y:List Int):Bool:=cP (0<=k/\k<=s.size/\s.size<=2000000000/\y.length<=1+2*k)
def fg_f102_0:Fg:=⟨[(0,some .str),(3,none),(4,some tI)],[(3,none),(8,none),(27,none),(33,none)]⟩
def tb_f102_0:TC:=(.sq (.sq (.reg [(oV 9 4),(oV 10 0),(oP 11 (.len true (.t 10))),(oP 12 (.bin false .lss (.t 9) (.t 11)))]) (.cd (.t 12) .sk (.fg ⟨[(3,none)],[(3,none),(8,none),(27,none),(33,none)]⟩ (.ex 0)))) (.sq (.bk 1 (.sq (.sq (.reg [(oV 15 0),(oV 16 4),(oP 17 (.sx (.t 15) (.t 16))),(oP 18 (.bin false .eql (.t 17) (.c (.v (.int .u8 34))))),(oV 19 18),(oQ 20 19 false (.mv (.t 0))),(oQ 21 19 false (.mv (.t 4))),(oQ 22 19 false (.sx (.t 20) (.t 21))),(oQ 23 19 false (.bin false .eql (.t 22) (.c (.v (.int .u8 92))))),(oP 24 (.pick (.t 19) (cB true) (.t 23)))]) (.cd (.t 24) (.reg [(oV 25 3),(oM 26 (.bs 5 1 1 [(.v (.int .u8 0))] [(0,1,(.c (.v (.int .u8 92))))])),(oM 27 (.app 5 1 1 (.t 25) (.t 26))),(oV 3 27)]) .sk)) (.reg [(oV 28 3),(oV 29 0),(oV 30 4),(oP 31 (.sx (.t 29) (.t 30))),(oM 32 (.bs 5 1 1 [(.v (.int .u8 0))] [(0,1,(.t 31))])),(oM 33 (.app 5 1 1 (.t 28) (.t 32))),(oV 3 33)]))) (.reg [(oV 13 4),(oP 14 (.bin false .add (.t 13) (cI 1))),(oV 4 14)])))
def tc_f102:TC:=(.sq (.reg [(oP 2 (.mv (.c (.v (.string (ByteArray.mk #[]))))))]) (.sq (.sq (.reg [(oV 5 0),(oC 6 115 [(.t 5)])]) (.cd (.t 6) (.sq (.reg [(oV 7 0),(oV 2 7)]) .rt) .sk)) (.sq (.reg [(oM 8 (.bs 5 1 1 [(.v (.int .u8 0))] [(0,1,(.c (.v (.int .u8 34))))])),(oV 3 8)]) (.sq (.sq (.reg [(oP 4 (.mv (cI 0)))]) (.bk 0 (.nw 3 5 (.lp 0 fg_f102_0 tb_f102_0)))) (.sq (.reg [(oV 34 3),(oM 35 (.bs 5 1 1 [(.v (.int .u8 0))] [(0,1,(.c (.v (.int .u8 34))))])),(oM 36 (.app 5 1 1 (.t 34) (.t 35))),(oC 37 2440448 [(.t 36)]),(oV 2 37)]) .rt)))))
def rv_f102:List (RV×Option Ty):=[((.t 2),some .str)]
abbrev sh_f102_0:Sh:=⟨[(0,.ty .str),(3,.ms 8),(4,.ty tI)],[(3,.no),(8,.arr 5 (.int .u8)),(27,.no),(33,.no)]⟩
def st_f102_0 (x0:ByteArray)(x4:Int)(y8:(List Int)):VS:=sh_f102_0.st (x0,(),x4,()) ((),y8,(),(),())
abbrev sh_f102_0_e0:Sh:=⟨[(3,.ms 8)],[(3,.no),(8,.arr 5 (.int .u8)),(27,.no),(33,.no)]⟩
def st_f102_0_e0 (y8:(List Int)):VS:=sh_f102_0_e0.st ((),()) ((),y8,(),(),())
-- loop 0: (x0 : ByteArray) (x4 : Int) (y8 : (List Int)); out: ('exit', 0) (y8 : (List Int))
def L_f102_0:VS->Option (Bool×List (Bool×Exit×VS)):=mkL sh_f102_0 (fun x y=>(qt0 x.1 x.2.2.1 y.2.1)) (fun x y=>[(true,.exit 0,st_f102_0_e0 (y.2.1++escL ((bytesL x.1).drop x.2.2.1.toNat)))])
def g_f102:G:=⟨TYs,[8],38,EL [(115,sp_f115),(2440448,sp_op_convert_28_9)],keeps,(Ls [L_f102_0]),IL [],RL []⟩
def b_f102_0_1 (x0:ByteArray)(x4:Int)(y8:(List Int)):Option (Exit×VS):=
 br (cApp y8 ([92]) 1)
  (br (cSx x0 x4)
   (br (cApp (y8++([92])) ([(sgt x0 x4)]) 1)
    (some (.normal,st_f102_0 x0 (iadd .i64 x4 1) ((y8++([92]))++([(sgt x0 x4)]))))
    (none))
   (none))
  (none)
def b_f102_0 (x0:ByteArray)(x4:Int)(y8:(List Int)):Option (Exit×VS):=
 br ((ilt x4 (slen x0)))
  (br (cSx x0 x4)
   (br ((ieq (sgt x0 x4) 34))
    (b_f102_0_1 x0 x4 y8)
    (br (cSx x0 x4)
     (br ((ieq (sgt x0 x4) 92))
      (b_f102_0_1 x0 x4 y8)
      (br (cSx x0 x4)
       (br (cApp y8 ([(sgt x0 x4)]) 1)
        (some (.normal,st_f102_0 x0 (iadd .i64 x4 1) (y8++([(sgt x0 x4)]))))
        (none))
       (none)))
     (none)))
   (none))
  (some (.exit 0,st_f102_0_e0 y8))
noncomputable def lp_f102_0 (x0:ByteArray)(x4:Int)(y8:(List Int)):Option (Exit×VS):=loopF (roundF g_f102 fg_f102_0 tb_f102_0) (st_f102_0 x0 x4 y8)
noncomputable def n_f102_0_1 (x0:ByteArray)(x4:Int)(y8:(List Int)):Option (Exit×VS):=
 br (cApp y8 ([92]) 1)
  (br (cSx x0 x4)
   (br (cApp (y8++([92])) ([(sgt x0 x4)]) 1)
    (lp_f102_0 x0 (iadd .i64 x4 1) ((y8++([92]))++([(sgt x0 x4)])))
    (none))
   (none))
  (none)
noncomputable def n_f102_0 (x0:ByteArray)(x4:Int)(y8:(List Int)):Option (Exit×VS):=
 br ((ilt x4 (slen x0)))
  (br (cSx x0 x4)
   (br ((ieq (sgt x0 x4) 34))
    (n_f102_0_1 x0 x4 y8)
    (br (cSx x0 x4)
     (br ((ieq (sgt x0 x4) 92))
      (n_f102_0_1 x0 x4 y8)
      (br (cSx x0 x4)
       (br (cApp y8 ([(sgt x0 x4)]) 1)
        (lp_f102_0 x0 (iadd .i64 x4 1) (y8++([(sgt x0 x4)])))
        (none))
       (none)))
     (none)))
   (none))
  (some (.exit 0,st_f102_0_e0 y8))
def la_f102_0 (x0:ByteArray)(x4:Int)(y8:(List Int)):Option (Exit×VS):=some (.exit 0,st_f102_0_e0 (y8++escL ((bytesL x0).drop x4.toNat)))
theorem be_f102_0 (x0:ByteArray)(x4:Int)(y8:(List Int)):roundF g_f102 fg_f102_0 tb_f102_0 (st_f102_0 x0 x4 y8)=b_f102_0 x0 x4 y8:=by kernel_rfl
theorem ln_f102_0 (x0:ByteArray)(x4:Int)(y8:(List Int)):lp_f102_0 x0 x4 y8=n_f102_0 x0 x4 y8:=(loopF_nxt _ _).trans (by
 rw [be_f102_0]
 simp only [b_f102_0,b_f102_0_1,n_f102_0,n_f102_0_1,nxt_br,nxt_n,nxt_r,nxt_e,nxt_0]
 rfl)
def r_f102 (p0:ByteArray):Option (V×List VO):=
 br ((nameG p0))
  (br ((plnB p0))
   (some (.t .str p0,[]))
   (br ((qt0 p0 (0:Int) ([34])))
    (br (cApp (([34])++escL ((bytesL p0).drop (0:Int).toNat)) ([34]) 1)
     (some (.t .str (strOf ((([34])++escL ((bytesL p0).drop (0:Int).toNat))++([34]))),[]))
     (none))
    (none)))
  (none)
theorem e_f102 (p0:ByteArray):runF g_f102 tc_f102 rv_f102 false [.t .str p0] []=r_f102 p0:=by kernel_rfl
theorem ok_f102:Option.map (trC Tryd.prog) Tryd.f102.body=some tc_f102.er:=by kernel_rfl
theorem rok_f102:trVs Tryd.prog Tryd.f102.results.toList=some (rv_f102.map Prod.fst):=by kernel_rfl
theorem en_f102:Entered Tryd.prog 102:= .inr ⟨by decide,_,Tryd.func102,by kernel_rfl,by kernel_rfl⟩
theorem gk_f102:GOk Tryd.prog g_f102:=gok_of _ (by
 intro p hp
 simp only [List.mem_cons,List.not_mem_nil,or_false] at hp
 rcases hp with rfl|rfl
 ·exact ⟨en_f115,ms_f115⟩
 ·exact ⟨en_op_convert_28_9,ms_op_convert_28_9⟩)
theorem l_f102_0 (x0:ByteArray)(x4:Int)(y8:(List Int))(h:(qt0 x0 x4 y8)=true):lp_f102_0 x0 x4 y8=la_f102_0 x0 x4 y8:=by
 obtain ⟨h1,h2,h3,h4⟩:=cP_of h
 clear h
 obtain ⟨k,rfl⟩:=Int.eq_ofNat_of_zero_le h1
 have hl:=bytesG_len x0
 refine range_ind (bytesL x0) (fun k=> ∀ y8:List Int,y8.length<=1+2*k->lp_f102_0 x0 (k:Int) y8=la_f102_0 x0 (k:Int) y8) ?_ ?_ k (by omega) y8 (by omega)
 ·intro y8 _
  have e2:ilt ((bytesL x0).length:Int) (slen x0)=false:=decide_eq_false (by simp only [slen];omega)
  rw [ln_f102_0]
  unfold n_f102_0 la_f102_0
  rw [e2,br_false,Int.toNat_natCast,List.drop_length]
  show _=some (_,st_f102_0_e0 (y8++[]))
  rw [List.append_nil]
 ·intro k hk ih y8 hy
  have hk2:k<x0.size:=by omega
  have e2:ilt (k:Int) (slen x0)=true:=decide_eq_true (by simp only [slen];omega)
  have e3:cSx x0 (k:Int)=true:=by simp only [cSx,decide_eq_true_eq];omega
  rw [ln_f102_0]
  unfold n_f102_0 n_f102_0_1
  rw [e2,e3,sgt_get hk2,br_true,br_true,br_true,br_true,br_true,cAppN (by omega) (by simp only [List.length_singleton];omega),br_true,cAppN (by omega) (by rw [List.length_append];simp only [List.length_singleton];omega),br_true,cAppN (by omega) (by simp only [List.length_singleton];omega),br_true,add1 (k:=k),ih (y8++[92]++[(bytesL x0)[k]]) (by rw [List.length_append,List.length_append];simp only [List.length_singleton];omega),ih (y8++[(bytesL x0)[k]]) (by rw [List.length_append,List.length_singleton];omega)]
  unfold la_f102_0
  rw [Int.toNat_natCast,Int.toNat_natCast,List.drop_eq_getElem_cons hk,escL_cons]
  unfold escI
  cases ieq (bytesL x0)[k] 34<;>cases ieq (bytesL x0)[k] 92<;>simp [br_true,br_false]
theorem lo_f102_0: ∀ S l p,g_f102.L 0 (fgt fg_f102_0 S)=some (true,l)->pickA l=some p->loopF (roundF g_f102 fg_f102_0 tb_f102_0) S=some p:=
 lok_of (s:=sh_f102_0) ⟨by decide,by decide⟩ (by kernel_rfl) fun x y hok p hp=>by
 simp only [pickA_br,pickA_one] at hp
 exact (l_f102_0 x.1 x.2.2.1 y.2.1 (by simpa using hok)).trans hp
theorem lk_f102:tc_f102.lok g_f102:=by
 repeat (first|exact trivial|exact lo_f102_0|refine ⟨?_, ?_⟩)
theorem s_f102 (s:ByteArray)(h:wsz s=true):r_f102 s=some (.t .str (qtF s),[]):=by
 have h0:s.size<=2000000000:=of_decide_eq_true h
 have hl:=bytesG_len s
 have h1:=escL_len (bytesL s)
 unfold r_f102 qtF
 refine brY (decide_eq_true (by omega)) ?_
 cases plnB s with
 |true=>rfl
 |false=>
  rw [br_false]
  refine brY (cP_in ⟨by omega,by omega,h0,by simp only [List.length_singleton];omega⟩) ?_
  rw [Int.toNat_zero,List.drop_zero,cAppN (by omega) (by rw [List.length_append];simp only [List.length_singleton];omega),br_true]
  rfl
def sp_f102:Ent:=spec (.pr .str .nil) (fun x=>(wsz x.1)) (fun x=>(.t .str (qtF x.1)))
theorem ms_f102:Meets Tryd.prog 102 (strip sp_f102):=by
 obtain ⟨c,hc,hi⟩:=Option.map_eq_some_iff.1 ok_f102
 exact meets_spec (R:=runF g_f102 tc_f102 rv_f102 false) (meets_of (by decide) Tryd.func102 hc hi Tryd.ntmps102 rok_f102 gk_f102 lk_f102 mixed) fun x hok=>(e_f102 x.1).trans (s_f102 x.1 hok)
def indL (n:Nat):List Int:=List.replicate (2*n) 32
def indF (b:List Int)(n:Int):List Int:=b++indL n.toNat
def indOk (b:List Int)(n:Int):Bool:=cP (0<=n/\n<=1000000/\b.length<=50000000000)
def ind0 (n k:Int)(y:List Int):Bool:=cP (0<=k/\k<=n/\n<=1000000/\y.length<=50000000000+2*k)
def fg_f101_0:Fg:=⟨[(0,none),(1,some tI),(5,some tI)],[(0,none),(13,none),(49000,none),(50000,none)]⟩
def tb_f101_0:TC:=(.sq (.sq (.reg [(oV 6 5),(oV 7 1),(oP 8 (.bin false .lss (.t 6) (.t 7)))]) (.cd (.t 8) .sk (.fg ⟨[(0,none)],[(0,none),(13,none),(49000,none),(50000,none)]⟩ (.ex 0)))) (.sq (.bk 1 (.reg [(oV 11 0),(oM 12 (.bs 5 1 2 [(.v (.int .u8 0)),(.v (.int .u8 0))] [(0,1,(.c (.v (.int .u8 32)))),(1,1,(.c (.v (.int .u8 32))))])),(oM 13 (.app 5 1 1 (.t 11) (.t 12))),(oV 0 13)])) (.reg [(oV 9 5),(oP 10 (.bin false .add (.t 9) (cI 1))),(oV 5 10)])))
def tc_f101:TC:=(.ad [(50000,49000)] (.sq (.reg [(oP 4 (.mv (.c (.v (.slice none 0 0)))))]) (.sq (.sq (.reg [(oP 5 (.mv (cI 0)))]) (.bk 0 (.nw 0 5 (.lp 0 fg_f101_0 tb_f101_0)))) (.sq (.reg [(oV 14 0),(oV 4 14)]) .rt))))
def rv_f101:List (RV×Option Ty):=[((.t 4),none)]
abbrev sh_f101_0:Sh:=⟨[(0,.ms 49000),(1,.ty tI),(5,.ty tI)],[(0,.no),(13,.no),(49000,.arr 5 (.int .u8)),(50000,.no)]⟩
def st_f101_0 (x1:Int)(x5:Int)(y49000:(List Int)):VS:=sh_f101_0.st ((),x1,x5,()) ((),(),y49000,(),())
abbrev sh_f101_0_e0:Sh:=⟨[(0,.ms 49000)],[(0,.no),(13,.no),(49000,.arr 5 (.int .u8)),(50000,.no)]⟩
def st_f101_0_e0 (y49000:(List Int)):VS:=sh_f101_0_e0.st ((),()) ((),(),y49000,(),())
-- loop 0: (x1 : Int) (x5 : Int) (y49000 : (List Int)); out: ('exit', 0) (y49000 : (List Int))
def L_f101_0:VS->Option (Bool×List (Bool×Exit×VS)):=mkL sh_f101_0 (fun x y=>(ind0 x.2.1 x.2.2.1 y.2.2.1)) (fun x y=>[(true,.exit 0,st_f101_0_e0 (indF y.2.2.1 (x.2.1-x.2.2.1)))])
def g_f101:G:=⟨TYs,[],15,EL [],keeps,(Ls [L_f101_0]),IL [],RL []⟩
def b_f101_0 (x1:Int)(x5:Int)(y49000:(List Int)):Option (Exit×VS):=
 br ((ilt x5 x1))
  (br (cApp y49000 ([32,32]) 1)
   (some (.normal,st_f101_0 x1 (iadd .i64 x5 1) (y49000++([32,32]))))
   (none))
  (some (.exit 0,st_f101_0_e0 y49000))
noncomputable def lp_f101_0 (x1:Int)(x5:Int)(y49000:(List Int)):Option (Exit×VS):=loopF (roundF g_f101 fg_f101_0 tb_f101_0) (st_f101_0 x1 x5 y49000)
noncomputable def n_f101_0 (x1:Int)(x5:Int)(y49000:(List Int)):Option (Exit×VS):=
 br ((ilt x5 x1))
  (br (cApp y49000 ([32,32]) 1)
   (lp_f101_0 x1 (iadd .i64 x5 1) (y49000++([32,32])))
   (none))
  (some (.exit 0,st_f101_0_e0 y49000))
def la_f101_0 (x1:Int)(x5:Int)(y49000:(List Int)):Option (Exit×VS):=some (.exit 0,st_f101_0_e0 (indF y49000 (x1-x5)))
theorem be_f101_0 (x1:Int)(x5:Int)(y49000:(List Int)):roundF g_f101 fg_f101_0 tb_f101_0 (st_f101_0 x1 x5 y49000)=b_f101_0 x1 x5 y49000:=by kernel_rfl
theorem ln_f101_0 (x1:Int)(x5:Int)(y49000:(List Int)):lp_f101_0 x1 x5 y49000=n_f101_0 x1 x5 y49000:=(loopF_nxt _ _).trans (by
 rw [be_f101_0]
 simp only [b_f101_0,n_f101_0,nxt_br,nxt_n,nxt_r,nxt_e,nxt_0]
 rfl)
def r_f101 (p0:(List Int))(p1:Int):Option (V×List VO):=
 br ((ind0 p1 (0:Int) p0))
  (some (.ms 50001,[.no,.arr 5 (.int .u8) (indF p0 (p1-(0:Int)))]))
  (none)
theorem e_f101 (p0:(List Int))(p1:Int):runF g_f101 tc_f101 rv_f101 true [.ms 50000,.t tI p1] [.arr 5 (.int .u8) p0]=r_f101 p0 p1:=by kernel_rfl
theorem ok_f101:Option.map (trC Tryd.prog) Tryd.f101.body=some tc_f101.er:=by kernel_rfl
theorem rok_f101:trVs Tryd.prog Tryd.f101.results.toList=some (rv_f101.map Prod.fst):=by kernel_rfl
theorem en_f101:Entered Tryd.prog 101:= .inr ⟨by decide,_,Tryd.func101,by kernel_rfl,by kernel_rfl⟩
theorem gk_f101:GOk Tryd.prog g_f101:=gok_of _ (fun p hp=>by cases hp)
theorem l_f101_0 (x1:Int)(x5:Int)(y49000:(List Int))(h:(ind0 x1 x5 y49000)=true):lp_f101_0 x1 x5 y49000=la_f101_0 x1 x5 y49000:=by
 obtain ⟨h1,h2,h3,h4⟩:=cP_of h
 clear h
 obtain ⟨k,rfl⟩:=Int.eq_ofNat_of_zero_le h1
 obtain ⟨n,rfl⟩:=Int.eq_ofNat_of_zero_le (show 0<=x1 by omega)
 have key: ∀ (m k:Nat) (y:List Int),n=k+m->y.length<=50000000000+2*k->lp_f101_0 (n:Int) (k:Int) y=la_f101_0 (n:Int) (k:Int) y:=by
  intro m
  induction m with
  |zero=>
   intro k y hm hy
   obtain rfl:n=k:=by omega
   have e2:ilt (n:Int) (n:Int)=false:=decide_eq_false (by omega)
   rw [ln_f101_0]
   unfold n_f101_0 la_f101_0
   rw [e2,br_false,Int.sub_self]
   show _=some (_,st_f101_0_e0 (y++[]))
   rw [List.append_nil]
  |succ m ih=>
   intro k y hm hy
   have e2:ilt (k:Int) (n:Int)=true:=decide_eq_true (by omega)
   rw [ln_f101_0]
   unfold n_f101_0
   rw [e2,br_true,cAppN (by omega) (by simp only [List.length_cons,List.length_nil];omega),br_true,add1 (k:=k),ih (k+1) (y++[32,32]) (by omega) (by rw [List.length_append];simp only [List.length_cons,List.length_nil];omega)]
   unfold la_f101_0 indF indL
   rw [show ((n:Int)-((k+1:Nat):Int)).toNat=m by omega,show ((n:Int)-(k:Int)).toNat=m+1 by omega,show 2*(m+1)=2*m+1+1 by omega,List.replicate_succ,List.replicate_succ,List.append_assoc]
   rfl
 exact key (n-k) k y49000 (by omega) (by omega)
theorem lo_f101_0: ∀ S l p,g_f101.L 0 (fgt fg_f101_0 S)=some (true,l)->pickA l=some p->loopF (roundF g_f101 fg_f101_0 tb_f101_0) S=some p:=
 lok_of (s:=sh_f101_0) ⟨by decide,by decide⟩ (by kernel_rfl) fun x y hok p hp=>by
 simp only [pickA_br,pickA_one] at hp
 exact (l_f101_0 x.2.1 x.2.2.1 y.2.2.1 (by simpa using hok)).trans hp
theorem lk_f101:tc_f101.lok g_f101:=by
 repeat (first|exact trivial|exact lo_f101_0|refine ⟨?_, ?_⟩)
theorem s_f101 (b:List Int)(n:Int)(h:indOk b n=true):r_f101 b n=some (.ms 50001,[.no,.arr 5 (.int .u8) (indF b n)]):=by
 obtain ⟨h1,h2,h3⟩:=cP_of h
 unfold r_f101
 refine brY (cP_in ⟨by omega,h1,h2,by omega⟩) ?_
 rw [Int.sub_zero]
def sp_f101:Ent:=specS [.ms 50000,.ty tI] [.arr 5 (.int .u8)] (fun x y=>(indOk y.1 x.2.1)) (fun x y=>(.ms 50001)) (fun x y=>[.no,.arr 5 (.int .u8) (indF y.1 x.2.1)])
theorem ms_f101:Meets Tryd.prog 101 (strip sp_f101):=by
 obtain ⟨c,hc,hi⟩:=Option.map_eq_some_iff.1 ok_f101
 exact meets_specS (R:=runF g_f101 tc_f101 rv_f101 true) (meets_of (by decide) Tryd.func101 hc hi Tryd.ntmps101 rok_f101 gk_f101 lk_f101 mixed) fun x y hok=>(e_f101 y.1 x.2.1).trans (s_f101 y.1 x.2.1 hok)
end
end Go.Proofs.YtkkoedniahnneaaDoor.K
set_option linter.unusedSectionVars false
namespace Go.Proofs.YtkkoedniahnneaaDoor.K
open Go.RowKit
noncomputable section
set_option linter.unusedSectionVars false
def wdsT (l:List ByteArray):List Int:=l.flatMap fun w=>32::bytesL (qtF w)
def wdsL:List ByteArray->List Int
 | []=>[]
 |w::r=>bytesL (qtF w)++wdsT r
def wdsD (l:List ByteArray)(k:Nat):List Int:=if k=0 then wdsL l else wdsT (l.drop k)
theorem wdsT_cons (w:ByteArray)(l:List ByteArray):wdsT (w::l)=32::(bytesL (qtF w)++wdsT l):=rfl
theorem wdsD_end (l:List ByteArray):wdsD l l.length=[]:=by
 unfold wdsD
 split
 ·rename_i h
  rw [List.eq_nil_of_length_eq_zero h]
  rfl
 ·rw [List.drop_length]
  rfl
theorem wdsD_step {l:List ByteArray}{k:Nat}(h:k<l.length):wdsD l k=(if k=0 then [] else [32])++(bytesL (qtF l[k])++wdsD l (k+1)):=by
 unfold wdsD
 rw [if_neg (Nat.succ_ne_zero k)]
 by_cases hz:k=0
 ·subst hz
  rw [if_pos rfl,if_pos rfl]
  cases l with
  |nil=>cases h
  |cons a b=>rfl
 ·rw [if_neg hz,if_neg hz,List.drop_eq_getElem_cons h,wdsT_cons]
  rfl
mutual
def wrB:K.Blk->List Int->Nat->List Int
 |.mk ws o wi _,b,n=>bif !o then ((b++indL n)++wdsL ws)++[59,10] else (wrL wi (((b++indL n)++wdsL ws)++[32,123,10]) (n+1)++indL n)++[125,10]
def wrL:List K.Blk->List Int->Nat->List Int
 | [],b,_=>b
 |x::r,b,n=>if b.length<=16384 then wrL r (wrB x b n) n else b
end
mutual
def pnB:K.Blk->Nat->List Int
 |.mk ws o wi _,n=>(indL n++wdsL ws)++(bif !o then [59,10] else ([32,123,10]++(pnL wi (n+1)++(indL n++[125,10]))))
def pnL:List K.Blk->Nat->List Int
 | [],_=>[]
 |x::r,n=>pnB x n++pnL r n
end
mutual
theorem wrB_or: ∀ (x:K.Blk) (b:List Int) (n:Nat),wrB x b n=b++pnB x n∨(16384<(wrB x b n).length/\(wrB x b n).length<=b.length+(pnB x n).length)
 |.mk ws o wi ln,b,n=>by
  unfold wrB pnB
  cases o with
  |false=>exact .inl (by simp only [Bool.not_false,cond_true,List.append_assoc])
  |true=>
   simp only [Bool.not_true,cond_false]
   rcases wrL_or wi (((b++indL n)++wdsL ws)++[32,123,10]) (n+1) with h|⟨h1,h2⟩
   ·exact .inl (by rw [h];simp only [List.append_assoc])
   ·refine .inr ⟨?_, ?_⟩
    ·simp only [List.length_append]
     omega
    ·simp only [List.length_append] at h2 ⊢
     omega
theorem wrL_or: ∀ (l:List K.Blk) (b:List Int) (n:Nat),wrL l b n=b++pnL l n∨(16384<(wrL l b n).length/\(wrL l b n).length<=b.length+(pnL l n).length)
 | [],b,n=> .inl (List.append_nil b).symm
 |x::r,b,n=>by
  unfold wrL pnL
  by_cases hb:b.length<=16384
  ·rw [if_pos hb]
   rcases wrB_or x b n with h|⟨h1,h2⟩
   ·rcases wrL_or r (wrB x b n) n with g|⟨g1,g2⟩
    ·exact .inl (by rw [g,h,List.append_assoc])
    ·refine .inr ⟨g1, ?_⟩
     rw [h] at g2 ⊢
     simp only [List.length_append] at g2 ⊢
     omega
   ·rcases wrL_or r (wrB x b n) n with g|⟨g1,g2⟩
    ·refine .inr ?_
     rw [g]
     simp only [List.length_append]
     omega
    ·refine .inr ⟨g1, ?_⟩
     simp only [List.length_append]
     omega
  ·rw [if_neg hb]
   refine .inr ⟨by omega, ?_⟩
   simp only [List.length_append]
   omega
end
theorem wrL_le (l:List K.Blk)(b:List Int)(n:Nat):(wrL l b n).length<=b.length+(pnL l n).length:=by
 rcases wrL_or l b n with h|h
 ·rw [h,List.length_append]
  omega
 ·exact h.2
def pnT (l:List BlkT)(n:Nat):List Int:=pnL (l.map Blk.of) n
def wrF (b:List Int)(l:List BlkT)(n:Int):List Int:=wrL (l.map Blk.of) b n.toNat
def wrS (k:Nat)(b:List Int)(l:List BlkT)(n:Int):Bool:=okN k l&&cP (0<=n/\n+k<=1000001/\b.length+(pnT l n.toNat).length<=40000000000)
def wrOk (b:List Int)(l:List BlkT)(n:Int):Bool:=okT l&&cP (0<=n/\n<=1/\b.length+(pnT l n.toNat).length<=40000000000)
theorem prT_cons (x:BlkT)(l:List BlkT)(n:Nat):pnT (x::l) n=((indL n++wdsL x.1)++(bif !x.2.1 then [59,10] else ([32,123,10]++(pnT (x.2.2.1.map Blk.un) (n+1)++(indL n++[125,10])))))++pnT l n:=by
 unfold pnT
 rw [map_of_unB,List.map_cons]
 show pnB (Blk.of x) n++pnL (l.map Blk.of) n=_
 rw [show pnB (Blk.of x) n=(indL n++wdsL x.1)++(bif !x.2.1 then [59,10] else ([32,123,10]++(pnL x.2.2.1 (n+1)++(indL n++[125,10])))) from rfl]
theorem wrF_cons (b:List Int)(x:BlkT)(l:List BlkT)(n:Nat):wrF b (x::l) (n:Int)=if b.length<=16384 then wrF (bif !x.2.1 then ((b++indL n)++wdsL x.1)++[59,10] else (wrF (((b++indL n)++wdsL x.1)++[32,123,10]) (x.2.2.1.map Blk.un) ((n+1:Nat):Int)++indL n)++[125,10]) l (n:Int) else b:=by
 unfold wrF
 rw [map_of_unB,Int.toNat_natCast,Int.toNat_natCast,List.map_cons]
 rfl
theorem fuel_ref07_write (b:List Int)(l:List BlkT)(n:Int)(h:wrOk b l n=true): ∃ N,wrS N b l n=true:=by
 obtain ⟨h1,h2⟩:=Bool.and_eq_true_iff.1 h
 obtain ⟨N,h1⟩:=okT_fuel h1
 obtain ⟨h3,h4,h5⟩:=cP_of h2
 have:=(okN_b h1).2
 exact ⟨N,Bool.and_eq_true_iff.2 ⟨h1,cP_in ⟨by omega,by omega,h5⟩⟩⟩
theorem lgt_wd {l:List BlkT}{k:Nat}(hk:k<l.length):wrA l (k:Int)=l[k].1:=by show (lgt tyBlkT l _).1=_;rw [Int.toNat_natCast,lgt_get (y:=tyBlkT) hk]
def ww0 (l:List BlkT)(i j:Int)(y:List Int):Bool:=cP (cIx l i=true/\0<=j/\j<=(wrA l i).length/\(wrA l i).length<=100000/\(wrA l i).all wsz=true/\y.length+(wdsD (wrA l i) j.toNat).length<=45000000000)
theorem en_f57:Entered Tryd.prog 57:= .inr ⟨by decide,_,Tryd.func57,by kernel_rfl,by kernel_rfl⟩
def sp_f57R [Fuel]:Ent:=specS [.ms 50000,.ty (.sl tyBlkT),.ty tI] [.arr 5 (.int .u8)] (fun x y=>(wrS fuel y.1 x.2.1 x.2.2.1)) (fun x y=>(.ms 50001)) (fun x y=>[.no,.arr 5 (.int .u8) (wrF y.1 x.2.1 x.2.2.1)])
theorem en_f57R:Entered Tryd.prog 57:=en_f57
section
variable [Fuel][Nonempty (PLift (Meets Tryd.prog 57 (strip sp_f57R)))]
theorem ms_f57R:Meets Tryd.prog 57 (strip sp_f57R):=(Classical.choice (inferInstance:Nonempty (PLift (Meets Tryd.prog 57 (strip sp_f57R))))).down
def ww1 [Fuel](l:List BlkT)(n i:Int)(y:List Int):Bool:=cP (0<=i/\i<=l.length/\okN (fuel+1) l=true/\0<=n/\n+fuel+1<=1000001/\y.length+(pnT (l.drop i.toNat) n.toNat).length<=40000000000)
def fg_f57_0:Fg:=⟨[(0,none),(1,some (.sl tyBlkT)),(2,some tI),(7,some tI),(8,some tI)],[(0,none),(22,none),(37,none),(48,none),(56,none),(58,none),(67,none),(70,none),(71,none),(5022,none),(5067,none),(5070,none),(10022,none),(10067,none),(10070,none),(15022,none),(15067,none),(15070,none),(49000,none),(50000,none)]⟩
def tb_f57_0:TC:=(.sq (.sq (.reg [(oV 23 8),(oV 24 1),(oV 25 7),(oP 26 (.ix 4 (.t 24) (.t 25))),(oP 27 (.fa 0 (.t 26))),(oL 28 27),(oP 29 (.len false (.t 28))),(oP 30 (.bin false .lss (.t 23) (.t 29)))]) (.cd (.t 30) .sk (.fg ⟨[(0,none),(1,some (.sl tyBlkT)),(2,some tI),(7,some tI)],[(0,none),(22,none),(37,none),(48,none),(56,none),(58,none),(67,none),(70,none),(71,none),(5022,none),(5067,none),(5070,none),(10022,none),(10067,none),(10070,none),(15022,none),(15067,none),(15070,none),(49000,none),(50000,none)]⟩ (.ex 2)))) (.sq (.bk 3 (.sq (.sq (.reg [(oV 33 8),(oP 34 (.bin false .gtr (.t 33) (cI 0)))]) (.cd (.t 34) (.reg [(oV 35 0),(oM 36 (.bs 5 1 1 [(.v (.int .u8 0))] [(0,1,(.c (.v (.int .u8 32))))])),(oM 37 (.app 5 1 1 (.t 35) (.t 36))),(oV 0 37)]) .sk)) (.reg [(oV 38 0),(oV 39 1),(oV 40 7),(oP 41 (.ix 4 (.t 39) (.t 40))),(oP 42 (.fa 0 (.t 41))),(oL 43 42),(oV 44 8),(oP 45 (.ix 1 (.t 43) (.t 44))),(oL 46 45),(oC 47 102 [(.t 46)]),(oM 48 (.app 5 1 1 (.t 38) (.t 47))),(oV 0 48)]))) (.reg [(oV 31 8),(oP 32 (.bin false .add (.t 31) (cI 1))),(oV 8 32)])))
def fg_f57_1:Fg:=⟨[(0,none),(1,some (.sl tyBlkT)),(2,some tI),(7,some tI)],[(0,none),(22,none),(37,none),(48,none),(56,none),(58,none),(67,none),(70,none),(71,none),(5022,none),(5067,none),(5070,none),(10022,none),(10067,none),(10070,none),(15022,none),(15067,none),(15070,none),(49000,none),(50000,none)]⟩
def tb_f57_1:TC:=(.mv [(22,49000),(70,49000)] (.sq (.sq (.reg [(oV 9 7),(oV 10 1),(oP 11 (.len false (.t 10))),(oP 12 (.bin false .lss (.t 9) (.t 11))),(oV 13 12),(oQ 14 13 true (.mv (.t 0))),(oQ 15 13 true (.len false (.t 14))),(oQ 16 13 true (.bin false .leq (.t 15) (cI 16384))),(oP 17 (.pick (.t 13) (.t 16) (cB false)))]) (.cd (.t 17) .sk (.fg ⟨[(0,none)],[(0,none),(22,none),(37,none),(48,none),(56,none),(58,none),(67,none),(70,none),(71,none),(5022,none),(5067,none),(5070,none),(10022,none),(10067,none),(10070,none),(15022,none),(15067,none),(15070,none),(49000,none),(50000,none)]⟩ (.ex 0)))) (.sq (.bk 1 (.sq (.reg [(oV 20 0),(oV 21 2),(oC 22 101 [(.t 20),(.t 21)]),(oV 0 22)]) (.sq (.sq (.reg [(oP 8 (.mv (cI 0)))]) (.bk 2 (.nw 0 5 (.lp 0 fg_f57_0 tb_f57_0)))) (.sq (.sq (.reg [(oV 49 1),(oV 50 7),(oP 51 (.ix 4 (.t 49) (.t 50))),(oP 52 (.fa 1 (.t 51))),(oL 53 52),(oP 54 (.nt (.t 53)))]) (.cd (.t 54) (.sq (.reg [(oV 55 0),(oM 56 (.app 5 1 1 (.t 55) (.c (.v (.string (ByteArray.mk #[59,10])))))),(oV 0 56)]) (.fg ⟨[(0,none),(1,some (.sl tyBlkT)),(2,some tI),(7,some tI)],[(0,none),(22,none),(37,none),(48,none),(56,none),(58,none),(67,none),(70,none),(71,none),(5022,none),(5067,none),(5070,none),(10022,none),(10067,none),(10070,none),(15022,none),(15067,none),(15070,none),(49000,none),(50000,none)]⟩ (.ex 1))) .sk)) (.sq (.reg [(oV 57 0),(oM 58 (.app 5 1 1 (.t 57) (.c (.v (.string (ByteArray.mk #[32,123,10])))))),(oV 0 58)]) (.sq (.reg [(oV 59 0),(oV 60 1),(oV 61 7),(oP 62 (.ix 4 (.t 60) (.t 61))),(oP 63 (.fa 2 (.t 62))),(oL 64 63),(oV 65 2),(oP 66 (.bin false .add (.t 65) (cI 1))),(oC 67 57 [(.t 59),(.t 64),(.t 66)]),(oV 0 67)]) (.reg [(oV 68 0),(oV 69 2),(oC 70 101 [(.t 68),(.t 69)]),(oM 71 (.app 5 1 1 (.t 70) (.c (.v (.string (ByteArray.mk #[125,10])))))),(oV 0 71)]))))))) (.reg [(oV 18 7),(oP 19 (.bin false .add (.t 18) (cI 1))),(oV 7 19)]))))
def tc_f57:TC:=(.ad [(50000,49000)] (.sq (.reg [(oP 6 (.mv (.c (.v (.slice none 0 0)))))]) (.sq (.sq (.reg [(oP 7 (.mv (cI 0)))]) (.bk 0 (.nw 0 5 (.lp 1 fg_f57_1 tb_f57_1)))) (.sq (.reg [(oV 72 0),(oV 6 72)]) .rt))))
def rv_f57:List (RV×Option Ty):=[((.t 6),none)]
abbrev sh_f57_0:Sh:=⟨[(0,.ms 22),(1,.ty (.sl tyBlkT)),(2,.ty tI),(7,.ty tI),(8,.ty tI)],[(0,.no),(22,.arr 5 (.int .u8)),(37,.no),(48,.no),(56,.no),(58,.no),(67,.no),(70,.no),(71,.no),(5022,.no),(5067,.no),(5070,.no),(10022,.no),(10067,.no),(10070,.no),(15022,.no),(15067,.no),(15070,.no),(49000,.no),(50000,.no)]⟩
def st_f57_0 (x1:(List BlkT))(x2:Int)(x7:Int)(x8:Int)(y22:(List Int)):VS:=sh_f57_0.st ((),x1,x2,x7,x8,()) ((),y22,(),(),(),(),(),(),(),(),(),(),(),(),(),(),(),(),(),(),())
abbrev sh_f57_0_e2:Sh:=⟨[(0,.ms 22),(1,.ty (.sl tyBlkT)),(2,.ty tI),(7,.ty tI)],[(0,.no),(22,.arr 5 (.int .u8)),(37,.no),(48,.no),(56,.no),(58,.no),(67,.no),(70,.no),(71,.no),(5022,.no),(5067,.no),(5070,.no),(10022,.no),(10067,.no),(10070,.no),(15022,.no),(15067,.no),(15070,.no),(49000,.no),(50000,.no)]⟩
def st_f57_0_e2 (x1:(List BlkT))(x2:Int)(x7:Int)(y22:(List Int)):VS:=sh_f57_0_e2.st ((),x1,x2,x7,()) ((),y22,(),(),(),(),(),(),(),(),(),(),(),(),(),(),(),(),(),(),())
-- loop 0: (x1 : (List BlkT)) (x2 : Int) (x7 : Int) (x8 : Int) (y22 : (List Int)); out: ('exit', 2) (x1 : (List BlkT)) (x2 : Int) (x7 : Int) (y22 : (List Int))
abbrev sh_f57_1:Sh:=⟨[(0,.ms 49000),(1,.ty (.sl tyBlkT)),(2,.ty tI),(7,.ty tI)],[(0,.no),(22,.no),(37,.no),(48,.no),(56,.no),(58,.no),(67,.no),(70,.no),(71,.no),(5022,.no),(5067,.no),(5070,.no),(10022,.no),(10067,.no),(10070,.no),(15022,.no),(15067,.no),(15070,.no),(49000,.arr 5 (.int .u8)),(50000,.no)]⟩
def st_f57_1 (x1:(List BlkT))(x2:Int)(x7:Int)(y49000:(List Int)):VS:=sh_f57_1.st ((),x1,x2,x7,()) ((),(),(),(),(),(),(),(),(),(),(),(),(),(),(),(),(),(),y49000,(),())
abbrev sh_f57_1_e0:Sh:=⟨[(0,.ms 49000)],[(0,.no),(22,.no),(37,.no),(48,.no),(56,.no),(58,.no),(67,.no),(70,.no),(71,.no),(5022,.no),(5067,.no),(5070,.no),(10022,.no),(10067,.no),(10070,.no),(15022,.no),(15067,.no),(15070,.no),(49000,.arr 5 (.int .u8)),(50000,.no)]⟩
def st_f57_1_e0 (y49000:(List Int)):VS:=sh_f57_1_e0.st ((),()) ((),(),(),(),(),(),(),(),(),(),(),(),(),(),(),(),(),(),y49000,(),())
-- loop 1: (x1 : (List BlkT)) (x2 : Int) (x7 : Int) (y49000 : (List Int)); out: ('exit', 0) (y49000 : (List Int))
def L_f57_0:VS->Option (Bool×List (Bool×Exit×VS)):=mkL sh_f57_0 (fun x y=>(ww0 x.2.1 x.2.2.2.1 x.2.2.2.2.1 y.2.1)) (fun x y=>[(true,.exit 2,st_f57_0_e2 (x.2.1) (x.2.2.1) (x.2.2.2.1) (y.2.1++wdsD (wrA x.2.1 x.2.2.2.1) x.2.2.2.2.1.toNat))])
def L_f57_1:VS->Option (Bool×List (Bool×Exit×VS)):=mkL sh_f57_1 (fun x y=>(ww1 x.2.1 x.2.2.1 x.2.2.2.1 y.2.2.2.2.2.2.2.2.2.2.2.2.2.2.2.2.2.2.1)) (fun x y=>[(true,.exit 0,st_f57_1_e0 (wrF y.2.2.2.2.2.2.2.2.2.2.2.2.2.2.2.2.2.2.1 (x.2.1.drop x.2.2.2.1.toNat) x.2.2.1))])
def g_f57:G:=⟨TYs,[],73,EL [(57,sp_f57R),(101,sp_f101),(102,sp_f102)],(101::57::keeps),(Ls [L_f57_0,L_f57_1]),IL [],RL []⟩
def b_f57_0 (x1:(List BlkT))(x2:Int)(x7:Int)(x8:Int)(y22:(List Int)):Option (Exit×VS):=
 br (cIx x1 x7)
  (br ((ilt x8 (llen ((lgt tyBlkT x1 (Int.toNat x7)).1))))
   (br ((igt x8 0))
    (br (cApp y22 ([32]) 1)
     (br (cIx x1 x7)
      (br (cIx ((lgt tyBlkT x1 (Int.toNat x7)).1) x8)
       (br ((wsz (lgt .str ((lgt tyBlkT x1 (Int.toNat x7)).1) (Int.toNat x8))))
        (br (cApp (y22++([32])) (bytesL (qtF (lgt .str ((lgt tyBlkT x1 (Int.toNat x7)).1) (Int.toNat x8)))) 1)
         (some (.normal,st_f57_0 x1 x2 x7 (iadd .i64 x8 1) ((y22++([32]))++(bytesL (qtF (lgt .str ((lgt tyBlkT x1 (Int.toNat x7)).1) (Int.toNat x8)))))))
         (none))
        (none))
       (none))
      (none))
     (none))
    (br (cIx x1 x7)
     (br (cIx ((lgt tyBlkT x1 (Int.toNat x7)).1) x8)
      (br ((wsz (lgt .str ((lgt tyBlkT x1 (Int.toNat x7)).1) (Int.toNat x8))))
       (br (cApp y22 (bytesL (qtF (lgt .str ((lgt tyBlkT x1 (Int.toNat x7)).1) (Int.toNat x8)))) 1)
        (some (.normal,st_f57_0 x1 x2 x7 (iadd .i64 x8 1) (y22++(bytesL (qtF (lgt .str ((lgt tyBlkT x1 (Int.toNat x7)).1) (Int.toNat x8)))))))
        (none))
       (none))
      (none))
     (none)))
   (some (.exit 2,st_f57_0_e2 x1 x2 x7 y22)))
  (none)
noncomputable def lp_f57_0 (x1:(List BlkT))(x2:Int)(x7:Int)(x8:Int)(y22:(List Int)):Option (Exit×VS):=loopF (roundF g_f57 fg_f57_0 tb_f57_0) (st_f57_0 x1 x2 x7 x8 y22)
noncomputable def n_f57_0 (x1:(List BlkT))(x2:Int)(x7:Int)(x8:Int)(y22:(List Int)):Option (Exit×VS):=
 br (cIx x1 x7)
  (br ((ilt x8 (llen ((lgt tyBlkT x1 (Int.toNat x7)).1))))
   (br ((igt x8 0))
    (br (cApp y22 ([32]) 1)
     (br (cIx x1 x7)
      (br (cIx ((lgt tyBlkT x1 (Int.toNat x7)).1) x8)
       (br ((wsz (lgt .str ((lgt tyBlkT x1 (Int.toNat x7)).1) (Int.toNat x8))))
        (br (cApp (y22++([32])) (bytesL (qtF (lgt .str ((lgt tyBlkT x1 (Int.toNat x7)).1) (Int.toNat x8)))) 1)
         (lp_f57_0 x1 x2 x7 (iadd .i64 x8 1) ((y22++([32]))++(bytesL (qtF (lgt .str ((lgt tyBlkT x1 (Int.toNat x7)).1) (Int.toNat x8))))))
         (none))
        (none))
       (none))
      (none))
     (none))
    (br (cIx x1 x7)
     (br (cIx ((lgt tyBlkT x1 (Int.toNat x7)).1) x8)
      (br ((wsz (lgt .str ((lgt tyBlkT x1 (Int.toNat x7)).1) (Int.toNat x8))))
       (br (cApp y22 (bytesL (qtF (lgt .str ((lgt tyBlkT x1 (Int.toNat x7)).1) (Int.toNat x8)))) 1)
        (lp_f57_0 x1 x2 x7 (iadd .i64 x8 1) (y22++(bytesL (qtF (lgt .str ((lgt tyBlkT x1 (Int.toNat x7)).1) (Int.toNat x8))))))
        (none))
       (none))
      (none))
     (none)))
   (some (.exit 2,st_f57_0_e2 x1 x2 x7 y22)))
  (none)
def la_f57_0 (x1:(List BlkT))(x2:Int)(x7:Int)(x8:Int)(y22:(List Int)):Option (Exit×VS):=some (.exit 2,st_f57_0_e2 (x1) (x2) (x7) (y22++wdsD (wrA x1 x7) x8.toNat))
theorem be_f57_0 (x1:(List BlkT))(x2:Int)(x7:Int)(x8:Int)(y22:(List Int)):roundF g_f57 fg_f57_0 tb_f57_0 (st_f57_0 x1 x2 x7 x8 y22)=b_f57_0 x1 x2 x7 x8 y22:=by kernel_rfl
theorem ln_f57_0 (x1:(List BlkT))(x2:Int)(x7:Int)(x8:Int)(y22:(List Int)):lp_f57_0 x1 x2 x7 x8 y22=n_f57_0 x1 x2 x7 x8 y22:=(loopF_nxt _ _).trans (by
 rw [be_f57_0]
 simp only [b_f57_0,n_f57_0,nxt_br,nxt_n,nxt_r,nxt_e,nxt_0]
 rfl)
def b_f57_1 (x1:(List BlkT))(x2:Int)(x7:Int)(y49000:(List Int)):Option (Exit×VS):=
 br ((ilt x7 (llen x1)))
  (br ((ile (llen y49000) 16384))
   (br ((indOk y49000 x2))
    (br ((ww0 x1 x7 (0:Int) (indF y49000 x2)))
     (br (cIx (x1) (x7))
      (br ((!(((lgt tyBlkT (x1) (Int.toNat (x7))).2).1)))
       (br (cApp ((indF y49000 x2)++wdsD (wrA x1 x7) (0:Int).toNat) (bytesL (ByteArray.mk #[59,10])) 1)
        (some (.normal,st_f57_1 (x1) (x2) (iadd .i64 (x7) 1) (((indF y49000 x2)++wdsD (wrA x1 x7) (0:Int).toNat)++(bytesL (ByteArray.mk #[59,10])))))
        (none))
       (br (cApp ((indF y49000 x2)++wdsD (wrA x1 x7) (0:Int).toNat) (bytesL (ByteArray.mk #[32,123,10])) 1)
        (br (cIx (x1) (x7))
         (br ((wrS fuel (((indF y49000 x2)++wdsD (wrA x1 x7) (0:Int).toNat)++(bytesL (ByteArray.mk #[32,123,10]))) (List.map Blk.un ((((lgt tyBlkT (x1) (Int.toNat (x7))).2).2).1)) (iadd .i64 (x2) 1)))
          (br ((indOk (wrF (((indF y49000 x2)++wdsD (wrA x1 x7) (0:Int).toNat)++(bytesL (ByteArray.mk #[32,123,10]))) (List.map Blk.un ((((lgt tyBlkT (x1) (Int.toNat (x7))).2).2).1)) (iadd .i64 (x2) 1)) (x2)))
           (br (cApp (indF (wrF (((indF y49000 x2)++wdsD (wrA x1 x7) (0:Int).toNat)++(bytesL (ByteArray.mk #[32,123,10]))) (List.map Blk.un ((((lgt tyBlkT (x1) (Int.toNat (x7))).2).2).1)) (iadd .i64 (x2) 1)) (x2)) (bytesL (ByteArray.mk #[125,10])) 1)
            (some (.normal,st_f57_1 (x1) (x2) (iadd .i64 (x7) 1) ((indF (wrF (((indF y49000 x2)++wdsD (wrA x1 x7) (0:Int).toNat)++(bytesL (ByteArray.mk #[32,123,10]))) (List.map Blk.un ((((lgt tyBlkT (x1) (Int.toNat (x7))).2).2).1)) (iadd .i64 (x2) 1)) (x2))++(bytesL (ByteArray.mk #[125,10])))))
            (none))
           (none))
          (none))
         (none))
        (none)))
      (none))
     (none))
    (none))
   (some (.exit 0,st_f57_1_e0 y49000)))
  (some (.exit 0,st_f57_1_e0 y49000))
noncomputable def lp_f57_1 (x1:(List BlkT))(x2:Int)(x7:Int)(y49000:(List Int)):Option (Exit×VS):=loopF (roundF g_f57 fg_f57_1 tb_f57_1) (st_f57_1 x1 x2 x7 y49000)
noncomputable def n_f57_1 (x1:(List BlkT))(x2:Int)(x7:Int)(y49000:(List Int)):Option (Exit×VS):=
 br ((ilt x7 (llen x1)))
  (br ((ile (llen y49000) 16384))
   (br ((indOk y49000 x2))
    (br ((ww0 x1 x7 (0:Int) (indF y49000 x2)))
     (br (cIx (x1) (x7))
      (br ((!(((lgt tyBlkT (x1) (Int.toNat (x7))).2).1)))
       (br (cApp ((indF y49000 x2)++wdsD (wrA x1 x7) (0:Int).toNat) (bytesL (ByteArray.mk #[59,10])) 1)
        (lp_f57_1 (x1) (x2) (iadd .i64 (x7) 1) (((indF y49000 x2)++wdsD (wrA x1 x7) (0:Int).toNat)++(bytesL (ByteArray.mk #[59,10]))))
        (none))
       (br (cApp ((indF y49000 x2)++wdsD (wrA x1 x7) (0:Int).toNat) (bytesL (ByteArray.mk #[32,123,10])) 1)
        (br (cIx (x1) (x7))
         (br ((wrS fuel (((indF y49000 x2)++wdsD (wrA x1 x7) (0:Int).toNat)++(bytesL (ByteArray.mk #[32,123,10]))) (List.map Blk.un ((((lgt tyBlkT (x1) (Int.toNat (x7))).2).2).1)) (iadd .i64 (x2) 1)))
          (br ((indOk (wrF (((indF y49000 x2)++wdsD (wrA x1 x7) (0:Int).toNat)++(bytesL (ByteArray.mk #[32,123,10]))) (List.map Blk.un ((((lgt tyBlkT (x1) (Int.toNat (x7))).2).2).1)) (iadd .i64 (x2) 1)) (x2)))
           (br (cApp (indF (wrF (((indF y49000 x2)++wdsD (wrA x1 x7) (0:Int).toNat)++(bytesL (ByteArray.mk #[32,123,10]))) (List.map Blk.un ((((lgt tyBlkT (x1) (Int.toNat (x7))).2).2).1)) (iadd .i64 (x2) 1)) (x2)) (bytesL (ByteArray.mk #[125,10])) 1)
            (lp_f57_1 (x1) (x2) (iadd .i64 (x7) 1) ((indF (wrF (((indF y49000 x2)++wdsD (wrA x1 x7) (0:Int).toNat)++(bytesL (ByteArray.mk #[32,123,10]))) (List.map Blk.un ((((lgt tyBlkT (x1) (Int.toNat (x7))).2).2).1)) (iadd .i64 (x2) 1)) (x2))++(bytesL (ByteArray.mk #[125,10]))))
            (none))
           (none))
          (none))
         (none))
        (none)))
      (none))
     (none))
    (none))
   (some (.exit 0,st_f57_1_e0 y49000)))
  (some (.exit 0,st_f57_1_e0 y49000))
def la_f57_1 (x1:(List BlkT))(x2:Int)(x7:Int)(y49000:(List Int)):Option (Exit×VS):=some (.exit 0,st_f57_1_e0 (wrF y49000 (x1.drop x7.toNat) x2))
theorem be_f57_1 (x1:(List BlkT))(x2:Int)(x7:Int)(y49000:(List Int)):roundF g_f57 fg_f57_1 tb_f57_1 (st_f57_1 x1 x2 x7 y49000)=b_f57_1 x1 x2 x7 y49000:=by kernel_rfl
theorem ln_f57_1 (x1:(List BlkT))(x2:Int)(x7:Int)(y49000:(List Int)):lp_f57_1 x1 x2 x7 y49000=n_f57_1 x1 x2 x7 y49000:=(loopF_nxt _ _).trans (by
 rw [be_f57_1]
 simp only [b_f57_1,n_f57_1,nxt_br,nxt_n,nxt_r,nxt_e,nxt_0]
 rfl)
def r_f57 (p0:(List Int))(p1:(List BlkT))(p2:Int):Option (V×List VO):=
 br ((ww1 p1 p2 (0:Int) p0))
  (some (.ms 50001,[.no,.arr 5 (.int .u8) (wrF p0 (p1.drop (0:Int).toNat) p2)]))
  (none)
theorem e_f57 (p0:(List Int))(p1:(List BlkT))(p2:Int):runF g_f57 tc_f57 rv_f57 true [.ms 50000,.t (.sl tyBlkT) p1,.t tI p2] [.arr 5 (.int .u8) p0]=r_f57 p0 p1 p2:=by kernel_rfl
theorem ok_f57:Option.map (trC Tryd.prog) Tryd.f57.body=some tc_f57.er:=by kernel_rfl
theorem rok_f57:trVs Tryd.prog Tryd.f57.results.toList=some (rv_f57.map Prod.fst):=by kernel_rfl
theorem gk_f57:GOk Tryd.prog g_f57:=gok_of _ (by
 intro p hp
 simp only [List.mem_cons,List.not_mem_nil,or_false] at hp
 rcases hp with rfl|rfl|rfl
 ·exact ⟨en_f57R,ms_f57R⟩
 ·exact ⟨en_f101,ms_f101⟩
 ·exact ⟨en_f102,ms_f102⟩)
theorem l_f57_0 (x1:(List BlkT))(x2:Int)(x7:Int)(x8:Int)(y22:(List Int))(h:(ww0 x1 x7 x8 y22)=true):lp_f57_0 x1 x2 x7 x8 y22=la_f57_0 x1 x2 x7 x8 y22:=by
 obtain ⟨h1,h2,h3,h4,h5,h6⟩:=cP_of h
 clear h
 obtain ⟨k,rfl⟩:=Int.eq_ofNat_of_zero_le h2
 rw [Int.toNat_natCast] at h6
 refine range_ind (wrA x1 x7) (fun k=> ∀ y22:List Int,y22.length+(wdsD (wrA x1 x7) k).length<=45000000000->lp_f57_0 x1 x2 x7 (k:Int) y22=la_f57_0 x1 x2 x7 (k:Int) y22) ?_ ?_ k (by omega) y22 h6
 ·intro y22 _
  have e2:ilt ((wrA x1 x7).length:Int) (llen (wrA x1 x7))=false:=decide_eq_false (by simp only [llen];omega)
  rw [ln_f57_0]
  unfold n_f57_0 la_f57_0
  rw [h1,br_true,e2,br_false,Int.toNat_natCast,wdsD_end,List.append_nil]
 ·intro k hk ih y22 hy
  rw [wdsD_step hk,List.length_append,List.length_append] at hy
  have e2:ilt (k:Int) (llen (wrA x1 x7))=true:=decide_eq_true (by simp only [llen];omega)
  have e3:cIx (wrA x1 x7) (k:Int)=true:=by rw [cIx_nat];exact decide_eq_true hk
  have e4:lgt .str (wrA x1 x7) (k:Int).toNat=(wrA x1 x7)[k]:=by rw [Int.toNat_natCast,lgt_get (y:= .str) hk]
  have hs:wsz (wrA x1 x7)[k]=true:=List.all_eq_true.1 h5 _ (List.getElem_mem hk)
  rw [ln_f57_0]
  unfold n_f57_0
  unfold la_f57_0 at ih ⊢
  rw [h1,br_true,e2,br_true,e4,hs,e3,br_true,br_true,br_true,br_true,add1 (k:=k),Int.toNat_natCast,wdsD_step hk]
  by_cases hz:k=0
  ·have e5:igt (k:Int) 0=false:=decide_eq_false (by omega)
   rw [if_pos hz] at hy ⊢
   simp only [List.length_nil] at hy
   rw [e5,br_false,br_true,br_true,cAppN (by omega) (by omega),br_true,ih _ (by rw [List.length_append];omega),Int.toNat_natCast,List.nil_append,List.append_assoc]
  ·have e5:igt (k:Int) 0=true:=decide_eq_true (by omega)
   rw [if_neg hz] at hy ⊢
   simp only [List.length_singleton] at hy
   rw [e5,br_true,cAppN (by omega) (by simp only [List.length_singleton];omega),br_true,cAppN (by omega) (by rw [List.length_append,List.length_singleton];omega),br_true,ih _ (by rw [List.length_append,List.length_append,List.length_singleton];omega),Int.toNat_natCast,List.append_assoc,List.append_assoc]
theorem l_f57_1 (x1:(List BlkT))(x2:Int)(x7:Int)(y49000:(List Int))(h:(ww1 x1 x2 x7 y49000)=true):lp_f57_1 x1 x2 x7 y49000=la_f57_1 x1 x2 x7 y49000:=by
 obtain ⟨h1,h2,h3,h4,h5,h6⟩:=cP_of h
 clear h
 obtain ⟨g6,g7,g8⟩:=okN_p h3
 obtain ⟨k,rfl⟩:=Int.eq_ofNat_of_zero_le h1
 obtain ⟨n,rfl⟩:=Int.eq_ofNat_of_zero_le h4
 rw [Int.toNat_natCast,Int.toNat_natCast] at h6
 refine range_ind x1 (fun k=> ∀ y:List Int,y.length+(pnT (x1.drop k) n).length<=40000000000->lp_f57_1 x1 (n:Int) (k:Int) y=la_f57_1 x1 (n:Int) (k:Int) y) ?_ ?_ k (by omega) y49000 h6
 ·intro y _
  have e2:ilt (x1.length:Int) (llen x1)=false:=decide_eq_false (by simp only [llen];omega)
  rw [ln_f57_1]
  unfold n_f57_1 la_f57_1
  rw [e2,br_false,Int.toNat_natCast,List.drop_length]
  rfl
 ·intro k hk ih y hy
  obtain ⟨w1,w2,w3⟩:=g8 _ (List.getElem_mem hk)
  rw [List.drop_eq_getElem_cons hk,prT_cons] at hy
  simp only [List.length_append] at hy
  have e2:ilt (k:Int) (llen x1)=true:=decide_eq_true (by simp only [llen];omega)
  have e3:cIx x1 (k:Int)=true:=by rw [cIx_nat];exact decide_eq_true hk
  have ew:=lgt_wd hk
  rw [ln_f57_1]
  simp only [n_f57_1]
  unfold la_f57_1 at ih ⊢
  rw [Int.toNat_natCast,List.drop_eq_getElem_cons hk,wrF_cons]
  by_cases hb:y.length<=16384
  ·have e4:ile (llen y) 16384=true:=decide_eq_true (by simp only [llen];omega)
   have e5:indOk y (n:Int)=true:=cP_in ⟨by omega,by omega,by omega⟩
   have e6:indF y (n:Int)=y++indL n:=by unfold indF;rw [Int.toNat_natCast]
   have e7:ww0 x1 (k:Int) 0 (y++indL n)=true:=cP_in ⟨e3,by omega,by omega,by rw [ew];exact w1,by rw [ew];exact w2,by
    rw [ew,Int.toNat_zero,List.length_append]
    show _+(wdsL x1[k].1).length<=_
    omega⟩
   have e8:wdsD (wrA x1 (k:Int)) 0=wdsL x1[k].1:=by rw [ew];rfl
   rw [e2,br_true,e4,br_true,e5,br_true,e6,e7,br_true,Int.toNat_zero,e8,e3,br_true,lgt_get (y:=tyBlkT) hk,if_pos hb]
   have q1:bytesL (ByteArray.mk #[59,10])=[59,10]:=by kernel_rfl
   have q2:bytesL (ByteArray.mk #[32,123,10])=[32,123,10]:=by kernel_rfl
   have q3:bytesL (ByteArray.mk #[125,10])=[125,10]:=by kernel_rfl
   rw [q1,q2,q3,add1 (k:=k),add1 (k:=n)]
   cases ho:x1[k].2.1 with
   |false=>
    rw [ho] at hy
    simp only [Bool.not_false,cond_true,List.length_cons,List.length_nil] at hy
    rw [Bool.not_false,br_true,cond_true,cAppN (by omega) (by simp only [List.length_append,List.length_cons,List.length_nil];omega),br_true,ih _ (by simp only [List.length_append,List.length_cons,List.length_nil];omega),Int.toNat_natCast]
   |true=>
    rw [ho] at hy
    simp only [Bool.not_true,cond_false,List.length_append,List.length_cons,List.length_nil] at hy
    have hw:=wrL_le ((x1[k].2.2.1.map Blk.un).map Blk.of) (y++indL n++wdsL x1[k].1++[32,123,10]) (n+1)
    have hw:(wrF (y++indL n++wdsL x1[k].1++[32,123,10]) (x1[k].2.2.1.map Blk.un) ((n+1:Nat):Int)).length<=(y++indL n++wdsL x1[k].1++[32,123,10]).length+(pnT (x1[k].2.2.1.map Blk.un) (n+1)).length:=by
     unfold wrF
     rw [Int.toNat_natCast]
     exact hw
    have u1:wrS fuel (y++indL n++wdsL x1[k].1++[32,123,10]) (x1[k].2.2.1.map Blk.un) ((n+1:Nat):Int)=true:=by
     refine Bool.and_eq_true_iff.2 ⟨w3,cP_in ⟨by omega,by omega, ?_⟩⟩
     rw [Int.toNat_natCast]
     simp only [List.length_append,List.length_cons,List.length_nil]
     omega
    generalize hW:wrF (y++indL n++wdsL x1[k].1++[32,123,10]) (x1[k].2.2.1.map Blk.un) ((n+1:Nat):Int)=W at hw ⊢
    simp only [List.length_append,List.length_cons,List.length_nil] at hw
    have u2:indOk W (n:Int)=true:=cP_in ⟨by omega,by omega,by omega⟩
    have u3:indF W (n:Int)=W++indL n:=by unfold indF;rw [Int.toNat_natCast]
    rw [Bool.not_true,br_false,cond_false,cAppN (by omega) (by simp only [List.length_append,List.length_cons,List.length_nil];omega),br_true,br_true,u1,br_true,u2,br_true,u3,cAppN (by omega) (by simp only [List.length_append,List.length_cons,List.length_nil];omega),br_true,ih _ (by simp only [List.length_append,List.length_cons,List.length_nil];omega),Int.toNat_natCast]
  ·have e4:ile (llen y) 16384=false:=decide_eq_false (by simp only [llen];omega)
   rw [e2,br_true,e4,br_false,if_neg hb]
theorem lo_f57_0: ∀ S l p,g_f57.L 0 (fgt fg_f57_0 S)=some (true,l)->pickA l=some p->loopF (roundF g_f57 fg_f57_0 tb_f57_0) S=some p:=
 lok_of (s:=sh_f57_0) ⟨by decide,by decide⟩ (by kernel_rfl) fun x y hok p hp=>by
 simp only [pickA_br,pickA_one] at hp
 exact (l_f57_0 x.2.1 x.2.2.1 x.2.2.2.1 x.2.2.2.2.1 y.2.1 (by simpa using hok)).trans hp
theorem lo_f57_1: ∀ S l p,g_f57.L 1 (fgt fg_f57_1 S)=some (true,l)->pickA l=some p->loopF (roundF g_f57 fg_f57_1 tb_f57_1) S=some p:=
 lok_of (s:=sh_f57_1) ⟨by decide,by decide⟩ (by kernel_rfl) fun x y hok p hp=>by
 simp only [pickA_br,pickA_one] at hp
 exact (l_f57_1 x.2.1 x.2.2.1 x.2.2.2.1 y.2.2.2.2.2.2.2.2.2.2.2.2.2.2.2.2.2.2.1 (by simpa using hok)).trans hp
theorem lk_f57:tc_f57.lok g_f57:=by
 repeat (first|exact trivial|exact lo_f57_0|exact lo_f57_1|refine ⟨?_, ?_⟩)
theorem s_f57 (b:List Int)(l:List BlkT)(n:Int)(h:wrS (fuel+1) b l n=true):r_f57 b l n=some (.ms 50001,[.no,.arr 5 (.int .u8) (wrF b l n)]):=by
 obtain ⟨h1,h2⟩:=Bool.and_eq_true_iff.1 h
 obtain ⟨h2,h3,h4⟩:=cP_of h2
 unfold r_f57
 refine brY (cP_in ⟨by omega,by omega,h1,h2,by omega,by rw [Int.toNat_zero,List.drop_zero];omega⟩) ?_
 rw [Int.toNat_zero,List.drop_zero]
theorem mr_f57:Meets Tryd.prog 57 (runF g_f57 tc_f57 rv_f57 true):=by
 obtain ⟨c,hc,hi⟩:=Option.map_eq_some_iff.1 ok_f57
 exact meets_of (by decide) Tryd.func57 hc hi Tryd.ntmps57 rok_f57 gk_f57 lk_f57 mixed
end
theorem ma_ref07_write: ∀ N:Nat,Meets Tryd.prog 57 (strip (@sp_f57R ⟨N⟩))
 |0=>meets_zeroS fun x y=>by first|rfl|simp [wrS]
 |N+1=>by
  letI:Fuel:=⟨N⟩
  haveI:Nonempty (PLift (Meets Tryd.prog 57 (strip sp_f57R))):=⟨⟨ma_ref07_write N⟩⟩
  exact meets_specS mr_f57 fun x y hok=>(e_f57 y.1 x.2.1 x.2.2.1).trans (s_f57 y.1 x.2.1 x.2.2.1 hok)
def sp_f57:Ent:=specS [.ms 50000,.ty (.sl tyBlkT),.ty tI] [.arr 5 (.int .u8)] (fun x y=>(wrOk y.1 x.2.1 x.2.2.1)) (fun x y=>(.ms 50001)) (fun x y=>[.no,.arr 5 (.int .u8) (wrF y.1 x.2.1 x.2.2.1)])
theorem ms_f57:Meets Tryd.prog 57 (strip sp_f57):=meets_fuelS ma_ref07_write fun x y hok=>fuel_ref07_write y.1 x.2.1 x.2.2.1 hok
theorem okT_p {l:List BlkT}(h:okT l=true):l.length<=100000∧ ∀ x∈l,x.1.length<=100000/\x.1.all wsz=true/\okT (x.2.2.1.map Blk.un)=true:=by
 obtain ⟨N,h⟩:=okT_fuel h
 cases N with
 |zero=>cases (okN_b h).1
 |succ N=>
  obtain ⟨h1,_,h3⟩:=okN_p h
  exact ⟨h1,fun x hx=>⟨(h3 x hx).1,(h3 x hx).2.1,cP_in ⟨N,(h3 x hx).2.2⟩⟩⟩
def wrN (l:List BlkT)(n:Int):List Int:=wrF [] l n
def wrNOk (l:List BlkT)(n:Int):Bool:=okT l&&cP (n=0/\(pnT l n.toNat).length<=40000000000)
def ww2 (l:List BlkT)(n i:Int)(y:List Int):Bool:=cP (0<=i/\i<=l.length/\okT l=true/\n=0/\y.length+(pnT (l.drop i.toNat) n.toNat).length<=40000000000)
def fg_f57N_0:Fg:=⟨[(0,none),(1,some (.sl tyBlkT)),(2,some tI),(7,some tI),(8,some tI)],[(0,none),(22,none),(37,none),(48,none),(56,none),(58,none),(67,none),(70,none),(71,none),(5022,none),(5067,none),(5070,none),(10022,none),(10067,none),(10070,none),(15022,none),(15067,none),(15070,none)]⟩
def tb_f57N_0:TC:=(.sq (.sq (.reg [(oV 23 8),(oV 24 1),(oV 25 7),(oP 26 (.ix 4 (.t 24) (.t 25))),(oP 27 (.fa 0 (.t 26))),(oL 28 27),(oP 29 (.len false (.t 28))),(oP 30 (.bin false .lss (.t 23) (.t 29)))]) (.cd (.t 30) .sk (.fg ⟨[(0,none),(1,some (.sl tyBlkT)),(2,some tI),(7,some tI)],[(0,none),(22,none),(37,none),(48,none),(56,none),(58,none),(67,none),(70,none),(71,none),(5022,none),(5067,none),(5070,none),(10022,none),(10067,none),(10070,none),(15022,none),(15067,none),(15070,none)]⟩ (.ex 2)))) (.sq (.bk 3 (.sq (.sq (.reg [(oV 33 8),(oP 34 (.bin false .gtr (.t 33) (cI 0)))]) (.cd (.t 34) (.reg [(oV 35 0),(oM 36 (.bs 5 1 1 [(.v (.int .u8 0))] [(0,1,(.c (.v (.int .u8 32))))])),(oM 37 (.app 5 1 1 (.t 35) (.t 36))),(oV 0 37)]) .sk)) (.reg [(oV 38 0),(oV 39 1),(oV 40 7),(oP 41 (.ix 4 (.t 39) (.t 40))),(oP 42 (.fa 0 (.t 41))),(oL 43 42),(oV 44 8),(oP 45 (.ix 1 (.t 43) (.t 44))),(oL 46 45),(oC 47 102 [(.t 46)]),(oM 48 (.app 5 1 1 (.t 38) (.t 47))),(oV 0 48)]))) (.reg [(oV 31 8),(oP 32 (.bin false .add (.t 31) (cI 1))),(oV 8 32)])))
def fg_f57N_1:Fg:=⟨[(0,none),(1,some (.sl tyBlkT)),(2,some tI),(7,some tI)],[(0,none),(22,none),(37,none),(48,none),(56,none),(58,none),(67,none),(70,none),(71,none),(5022,none),(5067,none),(5070,none),(10022,none),(10067,none),(10070,none),(15022,none),(15067,none),(15070,none)]⟩
def tb_f57N_1:TC:=(.mv [(22,0),(70,0)] (.sq (.sq (.reg [(oV 9 7),(oV 10 1),(oP 11 (.len false (.t 10))),(oP 12 (.bin false .lss (.t 9) (.t 11))),(oV 13 12),(oQ 14 13 true (.mv (.t 0))),(oQ 15 13 true (.len false (.t 14))),(oQ 16 13 true (.bin false .leq (.t 15) (cI 16384))),(oP 17 (.pick (.t 13) (.t 16) (cB false)))]) (.cd (.t 17) .sk (.fg ⟨[(0,none)],[(0,none),(22,none),(37,none),(48,none),(56,none),(58,none),(67,none),(70,none),(71,none),(5022,none),(5067,none),(5070,none),(10022,none),(10067,none),(10070,none),(15022,none),(15067,none),(15070,none)]⟩ (.ex 0)))) (.sq (.bk 1 (.sq (.reg [(oV 20 0),(oV 21 2),(oC 22 101 [(.t 20),(.t 21)]),(oV 0 22)]) (.sq (.sq (.reg [(oP 8 (.mv (cI 0)))]) (.bk 2 (.nw 0 5 (.lp 0 fg_f57N_0 tb_f57N_0)))) (.sq (.sq (.reg [(oV 49 1),(oV 50 7),(oP 51 (.ix 4 (.t 49) (.t 50))),(oP 52 (.fa 1 (.t 51))),(oL 53 52),(oP 54 (.nt (.t 53)))]) (.cd (.t 54) (.sq (.reg [(oV 55 0),(oM 56 (.app 5 1 1 (.t 55) (.c (.v (.string (ByteArray.mk #[59,10])))))),(oV 0 56)]) (.fg ⟨[(0,none),(1,some (.sl tyBlkT)),(2,some tI),(7,some tI)],[(0,none),(22,none),(37,none),(48,none),(56,none),(58,none),(67,none),(70,none),(71,none),(5022,none),(5067,none),(5070,none),(10022,none),(10067,none),(10070,none),(15022,none),(15067,none),(15070,none)]⟩ (.ex 1))) .sk)) (.sq (.reg [(oV 57 0),(oM 58 (.app 5 1 1 (.t 57) (.c (.v (.string (ByteArray.mk #[32,123,10])))))),(oV 0 58)]) (.sq (.reg [(oV 59 0),(oV 60 1),(oV 61 7),(oP 62 (.ix 4 (.t 60) (.t 61))),(oP 63 (.fa 2 (.t 62))),(oL 64 63),(oV 65 2),(oP 66 (.bin false .add (.t 65) (cI 1))),(oC 67 57 [(.t 59),(.t 64),(.t 66)]),(oV 0 67)]) (.reg [(oV 68 0),(oV 69 2),(oC 70 101 [(.t 68),(.t 69)]),(oM 71 (.app 5 1 1 (.t 70) (.c (.v (.string (ByteArray.mk #[125,10])))))),(oV 0 71)]))))))) (.reg [(oV 18 7),(oP 19 (.bin false .add (.t 18) (cI 1))),(oV 7 19)]))))
def tc_f57N:TC:=(.sq (.reg [(oP 6 (.mv (.c (.v (.slice none 0 0)))))]) (.sq (.sq (.reg [(oP 7 (.mv (cI 0)))]) (.bk 0 (.nw 0 5 (.lp 1 fg_f57N_1 tb_f57N_1)))) (.sq (.reg [(oV 72 0),(oV 6 72)]) .rt)))
def rv_f57N:List (RV×Option Ty):=[((.t 6),none)]
abbrev sh_f57N_0:Sh:=⟨[(0,.ms 22),(1,.ty (.sl tyBlkT)),(2,.ty tI),(7,.ty tI),(8,.ty tI)],[(0,.no),(22,.arr 5 (.int .u8)),(37,.no),(48,.no),(56,.no),(58,.no),(67,.no),(70,.no),(71,.no),(5022,.no),(5067,.no),(5070,.no),(10022,.no),(10067,.no),(10070,.no),(15022,.no),(15067,.no),(15070,.no)]⟩
def st_f57N_0 (x1:(List BlkT))(x2:Int)(x7:Int)(x8:Int)(y22:(List Int)):VS:=sh_f57N_0.st ((),x1,x2,x7,x8,()) ((),y22,(),(),(),(),(),(),(),(),(),(),(),(),(),(),(),(),())
abbrev sh_f57N_0_e2:Sh:=⟨[(0,.ms 22),(1,.ty (.sl tyBlkT)),(2,.ty tI),(7,.ty tI)],[(0,.no),(22,.arr 5 (.int .u8)),(37,.no),(48,.no),(56,.no),(58,.no),(67,.no),(70,.no),(71,.no),(5022,.no),(5067,.no),(5070,.no),(10022,.no),(10067,.no),(10070,.no),(15022,.no),(15067,.no),(15070,.no)]⟩
def st_f57N_0_e2 (x1:(List BlkT))(x2:Int)(x7:Int)(y22:(List Int)):VS:=sh_f57N_0_e2.st ((),x1,x2,x7,()) ((),y22,(),(),(),(),(),(),(),(),(),(),(),(),(),(),(),(),())
-- loop 0: (x1 : (List BlkT)) (x2 : Int) (x7 : Int) (x8 : Int) (y22 : (List Int)); out: ('exit', 2) (x1 : (List BlkT)) (x2 : Int) (x7 : Int) (y22 : (List Int))
abbrev sh_f57N_1:Sh:=⟨[(0,.ms 0),(1,.ty (.sl tyBlkT)),(2,.ty tI),(7,.ty tI)],[(0,.arr 5 (.int .u8)),(22,.no),(37,.no),(48,.no),(56,.no),(58,.no),(67,.no),(70,.no),(71,.no),(5022,.no),(5067,.no),(5070,.no),(10022,.no),(10067,.no),(10070,.no),(15022,.no),(15067,.no),(15070,.no)]⟩
def st_f57N_1 (x1:(List BlkT))(x2:Int)(x7:Int)(y0:(List Int)):VS:=sh_f57N_1.st ((),x1,x2,x7,()) (y0,(),(),(),(),(),(),(),(),(),(),(),(),(),(),(),(),(),())
abbrev sh_f57N_1_e0:Sh:=⟨[(0,.ms 0)],[(0,.arr 5 (.int .u8)),(22,.no),(37,.no),(48,.no),(56,.no),(58,.no),(67,.no),(70,.no),(71,.no),(5022,.no),(5067,.no),(5070,.no),(10022,.no),(10067,.no),(10070,.no),(15022,.no),(15067,.no),(15070,.no)]⟩
def st_f57N_1_e0 (y0:(List Int)):VS:=sh_f57N_1_e0.st ((),()) (y0,(),(),(),(),(),(),(),(),(),(),(),(),(),(),(),(),(),())
-- loop 1: (x1 : (List BlkT)) (x2 : Int) (x7 : Int) (y0 : (List Int)); out: ('exit', 0) (y0 : (List Int))
def L_f57N_0:VS->Option (Bool×List (Bool×Exit×VS)):=mkL sh_f57N_0 (fun x y=>(ww0 x.2.1 x.2.2.2.1 x.2.2.2.2.1 y.2.1)) (fun x y=>[(true,.exit 2,st_f57N_0_e2 (x.2.1) (x.2.2.1) (x.2.2.2.1) (y.2.1++wdsD (wrA x.2.1 x.2.2.2.1) x.2.2.2.2.1.toNat))])
def L_f57N_1:VS->Option (Bool×List (Bool×Exit×VS)):=mkL sh_f57N_1 (fun x y=>(ww2 x.2.1 x.2.2.1 x.2.2.2.1 y.1)) (fun x y=>[(true,.exit 0,st_f57N_1_e0 (wrF y.1 (x.2.1.drop x.2.2.2.1.toNat) x.2.2.1))])
def g_f57N:G:=⟨TYs,[],73,EL [(57,sp_f57),(101,sp_f101),(102,sp_f102)],(101::57::keeps),(Ls [L_f57N_0,L_f57N_1]),IL [],RL []⟩
def b_f57N_0 (x1:(List BlkT))(x2:Int)(x7:Int)(x8:Int)(y22:(List Int)):Option (Exit×VS):=
 br (cIx x1 x7)
  (br ((ilt x8 (llen ((lgt tyBlkT x1 (Int.toNat x7)).1))))
   (br ((igt x8 0))
    (br (cApp y22 ([32]) 1)
     (br (cIx x1 x7)
      (br (cIx ((lgt tyBlkT x1 (Int.toNat x7)).1) x8)
       (br ((wsz (lgt .str ((lgt tyBlkT x1 (Int.toNat x7)).1) (Int.toNat x8))))
        (br (cApp (y22++([32])) (bytesL (qtF (lgt .str ((lgt tyBlkT x1 (Int.toNat x7)).1) (Int.toNat x8)))) 1)
         (some (.normal,st_f57N_0 x1 x2 x7 (iadd .i64 x8 1) ((y22++([32]))++(bytesL (qtF (lgt .str ((lgt tyBlkT x1 (Int.toNat x7)).1) (Int.toNat x8)))))))
         (none))
        (none))
       (none))
      (none))
     (none))
    (br (cIx x1 x7)
     (br (cIx ((lgt tyBlkT x1 (Int.toNat x7)).1) x8)
      (br ((wsz (lgt .str ((lgt tyBlkT x1 (Int.toNat x7)).1) (Int.toNat x8))))
       (br (cApp y22 (bytesL (qtF (lgt .str ((lgt tyBlkT x1 (Int.toNat x7)).1) (Int.toNat x8)))) 1)
        (some (.normal,st_f57N_0 x1 x2 x7 (iadd .i64 x8 1) (y22++(bytesL (qtF (lgt .str ((lgt tyBlkT x1 (Int.toNat x7)).1) (Int.toNat x8)))))))
        (none))
       (none))
      (none))
     (none)))
   (some (.exit 2,st_f57N_0_e2 x1 x2 x7 y22)))
  (none)
noncomputable def lp_f57N_0 (x1:(List BlkT))(x2:Int)(x7:Int)(x8:Int)(y22:(List Int)):Option (Exit×VS):=loopF (roundF g_f57N fg_f57N_0 tb_f57N_0) (st_f57N_0 x1 x2 x7 x8 y22)
noncomputable def n_f57N_0 (x1:(List BlkT))(x2:Int)(x7:Int)(x8:Int)(y22:(List Int)):Option (Exit×VS):=
 br (cIx x1 x7)
  (br ((ilt x8 (llen ((lgt tyBlkT x1 (Int.toNat x7)).1))))
   (br ((igt x8 0))
    (br (cApp y22 ([32]) 1)
     (br (cIx x1 x7)
      (br (cIx ((lgt tyBlkT x1 (Int.toNat x7)).1) x8)
       (br ((wsz (lgt .str ((lgt tyBlkT x1 (Int.toNat x7)).1) (Int.toNat x8))))
        (br (cApp (y22++([32])) (bytesL (qtF (lgt .str ((lgt tyBlkT x1 (Int.toNat x7)).1) (Int.toNat x8)))) 1)
         (lp_f57N_0 x1 x2 x7 (iadd .i64 x8 1) ((y22++([32]))++(bytesL (qtF (lgt .str ((lgt tyBlkT x1 (Int.toNat x7)).1) (Int.toNat x8))))))
         (none))
        (none))
       (none))
      (none))
     (none))
    (br (cIx x1 x7)
     (br (cIx ((lgt tyBlkT x1 (Int.toNat x7)).1) x8)
      (br ((wsz (lgt .str ((lgt tyBlkT x1 (Int.toNat x7)).1) (Int.toNat x8))))
       (br (cApp y22 (bytesL (qtF (lgt .str ((lgt tyBlkT x1 (Int.toNat x7)).1) (Int.toNat x8)))) 1)
        (lp_f57N_0 x1 x2 x7 (iadd .i64 x8 1) (y22++(bytesL (qtF (lgt .str ((lgt tyBlkT x1 (Int.toNat x7)).1) (Int.toNat x8))))))
        (none))
       (none))
      (none))
     (none)))
   (some (.exit 2,st_f57N_0_e2 x1 x2 x7 y22)))
  (none)
def la_f57N_0 (x1:(List BlkT))(x2:Int)(x7:Int)(x8:Int)(y22:(List Int)):Option (Exit×VS):=some (.exit 2,st_f57N_0_e2 (x1) (x2) (x7) (y22++wdsD (wrA x1 x7) x8.toNat))
theorem be_f57N_0 (x1:(List BlkT))(x2:Int)(x7:Int)(x8:Int)(y22:(List Int)):roundF g_f57N fg_f57N_0 tb_f57N_0 (st_f57N_0 x1 x2 x7 x8 y22)=b_f57N_0 x1 x2 x7 x8 y22:=by kernel_rfl
theorem ln_f57N_0 (x1:(List BlkT))(x2:Int)(x7:Int)(x8:Int)(y22:(List Int)):lp_f57N_0 x1 x2 x7 x8 y22=n_f57N_0 x1 x2 x7 x8 y22:=(loopF_nxt _ _).trans (by
 rw [be_f57N_0]
 simp only [b_f57N_0,n_f57N_0,nxt_br,nxt_n,nxt_r,nxt_e,nxt_0]
 rfl)
def b_f57N_1 (x1:(List BlkT))(x2:Int)(x7:Int)(y0:(List Int)):Option (Exit×VS):=
 br ((ilt x7 (llen x1)))
  (br ((ile (llen y0) 16384))
   (br ((indOk y0 x2))
    (br ((ww0 x1 x7 (0:Int) (indF y0 x2)))
     (br (cIx (x1) (x7))
      (br ((!(((lgt tyBlkT (x1) (Int.toNat (x7))).2).1)))
       (br (cApp ((indF y0 x2)++wdsD (wrA x1 x7) (0:Int).toNat) (bytesL (ByteArray.mk #[59,10])) 1)
        (some (.normal,st_f57N_1 (x1) (x2) (iadd .i64 (x7) 1) (((indF y0 x2)++wdsD (wrA x1 x7) (0:Int).toNat)++(bytesL (ByteArray.mk #[59,10])))))
        (none))
       (br (cApp ((indF y0 x2)++wdsD (wrA x1 x7) (0:Int).toNat) (bytesL (ByteArray.mk #[32,123,10])) 1)
        (br (cIx (x1) (x7))
         (br ((wrOk (((indF y0 x2)++wdsD (wrA x1 x7) (0:Int).toNat)++(bytesL (ByteArray.mk #[32,123,10]))) (List.map Blk.un ((((lgt tyBlkT (x1) (Int.toNat (x7))).2).2).1)) (iadd .i64 (x2) 1)))
          (br ((indOk (wrF (((indF y0 x2)++wdsD (wrA x1 x7) (0:Int).toNat)++(bytesL (ByteArray.mk #[32,123,10]))) (List.map Blk.un ((((lgt tyBlkT (x1) (Int.toNat (x7))).2).2).1)) (iadd .i64 (x2) 1)) (x2)))
           (br (cApp (indF (wrF (((indF y0 x2)++wdsD (wrA x1 x7) (0:Int).toNat)++(bytesL (ByteArray.mk #[32,123,10]))) (List.map Blk.un ((((lgt tyBlkT (x1) (Int.toNat (x7))).2).2).1)) (iadd .i64 (x2) 1)) (x2)) (bytesL (ByteArray.mk #[125,10])) 1)
            (some (.normal,st_f57N_1 (x1) (x2) (iadd .i64 (x7) 1) ((indF (wrF (((indF y0 x2)++wdsD (wrA x1 x7) (0:Int).toNat)++(bytesL (ByteArray.mk #[32,123,10]))) (List.map Blk.un ((((lgt tyBlkT (x1) (Int.toNat (x7))).2).2).1)) (iadd .i64 (x2) 1)) (x2))++(bytesL (ByteArray.mk #[125,10])))))
            (none))
           (none))
          (none))
         (none))
        (none)))
      (none))
     (none))
    (none))
   (some (.exit 0,st_f57N_1_e0 y0)))
  (some (.exit 0,st_f57N_1_e0 y0))
noncomputable def lp_f57N_1 (x1:(List BlkT))(x2:Int)(x7:Int)(y0:(List Int)):Option (Exit×VS):=loopF (roundF g_f57N fg_f57N_1 tb_f57N_1) (st_f57N_1 x1 x2 x7 y0)
noncomputable def n_f57N_1 (x1:(List BlkT))(x2:Int)(x7:Int)(y0:(List Int)):Option (Exit×VS):=
 br ((ilt x7 (llen x1)))
  (br ((ile (llen y0) 16384))
   (br ((indOk y0 x2))
    (br ((ww0 x1 x7 (0:Int) (indF y0 x2)))
     (br (cIx (x1) (x7))
      (br ((!(((lgt tyBlkT (x1) (Int.toNat (x7))).2).1)))
       (br (cApp ((indF y0 x2)++wdsD (wrA x1 x7) (0:Int).toNat) (bytesL (ByteArray.mk #[59,10])) 1)
        (lp_f57N_1 (x1) (x2) (iadd .i64 (x7) 1) (((indF y0 x2)++wdsD (wrA x1 x7) (0:Int).toNat)++(bytesL (ByteArray.mk #[59,10]))))
        (none))
       (br (cApp ((indF y0 x2)++wdsD (wrA x1 x7) (0:Int).toNat) (bytesL (ByteArray.mk #[32,123,10])) 1)
        (br (cIx (x1) (x7))
         (br ((wrOk (((indF y0 x2)++wdsD (wrA x1 x7) (0:Int).toNat)++(bytesL (ByteArray.mk #[32,123,10]))) (List.map Blk.un ((((lgt tyBlkT (x1) (Int.toNat (x7))).2).2).1)) (iadd .i64 (x2) 1)))
          (br ((indOk (wrF (((indF y0 x2)++wdsD (wrA x1 x7) (0:Int).toNat)++(bytesL (ByteArray.mk #[32,123,10]))) (List.map Blk.un ((((lgt tyBlkT (x1) (Int.toNat (x7))).2).2).1)) (iadd .i64 (x2) 1)) (x2)))
           (br (cApp (indF (wrF (((indF y0 x2)++wdsD (wrA x1 x7) (0:Int).toNat)++(bytesL (ByteArray.mk #[32,123,10]))) (List.map Blk.un ((((lgt tyBlkT (x1) (Int.toNat (x7))).2).2).1)) (iadd .i64 (x2) 1)) (x2)) (bytesL (ByteArray.mk #[125,10])) 1)
            (lp_f57N_1 (x1) (x2) (iadd .i64 (x7) 1) ((indF (wrF (((indF y0 x2)++wdsD (wrA x1 x7) (0:Int).toNat)++(bytesL (ByteArray.mk #[32,123,10]))) (List.map Blk.un ((((lgt tyBlkT (x1) (Int.toNat (x7))).2).2).1)) (iadd .i64 (x2) 1)) (x2))++(bytesL (ByteArray.mk #[125,10]))))
            (none))
           (none))
          (none))
         (none))
        (none)))
      (none))
     (none))
    (none))
   (some (.exit 0,st_f57N_1_e0 y0)))
  (some (.exit 0,st_f57N_1_e0 y0))
def la_f57N_1 (x1:(List BlkT))(x2:Int)(x7:Int)(y0:(List Int)):Option (Exit×VS):=some (.exit 0,st_f57N_1_e0 (wrF y0 (x1.drop x7.toNat) x2))
theorem be_f57N_1 (x1:(List BlkT))(x2:Int)(x7:Int)(y0:(List Int)):roundF g_f57N fg_f57N_1 tb_f57N_1 (st_f57N_1 x1 x2 x7 y0)=b_f57N_1 x1 x2 x7 y0:=by kernel_rfl
theorem ln_f57N_1 (x1:(List BlkT))(x2:Int)(x7:Int)(y0:(List Int)):lp_f57N_1 x1 x2 x7 y0=n_f57N_1 x1 x2 x7 y0:=(loopF_nxt _ _).trans (by
 rw [be_f57N_1]
 simp only [b_f57N_1,n_f57N_1,nxt_br,nxt_n,nxt_r,nxt_e,nxt_0]
 rfl)
def r_f57N (p1:(List BlkT))(p2:Int):Option (V×List VO):=
 br ((ww2 p1 p2 (0:Int) ([]:List Int)))
  (some (.ms 50000,[.arr 5 (.int .u8) (wrF ([]:List Int) (p1.drop (0:Int).toNat) p2)]))
  (none)
theorem e_f57N (p1:(List BlkT))(p2:Int):runF g_f57N tc_f57N rv_f57N true [.c (.slice none 0 0),.t (.sl tyBlkT) p1,.t tI p2] []=r_f57N p1 p2:=by kernel_rfl
theorem ok_f57N:Option.map (trC Tryd.prog) Tryd.f57.body=some tc_f57N.er:=by kernel_rfl
theorem rok_f57N:trVs Tryd.prog Tryd.f57.results.toList=some (rv_f57N.map Prod.fst):=by kernel_rfl
theorem en_f57N:Entered Tryd.prog 57:= .inr ⟨by decide,_,Tryd.func57,by kernel_rfl,by kernel_rfl⟩
theorem gk_f57N:GOk Tryd.prog g_f57N:=gok_of _ (by
 intro p hp
 simp only [List.mem_cons,List.not_mem_nil,or_false] at hp
 rcases hp with rfl|rfl|rfl
 ·exact ⟨en_f57,ms_f57⟩
 ·exact ⟨en_f101,ms_f101⟩
 ·exact ⟨en_f102,ms_f102⟩)
theorem l_f57N_0 (x1:(List BlkT))(x2:Int)(x7:Int)(x8:Int)(y22:(List Int))(h:(ww0 x1 x7 x8 y22)=true):lp_f57N_0 x1 x2 x7 x8 y22=la_f57N_0 x1 x2 x7 x8 y22:=by
 obtain ⟨h1,h2,h3,h4,h5,h6⟩:=cP_of h
 clear h
 obtain ⟨k,rfl⟩:=Int.eq_ofNat_of_zero_le h2
 rw [Int.toNat_natCast] at h6
 refine range_ind (wrA x1 x7) (fun k=> ∀ y22:List Int,y22.length+(wdsD (wrA x1 x7) k).length<=45000000000->lp_f57N_0 x1 x2 x7 (k:Int) y22=la_f57N_0 x1 x2 x7 (k:Int) y22) ?_ ?_ k (by omega) y22 h6
 ·intro y22 _
  have e2:ilt ((wrA x1 x7).length:Int) (llen (wrA x1 x7))=false:=decide_eq_false (by simp only [llen];omega)
  rw [ln_f57N_0]
  unfold n_f57N_0 la_f57N_0
  rw [h1,br_true,e2,br_false,Int.toNat_natCast,wdsD_end,List.append_nil]
 ·intro k hk ih y22 hy
  rw [wdsD_step hk,List.length_append,List.length_append] at hy
  have e2:ilt (k:Int) (llen (wrA x1 x7))=true:=decide_eq_true (by simp only [llen];omega)
  have e3:cIx (wrA x1 x7) (k:Int)=true:=by rw [cIx_nat];exact decide_eq_true hk
  have e4:lgt .str (wrA x1 x7) (k:Int).toNat=(wrA x1 x7)[k]:=by rw [Int.toNat_natCast,lgt_get (y:= .str) hk]
  have hs:wsz (wrA x1 x7)[k]=true:=List.all_eq_true.1 h5 _ (List.getElem_mem hk)
  rw [ln_f57N_0]
  unfold n_f57N_0
  unfold la_f57N_0 at ih ⊢
  rw [h1,br_true,e2,br_true,e4,hs,e3,br_true,br_true,br_true,br_true,add1 (k:=k),Int.toNat_natCast,wdsD_step hk]
  by_cases hz:k=0
  ·have e5:igt (k:Int) 0=false:=decide_eq_false (by omega)
   rw [if_pos hz] at hy ⊢
   simp only [List.length_nil] at hy
   rw [e5,br_false,br_true,br_true,cAppN (by omega) (by omega),br_true,ih _ (by rw [List.length_append];omega),Int.toNat_natCast,List.nil_append,List.append_assoc]
  ·have e5:igt (k:Int) 0=true:=decide_eq_true (by omega)
   rw [if_neg hz] at hy ⊢
   simp only [List.length_singleton] at hy
   rw [e5,br_true,cAppN (by omega) (by simp only [List.length_singleton];omega),br_true,cAppN (by omega) (by rw [List.length_append,List.length_singleton];omega),br_true,ih _ (by rw [List.length_append,List.length_append,List.length_singleton];omega),Int.toNat_natCast,List.append_assoc,List.append_assoc]
theorem l_f57N_1 (x1:(List BlkT))(x2:Int)(x7:Int)(y0:(List Int))(h:(ww2 x1 x2 x7 y0)=true):lp_f57N_1 x1 x2 x7 y0=la_f57N_1 x1 x2 x7 y0:=by
 obtain ⟨h1,h2,h3,h4,h6⟩:=cP_of h
 clear h
 obtain ⟨g6,g8⟩:=okT_p h3
 obtain ⟨k,rfl⟩:=Int.eq_ofNat_of_zero_le h1
 obtain ⟨n,rfl⟩:=Int.eq_ofNat_of_zero_le (show 0<=x2 by omega)
 rw [Int.toNat_natCast,Int.toNat_natCast] at h6
 refine range_ind x1 (fun k=> ∀ y:List Int,y.length+(pnT (x1.drop k) n).length<=40000000000->lp_f57N_1 x1 (n:Int) (k:Int) y=la_f57N_1 x1 (n:Int) (k:Int) y) ?_ ?_ k (by omega) y0 h6
 ·intro y _
  have e2:ilt (x1.length:Int) (llen x1)=false:=decide_eq_false (by simp only [llen];omega)
  rw [ln_f57N_1]
  unfold n_f57N_1 la_f57N_1
  rw [e2,br_false,Int.toNat_natCast,List.drop_length]
  rfl
 ·intro k hk ih y hy
  obtain ⟨w1,w2,w3⟩:=g8 _ (List.getElem_mem hk)
  rw [List.drop_eq_getElem_cons hk,prT_cons] at hy
  simp only [List.length_append] at hy
  have e2:ilt (k:Int) (llen x1)=true:=decide_eq_true (by simp only [llen];omega)
  have e3:cIx x1 (k:Int)=true:=by rw [cIx_nat];exact decide_eq_true hk
  have ew:=lgt_wd hk
  rw [ln_f57N_1]
  simp only [n_f57N_1]
  unfold la_f57N_1 at ih ⊢
  rw [Int.toNat_natCast,List.drop_eq_getElem_cons hk,wrF_cons]
  by_cases hb:y.length<=16384
  ·have e4:ile (llen y) 16384=true:=decide_eq_true (by simp only [llen];omega)
   have e5:indOk y (n:Int)=true:=cP_in ⟨by omega,by omega,by omega⟩
   have e6:indF y (n:Int)=y++indL n:=by unfold indF;rw [Int.toNat_natCast]
   have e7:ww0 x1 (k:Int) 0 (y++indL n)=true:=cP_in ⟨e3,by omega,by omega,by rw [ew];exact w1,by rw [ew];exact w2,by
    rw [ew,Int.toNat_zero,List.length_append]
    show _+(wdsL x1[k].1).length<=_
    omega⟩
   have e8:wdsD (wrA x1 (k:Int)) 0=wdsL x1[k].1:=by rw [ew];rfl
   rw [e2,br_true,e4,br_true,e5,br_true,e6,e7,br_true,Int.toNat_zero,e8,e3,br_true,lgt_get (y:=tyBlkT) hk,if_pos hb]
   have q1:bytesL (ByteArray.mk #[59,10])=[59,10]:=by kernel_rfl
   have q2:bytesL (ByteArray.mk #[32,123,10])=[32,123,10]:=by kernel_rfl
   have q3:bytesL (ByteArray.mk #[125,10])=[125,10]:=by kernel_rfl
   rw [q1,q2,q3,add1 (k:=k),add1 (k:=n)]
   cases ho:x1[k].2.1 with
   |false=>
    rw [ho] at hy
    simp only [Bool.not_false,cond_true,List.length_cons,List.length_nil] at hy
    rw [Bool.not_false,br_true,cond_true,cAppN (by omega) (by simp only [List.length_append,List.length_cons,List.length_nil];omega),br_true,ih _ (by simp only [List.length_append,List.length_cons,List.length_nil];omega),Int.toNat_natCast]
   |true=>
    rw [ho] at hy
    simp only [Bool.not_true,cond_false,List.length_append,List.length_cons,List.length_nil] at hy
    have hw:=wrL_le ((x1[k].2.2.1.map Blk.un).map Blk.of) (y++indL n++wdsL x1[k].1++[32,123,10]) (n+1)
    have hw:(wrF (y++indL n++wdsL x1[k].1++[32,123,10]) (x1[k].2.2.1.map Blk.un) ((n+1:Nat):Int)).length<=(y++indL n++wdsL x1[k].1++[32,123,10]).length+(pnT (x1[k].2.2.1.map Blk.un) (n+1)).length:=by
     unfold wrF
     rw [Int.toNat_natCast]
     exact hw
    have u1:wrOk (y++indL n++wdsL x1[k].1++[32,123,10]) (x1[k].2.2.1.map Blk.un) ((n+1:Nat):Int)=true:=by
     refine Bool.and_eq_true_iff.2 ⟨w3,cP_in ⟨by omega,by omega, ?_⟩⟩
     rw [Int.toNat_natCast]
     simp only [List.length_append,List.length_cons,List.length_nil]
     omega
    generalize hW:wrF (y++indL n++wdsL x1[k].1++[32,123,10]) (x1[k].2.2.1.map Blk.un) ((n+1:Nat):Int)=W at hw ⊢
    simp only [List.length_append,List.length_cons,List.length_nil] at hw
    have u2:indOk W (n:Int)=true:=cP_in ⟨by omega,by omega,by omega⟩
    have u3:indF W (n:Int)=W++indL n:=by unfold indF;rw [Int.toNat_natCast]
    rw [Bool.not_true,br_false,cond_false,cAppN (by omega) (by simp only [List.length_append,List.length_cons,List.length_nil];omega),br_true,br_true,u1,br_true,u2,br_true,u3,cAppN (by omega) (by simp only [List.length_append,List.length_cons,List.length_nil];omega),br_true,ih _ (by simp only [List.length_append,List.length_cons,List.length_nil];omega),Int.toNat_natCast]
  ·have e4:ile (llen y) 16384=false:=decide_eq_false (by simp only [llen];omega)
   rw [e2,br_true,e4,br_false,if_neg hb]
theorem lo_f57N_0: ∀ S l p,g_f57N.L 0 (fgt fg_f57N_0 S)=some (true,l)->pickA l=some p->loopF (roundF g_f57N fg_f57N_0 tb_f57N_0) S=some p:=
 lok_of (s:=sh_f57N_0) ⟨by decide,by decide⟩ (by kernel_rfl) fun x y hok p hp=>by
 simp only [pickA_br,pickA_one] at hp
 exact (l_f57N_0 x.2.1 x.2.2.1 x.2.2.2.1 x.2.2.2.2.1 y.2.1 (by simpa using hok)).trans hp
theorem lo_f57N_1: ∀ S l p,g_f57N.L 1 (fgt fg_f57N_1 S)=some (true,l)->pickA l=some p->loopF (roundF g_f57N fg_f57N_1 tb_f57N_1) S=some p:=
 lok_of (s:=sh_f57N_1) ⟨by decide,by decide⟩ (by kernel_rfl) fun x y hok p hp=>by
 simp only [pickA_br,pickA_one] at hp
 exact (l_f57N_1 x.2.1 x.2.2.1 x.2.2.2.1 y.1 (by simpa using hok)).trans hp
theorem lk_f57N:tc_f57N.lok g_f57N:=by
 repeat (first|exact trivial|exact lo_f57N_0|exact lo_f57N_1|refine ⟨?_, ?_⟩)
theorem s_f57N (l:List BlkT)(n:Int)(h:wrNOk l n=true):r_f57N l n=some (.ms 50000,[.arr 5 (.int .u8) (wrN l n)]):=by
 obtain ⟨h1,h2⟩:=Bool.and_eq_true_iff.1 h
 obtain ⟨rfl,h4⟩:=cP_of h2
 unfold r_f57N
 refine brY (cP_in ⟨by omega,by omega,h1,rfl,by rw [Int.toNat_zero,List.drop_zero];exact Nat.le_trans (Nat.le_of_eq (Nat.zero_add _)) h4⟩) ?_
 rw [Int.toNat_zero,List.drop_zero]
 rfl
def sp_f57N:Ent:=specB [.nl,.ty (.sl tyBlkT),.ty tI] [] (fun x y=>(wrNOk x.2.1 x.2.2.1)) (fun x y=>(.ms 50000)) (fun x y=>[.arr 5 (.int .u8) (wrN x.2.1 x.2.2.1)])
theorem ms_f57N:Meets Tryd.prog 57 (strip sp_f57N):=by
 obtain ⟨c,hc,hi⟩:=Option.map_eq_some_iff.1 ok_f57N
 exact meets_B (meets_specS (R:=runF g_f57N tc_f57N rv_f57N true) (meets_of (by decide) Tryd.func57 hc hi Tryd.ntmps57 rok_f57N gk_f57N lk_f57N mixed) fun x y hok=>(e_f57N x.2.1 x.2.2.1).trans (s_f57N x.2.1 x.2.2.1 hok))
end
end Go.Proofs.YtkkoedniahnneaaDoor.K
set_option linter.unusedSectionVars false
namespace Go.Proofs.YtkkoedniahnneaaDoor.K
open Go.RowKit
noncomputable section
set_option linter.unusedSectionVars false
mutual
def moB:K.Blk->Nat
 |.mk ws _ wi _=>max ws.length (moL wi)
def moL:List K.Blk->Nat
 | []=>0
 |b::r=>max (moB b) (moL r)
end
def moT (l:List BlkT):Nat:=moL (l.map Blk.of)
def moF (l:List BlkT):Int:=(moT l:Int)
theorem moT_cons (x:BlkT)(l:List BlkT):moT (x::l)=max (max x.1.length (moT (x.2.2.1.map Blk.un))) (moT l):=by
 unfold moT
 rw [map_of_unB,List.map_cons]
 rfl
mutual
theorem wi_moB: ∀ b:K.Blk,wiB b=decide (64<moB b)
 |.mk ws o wi ln=>by
  show (decide (64<ws.length)||wiL wi)=decide (64<max ws.length (moL wi))
  rw [wi_moL wi,Bool.eq_iff_iff,Bool.or_eq_true,decide_eq_true_eq,decide_eq_true_eq,decide_eq_true_eq]
  omega
theorem wi_moL: ∀ l:List K.Blk,wiL l=decide (64<moL l)
 | []=>rfl
 |b::r=>by
  show (wiB b||wiL r)=decide (64<max (moB b) (moL r))
  rw [wi_moB b,wi_moL r,Bool.eq_iff_iff,Bool.or_eq_true,decide_eq_true_eq,decide_eq_true_eq,decide_eq_true_eq]
  omega
end
theorem wi_moT (l:List BlkT):wiT l=decide (64<moT l):=wi_moL _
theorem fuel_blocks_most (l:List BlkT)(h:okT l=true): ∃ N,okN N l=true:=okT_fuel h
theorem en_f71:Entered Tryd.prog 71:= .inr ⟨by decide,_,Tryd.func71,by kernel_rfl,by kernel_rfl⟩
def sp_f71R [Fuel]:Ent:=spec (.pr (.sl tyBlkT) .nil) (fun x=>(okN fuel x.1)) (fun x=>(.t tI (moF x.1)))
theorem en_f71R:Entered Tryd.prog 71:=en_f71
section
variable [Fuel][Nonempty (PLift (Meets Tryd.prog 71 (strip sp_f71R)))]
theorem ms_f71R:Meets Tryd.prog 71 (strip sp_f71R):=(Classical.choice (inferInstance:Nonempty (PLift (Meets Tryd.prog 71 (strip sp_f71R))))).down
def dr_f71_0:List DO:=[(.mk (oV 12 3) []),(.mk (oP 13 (.fa 0 (.t 5))) []),(.mk (oL 14 13) [1]),(.mk (oP 15 (.len false (.t 14))) [2]),(.mk (oP 16 (.fa 2 (.t 5))) []),(.mk (oL 17 16) [4]),(.mk (oC 18 71 [(.t 17)]) [5]),(.mk (oP 19 (.mx3 (.t 12) (.t 15) (.t 18))) [0,3,6]),(.mk (oV 3 19) [7,6,0,1,2,3,4,5,6,7])]
def fg_f71_0:Fg:=⟨[(3,some tI),(6,some (.sl tyBlkT)),(7,some tI),(8,some tI)],[]⟩
def tb_f71_0:TC:=(.sq (.reg [(oP 9 (.bin false .lss (.t 8) (.t 7)))]) (.sq (.cd (.t 9) .sk (.fg ⟨[(3,some tI)],[]⟩ (.ex 0))) (.sq (.bk 1 (.sq (.reg [(oP 10 (.ix 4 (.t 6) (.t 8))),(oM 11 (.ld true 4 (.t 10))),(oM 5 (.new [(.v (.slice none 0 0)),(.v (.bool false)),(.v (.slice none 0 0)),(.v (.int .i64 0))])),(.mk none none (.m (.st 4 (.t 5) (.t 11))))]) (.dr dr_f71_0 [(0,[]),(1,[5]),(2,[5]),(3,[]),(4,[5]),(5,[5]),(6,[]),(7,[]),(8,[])] (.of [0,1,2,3,4,5,6,7,8])))) (.reg [(oP 20 (.bin false .add (.t 8) (cI 1))),(oV 8 20)]))))
def tc_f71:TC:=(.sq (.reg [(oP 2 (.mv (cI 0)))]) (.sq (.reg [(oP 3 (.mv (cI 0)))]) (.sq (.sq (.reg [(oV 6 0),(oP 7 (.len false (.t 6))),(oP 8 (.mv (cI 0)))]) (.bk 0 (.lp 0 fg_f71_0 tb_f71_0))) (.sq (.reg [(oV 21 3),(oV 2 21)]) .rt))))
def rv_f71:List (RV×Option Ty):=[((.t 2),some tI)]
abbrev sh_f71_0:Sh:=⟨[(3,.ty tI),(6,.ty (.sl tyBlkT)),(7,.ty tI),(8,.ty tI)],[]⟩
def st_f71_0 (x3:Int)(x6:(List BlkT))(x7:Int)(x8:Int):VS:=sh_f71_0.st (x3,x6,x7,x8,()) ()
abbrev sh_f71_0_e0:Sh:=⟨[(3,.ty tI)],[]⟩
def st_f71_0_e0 (x3:Int):VS:=sh_f71_0_e0.st (x3,()) ()
-- loop 0: (x3 : Int) (x6 : (List BlkT)) (x7 : Int) (x8 : Int); out: ('exit', 0) (x3 : Int)
def L_f71_0:VS->Option (Bool×List (Bool×Exit×VS)):=mkL sh_f71_0 (fun x y=>(dp0 x.2.1 x.2.2.1 x.2.2.2.1 x.1)) (fun x y=>[(true,.exit 0,st_f71_0_e0 (imx x.1 (moF (x.2.1.drop x.2.2.2.1.toNat))))])
def g_f71:G:=⟨TYs,[],22,EL [(71,sp_f71R)],keeps,(Ls [L_f71_0]),IL [],RL []⟩
def b_f71_0 (x3:Int)(x6:(List BlkT))(x7:Int)(x8:Int):Option (Exit×VS):=
 br ((ilt x8 x7))
  (br (cIx x6 x8)
   (br ((okN fuel (List.map Blk.un ((((lgt tyBlkT x6 (Int.toNat x8)).2).2).1))))
    (some (.normal,st_f71_0 (imx (imx x3 (llen ((lgt tyBlkT x6 (Int.toNat x8)).1))) (moF (List.map Blk.un ((((lgt tyBlkT x6 (Int.toNat x8)).2).2).1)))) x6 x7 (iadd .i64 x8 1)))
    (none))
   (none))
  (some (.exit 0,st_f71_0_e0 x3))
noncomputable def lp_f71_0 (x3:Int)(x6:(List BlkT))(x7:Int)(x8:Int):Option (Exit×VS):=loopF (roundF g_f71 fg_f71_0 tb_f71_0) (st_f71_0 x3 x6 x7 x8)
noncomputable def n_f71_0 (x3:Int)(x6:(List BlkT))(x7:Int)(x8:Int):Option (Exit×VS):=
 br ((ilt x8 x7))
  (br (cIx x6 x8)
   (br ((okN fuel (List.map Blk.un ((((lgt tyBlkT x6 (Int.toNat x8)).2).2).1))))
    (lp_f71_0 (imx (imx x3 (llen ((lgt tyBlkT x6 (Int.toNat x8)).1))) (moF (List.map Blk.un ((((lgt tyBlkT x6 (Int.toNat x8)).2).2).1)))) x6 x7 (iadd .i64 x8 1))
    (none))
   (none))
  (some (.exit 0,st_f71_0_e0 x3))
def la_f71_0 (x3:Int)(x6:(List BlkT))(x7:Int)(x8:Int):Option (Exit×VS):=some (.exit 0,st_f71_0_e0 (imx x3 (moF (x6.drop x8.toNat))))
theorem be_f71_0 (x3:Int)(x6:(List BlkT))(x7:Int)(x8:Int):roundF g_f71 fg_f71_0 tb_f71_0 (st_f71_0 x3 x6 x7 x8)=b_f71_0 x3 x6 x7 x8:=by kernel_rfl
theorem ln_f71_0 (x3:Int)(x6:(List BlkT))(x7:Int)(x8:Int):lp_f71_0 x3 x6 x7 x8=n_f71_0 x3 x6 x7 x8:=(loopF_nxt _ _).trans (by
 rw [be_f71_0]
 simp only [b_f71_0,n_f71_0,nxt_br,nxt_n,nxt_r,nxt_e,nxt_0]
 rfl)
def r_f71 (p0:(List BlkT)):Option (V×List VO):=
 br ((dp0 p0 (llen p0) (0:Int) (0:Int)))
  (some (.t tI (imx (0:Int) (moF (p0.drop (0:Int).toNat))),[]))
  (none)
theorem e_f71 (p0:(List BlkT)):runF g_f71 tc_f71 rv_f71 false [.t (.sl tyBlkT) p0] []=r_f71 p0:=by kernel_rfl
theorem ok_f71:Option.map (trC Tryd.prog) Tryd.f71.body=some tc_f71.er:=by kernel_rfl
theorem rok_f71:trVs Tryd.prog Tryd.f71.results.toList=some (rv_f71.map Prod.fst):=by kernel_rfl
theorem gk_f71:GOk Tryd.prog g_f71:=gok_of _ (by
 intro p hp
 simp only [List.mem_cons,List.not_mem_nil,or_false] at hp
 rcases hp with rfl
 ·exact ⟨en_f71R,ms_f71R⟩)
theorem l_f71_0 (x3:Int)(x6:(List BlkT))(x7:Int)(x8:Int)(h:(dp0 x6 x7 x8 x3)=true):lp_f71_0 x3 x6 x7 x8=la_f71_0 x3 x6 x7 x8:=by
 obtain ⟨h1,h2,rfl,h4,h5⟩:=cP_of h
 clear h
 obtain ⟨h6,h7,h8⟩:=okN_p h4
 obtain ⟨k,rfl⟩:=Int.eq_ofNat_of_zero_le h1
 obtain ⟨m,rfl⟩:=Int.eq_ofNat_of_zero_le h5
 refine range_ind x6 (fun k=> ∀ m:Nat,lp_f71_0 (m:Int) x6 (x6.length:Int) (k:Int)=la_f71_0 (m:Int) x6 (x6.length:Int) (k:Int)) ?_ ?_ k (by omega) m
 ·intro m
  rw [ln_f71_0]
  have e:imx (m:Int) (moF [])=(m:Int):=(imxB m 0).trans (by rw [Nat.max_eq_left (Nat.zero_le _)])
  have e2:ilt (x6.length:Int) (x6.length:Int)=false:=decide_eq_false (by omega)
  unfold n_f71_0 la_f71_0
  rw [e2,br_false,Int.toNat_natCast,List.drop_length,e]
 ·intro k hk ih m
  obtain ⟨_,_,g3⟩:=h8 _ (List.getElem_mem hk)
  have e2:ilt (k:Int) (x6.length:Int)=true:=decide_eq_true (by omega)
  have e3:cIx x6 (k:Int)=true:=by rw [cIx_nat];exact decide_eq_true hk
  rw [ln_f71_0]
  unfold n_f71_0
  rw [e2,e3,Int.toNat_natCast,lgt_get (y:=tyBlkT) hk,br_true,br_true]
  refine brY g3 ?_
  have e4:imx (imx (m:Int) (llen x6[k].1)) (moF (List.map Blk.un x6[k].2.2.1))=((max (max m x6[k].1.length) (moT (List.map Blk.un x6[k].2.2.1)):Nat):Int):=by
   unfold moF
   rw [show llen x6[k].1=(x6[k].1.length:Int) from rfl,imxB,imxB]
  rw [e4,add1 (k:=k),ih]
  unfold la_f71_0
  rw [Int.toNat_natCast,Int.toNat_natCast,List.drop_eq_getElem_cons hk]
  unfold moF
  rw [imxB,imxB,moT_cons,Nat.max_assoc,Nat.max_assoc,Nat.max_assoc]
theorem lo_f71_0: ∀ S l p,g_f71.L 0 (fgt fg_f71_0 S)=some (true,l)->pickA l=some p->loopF (roundF g_f71 fg_f71_0 tb_f71_0) S=some p:=
 lok_of (s:=sh_f71_0) ⟨by decide,by decide⟩ (by kernel_rfl) fun x y hok p hp=>by
 simp only [pickA_br,pickA_one] at hp
 exact (l_f71_0 x.1 x.2.1 x.2.2.1 x.2.2.2.1 (by simpa using hok)).trans hp
theorem lk_f71:tc_f71.lok g_f71:=by
 repeat (first|exact trivial|exact lo_f71_0|refine ⟨?_, ?_⟩)
theorem s_f71 (l:List BlkT)(h:okN (fuel+1) l=true):r_f71 l=some (.t tI (moF l),[]):=by
 refine brY (cP_in ⟨by omega,by omega,rfl,h,by omega⟩) ?_
 rw [Int.toNat_zero,List.drop_zero]
 have e:imx (0:Int) (moF l)=moF l:=(imxB 0 (moT l)).trans (by rw [Nat.max_eq_right (Nat.zero_le _)];rfl)
 rw [e]
theorem mr_f71:Meets Tryd.prog 71 (runF g_f71 tc_f71 rv_f71 false):=by
 obtain ⟨c,hc,hi⟩:=Option.map_eq_some_iff.1 ok_f71
 exact meets_of (by decide) Tryd.func71 hc hi Tryd.ntmps71 rok_f71 gk_f71 lk_f71 mixed
end
theorem ma_blocks_most: ∀ N:Nat,Meets Tryd.prog 71 (strip (@sp_f71R ⟨N⟩))
 |0=>meets_zero fun x=>by first|rfl|simp [okN]
 |N+1=>by
  letI:Fuel:=⟨N⟩
  haveI:Nonempty (PLift (Meets Tryd.prog 71 (strip sp_f71R))):=⟨⟨ma_blocks_most N⟩⟩
  exact meets_spec mr_f71 fun x hok=>(e_f71 x.1).trans (s_f71 x.1 hok)
def sp_f71:Ent:=spec (.pr (.sl tyBlkT) .nil) (fun x=>(okT x.1)) (fun x=>(.t tI (moF x.1)))
theorem ms_f71:Meets Tryd.prog 71 (strip sp_f71):=meets_fuel ma_blocks_most fun x hok=>fuel_blocks_most x.1 hok
theorem strOf_szF (l:List Int):(strOf l).size=l.length:=by
 show Array.size _=_
 simp [strOf]
def chF (l:List BlkT):Int:=bif !frT l then 1 else bif decide (16<dpT l)||decide (64<moT l) then 3 else 0
def tc_f33:TC:=(.sq (.reg [(oP 2 (.mv (cI 0)))]) (.sq (.bk 0 (.sq (.reg [(oV 4 0),(oC 5 70 [(.t 4)]),(oP 6 (.nt (.t 5))),(oV 3 6)]) (.cd (.t 3) (.sq (.reg [(oP 2 (.mv (cI 1)))]) .rt) (.sq (.reg [(oV 8 0),(oC 9 35 [(.t 8)]),(oP 10 (.bin false .gtr (.t 9) (cI 16))),(oV 11 10),(oQ 12 11 false (.mv (.t 0))),(oG 13 11 false (.call 71 [(.t 12)])),(oQ 14 11 false (.bin false .gtr (.t 13) (cI 64))),(oP 15 (.pick (.t 11) (cB true) (.t 14))),(oV 7 15)]) (.cd (.t 7) (.sq (.reg [(oP 2 (.mv (cI 3)))]) .rt) .sk))))) (.sq (.reg [(oP 2 (.mv (cI 0)))]) .rt)))
def rv_f33:List (RV×Option Ty):=[((.t 2),some tI)]
def g_f33:G:=⟨TYs,[],16,EL [(35,sp_f35),(70,sp_f70),(71,sp_f71)],keeps,(fun _ _=>none),IL [],RL []⟩
def r_f33 (p0:(List BlkT)):Option (V×List VO):=
 br ((okT p0))
  (br ((!(frT p0)))
   (some (.t tI 1,[]))
   (br ((okT p0))
    (br ((igt (dpF p0) 16))
     (some (.t tI 3,[]))
     (br ((okT p0))
      (br ((igt (moF p0) 64))
       (some (.t tI 3,[]))
       (some (.t tI 0,[])))
      (none)))
    (none)))
  (none)
theorem e_f33 (p0:(List BlkT)):runF g_f33 tc_f33 rv_f33 false [.t (.sl tyBlkT) p0] []=r_f33 p0:=by kernel_rfl
theorem ok_f33:Option.map (trC Tryd.prog) Tryd.f33.body=some tc_f33.er:=by kernel_rfl
theorem rok_f33:trVs Tryd.prog Tryd.f33.results.toList=some (rv_f33.map Prod.fst):=by kernel_rfl
theorem gk_f33:GOk Tryd.prog g_f33:=gok_of _ (by
 intro p hp
 simp only [List.mem_cons,List.not_mem_nil,or_false] at hp
 rcases hp with rfl|rfl|rfl
 ·exact ⟨en_f35,ms_f35⟩
 ·exact ⟨en_f70,ms_f70⟩
 ·exact ⟨en_f71,ms_f71⟩)
theorem lk_f33:tc_f33.lok g_f33:=by repeat (first|exact trivial|refine ⟨?_, ?_⟩)
theorem s_f33 (l:List BlkT)(h:okT l=true):r_f33 l=some (.t tI (chF l),[]):=by
 have e1:igt (dpF l) 16=decide (16<dpT l):=igt_nat (a:=dpT l) (b:=16)
 have e2:igt (moF l) 64=decide (64<moT l):=igt_nat (a:=moT l) (b:=64)
 unfold r_f33 chF
 rw [h,e1,e2]
 cases frT l<;>cases decide (16<dpT l)<;>cases decide (64<moT l)<;>rfl
def sp_f33:Ent:=spec (.pr (.sl tyBlkT) .nil) (fun x=>(okT x.1)) (fun x=>(.t tI (chF x.1)))
theorem ms_f33:Meets Tryd.prog 33 (strip sp_f33):=by
 obtain ⟨c,hc,hi⟩:=Option.map_eq_some_iff.1 ok_f33
 exact meets_spec (R:=runF g_f33 tc_f33 rv_f33 false) (meets_of (by decide) Tryd.func33 hc hi Tryd.ntmps33 rok_f33 gk_f33 lk_f33 mixed) fun x hok=>(e_f33 x.1).trans (s_f33 x.1 hok)
def tc_f34:TC:=(.sq (.reg [(oP 2 (.mv (cI 0)))]) (.sq (.sq (.reg [(oV 3 0),(oC 4 72 [(.t 3)]),(oP 5 (.nt (.t 4)))]) (.cd (.t 5) (.sq (.reg [(oP 2 (.mv (cI 1)))]) .rt) .sk)) (.sq (.sq (.reg [(oV 6 0),(oC 7 36 [(.t 6)]),(oP 8 (.bin false .gtr (.t 7) (cI 16))),(oV 9 8),(oQ 10 9 false (.mv (.t 0))),(oG 11 9 false (.call 73 [(.t 10)])),(oP 12 (.pick (.t 9) (cB true) (.t 11)))]) (.cd (.t 12) (.sq (.reg [(oP 2 (.mv (cI 3)))]) .rt) .sk)) (.sq (.reg [(oP 2 (.mv (cI 0)))]) .rt))))
def rv_f34:List (RV×Option Ty):=[((.t 2),some tI)]
def g_f34:G:=⟨TYs,[],13,EL [(36,sp_f36),(72,sp_f72),(73,sp_f73)],keeps,(fun _ _=>none),IL [],RL []⟩
def r_f34 (p0:(List BlkT)):Option (V×List VO):=
 br ((okT p0))
  (br ((!(frT p0)))
   (some (.t tI 1,[]))
   (br ((okT p0))
    (br ((igt (dpF p0) 16))
     (some (.t tI 3,[]))
     (br ((okT p0))
      (br ((wiT p0))
       (some (.t tI 3,[]))
       (some (.t tI 0,[])))
      (none)))
    (none)))
  (none)
theorem e_f34 (p0:(List BlkT)):runF g_f34 tc_f34 rv_f34 false [.t (.sl tyBlkT) p0] []=r_f34 p0:=by kernel_rfl
theorem ok_f34:Option.map (trC Tryd.prog) Tryd.f34.body=some tc_f34.er:=by kernel_rfl
theorem rok_f34:trVs Tryd.prog Tryd.f34.results.toList=some (rv_f34.map Prod.fst):=by kernel_rfl
theorem en_f34:Entered Tryd.prog 34:= .inr ⟨by decide,_,Tryd.func34,by kernel_rfl,by kernel_rfl⟩
theorem gk_f34:GOk Tryd.prog g_f34:=gok_of _ (by
 intro p hp
 simp only [List.mem_cons,List.not_mem_nil,or_false] at hp
 rcases hp with rfl|rfl|rfl
 ·exact ⟨en_f36,ms_f36⟩
 ·exact ⟨en_f72,ms_f72⟩
 ·exact ⟨en_f73,ms_f73⟩)
theorem lk_f34:tc_f34.lok g_f34:=by repeat (first|exact trivial|refine ⟨?_, ?_⟩)
theorem s_f34 (l:List BlkT)(h:okT l=true):r_f34 l=some (.t tI (chF l),[]):=by
 have e1:igt (dpF l) 16=decide (16<dpT l):=igt_nat (a:=dpT l) (b:=16)
 unfold r_f34 chF
 rw [h,e1,wi_moT]
 cases frT l<;>cases decide (16<dpT l)<;>cases decide (64<moT l)<;>rfl
def sp_f34:Ent:=spec (.pr (.sl tyBlkT) .nil) (fun x=>(okT x.1)) (fun x=>(.t tI (chF x.1)))
theorem ms_f34:Meets Tryd.prog 34 (strip sp_f34):=by
 obtain ⟨c,hc,hi⟩:=Option.map_eq_some_iff.1 ok_f34
 exact meets_spec (R:=runF g_f34 tc_f34 rv_f34 false) (meets_of (by decide) Tryd.func34 hc hi Tryd.ntmps34 rok_f34 gk_f34 lk_f34 mixed) fun x hok=>(e_f34 x.1).trans (s_f34 x.1 hok)
def pntF (l:List BlkT):ByteArray×Int:=bif ine (chF l) 0 then (ByteArray.mk #[],chF l) else bif decide (8192<(pnT l 0).length) then (ByteArray.mk #[],3) else bif igt (endN (strOf (pnT l 0))) 200 then (ByteArray.mk #[],3) else (strOf (pnT l 0),0)
def pntOk (l:List BlkT):Bool:=okT l&&cP ((pnT l 0).length<=40000000000)
def tc_f25:TC:=(.sq (.reg [(oP 2 (.mv (.c (.v (.string (ByteArray.mk #[])))))),(oP 3 (.mv (cI 0)))]) (.sq (.sq (.reg [(oV 6 0),(oC 7 34 [(.t 6)]),(oV 4 7)]) (.sq (.reg [(oV 8 4),(oP 9 (.bin false .neq (.t 8) (cI 0)))]) (.cd (.t 9) (.sq (.reg [(oV 10 4),(oP 2 (.mv (.c (.v (.string (ByteArray.mk #[])))))),(oV 3 10)]) .rt) .sk))) (.sq (.reg [(oV 11 0),(oC 12 57 [(.c (.v (.slice none 0 0))),(.t 11),(cI 0)]),(oV 5 12)]) (.sq (.sq (.reg [(oV 13 5),(oP 14 (.len false (.t 13))),(oP 15 (.bin false .gtr (.t 14) (cI 8192))),(oV 16 15),(oQ 17 16 false (.mv (.t 5))),(oG 18 16 false (.call 2440448 [(.t 17)])),(oG 19 16 false (.call 58 [(.t 18)])),(oQ 20 16 false (.bin false .gtr (.t 19) (cI 200))),(oP 21 (.pick (.t 16) (cB true) (.t 20)))]) (.cd (.t 21) (.sq (.reg [(oP 2 (.mv (.c (.v (.string (ByteArray.mk #[])))))),(oP 3 (.mv (cI 3)))]) .rt) .sk)) (.sq (.reg [(oV 22 5),(oC 23 2440448 [(.t 22)]),(oV 2 23),(oP 3 (.mv (cI 0)))]) .rt)))))
def rv_f25:List (RV×Option Ty):=[((.t 2),some .str),((.t 3),some tI)]
def g_f25:G:=⟨TYs,[],24,EL [(34,sp_f34),(57,sp_f57N),(58,sp_f58),(2440448,sp_op_convert_28_9)],keeps,(fun _ _=>none),IL [],RL []⟩
def r_f25 (p0:(List BlkT)):Option (V×List VO):=
 br ((okT p0))
  (br ((ine (chF p0) 0))
   (some (.tu [(.t .str (ByteArray.mk #[])),(.t tI (chF p0))],[]))
   (br ((wrNOk p0 0))
    (br ((igt (llen (wrN p0 0)) 8192))
     (some (.tu [(.t .str (ByteArray.mk #[])),(.t tI 3)],[]))
     (br ((nameG (strOf (wrN p0 0))))
      (br ((igt (endN (strOf (wrN p0 0))) 200))
       (some (.tu [(.t .str (ByteArray.mk #[])),(.t tI 3)],[]))
       (some (.tu [(.t .str (strOf (wrN p0 0))),(.t tI 0)],[])))
      (none)))
    (none)))
  (none)
theorem e_f25 (p0:(List BlkT)):runF g_f25 tc_f25 rv_f25 false [.t (.sl tyBlkT) p0] []=r_f25 p0:=by kernel_rfl
theorem ok_f25:Option.map (trC Tryd.prog) Tryd.f25.body=some tc_f25.er:=by kernel_rfl
theorem rok_f25:trVs Tryd.prog Tryd.f25.results.toList=some (rv_f25.map Prod.fst):=by kernel_rfl
theorem en_f25:Entered Tryd.prog 25:= .inr ⟨by decide,_,Tryd.func25,by kernel_rfl,by kernel_rfl⟩
theorem gk_f25:GOk Tryd.prog g_f25:=gok_of _ (by
 intro p hp
 simp only [List.mem_cons,List.not_mem_nil,or_false] at hp
 rcases hp with rfl|rfl|rfl|rfl
 ·exact ⟨en_f34,ms_f34⟩
 ·exact ⟨en_f57N,ms_f57N⟩
 ·exact ⟨en_f58,ms_f58⟩
 ·exact ⟨en_op_convert_28_9,ms_op_convert_28_9⟩)
theorem lk_f25:tc_f25.lok g_f25:=by repeat (first|exact trivial|refine ⟨?_, ?_⟩)
theorem s_f25 (l:List BlkT)(h:pntOk l=true):r_f25 l=some (.tu [.t .str (pntF l).1,.t tI (pntF l).2],[]):=by
 obtain ⟨h1,h2⟩:=Bool.and_eq_true_iff.1 h
 have h2:=cP_of h2
 have e1:wrNOk l 0=true:=Bool.and_eq_true_iff.2 ⟨h1,cP_in ⟨rfl,h2⟩⟩
 unfold r_f25 pntF
 refine brY h1 ?_
 cases ine (chF l) 0 with
 |true=>rfl
 |false=>
  rw [br_false,e1,br_true,cond_false]
  have hor:wrN l 0=pnT l 0∨(16384<(wrN l 0).length/\(wrN l 0).length<=0+(pnT l 0).length):=by
   rcases wrL_or (l.map Blk.of) [] 0 with h|h
   ·exact .inl h
   ·exact .inr h
  rcases hor with he|⟨g1,g2⟩
  ·rw [he]
   have e3:igt (llen (pnT l 0)) 8192=decide (8192<(pnT l 0).length):=by simp only [igt,llen];rw [Bool.eq_iff_iff,decide_eq_true_eq,decide_eq_true_eq];omega
   rw [e3]
   by_cases hg:8192<(pnT l 0).length
   ·rw [decide_eq_true hg]
    rfl
   ·rw [decide_eq_false hg,br_false,cond_false]
    refine brY (decide_eq_true ?_) ?_
    ·have:(strOf (pnT l 0)).size=(pnT l 0).length:=strOf_szF _
     omega
    ·cases igt (endN (strOf (pnT l 0))) 200<;>rfl
  ·have e3:igt (llen (wrN l 0)) 8192=true:=by simp only [igt,llen];rw [decide_eq_true_eq];omega
   rw [e3,decide_eq_true (show 8192<(pnT l 0).length by omega)]
   rfl
def sp_f25:Ent:=spec (.pr (.sl tyBlkT) .nil) (fun x=>(pntOk x.1)) (fun x=>(.tu [(.t .str ((pntF x.1).1)),(.t tI ((pntF x.1).2))]))
theorem ms_f25:Meets Tryd.prog 25 (strip sp_f25):=by
 obtain ⟨c,hc,hi⟩:=Option.map_eq_some_iff.1 ok_f25
 exact meets_spec (R:=runF g_f25 tc_f25 rv_f25 false) (meets_of (by decide) Tryd.func25 hc hi Tryd.ntmps25 rok_f25 gk_f25 lk_f25 mixed) fun x hok=>(e_f25 x.1).trans (s_f25 x.1 hok)
end
end Go.Proofs.YtkkoedniahnneaaDoor.K
namespace Go.Proofs.YtkkoedniahnneaaDoor.K
open Go.RowKit
noncomputable section
set_option linter.unusedSectionVars false
def qd:List Int->Bool×(List Int×Nat)
 | []=>(false,([],0))
 |c::l=>bif ieq c 34 then (true,([],1)) else bif ieq c 92 then (match l with
  | []=>(false,([],1))
  |e::r=>bif ieq e 34||ieq e 92 then ((qd r).1,(e::(qd r).2.1,(qd r).2.2+2)) else (false,([],1))) else bif isClI c then ((qd l).1,(c::(qd l).2.1,(qd l).2.2+1)) else (false,([],0))
abbrev lxR (x:ParserXX):List Int:=(bytesL x.1.1).drop x.1.2.1.toNat
def lxTo (x:ParserXX)(n:Int):ParserXX:=((x.1.1,(x.1.2.1+n,x.1.2.2)),x.2)
def qdF (x:ParserXX):TokenX:=bif (qd ((bytesL x.1.1).drop (x.1.2.1+1).toNat)).1 then (119,(strOf (qd ((bytesL x.1.1).drop (x.1.2.1+1).toNat)).2.1,(false,(x.1.2.2.1,())))) else (63,(ByteArray.mk #[],(false,(x.1.2.2.1,()))))
def qdD (x:ParserXX):ParserXX:=lxTo x (1+(qd ((bytesL x.1.1).drop (x.1.2.1+1).toNat)).2.2)
def lxOk (x:ParserXX):Bool:=cP (0<=x.1.2.1/\x.1.2.1<=x.1.1.size/\x.1.1.size<=1000000)
def qdOk (x:ParserXX):Bool:=cP (0<=x.1.2.1/\x.1.2.1<x.1.1.size/\x.1.1.size<=1000000)
def qd0 (y:List Int)(x:ParserXX):Bool:=cP (0<=x.1.2.1/\x.1.2.1<=x.1.1.size/\x.1.1.size<=1000000/\y.length<=x.1.2.1)
def dr_f148_0:List DO:=[(.mk (oV 12 0) []),(.mk (oP 13 (.nc (.t 12))) [0]),(.mk (oP 14 (.fa 1 (.t 13))) [1]),(.mk (oL 15 14) [2]),(.mk (oV 16 0) []),(.mk (oP 17 (.nc (.t 16))) [4]),(.mk (oP 18 (.fa 0 (.t 17))) [5]),(.mk (oL 19 18) [6]),(.mk (oP 20 (.len true (.t 19))) [7]),(.mk (oP 21 (.bin false .lss (.t 15) (.t 20))) [3,8])]
def dr_f148_1:List DO:=[(.mk (oV 29 0) []),(.mk (oP 30 (.nc (.t 29))) [0]),(.mk (oP 31 (.fa 0 (.t 30))) [1]),(.mk (oL 32 31) [2]),(.mk (oV 33 0) []),(.mk (oP 34 (.nc (.t 33))) [4]),(.mk (oP 35 (.fa 1 (.t 34))) [5]),(.mk (oL 36 35) [6]),(.mk (oP 37 (.sx (.t 32) (.t 36))) [3,7]),(.mk (oV 4 37) [8,0,1,2,3,4,5,6,7,8])]
def dr_f148_2:List DO:=[(.mk (oV 47 3) []),(.mk (oC 48 2440448 [(.t 47)]) [0]),(.mk (oV 49 0) []),(.mk (oP 50 (.nc (.t 49))) [2]),(.mk (oP 51 (.fa 2 (.t 50))) [3]),(.mk (oL 52 51) [4]),(.mk (oP 53 (.bd [(.v (.int .u8 0)),(.v (.string (ByteArray.mk #[]))),(.v (.bool false)),(.v (.int .i64 0))] [(0,1,(.c (.v (.int .u8 119)))),(1,1,(.t 48)),(3,1,(.t 52))])) [1,5]),(.mk (.mk none none (.m (.st 4 (.t 2) (.t 53)))) [6,0,1,2,3,4,5,6])]
def dr_f148_3:List DO:=[(.mk (oV 63 0) []),(.mk (oP 64 (.nc (.t 63))) [0]),(.mk (oP 65 (.fa 1 (.t 64))) [1]),(.mk (oL 66 65) [2]),(.mk (oV 67 0) []),(.mk (oP 68 (.nc (.t 67))) [4]),(.mk (oP 69 (.fa 0 (.t 68))) [5]),(.mk (oL 70 69) [6]),(.mk (oP 71 (.len true (.t 70))) [7]),(.mk (oP 72 (.bin false .geq (.t 66) (.t 71))) [3,8]),(.mk (oV 73 72) [9]),(.mk (oQ 74 73 false (.mv (.t 0))) [10]),(.mk (oQ 75 73 false (.nc (.t 74))) [11,10]),(.mk (oQ 76 73 false (.fa 0 (.t 75))) [12,10]),(.mk (oG 77 73 false (.m (.ld false 1 (.t 76)))) [13,10]),(.mk (oQ 78 73 false (.mv (.t 0))) [10]),(.mk (oQ 79 73 false (.nc (.t 78))) [15,10]),(.mk (oQ 80 73 false (.fa 1 (.t 79))) [16,10]),(.mk (oG 81 73 false (.m (.ld false 1 (.t 80)))) [17,10]),(.mk (oQ 82 73 false (.sx (.t 77) (.t 81))) [14,18,10]),(.mk (oQ 83 73 false (.bin false .neq (.t 82) (.c (.v (.int .u8 34))))) [19,10]),(.mk (oQ 84 73 false (.mv (.t 83))) [20,10,10]),(.mk (oQ 85 84 true (.mv (.t 0))) [21]),(.mk (oQ 86 84 true (.nc (.t 85))) [22,21]),(.mk (oQ 87 84 true (.fa 0 (.t 86))) [23,21]),(.mk (oG 88 84 true (.m (.ld false 1 (.t 87)))) [24,21]),(.mk (oQ 89 84 true (.mv (.t 0))) [21]),(.mk (oQ 90 84 true (.nc (.t 89))) [26,21]),(.mk (oQ 91 84 true (.fa 1 (.t 90))) [27,21]),(.mk (oG 92 84 true (.m (.ld false 1 (.t 91)))) [28,21]),(.mk (oQ 93 84 true (.sx (.t 88) (.t 92))) [25,29,21]),(.mk (oQ 94 84 true (.bin false .neq (.t 93) (.c (.v (.int .u8 92))))) [30,21]),(.mk (oQ 95 73 false (.pick (.t 84) (.t 94) (cB false))) [21,31,10]),(.mk (oP 96 (.pick (.t 73) (cB true) (.t 95))) [10,32])]
def dr_f148_4:List DO:=[(.mk (oV 97 0) []),(.mk (oP 98 (.nc (.t 97))) [0]),(.mk (oP 99 (.fa 0 (.t 98))) [1]),(.mk (oL 100 99) [2]),(.mk (oV 101 0) []),(.mk (oP 102 (.nc (.t 101))) [4]),(.mk (oP 103 (.fa 1 (.t 102))) [5]),(.mk (oL 104 103) [6]),(.mk (oP 105 (.sx (.t 100) (.t 104))) [3,7]),(.mk (oV 4 105) [8,0,1,2,3,4,5,6,7,8])]
def fg_f148_0:Fg:=⟨[(0,none),(2,none),(3,none)],[(2,some tyTokenX),(3,none),(119,none),(50000,some tyParserXX)]⟩
def tb_f148_0:TC:=(.sq (.sq (.dr dr_f148_0 [(0,[50000]),(1,[50000]),(2,[50000]),(3,[50000]),(4,[50000]),(5,[50000]),(6,[50000]),(7,[50000]),(8,[]),(9,[])] (.of [0,1,2,3,4,5,6,7,8,9])) (.cd (.t 21) .sk (.fg ⟨[(0,none),(2,none)],[(2,some tyTokenX),(50000,some tyParserXX)]⟩ (.ex 0)))) (.sq (.bk 1 (.sq (.dr dr_f148_1 [(0,[50000]),(1,[50000]),(2,[50000]),(3,[50000]),(4,[50000]),(5,[50000]),(6,[50000]),(7,[50000]),(8,[]),(9,[])] (.of [0,1,2,3,4,5,6,7,8,9])) (.sq (.sq (.reg [(oV 38 4),(oP 39 (.bin false .eql (.t 38) (.c (.v (.int .u8 34)))))]) (.cd (.t 39) (.sq (.reg [(oV 40 0),(oP 41 (.nc (.t 40))),(oP 42 (.fa 1 (.t 41))),(oL 43 42),(oP 44 (.bin false .add (.t 43) (cI 1))),(oP 45 (.nc (.t 40))),(oP 46 (.fa 1 (.t 45))),(.mk none none (.m (.st 1 (.t 46) (.t 44))))]) (.sq (.dr dr_f148_2 [(0,[3,119]),(1,[3,48,119,5048,10048,15048]),(2,[50000]),(3,[50000]),(4,[50000]),(5,[50000]),(6,[]),(7,[2])] (.of [0,2,3,4,5,1,6,7])) (.fg ⟨[(2,none)],[(2,some tyTokenX),(50000,some tyParserXX)]⟩ .rt))) .sk)) (.sq (.sq (.reg [(oV 54 4),(oP 55 (.bin false .eql (.t 54) (.c (.v (.int .u8 92)))))]) (.cd (.t 55) (.sq (.reg [(oV 56 0),(oP 57 (.nc (.t 56))),(oP 58 (.fa 1 (.t 57))),(oL 59 58),(oP 60 (.bin false .add (.t 59) (cI 1))),(oP 61 (.nc (.t 56))),(oP 62 (.fa 1 (.t 61))),(.mk none none (.m (.st 1 (.t 62) (.t 60))))]) (.sq (.sq (.dr dr_f148_3 [(0,[50000]),(1,[50000]),(2,[50000]),(3,[50000]),(4,[50000]),(5,[50000]),(6,[50000]),(7,[50000]),(8,[]),(9,[]),(10,[]),(11,[50000]),(12,[50000]),(13,[50000]),(14,[50000]),(15,[50000]),(16,[50000]),(17,[50000]),(18,[50000]),(19,[]),(20,[]),(21,[]),(22,[50000]),(23,[50000]),(24,[50000]),(25,[50000]),(26,[50000]),(27,[50000]),(28,[50000]),(29,[50000]),(30,[]),(31,[]),(32,[]),(33,[])] (.of [0,1,2,3,4,5,6,7,8,9,10,11,12,13,14,15,16,17,18,19,20,21,22,23,24,25,26,27,28,29,30,31,32,33])) (.cd (.t 96) (.fg ⟨[(0,none),(2,none)],[(2,some tyTokenX),(50000,some tyParserXX)]⟩ (.ex 0)) .sk)) (.dr dr_f148_4 [(0,[50000]),(1,[50000]),(2,[50000]),(3,[50000]),(4,[50000]),(5,[50000]),(6,[50000]),(7,[50000]),(8,[]),(9,[])] (.of [0,1,2,3,4,5,6,7,8,9])))) (.sq (.reg [(oV 106 4),(oP 107 (.bin false .neq (.t 106) (.c (.v (.int .u8 9))))),(oV 108 107),(oQ 109 108 true (.mv (.t 4))),(oQ 110 108 true (.bin false .lss (.t 109) (.c (.v (.int .u8 32))))),(oQ 111 108 true (.mv (.t 110))),(oQ 112 111 false (.mv (.t 4))),(oQ 113 111 false (.bin false .gtr (.t 112) (.c (.v (.int .u8 126))))),(oQ 114 108 true (.pick (.t 111) (cB true) (.t 113))),(oP 115 (.pick (.t 108) (.t 114) (cB false)))]) (.cd (.t 115) (.fg ⟨[(0,none),(2,none)],[(2,some tyTokenX),(50000,some tyParserXX)]⟩ (.ex 0)) .sk)))) (.reg [(oV 116 3),(oV 117 4),(oM 118 (.bs 5 1 1 [(.v (.int .u8 0))] [(0,1,(.t 117))])),(oM 119 (.app 5 1 1 (.t 116) (.t 118))),(oV 3 119)]))))) (.reg [(oV 22 0),(oP 23 (.nc (.t 22))),(oP 24 (.fa 1 (.t 23))),(oL 25 24),(oP 26 (.bin false .add (.t 25) (cI 1))),(oP 27 (.nc (.t 22))),(oP 28 (.fa 1 (.t 27))),(.mk none none (.m (.st 1 (.t 28) (.t 26))))])))
def tc_f148:TC:=(.sq (.reg [(oM 2 (.new [(.v (.int .u8 0)),(.v (.string (ByteArray.mk #[]))),(.v (.bool false)),(.v (.int .i64 0))]))]) (.sq (.reg [(oP 3 (.mv (.c (.v (.slice none 0 0)))))]) (.sq (.sq (.reg [(oV 5 0),(oP 6 (.nc (.t 5))),(oP 7 (.fa 1 (.t 6))),(oL 8 7),(oP 9 (.bin false .add (.t 8) (cI 1))),(oP 10 (.nc (.t 5))),(oP 11 (.fa 1 (.t 10))),(.mk none none (.m (.st 1 (.t 11) (.t 9))))]) (.bk 0 (.nw 3 5 (.lp 0 fg_f148_0 tb_f148_0)))) (.sq (.reg [(oV 120 0),(oP 121 (.nc (.t 120))),(oP 122 (.fa 2 (.t 121))),(oL 123 122),(oP 124 (.bd [(.v (.int .u8 0)),(.v (.string (ByteArray.mk #[]))),(.v (.bool false)),(.v (.int .i64 0))] [(0,1,(.c (.v (.int .u8 63)))),(3,1,(.t 123))])),(.mk none none (.m (.st 4 (.t 2) (.t 124))))]) .rt))))
def rv_f148:List (RV×Option Ty):=[((.c 2 true 4),some tyTokenX)]
abbrev sh_f148_0:Sh:=⟨[(0,.ptr 50000 0),(2,.ptr 2 0),(3,.ms 3)],[(2,.box tyTokenX),(3,.arr 5 (.int .u8)),(119,.no),(50000,.box tyParserXX)]⟩
def st_f148_0 (y2:TokenX)(y3:(List Int))(y50000:ParserXX):VS:=sh_f148_0.st ((),(),(),()) (y2,y3,(),y50000,())
abbrev sh_f148_0_ret:Sh:=⟨[(2,.ptr 2 0)],[(2,.box tyTokenX),(50000,.box tyParserXX)]⟩
def st_f148_0_ret (y2:TokenX)(y50000:ParserXX):VS:=sh_f148_0_ret.st ((),()) (y2,y50000,())
abbrev sh_f148_0_e0:Sh:=⟨[(0,.ptr 50000 0),(2,.ptr 2 0)],[(2,.box tyTokenX),(50000,.box tyParserXX)]⟩
def st_f148_0_e0 (y2:TokenX)(y50000:ParserXX):VS:=sh_f148_0_e0.st ((),(),()) (y2,y50000,())
-- loop 0: (y2 : TokenX) (y3 : (List Int)) (y50000 : ParserXX); out: ('ret',) (y2 : TokenX) (y50000 : ParserXX); ('exit', 0) (y2 : TokenX) (y50000 : ParserXX)
def L_f148_0:VS->Option (Bool×List (Bool×Exit×VS)):=mkL sh_f148_0 (fun x y=>(qd0 y.2.1 y.2.2.2.1)) (fun x y=>[(((qd (lxR y.2.2.2.1)).1),.ret,st_f148_0_ret ((119,(strOf (y.2.1++(qd (lxR y.2.2.2.1)).2.1),(false,(y.2.2.2.1.1.2.2.1,()))))) (lxTo y.2.2.2.1 (qd (lxR y.2.2.2.1)).2.2)),(true,.exit 0,st_f148_0_e0 (y.1) (lxTo y.2.2.2.1 (qd (lxR y.2.2.2.1)).2.2))])
def g_f148:G:=⟨TYs,[],125,EL [(2440448,sp_op_convert_28_9)],keeps,(Ls [L_f148_0]),IL [],RL []⟩
def b_f148_0_1 (y2:TokenX)(y3:(List Int))(y50000:ParserXX):Option (Exit×VS):=
 br (cSx y50000.1.1 (iadd .i64 y50000.1.2.1 1))
  (br (cApp y3 ([(sgt y50000.1.1 (iadd .i64 y50000.1.2.1 1))]) 1)
   (some (.normal,st_f148_0 y2 (y3++([(sgt y50000.1.1 (iadd .i64 y50000.1.2.1 1))])) ((y50000.1.1,((iadd .i64 (iadd .i64 y50000.1.2.1 1) 1),y50000.1.2.2)),y50000.2)))
   (none))
  (none)
def b_f148_0_2 (y2:TokenX)(y3:(List Int))(y50000:ParserXX):Option (Exit×VS):=
 br (cApp y3 ([(sgt y50000.1.1 y50000.1.2.1)]) 1)
  (some (.normal,st_f148_0 y2 (y3++([(sgt y50000.1.1 y50000.1.2.1)])) ((y50000.1.1,((iadd .i64 y50000.1.2.1 1),y50000.1.2.2)),y50000.2)))
  (none)
def b_f148_0 (y2:TokenX)(y3:(List Int))(y50000:ParserXX):Option (Exit×VS):=
 br ((ilt y50000.1.2.1 (slen y50000.1.1)))
  (br (cSx y50000.1.1 y50000.1.2.1)
   (br ((ieq (sgt y50000.1.1 y50000.1.2.1) 34))
    (some (.ret,st_f148_0_ret (119,((strOf y3),(false,(y50000.1.2.2.1,())))) ((y50000.1.1,((iadd .i64 y50000.1.2.1 1),y50000.1.2.2)),y50000.2)))
    (br ((ieq (sgt y50000.1.1 y50000.1.2.1) 92))
     (br ((ige (iadd .i64 y50000.1.2.1 1) (slen y50000.1.1)))
      (some (.exit 0,st_f148_0_e0 y2 ((y50000.1.1,((iadd .i64 y50000.1.2.1 1),y50000.1.2.2)),y50000.2)))
      (br (cSx y50000.1.1 (iadd .i64 y50000.1.2.1 1))
       (br ((ine (sgt y50000.1.1 (iadd .i64 y50000.1.2.1 1)) 34))
        (br (cSx y50000.1.1 (iadd .i64 y50000.1.2.1 1))
         (br ((ine (sgt y50000.1.1 (iadd .i64 y50000.1.2.1 1)) 92))
          (some (.exit 0,st_f148_0_e0 y2 ((y50000.1.1,((iadd .i64 y50000.1.2.1 1),y50000.1.2.2)),y50000.2)))
          (b_f148_0_1 y2 y3 y50000))
         (none))
        (b_f148_0_1 y2 y3 y50000))
       (none)))
     (br ((ine (sgt y50000.1.1 y50000.1.2.1) 9))
      (br ((ilt (sgt y50000.1.1 y50000.1.2.1) 32))
       (some (.exit 0,st_f148_0_e0 y2 y50000))
       (br ((igt (sgt y50000.1.1 y50000.1.2.1) 126))
        (some (.exit 0,st_f148_0_e0 y2 y50000))
        (b_f148_0_2 y2 y3 y50000)))
      (b_f148_0_2 y2 y3 y50000))))
   (none))
  (some (.exit 0,st_f148_0_e0 y2 y50000))
noncomputable def lp_f148_0 (y2:TokenX)(y3:(List Int))(y50000:ParserXX):Option (Exit×VS):=loopF (roundF g_f148 fg_f148_0 tb_f148_0) (st_f148_0 y2 y3 y50000)
noncomputable def n_f148_0_1 (y2:TokenX)(y3:(List Int))(y50000:ParserXX):Option (Exit×VS):=
 br (cSx y50000.1.1 (iadd .i64 y50000.1.2.1 1))
  (br (cApp y3 ([(sgt y50000.1.1 (iadd .i64 y50000.1.2.1 1))]) 1)
   (lp_f148_0 y2 (y3++([(sgt y50000.1.1 (iadd .i64 y50000.1.2.1 1))])) ((y50000.1.1,((iadd .i64 (iadd .i64 y50000.1.2.1 1) 1),y50000.1.2.2)),y50000.2))
   (none))
  (none)
noncomputable def n_f148_0_2 (y2:TokenX)(y3:(List Int))(y50000:ParserXX):Option (Exit×VS):=
 br (cApp y3 ([(sgt y50000.1.1 y50000.1.2.1)]) 1)
  (lp_f148_0 y2 (y3++([(sgt y50000.1.1 y50000.1.2.1)])) ((y50000.1.1,((iadd .i64 y50000.1.2.1 1),y50000.1.2.2)),y50000.2))
  (none)
noncomputable def n_f148_0 (y2:TokenX)(y3:(List Int))(y50000:ParserXX):Option (Exit×VS):=
 br ((ilt y50000.1.2.1 (slen y50000.1.1)))
  (br (cSx y50000.1.1 y50000.1.2.1)
   (br ((ieq (sgt y50000.1.1 y50000.1.2.1) 34))
    (some (.ret,st_f148_0_ret (119,((strOf y3),(false,(y50000.1.2.2.1,())))) ((y50000.1.1,((iadd .i64 y50000.1.2.1 1),y50000.1.2.2)),y50000.2)))
    (br ((ieq (sgt y50000.1.1 y50000.1.2.1) 92))
     (br ((ige (iadd .i64 y50000.1.2.1 1) (slen y50000.1.1)))
      (some (.exit 0,st_f148_0_e0 y2 ((y50000.1.1,((iadd .i64 y50000.1.2.1 1),y50000.1.2.2)),y50000.2)))
      (br (cSx y50000.1.1 (iadd .i64 y50000.1.2.1 1))
       (br ((ine (sgt y50000.1.1 (iadd .i64 y50000.1.2.1 1)) 34))
        (br (cSx y50000.1.1 (iadd .i64 y50000.1.2.1 1))
         (br ((ine (sgt y50000.1.1 (iadd .i64 y50000.1.2.1 1)) 92))
          (some (.exit 0,st_f148_0_e0 y2 ((y50000.1.1,((iadd .i64 y50000.1.2.1 1),y50000.1.2.2)),y50000.2)))
          (n_f148_0_1 y2 y3 y50000))
         (none))
        (n_f148_0_1 y2 y3 y50000))
       (none)))
     (br ((ine (sgt y50000.1.1 y50000.1.2.1) 9))
      (br ((ilt (sgt y50000.1.1 y50000.1.2.1) 32))
       (some (.exit 0,st_f148_0_e0 y2 y50000))
       (br ((igt (sgt y50000.1.1 y50000.1.2.1) 126))
        (some (.exit 0,st_f148_0_e0 y2 y50000))
        (n_f148_0_2 y2 y3 y50000)))
      (n_f148_0_2 y2 y3 y50000))))
   (none))
  (some (.exit 0,st_f148_0_e0 y2 y50000))
def la_f148_0 (y2:TokenX)(y3:(List Int))(y50000:ParserXX):Option (Exit×VS):=br ((qd (lxR y50000)).1) (some (.ret,st_f148_0_ret ((119,(strOf (y3++(qd (lxR y50000)).2.1),(false,(y50000.1.2.2.1,()))))) (lxTo y50000 (qd (lxR y50000)).2.2)))<|some (.exit 0,st_f148_0_e0 (y2) (lxTo y50000 (qd (lxR y50000)).2.2))
theorem be_f148_0 (y2:TokenX)(y3:(List Int))(y50000:ParserXX):roundF g_f148 fg_f148_0 tb_f148_0 (st_f148_0 y2 y3 y50000)=b_f148_0 y2 y3 y50000:=by kernel_rfl
theorem ln_f148_0 (y2:TokenX)(y3:(List Int))(y50000:ParserXX):lp_f148_0 y2 y3 y50000=n_f148_0 y2 y3 y50000:=(loopF_nxt _ _).trans (by
 rw [be_f148_0]
 simp only [b_f148_0,b_f148_0_1,b_f148_0_2,n_f148_0,n_f148_0_1,n_f148_0_2,nxt_br,nxt_n,nxt_r,nxt_e,nxt_0]
 rfl)
def r_f148 (d0:ParserXX):Option (V×List VO):=
 br ((qd0 ([]:List Int) ((d0.1.1,((iadd .i64 d0.1.2.1 1),d0.1.2.2)),d0.2)))
  (br (((qd (lxR ((d0.1.1,((iadd .i64 d0.1.2.1 1),d0.1.2.2)),d0.2))).1))
   (some (.t tyTokenX ((119,(strOf (([]:List Int)++(qd (lxR ((d0.1.1,((iadd .i64 d0.1.2.1 1),d0.1.2.2)),d0.2))).2.1),(false,(((d0.1.1,((iadd .i64 d0.1.2.1 1),d0.1.2.2)),d0.2).1.2.2.1,()))))),[.box (.t tyParserXX (lxTo ((d0.1.1,((iadd .i64 d0.1.2.1 1),d0.1.2.2)),d0.2) (qd (lxR ((d0.1.1,((iadd .i64 d0.1.2.1 1),d0.1.2.2)),d0.2))).2.2))]))
   (some (.t tyTokenX (63,((ByteArray.mk #[]),(false,(((((lxTo ((d0.1.1,((iadd .i64 d0.1.2.1 1),d0.1.2.2)),d0.2) (qd (lxR ((d0.1.1,((iadd .i64 d0.1.2.1 1),d0.1.2.2)),d0.2))).2.2).1).2).2).1,())))),[.box (.t tyParserXX (lxTo ((d0.1.1,((iadd .i64 d0.1.2.1 1),d0.1.2.2)),d0.2) (qd (lxR ((d0.1.1,((iadd .i64 d0.1.2.1 1),d0.1.2.2)),d0.2))).2.2))])))
  (none)
theorem e_f148 (d0:ParserXX):runF g_f148 tc_f148 rv_f148 false [.ptr 50000 0] [.box (.t tyParserXX d0)]=r_f148 d0:=by kernel_rfl
theorem ok_f148:Option.map (trC Tryd.prog) Tryd.f148.body=some tc_f148.er:=by kernel_rfl
theorem rok_f148:trVs Tryd.prog Tryd.f148.results.toList=some (rv_f148.map Prod.fst):=by kernel_rfl
theorem en_f148:Entered Tryd.prog 148:= .inr ⟨by decide,_,Tryd.func148,by kernel_rfl,by kernel_rfl⟩
theorem gk_f148:GOk Tryd.prog g_f148:=gok_of _ (by
 intro p hp
 simp only [List.mem_cons,List.not_mem_nil,or_false] at hp
 rcases hp with rfl
 ·exact ⟨en_op_convert_28_9,ms_op_convert_28_9⟩)
theorem isCl_br {c:Int}{X Y:Option (Exit×VS)}:br (ine c 9) (br (ilt c 32) X (br (igt c 126) X Y)) Y=br (!isClI c) X Y:=cl3
theorem l_f148_0 (y2:TokenX)(y3:(List Int))(y50000:ParserXX)(h:(qd0 y3 y50000)=true):lp_f148_0 y2 y3 y50000=la_f148_0 y2 y3 y50000:=by
 obtain ⟨⟨t,a,ln,w,u1⟩,r⟩:=y50000
 obtain ⟨h1,h2,h3,h4⟩:=cP_of h
 clear h
 simp only at h1 h2 h3 h4
 obtain ⟨k,rfl⟩:=Int.eq_ofNat_of_zero_le h1
 have hl:=bytesG_len t
 have key: ∀ (m k:Nat) (y:List Int),t.size-k<=m->k<=t.size->y.length<=k->lp_f148_0 y2 y ((t,((k:Int),(ln,(w,u1)))),r)=la_f148_0 y2 y ((t,((k:Int),(ln,(w,u1)))),r):=by
  intro m
  induction m using Nat.strongRecOn with
  |ind m ih=>
   intro k y hm hk hy
   rw [ln_f148_0]
   unfold n_f148_0 n_f148_0_1 n_f148_0_2
   simp only
   by_cases hlt:k<t.size
   ·have hkl:k<(bytesL t).length:=by omega
    have e2:ilt (k:Int) (slen t)=true:=decide_eq_true (by simp only [slen];omega)
    have e3:cSx t (k:Int)=true:=by simp only [cSx,decide_eq_true_eq];omega
    have e4:la_f148_0 y2 y ((t,((k:Int),(ln,(w,u1)))),r)=br (qd ((bytesL t).drop k)).1 (some (.ret,st_f148_0_ret (119,(strOf (y++(qd ((bytesL t).drop k)).2.1),(false,(ln,())))) ((t,((k:Int)+((qd ((bytesL t).drop k)).2.2:Int),(ln,(w,u1)))),r))) (some (.exit 0,st_f148_0_e0 y2 ((t,((k:Int)+((qd ((bytesL t).drop k)).2.2:Int),(ln,(w,u1)))),r))):=rfl
    have ei: ∀ (j:Nat) (z:List Int),t.size-j<m->j<=t.size->z.length<=j->lp_f148_0 y2 z ((t,((j:Int),(ln,(w,u1)))),r)=br (qd ((bytesL t).drop j)).1 (some (.ret,st_f148_0_ret (119,(strOf (z++(qd ((bytesL t).drop j)).2.1),(false,(ln,())))) ((t,((j:Int)+((qd ((bytesL t).drop j)).2.2:Int),(ln,(w,u1)))),r))) (some (.exit 0,st_f148_0_e0 y2 ((t,((j:Int)+((qd ((bytesL t).drop j)).2.2:Int),(ln,(w,u1)))),r))):=fun j z h1 h2 h3=>ih _ h1 j z (Nat.le_refl _) h2 h3
    rw [e4,e2,br_true,e3,br_true,sgt_get hlt,add1 (k:=k),List.drop_eq_getElem_cons hkl,isCl_br]
    generalize (bytesL t)[k]=c
    have eq:qd (c::(bytesL t).drop (k+1))=bif ieq c 34 then (true,([],1)) else bif ieq c 92 then (match (bytesL t).drop (k+1) with
      | []=>(false,([],1))
      |e::r=>bif ieq e 34||ieq e 92 then ((qd r).1,(e::(qd r).2.1,(qd r).2.2+2)) else (false,([],1))) else bif isClI c then ((qd ((bytesL t).drop (k+1))).1,(c::(qd ((bytesL t).drop (k+1))).2.1,(qd ((bytesL t).drop (k+1))).2.2+1)) else (false,([],0)):=by
     rw [qd.eq_def]
    rw [eq]
    cases h34:ieq c 34 with
    |true=>
     rw [br_true,cond_true,br_true,List.append_nil]
     rfl
    |false=>
     rw [br_false,cond_false]
     cases h92:ieq c 92 with
     |false=>
      rw [br_false,cond_false]
      cases isClI c with
      |false=>rfl
      |true=>
       rw [cond_true,Bool.not_true,br_false,cAppN (by omega) (by simp only [List.length_singleton];omega),br_true,ei (k+1) _ (by omega) (by omega) (by rw [List.length_append,List.length_singleton];omega),List.append_assoc,List.singleton_append]
       rw [show (((k+1:Nat):Int)+((qd ((bytesL t).drop (k+1))).2.2:Int))=(k:Int)+(((qd ((bytesL t).drop (k+1))).2.2+1:Nat):Int) by omega]
     |true=>
      rw [br_true,cond_true]
      by_cases hl2:k+1<t.size
      ·have hkl2:k+1<(bytesL t).length:=by omega
       have f2:ige ((k+1:Nat):Int) (slen t)=false:=decide_eq_false (by simp only [slen];omega)
       have f3:cSx t ((k+1:Nat):Int)=true:=by simp only [cSx,decide_eq_true_eq];omega
       rw [f2,br_false,f3,br_true,br_true,br_true,sgt_get hl2,add1 (show k+1<4611686018427387904 by omega),List.drop_eq_getElem_cons hkl2,cAppN (by omega) (by simp only [List.length_singleton];omega),br_true,ei (k+1+1) _ (by omega) (by omega) (by rw [List.length_append,List.length_singleton];omega),List.append_assoc,List.singleton_append]
       generalize (bytesL t)[k+1]=d
       simp only
       rw [show (((k+1+1:Nat):Int)+((qd ((bytesL t).drop (k+1+1))).2.2:Int))=(k:Int)+(((qd ((bytesL t).drop (k+1+1))).2.2+2:Nat):Int) by omega]
       show br (!ieq d 34) (br (!ieq d 92) _ _) _=_
       cases ieq d 34<;>cases ieq d 92<;>rfl
      ·have f2:ige ((k+1:Nat):Int) (slen t)=true:=decide_eq_true (by simp only [slen];omega)
       rw [f2,br_true,List.drop_eq_nil_of_le (by omega)]
       rfl
   ·obtain rfl:k=t.size:=by omega
    have e2:ilt ((t.size:Nat):Int) (slen t)=false:=decide_eq_false (by simp only [slen];omega)
    rw [e2,br_false]
    unfold la_f148_0 lxR lxTo
    simp only
    rw [Int.toNat_natCast,List.drop_eq_nil_of_le (by omega)]
    simp [qd,br_false]
 exact key _ k y3 (Nat.le_refl _) (by omega) (by omega)
theorem lo_f148_0: ∀ S l p,g_f148.L 0 (fgt fg_f148_0 S)=some (true,l)->pickA l=some p->loopF (roundF g_f148 fg_f148_0 tb_f148_0) S=some p:=
 lok_of (s:=sh_f148_0) ⟨by decide,by decide⟩ (by kernel_rfl) fun x y hok p hp=>by
 simp only [pickA_br,pickA_one] at hp
 exact (l_f148_0 y.1 y.2.1 y.2.2.2.1 (by simpa using hok)).trans hp
theorem lk_f148:tc_f148.lok g_f148:=by
 repeat (first|exact trivial|exact lo_f148_0|refine ⟨?_, ?_⟩)
theorem s_f148 (x:ParserXX)(h:qdOk x=true):r_f148 x=some (.t tyTokenX (qdF x),[.box (.t tyParserXX (qdD x))]):=by
 obtain ⟨⟨t,a,ln,w,u1⟩,r⟩:=x
 obtain ⟨h1,h2,h3⟩:=cP_of h
 simp only at h1 h2 h3
 obtain ⟨k,rfl⟩:=Int.eq_ofNat_of_zero_le h1
 unfold r_f148
 simp only
 rw [add1 (k:=k)]
 refine brY (cP_in ⟨by show (0:Int)<=((k+1:Nat):Int);omega,by show ((k+1:Nat):Int)<=(t.size:Int);omega,h3,by show ((0:Nat):Int)<=((k+1:Nat):Int);omega⟩) ?_
 unfold qdF qdD lxR lxTo
 simp only
 rw [Int.toNat_natCast,show ((k:Int)+1).toNat=k+1 by omega,List.nil_append]
 have e:((k+1:Nat):Int)+((qd ((bytesL t).drop (k+1))).2.2:Int)=(k:Int)+(1+((qd ((bytesL t).drop (k+1))).2.2:Int)):=by omega
 rw [e]
 cases (qd ((bytesL t).drop (k+1))).1<;>rfl
def sp_f148:Ent:=specP tyParserXX .nil (fun d x=>(qdOk d)) (fun d x=>(.t tyTokenX (qdF d))) (fun d x=>(qdD d))
theorem ms_f148:Meets Tryd.prog 148 (strip sp_f148):=by
 obtain ⟨c,hc,hi⟩:=Option.map_eq_some_iff.1 ok_f148
 exact meets_specP (R:=runF g_f148 tc_f148 rv_f148 false) (meets_of (by decide) Tryd.func148 hc hi Tryd.ntmps148 rok_f148 gk_f148 lk_f148 mixed) rfl fun d x hok=>(e_f148 d).trans (s_f148 d hok)
end
end Go.Proofs.YtkkoedniahnneaaDoor.K
namespace Go.Proofs.YtkkoedniahnneaaDoor.K
open Go.RowKit
noncomputable section
set_option linter.unusedSectionVars false
def cmL:List Int->Bool×Nat
 | []=>(false,0)
 |c::l=>bif ieq c 10 then (false,0) else bif isClI c then ((cmL l).1,(cmL l).2+1) else (true,0)
theorem cmL_le: ∀ l:List Int,(cmL l).2<=l.length
 | []=>Nat.le_refl _
 |c::l=>by
  have:=cmL_le l
  unfold cmL
  cases ieq c 10<;>cases isClI c<;>simp<;>omega
def skL:List Int->Bool->Bool->Bool×(Nat×(Nat×Bool))
 | [],_,w=>(false,(0,(0,w)))
 |c::l,com,w=>bif com&& !ieq c 10 then (bif isClI c then ((skL l true w).1,((skL l true w).2.1+1,(skL l true w).2.2)) else (true,(0,(0,w)))) else
   bif blkI c then ((skL l false false).1,((skL l false false).2.1+1,((skL l false false).2.2.1+(bif ieq c 10 then 1 else 0),(skL l false false).2.2.2))) else
   bif ieq c 35 then ((skL l true w).1,((skL l true w).2.1+1,(skL l true w).2.2)) else (false,(0,(0,w)))
theorem skL_cm: ∀ (l:List Int) (w:Bool),skL l true w=bif (cmL l).1 then (true,((cmL l).2,(0,w))) else ((skL (l.drop (cmL l).2) false w).1,((skL (l.drop (cmL l).2) false w).2.1+(cmL l).2,(skL (l.drop (cmL l).2) false w).2.2))
 | [],w=>rfl
 |c::l,w=>by
  have ih:=skL_cm l w
  cases h:ieq c 10 with
  |true=>
   have e:cmL (c::l)=(false,0):=by unfold cmL;rw [h];rfl
   rw [e,cond_false,List.drop_zero]
   show skL (c::l) true w=skL (c::l) false w
   unfold skL
   rw [h]
   rfl
  |false=>
   have e1:skL (c::l) true w=bif isClI c then ((skL l true w).1,((skL l true w).2.1+1,(skL l true w).2.2)) else (true,(0,(0,w))):=by rw [skL.eq_def];simp only [h];rfl
   have e2:cmL (c::l)=bif isClI c then ((cmL l).1,(cmL l).2+1) else (true,0):=by rw [cmL.eq_def];simp only [h];rfl
   rw [e1,e2]
   cases hc:isClI c with
   |false=>rfl
   |true=>
    rw [cond_true,cond_true,ih,List.drop_succ_cons]
    cases (cmL l).1<;>rfl
def ltL:List Int->Nat
 | []=>0
 |c::l=>bif ltrB c then ltL l+1 else 0
abbrev lxW (x:ParserXX):Bool:=x.1.2.2.2.1
abbrev lxL (x:ParserXX):Int:=x.1.2.2.1
def lxSk (x:ParserXX)(k:Bool×(Nat×(Nat×Bool))):ParserXX:=((x.1.1,(x.1.2.1+k.2.1,(x.1.2.2.1+k.2.2.1,(k.2.2.2,())))),x.2)
def lxOk2 (x:ParserXX):Bool:=cP (0<=x.1.2.1/\x.1.2.1<=x.1.1.size/\x.1.1.size<=1000000/\0<=x.1.2.2.1/\x.1.2.2.1<=x.1.2.1+1)
def nxP (x:ParserXX):TokenX×ParserXX:=
 bif (skL (lxR x) false (lxW x)).1 then ((63,(ByteArray.mk #[],(false,(lxL (lxSk x (skL (lxR x) false (lxW x))),())))),lxSk x (skL (lxR x) false (lxW x))) else nxQ (lxSk x (skL (lxR x) false (lxW x)))
where nxQ (x:ParserXX):TokenX×ParserXX:=
 bif ige x.1.2.1 (slen x.1.1) then ((0,(ByteArray.mk #[],(false,(lxL x,())))),x) else
 bif ieq (sgt x.1.1 x.1.2.1) 59||(ieq (sgt x.1.1 x.1.2.1) 123||ieq (sgt x.1.1 x.1.2.1) 125) then ((sgt x.1.1 x.1.2.1,(ByteArray.mk #[],(false,(lxL x,())))),((x.1.1,(x.1.2.1+1,(lxL x,(false,())))),x.2)) else
 bif lxW x||(ine (sgt x.1.1 x.1.2.1) 34&& !ltrB (sgt x.1.1 x.1.2.1)) then ((63,(ByteArray.mk #[],(false,(lxL x,())))),x) else
 bif ieq (sgt x.1.1 x.1.2.1) 34 then (qdF ((x.1.1,(x.1.2.1,(lxL x,(true,())))),x.2),qdD ((x.1.1,(x.1.2.1,(lxL x,(true,())))),x.2)) else
 ((119,(ssl x.1.1 x.1.2.1 (x.1.2.1+ltL (lxR x)),(true,(lxL x,())))),lxTo ((x.1.1,(x.1.2.1,(lxL x,(true,())))),x.2) (ltL (lxR x)))
def nxF (x:ParserXX):TokenX:=(nxP x).1
def nxD (x:ParserXX):ParserXX:=(nxP x).2
def dr_f123_0:List DO:=[(.mk (oV 6 0) []),(.mk (oP 7 (.nc (.t 6))) [0]),(.mk (oP 8 (.fa 1 (.t 7))) [1]),(.mk (oL 9 8) [2]),(.mk (oV 10 0) []),(.mk (oP 11 (.nc (.t 10))) [4]),(.mk (oP 12 (.fa 0 (.t 11))) [5]),(.mk (oL 13 12) [6]),(.mk (oP 14 (.len true (.t 13))) [7]),(.mk (oP 15 (.bin false .lss (.t 9) (.t 14))) [3,8]),(.mk (oV 16 15) [9]),(.mk (oQ 17 16 true (.mv (.t 0))) [10]),(.mk (oQ 18 16 true (.nc (.t 17))) [11,10]),(.mk (oQ 19 16 true (.fa 0 (.t 18))) [12,10]),(.mk (oG 20 16 true (.m (.ld false 1 (.t 19)))) [13,10]),(.mk (oQ 21 16 true (.mv (.t 0))) [10]),(.mk (oQ 22 16 true (.nc (.t 21))) [15,10]),(.mk (oQ 23 16 true (.fa 1 (.t 22))) [16,10]),(.mk (oG 24 16 true (.m (.ld false 1 (.t 23)))) [17,10]),(.mk (oQ 25 16 true (.sx (.t 20) (.t 24))) [14,18,10]),(.mk (oG 26 16 true (.call 147 [(.t 25)])) [19,10,10]),(.mk (oQ 27 16 true (.mv (.t 26))) [20,20,10]),(.mk (oQ 28 27 false (.mv (.t 0))) [21]),(.mk (oQ 29 27 false (.nc (.t 28))) [22,21]),(.mk (oQ 30 27 false (.fa 0 (.t 29))) [23,21]),(.mk (oG 31 27 false (.m (.ld false 1 (.t 30)))) [24,21]),(.mk (oQ 32 27 false (.mv (.t 0))) [21]),(.mk (oQ 33 27 false (.nc (.t 32))) [26,21]),(.mk (oQ 34 27 false (.fa 1 (.t 33))) [27,21]),(.mk (oG 35 27 false (.m (.ld false 1 (.t 34)))) [28,21]),(.mk (oQ 36 27 false (.sx (.t 31) (.t 35))) [25,29,21]),(.mk (oQ 37 27 false (.bin false .eql (.t 36) (.c (.v (.int .u8 35))))) [30,21]),(.mk (oQ 38 16 true (.pick (.t 27) (cB true) (.t 37))) [21,31,10]),(.mk (oP 39 (.pick (.t 16) (.t 38) (cB false))) [10,32])]
def dr_f123_1:List DO:=[(.mk (oV 40 0) []),(.mk (oP 41 (.nc (.t 40))) [0]),(.mk (oP 42 (.fa 0 (.t 41))) [1]),(.mk (oL 43 42) [2]),(.mk (oV 44 0) []),(.mk (oP 45 (.nc (.t 44))) [4]),(.mk (oP 46 (.fa 1 (.t 45))) [5]),(.mk (oL 47 46) [6]),(.mk (oP 48 (.sx (.t 43) (.t 47))) [3,7]),(.mk (oP 49 (.bin false .eql (.t 48) (.c (.v (.int .u8 35))))) [8])]
def dr_f123_2:List DO:=[(.mk (oV 50 0) []),(.mk (oP 51 (.nc (.t 50))) [0]),(.mk (oP 52 (.fa 1 (.t 51))) [1]),(.mk (oL 53 52) [2]),(.mk (oV 54 0) []),(.mk (oP 55 (.nc (.t 54))) [4]),(.mk (oP 56 (.fa 0 (.t 55))) [5]),(.mk (oL 57 56) [6]),(.mk (oP 58 (.len true (.t 57))) [7]),(.mk (oP 59 (.bin false .lss (.t 53) (.t 58))) [3,8]),(.mk (oV 60 59) [9]),(.mk (oQ 61 60 true (.mv (.t 0))) [10]),(.mk (oQ 62 60 true (.nc (.t 61))) [11,10]),(.mk (oQ 63 60 true (.fa 0 (.t 62))) [12,10]),(.mk (oG 64 60 true (.m (.ld false 1 (.t 63)))) [13,10]),(.mk (oQ 65 60 true (.mv (.t 0))) [10]),(.mk (oQ 66 60 true (.nc (.t 65))) [15,10]),(.mk (oQ 67 60 true (.fa 1 (.t 66))) [16,10]),(.mk (oG 68 60 true (.m (.ld false 1 (.t 67)))) [17,10]),(.mk (oQ 69 60 true (.sx (.t 64) (.t 68))) [14,18,10]),(.mk (oQ 70 60 true (.bin false .neq (.t 69) (.c (.v (.int .u8 10))))) [19,10]),(.mk (oP 71 (.pick (.t 60) (.t 70) (cB false))) [10,20])]
def dr_f123_3:List DO:=[(.mk (oV 72 0) []),(.mk (oP 73 (.nc (.t 72))) [0]),(.mk (oP 74 (.fa 0 (.t 73))) [1]),(.mk (oL 75 74) [2]),(.mk (oV 76 0) []),(.mk (oP 77 (.nc (.t 76))) [4]),(.mk (oP 78 (.fa 1 (.t 77))) [5]),(.mk (oL 79 78) [6]),(.mk (oP 80 (.sx (.t 75) (.t 79))) [3,7]),(.mk (oV 3 80) [8,0,1,2,3,4,5,6,7,8])]
def dr_f123_4:List DO:=[(.mk (oV 103 0) []),(.mk (oP 104 (.nc (.t 103))) [0]),(.mk (oP 105 (.fa 0 (.t 104))) [1]),(.mk (oL 106 105) [2]),(.mk (oV 107 0) []),(.mk (oP 108 (.nc (.t 107))) [4]),(.mk (oP 109 (.fa 1 (.t 108))) [5]),(.mk (oL 110 109) [6]),(.mk (oP 111 (.sx (.t 106) (.t 110))) [3,7]),(.mk (oP 112 (.bin false .eql (.t 111) (.c (.v (.int .u8 10))))) [8])]
def dr_f123_5:List DO:=[(.mk (oV 130 0) []),(.mk (oP 131 (.nc (.t 130))) [0]),(.mk (oP 132 (.fa 1 (.t 131))) [1]),(.mk (oL 133 132) [2]),(.mk (oV 134 0) []),(.mk (oP 135 (.nc (.t 134))) [4]),(.mk (oP 136 (.fa 0 (.t 135))) [5]),(.mk (oL 137 136) [6]),(.mk (oP 138 (.len true (.t 137))) [7]),(.mk (oP 139 (.bin false .geq (.t 133) (.t 138))) [3,8])]
def dr_f123_6:List DO:=[(.mk (oV 145 0) []),(.mk (oP 146 (.nc (.t 145))) [0]),(.mk (oP 147 (.fa 0 (.t 146))) [1]),(.mk (oL 148 147) [2]),(.mk (oV 149 0) []),(.mk (oP 150 (.nc (.t 149))) [4]),(.mk (oP 151 (.fa 1 (.t 150))) [5]),(.mk (oL 152 151) [6]),(.mk (oP 153 (.sx (.t 148) (.t 152))) [3,7]),(.mk (oV 4 153) [8,0,1,2,3,4,5,6,7,8])]
def dr_f123_7:List DO:=[(.mk (oV 209 0) []),(.mk (oP 210 (.nc (.t 209))) [0]),(.mk (oP 211 (.fa 1 (.t 210))) [1]),(.mk (oL 212 211) [2]),(.mk (oV 213 0) []),(.mk (oP 214 (.nc (.t 213))) [4]),(.mk (oP 215 (.fa 0 (.t 214))) [5]),(.mk (oL 216 215) [6]),(.mk (oP 217 (.len true (.t 216))) [7]),(.mk (oP 218 (.bin false .lss (.t 212) (.t 217))) [3,8]),(.mk (oV 219 218) [9]),(.mk (oQ 220 219 true (.mv (.t 0))) [10]),(.mk (oQ 221 219 true (.nc (.t 220))) [11,10]),(.mk (oQ 222 219 true (.fa 0 (.t 221))) [12,10]),(.mk (oG 223 219 true (.m (.ld false 1 (.t 222)))) [13,10]),(.mk (oQ 224 219 true (.mv (.t 0))) [10]),(.mk (oQ 225 219 true (.nc (.t 224))) [15,10]),(.mk (oQ 226 219 true (.fa 1 (.t 225))) [16,10]),(.mk (oG 227 219 true (.m (.ld false 1 (.t 226)))) [17,10]),(.mk (oQ 228 219 true (.sx (.t 223) (.t 227))) [14,18,10]),(.mk (oG 229 219 true (.call 141 [(.t 228)])) [19,10,10]),(.mk (oP 230 (.pick (.t 219) (.t 229) (cB false))) [10,20])]
def dr_f123_8:List DO:=[(.mk (oV 238 0) []),(.mk (oP 239 (.nc (.t 238))) [0]),(.mk (oP 240 (.fa 0 (.t 239))) [1]),(.mk (oL 241 240) [2]),(.mk (oV 242 5) []),(.mk (oV 243 0) []),(.mk (oP 244 (.nc (.t 243))) [5]),(.mk (oP 245 (.fa 1 (.t 244))) [6]),(.mk (oL 246 245) [7]),(.mk (oP 247 (.sls (.t 241) (some (.t 242)) (some (.t 246)))) [3,4,8]),(.mk (oV 248 0) []),(.mk (oP 249 (.nc (.t 248))) [10]),(.mk (oP 250 (.fa 2 (.t 249))) [11]),(.mk (oL 251 250) [12]),(.mk (oP 252 (.bd [(.v (.int .u8 0)),(.v (.string (ByteArray.mk #[]))),(.v (.bool false)),(.v (.int .i64 0))] [(0,1,(.c (.v (.int .u8 119)))),(1,1,(.t 247)),(2,1,(cB true)),(3,1,(.t 251))])) [9,13]),(.mk (.mk none none (.m (.st 4 (.t 2) (.t 252)))) [14,0,1,2,3,4,5,6,7,8,9,10,11,12,13,14])]
def fg_f123_0:Fg:=⟨[(0,none),(2,none)],[(2,some tyTokenX),(50000,some tyParserXX)]⟩
def tb_f123_0:TC:=(.sq (.sq (.dr dr_f123_2 [(0,[50000]),(1,[50000]),(2,[50000]),(3,[50000]),(4,[50000]),(5,[50000]),(6,[50000]),(7,[50000]),(8,[]),(9,[]),(10,[]),(11,[50000]),(12,[50000]),(13,[50000]),(14,[50000]),(15,[50000]),(16,[50000]),(17,[50000]),(18,[50000]),(19,[]),(20,[]),(21,[])] (.of [0,1,2,3,4,5,6,7,8,9,10,11,12,13,14,15,16,17,18,19,20,21])) (.cd (.t 71) .sk (.fg ⟨[(0,none),(2,none)],[(2,some tyTokenX),(50000,some tyParserXX)]⟩ (.ex 2)))) (.bk 3 (.sq (.sq (.dr dr_f123_3 [(0,[50000]),(1,[50000]),(2,[50000]),(3,[50000]),(4,[50000]),(5,[50000]),(6,[50000]),(7,[50000]),(8,[]),(9,[])] (.of [0,1,2,3,4,5,6,7,8,9])) (.sq (.reg [(oV 81 3),(oP 82 (.bin false .neq (.t 81) (.c (.v (.int .u8 9))))),(oV 83 82),(oQ 84 83 true (.mv (.t 3))),(oQ 85 83 true (.bin false .lss (.t 84) (.c (.v (.int .u8 32))))),(oQ 86 83 true (.mv (.t 85))),(oQ 87 86 false (.mv (.t 3))),(oQ 88 86 false (.bin false .gtr (.t 87) (.c (.v (.int .u8 126))))),(oQ 89 83 true (.pick (.t 86) (cB true) (.t 88))),(oP 90 (.pick (.t 83) (.t 89) (cB false)))]) (.cd (.t 90) (.sq (.reg [(oV 91 0),(oP 92 (.nc (.t 91))),(oP 93 (.fa 2 (.t 92))),(oL 94 93),(oP 95 (.bd [(.v (.int .u8 0)),(.v (.string (ByteArray.mk #[]))),(.v (.bool false)),(.v (.int .i64 0))] [(0,1,(.c (.v (.int .u8 63)))),(3,1,(.t 94))])),(.mk none none (.m (.st 4 (.t 2) (.t 95))))]) (.fg ⟨[(2,none)],[(2,some tyTokenX),(50000,some tyParserXX)]⟩ .rt)) .sk))) (.reg [(oV 96 0),(oP 97 (.nc (.t 96))),(oP 98 (.fa 1 (.t 97))),(oL 99 98),(oP 100 (.bin false .add (.t 99) (cI 1))),(oP 101 (.nc (.t 96))),(oP 102 (.fa 1 (.t 101))),(.mk none none (.m (.st 1 (.t 102) (.t 100))))]))))
def fg_f123_1:Fg:=⟨[(0,none),(2,none)],[(2,some tyTokenX),(50000,some tyParserXX)]⟩
def tb_f123_1:TC:=(.sq (.sq (.dr dr_f123_0 [(0,[50000]),(1,[50000]),(2,[50000]),(3,[50000]),(4,[50000]),(5,[50000]),(6,[50000]),(7,[50000]),(8,[]),(9,[]),(10,[]),(11,[50000]),(12,[50000]),(13,[50000]),(14,[50000]),(15,[50000]),(16,[50000]),(17,[50000]),(18,[50000]),(19,[]),(20,[]),(21,[]),(22,[50000]),(23,[50000]),(24,[50000]),(25,[50000]),(26,[50000]),(27,[50000]),(28,[50000]),(29,[50000]),(30,[]),(31,[]),(32,[]),(33,[])] (.of [0,1,2,3,4,5,6,7,8,9,10,11,12,13,14,15,16,17,18,19,20,21,22,23,24,25,26,27,28,29,30,31,32,33])) (.cd (.t 39) .sk (.fg ⟨[(0,none),(2,none)],[(2,some tyTokenX),(50000,some tyParserXX)]⟩ (.ex 0)))) (.bk 1 (.sq (.sq (.dr dr_f123_1 [(0,[50000]),(1,[50000]),(2,[50000]),(3,[50000]),(4,[50000]),(5,[50000]),(6,[50000]),(7,[50000]),(8,[]),(9,[])] (.of [0,1,2,3,4,5,6,7,8,9])) (.cd (.t 49) (.sq (.bk 2 (.lp 0 fg_f123_0 tb_f123_0)) (.fg ⟨[(0,none),(2,none)],[(2,some tyTokenX),(50000,some tyParserXX)]⟩ (.ex 1))) .sk)) (.sq (.sq (.dr dr_f123_4 [(0,[50000]),(1,[50000]),(2,[50000]),(3,[50000]),(4,[50000]),(5,[50000]),(6,[50000]),(7,[50000]),(8,[]),(9,[])] (.of [0,1,2,3,4,5,6,7,8,9])) (.cd (.t 112) (.reg [(oV 113 0),(oP 114 (.nc (.t 113))),(oP 115 (.fa 2 (.t 114))),(oL 116 115),(oP 117 (.bin false .add (.t 116) (cI 1))),(oP 118 (.nc (.t 113))),(oP 119 (.fa 2 (.t 118))),(.mk none none (.m (.st 1 (.t 119) (.t 117))))]) .sk)) (.sq (.reg [(oV 120 0),(oP 121 (.nc (.t 120))),(oP 122 (.fa 3 (.t 121))),(.mk none none (.m (.st 1 (.t 122) (cB false))))]) (.reg [(oV 123 0),(oP 124 (.nc (.t 123))),(oP 125 (.fa 1 (.t 124))),(oL 126 125),(oP 127 (.bin false .add (.t 126) (cI 1))),(oP 128 (.nc (.t 123))),(oP 129 (.fa 1 (.t 128))),(.mk none none (.m (.st 1 (.t 129) (.t 127))))]))))))
def fg_f123_2:Fg:=⟨[(0,none),(2,none),(5,some tI)],[(2,some tyTokenX),(50000,some tyParserXX)]⟩
def tb_f123_2:TC:=(.sq (.sq (.dr dr_f123_7 [(0,[50000]),(1,[50000]),(2,[50000]),(3,[50000]),(4,[50000]),(5,[50000]),(6,[50000]),(7,[50000]),(8,[]),(9,[]),(10,[]),(11,[50000]),(12,[50000]),(13,[50000]),(14,[50000]),(15,[50000]),(16,[50000]),(17,[50000]),(18,[50000]),(19,[]),(20,[]),(21,[])] (.of [0,1,2,3,4,5,6,7,8,9,10,11,12,13,14,15,16,17,18,19,20,21])) (.cd (.t 230) .sk (.fg ⟨[(0,none),(2,none),(5,some tI)],[(2,some tyTokenX),(50000,some tyParserXX)]⟩ (.ex 4)))) (.bk 5 (.reg [(oV 231 0),(oP 232 (.nc (.t 231))),(oP 233 (.fa 1 (.t 232))),(oL 234 233),(oP 235 (.bin false .add (.t 234) (cI 1))),(oP 236 (.nc (.t 231))),(oP 237 (.fa 1 (.t 236))),(.mk none none (.m (.st 1 (.t 237) (.t 235))))])))
def tc_f123:TC:=(.sq (.reg [(oM 2 (.new [(.v (.int .u8 0)),(.v (.string (ByteArray.mk #[]))),(.v (.bool false)),(.v (.int .i64 0))]))]) (.sq (.bk 0 (.lp 1 fg_f123_1 tb_f123_1)) (.sq (.sq (.dr dr_f123_5 [(0,[50000]),(1,[50000]),(2,[50000]),(3,[50000]),(4,[50000]),(5,[50000]),(6,[50000]),(7,[50000]),(8,[]),(9,[])] (.of [0,1,2,3,4,5,6,7,8,9])) (.cd (.t 139) (.sq (.reg [(oV 140 0),(oP 141 (.nc (.t 140))),(oP 142 (.fa 2 (.t 141))),(oL 143 142),(oP 144 (.bd [(.v (.int .u8 0)),(.v (.string (ByteArray.mk #[]))),(.v (.bool false)),(.v (.int .i64 0))] [(3,1,(.t 143))])),(.mk none none (.m (.st 4 (.t 2) (.t 144))))]) .rt) .sk)) (.sq (.dr dr_f123_6 [(0,[50000]),(1,[50000]),(2,[50000]),(3,[50000]),(4,[50000]),(5,[50000]),(6,[50000]),(7,[50000]),(8,[]),(9,[])] (.of [0,1,2,3,4,5,6,7,8,9])) (.sq (.sq (.reg [(oV 154 4),(oP 155 (.bin false .eql (.t 154) (.c (.v (.int .u8 59))))),(oV 156 155),(oQ 157 156 false (.mv (.t 4))),(oQ 158 156 false (.bin false .eql (.t 157) (.c (.v (.int .u8 123))))),(oP 159 (.pick (.t 156) (cB true) (.t 158))),(oV 160 159),(oQ 161 160 false (.mv (.t 4))),(oQ 162 160 false (.bin false .eql (.t 161) (.c (.v (.int .u8 125))))),(oP 163 (.pick (.t 160) (cB true) (.t 162)))]) (.cd (.t 163) (.sq (.reg [(oV 164 0),(oP 165 (.nc (.t 164))),(oP 166 (.fa 1 (.t 165))),(oL 167 166),(oP 168 (.bin false .add (.t 167) (cI 1))),(oP 169 (.nc (.t 164))),(oP 170 (.fa 1 (.t 169))),(.mk none none (.m (.st 1 (.t 170) (.t 168))))]) (.sq (.reg [(oV 171 0),(oP 172 (.nc (.t 171))),(oP 173 (.fa 3 (.t 172))),(.mk none none (.m (.st 1 (.t 173) (cB false))))]) (.sq (.reg [(oV 174 4),(oV 175 0),(oP 176 (.nc (.t 175))),(oP 177 (.fa 2 (.t 176))),(oL 178 177),(oP 179 (.bd [(.v (.int .u8 0)),(.v (.string (ByteArray.mk #[]))),(.v (.bool false)),(.v (.int .i64 0))] [(0,1,(.t 174)),(3,1,(.t 178))])),(.mk none none (.m (.st 4 (.t 2) (.t 179))))]) .rt))) .sk)) (.sq (.sq (.reg [(oV 180 0),(oP 181 (.nc (.t 180))),(oP 182 (.fa 3 (.t 181))),(oL 183 182),(oV 184 183),(oQ 185 184 false (.mv (.t 4))),(oQ 186 184 false (.bin false .neq (.t 185) (.c (.v (.int .u8 34))))),(oQ 187 184 false (.mv (.t 186))),(oQ 188 187 true (.mv (.t 4))),(oG 189 187 true (.call 141 [(.t 188)])),(oQ 190 187 true (.nt (.t 189))),(oQ 191 184 false (.pick (.t 187) (.t 190) (cB false))),(oP 192 (.pick (.t 184) (cB true) (.t 191)))]) (.cd (.t 192) (.sq (.reg [(oV 193 0),(oP 194 (.nc (.t 193))),(oP 195 (.fa 2 (.t 194))),(oL 196 195),(oP 197 (.bd [(.v (.int .u8 0)),(.v (.string (ByteArray.mk #[]))),(.v (.bool false)),(.v (.int .i64 0))] [(0,1,(.c (.v (.int .u8 63)))),(3,1,(.t 196))])),(.mk none none (.m (.st 4 (.t 2) (.t 197))))]) .rt) .sk)) (.sq (.reg [(oV 198 0),(oP 199 (.nc (.t 198))),(oP 200 (.fa 3 (.t 199))),(.mk none none (.m (.st 1 (.t 200) (cB true))))]) (.sq (.sq (.reg [(oV 201 4),(oP 202 (.bin false .eql (.t 201) (.c (.v (.int .u8 34)))))]) (.cd (.t 202) (.sq (.reg [(oV 203 0),(oC 204 148 [(.t 203)]),(.mk none none (.m (.st 4 (.t 2) (.t 204))))]) .rt) .sk)) (.sq (.reg [(oV 205 0),(oP 206 (.nc (.t 205))),(oP 207 (.fa 1 (.t 206))),(oL 208 207),(oV 5 208)]) (.sq (.bk 4 (.lp 2 fg_f123_2 tb_f123_2)) (.sq (.dr dr_f123_8 [(0,[50000]),(1,[50000]),(2,[50000]),(3,[50000]),(4,[]),(5,[50000]),(6,[50000]),(7,[50000]),(8,[50000]),(9,[]),(10,[50000]),(11,[50000]),(12,[50000]),(13,[50000]),(14,[]),(15,[2])] (.of [0,1,2,3,4,5,6,7,8,9,10,11,12,13,14,15])) .rt)))))))))))
def rv_f123:List (RV×Option Ty):=[((.c 2 true 4),some tyTokenX)]
abbrev sh_f123_0:Sh:=⟨[(0,.ptr 50000 0),(2,.ptr 2 0)],[(2,.box tyTokenX),(50000,.box tyParserXX)]⟩
def st_f123_0 (y2:TokenX)(y50000:ParserXX):VS:=sh_f123_0.st ((),(),()) (y2,y50000,())
abbrev sh_f123_0_ret:Sh:=⟨[(2,.ptr 2 0)],[(2,.box tyTokenX),(50000,.box tyParserXX)]⟩
def st_f123_0_ret (y2:TokenX)(y50000:ParserXX):VS:=sh_f123_0_ret.st ((),()) (y2,y50000,())
abbrev sh_f123_0_e2:Sh:=⟨[(0,.ptr 50000 0),(2,.ptr 2 0)],[(2,.box tyTokenX),(50000,.box tyParserXX)]⟩
def st_f123_0_e2 (y2:TokenX)(y50000:ParserXX):VS:=sh_f123_0_e2.st ((),(),()) (y2,y50000,())
-- loop 0: (y2 : TokenX) (y50000 : ParserXX); out: ('ret',) (y2 : TokenX) (y50000 : ParserXX); ('exit', 2) (y2 : TokenX) (y50000 : ParserXX)
abbrev sh_f123_1:Sh:=⟨[(0,.ptr 50000 0),(2,.ptr 2 0)],[(2,.box tyTokenX),(50000,.box tyParserXX)]⟩
def st_f123_1 (y2:TokenX)(y50000:ParserXX):VS:=sh_f123_1.st ((),(),()) (y2,y50000,())
abbrev sh_f123_1_ret:Sh:=⟨[(2,.ptr 2 0)],[(2,.box tyTokenX),(50000,.box tyParserXX)]⟩
def st_f123_1_ret (y2:TokenX)(y50000:ParserXX):VS:=sh_f123_1_ret.st ((),()) (y2,y50000,())
abbrev sh_f123_1_e0:Sh:=⟨[(0,.ptr 50000 0),(2,.ptr 2 0)],[(2,.box tyTokenX),(50000,.box tyParserXX)]⟩
def st_f123_1_e0 (y2:TokenX)(y50000:ParserXX):VS:=sh_f123_1_e0.st ((),(),()) (y2,y50000,())
-- loop 1: (y2 : TokenX) (y50000 : ParserXX); out: ('ret',) (y2 : TokenX) (y50000 : ParserXX); ('exit', 0) (y2 : TokenX) (y50000 : ParserXX)
abbrev sh_f123_2:Sh:=⟨[(0,.ptr 50000 0),(2,.ptr 2 0),(5,.ty tI)],[(2,.box tyTokenX),(50000,.box tyParserXX)]⟩
def st_f123_2 (x5:Int)(y2:TokenX)(y50000:ParserXX):VS:=sh_f123_2.st ((),(),x5,()) (y2,y50000,())
abbrev sh_f123_2_e4:Sh:=⟨[(0,.ptr 50000 0),(2,.ptr 2 0),(5,.ty tI)],[(2,.box tyTokenX),(50000,.box tyParserXX)]⟩
def st_f123_2_e4 (x5:Int)(y2:TokenX)(y50000:ParserXX):VS:=sh_f123_2_e4.st ((),(),x5,()) (y2,y50000,())
-- loop 2: (x5 : Int) (y2 : TokenX) (y50000 : ParserXX); out: ('exit', 4) (x5 : Int) (y2 : TokenX) (y50000 : ParserXX)
def L_f123_0:VS->Option (Bool×List (Bool×Exit×VS)):=mkL sh_f123_0 (fun x y=>(lxOk y.2.1)) (fun x y=>[(((cmL (lxR y.2.1)).1),.ret,st_f123_0_ret ((63,(ByteArray.mk #[],(false,(lxL y.2.1,()))))) (lxTo y.2.1 (cmL (lxR y.2.1)).2)),(true,.exit 2,st_f123_0_e2 (y.1) (lxTo y.2.1 (cmL (lxR y.2.1)).2))])
def L_f123_1:VS->Option (Bool×List (Bool×Exit×VS)):=mkL sh_f123_1 (fun x y=>(lxOk2 y.2.1)) (fun x y=>[(((skL (lxR y.2.1) false (lxW y.2.1)).1),.ret,st_f123_1_ret ((63,(ByteArray.mk #[],(false,(lxL (lxSk y.2.1 (skL (lxR y.2.1) false (lxW y.2.1))),()))))) (lxSk y.2.1 (skL (lxR y.2.1) false (lxW y.2.1)))),(true,.exit 0,st_f123_1_e0 (y.1) (lxSk y.2.1 (skL (lxR y.2.1) false (lxW y.2.1))))])
def L_f123_2:VS->Option (Bool×List (Bool×Exit×VS)):=mkL sh_f123_2 (fun x y=>(lxOk y.2.1)) (fun x y=>[(true,.exit 4,st_f123_2_e4 (x.2.2.1) (y.1) (lxTo y.2.1 (ltL (lxR y.2.1))))])
def g_f123:G:=⟨TYs,[],253,EL [(141,sp_f141),(147,sp_f147),(148,sp_f148)],keeps,(Ls [L_f123_0,L_f123_1,L_f123_2]),IL [],RL []⟩
def b_f123_0 (y2:TokenX)(y50000:ParserXX):Option (Exit×VS):=
 br ((ilt y50000.1.2.1 (slen y50000.1.1)))
  (br (cSx y50000.1.1 y50000.1.2.1)
   (br ((ine (sgt y50000.1.1 y50000.1.2.1) 10))
    (br (cSx y50000.1.1 y50000.1.2.1)
     (br ((ine (sgt y50000.1.1 y50000.1.2.1) 9))
      (br ((ilt (sgt y50000.1.1 y50000.1.2.1) 32))
       (some (.ret,st_f123_0_ret (63,((ByteArray.mk #[]),(false,(y50000.1.2.2.1,())))) y50000))
       (br ((igt (sgt y50000.1.1 y50000.1.2.1) 126))
        (some (.ret,st_f123_0_ret (63,((ByteArray.mk #[]),(false,(y50000.1.2.2.1,())))) y50000))
        (some (.normal,st_f123_0 y2 ((y50000.1.1,((iadd .i64 y50000.1.2.1 1),y50000.1.2.2)),y50000.2)))))
      (some (.normal,st_f123_0 y2 ((y50000.1.1,((iadd .i64 y50000.1.2.1 1),y50000.1.2.2)),y50000.2))))
     (none))
    (some (.exit 2,st_f123_0_e2 y2 y50000)))
   (none))
  (some (.exit 2,st_f123_0_e2 y2 y50000))
noncomputable def lp_f123_0 (y2:TokenX)(y50000:ParserXX):Option (Exit×VS):=loopF (roundF g_f123 fg_f123_0 tb_f123_0) (st_f123_0 y2 y50000)
noncomputable def n_f123_0 (y2:TokenX)(y50000:ParserXX):Option (Exit×VS):=
 br ((ilt y50000.1.2.1 (slen y50000.1.1)))
  (br (cSx y50000.1.1 y50000.1.2.1)
   (br ((ine (sgt y50000.1.1 y50000.1.2.1) 10))
    (br (cSx y50000.1.1 y50000.1.2.1)
     (br ((ine (sgt y50000.1.1 y50000.1.2.1) 9))
      (br ((ilt (sgt y50000.1.1 y50000.1.2.1) 32))
       (some (.ret,st_f123_0_ret (63,((ByteArray.mk #[]),(false,(y50000.1.2.2.1,())))) y50000))
       (br ((igt (sgt y50000.1.1 y50000.1.2.1) 126))
        (some (.ret,st_f123_0_ret (63,((ByteArray.mk #[]),(false,(y50000.1.2.2.1,())))) y50000))
        (lp_f123_0 y2 ((y50000.1.1,((iadd .i64 y50000.1.2.1 1),y50000.1.2.2)),y50000.2))))
      (lp_f123_0 y2 ((y50000.1.1,((iadd .i64 y50000.1.2.1 1),y50000.1.2.2)),y50000.2)))
     (none))
    (some (.exit 2,st_f123_0_e2 y2 y50000)))
   (none))
  (some (.exit 2,st_f123_0_e2 y2 y50000))
def la_f123_0 (y2:TokenX)(y50000:ParserXX):Option (Exit×VS):=br ((cmL (lxR y50000)).1) (some (.ret,st_f123_0_ret ((63,(ByteArray.mk #[],(false,(lxL y50000,()))))) (lxTo y50000 (cmL (lxR y50000)).2)))<|some (.exit 2,st_f123_0_e2 (y2) (lxTo y50000 (cmL (lxR y50000)).2))
theorem be_f123_0 (y2:TokenX)(y50000:ParserXX):roundF g_f123 fg_f123_0 tb_f123_0 (st_f123_0 y2 y50000)=b_f123_0 y2 y50000:=by kernel_rfl
theorem ln_f123_0 (y2:TokenX)(y50000:ParserXX):lp_f123_0 y2 y50000=n_f123_0 y2 y50000:=(loopF_nxt _ _).trans (by
 rw [be_f123_0]
 simp only [b_f123_0,n_f123_0,nxt_br,nxt_n,nxt_r,nxt_e,nxt_0]
 rfl)
def b_f123_1_1 (y2:TokenX)(y50000:ParserXX):Option (Exit×VS):=
 br (cSx y50000.1.1 y50000.1.2.1)
  (br ((ieq (sgt y50000.1.1 y50000.1.2.1) 35))
   (br ((lxOk y50000))
    (br (((cmL (lxR y50000)).1))
     (some (.ret,st_f123_1_ret ((63,(ByteArray.mk #[],(false,(lxL y50000,()))))) (lxTo y50000 (cmL (lxR y50000)).2)))
     (some (.normal,st_f123_1 (y2) (lxTo y50000 (cmL (lxR y50000)).2))))
    (none))
   (br (cSx y50000.1.1 y50000.1.2.1)
    (br ((ieq (sgt y50000.1.1 y50000.1.2.1) 10))
     (some (.normal,st_f123_1 y2 ((y50000.1.1,((iadd .i64 y50000.1.2.1 1),((iadd .i64 y50000.1.2.2.1 1),(false,y50000.1.2.2.2.2)))),y50000.2)))
     (some (.normal,st_f123_1 y2 ((y50000.1.1,((iadd .i64 y50000.1.2.1 1),(y50000.1.2.2.1,(false,y50000.1.2.2.2.2)))),y50000.2))))
    (none)))
  (none)
def b_f123_1 (y2:TokenX)(y50000:ParserXX):Option (Exit×VS):=
 br ((ilt y50000.1.2.1 (slen y50000.1.1)))
  (br (cSx y50000.1.1 y50000.1.2.1)
   (br ((blkI (sgt y50000.1.1 y50000.1.2.1)))
    (b_f123_1_1 y2 y50000)
    (br (cSx y50000.1.1 y50000.1.2.1)
     (br ((ieq (sgt y50000.1.1 y50000.1.2.1) 35))
      (b_f123_1_1 y2 y50000)
      (some (.exit 0,st_f123_1_e0 y2 y50000)))
     (none)))
   (none))
  (some (.exit 0,st_f123_1_e0 y2 y50000))
noncomputable def lp_f123_1 (y2:TokenX)(y50000:ParserXX):Option (Exit×VS):=loopF (roundF g_f123 fg_f123_1 tb_f123_1) (st_f123_1 y2 y50000)
noncomputable def n_f123_1_1 (y2:TokenX)(y50000:ParserXX):Option (Exit×VS):=
 br (cSx y50000.1.1 y50000.1.2.1)
  (br ((ieq (sgt y50000.1.1 y50000.1.2.1) 35))
   (br ((lxOk y50000))
    (br (((cmL (lxR y50000)).1))
     (some (.ret,st_f123_1_ret ((63,(ByteArray.mk #[],(false,(lxL y50000,()))))) (lxTo y50000 (cmL (lxR y50000)).2)))
     (lp_f123_1 (y2) (lxTo y50000 (cmL (lxR y50000)).2)))
    (none))
   (br (cSx y50000.1.1 y50000.1.2.1)
    (br ((ieq (sgt y50000.1.1 y50000.1.2.1) 10))
     (lp_f123_1 y2 ((y50000.1.1,((iadd .i64 y50000.1.2.1 1),((iadd .i64 y50000.1.2.2.1 1),(false,y50000.1.2.2.2.2)))),y50000.2))
     (lp_f123_1 y2 ((y50000.1.1,((iadd .i64 y50000.1.2.1 1),(y50000.1.2.2.1,(false,y50000.1.2.2.2.2)))),y50000.2)))
    (none)))
  (none)
noncomputable def n_f123_1 (y2:TokenX)(y50000:ParserXX):Option (Exit×VS):=
 br ((ilt y50000.1.2.1 (slen y50000.1.1)))
  (br (cSx y50000.1.1 y50000.1.2.1)
   (br ((blkI (sgt y50000.1.1 y50000.1.2.1)))
    (n_f123_1_1 y2 y50000)
    (br (cSx y50000.1.1 y50000.1.2.1)
     (br ((ieq (sgt y50000.1.1 y50000.1.2.1) 35))
      (n_f123_1_1 y2 y50000)
      (some (.exit 0,st_f123_1_e0 y2 y50000)))
     (none)))
   (none))
  (some (.exit 0,st_f123_1_e0 y2 y50000))
def la_f123_1 (y2:TokenX)(y50000:ParserXX):Option (Exit×VS):=br ((skL (lxR y50000) false (lxW y50000)).1) (some (.ret,st_f123_1_ret ((63,(ByteArray.mk #[],(false,(lxL (lxSk y50000 (skL (lxR y50000) false (lxW y50000))),()))))) (lxSk y50000 (skL (lxR y50000) false (lxW y50000)))))<|some (.exit 0,st_f123_1_e0 (y2) (lxSk y50000 (skL (lxR y50000) false (lxW y50000))))
theorem be_f123_1 (y2:TokenX)(y50000:ParserXX):roundF g_f123 fg_f123_1 tb_f123_1 (st_f123_1 y2 y50000)=b_f123_1 y2 y50000:=by kernel_rfl
theorem ln_f123_1 (y2:TokenX)(y50000:ParserXX):lp_f123_1 y2 y50000=n_f123_1 y2 y50000:=(loopF_nxt _ _).trans (by
 rw [be_f123_1]
 simp only [b_f123_1,b_f123_1_1,n_f123_1,n_f123_1_1,nxt_br,nxt_n,nxt_r,nxt_e,nxt_0]
 rfl)
def b_f123_2 (x5:Int)(y2:TokenX)(y50000:ParserXX):Option (Exit×VS):=
 br ((ilt y50000.1.2.1 (slen y50000.1.1)))
  (br (cSx y50000.1.1 y50000.1.2.1)
   (br ((bytI (sgt y50000.1.1 y50000.1.2.1)))
    (br ((ltrB (sgt y50000.1.1 y50000.1.2.1)))
     (some (.normal,st_f123_2 x5 y2 ((y50000.1.1,((iadd .i64 y50000.1.2.1 1),y50000.1.2.2)),y50000.2)))
     (some (.exit 4,st_f123_2_e4 x5 y2 y50000)))
    (none))
   (none))
  (some (.exit 4,st_f123_2_e4 x5 y2 y50000))
noncomputable def lp_f123_2 (x5:Int)(y2:TokenX)(y50000:ParserXX):Option (Exit×VS):=loopF (roundF g_f123 fg_f123_2 tb_f123_2) (st_f123_2 x5 y2 y50000)
noncomputable def n_f123_2 (x5:Int)(y2:TokenX)(y50000:ParserXX):Option (Exit×VS):=
 br ((ilt y50000.1.2.1 (slen y50000.1.1)))
  (br (cSx y50000.1.1 y50000.1.2.1)
   (br ((bytI (sgt y50000.1.1 y50000.1.2.1)))
    (br ((ltrB (sgt y50000.1.1 y50000.1.2.1)))
     (lp_f123_2 x5 y2 ((y50000.1.1,((iadd .i64 y50000.1.2.1 1),y50000.1.2.2)),y50000.2))
     (some (.exit 4,st_f123_2_e4 x5 y2 y50000)))
    (none))
   (none))
  (some (.exit 4,st_f123_2_e4 x5 y2 y50000))
def la_f123_2 (x5:Int)(y2:TokenX)(y50000:ParserXX):Option (Exit×VS):=some (.exit 4,st_f123_2_e4 (x5) (y2) (lxTo y50000 (ltL (lxR y50000))))
theorem be_f123_2 (x5:Int)(y2:TokenX)(y50000:ParserXX):roundF g_f123 fg_f123_2 tb_f123_2 (st_f123_2 x5 y2 y50000)=b_f123_2 x5 y2 y50000:=by kernel_rfl
theorem ln_f123_2 (x5:Int)(y2:TokenX)(y50000:ParserXX):lp_f123_2 x5 y2 y50000=n_f123_2 x5 y2 y50000:=(loopF_nxt _ _).trans (by
 rw [be_f123_2]
 simp only [b_f123_2,n_f123_2,nxt_br,nxt_n,nxt_r,nxt_e,nxt_0]
 rfl)
def r_f123_1 (d0:ParserXX):Option (V×List VO):=
 br ((ieq (sgt (((lxSk d0 (skL (lxR d0) false (lxW d0))).1).1) ((((lxSk d0 (skL (lxR d0) false (lxW d0))).1).2).1)) 34))
  (br ((qdOk ((((lxSk d0 (skL (lxR d0) false (lxW d0))).1).1,((((lxSk d0 (skL (lxR d0) false (lxW d0))).1).2).1,(((((lxSk d0 (skL (lxR d0) false (lxW d0))).1).2).2).1,(true,(((((lxSk d0 (skL (lxR d0) false (lxW d0))).1).2).2).2).2)))),(lxSk d0 (skL (lxR d0) false (lxW d0))).2)))
   (some (.t tyTokenX (qdF ((((lxSk d0 (skL (lxR d0) false (lxW d0))).1).1,((((lxSk d0 (skL (lxR d0) false (lxW d0))).1).2).1,(((((lxSk d0 (skL (lxR d0) false (lxW d0))).1).2).2).1,(true,(((((lxSk d0 (skL (lxR d0) false (lxW d0))).1).2).2).2).2)))),(lxSk d0 (skL (lxR d0) false (lxW d0))).2)),[.box (.t tyParserXX (qdD ((((lxSk d0 (skL (lxR d0) false (lxW d0))).1).1,((((lxSk d0 (skL (lxR d0) false (lxW d0))).1).2).1,(((((lxSk d0 (skL (lxR d0) false (lxW d0))).1).2).2).1,(true,(((((lxSk d0 (skL (lxR d0) false (lxW d0))).1).2).2).2).2)))),(lxSk d0 (skL (lxR d0) false (lxW d0))).2)))]))
   (none))
  (br ((lxOk ((((lxSk d0 (skL (lxR d0) false (lxW d0))).1).1,((((lxSk d0 (skL (lxR d0) false (lxW d0))).1).2).1,(((((lxSk d0 (skL (lxR d0) false (lxW d0))).1).2).2).1,(true,(((((lxSk d0 (skL (lxR d0) false (lxW d0))).1).2).2).2).2)))),(lxSk d0 (skL (lxR d0) false (lxW d0))).2)))
   (br (cSs (((lxTo ((((lxSk d0 (skL (lxR d0) false (lxW d0))).1).1,((((lxSk d0 (skL (lxR d0) false (lxW d0))).1).2).1,(((((lxSk d0 (skL (lxR d0) false (lxW d0))).1).2).2).1,(true,(((((lxSk d0 (skL (lxR d0) false (lxW d0))).1).2).2).2).2)))),(lxSk d0 (skL (lxR d0) false (lxW d0))).2) (ltL (lxR ((((lxSk d0 (skL (lxR d0) false (lxW d0))).1).1,((((lxSk d0 (skL (lxR d0) false (lxW d0))).1).2).1,(((((lxSk d0 (skL (lxR d0) false (lxW d0))).1).2).2).1,(true,(((((lxSk d0 (skL (lxR d0) false (lxW d0))).1).2).2).2).2)))),(lxSk d0 (skL (lxR d0) false (lxW d0))).2)))).1).1) (((((lxSk d0 (skL (lxR d0) false (lxW d0))).1).2).1)) ((((lxTo ((((lxSk d0 (skL (lxR d0) false (lxW d0))).1).1,((((lxSk d0 (skL (lxR d0) false (lxW d0))).1).2).1,(((((lxSk d0 (skL (lxR d0) false (lxW d0))).1).2).2).1,(true,(((((lxSk d0 (skL (lxR d0) false (lxW d0))).1).2).2).2).2)))),(lxSk d0 (skL (lxR d0) false (lxW d0))).2) (ltL (lxR ((((lxSk d0 (skL (lxR d0) false (lxW d0))).1).1,((((lxSk d0 (skL (lxR d0) false (lxW d0))).1).2).1,(((((lxSk d0 (skL (lxR d0) false (lxW d0))).1).2).2).1,(true,(((((lxSk d0 (skL (lxR d0) false (lxW d0))).1).2).2).2).2)))),(lxSk d0 (skL (lxR d0) false (lxW d0))).2)))).1).2).1))
    (some (.t tyTokenX (119,((ssl (((lxTo ((((lxSk d0 (skL (lxR d0) false (lxW d0))).1).1,((((lxSk d0 (skL (lxR d0) false (lxW d0))).1).2).1,(((((lxSk d0 (skL (lxR d0) false (lxW d0))).1).2).2).1,(true,(((((lxSk d0 (skL (lxR d0) false (lxW d0))).1).2).2).2).2)))),(lxSk d0 (skL (lxR d0) false (lxW d0))).2) (ltL (lxR ((((lxSk d0 (skL (lxR d0) false (lxW d0))).1).1,((((lxSk d0 (skL (lxR d0) false (lxW d0))).1).2).1,(((((lxSk d0 (skL (lxR d0) false (lxW d0))).1).2).2).1,(true,(((((lxSk d0 (skL (lxR d0) false (lxW d0))).1).2).2).2).2)))),(lxSk d0 (skL (lxR d0) false (lxW d0))).2)))).1).1) (((((lxSk d0 (skL (lxR d0) false (lxW d0))).1).2).1)) ((((lxTo ((((lxSk d0 (skL (lxR d0) false (lxW d0))).1).1,((((lxSk d0 (skL (lxR d0) false (lxW d0))).1).2).1,(((((lxSk d0 (skL (lxR d0) false (lxW d0))).1).2).2).1,(true,(((((lxSk d0 (skL (lxR d0) false (lxW d0))).1).2).2).2).2)))),(lxSk d0 (skL (lxR d0) false (lxW d0))).2) (ltL (lxR ((((lxSk d0 (skL (lxR d0) false (lxW d0))).1).1,((((lxSk d0 (skL (lxR d0) false (lxW d0))).1).2).1,(((((lxSk d0 (skL (lxR d0) false (lxW d0))).1).2).2).1,(true,(((((lxSk d0 (skL (lxR d0) false (lxW d0))).1).2).2).2).2)))),(lxSk d0 (skL (lxR d0) false (lxW d0))).2)))).1).2).1)),(true,(((((lxTo ((((lxSk d0 (skL (lxR d0) false (lxW d0))).1).1,((((lxSk d0 (skL (lxR d0) false (lxW d0))).1).2).1,(((((lxSk d0 (skL (lxR d0) false (lxW d0))).1).2).2).1,(true,(((((lxSk d0 (skL (lxR d0) false (lxW d0))).1).2).2).2).2)))),(lxSk d0 (skL (lxR d0) false (lxW d0))).2) (ltL (lxR ((((lxSk d0 (skL (lxR d0) false (lxW d0))).1).1,((((lxSk d0 (skL (lxR d0) false (lxW d0))).1).2).1,(((((lxSk d0 (skL (lxR d0) false (lxW d0))).1).2).2).1,(true,(((((lxSk d0 (skL (lxR d0) false (lxW d0))).1).2).2).2).2)))),(lxSk d0 (skL (lxR d0) false (lxW d0))).2)))).1).2).2).1,())))),[.box (.t tyParserXX (lxTo ((((lxSk d0 (skL (lxR d0) false (lxW d0))).1).1,((((lxSk d0 (skL (lxR d0) false (lxW d0))).1).2).1,(((((lxSk d0 (skL (lxR d0) false (lxW d0))).1).2).2).1,(true,(((((lxSk d0 (skL (lxR d0) false (lxW d0))).1).2).2).2).2)))),(lxSk d0 (skL (lxR d0) false (lxW d0))).2) (ltL (lxR ((((lxSk d0 (skL (lxR d0) false (lxW d0))).1).1,((((lxSk d0 (skL (lxR d0) false (lxW d0))).1).2).1,(((((lxSk d0 (skL (lxR d0) false (lxW d0))).1).2).2).1,(true,(((((lxSk d0 (skL (lxR d0) false (lxW d0))).1).2).2).2).2)))),(lxSk d0 (skL (lxR d0) false (lxW d0))).2)))))]))
    (none))
   (none))
def r_f123 (d0:ParserXX):Option (V×List VO):=
 br ((lxOk2 d0))
  (br (((skL (lxR d0) false (lxW d0)).1))
   (some (.t tyTokenX ((63,(ByteArray.mk #[],(false,(lxL (lxSk d0 (skL (lxR d0) false (lxW d0))),()))))),[.box (.t tyParserXX (lxSk d0 (skL (lxR d0) false (lxW d0))))]))
   (br ((ige ((((lxSk d0 (skL (lxR d0) false (lxW d0))).1).2).1) (slen (((lxSk d0 (skL (lxR d0) false (lxW d0))).1).1))))
    (some (.t tyTokenX (0,((ByteArray.mk #[]),(false,(((((lxSk d0 (skL (lxR d0) false (lxW d0))).1).2).2).1,())))),[.box (.t tyParserXX (lxSk d0 (skL (lxR d0) false (lxW d0))))]))
    (br (cSx (((lxSk d0 (skL (lxR d0) false (lxW d0))).1).1) ((((lxSk d0 (skL (lxR d0) false (lxW d0))).1).2).1))
     (br ((ieq (sgt (((lxSk d0 (skL (lxR d0) false (lxW d0))).1).1) ((((lxSk d0 (skL (lxR d0) false (lxW d0))).1).2).1)) 59))
      (some (.t tyTokenX ((sgt (((lxSk d0 (skL (lxR d0) false (lxW d0))).1).1) ((((lxSk d0 (skL (lxR d0) false (lxW d0))).1).2).1)),((ByteArray.mk #[]),(false,(((((lxSk d0 (skL (lxR d0) false (lxW d0))).1).2).2).1,())))),[.box (.t tyParserXX ((((lxSk d0 (skL (lxR d0) false (lxW d0))).1).1,((iadd .i64 ((((lxSk d0 (skL (lxR d0) false (lxW d0))).1).2).1) 1),(((((lxSk d0 (skL (lxR d0) false (lxW d0))).1).2).2).1,(false,(((((lxSk d0 (skL (lxR d0) false (lxW d0))).1).2).2).2).2)))),(lxSk d0 (skL (lxR d0) false (lxW d0))).2))]))
      (br ((ieq (sgt (((lxSk d0 (skL (lxR d0) false (lxW d0))).1).1) ((((lxSk d0 (skL (lxR d0) false (lxW d0))).1).2).1)) 123))
       (some (.t tyTokenX ((sgt (((lxSk d0 (skL (lxR d0) false (lxW d0))).1).1) ((((lxSk d0 (skL (lxR d0) false (lxW d0))).1).2).1)),((ByteArray.mk #[]),(false,(((((lxSk d0 (skL (lxR d0) false (lxW d0))).1).2).2).1,())))),[.box (.t tyParserXX ((((lxSk d0 (skL (lxR d0) false (lxW d0))).1).1,((iadd .i64 ((((lxSk d0 (skL (lxR d0) false (lxW d0))).1).2).1) 1),(((((lxSk d0 (skL (lxR d0) false (lxW d0))).1).2).2).1,(false,(((((lxSk d0 (skL (lxR d0) false (lxW d0))).1).2).2).2).2)))),(lxSk d0 (skL (lxR d0) false (lxW d0))).2))]))
       (br ((ieq (sgt (((lxSk d0 (skL (lxR d0) false (lxW d0))).1).1) ((((lxSk d0 (skL (lxR d0) false (lxW d0))).1).2).1)) 125))
        (some (.t tyTokenX ((sgt (((lxSk d0 (skL (lxR d0) false (lxW d0))).1).1) ((((lxSk d0 (skL (lxR d0) false (lxW d0))).1).2).1)),((ByteArray.mk #[]),(false,(((((lxSk d0 (skL (lxR d0) false (lxW d0))).1).2).2).1,())))),[.box (.t tyParserXX ((((lxSk d0 (skL (lxR d0) false (lxW d0))).1).1,((iadd .i64 ((((lxSk d0 (skL (lxR d0) false (lxW d0))).1).2).1) 1),(((((lxSk d0 (skL (lxR d0) false (lxW d0))).1).2).2).1,(false,(((((lxSk d0 (skL (lxR d0) false (lxW d0))).1).2).2).2).2)))),(lxSk d0 (skL (lxR d0) false (lxW d0))).2))]))
        (br ((((((lxSk d0 (skL (lxR d0) false (lxW d0))).1).2).2).2).1)
         (some (.t tyTokenX (63,((ByteArray.mk #[]),(false,(((((lxSk d0 (skL (lxR d0) false (lxW d0))).1).2).2).1,())))),[.box (.t tyParserXX (lxSk d0 (skL (lxR d0) false (lxW d0))))]))
         (br ((ine (sgt (((lxSk d0 (skL (lxR d0) false (lxW d0))).1).1) ((((lxSk d0 (skL (lxR d0) false (lxW d0))).1).2).1)) 34))
          (br ((bytI (sgt (((lxSk d0 (skL (lxR d0) false (lxW d0))).1).1) ((((lxSk d0 (skL (lxR d0) false (lxW d0))).1).2).1))))
           (br ((!(ltrB (sgt (((lxSk d0 (skL (lxR d0) false (lxW d0))).1).1) ((((lxSk d0 (skL (lxR d0) false (lxW d0))).1).2).1)))))
            (some (.t tyTokenX (63,((ByteArray.mk #[]),(false,(((((lxSk d0 (skL (lxR d0) false (lxW d0))).1).2).2).1,())))),[.box (.t tyParserXX (lxSk d0 (skL (lxR d0) false (lxW d0))))]))
            (r_f123_1 d0))
           (none))
          (r_f123_1 d0))))))
     (none))))
  (none)
theorem e_f123 (d0:ParserXX):runF g_f123 tc_f123 rv_f123 false [.ptr 50000 0] [.box (.t tyParserXX d0)]=r_f123 d0:=by kernel_rfl
theorem ok_f123:Option.map (trC Tryd.prog) Tryd.f123.body=some tc_f123.er:=by kernel_rfl
theorem rok_f123:trVs Tryd.prog Tryd.f123.results.toList=some (rv_f123.map Prod.fst):=by kernel_rfl
theorem en_f123:Entered Tryd.prog 123:= .inr ⟨by decide,_,Tryd.func123,by kernel_rfl,by kernel_rfl⟩
theorem gk_f123:GOk Tryd.prog g_f123:=gok_of _ (by
 intro p hp
 simp only [List.mem_cons,List.not_mem_nil,or_false] at hp
 rcases hp with rfl|rfl|rfl
 ·exact ⟨en_f141,ms_f141⟩
 ·exact ⟨en_f147,ms_f147⟩
 ·exact ⟨en_f148,ms_f148⟩)
theorem l_f123_0 (y2:TokenX)(y50000:ParserXX)(h:(lxOk y50000)=true):lp_f123_0 y2 y50000=la_f123_0 y2 y50000:=by
 obtain ⟨⟨t,a,ln,w,u1⟩,r⟩:=y50000
 obtain ⟨h1,h2,h3⟩:=cP_of h
 clear h
 simp only at h1 h2 h3
 obtain ⟨k,rfl⟩:=Int.eq_ofNat_of_zero_le h1
 have hl:=bytesG_len t
 have key: ∀ (m k:Nat),k+m=t.size->lp_f123_0 y2 ((t,((k:Int),(ln,(w,u1)))),r)=br (cmL ((bytesL t).drop k)).1 (some (.ret,st_f123_0_ret (63,(ByteArray.mk #[],(false,(ln,())))) ((t,((k:Int)+((cmL ((bytesL t).drop k)).2:Int),(ln,(w,u1)))),r))) (some (.exit 2,st_f123_0_e2 y2 ((t,((k:Int)+((cmL ((bytesL t).drop k)).2:Int),(ln,(w,u1)))),r))):=by
  intro m
  induction m with
  |zero=>
   intro k hm
   have e2:ilt (k:Int) (slen t)=false:=decide_eq_false (by simp only [slen];omega)
   rw [ln_f123_0]
   unfold n_f123_0
   simp only
   rw [e2,br_false,List.drop_eq_nil_of_le (by omega)]
   show _=some (_,st_f123_0_e2 y2 ((t,((k:Int)+0,(ln,(w,u1)))),r))
   rw [Int.add_zero]
  |succ m ih=>
   intro k hm
   have hlt:k<t.size:=by omega
   have hkl:k<(bytesL t).length:=by omega
   have e2:ilt (k:Int) (slen t)=true:=decide_eq_true (by simp only [slen];omega)
   have e3:cSx t (k:Int)=true:=by simp only [cSx,decide_eq_true_eq];omega
   rw [ln_f123_0]
   unfold n_f123_0
   simp only
   rw [e2,br_true,e3,br_true,br_true,sgt_get hlt,add1 (k:=k),cl3,ih (k+1) (by omega),List.drop_eq_getElem_cons hkl]
   generalize (bytesL t)[k]=c
   have e:cmL (c::(bytesL t).drop (k+1))=bif ieq c 10 then (false,0) else bif isClI c then ((cmL ((bytesL t).drop (k+1))).1,(cmL ((bytesL t).drop (k+1))).2+1) else (true,0):=by rw [cmL.eq_def]
   rw [e]
   show br (!ieq c 10) _ _=_
   cases ieq c 10 with
   |true=>
    show some (_,st_f123_0_e2 y2 ((t,((k:Int),(ln,(w,u1)))),r))=some (_,st_f123_0_e2 y2 ((t,((k:Int)+0,(ln,(w,u1)))),r))
    rw [Int.add_zero]
   |false=>
    rw [Bool.not_false,br_true,cond_false]
    cases isClI c with
    |false=>
     show some (_,st_f123_0_ret _ ((t,((k:Int),(ln,(w,u1)))),r))=some (_,st_f123_0_ret _ ((t,((k:Int)+0,(ln,(w,u1)))),r))
     rw [Int.add_zero]
    |true=>
     rw [Bool.not_true,br_false,cond_true]
     rw [show (((k+1:Nat):Int)+((cmL ((bytesL t).drop (k+1))).2:Int))=(k:Int)+(((cmL ((bytesL t).drop (k+1))).2+1:Nat):Int) by omega]
 exact key (t.size-k) k (by omega)
theorem l_f123_2 (x5:Int)(y2:TokenX)(y50000:ParserXX)(h:(lxOk y50000)=true):lp_f123_2 x5 y2 y50000=la_f123_2 x5 y2 y50000:=by
 obtain ⟨⟨t,a,ln,w,u1⟩,r⟩:=y50000
 obtain ⟨h1,h2,h3⟩:=cP_of h
 clear h
 simp only at h1 h2 h3
 obtain ⟨k,rfl⟩:=Int.eq_ofNat_of_zero_le h1
 have hl:=bytesG_len t
 have key: ∀ (m k:Nat),k+m=t.size->lp_f123_2 x5 y2 ((t,((k:Int),(ln,(w,u1)))),r)=some (.exit 4,st_f123_2_e4 x5 y2 ((t,((k:Int)+(ltL ((bytesL t).drop k):Int),(ln,(w,u1)))),r)):=by
  intro m
  induction m with
  |zero=>
   intro k hm
   have e2:ilt (k:Int) (slen t)=false:=decide_eq_false (by simp only [slen];omega)
   rw [ln_f123_2]
   unfold n_f123_2
   simp only
   rw [e2,br_false,List.drop_eq_nil_of_le (by omega)]
   show _=some (_,st_f123_2_e4 x5 y2 ((t,((k:Int)+0,(ln,(w,u1)))),r))
   rw [Int.add_zero]
  |succ m ih=>
   intro k hm
   have hlt:k<t.size:=by omega
   have hkl:k<(bytesL t).length:=by omega
   have e2:ilt (k:Int) (slen t)=true:=decide_eq_true (by simp only [slen];omega)
   have e3:cSx t (k:Int)=true:=by simp only [cSx,decide_eq_true_eq];omega
   rw [ln_f123_2]
   unfold n_f123_2
   simp only
   rw [e2,br_true,e3,br_true,sgt_get hlt,bytI_at hkl,br_true,add1 (k:=k),ih (k+1) (by omega),List.drop_eq_getElem_cons hkl]
   generalize (bytesL t)[k]=c
   have e:ltL (c::(bytesL t).drop (k+1))=bif ltrB c then ltL ((bytesL t).drop (k+1))+1 else 0:=by rw [ltL.eq_def]
   rw [e]
   cases ltrB c with
   |false=>
    show some (_,st_f123_2_e4 x5 y2 ((t,((k:Int),(ln,(w,u1)))),r))=some (_,st_f123_2_e4 x5 y2 ((t,((k:Int)+0,(ln,(w,u1)))),r))
    rw [Int.add_zero]
   |true=>
    rw [br_true,cond_true]
    rw [show (((k+1:Nat):Int)+(ltL ((bytesL t).drop (k+1)):Int))=(k:Int)+((ltL ((bytesL t).drop (k+1))+1:Nat):Int) by omega]
 exact key (t.size-k) k (by omega)
theorem l_f123_1 (y2:TokenX)(y50000:ParserXX)(h:(lxOk2 y50000)=true):lp_f123_1 y2 y50000=la_f123_1 y2 y50000:=by
 obtain ⟨⟨t,a,ln,w,u1⟩,r⟩:=y50000
 obtain ⟨h1,h2,h3,h4,h5⟩:=cP_of h
 clear h
 simp only at h1 h2 h3 h4 h5
 obtain ⟨k,rfl⟩:=Int.eq_ofNat_of_zero_le h1
 obtain ⟨ln,rfl⟩:=Int.eq_ofNat_of_zero_le h4
 have hl:=bytesG_len t
 have la: ∀ (k ln:Nat) (w:Bool),la_f123_1 y2 ((t,((k:Int),((ln:Int),(w,u1)))),r)=br (skL ((bytesL t).drop k) false w).1 (some (.ret,st_f123_1_ret (63,(ByteArray.mk #[],(false,((ln:Int)+((skL ((bytesL t).drop k) false w).2.2.1:Int),())))) ((t,((k:Int)+((skL ((bytesL t).drop k) false w).2.1:Int),((ln:Int)+((skL ((bytesL t).drop k) false w).2.2.1:Int),((skL ((bytesL t).drop k) false w).2.2.2,())))),r))) (some (.exit 0,st_f123_1_e0 y2 ((t,((k:Int)+((skL ((bytesL t).drop k) false w).2.1:Int),((ln:Int)+((skL ((bytesL t).drop k) false w).2.2.1:Int),((skL ((bytesL t).drop k) false w).2.2.2,())))),r))):=fun k ln w=>rfl
 have key: ∀ (m k ln:Nat) (w:Bool),t.size-k=m->k<=t.size->ln<=k+1->lp_f123_1 y2 ((t,((k:Int),((ln:Int),(w,u1)))),r)=la_f123_1 y2 ((t,((k:Int),((ln:Int),(w,u1)))),r):=by
  intro m
  induction m using Nat.strongRecOn with
  |ind m ih=>
   intro k ln w hm hk hln
   rw [ln_f123_1]
   unfold n_f123_1 n_f123_1_1
   simp only
   by_cases hlt:k<t.size
   ·have hkl:k<(bytesL t).length:=by omega
    have e2:ilt (k:Int) (slen t)=true:=decide_eq_true (by simp only [slen];omega)
    have e3:cSx t (k:Int)=true:=by simp only [cSx,decide_eq_true_eq];omega
    have e4:lxOk ((t,((k:Int),((ln:Int),(w,u1)))),r)=true:=cP_in ⟨by show (0:Int)<=(k:Int);omega,by show (k:Int)<=(t.size:Int);omega,h3⟩
    rw [la,e2,br_true,e3,br_true,br_true,br_true,br_true,sgt_get hlt,e4,br_true,add1 (k:=k),add1 (k:=ln)]
    have ex:lxR ((t,((k:Int),((ln:Int),(w,u1)))),r)=(bytesL t).drop k:=rfl
    rw [ex,List.drop_eq_getElem_cons hkl]
    generalize (bytesL t)[k]=c
    cases h35:ieq c 35 with
    |true=>
     obtain rfl:c=35:=eq_of_beq h35
     have q1:cmL (35::(bytesL t).drop (k+1))=((cmL ((bytesL t).drop (k+1))).1,(cmL ((bytesL t).drop (k+1))).2+1):=rfl
     have q2:skL (35::(bytesL t).drop (k+1)) false w=((skL ((bytesL t).drop (k+1)) true w).1,((skL ((bytesL t).drop (k+1)) true w).2.1+1,(skL ((bytesL t).drop (k+1)) true w).2.2)):=rfl
     have q3:blkI 35=false:=rfl
     have q4:=cmL_le ((bytesL t).drop (k+1))
     rw [List.length_drop] at q4
     have q5:lxTo ((t,((k:Int),((ln:Int),(w,u1)))),r) (((cmL ((bytesL t).drop (k+1))).2+1:Nat):Int)=((t,(((k+1+(cmL ((bytesL t).drop (k+1))).2:Nat):Int),((ln:Int),(w,u1)))),r):=by
      unfold lxTo
      simp only
      rw [show (k:Int)+(((cmL ((bytesL t).drop (k+1))).2+1:Nat):Int)=((k+1+(cmL ((bytesL t).drop (k+1))).2:Nat):Int) by omega]
     rw [q1,q2,q3,br_false,br_true,br_true,q5,skL_cm,List.drop_drop]
     generalize hn:cmL ((bytesL t).drop (k+1))=n at*
     obtain ⟨n1,n2⟩:=n
     cases n1 with
     |true=>
      show some (_,st_f123_1_ret (63,(ByteArray.mk #[],(false,((ln:Int),())))) ((t,(((k+1+n2:Nat):Int),((ln:Int),(w,())))),r))=some (_,st_f123_1_ret (63,(ByteArray.mk #[],(false,((ln:Int)+0,())))) ((t,((k:Int)+((n2+1:Nat):Int),((ln:Int)+0,(w,())))),r))
      rw [Int.add_zero,show (k:Int)+((n2+1:Nat):Int)=((k+1+n2:Nat):Int) by omega]
     |false=>
      simp only at q4
      rw [br_false,ih _ (by omega) (k+1+n2) ln w rfl (by omega) (by omega),la]
      simp only [cond_false]
      rw [show (((k+1+n2:Nat):Int)+((skL ((bytesL t).drop (k+1+n2)) false w).2.1:Int))=(k:Int)+(((skL ((bytesL t).drop (k+1+n2)) false w).2.1+n2+1:Nat):Int) by omega]
    |false=>
     have q2:skL (c::(bytesL t).drop (k+1)) false w=bif blkI c then ((skL ((bytesL t).drop (k+1)) false false).1,((skL ((bytesL t).drop (k+1)) false false).2.1+1,((skL ((bytesL t).drop (k+1)) false false).2.2.1+(bif ieq c 10 then 1 else 0),(skL ((bytesL t).drop (k+1)) false false).2.2.2))) else (false,(0,(0,w))):=by
      rw [skL.eq_def]
      simp only [h35,Bool.false_and,cond_false]
     rw [q2]
     cases hb:blkI c with
     |false=>
      show some (_,st_f123_1_e0 y2 ((t,((k:Int),((ln:Int),(w,())))),r))=some (_,st_f123_1_e0 y2 ((t,((k:Int)+0,((ln:Int)+0,(w,())))),r))
      rw [Int.add_zero,Int.add_zero]
     |true=>
      rw [br_true,br_false,cond_true]
      have r1:=ih (t.size-(k+1)) (by omega) (k+1) (ln+1) false rfl (by omega) (by omega)
      have r2:=ih (t.size-(k+1)) (by omega) (k+1) ln false rfl (by omega) (by omega)
      rw [la] at r1 r2
      rw [show (((k+1:Nat):Int)+((skL ((bytesL t).drop (k+1)) false false).2.1:Int))=(k:Int)+(((skL ((bytesL t).drop (k+1)) false false).2.1+1:Nat):Int) by omega] at r1 r2
      rw [show (((ln+1:Nat):Int)+((skL ((bytesL t).drop (k+1)) false false).2.2.1:Int))=(ln:Int)+(((skL ((bytesL t).drop (k+1)) false false).2.2.1+1:Nat):Int) by omega] at r1
      cases ieq c 10 with
      |true=>exact r1
      |false=>exact r2
   ·obtain rfl:k=t.size:=by omega
    have e2:ilt ((t.size:Nat):Int) (slen t)=false:=decide_eq_false (by simp only [slen];omega)
    rw [la,e2,br_false,List.drop_eq_nil_of_le (by omega)]
    show _=some (_,st_f123_1_e0 y2 ((t,((t.size:Int)+0,((ln:Int)+0,(w,())))),r))
    rw [Int.add_zero,Int.add_zero]
 exact key _ k ln w rfl (by omega) (by omega)
theorem lo_f123_0: ∀ S l p,g_f123.L 0 (fgt fg_f123_0 S)=some (true,l)->pickA l=some p->loopF (roundF g_f123 fg_f123_0 tb_f123_0) S=some p:=
 lok_of (s:=sh_f123_0) ⟨by decide,by decide⟩ (by kernel_rfl) fun x y hok p hp=>by
 simp only [pickA_br,pickA_one] at hp
 exact (l_f123_0 y.1 y.2.1 (by simpa using hok)).trans hp
theorem lo_f123_1: ∀ S l p,g_f123.L 1 (fgt fg_f123_1 S)=some (true,l)->pickA l=some p->loopF (roundF g_f123 fg_f123_1 tb_f123_1) S=some p:=
 lok_of (s:=sh_f123_1) ⟨by decide,by decide⟩ (by kernel_rfl) fun x y hok p hp=>by
 simp only [pickA_br,pickA_one] at hp
 exact (l_f123_1 y.1 y.2.1 (by simpa using hok)).trans hp
theorem lo_f123_2: ∀ S l p,g_f123.L 2 (fgt fg_f123_2 S)=some (true,l)->pickA l=some p->loopF (roundF g_f123 fg_f123_2 tb_f123_2) S=some p:=
 lok_of (s:=sh_f123_2) ⟨by decide,by decide⟩ (by kernel_rfl) fun x y hok p hp=>by
 simp only [pickA_br,pickA_one] at hp
 exact (l_f123_2 x.2.2.1 y.1 y.2.1 (by simpa using hok)).trans hp
theorem lk_f123:tc_f123.lok g_f123:=by
 repeat (first|exact trivial|exact lo_f123_0|exact lo_f123_1|exact lo_f123_2|refine ⟨?_, ?_⟩)
theorem skL_le: ∀ (l:List Int) (com w:Bool),(skL l com w).2.1<=l.length/\(skL l com w).2.2.1<=(skL l com w).2.1
 | [],_,_=>⟨Nat.le_refl _,Nat.le_refl _⟩
 |c::l,com,w=>by
  obtain ⟨h1,h2⟩:=skL_le l true w
  obtain ⟨h3,h4⟩:=skL_le l false false
  rw [skL.eq_def]
  simp only [List.length_cons]
  cases com&& !ieq c 10 with
  |true=>
   rw [cond_true]
   cases isClI c with
   |true=>exact ⟨by show _+1<=_;omega,by show (skL l true w).2.2.1<=(skL l true w).2.1+1;omega⟩
   |false=>exact ⟨Nat.zero_le _,Nat.le_refl _⟩
  |false=>
   rw [cond_false]
   cases blkI c with
   |true=>
    rw [cond_true]
    cases ieq c 10 with
    |true=>exact ⟨by show _+1<=_;omega,by show _+1<=_+1;omega⟩
    |false=>exact ⟨by show _+1<=_;omega,by show _+0<=_+1;omega⟩
   |false=>
    rw [cond_false]
    cases ieq c 35 with
    |true=>exact ⟨by show _+1<=_;omega,by show (skL l true w).2.2.1<=(skL l true w).2.1+1;omega⟩
    |false=>exact ⟨Nat.zero_le _,Nat.le_refl _⟩
theorem ltL_le: ∀ l:List Int,ltL l<=l.length
 | []=>Nat.le_refl _
 |c::l=>by
  have:=ltL_le l
  unfold ltL
  cases ltrB c<;>simp<;>omega
theorem s_f123 (x:ParserXX)(h:lxOk2 x=true):r_f123 x=some (.t tyTokenX (nxF x),[.box (.t tyParserXX (nxD x))]):=by
 have h0:=h
 obtain ⟨h1,h2,h3,h4,h5⟩:=cP_of h0
 unfold r_f123 nxF nxD nxP
 refine brY h ?_
 have hb:=bytesG_len x.1.1
 have hk:=skL_le (lxR x) false (lxW x)
 rw [show (lxR x).length=(bytesL x.1.1).length-x.1.2.1.toNat from List.length_drop] at hk
 unfold r_f123_1
 generalize skL (lxR x) false (lxW x)=K at hk ⊢
 have hy:0<=(lxSk x K).1.2.1/\(lxSk x K).1.2.1<=(lxSk x K).1.1.size/\(lxSk x K).1.1.size<=1000000:=by
  show 0<=x.1.2.1+(K.2.1:Int)/\x.1.2.1+(K.2.1:Int)<=(x.1.1.size:Int)/\x.1.1.size<=1000000
  omega
 generalize lxSk x K=y at hy ⊢
 cases K.1 with
 |true=>rfl
 |false=>
  rw [br_false,cond_false]
  obtain ⟨⟨t,a,ln,w,u1⟩,r⟩:=y
  obtain ⟨y1,y2,y3⟩:=hy
  simp only at y1 y2 y3
  obtain ⟨k,rfl⟩:=Int.eq_ofNat_of_zero_le y1
  have hl:=bytesG_len t
  unfold nxP.nxQ
  simp only
  by_cases hlt:k<t.size
  ·have hkl:k<(bytesL t).length:=by omega
   have e1:ige (k:Int) (slen t)=false:=decide_eq_false (by simp only [slen];omega)
   have e3:cSx t (k:Int)=true:=by simp only [cSx,decide_eq_true_eq];omega
   have e4: ∀ q:Bool,lxOk ((t,((k:Int),(ln,(q,u1)))),r)=true:=fun q=>cP_in ⟨by show (0:Int)<=(k:Int);omega,by show (k:Int)<=(t.size:Int);omega,y3⟩
   have e5: ∀ q:Bool,qdOk ((t,((k:Int),(ln,(q,u1)))),r)=true:=fun q=>cP_in ⟨by show (0:Int)<=(k:Int);omega,by show (k:Int)<(t.size:Int);omega,y3⟩
   have e6: ∀ q:Bool,lxR ((t,((k:Int),(ln,(q,u1)))),r)=(bytesL t).drop k:=fun q=>rfl
   have e7:=ltL_le ((bytesL t).drop k)
   rw [List.length_drop] at e7
   have e8: ∀ q:Bool,lxTo ((t,((k:Int),(ln,(q,u1)))),r) (ltL ((bytesL t).drop k):Int)=((t,((k:Int)+(ltL ((bytesL t).drop k):Int),(ln,(q,u1)))),r):=fun q=>rfl
   have e9:cSs t (k:Int) ((k:Int)+(ltL ((bytesL t).drop k):Int))=true:=decide_eq_true (by omega)
   rw [e1,br_false,cond_false,e3,br_true,sgt_get hlt,add1 (k:=k),bytI_at hkl,br_true,e5,br_true,e4,br_true,e6,e8]
   simp only
   rw [e9,br_true]
   generalize (bytesL t)[k]=c
   have f1:((k+1:Nat):Int)=(k:Int)+1:=by omega
   rw [f1]
   cases ieq c 59 with
   |true=>rfl
   |false=>
    cases ieq c 123 with
    |true=>rfl
    |false=>
     cases ieq c 125 with
     |true=>rfl
     |false=>
      cases w with
      |true=>rfl
      |false=>
       show br false _ (br (!ieq c 34) (br (!ltrB c) _ (br (ieq c 34) _ _)) (br (ieq c 34) _ _))=_
       rw [br_false]
       rw [show ine c 34= !ieq c 34 from rfl]
       cases ieq c 34<;>cases ltrB c<;>rfl
  ·have e1:ige (k:Int) (slen t)=true:=decide_eq_true (by simp only [slen];omega)
   rw [e1]
   rfl
def sp_f123:Ent:=specP tyParserXX .nil (fun d x=>(lxOk2 d)) (fun d x=>(.t tyTokenX (nxF d))) (fun d x=>(nxD d))
theorem ms_f123:Meets Tryd.prog 123 (strip sp_f123):=by
 obtain ⟨c,hc,hi⟩:=Option.map_eq_some_iff.1 ok_f123
 exact meets_specP (R:=runF g_f123 tc_f123 rv_f123 false) (meets_of (by decide) Tryd.func123 hc hi Tryd.ntmps123 rok_f123 gk_f123 lk_f123 mixed) rfl fun d x hok=>(e_f123 d).trans (s_f123 d hok)
end
end Go.Proofs.YtkkoedniahnneaaDoor.K
namespace Go.Proofs.YtkkoedniahnneaaDoor.K
open Go.RowKit
noncomputable section
set_option linter.unusedSectionVars false
def tkD (x:ParserXX):ParserXX:=((nxD x).1,(nxF x,(nxD x).2.2))
def flD (x:ParserXX):ParserXX:=bif ieq x.2.2.1 0 then (x.1,(x.2.1,((bif ieq x.2.1.1 0 then endN x.1.1+1 else x.2.1.2.2.2.1),x.2.2.2))) else x
def flOk (x:ParserXX):Bool:=cP (x.1.1.size<=1000000)
def tc_f93:TC:=(.reg [(oV 2 0),(oV 3 0),(oP 4 (.nc (.t 3))),(oP 5 (.fa 0 (.t 4))),(oC 6 123 [(.t 5)]),(oP 7 (.nc (.t 2))),(oP 8 (.fa 4 (.t 7))),(.mk none none (.m (.st 4 (.t 8) (.t 6))))])
def rv_f93:List (RV×Option Ty):=[]
def g_f93:G:=⟨TYs,[],9,EL [(123,sp_f123)],keeps,(fun _ _=>none),IL [],RL []⟩
def r_f93 (d0:ParserXX):Option (V×List VO):=
 br ((lxOk2 d0))
  (some (.tu [],[.box (.t tyParserXX ((nxD d0).1,((nxF d0),((nxD d0).2).2)))]))
  (none)
theorem e_f93 (d0:ParserXX):runF g_f93 tc_f93 rv_f93 false [.ptr 50000 0] [.box (.t tyParserXX d0)]=r_f93 d0:=by kernel_rfl
theorem ok_f93:Option.map (trC Tryd.prog) Tryd.f93.body=some tc_f93.er:=by kernel_rfl
theorem rok_f93:trVs Tryd.prog Tryd.f93.results.toList=some (rv_f93.map Prod.fst):=by kernel_rfl
theorem en_f93:Entered Tryd.prog 93:= .inr ⟨by decide,_,Tryd.func93,by kernel_rfl,by kernel_rfl⟩
theorem gk_f93:GOk Tryd.prog g_f93:=gok_of _ (by
 intro p hp
 simp only [List.mem_cons,List.not_mem_nil,or_false] at hp
 rcases hp with rfl
 ·exact ⟨en_f123,ms_f123⟩)
theorem lk_f93:tc_f93.lok g_f93:=by repeat (first|exact trivial|refine ⟨?_, ?_⟩)
theorem s_f93 (x:ParserXX)(h:lxOk2 x=true):r_f93 x=some (.tu [],[.box (.t tyParserXX (tkD x))]):=by
 unfold r_f93
 exact brY h rfl
def sp_f93:Ent:=specP tyParserXX .nil (fun d x=>(lxOk2 d)) (fun d x=>(.tu [])) (fun d x=>(tkD d))
theorem ms_f93:Meets Tryd.prog 93 (strip sp_f93):=by
 obtain ⟨c,hc,hi⟩:=Option.map_eq_some_iff.1 ok_f93
 exact meets_specP (R:=runF g_f93 tc_f93 rv_f93 false) (meets_of (by decide) Tryd.func93 hc hi Tryd.ntmps93 rok_f93 gk_f93 lk_f93 mixed) rfl fun d x hok=>(e_f93 d).trans (s_f93 d hok)
theorem endN_le (s:ByteArray):0<=endN s/\endN s<=s.size:=by
 unfold endN
 have:(bl s).count 10<=(bl s).length:=List.count_le_length
 rw [bl_len] at this
 omega
def tc_f95:TC:=(.sq (.reg [(oV 2 0),(oP 3 (.nc (.t 2))),(oP 4 (.fa 8 (.t 3))),(oL 5 4),(oP 6 (.bin false .eql (.t 5) (cI 0)))]) (.cd (.t 6) (.sq (.reg [(oV 7 0),(oV 8 0),(oP 9 (.nc (.t 8))),(oP 10 (.fa 4 (.t 9))),(oP 11 (.fa 3 (.t 10))),(oL 12 11),(oP 13 (.nc (.t 7))),(oP 14 (.fa 8 (.t 13))),(.mk none none (.m (.st 1 (.t 14) (.t 12))))]) (.sq (.reg [(oV 15 0),(oP 16 (.nc (.t 15))),(oP 17 (.fa 4 (.t 16))),(oP 18 (.fa 0 (.t 17))),(oL 19 18),(oP 20 (.bin false .eql (.t 19) (.c (.v (.int .u8 0)))))]) (.cd (.t 20) (.reg [(oV 21 0),(oV 22 0),(oP 23 (.nc (.t 22))),(oP 24 (.fa 0 (.t 23))),(oP 25 (.fa 0 (.t 24))),(oL 26 25),(oC 27 58 [(.t 26)]),(oP 28 (.bin false .add (.t 27) (cI 1))),(oP 29 (.nc (.t 21))),(oP 30 (.fa 8 (.t 29))),(.mk none none (.m (.st 1 (.t 30) (.t 28))))]) .sk))) .sk))
def rv_f95:List (RV×Option Ty):=[]
def g_f95:G:=⟨TYs,[],31,EL [(58,sp_f58)],keeps,(fun _ _=>none),IL [],RL []⟩
def r_f95 (d0:ParserXX):Option (V×List VO):=
 br ((ieq d0.2.2.1 0))
  (br ((ieq d0.2.1.1 0))
   (br ((nameG d0.1.1))
    (some (.tu [],[.box (.t tyParserXX (d0.1,(d0.2.1,((iadd .i64 (endN d0.1.1) 1),d0.2.2.2))))]))
    (none))
   (some (.tu [],[.box (.t tyParserXX (d0.1,(d0.2.1,(d0.2.1.2.2.2.1,d0.2.2.2))))])))
  (some (.tu [],[.box (.t tyParserXX d0)]))
theorem e_f95 (d0:ParserXX):runF g_f95 tc_f95 rv_f95 false [.ptr 50000 0] [.box (.t tyParserXX d0)]=r_f95 d0:=by kernel_rfl
theorem ok_f95:Option.map (trC Tryd.prog) Tryd.f95.body=some tc_f95.er:=by kernel_rfl
theorem rok_f95:trVs Tryd.prog Tryd.f95.results.toList=some (rv_f95.map Prod.fst):=by kernel_rfl
theorem en_f95:Entered Tryd.prog 95:= .inr ⟨by decide,_,Tryd.func95,by kernel_rfl,by kernel_rfl⟩
theorem gk_f95:GOk Tryd.prog g_f95:=gok_of _ (by
 intro p hp
 simp only [List.mem_cons,List.not_mem_nil,or_false] at hp
 rcases hp with rfl
 ·exact ⟨en_f58,ms_f58⟩)
theorem lk_f95:tc_f95.lok g_f95:=by repeat (first|exact trivial|refine ⟨?_, ?_⟩)
theorem s_f95 (x:ParserXX)(h:flOk x=true):r_f95 x=some (.tu [],[.box (.t tyParserXX (flD x))]):=by
 have h:=cP_of h
 obtain ⟨h1,h2⟩:=endN_le x.1.1
 unfold r_f95 flD
 cases ieq x.2.2.1 0 with
 |false=>rfl
 |true=>
  rw [br_true,cond_true]
  cases ieq x.2.1.1 0 with
  |false=>rfl
  |true=>
   rw [br_true,cond_true,iadd_in (by omega)]
   exact brY (decide_eq_true (by omega)) rfl
def sp_f95:Ent:=specP tyParserXX .nil (fun d x=>(flOk d)) (fun d x=>(.tu [])) (fun d x=>(flD d))
theorem ms_f95:Meets Tryd.prog 95 (strip sp_f95):=by
 obtain ⟨c,hc,hi⟩:=Option.map_eq_some_iff.1 ok_f95
 exact meets_specP (R:=runF g_f95 tc_f95 rv_f95 false) (meets_of (by decide) Tryd.func95 hc hi Tryd.ntmps95 rok_f95 gk_f95 lk_f95 mixed) rfl fun d x hok=>(e_f95 d).trans (s_f95 d hok)
end
end Go.Proofs.YtkkoedniahnneaaDoor.K
namespace Go.Proofs.YtkkoedniahnneaaDoor.K
open Go.RowKit
noncomputable section
set_option linter.unusedSectionVars false
theorem meets_zeroP {P:Program}{f:FuncId}{b a:Ty}{ok:b.T->a.T->Bool}{F:b.T->a.T->V}{H:b.T->a.T->b.T}(h: ∀ d x,ok d x=false):Meets P f (strip (specP b a ok F H)):=by
 intro args objs r os hF
 unfold strip specP at hF
 split at hF
 ·rename_i r0 os0 hq
  split at hq
  ·split at hq
   ·simp only [h,Option.some.injEq,Prod.mk.injEq,Bool.false_eq_true,false_and] at hq
   ·cases hq
  ·cases hq
 ·cases hF
theorem meets_fuelP {P:Program}{f:FuncId}{b a:Ty}{okN:Nat->b.T->a.T->Bool}{ok:b.T->a.T->Bool}{F:b.T->a.T->V}{H:b.T->a.T->b.T}
  (hN: ∀ N,Meets P f (strip (specP b a (okN N) F H))) (h: ∀ d x,ok d x=true→ ∃ N,okN N d x=true):Meets P f (strip (specP b a ok F H)):=by
 intro args objs r os hF
 unfold strip specP at hF
 split at hF
 ·rename_i r0 os0 hq
  split at hq
  ·split at hq
   ·rename_i d x hd hx
    simp only [Option.some.injEq,Prod.mk.injEq] at hF hq
    obtain ⟨h1,h2⟩:=hF
    obtain ⟨h3,h4,h5⟩:=hq
    subst h1 h2 h4 h5
    obtain ⟨N,hn⟩:=h d x h3
    exact hN N _ _ _ _ (by unfold strip specP;simp only [hd,hx,hn])
   ·cases hq
  ·cases hq
 ·cases hF
theorem qd_le: ∀ l:List Int,(qd l).2.2<=l.length∧ ∀ e r,l=e::r->(qd r).2.2<=r.length
 | []=>⟨Nat.le_refl _,fun _ _ h=>by cases h⟩
 |c::l=>by
  obtain ⟨h1,h2⟩:=qd_le l
  refine ⟨?_,fun e r h=>by cases h;exact h1⟩
  rw [qd.eq_def]
  simp only [List.length_cons]
  cases ieq c 34 with
  |true=>show 1<=_;omega
  |false=>
   rw [cond_false]
   cases ieq c 92 with
   |false=>
    rw [cond_false]
    cases isClI c with
    |true=>show (qd l).2.2+1<=_;omega
    |false=>exact Nat.zero_le _
   |true=>
    rw [cond_true]
    cases l with
    |nil=>show 1<=_;omega
    |cons e r=>
     have h3:=h2 e r rfl
     simp only [List.length_cons]
     cases ieq e 34||ieq e 92 with
     |true=>show (qd r).2.2+2<=_;omega
     |false=>show 1<=_;omega
structure Adv (x y:ParserXX):Prop where
 text:y.1.1=x.1.1
 rest:y.2=x.2
 le:x.1.2.1<=y.1.2.1
 size:y.1.2.1<=(y.1.1.size:Int)
 line0:0<=y.1.2.2.1
 line:y.1.2.2.1<=y.1.2.1+1
theorem adv_sk {x:ParserXX}(h:lxOk2 x=true):Adv x (lxSk x (skL (lxR x) false (lxW x))):=by
 obtain ⟨h1,h2,h3,h4,h5⟩:=cP_of h
 have hb:=bytesG_len x.1.1
 have hk:=skL_le (lxR x) false (lxW x)
 rw [show (lxR x).length=(bytesL x.1.1).length-x.1.2.1.toNat from List.length_drop] at hk
 generalize skL (lxR x) false (lxW x)=K at hk ⊢
 refine ⟨rfl,rfl, ?_, ?_, ?_, ?_⟩
 ·show x.1.2.1<=x.1.2.1+(K.2.1:Int)
  omega
 ·show x.1.2.1+(K.2.1:Int)<=(x.1.1.size:Int)
  omega
 ·show 0<=x.1.2.2.1+(K.2.2.1:Int)
  omega
 ·show x.1.2.2.1+(K.2.2.1:Int)<=x.1.2.1+(K.2.1:Int)+1
  omega
theorem adv_q {y:ParserXX}(h1:0<=y.1.2.1)(h2:y.1.2.1<=(y.1.1.size:Int))(h3:0<=y.1.2.2.1)(h4:y.1.2.2.1<=y.1.2.1+1):
  Adv y (nxP.nxQ y).2/\((nxP.nxQ y).1.1=63∨(nxP.nxQ y).1.1=0∨y.1.2.1+1<=(nxP.nxQ y).2.1.2.1):=by
 obtain ⟨⟨t,a,ln,w,u1⟩,r⟩:=y
 simp only at h1 h2 h3 h4
 obtain ⟨k,rfl⟩:=Int.eq_ofNat_of_zero_le h1
 have hl:=bytesG_len t
 unfold nxP.nxQ
 simp only
 by_cases hlt:k<t.size
 ·have hkl:k<(bytesL t).length:=by omega
  have e1:ige (k:Int) (slen t)=false:=decide_eq_false (by simp only [slen];omega)
  rw [e1,cond_false,sgt_get hlt]
  cases ieq (bytesL t)[k] 59||(ieq (bytesL t)[k] 123||ieq (bytesL t)[k] 125) with
  |true=>exact ⟨⟨rfl,rfl,by show (k:Int)<=(k:Int)+1;omega,by show (k:Int)+1<=(t.size:Int);omega,h3,by show ln<=(k:Int)+1+1;omega⟩,.inr (.inr (by show (k:Int)+1<=(k:Int)+1;omega))⟩
  |false=>
   rw [cond_false]
   cases hc:lxW ((t,((k:Int),(ln,(w,u1)))),r)||(ine (bytesL t)[k] 34&& !ltrB (bytesL t)[k]) with
   |true=>exact ⟨⟨rfl,rfl,Int.le_refl _,h2,h3,h4⟩,.inl rfl⟩
   |false=>
    rw [cond_false]
    cases h34:ieq (bytesL t)[k] 34 with
    |true=>
     have hq:=(qd_le ((bytesL t).drop (k+1))).1
     rw [List.length_drop] at hq
     have e9: ∀ q:Bool,(qdD ((t,((k:Int),(ln,(q,())))),r))=((t,((k:Int)+(1+((qd ((bytesL t).drop (k+1))).2.2:Int)),(ln,(q,())))),r):=fun q=>by
      show ((t,((k:Int)+(1+((qd ((bytesL t).drop ((k:Int)+1).toNat)).2.2:Int)),(ln,(q,())))),r)=_
      rw [show ((k:Int)+1).toNat=k+1 by omega]
     rw [cond_true]
     show Adv _ (qdD ((t,((k:Int),(ln,(true,())))),r))/\(_∨_∨(k:Int)+1<=(qdD ((t,((k:Int),(ln,(true,())))),r)).1.2.1)
     rw [e9]
     refine ⟨⟨rfl,rfl, ?_, ?_,h3, ?_⟩,.inr (.inr ?_)⟩
     ·show (k:Int)<=(k:Int)+(1+((qd ((bytesL t).drop (k+1))).2.2:Int));omega
     ·show (k:Int)+(1+((qd ((bytesL t).drop (k+1))).2.2:Int))<=(t.size:Int);omega
     ·show ln<=(k:Int)+(1+((qd ((bytesL t).drop (k+1))).2.2:Int))+1;omega
     ·show (k:Int)+1<=(k:Int)+(1+((qd ((bytesL t).drop (k+1))).2.2:Int));omega
    |false=>
     have hlet:ltrB (bytesL t)[k]=true:=by
      rw [show ine (bytesL t)[k] 34= !ieq (bytesL t)[k] 34 from rfl,h34] at hc
      cases hq:ltrB (bytesL t)[k] with
      |true=>rfl
      |false=>rw [hq] at hc;cases hw:lxW ((t,((k:Int),(ln,(w,u1)))),r)<;>rw [hw] at hc<;>cases hc
     have e6:lxR ((t,((k:Int),(ln,(w,u1)))),r)=(bytesL t).drop k:=rfl
     have hq:=ltL_le ((bytesL t).drop k)
     rw [List.length_drop] at hq
     have hp:1<=ltL ((bytesL t).drop k):=by
      rw [List.drop_eq_getElem_cons hkl]
      unfold ltL
      rw [hlet,cond_true]
      omega
     rw [cond_false,e6]
     refine ⟨⟨rfl,rfl, ?_, ?_,h3, ?_⟩,.inr (.inr ?_)⟩
     ·show (k:Int)<=(k:Int)+(ltL ((bytesL t).drop k):Int);omega
     ·show (k:Int)+(ltL ((bytesL t).drop k):Int)<=(t.size:Int);omega
     ·show ln<=(k:Int)+(ltL ((bytesL t).drop k):Int)+1;omega
     ·show (k:Int)+1<=(k:Int)+(ltL ((bytesL t).drop k):Int);omega
 ·have e1:ige (k:Int) (slen t)=true:=decide_eq_true (by simp only [slen];omega)
  rw [e1]
  exact ⟨⟨rfl,rfl,Int.le_refl _,h2,h3,h4⟩,.inr (.inl rfl)⟩
theorem adv_nx {x:ParserXX}(h:lxOk2 x=true):Adv x (nxD x)/\((nxF x).1=63∨(nxF x).1=0∨x.1.2.1+1<=(nxD x).1.2.1):=by
 obtain ⟨h1,h2,h3,h4,h5⟩:=cP_of h
 have ha:=adv_sk h
 unfold nxD nxF nxP
 cases (skL (lxR x) false (lxW x)).1 with
 |true=>exact ⟨ha,.inl rfl⟩
 |false=>
  rw [cond_false]
  generalize lxSk x (skL (lxR x) false (lxW x))=y at ha ⊢
  obtain ⟨b1,b2⟩:=adv_q (y:=y) (Int.le_trans h1 ha.le) ha.size ha.line0 ha.line
  refine ⟨⟨b1.text.trans ha.text,b1.rest.trans ha.rest,Int.le_trans ha.le b1.le,b1.size,b1.line0,b1.line⟩, ?_⟩
  rcases b2 with b2|b2|b2
  ·exact .inl b2
  ·exact .inr (.inl b2)
  ·exact .inr (.inr (by have:=ha.le;omega))
end
end Go.Proofs.YtkkoedniahnneaaDoor.K
namespace Go.Proofs.YtkkoedniahnneaaDoor.K
open Go.RowKit
noncomputable section
set_option linter.unusedSectionVars false
def rmX (x:ParserXX):Nat:=((x.1.1.size:Int)-x.1.2.1).toNat
structure Tk (x y:ParserXX):Prop where
 ok:lxOk2 y=true
 text:y.1.1=x.1.1
 rest:y.2.2=x.2.2
 rm:rmX y<=rmX x
 adv:y.2.1.1=119∨y.2.1.1=59∨y.2.1.1=123∨y.2.1.1=125->rmX y+1<=rmX x
theorem tk_ok {x:ParserXX}(h:lxOk2 x=true):Tk x (tkD x):=by
 obtain ⟨h1,h2,h3,h4,h5⟩:=cP_of h
 obtain ⟨a,b⟩:=adv_nx h
 have e1:(tkD x).1=(nxD x).1:=rfl
 have e2:(tkD x).2.1=nxF x:=rfl
 have e3:(tkD x).2.2=(nxD x).2.2:=rfl
 have hz:(tkD x).1.1.size=x.1.1.size:=by rw [e1,a.text]
 have hl:=a.le
 have hs:=a.size
 have ha0:=a.line0
 have ha1:=a.line
 rw [←e1] at hl hs ha0 ha1
 refine ⟨cP_in ⟨by omega,hs,by omega,ha0,ha1⟩,by rw [e1,a.text],by rw [e3,a.rest], ?_,fun hh=> ?_⟩
 ·unfold rmX
  omega
 ·have:x.1.2.1+1<=(tkD x).1.2.1:=by
   rcases b with b|b|b
   ·rw [e2,b] at hh
    omega
   ·rw [e2,b] at hh
    omega
   ·exact b
  unfold rmX
  omega
def wsG:Nat->List ByteArray->ParserXX->List ByteArray×ParserXX
 |0,ws,x=>(ws,x)
 |m+1,ws,x=>bif ieq x.2.1.1 119 then wsG m (ws++[x.2.1.2.1]) (tkD x) else (ws,x)
theorem wsG_not {m:Nat}{ws:List ByteArray}{x:ParserXX}(h:ieq x.2.1.1 119=false):wsG m ws x=(ws,x):=by
 cases m with
 |zero=>rfl
 |succ m=>
  unfold wsG
  rw [h]
  rfl
theorem wsG_st: ∀ (m:Nat) (ws:List ByteArray) (x:ParserXX),lxOk2 x=true->rmX x+1<=m->wsG (m+1) ws x=wsG m ws x
 |0,_,_,_,h=>by omega
 |m+1,ws,x,hx,h=>by
  cases hq:ieq x.2.1.1 119 with
  |false=>rw [wsG_not hq,wsG_not hq]
  |true=>
   have e1:wsG (m+1+1) ws x=wsG (m+1) (ws++[x.2.1.2.1]) (tkD x):=by
    show (bif ieq x.2.1.1 119 then wsG (m+1) (ws++[x.2.1.2.1]) (tkD x) else (ws,x))=_
    rw [hq]
    rfl
   have e2:wsG (m+1) ws x=wsG m (ws++[x.2.1.2.1]) (tkD x):=by
    show (bif ieq x.2.1.1 119 then wsG m (ws++[x.2.1.2.1]) (tkD x) else (ws,x))=_
    rw [hq]
    rfl
   rw [e1,e2]
   cases hn:ieq (tkD x).2.1.1 119 with
   |false=>rw [wsG_not hn,wsG_not hn]
   |true=>
    have ht:=tk_ok hx
    have:=ht.adv (.inl (eq_of_beq hn))
    exact wsG_st m _ _ ht.ok (by omega)
theorem wsG_up {x:ParserXX}(hx:lxOk2 x=true)(ws:List ByteArray): ∀ k m:Nat,rmX x+1<=m->wsG (m+k) ws x=wsG m ws x
 |0,_,_=>rfl
 |k+1,m,h=>(wsG_st (m+k) ws x hx (by omega)).trans (wsG_up hx ws k m h)
def wsX (ws:List ByteArray)(x:ParserXX):List ByteArray×ParserXX:=wsG (rmX x+1) ws x
theorem wsX_not {ws:List ByteArray}{x:ParserXX}(h:ieq x.2.1.1 119=false):wsX ws x=(ws,x):=wsG_not h
theorem wsX_word {ws:List ByteArray}{x:ParserXX}(hx:lxOk2 x=true)(h:ieq x.2.1.1 119=true):wsX ws x=wsX (ws++[x.2.1.2.1]) (tkD x):=by
 have ht:=tk_ok hx
 have e1:wsX ws x=wsG (rmX x) (ws++[x.2.1.2.1]) (tkD x):=by
  show (bif ieq x.2.1.1 119 then wsG (rmX x) (ws++[x.2.1.2.1]) (tkD x) else (ws,x))=_
  rw [h]
  rfl
 rw [e1]
 unfold wsX
 cases hn:ieq (tkD x).2.1.1 119 with
 |false=>rw [wsG_not hn,wsG_not hn]
 |true=>
  have:=ht.adv (.inl (eq_of_beq hn))
  obtain ⟨k,hk⟩: ∃ k,rmX x=(rmX (tkD x)+1)+k:=⟨rmX x-(rmX (tkD x)+1),by omega⟩
  rw [hk,wsG_up ht.ok _ k _ (Nat.le_refl _)]
theorem wsX_ok: ∀ (m:Nat) (ws:List ByteArray) (x:ParserXX),lxOk2 x=true->rmX x<=m->lxOk2 (wsX ws x).2=true/\(wsX ws x).2.1.1=x.1.1/\(wsX ws x).2.2.2=x.2.2/\rmX (wsX ws x).2<=rmX x/\ieq (wsX ws x).2.2.1.1 119=false/\(wsX ws x).1.length<=ws.length+rmX x+1
 |m,ws,x,hx,hm=>by
  cases hq:ieq x.2.1.1 119 with
  |false=>
   rw [wsX_not hq]
   exact ⟨hx,rfl,rfl,Nat.le_refl _,hq,by show ws.length<=_;omega⟩
  |true=>
   have ht:=tk_ok hx
   rw [wsX_word hx hq]
   cases hn:ieq (tkD x).2.1.1 119 with
   |false=>
    rw [wsX_not hn]
    exact ⟨ht.ok,ht.text,ht.rest,ht.rm,hn,by rw [List.length_append,List.length_singleton];omega⟩
   |true=>
    have h1:=ht.adv (.inl (eq_of_beq hn))
    cases m with
    |zero=>omega
    |succ m=>
     obtain ⟨g1,g2,g3,g4,g5,g6⟩:=wsX_ok m (ws++[x.2.1.2.1]) (tkD x) ht.ok (by omega)
     rw [List.length_append,List.length_singleton] at g6
     exact ⟨g1,g2.trans ht.text,g3.trans ht.rest,by omega,g5,by omega⟩
end
end Go.Proofs.YtkkoedniahnneaaDoor.K
namespace Go.Proofs.YtkkoedniahnneaaDoor.K
open Go.RowKit
noncomputable section
set_option linter.unusedSectionVars false
def okR (x:ParserXX):Bool:=lxOk2 x&&cP (1<=x.1.2.2.1/\1<=x.2.1.2.2.2.1)
theorem nx_line (x:ParserXX):(nxF x).2.2.2.1=(nxD x).1.2.2.1:=by
 unfold nxF nxD nxP
 cases (skL (lxR x) false (lxW x)).1 with
 |true=>rfl
 |false=>
  rw [cond_false]
  generalize lxSk x (skL (lxR x) false (lxW x))=y
  unfold nxP.nxQ
  cases ige y.1.2.1 (slen y.1.1) with
  |true=>rfl
  |false=>
   rw [cond_false]
   cases ieq (sgt y.1.1 y.1.2.1) 59||(ieq (sgt y.1.1 y.1.2.1) 123||ieq (sgt y.1.1 y.1.2.1) 125) with
   |true=>rfl
   |false=>
    rw [cond_false]
    cases lxW y||(ine (sgt y.1.1 y.1.2.1) 34&& !ltrB (sgt y.1.1 y.1.2.1)) with
    |true=>rfl
    |false=>
     rw [cond_false]
     cases ieq (sgt y.1.1 y.1.2.1) 34 with
     |false=>rfl
     |true=>
      rw [cond_true]
      unfold qdF qdD lxTo
      cases (qd ((bytesL ((y.1.1,(y.1.2.1,(lxL y,(true,())))),y.2).1.1).drop (((y.1.1,(y.1.2.1,(lxL y,(true,())))),y.2).1.2.1+1).toNat)).1<;>rfl
theorem nx_up {x:ParserXX}:x.1.2.2.1<=(nxD x).1.2.2.1:=by
 have hs:x.1.2.2.1<=(lxSk x (skL (lxR x) false (lxW x))).1.2.2.1:=by
  show x.1.2.2.1<=x.1.2.2.1+((skL (lxR x) false (lxW x)).2.2.1:Int)
  omega
 unfold nxD nxP
 cases (skL (lxR x) false (lxW x)).1 with
 |true=>exact hs
 |false=>
  rw [cond_false]
  generalize lxSk x (skL (lxR x) false (lxW x))=y at hs ⊢
  unfold nxP.nxQ
  cases ige y.1.2.1 (slen y.1.1) with
  |true=>exact hs
  |false=>
   rw [cond_false]
   cases ieq (sgt y.1.1 y.1.2.1) 59||(ieq (sgt y.1.1 y.1.2.1) 123||ieq (sgt y.1.1 y.1.2.1) 125) with
   |true=>exact hs
   |false=>
    rw [cond_false]
    cases lxW y||(ine (sgt y.1.1 y.1.2.1) 34&& !ltrB (sgt y.1.1 y.1.2.1)) with
    |true=>exact hs
    |false=>
     rw [cond_false]
     cases ieq (sgt y.1.1 y.1.2.1) 34 with
     |false=>exact hs
     |true=>exact hs
theorem okR_tk {x:ParserXX}(h:okR x=true):okR (tkD x)=true:=by
 obtain ⟨h1,h2⟩:=Bool.and_eq_true_iff.1 h
 obtain ⟨h2,h3⟩:=cP_of h2
 have hu:=nx_up (x:=x)
 have hl:=nx_line x
 refine Bool.and_eq_true_iff.2 ⟨(tk_ok h1).ok,cP_in ⟨?_, ?_⟩⟩
 ·show 1<=(nxD x).1.2.2.1
  omega
 ·show 1<=(nxF x).2.2.2.1
  omega
theorem okR_lx {x:ParserXX}(h:okR x=true):lxOk2 x=true:=(Bool.and_eq_true_iff.1 h).1
theorem okR_ws: ∀ (m:Nat) (ws:List ByteArray) (x:ParserXX),okR x=true->rmX x<=m->okR (wsX ws x).2=true
 |m,ws,x,hx,hm=>by
  have hx1:=okR_lx hx
  cases hq:ieq x.2.1.1 119 with
  |false=>
   rw [wsX_not hq]
   exact hx
  |true=>
   have ht:=tk_ok hx1
   rw [wsX_word hx1 hq]
   cases hn:ieq (tkD x).2.1.1 119 with
   |false=>
    rw [wsX_not hn]
    exact okR_tk hx
   |true=>
    have h1:=ht.adv (.inl (eq_of_beq hn))
    cases m with
    |zero=>omega
    |succ m=>exact okR_ws m _ (tkD x) (okR_tk hx) (by omega)
theorem fl_err {x:ParserXX}(h:okR x=true):ine (flD x).2.2.1 0=true:=by
 obtain ⟨h1,h2⟩:=Bool.and_eq_true_iff.1 h
 obtain ⟨h2,h3⟩:=cP_of h2
 have he:=endN_le x.1.1
 unfold flD
 cases hq:ieq x.2.2.1 0 with
 |false=>
  rw [cond_false]
  show (!ieq x.2.2.1 0)=true
  rw [hq]
  rfl
 |true=>
  rw [cond_true]
  show (bif ieq x.2.1.1 0 then endN x.1.1+1 else x.2.1.2.2.2.1) != 0
  cases ieq x.2.1.1 0 with
  |true=>rw [cond_true,bne_iff_ne];omega
  |false=>rw [cond_false,bne_iff_ne];omega
def dS (b:Bool)(x:ParserXX):ParserXX:=(x.1,(x.2.1,(x.2.2.1,(x.2.2.2.1||b,()))))
theorem okR_dS {b:Bool}{x:ParserXX}(h:okR x=true):okR (dS b x)=true:=h
abbrev RecT:Type:=Int->List BlkT->ParserXX->List BlkT×ParserXX
def stC (rec:RecT)(lv:Int)(acc:List BlkT)(ln:Int)(ws:List ByteArray)(i:List BlkT×ParserXX):List BlkT×ParserXX:=
 bif ine i.2.2.2.1 0 then (acc,i.2) else bif ine i.2.2.1.1 125 then (acc,flD i.2) else rec lv (acc++[(ws,(true,(i.1.map Blk.of,(ln,()))))]) (tkD i.2)
def stB (rec:RecT)(lv:Int)(acc:List BlkT)(ln:Int)(ws:List ByteArray)(y:ParserXX):List BlkT×ParserXX:=
 bif ieq y.2.1.1 59 then rec lv (acc++[(ws,(false,([],(ln,()))))]) (tkD y) else
 bif ieq y.2.1.1 123 then stC rec lv acc ln ws (rec (lv+1) [] (tkD y)) else (acc,flD y)
def stG:Nat->Int->List BlkT->ParserXX->List BlkT×ParserXX
 |0,_,acc,x=>(acc,x)
 |N+1,lv,acc,x=>
  bif !(ieq x.2.2.1 0&&(ine x.2.1.1 0&&ine x.2.1.1 125)) then (acc,x) else
  bif ine x.2.1.1 119|| !x.2.1.2.2.1 then (acc,flD x) else
  stB (fun lv acc x=>stG N lv acc x) lv acc x.2.1.2.2.2.1 (wsX [] (dS (igt lv 16) x)).1 (dS (igt (llen (wsX [] (dS (igt lv 16) x)).1) 64) (wsX [] (dS (igt lv 16) x)).2)
end
end Go.Proofs.YtkkoedniahnneaaDoor.K
namespace Go.Proofs.YtkkoedniahnneaaDoor.K
open Go.RowKit
noncomputable section
set_option linter.unusedSectionVars false
theorem wsX_adv: ∀ (m:Nat) (ws:List ByteArray) (x:ParserXX),lxOk2 x=true->ieq x.2.1.1 119=true->rmX x<=m->(wsX ws x).2.2.1.1=59∨(wsX ws x).2.2.1.1=123->rmX (wsX ws x).2+1<=rmX x
 |m,ws,x,hx,hq,hm,hs=>by
  have ht:=tk_ok hx
  rw [wsX_word hx hq] at hs ⊢
  cases hn:ieq (tkD x).2.1.1 119 with
  |false=>
   rw [wsX_not hn] at hs ⊢
   exact ht.adv (by rcases hs with h|h;exact .inr (.inl h);exact .inr (.inr (.inl h)))
  |true=>
   have h1:=ht.adv (.inl (eq_of_beq hn))
   cases m with
   |zero=>omega
   |succ m=>
    have:=wsX_adv m _ (tkD x) ht.ok hn (by omega) hs
    omega
theorem okR_fl {x:ParserXX}(h:okR x=true):okR (flD x)=true:=by
 unfold flD
 cases ieq x.2.2.1 0 with
 |false=>exact h
 |true=>exact h
theorem rm_fl (x:ParserXX):rmX (flD x)=rmX x:=by
 unfold flD
 cases ieq x.2.2.1 0<;>rfl
def hdX (lv:Int)(x:ParserXX):ParserXX:=dS (igt (llen (wsX [] (dS (igt lv 16) x)).1) 64) (wsX [] (dS (igt lv 16) x)).2
theorem hd_ok {lv:Int}{x:ParserXX}(h:okR x=true):okR (hdX lv x)=true/\rmX (hdX lv x)<=rmX x:=by
 have h1:okR (dS (igt lv 16) x)=true:=h
 exact ⟨okR_ws _ [] _ h1 (Nat.le_refl _),(wsX_ok _ [] (dS (igt lv 16) x) (okR_lx h1) (Nat.le_refl _)).2.2.2.1⟩
theorem hd_adv {lv:Int}{x:ParserXX}(h:okR x=true)(hq:ieq x.2.1.1 119=true)(hs:(hdX lv x).2.1.1=59∨(hdX lv x).2.1.1=123):rmX (hdX lv x)+1<=rmX x:=by
 have h1:okR (dS (igt lv 16) x)=true:=h
 exact wsX_adv _ [] (dS (igt lv 16) x) (okR_lx h1) hq (Nat.le_refl _) hs
theorem rm_tk {x:ParserXX}(h:okR x=true):rmX (tkD x)<=rmX x:=(tk_ok (okR_lx h)).rm
theorem stG_eq (N:Nat)(lv:Int)(acc:List BlkT)(x:ParserXX):stG (N+1) lv acc x=bif !(ieq x.2.2.1 0&&(ine x.2.1.1 0&&ine x.2.1.1 125)) then (acc,x) else
  bif ine x.2.1.1 119|| !x.2.1.2.2.1 then (acc,flD x) else stB (stG N) lv acc x.2.1.2.2.2.1 (wsX [] (dS (igt lv 16) x)).1 (hdX lv x):=rfl
theorem stG_ok: ∀ (N:Nat) (lv:Int) (acc:List BlkT) (x:ParserXX),okR x=true->okR (stG N lv acc x).2=true/\rmX (stG N lv acc x).2<=rmX x
 |0,_,_,x,h=>⟨h,Nat.le_refl _⟩
 |N+1,lv,acc,x,h=>by
  rw [stG_eq]
  cases !(ieq x.2.2.1 0&&(ine x.2.1.1 0&&ine x.2.1.1 125)) with
  |true=>exact ⟨h,Nat.le_refl _⟩
  |false=>
   rw [cond_false]
   cases ine x.2.1.1 119|| !x.2.1.2.2.1 with
   |true=>exact ⟨okR_fl h,by rw [cond_true,rm_fl];exact Nat.le_refl _⟩
   |false=>
    rw [cond_false]
    obtain ⟨h1,h2⟩:=hd_ok (lv:=lv) h
    generalize (wsX [] (dS (igt lv 16) x)).1=ws
    generalize hdX lv x=y at h1 h2 ⊢
    have k1:=rm_tk h1
    unfold stB
    cases ieq y.2.1.1 59 with
    |true=>
     rw [cond_true]
     obtain ⟨g1,g2⟩:=stG_ok N lv (acc++[(ws,(false,([],(x.2.1.2.2.2.1,()))))]) (tkD y) (okR_tk h1)
     exact ⟨g1,by omega⟩
    |false=>
     rw [cond_false]
     cases ieq y.2.1.1 123 with
     |false=>exact ⟨okR_fl h1,by rw [cond_false,rm_fl];exact h2⟩
     |true=>
      rw [cond_true]
      obtain ⟨g1,g2⟩:=stG_ok N (lv+1) [] (tkD y) (okR_tk h1)
      generalize stG N (lv+1) [] (tkD y)=i at g1 g2 ⊢
      unfold stC
      cases ine i.2.2.2.1 0 with
      |true=>exact ⟨g1,by rw [cond_true];show rmX i.2<=_;omega⟩
      |false=>
       rw [cond_false]
       cases ine i.2.2.1.1 125 with
       |true=>exact ⟨okR_fl g1,by rw [cond_true];show rmX (flD i.2)<=_;rw [rm_fl];omega⟩
       |false=>
        rw [cond_false]
        obtain ⟨f1,f2⟩:=stG_ok N lv (acc++[(ws,(true,(i.1.map Blk.of,(x.2.1.2.2.2.1,()))))]) (tkD i.2) (okR_tk g1)
        have:=rm_tk g1
        exact ⟨f1,by omega⟩
theorem stG_st: ∀ (N:Nat) (lv:Int) (acc:List BlkT) (x:ParserXX),okR x=true->rmX x+1<=N->stG (N+1) lv acc x=stG N lv acc x
 |0,_,_,_,_,h=>by omega
 |N+1,lv,acc,x,h,hN=>by
  rw [stG_eq,stG_eq]
  cases !(ieq x.2.2.1 0&&(ine x.2.1.1 0&&ine x.2.1.1 125)) with
  |true=>rfl
  |false=>
   rw [cond_false,cond_false]
   cases hc:ine x.2.1.1 119|| !x.2.1.2.2.1 with
   |true=>rfl
   |false=>
    rw [cond_false,cond_false]
    have hq:ieq x.2.1.1 119=true:=by
     cases hz:ieq x.2.1.1 119 with
     |true=>rfl
     |false=>
      rw [show ine x.2.1.1 119= !ieq x.2.1.1 119 from rfl,hz] at hc
      cases hc
    obtain ⟨h1,h2⟩:=hd_ok (lv:=lv) h
    have ha:=hd_adv (lv:=lv) h hq
    generalize (wsX [] (dS (igt lv 16) x)).1=ws
    generalize hdX lv x=y at h1 h2 ha ⊢
    have k1:=rm_tk h1
    unfold stB
    cases h59:ieq y.2.1.1 59 with
    |true=>
     rw [cond_true,cond_true]
     have:=ha (.inl (eq_of_beq h59))
     exact stG_st N _ _ _ (okR_tk h1) (by omega)
    |false=>
     rw [cond_false,cond_false]
     cases h123:ieq y.2.1.1 123 with
     |false=>rfl
     |true=>
      rw [cond_true,cond_true]
      have:=ha (.inr (eq_of_beq h123))
      rw [stG_st N (lv+1) [] (tkD y) (okR_tk h1) (by omega)]
      obtain ⟨g1,g2⟩:=stG_ok N (lv+1) [] (tkD y) (okR_tk h1)
      generalize stG N (lv+1) [] (tkD y)=i at g1 g2 ⊢
      unfold stC
      cases ine i.2.2.2.1 0 with
      |true=>rfl
      |false=>
       rw [cond_false,cond_false]
       cases ine i.2.2.1.1 125 with
       |true=>rfl
       |false=>
        rw [cond_false,cond_false]
        have:=rm_tk g1
        exact stG_st N _ _ _ (okR_tk g1) (by omega)
theorem stG_up {x:ParserXX}(h:okR x=true)(lv:Int)(acc:List BlkT): ∀ k N:Nat,rmX x+1<=N->stG (N+k) lv acc x=stG N lv acc x
 |0,_,_=>rfl
 |k+1,N,hN=>(stG_st (N+k) lv acc x h (by omega)).trans (stG_up h lv acc k N hN)
def stX (lv:Int)(acc:List BlkT)(x:ParserXX):List BlkT×ParserXX:=stG (rmX x+1) lv acc x
theorem stX_is {x:ParserXX}(h:okR x=true){N:Nat}(hN:rmX x+1<=N)(lv:Int)(acc:List BlkT):stG N lv acc x=stX lv acc x:=by
 obtain ⟨k,rfl⟩: ∃ k,N=(rmX x+1)+k:=⟨N-(rmX x+1),by omega⟩
 exact stG_up h lv acc k _ (Nat.le_refl _)
end
end Go.Proofs.YtkkoedniahnneaaDoor.K
