/-
 The document's answers of 35.
-/
import Derived.Test.YtfehjdaielifiaaGreatP26
set_option linter.unusedSimpArgs false
set_option linter.unusedVariables false
namespace Go.Proofs.YtfehjdaielifiaaGreat.K
open Go.RowKit
noncomputable section
def validsF (us : List Keep) : Bool := us.all validF
def fg_f70_0 : Fg := ⟨[(5, some (.sl tyKeep)), (6, some tI), (7, some tI)], []⟩
def tb_f70_0 : TC := (.sq (.reg [(oP 8 (.bin false .lss (.t 7) (.t 6)))]) (.sq (.cd (.t 8) .sk (.fg ⟨[], []⟩ (.ex 0))) (.sq (.bk 1 (.sq (.reg [(oP 9 (.ix 2 (.t 5) (.t 7))), (oM 10 (.ld true 2 (.t 9))), (oM 4 (.new [(.v (.int .i64 0)), (.v (.int .i64 0))])), (.mk none none (.m (.st 2 (.t 4) (.t 10))))]) (.sq (.reg [(oM 11 (.ld true 2 (.t 4))), (oC 12 54 [(.t 11)]), (oP 13 (.nt (.t 12)))]) (.cd (.t 13) (.sq (.reg [(oP 2 (.mv (cB false)))]) (.fg ⟨[(2, some .bool)], []⟩ .rt)) .sk)))) (.reg [(oP 14 (.bin false .add (.t 7) (cI 1))), (oV 7 14)]))))
def tc_f70 : TC := (.sq (.reg [(oP 2 (.mv (cB false)))]) (.sq (.sq (.reg [(oV 5 0), (oP 6 (.len false (.t 5))), (oP 7 (.mv (cI 0)))]) (.bk 0 (.lp 0 fg_f70_0 tb_f70_0))) (.sq (.reg [(oP 2 (.mv (cB true)))]) .rt)))
def rv_f70 : List (RV × Option Ty) := [((.t 2), some .bool)]
abbrev sh_f70_0 : Sh := ⟨[(5, .ty (.sl tyKeep)), (6, .ty tI), (7, .ty tI)], []⟩
def st_f70_0 (x5 : (List Keep)) (x6 : Int) (x7 : Int) : VS := sh_f70_0.st (x5, x6, x7, ()) ()
abbrev sh_f70_0_ret : Sh := ⟨[(2, .ty .bool)], []⟩
def st_f70_0_ret (x2 : Bool) : VS := sh_f70_0_ret.st (x2, ()) ()
abbrev sh_f70_0_e0 : Sh := ⟨[], []⟩
def st_f70_0_e0  : VS := sh_f70_0_e0.st () ()
-- loop 0: (x5 : (List Keep)) (x6 : Int) (x7 : Int); out: ('ret',) (x2 : Bool); ('exit', 0)
def L_f70_0 : VS → Option (Bool × List (Bool × Exit × VS)) := mkL sh_f70_0 (fun x y => (rngOk x.1 x.2.1 x.2.2.1)) (fun x y => [((!((x.1.drop x.2.2.1.toNat).all validF)), .ret, st_f70_0_ret (false)), (true, .exit 0, st_f70_0_e0)])
def g_f70 : G := ⟨TYs, [], 15, EL [(54, sp_f54)], keeps, (Ls [L_f70_0]), IL [], RL []⟩
def b_f70_0 (x5 : (List Keep)) (x6 : Int) (x7 : Int) : Option (Exit × VS) :=
 br ((ilt x7 x6))
  (br (cIx x5 x7)
   (br ((!(validF (lgt tyKeep x5 (Int.toNat x7)))))
    (some (.ret, st_f70_0_ret false))
    (some (.normal, st_f70_0 x5 x6 (iadd .i64 x7 1))))
   (none))
  (some (.exit 0, st_f70_0_e0))
noncomputable def lp_f70_0 (x5 : (List Keep)) (x6 : Int) (x7 : Int) : Option (Exit × VS) := loopF (roundF g_f70 fg_f70_0 tb_f70_0) (st_f70_0 x5 x6 x7)
noncomputable def n_f70_0 (x5 : (List Keep)) (x6 : Int) (x7 : Int) : Option (Exit × VS) :=
 br ((ilt x7 x6))
  (br (cIx x5 x7)
   (br ((!(validF (lgt tyKeep x5 (Int.toNat x7)))))
    (some (.ret, st_f70_0_ret false))
    (lp_f70_0 x5 x6 (iadd .i64 x7 1)))
   (none))
  (some (.exit 0, st_f70_0_e0))
def la_f70_0 (x5 : (List Keep)) (x6 : Int) (x7 : Int) : Option (Exit × VS) := br (!((x5.drop x7.toNat).all validF)) (some (.ret, st_f70_0_ret (false))) <| some (.exit 0, st_f70_0_e0)
theorem be_f70_0 (x5 : (List Keep)) (x6 : Int) (x7 : Int) : roundF g_f70 fg_f70_0 tb_f70_0 (st_f70_0 x5 x6 x7) = b_f70_0 x5 x6 x7 := by kernel_rfl
theorem ln_f70_0 (x5 : (List Keep)) (x6 : Int) (x7 : Int) : lp_f70_0 x5 x6 x7 = n_f70_0 x5 x6 x7 := (loopF_nxt _ _).trans (by
 rw [be_f70_0]
 simp only [b_f70_0, n_f70_0, nxt_br, nxt_n, nxt_r, nxt_e, nxt_0]
 rfl)
def r_f70 (p0 : (List Keep)) : Option (V × List VO) :=
 br ((rngOk p0 (llen p0) (0 : Int)))
  (br ((!((p0.drop (0 : Int).toNat).all validF)))
   (some (.t .bool (false), []))
   (some (.t .bool true, [])))
  (none)
theorem e_f70 (p0 : (List Keep)) : runF g_f70 tc_f70 rv_f70 false [.t (.sl tyKeep) p0] [] = r_f70 p0 := by kernel_rfl
theorem ok_f70 : Option.map (trC Tryz.prog) Tryz.f70.body = some tc_f70.er := by kernel_rfl
theorem rok_f70 : trVs Tryz.prog Tryz.f70.results.toList = some (rv_f70.map Prod.fst) := by kernel_rfl
theorem en_f70 : Entered Tryz.prog 70 := .inr ⟨by decide, _, Tryz.func70, by kernel_rfl, by kernel_rfl⟩
theorem gk_f70 : GOk Tryz.prog g_f70 := gok_of _ (by
 intro p hp
 simp only [List.mem_cons, List.not_mem_nil, or_false] at hp
 rcases hp with rfl
 ·exact ⟨en_f54, ms_f54⟩)
theorem l_f70_0 (x5 : (List Keep)) (x6 : Int) (x7 : Int) (h : (rngOk x5 x6 x7) = true) : lp_f70_0 x5 x6 x7 = la_f70_0 x5 x6 x7 := by
 obtain ⟨rfl, h3, k, rfl, hk⟩ := rng_k h
 clear h
 refine range_ind x5 (fun k => lp_f70_0 x5 (x5.length : Int) (k : Int) = la_f70_0 x5 (x5.length : Int) (k : Int)) ?_ ?_ k hk
 ·rw [ln_f70_0]
  simp [n_f70_0, la_f70_0, ilt_nat, br_false]
 ·intro k hk ih
  rw [ln_f70_0]
  simp only [n_f70_0, ilt_nat, cIx_nat, hk, decide_true, br_true, Int.toNat_natCast, add1 (show k < 4611686018427387904 by omega), lgt_get (y := tyKeep) hk, ih]
  simp only [la_f70_0, Int.toNat_natCast, List.drop_eq_getElem_cons hk, List.all_cons]
  cases validF x5[k] <;> rfl
theorem lo_f70_0 : ∀ S l p, g_f70.L 0 (fgt fg_f70_0 S) = some (true, l) → pickA l = some p → loopF (roundF g_f70 fg_f70_0 tb_f70_0) S = some p :=
 lok_of (s := sh_f70_0) ⟨by decide, by decide⟩ (by kernel_rfl) fun x y hok p hp => by
 simp only [pickA_br, pickA_one] at hp
 exact (l_f70_0 x.1 x.2.1 x.2.2.1 (by simpa using hok)).trans hp
theorem lk_f70 : tc_f70.lok g_f70 := by
 repeat (first | exact trivial | exact lo_f70_0 | refine ⟨?_, ?_⟩)
theorem s_f70 (l : List Keep) (h : lenOk5 l = true) : r_f70 l = some (.t .bool (validsF l), []) := by
 simp only [lenOk5, decide_eq_true_eq] at h
 simp only [r_f70, rng_0 h, br_true, Int.toNat_zero, List.drop_zero, validsF]
 cases l.all validF <;> rfl
def sp_f70 : Ent := spec (.pr (.sl tyKeep) .nil) (fun x => (lenOk5 x.1)) (fun x => (.t .bool (validsF x.1)))
theorem ms_f70 : Meets Tryz.prog 70 (strip sp_f70) := by
 obtain ⟨c, hc, hi⟩ := Option.map_eq_some_iff.1 ok_f70
 exact meets_spec (R := runF g_f70 tc_f70 rv_f70 false) (meets_of (by decide) Tryz.func70 hc hi Tryz.ntmps70 rok_f70 gk_f70 lk_f70 mixed) fun x hok => (e_f70 x.1).trans (s_f70 x.1 hok)
def fallU (y : Policy) (u : Keep) (p : Int) : Int := if (FallsF y u p).2.1 then (FallsF y u p).1 else 40001
def tc_f74 : TC := (.sq (.reg [(oM 3 (.box (.t 0))), (oM 4 (.box (.t 1))), (oP 6 (.mv (cI 0)))]) (.sq (.reg [(oM 11 (.ld true 2 (.t 3))), (oM 12 (.ld true 2 (.t 4))), (oV 13 2), (oC 14 39 [(.t 11), (.t 12), (.t 13)]), (oV 10 14), (oP 15 (.ext 0 (.t 10))), (oP 16 (.ext 1 (.t 10))), (oP 17 (.ext 2 (.t 10))), (oV 7 15), (oV 8 16), (oV 9 17)]) (.sq (.sq (.reg [(oV 18 8), (oP 19 (.nt (.t 18)))]) (.cd (.t 19) (.sq (.reg [(oP 6 (.mv (cI 40001)))]) .rt) .sk)) (.sq (.reg [(oV 20 7), (oV 6 20)]) .rt))))
def rv_f74 : List (RV × Option Ty) := [((.t 6), some tI)]
def g_f74 : G := ⟨TYs, [], 21, EL [(39, sp_f39)], keeps, (fun _ _ => none), IL [], RL []⟩
def r_f74 (p0 : Policy) (p1 : Keep) (p2 : Int) : Option (V × List VO) :=
 br ((polLen3 p0 p1 p2))
  (br ((!(((FallsF p0 p1 p2).2).1)))
   (some (.t tI 40001, []))
   (some (.t tI ((FallsF p0 p1 p2).1), [])))
  (none)
theorem e_f74 (p0 : Policy) (p1 : Keep) (p2 : Int) : runF g_f74 tc_f74 rv_f74 false [.t tyPolicy p0, .t tyKeep p1, .t tI p2] [] = r_f74 p0 p1 p2 := by kernel_rfl
theorem ok_f74 : Option.map (trC Tryz.prog) Tryz.f74.body = some tc_f74.er := by kernel_rfl
theorem rok_f74 : trVs Tryz.prog Tryz.f74.results.toList = some (rv_f74.map Prod.fst) := by kernel_rfl
theorem en_f74 : Entered Tryz.prog 74 := .inr ⟨by decide, _, Tryz.func74, by kernel_rfl, by kernel_rfl⟩
theorem gk_f74 : GOk Tryz.prog g_f74 := gok_of _ (by
 intro p hp
 simp only [List.mem_cons, List.not_mem_nil, or_false] at hp
 rcases hp with rfl
 ·exact ⟨en_f39, ms_f39⟩)
theorem lk_f74 : tc_f74.lok g_f74 := by repeat (first | exact trivial | refine ⟨?_, ?_⟩)
theorem s_f74 (y : Policy) (u : Keep) (p : Int) (h : polLen3 y u p = true) : r_f74 y u p = some (.t tI (fallU y u p), []) := by
 simp only [r_f74, h, br_true]
 unfold fallU
 cases (FallsF y u p).2.1 <;> rfl
def sp_f74 : Ent := spec (.pr tyPolicy (.pr tyKeep (.pr tI .nil))) (fun x => (polLen3 x.1 x.2.1 x.2.2.1)) (fun x => (.t tI (fallU x.1 x.2.1 x.2.2.1)))
theorem ms_f74 : Meets Tryz.prog 74 (strip sp_f74) := by
 obtain ⟨c, hc, hi⟩ := Option.map_eq_some_iff.1 ok_f74
 exact meets_spec (R := runF g_f74 tc_f74 rv_f74 false) (meets_of (by decide) Tryz.func74 hc hi Tryz.ntmps74 rok_f74 gk_f74 lk_f74 mixed) fun x hok => (e_f74 x.1 x.2.1 x.2.2.1).trans (s_f74 x.1 x.2.1 x.2.2.1 hok)
theorem fallU_fine {y : Policy} {u : Keep} {p : Int} (hp : polOk y = true) (hv : validF u = true) (h1 : 1 ≤ p) (h2 : p ≤ 4) : fallU y u p = flU y p u := by
 unfold fallU
 rw [falls_fine hp hv h1 h2]
 rfl
def innS (u : Keep) (fl : Int) (o : Option Int) (s : Link × (Bool × Int)) : Link × (Bool × Int) := match o with
 | none => s
 | some d => bif (!s.2.1 || igt fl s.2.2 || (ieq fl s.2.2 && ilt d s.1.2.1)) then ((u, (d, ())), (true, fl)) else s
theorem inn_step {y : Policy} {p a b : Int} {u : Keep} (hp : polOk y = true) (s : Link × (Bool × Int)) : innS u (flU y p u) (rFirst (spansF y u p) a b) s = bestStep y p a b s u := by
 rw [rFirst_eq a b (spans_ws hp)]
 unfold bestStep
 cases (firstF (spansF y u p) a b).2 <;> rfl
def fg_f71_0 : Fg := ⟨[(2, some tI), (3, some tI), (4, some tI), (5, none), (10, none), (12, none), (13, some .bool), (14, some tI), (16, none), (19, some tI), (23, some (.sl tyKeep)), (24, some tI), (25, some tI), (40, some (.sl tyKeep)), (41, some tI), (42, some tI)], [(5, some tyPolicy), (10, some tyLink), (12, some tyLink), (16, some tyKeep)]⟩
def tb_f71_0 : TC := (.sq (.reg [(oP 43 (.bin false .lss (.t 42) (.t 41)))]) (.sq (.cd (.t 43) .sk (.fg ⟨[(2, some tI), (3, some tI), (4, some tI), (5, none), (10, none), (12, none), (13, some .bool), (14, some tI), (23, some (.sl tyKeep)), (24, some tI), (25, some tI)], [(5, some tyPolicy), (10, some tyLink), (12, some tyLink)]⟩ (.ex 2))) (.sq (.bk 3 (.sq (.reg [(oP 44 (.ix 2 (.t 40) (.t 42))), (oM 45 (.ld true 2 (.t 44))), (oM 21 (.new [(.v (.int .i64 0)), (.v (.int .i64 0))])), (.mk none none (.m (.st 2 (.t 21) (.t 45))))]) (.sq (.reg [(oV 46 3), (oP 47 (.fa 0 (.t 21))), (oL 48 47), (oP 49 (.mx (.t 46) (.t 48))), (oV 22 49)]) (.sq (.sq (.reg [(oV 50 22), (oV 51 4), (oP 52 (.bin false .gtr (.t 50) (.t 51))), (oV 53 52), (oQ 54 53 false (.mv (.t 22))), (oQ 55 53 false (.fa 1 (.t 21))), (oG 56 53 false (.m (.ld false 1 (.t 55)))), (oQ 57 53 false (.bin false .geq (.t 54) (.t 56))), (oP 58 (.pick (.t 53) (cB true) (.t 57)))]) (.cd (.t 58) (.fg ⟨[(2, some tI), (3, some tI), (4, some tI), (5, none), (10, none), (12, none), (13, some .bool), (14, some tI), (16, none), (19, some tI), (23, some (.sl tyKeep)), (24, some tI), (25, some tI), (40, some (.sl tyKeep)), (41, some tI), (42, some tI)], [(5, some tyPolicy), (10, some tyLink), (12, some tyLink), (16, some tyKeep)]⟩ (.ex 3)) .sk)) (.sq (.sq (.reg [(oV 59 13), (oP 60 (.nt (.t 59))), (oV 61 60), (oQ 62 61 false (.mv (.t 19))), (oQ 63 61 false (.mv (.t 14))), (oQ 64 61 false (.bin false .gtr (.t 62) (.t 63))), (oP 65 (.pick (.t 61) (cB true) (.t 64))), (oV 66 65), (oQ 67 66 false (.mv (.t 19))), (oQ 68 66 false (.mv (.t 14))), (oQ 69 66 false (.bin false .eql (.t 67) (.t 68))), (oQ 70 66 false (.mv (.t 69))), (oQ 71 70 true (.mv (.t 22))), (oQ 72 70 true (.fa 2 (.t 12))), (oG 73 70 true (.m (.ld false 1 (.t 72)))), (oQ 74 70 true (.bin false .lss (.t 71) (.t 73))), (oQ 75 66 false (.pick (.t 70) (.t 74) (cB false))), (oP 76 (.pick (.t 66) (cB true) (.t 75)))]) (.cd (.t 76) (.reg [(oM 77 (.ld true 2 (.t 16))), (oV 78 22), (oP 79 (.bd [(.v (.int .i64 0)), (.v (.int .i64 0)), (.v (.int .i64 0))] [(0, 2, (.t 77)), (2, 1, (.t 78))])), (oV 80 19), (.mk none none (.m (.st 3 (.t 12) (.t 79)))), (oP 13 (.mv (cB true))), (oV 14 80)]) .sk)) (.fg ⟨[(2, some tI), (3, some tI), (4, some tI), (5, none), (10, none), (12, none), (13, some .bool), (14, some tI), (23, some (.sl tyKeep)), (24, some tI), (25, some tI)], [(5, some tyPolicy), (10, some tyLink), (12, some tyLink)]⟩ (.ex 2))))))) (.reg [(oP 81 (.bin false .add (.t 42) (cI 1))), (oV 42 81)]))))
def fg_f71_1 : Fg := ⟨[(2, some tI), (3, some tI), (4, some tI), (5, none), (10, none), (12, none), (13, some .bool), (14, some tI), (23, some (.sl tyKeep)), (24, some tI), (25, some tI)], [(5, some tyPolicy), (10, some tyLink), (12, some tyLink)]⟩
def tb_f71_1 : TC := (.sq (.reg [(oP 26 (.bin false .lss (.t 25) (.t 24)))]) (.sq (.cd (.t 26) .sk (.fg ⟨[(10, none), (12, none), (13, some .bool)], [(10, some tyLink), (12, some tyLink)]⟩ (.ex 0))) (.sq (.bk 1 (.sq (.reg [(oP 27 (.ix 2 (.t 23) (.t 25))), (oM 28 (.ld true 2 (.t 27))), (oM 16 (.new [(.v (.int .i64 0)), (.v (.int .i64 0))])), (.mk none none (.m (.st 2 (.t 16) (.t 28))))]) (.sq (.reg [(oM 30 (.ld true 2 (.t 5))), (oM 31 (.ld true 2 (.t 16))), (oV 32 2), (oC 33 68 [(.t 30), (.t 31), (.t 32)]), (oV 29 33), (oP 34 (.ext 0 (.t 29))), (oP 35 (.ext 1 (.t 29))), (oV 17 34), (oV 18 35)]) (.sq (.reg [(oM 36 (.ld true 2 (.t 5))), (oM 37 (.ld true 2 (.t 16))), (oV 38 2), (oC 39 74 [(.t 36), (.t 37), (.t 38)]), (oV 19 39)]) (.sq (.reg [(oV 40 17), (oP 41 (.len false (.t 40))), (oP 42 (.mv (cI 0)))]) (.bk 2 (.lp 0 fg_f71_0 tb_f71_0))))))) (.reg [(oP 82 (.bin false .add (.t 25) (cI 1))), (oV 25 82)]))))
def tc_f71 : TC := (.sq (.reg [(oM 5 (.box (.t 0))), (oM 10 (.new [(.v (.int .i64 0)), (.v (.int .i64 0)), (.v (.int .i64 0))])), (oP 11 (.mv (cB false)))]) (.sq (.reg [(oM 12 (.new [(.v (.int .i64 0)), (.v (.int .i64 0)), (.v (.int .i64 0))]))]) (.sq (.reg [(oP 13 (.mv (cB false))), (oP 14 (.mv (cI 0)))]) (.sq (.sq (.reg [(oV 23 1), (oP 24 (.len false (.t 23))), (oP 25 (.mv (cI 0)))]) (.bk 0 (.lp 1 fg_f71_1 tb_f71_1))) (.sq (.reg [(oM 83 (.ld true 3 (.t 12))), (oV 84 13), (.mk none none (.m (.st 3 (.t 10) (.t 83)))), (oV 11 84)]) .rt)))))
def rv_f71 : List (RV × Option Ty) := [((.c 10 true 3), some tyLink), ((.t 11), some .bool)]
abbrev sh_f71_0 : Sh := ⟨[(2, .ty tI), (3, .ty tI), (4, .ty tI), (5, .ptr 5 0), (10, .ptr 10 0), (12, .ptr 12 0), (13, .ty .bool), (14, .ty tI), (16, .ptr 16 0), (19, .ty tI), (23, .ty (.sl tyKeep)), (24, .ty tI), (25, .ty tI), (40, .ty (.sl tyKeep)), (41, .ty tI), (42, .ty tI)], [(5, .box tyPolicy), (10, .box tyLink), (12, .box tyLink), (16, .box tyKeep)]⟩
def st_f71_0 (x2 : Int) (x3 : Int) (x4 : Int) (x13 : Bool) (x14 : Int) (x19 : Int) (x23 : (List Keep)) (x24 : Int) (x25 : Int) (x40 : (List Keep)) (x41 : Int) (x42 : Int) (y5 : Policy) (y10 : Link) (y12 : Link) (y16 : Keep) : VS := sh_f71_0.st (x2, x3, x4, (), (), (), x13, x14, (), x19, x23, x24, x25, x40, x41, x42, ()) (y5, y10, y12, y16, ())
abbrev sh_f71_0_e2 : Sh := ⟨[(2, .ty tI), (3, .ty tI), (4, .ty tI), (5, .ptr 5 0), (10, .ptr 10 0), (12, .ptr 12 0), (13, .ty .bool), (14, .ty tI), (23, .ty (.sl tyKeep)), (24, .ty tI), (25, .ty tI)], [(5, .box tyPolicy), (10, .box tyLink), (12, .box tyLink)]⟩
def st_f71_0_e2 (x2 : Int) (x3 : Int) (x4 : Int) (x13 : Bool) (x14 : Int) (x23 : (List Keep)) (x24 : Int) (x25 : Int) (y5 : Policy) (y10 : Link) (y12 : Link) : VS := sh_f71_0_e2.st (x2, x3, x4, (), (), (), x13, x14, x23, x24, x25, ()) (y5, y10, y12, ())
-- loop 0: (x2 : Int) (x3 : Int) (x4 : Int) (x13 : Bool) (x14 : Int) (x19 : Int) (x23 : (List Keep)) (x24 : Int) (x25 : Int) (x40 : (List Keep)) (x41 : Int) (x42 : Int) (y5 : Policy) (y10 : Link) (y12 : Link) (y16 : Keep); out: ('exit', 2) (x2 : Int) (x3 : Int) (x4 : Int) (x13 : Bool) (x14 : Int) (x23 : (List Keep)) (x24 : Int) (x25 : Int) (y5 : Policy) (y10 : Link) (y12 : Link)
abbrev sh_f71_1 : Sh := ⟨[(2, .ty tI), (3, .ty tI), (4, .ty tI), (5, .ptr 5 0), (10, .ptr 10 0), (12, .ptr 12 0), (13, .ty .bool), (14, .ty tI), (23, .ty (.sl tyKeep)), (24, .ty tI), (25, .ty tI)], [(5, .box tyPolicy), (10, .box tyLink), (12, .box tyLink)]⟩
def st_f71_1 (x2 : Int) (x3 : Int) (x4 : Int) (x13 : Bool) (x14 : Int) (x23 : (List Keep)) (x24 : Int) (x25 : Int) (y5 : Policy) (y10 : Link) (y12 : Link) : VS := sh_f71_1.st (x2, x3, x4, (), (), (), x13, x14, x23, x24, x25, ()) (y5, y10, y12, ())
abbrev sh_f71_1_e0 : Sh := ⟨[(10, .ptr 10 0), (12, .ptr 12 0), (13, .ty .bool)], [(10, .box tyLink), (12, .box tyLink)]⟩
def st_f71_1_e0 (x13 : Bool) (y10 : Link) (y12 : Link) : VS := sh_f71_1_e0.st ((), (), x13, ()) (y10, y12, ())
-- loop 1: (x2 : Int) (x3 : Int) (x4 : Int) (x13 : Bool) (x14 : Int) (x23 : (List Keep)) (x24 : Int) (x25 : Int) (y5 : Policy) (y10 : Link) (y12 : Link); out: ('exit', 0) (x13 : Bool) (y10 : Link) (y12 : Link)
def L_f71_0 : VS → Option (Bool × List (Bool × Exit × VS)) := mkL sh_f71_0 (fun x y => (rngOk x.2.2.2.2.2.2.2.2.2.2.2.2.2.1 x.2.2.2.2.2.2.2.2.2.2.2.2.2.2.1 x.2.2.2.2.2.2.2.2.2.2.2.2.2.2.2.1)) (fun x y => [(true, .exit 2, st_f71_0_e2 (x.1) (x.2.1) (x.2.2.1) ((innS y.2.2.2.1 x.2.2.2.2.2.2.2.2.2.1 (rFirst (x.2.2.2.2.2.2.2.2.2.2.2.2.2.1.drop x.2.2.2.2.2.2.2.2.2.2.2.2.2.2.2.1.toNat) x.2.1 x.2.2.1) (y.2.2.1, (x.2.2.2.2.2.2.1, x.2.2.2.2.2.2.2.1))).2.1) ((innS y.2.2.2.1 x.2.2.2.2.2.2.2.2.2.1 (rFirst (x.2.2.2.2.2.2.2.2.2.2.2.2.2.1.drop x.2.2.2.2.2.2.2.2.2.2.2.2.2.2.2.1.toNat) x.2.1 x.2.2.1) (y.2.2.1, (x.2.2.2.2.2.2.1, x.2.2.2.2.2.2.2.1))).2.2) (x.2.2.2.2.2.2.2.2.2.2.1) (x.2.2.2.2.2.2.2.2.2.2.2.1) (x.2.2.2.2.2.2.2.2.2.2.2.2.1) (y.1) (y.2.1) ((innS y.2.2.2.1 x.2.2.2.2.2.2.2.2.2.1 (rFirst (x.2.2.2.2.2.2.2.2.2.2.2.2.2.1.drop x.2.2.2.2.2.2.2.2.2.2.2.2.2.2.2.1.toNat) x.2.1 x.2.2.1) (y.2.2.1, (x.2.2.2.2.2.2.1, x.2.2.2.2.2.2.2.1))).1))])
def L_f71_1 : VS → Option (Bool × List (Bool × Exit × VS)) := mkL sh_f71_1 (fun x y => (bestOk y.1 x.2.2.2.2.2.2.2.2.1 x.1 x.2.1 x.2.2.1 && rngOk x.2.2.2.2.2.2.2.2.1 x.2.2.2.2.2.2.2.2.2.1 x.2.2.2.2.2.2.2.2.2.2.1)) (fun x y => [(true, .exit 0, st_f71_1_e0 (((x.2.2.2.2.2.2.2.2.1.drop x.2.2.2.2.2.2.2.2.2.2.1.toNat).foldl (bestStep y.1 x.1 x.2.1 x.2.2.1) (y.2.2.1, (x.2.2.2.2.2.2.1, x.2.2.2.2.2.2.2.1))).2.1) (y.2.1) (((x.2.2.2.2.2.2.2.2.1.drop x.2.2.2.2.2.2.2.2.2.2.1.toNat).foldl (bestStep y.1 x.1 x.2.1 x.2.2.1) (y.2.2.1, (x.2.2.2.2.2.2.1, x.2.2.2.2.2.2.2.1))).1))])
def g_f71 : G := ⟨TYs, [], 85, EL [(68, sp_f68), (74, sp_f74)], keeps, (Ls [L_f71_0, L_f71_1]), IL [], RL []⟩
def b_f71_0 (x2 : Int) (x3 : Int) (x4 : Int) (x13 : Bool) (x14 : Int) (x19 : Int) (x23 : (List Keep)) (x24 : Int) (x25 : Int) (x40 : (List Keep)) (x41 : Int) (x42 : Int) (y5 : Policy) (y10 : Link) (y12 : Link) (y16 : Keep) : Option (Exit × VS) :=
 br ((ilt x42 x41))
  (br (cIx x40 x42)
   (br ((igt (imx x3 ((lgt tyKeep x40 (Int.toNat x42)).1)) x4))
    (some (.normal, st_f71_0 x2 x3 x4 x13 x14 x19 x23 x24 x25 x40 x41 (iadd .i64 x42 1) y5 y10 y12 y16))
    (br ((ige (imx x3 ((lgt tyKeep x40 (Int.toNat x42)).1)) (((lgt tyKeep x40 (Int.toNat x42)).2).1)))
     (some (.normal, st_f71_0 x2 x3 x4 x13 x14 x19 x23 x24 x25 x40 x41 (iadd .i64 x42 1) y5 y10 y12 y16))
     (br ((!x13))
      (some (.exit 2, st_f71_0_e2 x2 x3 x4 true x19 x23 x24 x25 y5 y10 ((y16.1, (y16.2.1, ())), ((imx x3 ((lgt tyKeep x40 (Int.toNat x42)).1)), ()))))
      (br ((igt x19 x14))
       (some (.exit 2, st_f71_0_e2 x2 x3 x4 true x19 x23 x24 x25 y5 y10 ((y16.1, (y16.2.1, ())), ((imx x3 ((lgt tyKeep x40 (Int.toNat x42)).1)), ()))))
       (br ((ieq x19 x14))
        (br ((ilt (imx x3 ((lgt tyKeep x40 (Int.toNat x42)).1)) y12.2.1))
         (some (.exit 2, st_f71_0_e2 x2 x3 x4 true x19 x23 x24 x25 y5 y10 ((y16.1, (y16.2.1, ())), ((imx x3 ((lgt tyKeep x40 (Int.toNat x42)).1)), ()))))
         (some (.exit 2, st_f71_0_e2 x2 x3 x4 x13 x14 x23 x24 x25 y5 y10 y12)))
        (some (.exit 2, st_f71_0_e2 x2 x3 x4 x13 x14 x23 x24 x25 y5 y10 y12)))))))
   (none))
  (some (.exit 2, st_f71_0_e2 x2 x3 x4 x13 x14 x23 x24 x25 y5 y10 y12))
noncomputable def lp_f71_0 (x2 : Int) (x3 : Int) (x4 : Int) (x13 : Bool) (x14 : Int) (x19 : Int) (x23 : (List Keep)) (x24 : Int) (x25 : Int) (x40 : (List Keep)) (x41 : Int) (x42 : Int) (y5 : Policy) (y10 : Link) (y12 : Link) (y16 : Keep) : Option (Exit × VS) := loopF (roundF g_f71 fg_f71_0 tb_f71_0) (st_f71_0 x2 x3 x4 x13 x14 x19 x23 x24 x25 x40 x41 x42 y5 y10 y12 y16)
noncomputable def n_f71_0 (x2 : Int) (x3 : Int) (x4 : Int) (x13 : Bool) (x14 : Int) (x19 : Int) (x23 : (List Keep)) (x24 : Int) (x25 : Int) (x40 : (List Keep)) (x41 : Int) (x42 : Int) (y5 : Policy) (y10 : Link) (y12 : Link) (y16 : Keep) : Option (Exit × VS) :=
 br ((ilt x42 x41))
  (br (cIx x40 x42)
   (br ((igt (imx x3 ((lgt tyKeep x40 (Int.toNat x42)).1)) x4))
    (lp_f71_0 x2 x3 x4 x13 x14 x19 x23 x24 x25 x40 x41 (iadd .i64 x42 1) y5 y10 y12 y16)
    (br ((ige (imx x3 ((lgt tyKeep x40 (Int.toNat x42)).1)) (((lgt tyKeep x40 (Int.toNat x42)).2).1)))
     (lp_f71_0 x2 x3 x4 x13 x14 x19 x23 x24 x25 x40 x41 (iadd .i64 x42 1) y5 y10 y12 y16)
     (br ((!x13))
      (some (.exit 2, st_f71_0_e2 x2 x3 x4 true x19 x23 x24 x25 y5 y10 ((y16.1, (y16.2.1, ())), ((imx x3 ((lgt tyKeep x40 (Int.toNat x42)).1)), ()))))
      (br ((igt x19 x14))
       (some (.exit 2, st_f71_0_e2 x2 x3 x4 true x19 x23 x24 x25 y5 y10 ((y16.1, (y16.2.1, ())), ((imx x3 ((lgt tyKeep x40 (Int.toNat x42)).1)), ()))))
       (br ((ieq x19 x14))
        (br ((ilt (imx x3 ((lgt tyKeep x40 (Int.toNat x42)).1)) y12.2.1))
         (some (.exit 2, st_f71_0_e2 x2 x3 x4 true x19 x23 x24 x25 y5 y10 ((y16.1, (y16.2.1, ())), ((imx x3 ((lgt tyKeep x40 (Int.toNat x42)).1)), ()))))
         (some (.exit 2, st_f71_0_e2 x2 x3 x4 x13 x14 x23 x24 x25 y5 y10 y12)))
        (some (.exit 2, st_f71_0_e2 x2 x3 x4 x13 x14 x23 x24 x25 y5 y10 y12)))))))
   (none))
  (some (.exit 2, st_f71_0_e2 x2 x3 x4 x13 x14 x23 x24 x25 y5 y10 y12))
def la_f71_0 (x2 : Int) (x3 : Int) (x4 : Int) (x13 : Bool) (x14 : Int) (x19 : Int) (x23 : (List Keep)) (x24 : Int) (x25 : Int) (x40 : (List Keep)) (x41 : Int) (x42 : Int) (y5 : Policy) (y10 : Link) (y12 : Link) (y16 : Keep) : Option (Exit × VS) := some (.exit 2, st_f71_0_e2 (x2) (x3) (x4) ((innS y16 x19 (rFirst (x40.drop x42.toNat) x3 x4) (y12, (x13, x14))).2.1) ((innS y16 x19 (rFirst (x40.drop x42.toNat) x3 x4) (y12, (x13, x14))).2.2) (x23) (x24) (x25) (y5) (y10) ((innS y16 x19 (rFirst (x40.drop x42.toNat) x3 x4) (y12, (x13, x14))).1))
theorem be_f71_0 (x2 : Int) (x3 : Int) (x4 : Int) (x13 : Bool) (x14 : Int) (x19 : Int) (x23 : (List Keep)) (x24 : Int) (x25 : Int) (x40 : (List Keep)) (x41 : Int) (x42 : Int) (y5 : Policy) (y10 : Link) (y12 : Link) (y16 : Keep) : roundF g_f71 fg_f71_0 tb_f71_0 (st_f71_0 x2 x3 x4 x13 x14 x19 x23 x24 x25 x40 x41 x42 y5 y10 y12 y16) = b_f71_0 x2 x3 x4 x13 x14 x19 x23 x24 x25 x40 x41 x42 y5 y10 y12 y16 := by kernel_rfl
theorem ln_f71_0 (x2 : Int) (x3 : Int) (x4 : Int) (x13 : Bool) (x14 : Int) (x19 : Int) (x23 : (List Keep)) (x24 : Int) (x25 : Int) (x40 : (List Keep)) (x41 : Int) (x42 : Int) (y5 : Policy) (y10 : Link) (y12 : Link) (y16 : Keep) : lp_f71_0 x2 x3 x4 x13 x14 x19 x23 x24 x25 x40 x41 x42 y5 y10 y12 y16 = n_f71_0 x2 x3 x4 x13 x14 x19 x23 x24 x25 x40 x41 x42 y5 y10 y12 y16 := (loopF_nxt _ _).trans (by
 rw [be_f71_0]
 simp only [b_f71_0, n_f71_0, nxt_br, nxt_n, nxt_r, nxt_e, nxt_0]
 rfl)
def b_f71_1 (x2 : Int) (x3 : Int) (x4 : Int) (x13 : Bool) (x14 : Int) (x23 : (List Keep)) (x24 : Int) (x25 : Int) (y5 : Policy) (y10 : Link) (y12 : Link) : Option (Exit × VS) :=
 br ((ilt x25 x24))
  (br (cIx x23 x25)
   (br ((polLen3 y5 (lgt tyKeep x23 (Int.toNat x25)) x2))
    (br ((polLen3 y5 (lgt tyKeep x23 (Int.toNat x25)) x2))
     (br ((rngOk ((SpansF y5 (lgt tyKeep x23 (Int.toNat x25)) x2).1) (llen ((SpansF y5 (lgt tyKeep x23 (Int.toNat x25)) x2).1)) (0 : Int)))
      (some (.normal, st_f71_1 (x2) (x3) (x4) ((innS (lgt tyKeep x23 (Int.toNat x25)) (fallU y5 (lgt tyKeep x23 (Int.toNat x25)) x2) (rFirst (((SpansF y5 (lgt tyKeep x23 (Int.toNat x25)) x2).1).drop (0 : Int).toNat) x3 x4) (y12, (x13, x14))).2.1) ((innS (lgt tyKeep x23 (Int.toNat x25)) (fallU y5 (lgt tyKeep x23 (Int.toNat x25)) x2) (rFirst (((SpansF y5 (lgt tyKeep x23 (Int.toNat x25)) x2).1).drop (0 : Int).toNat) x3 x4) (y12, (x13, x14))).2.2) (x23) (x24) (iadd .i64 (x25) 1) (y5) (y10) ((innS (lgt tyKeep x23 (Int.toNat x25)) (fallU y5 (lgt tyKeep x23 (Int.toNat x25)) x2) (rFirst (((SpansF y5 (lgt tyKeep x23 (Int.toNat x25)) x2).1).drop (0 : Int).toNat) x3 x4) (y12, (x13, x14))).1)))
      (none))
     (none))
    (none))
   (none))
  (some (.exit 0, st_f71_1_e0 x13 y10 y12))
noncomputable def lp_f71_1 (x2 : Int) (x3 : Int) (x4 : Int) (x13 : Bool) (x14 : Int) (x23 : (List Keep)) (x24 : Int) (x25 : Int) (y5 : Policy) (y10 : Link) (y12 : Link) : Option (Exit × VS) := loopF (roundF g_f71 fg_f71_1 tb_f71_1) (st_f71_1 x2 x3 x4 x13 x14 x23 x24 x25 y5 y10 y12)
noncomputable def n_f71_1 (x2 : Int) (x3 : Int) (x4 : Int) (x13 : Bool) (x14 : Int) (x23 : (List Keep)) (x24 : Int) (x25 : Int) (y5 : Policy) (y10 : Link) (y12 : Link) : Option (Exit × VS) :=
 br ((ilt x25 x24))
  (br (cIx x23 x25)
   (br ((polLen3 y5 (lgt tyKeep x23 (Int.toNat x25)) x2))
    (br ((polLen3 y5 (lgt tyKeep x23 (Int.toNat x25)) x2))
     (br ((rngOk ((SpansF y5 (lgt tyKeep x23 (Int.toNat x25)) x2).1) (llen ((SpansF y5 (lgt tyKeep x23 (Int.toNat x25)) x2).1)) (0 : Int)))
      (lp_f71_1 (x2) (x3) (x4) ((innS (lgt tyKeep x23 (Int.toNat x25)) (fallU y5 (lgt tyKeep x23 (Int.toNat x25)) x2) (rFirst (((SpansF y5 (lgt tyKeep x23 (Int.toNat x25)) x2).1).drop (0 : Int).toNat) x3 x4) (y12, (x13, x14))).2.1) ((innS (lgt tyKeep x23 (Int.toNat x25)) (fallU y5 (lgt tyKeep x23 (Int.toNat x25)) x2) (rFirst (((SpansF y5 (lgt tyKeep x23 (Int.toNat x25)) x2).1).drop (0 : Int).toNat) x3 x4) (y12, (x13, x14))).2.2) (x23) (x24) (iadd .i64 (x25) 1) (y5) (y10) ((innS (lgt tyKeep x23 (Int.toNat x25)) (fallU y5 (lgt tyKeep x23 (Int.toNat x25)) x2) (rFirst (((SpansF y5 (lgt tyKeep x23 (Int.toNat x25)) x2).1).drop (0 : Int).toNat) x3 x4) (y12, (x13, x14))).1))
      (none))
     (none))
    (none))
   (none))
  (some (.exit 0, st_f71_1_e0 x13 y10 y12))
def la_f71_1 (x2 : Int) (x3 : Int) (x4 : Int) (x13 : Bool) (x14 : Int) (x23 : (List Keep)) (x24 : Int) (x25 : Int) (y5 : Policy) (y10 : Link) (y12 : Link) : Option (Exit × VS) := some (.exit 0, st_f71_1_e0 (((x23.drop x25.toNat).foldl (bestStep y5 x2 x3 x4) (y12, (x13, x14))).2.1) (y10) (((x23.drop x25.toNat).foldl (bestStep y5 x2 x3 x4) (y12, (x13, x14))).1))
theorem be_f71_1 (x2 : Int) (x3 : Int) (x4 : Int) (x13 : Bool) (x14 : Int) (x23 : (List Keep)) (x24 : Int) (x25 : Int) (y5 : Policy) (y10 : Link) (y12 : Link) : roundF g_f71 fg_f71_1 tb_f71_1 (st_f71_1 x2 x3 x4 x13 x14 x23 x24 x25 y5 y10 y12) = b_f71_1 x2 x3 x4 x13 x14 x23 x24 x25 y5 y10 y12 := by kernel_rfl
theorem ln_f71_1 (x2 : Int) (x3 : Int) (x4 : Int) (x13 : Bool) (x14 : Int) (x23 : (List Keep)) (x24 : Int) (x25 : Int) (y5 : Policy) (y10 : Link) (y12 : Link) : lp_f71_1 x2 x3 x4 x13 x14 x23 x24 x25 y5 y10 y12 = n_f71_1 x2 x3 x4 x13 x14 x23 x24 x25 y5 y10 y12 := (loopF_nxt _ _).trans (by
 rw [be_f71_1]
 simp only [b_f71_1, n_f71_1, nxt_br, nxt_n, nxt_r, nxt_e, nxt_0]
 rfl)
def r_f71 (p0 : Policy) (p1 : (List Keep)) (p2 : Int) (p3 : Int) (p4 : Int) : Option (V × List VO) :=
 br ((bestOk p0 p1 p2 p3 p4 && rngOk p1 (llen p1) (0 : Int)))
  (some (.tu [(.t tyLink (((p1.drop (0 : Int).toNat).foldl (bestStep p0 p2 p3 p4) (((0, (0, ())), (0, ())), (false, (0 : Int)))).1)), (.t .bool (((p1.drop (0 : Int).toNat).foldl (bestStep p0 p2 p3 p4) (((0, (0, ())), (0, ())), (false, (0 : Int)))).2.1))], []))
  (none)
theorem e_f71 (p0 : Policy) (p1 : (List Keep)) (p2 : Int) (p3 : Int) (p4 : Int) : runF g_f71 tc_f71 rv_f71 false [.t tyPolicy p0, .t (.sl tyKeep) p1, .t tI p2, .t tI p3, .t tI p4] [] = r_f71 p0 p1 p2 p3 p4 := by kernel_rfl
theorem ok_f71 : Option.map (trC Tryz.prog) Tryz.f71.body = some tc_f71.er := by kernel_rfl
theorem rok_f71 : trVs Tryz.prog Tryz.f71.results.toList = some (rv_f71.map Prod.fst) := by kernel_rfl
theorem en_f71 : Entered Tryz.prog 71 := .inr ⟨by decide, _, Tryz.func71, by kernel_rfl, by kernel_rfl⟩
theorem gk_f71 : GOk Tryz.prog g_f71 := gok_of _ (by
 intro p hp
 simp only [List.mem_cons, List.not_mem_nil, or_false] at hp
 rcases hp with rfl | rfl
 ·exact ⟨en_f68, ms_f68⟩
 ·exact ⟨en_f74, ms_f74⟩)
theorem l_f71_0 (x2 : Int) (x3 : Int) (x4 : Int) (x13 : Bool) (x14 : Int) (x19 : Int) (x23 : (List Keep)) (x24 : Int) (x25 : Int) (x40 : (List Keep)) (x41 : Int) (x42 : Int) (y5 : Policy) (y10 : Link) (y12 : Link) (y16 : Keep) (h : (rngOk x40 x41 x42) = true) : lp_f71_0 x2 x3 x4 x13 x14 x19 x23 x24 x25 x40 x41 x42 y5 y10 y12 y16 = la_f71_0 x2 x3 x4 x13 x14 x19 x23 x24 x25 x40 x41 x42 y5 y10 y12 y16 := by
 obtain ⟨rfl, h3, k, rfl, hk⟩ := rng_k h
 clear h
 refine range_ind x40 (fun k => lp_f71_0 x2 x3 x4 x13 x14 x19 x23 x24 x25 x40 (x40.length : Int) (k : Int) y5 y10 y12 y16 = la_f71_0 x2 x3 x4 x13 x14 x19 x23 x24 x25 x40 (x40.length : Int) (k : Int) y5 y10 y12 y16) ?_ ?_ k hk
 ·rw [ln_f71_0]
  simp [n_f71_0, la_f71_0, ilt_nat, br_false, rFirst, innS]
 ·intro k hk ih
  rw [ln_f71_0]
  have hd : x40.drop k = x40[k] :: x40.drop (k + 1) := List.drop_eq_getElem_cons hk
  simp only [n_f71_0, ilt_nat, cIx_nat, hk, decide_true, br_true, Int.toNat_natCast, add1 (show k < 4611686018427387904 by omega), lgt_get (y := tyKeep) hk, ih]
  simp only [la_f71_0, Int.toNat_natCast, hd]
  unfold rFirst
  rw [List.find?_cons]
  cases c1 : igt (imx x3 x40[k].1) x4 with
  | true => rfl
  | false =>
   cases c2 : ige (imx x3 x40[k].1) x40[k].2.1 with
   | true => rfl
   | false =>
    simp only [Bool.not_false, Bool.and_self, Option.map_some, br_false, innS]
    cases x13 with
    | false => rfl
    | true =>
     cases igt x19 x14 with
     | true => rfl
     | false =>
      cases ieq x19 x14 with
      | false => rfl
      | true => cases ilt (imx x3 x40[k].1) y12.2.1 <;> rfl
theorem l_f71_1 (x2 : Int) (x3 : Int) (x4 : Int) (x13 : Bool) (x14 : Int) (x23 : (List Keep)) (x24 : Int) (x25 : Int) (y5 : Policy) (y10 : Link) (y12 : Link) (h : (bestOk y5 x23 x2 x3 x4 && rngOk x23 x24 x25) = true) : lp_f71_1 x2 x3 x4 x13 x14 x23 x24 x25 y5 y10 y12 = la_f71_1 x2 x3 x4 x13 x14 x23 x24 x25 y5 y10 y12 := by
 simp only [Bool.and_eq_true] at h
 obtain ⟨hb, hr⟩ := h
 obtain ⟨rfl, h3, k, rfl, hk⟩ := rng_k hr
 clear hr
 simp only [bestOk, Bool.and_eq_true, decide_eq_true_eq] at hb
 obtain ⟨⟨⟨hp, hu⟩, _⟩, hq1, hq2⟩ := hb
 revert x13 x14 y12
 refine range_ind x23 (fun k => ∀ (x13 : Bool) (x14 : Int) (y12 : Link), lp_f71_1 x2 x3 x4 x13 x14 x23 (x23.length : Int) (k : Int) y5 y10 y12 = la_f71_1 x2 x3 x4 x13 x14 x23 (x23.length : Int) (k : Int) y5 y10 y12) ?_ ?_ k hk
 ·intro x13 x14 y12
  rw [ln_f71_1]
  simp [n_f71_1, la_f71_1, ilt_nat, br_false]
 ·intro k hk ih x13 x14 y12
  rw [ln_f71_1]
  have hv : validF x23[k] = true := List.all_eq_true.1 hu _ (List.getElem_mem hk)
  have es := spans_fine (u := x23[k]) (p := x2) hp hv hq1 hq2
  have ef := fallU_fine (u := x23[k]) (p := x2) hp hv hq1 hq2
  have hpl : ∀ u q, polLen3 y5 u q = true := fun u q => (pol_len hp).1
  have hl := spans_len y5 x23[k] x2
  have h60 := polOk_len hp
  have hrn : rngOk (spansF y5 x23[k] x2) (llen (spansF y5 x23[k] x2)) 0 = true := rng_0 (by omega)
  have el : la_f71_1 x2 x3 x4 x13 x14 x23 (x23.length : Int) (k : Int) y5 y10 y12 = la_f71_1 x2 x3 x4 (bestStep y5 x2 x3 x4 (y12, (x13, x14)) x23[k]).2.1 (bestStep y5 x2 x3 x4 (y12, (x13, x14)) x23[k]).2.2 x23 (x23.length : Int) ((k + 1 : Nat) : Int) y5 y10 (bestStep y5 x2 x3 x4 (y12, (x13, x14)) x23[k]).1 := by
   simp only [la_f71_1, Int.toNat_natCast, List.drop_eq_getElem_cons hk, List.foldl_cons]
  rw [el]
  simp only [n_f71_1, ilt_nat, cIx_nat, hk, decide_true, br_true, Int.toNat_natCast, lgt_get (y := tyKeep) hk, hpl, es, ef, hrn, add1 (show k < 4611686018427387904 by omega), Int.toNat_zero, List.drop_zero, inn_step hp, ih]
theorem lo_f71_0 : ∀ S l p, g_f71.L 0 (fgt fg_f71_0 S) = some (true, l) → pickA l = some p → loopF (roundF g_f71 fg_f71_0 tb_f71_0) S = some p :=
 lok_of (s := sh_f71_0) ⟨by decide, by decide⟩ (by kernel_rfl) fun x y hok p hp => by
 simp only [pickA_br, pickA_one] at hp
 exact (l_f71_0 x.1 x.2.1 x.2.2.1 x.2.2.2.2.2.2.1 x.2.2.2.2.2.2.2.1 x.2.2.2.2.2.2.2.2.2.1 x.2.2.2.2.2.2.2.2.2.2.1 x.2.2.2.2.2.2.2.2.2.2.2.1 x.2.2.2.2.2.2.2.2.2.2.2.2.1 x.2.2.2.2.2.2.2.2.2.2.2.2.2.1 x.2.2.2.2.2.2.2.2.2.2.2.2.2.2.1 x.2.2.2.2.2.2.2.2.2.2.2.2.2.2.2.1 y.1 y.2.1 y.2.2.1 y.2.2.2.1 (by simpa using hok)).trans hp
theorem lo_f71_1 : ∀ S l p, g_f71.L 1 (fgt fg_f71_1 S) = some (true, l) → pickA l = some p → loopF (roundF g_f71 fg_f71_1 tb_f71_1) S = some p :=
 lok_of (s := sh_f71_1) ⟨by decide, by decide⟩ (by kernel_rfl) fun x y hok p hp => by
 simp only [pickA_br, pickA_one] at hp
 exact (l_f71_1 x.1 x.2.1 x.2.2.1 x.2.2.2.2.2.2.1 x.2.2.2.2.2.2.2.1 x.2.2.2.2.2.2.2.2.1 x.2.2.2.2.2.2.2.2.2.1 x.2.2.2.2.2.2.2.2.2.2.1 y.1 y.2.1 y.2.2.1 (by simpa using hok)).trans hp
theorem lk_f71 : tc_f71.lok g_f71 := by
 repeat (first | exact trivial | exact lo_f71_0 | exact lo_f71_1 | refine ⟨?_, ?_⟩)
theorem s_f71 (y : Policy) (us : List Keep) (p a b : Int) (h : bestOk y us p a b = true) : r_f71 y us p a b = some (.tu [.t tyLink (bestF y us p a b).1, .t .bool (bestF y us p a b).2], []) := by
 have hl : us.length ≤ 100000 := by
  simp only [bestOk, Bool.and_eq_true, decide_eq_true_eq, lenOk5] at h
  exact h.1.2
 simp only [r_f71, h, Bool.true_and, rng_0 hl, br_true, Int.toNat_zero, List.drop_zero]
 rfl
def sp_f71 : Ent := spec (.pr tyPolicy (.pr (.sl tyKeep) (.pr tI (.pr tI (.pr tI .nil))))) (fun x => (bestOk x.1 x.2.1 x.2.2.1 x.2.2.2.1 x.2.2.2.2.1)) (fun x => (.tu [(.t tyLink ((bestF x.1 x.2.1 x.2.2.1 x.2.2.2.1 x.2.2.2.2.1).1)), (.t .bool ((bestF x.1 x.2.1 x.2.2.1 x.2.2.2.1 x.2.2.2.2.1).2))]))
theorem ms_f71 : Meets Tryz.prog 71 (strip sp_f71) := by
 obtain ⟨c, hc, hi⟩ := Option.map_eq_some_iff.1 ok_f71
 exact meets_spec (R := runF g_f71 tc_f71 rv_f71 false) (meets_of (by decide) Tryz.func71 hc hi Tryz.ntmps71 rok_f71 gk_f71 lk_f71 mixed) fun x hok => (e_f71 x.1 x.2.1 x.2.2.1 x.2.2.2.1 x.2.2.2.2.1).trans (s_f71 x.1 x.2.1 x.2.2.1 x.2.2.2.1 x.2.2.2.2.1 hok)
def tc_f42 : TC := (.sq (.reg [(oM 5 (.box (.t 0))), (oM 10 (.new [(.v (.int .i64 0)), (.v (.int .i64 0)), (.v (.int .i64 0))])), (oP 11 (.mv (cB false))), (oP 12 (.mv (cI 0)))]) (.sq (.sq (.reg [(oM 15 (.ld true 2 (.t 5))), (oC 16 69 [(.t 15)]), (oP 17 (.bin false .neq (.t 16) (cI 0)))]) (.cd (.t 17) (.sq (.reg [(oP 18 (.bd [(.v (.int .i64 0)), (.v (.int .i64 0)), (.v (.int .i64 0))] [])), (.mk none none (.m (.st 3 (.t 10) (.t 18)))), (oP 11 (.mv (cB false))), (oP 12 (.mv (cI 25)))]) .rt) .sk)) (.sq (.sq (.reg [(oV 19 1), (oC 20 70 [(.t 19)]), (oP 21 (.nt (.t 20)))]) (.cd (.t 21) (.sq (.reg [(oP 22 (.bd [(.v (.int .i64 0)), (.v (.int .i64 0)), (.v (.int .i64 0))] [])), (.mk none none (.m (.st 3 (.t 10) (.t 22)))), (oP 11 (.mv (cB false))), (oP 12 (.mv (cI 7)))]) .rt) .sk)) (.sq (.sq (.reg [(oV 23 2), (oP 24 (.bin false .lss (.t 23) (cI 1))), (oV 25 24), (oQ 26 25 false (.mv (.t 2))), (oQ 27 25 false (.bin false .gtr (.t 26) (cI 4))), (oP 28 (.pick (.t 25) (cB true) (.t 27))), (oV 29 28), (oQ 30 29 false (.mv (.t 3))), (oQ 31 29 false (.bin false .lss (.t 30) (cI 0))), (oP 32 (.pick (.t 29) (cB true) (.t 31))), (oV 33 32), (oQ 34 33 false (.mv (.t 4))), (oQ 35 33 false (.bin false .gtr (.t 34) (cI 40000))), (oP 36 (.pick (.t 33) (cB true) (.t 35)))]) (.cd (.t 36) (.sq (.reg [(oP 37 (.bd [(.v (.int .i64 0)), (.v (.int .i64 0)), (.v (.int .i64 0))] [])), (.mk none none (.m (.st 3 (.t 10) (.t 37)))), (oP 11 (.mv (cB false))), (oP 12 (.mv (cI 2)))]) .rt) .sk)) (.sq (.reg [(oM 39 (.ld true 2 (.t 5))), (oV 40 1), (oV 41 2), (oV 42 3), (oV 43 4), (oC 44 71 [(.t 39), (.t 40), (.t 41), (.t 42), (.t 43)]), (oV 38 44), (oP 45 (.ext 0 (.t 38))), (oP 46 (.ext 1 (.t 38))), (oM 13 (.new [(.v (.int .i64 0)), (.v (.int .i64 0)), (.v (.int .i64 0))])), (.mk none none (.m (.st 3 (.t 13) (.t 45)))), (oV 14 46)]) (.sq (.reg [(oM 47 (.ld true 3 (.t 13))), (oV 48 14), (.mk none none (.m (.st 3 (.t 10) (.t 47)))), (oV 11 48), (oP 12 (.mv (cI 0)))]) .rt))))))
def rv_f42 : List (RV × Option Ty) := [((.c 10 true 3), some tyLink), ((.t 11), some .bool), ((.t 12), some tI)]
def g_f42 : G := ⟨TYs, [], 49, EL [(69, sp_f69), (70, sp_f70), (71, sp_f71)], keeps, (fun _ _ => none), IL [], RL []⟩
def r_f42 (p0 : Policy) (p1 : (List Keep)) (p2 : Int) (p3 : Int) (p4 : Int) : Option (V × List VO) :=
 br ((polLen p0))
  (br ((ine (checkF p0) 0))
   (some (.tu [(.t tyLink ((0, (0, ())), (0, ()))), (.t .bool false), (.t tI 25)], []))
   (br ((lenOk5 p1))
    (br ((!(validsF p1)))
     (some (.tu [(.t tyLink ((0, (0, ())), (0, ()))), (.t .bool false), (.t tI 7)], []))
     (br ((ilt p2 1))
      (some (.tu [(.t tyLink ((0, (0, ())), (0, ()))), (.t .bool false), (.t tI 2)], []))
      (br ((igt p2 4))
       (some (.tu [(.t tyLink ((0, (0, ())), (0, ()))), (.t .bool false), (.t tI 2)], []))
       (br ((ilt p3 0))
        (some (.tu [(.t tyLink ((0, (0, ())), (0, ()))), (.t .bool false), (.t tI 2)], []))
        (br ((igt p4 40000))
         (some (.tu [(.t tyLink ((0, (0, ())), (0, ()))), (.t .bool false), (.t tI 2)], []))
         (br ((bestOk p0 p1 p2 p3 p4))
          (some (.tu [(.t tyLink ((bestF p0 p1 p2 p3 p4).1)), (.t .bool ((bestF p0 p1 p2 p3 p4).2)), (.t tI 0)], []))
          (none)))))))
    (none)))
  (none)
theorem e_f42 (p0 : Policy) (p1 : (List Keep)) (p2 : Int) (p3 : Int) (p4 : Int) : runF g_f42 tc_f42 rv_f42 false [.t tyPolicy p0, .t (.sl tyKeep) p1, .t tI p2, .t tI p3, .t tI p4] [] = r_f42 p0 p1 p2 p3 p4 := by kernel_rfl
theorem ok_f42 : Option.map (trC Tryz.prog) Tryz.f42.body = some tc_f42.er := by kernel_rfl
theorem rok_f42 : trVs Tryz.prog Tryz.f42.results.toList = some (rv_f42.map Prod.fst) := by kernel_rfl
theorem en_f42 : Entered Tryz.prog 42 := .inr ⟨by decide, _, Tryz.func42, by kernel_rfl, by kernel_rfl⟩
theorem gk_f42 : GOk Tryz.prog g_f42 := gok_of _ (by
 intro p hp
 simp only [List.mem_cons, List.not_mem_nil, or_false] at hp
 rcases hp with rfl | rfl | rfl
 ·exact ⟨en_f69, ms_f69⟩
 ·exact ⟨en_f70, ms_f70⟩
 ·exact ⟨en_f71, ms_f71⟩)
theorem lk_f42 : tc_f42.lok g_f42 := by repeat (first | exact trivial | refine ⟨?_, ?_⟩)
theorem s_f42 (y : Policy) (us : List Keep) (p a b : Int) (h : BestOk y us p a b = true) : r_f42 y us p a b = some (.tu [.t tyLink (BestF y us p a b).1, .t .bool (BestF y us p a b).2.1, .t tI (BestF y us p a b).2.2], []) := by
 simp only [BestOk, Bool.and_eq_true] at h
 simp only [r_f42, h.1, h.2, br_true]
 unfold BestF checkF validsF
 cases hp : polOk y with
 | false => rfl
 | true =>
  rw [if_pos rfl, show ine 0 0 = false from rfl, br_false, if_neg (by simp), any_valid]
  cases hall : us.all validF with
  | false => rfl
  | true =>
   rw [Bool.not_true, br_false, if_neg (by simp)]
   have bad : (p < 1 ∨ 4 < p ∨ a < 0 ∨ 40000 < b) → some (V.tu [.t tyLink ((0, (0, ())), (0, ())), .t .bool false, .t tI 2], ([] : List VO)) = some (.tu [.t tyLink (if p < 1 ∨ 4 < p ∨ a < 0 ∨ 40000 < b then (noLink, false, (2 : Int)) else ((bestF y us p a b).1, (bestF y us p a b).2, 0)).1, .t .bool (if p < 1 ∨ 4 < p ∨ a < 0 ∨ 40000 < b then (noLink, false, (2 : Int)) else ((bestF y us p a b).1, (bestF y us p a b).2, 0)).2.1, .t tI (if p < 1 ∨ 4 < p ∨ a < 0 ∨ 40000 < b then (noLink, false, (2 : Int)) else ((bestF y us p a b).1, (bestF y us p a b).2, 0)).2.2], []) := fun hb => by
    rw [if_pos hb]
    rfl
   refine br_intro (fun g => bad (.inl (of_decide_eq_true g))) (fun g1 => br_intro (fun g => bad (.inr (.inl (of_decide_eq_true g)))) (fun g2 => br_intro (fun g => bad (.inr (.inr (.inl (of_decide_eq_true g))))) (fun g3 => br_intro (fun g => bad (.inr (.inr (.inr (of_decide_eq_true g))))) (fun g4 => ?_))))
   have g1 := of_decide_eq_false g1
   have g2 := of_decide_eq_false g2
   have g3 := of_decide_eq_false g3
   have g4 := of_decide_eq_false g4
   have hb : bestOk y us p a b = true := by
    unfold bestOk
    rw [hp, hall, h.2]
    exact decide_eq_true (by omega)
   rw [hb, br_true, if_neg (by omega)]
def sp_f42 : Ent := spec (.pr tyPolicy (.pr (.sl tyKeep) (.pr tI (.pr tI (.pr tI .nil))))) (fun x => (BestOk x.1 x.2.1 x.2.2.1 x.2.2.2.1 x.2.2.2.2.1)) (fun x => (.tu [(.t tyLink ((BestF x.1 x.2.1 x.2.2.1 x.2.2.2.1 x.2.2.2.2.1).1)), (.t .bool (((BestF x.1 x.2.1 x.2.2.1 x.2.2.2.1 x.2.2.2.2.1).2).1)), (.t tI (((BestF x.1 x.2.1 x.2.2.1 x.2.2.2.1 x.2.2.2.2.1).2).2))]))
theorem ms_f42 : Meets Tryz.prog 42 (strip sp_f42) := by
 obtain ⟨c, hc, hi⟩ := Option.map_eq_some_iff.1 ok_f42
 exact meets_spec (R := runF g_f42 tc_f42 rv_f42 false) (meets_of (by decide) Tryz.func42 hc hi Tryz.ntmps42 rok_f42 gk_f42 lk_f42 mixed) fun x hok => (e_f42 x.1 x.2.1 x.2.2.1 x.2.2.2.1 x.2.2.2.2.1).trans (s_f42 x.1 x.2.1 x.2.2.1 x.2.2.2.1 x.2.2.2.2.1 hok)
def tc_f72 : TC := (.sq (.reg [(oM 2 (.box (.t 0))), (oM 3 (.box (.t 1))), (oP 4 (.mv (cI 0)))]) (.sq (.sq (.reg [(oM 5 (.ld true 2 (.t 2))), (oC 6 69 [(.t 5)]), (oP 7 (.bin false .neq (.t 6) (cI 0)))]) (.cd (.t 7) (.sq (.reg [(oP 4 (.mv (cI 25)))]) .rt) .sk)) (.sq (.sq (.reg [(oM 8 (.ld true 5 (.t 3))), (oC 9 26 [(.t 8)]), (oP 10 (.bin false .neq (.t 9) (cI 0)))]) (.cd (.t 10) (.sq (.reg [(oP 4 (.mv (cI 30)))]) .rt) .sk)) (.sq (.reg [(oP 4 (.mv (cI 0)))]) .rt))))
def rv_f72 : List (RV × Option Ty) := [((.t 4), some tI)]
def g_f72 : G := ⟨TYs, [], 11, EL [(26, sp_f26), (69, sp_f69)], keeps, (fun _ _ => none), IL [], RL []⟩
def r_f72 (p0 : Policy) (p1 : Item) : Option (V × List VO) :=
 br ((polLen p0))
  (br ((ine (checkF p0) 0))
   (some (.t tI 25, []))
   (br ((itemLen p1))
    (br ((ine (checkI p1) 0))
     (some (.t tI 30, []))
     (some (.t tI 0, [])))
    (none)))
  (none)
theorem e_f72 (p0 : Policy) (p1 : Item) : runF g_f72 tc_f72 rv_f72 false [.t tyPolicy p0, .t tyItem p1] [] = r_f72 p0 p1 := by kernel_rfl
theorem ok_f72 : Option.map (trC Tryz.prog) Tryz.f72.body = some tc_f72.er := by kernel_rfl
theorem rok_f72 : trVs Tryz.prog Tryz.f72.results.toList = some (rv_f72.map Prod.fst) := by kernel_rfl
theorem en_f72 : Entered Tryz.prog 72 := .inr ⟨by decide, _, Tryz.func72, by kernel_rfl, by kernel_rfl⟩
theorem gk_f72 : GOk Tryz.prog g_f72 := gok_of _ (by
 intro p hp
 simp only [List.mem_cons, List.not_mem_nil, or_false] at hp
 rcases hp with rfl | rfl
 ·exact ⟨en_f26, ms_f26⟩
 ·exact ⟨en_f69, ms_f69⟩)
theorem lk_f72 : tc_f72.lok g_f72 := by repeat (first | exact trivial | refine ⟨?_, ?_⟩)
theorem s_f72 (y : Policy) (i : Item) (h : fineLen y i = true) : r_f72 y i = some (.t tI (rcheckF y i), []) := by
 simp only [fineLen, Bool.and_eq_true] at h
 have h2 : itemLen i = true := h.2
 simp only [r_f72, h.1, h2, br_true]
 unfold rcheckF fineB ofE checkF checkI
 generalize polOk y = a
 generalize itemOk i = b
 cases a <;> cases b <;> rfl
def sp_f72 : Ent := spec (.pr tyPolicy (.pr tyItem .nil)) (fun x => (fineLen x.1 x.2.1)) (fun x => (.t tI (rcheckF x.1 x.2.1)))
theorem ms_f72 : Meets Tryz.prog 72 (strip sp_f72) := by
 obtain ⟨c, hc, hi⟩ := Option.map_eq_some_iff.1 ok_f72
 exact meets_spec (R := runF g_f72 tc_f72 rv_f72 false) (meets_of (by decide) Tryz.func72 hc hi Tryz.ntmps72 rok_f72 gk_f72 lk_f72 mixed) fun x hok => (e_f72 x.1 x.2.1).trans (s_f72 x.1 x.2.1 hok)
def tc_f43 : TC := (.sq (.reg [(oM 2 (.box (.t 0))), (oM 3 (.box (.t 1))), (oP 4 (.mv (cI 0))), (oP 5 (.mv (cI 0)))]) (.sq (.sq (.reg [(oM 10 (.ld true 2 (.t 2))), (oM 11 (.ld true 5 (.t 3))), (oC 12 72 [(.t 10), (.t 11)]), (oV 6 12)]) (.sq (.reg [(oV 13 6), (oP 14 (.bin false .neq (.t 13) (cI 0)))]) (.cd (.t 14) (.sq (.reg [(oV 15 6), (oP 4 (.mv (cI 0))), (oV 5 15)]) .rt) .sk))) (.sq (.reg [(oM 17 (.ld true 2 (.t 2))), (oM 18 (.ld true 5 (.t 3))), (oC 19 19 [(.t 17), (.t 18)]), (oV 16 19), (oP 20 (.ext 0 (.t 16))), (oP 21 (.ext 1 (.t 16))), (oP 22 (.ext 2 (.t 16))), (oV 7 20), (oV 8 21), (oV 9 22)]) (.sq (.sq (.reg [(oV 23 8), (oP 24 (.nt (.t 23)))]) (.cd (.t 24) (.sq (.reg [(oP 4 (.mv (cI 40000))), (oP 5 (.mv (cI 0)))]) .rt) .sk)) (.sq (.reg [(oV 25 7), (oP 26 (.bin false .sub (.t 25) (cI 1))), (oV 4 26), (oP 5 (.mv (cI 0)))]) .rt)))))
def rv_f43 : List (RV × Option Ty) := [((.t 4), some tI), ((.t 5), some tI)]
def g_f43 : G := ⟨TYs, [], 27, EL [(19, sp_f19), (72, sp_f72)], keeps, (fun _ _ => none), IL [], RL []⟩
def r_f43 (p0 : Policy) (p1 : Item) : Option (V × List VO) :=
 br ((fineLen p0 p1))
  (br ((ine (rcheckF p0 p1) 0))
   (some (.tu [(.t tI 0), (.t tI (rcheckF p0 p1))], []))
   (br ((fineLen p0 p1))
    (br ((!(((FailsI p0 p1).2).1)))
     (some (.tu [(.t tI 40000), (.t tI 0)], []))
     (some (.tu [(.t tI (isub .i64 ((FailsI p0 p1).1) 1)), (.t tI 0)], [])))
    (none)))
  (none)
theorem e_f43 (p0 : Policy) (p1 : Item) : runF g_f43 tc_f43 rv_f43 false [.t tyPolicy p0, .t tyItem p1] [] = r_f43 p0 p1 := by kernel_rfl
theorem ok_f43 : Option.map (trC Tryz.prog) Tryz.f43.body = some tc_f43.er := by kernel_rfl
theorem rok_f43 : trVs Tryz.prog Tryz.f43.results.toList = some (rv_f43.map Prod.fst) := by kernel_rfl
theorem en_f43 : Entered Tryz.prog 43 := .inr ⟨by decide, _, Tryz.func43, by kernel_rfl, by kernel_rfl⟩
theorem gk_f43 : GOk Tryz.prog g_f43 := gok_of _ (by
 intro p hp
 simp only [List.mem_cons, List.not_mem_nil, or_false] at hp
 rcases hp with rfl | rfl
 ·exact ⟨en_f19, ms_f19⟩
 ·exact ⟨en_f72, ms_f72⟩)
theorem lk_f43 : tc_f43.lok g_f43 := by repeat (first | exact trivial | refine ⟨?_, ?_⟩)
theorem s_f43 (y : Policy) (i : Item) (h : fineLen y i = true) : r_f43 y i = some (.tu [.t tI (ReachF y i).1, .t tI (ReachF y i).2], []) := by
 simp only [r_f43, h, br_true]
 unfold ReachF reachF
 rcases rcheck_ne (y := y) (i := i) with ⟨q1, q2⟩ | ⟨q1, q2, q3⟩
 ·rw [q1, q2]
  cases (FailsI y i).2.1 <;> rfl
 ·rw [q1, q2, q3]
  rfl
def sp_f43 : Ent := spec (.pr tyPolicy (.pr tyItem .nil)) (fun x => (fineLen x.1 x.2.1)) (fun x => (.tu [(.t tI ((ReachF x.1 x.2.1).1)), (.t tI ((ReachF x.1 x.2.1).2))]))
theorem ms_f43 : Meets Tryz.prog 43 (strip sp_f43) := by
 obtain ⟨c, hc, hi⟩ := Option.map_eq_some_iff.1 ok_f43
 exact meets_spec (R := runF g_f43 tc_f43 rv_f43 false) (meets_of (by decide) Tryz.func43 hc hi Tryz.ntmps43 rok_f43 gk_f43 lk_f43 mixed) fun x hok => (e_f43 x.1 x.2.1).trans (s_f43 x.1 x.2.1 hok)
def tc_f44 : TC := (.sq (.reg [(oM 2 (.box (.t 0))), (oM 3 (.box (.t 1))), (oP 4 (.mv (cB false))), (oP 5 (.mv (cI 0)))]) (.sq (.reg [(oM 9 (.ld true 2 (.t 2))), (oM 10 (.ld true 5 (.t 3))), (oC 11 43 [(.t 9), (.t 10)]), (oV 8 11), (oP 12 (.ext 0 (.t 8))), (oP 13 (.ext 1 (.t 8))), (oV 6 12), (oV 7 13)]) (.sq (.reg [(oV 14 7), (oP 15 (.bin false .eql (.t 14) (cI 0))), (oV 16 15), (oQ 17 16 true (.mv (.t 6))), (oQ 18 16 true (.fa 4 (.t 3))), (oG 19 16 true (.m (.ld false 1 (.t 18)))), (oQ 20 16 true (.bin false .geq (.t 17) (.t 19))), (oP 21 (.pick (.t 16) (.t 20) (cB false))), (oV 22 7), (oV 4 21), (oV 5 22)]) .rt)))
def rv_f44 : List (RV × Option Ty) := [((.t 4), some .bool), ((.t 5), some tI)]
def g_f44 : G := ⟨TYs, [], 23, EL [(43, sp_f43)], keeps, (fun _ _ => none), IL [], RL []⟩
def r_f44 (p0 : Policy) (p1 : Item) : Option (V × List VO) :=
 br ((fineLen p0 p1))
  (br ((ieq ((ReachF p0 p1).2) 0))
   (some (.tu [(.t .bool (ige ((ReachF p0 p1).1) p1.2.2.2.2.1)), (.t tI ((ReachF p0 p1).2))], []))
   (some (.tu [(.t .bool false), (.t tI ((ReachF p0 p1).2))], [])))
  (none)
theorem e_f44 (p0 : Policy) (p1 : Item) : runF g_f44 tc_f44 rv_f44 false [.t tyPolicy p0, .t tyItem p1] [] = r_f44 p0 p1 := by kernel_rfl
theorem ok_f44 : Option.map (trC Tryz.prog) Tryz.f44.body = some tc_f44.er := by kernel_rfl
theorem rok_f44 : trVs Tryz.prog Tryz.f44.results.toList = some (rv_f44.map Prod.fst) := by kernel_rfl
theorem en_f44 : Entered Tryz.prog 44 := .inr ⟨by decide, _, Tryz.func44, by kernel_rfl, by kernel_rfl⟩
theorem gk_f44 : GOk Tryz.prog g_f44 := gok_of _ (by
 intro p hp
 simp only [List.mem_cons, List.not_mem_nil, or_false] at hp
 rcases hp with rfl
 ·exact ⟨en_f43, ms_f43⟩)
theorem lk_f44 : tc_f44.lok g_f44 := by repeat (first | exact trivial | refine ⟨?_, ?_⟩)
theorem s_f44 (y : Policy) (i : Item) (h : fineLen y i = true) : r_f44 y i = some (.tu [.t .bool (HoldsF y i).1, .t tI (HoldsF y i).2], []) := by
 simp only [r_f44, h, br_true]
 unfold HoldsF ReachF
 rcases rcheck_ne (y := y) (i := i) with ⟨q1, q2⟩ | ⟨q1, q2, q3⟩
 ·rw [q1]
  rfl
 ·rw [q1]
  have q4 : ieq (ofE y i) 0 = false := by simpa [ine, ieq] using q3
  show br (ieq (ofE y i) 0) _ _ = _
  rw [q4]
  rfl
def sp_f44 : Ent := spec (.pr tyPolicy (.pr tyItem .nil)) (fun x => (fineLen x.1 x.2.1)) (fun x => (.tu [(.t .bool ((HoldsF x.1 x.2.1).1)), (.t tI ((HoldsF x.1 x.2.1).2))]))
theorem ms_f44 : Meets Tryz.prog 44 (strip sp_f44) := by
 obtain ⟨c, hc, hi⟩ := Option.map_eq_some_iff.1 ok_f44
 exact meets_spec (R := runF g_f44 tc_f44 rv_f44 false) (meets_of (by decide) Tryz.func44 hc hi Tryz.ntmps44 rok_f44 gk_f44 lk_f44 mixed) fun x hok => (e_f44 x.1 x.2.1).trans (s_f44 x.1 x.2.1 hok)
def tc_f73 : TC := (.sq (.reg [(oM 2 (.box (.t 0))), (oM 4 (.new [(.v (.string (ByteArray.mk #[]))), (.v (.int .i64 0)), (.v (.int .i64 0)), (.v (.slice none 0 0)), (.v (.int .i64 0))]))]) (.sq (.reg [(oP 5 (.fa 3 (.t 2))), (oL 6 5), (oM 7 (.app 62 3 24 (.c (.v (.slice none 0 0))) (.t 6))), (oV 8 1), (oM 9 (.app 62 3 24 (.t 7) (.t 8))), (oP 10 (.fa 3 (.t 2))), (.mk none none (.m (.st 1 (.t 10) (.t 9))))]) (.sq (.reg [(oM 11 (.ld true 5 (.t 2))), (.mk none none (.m (.st 5 (.t 4) (.t 11))))]) .rt)))
def rv_f73 : List (RV × Option Ty) := [((.c 4 true 5), some tyItem)]
def g_f73 : G := ⟨TYs, [], 12, EL [], keeps, (fun _ _ => none), IL [], RL []⟩
def r_f73 (p0 : Item) (p1 : (List Link)) : Option (V × List VO) :=
 br (cApp ([] : List Link) p0.2.2.2.1 24)
  (br (cApp (([] : List Link) ++ p0.2.2.2.1) p1 24)
   (some (.t tyItem (p0.1, (p0.2.1, (p0.2.2.1, (((([] : List Link) ++ p0.2.2.2.1) ++ p1), (p0.2.2.2.2.1, ()))))), []))
   (none))
  (none)
theorem e_f73 (p0 : Item) (p1 : (List Link)) : runF g_f73 tc_f73 rv_f73 false [.t tyItem p0, .t (.sl tyLink) p1] [] = r_f73 p0 p1 := by kernel_rfl
theorem ok_f73 : Option.map (trC Tryz.prog) Tryz.f73.body = some tc_f73.er := by kernel_rfl
theorem rok_f73 : trVs Tryz.prog Tryz.f73.results.toList = some (rv_f73.map Prod.fst) := by kernel_rfl
theorem en_f73 : Entered Tryz.prog 73 := .inr ⟨by decide, _, Tryz.func73, by kernel_rfl, by kernel_rfl⟩
theorem gk_f73 : GOk Tryz.prog g_f73 := gok_of _ (fun p hp => by cases hp)
theorem lk_f73 : tc_f73.lok g_f73 := by repeat (first | exact trivial | refine ⟨?_, ?_⟩)
theorem s_f73 (i : Item) (l : List Link) (h : applyOk i l = true) : r_f73 i l = some (.t tyItem (applyF i l), []) := by
 simp only [applyOk, Bool.and_eq_true, lenOk5, decide_eq_true_eq] at h
 have c1 : cApp ([] : List Link) i.2.2.2.1 24 = true := cApp_ok (by simp; omega) (by omega)
 have c2 : cApp (([] : List Link) ++ i.2.2.2.1) l 24 = true := cApp_ok (by simp; omega) (by omega)
 simp only [r_f73, c1, c2, br_true, frk_self]
 rfl
def sp_f73 : Ent := spec (.pr tyItem (.pr (.sl tyLink) .nil)) (fun x => (applyOk x.1 x.2.1)) (fun x => (.t tyItem (applyF x.1 x.2.1)))
theorem ms_f73 : Meets Tryz.prog 73 (strip sp_f73) := by
 obtain ⟨c, hc, hi⟩ := Option.map_eq_some_iff.1 ok_f73
 exact meets_spec (R := runF g_f73 tc_f73 rv_f73 false) (meets_of (by decide) Tryz.func73 hc hi Tryz.ntmps73 rok_f73 gk_f73 lk_f73 mixed) fun x hok => (e_f73 x.1 x.2.1).trans (s_f73 x.1 x.2.1 hok)
def schOk2 (y : Policy) (i : Item) (us : List Keep) (_f : Int) : Bool := fineLen y i && lenOk5 us
def dr_f45_0 : List DO := [(.mk (oM 55 (.ld true 2 (.t 4))) []), (.mk (oV 56 2) []), (.mk (oP 57 (.fa 2 (.t 5))) []), (.mk (oL 58 57) [2]), (.mk (oV 59 3) []), (.mk (oP 60 (.fa 3 (.t 5))) []), (.mk (oL 61 60) [5]), (.mk (oP 62 (.fa 3 (.t 5))) []), (.mk (oL 63 62) [7]), (.mk (oP 64 (.len false (.t 63))) [8]), (.mk (oP 65 (.bin false .sub (.t 64) (cI 1))) [9]), (.mk (oP 66 (.ix 3 (.t 61) (.t 65))) [6, 10]), (.mk (oP 67 (.fa 2 (.t 66))) [11]), (.mk (oL 68 67) [12]), (.mk (oP 69 (.bin false .add (.t 68) (cI 1))) [13]), (.mk (oP 70 (.mx (.t 59) (.t 69))) [4, 14]), (.mk (oV 71 14) []), (.mk (oC 72 71 [(.t 55), (.t 56), (.t 58), (.t 70), (.t 71)]) [0, 1, 3, 15, 16]), (.mk (oV 54 72) [17]), (.mk (oP 73 (.ext 0 (.t 54))) [18]), (.mk (oP 74 (.ext 1 (.t 54))) [18]), (.mk (oM 17 (.new [(.v (.int .i64 0)), (.v (.int .i64 0)), (.v (.int .i64 0))])) []), (.mk (.mk none none (.m (.st 3 (.t 17) (.t 73)))) [21, 19, 17, 0, 1, 2, 3, 4, 5, 6, 7, 8, 9, 10, 11, 12, 13, 14, 15, 16, 17, 18, 19, 21]), (.mk (oV 18 74) [20, 22, 0, 1, 2, 3, 4, 5, 6, 7, 8, 9, 10, 11, 12, 13, 14, 15, 16, 17, 18, 19, 20, 21, 22])]
def dr_f45_1 : List DO := [(.mk (oM 100 (.ld true 5 (.t 19))) []), (.mk (oV 101 11) []), (.mk (oM 102 (.ld true 3 (.t 17))) []), (.mk (oM 103 (.bs 62 3 1 [(.v (.int .i64 0)), (.v (.int .i64 0)), (.v (.int .i64 0))] [(0, 3, (.t 102))])) [2]), (.mk (oM 104 (.app 62 3 24 (.t 101) (.t 103))) [1, 3]), (.mk (.mk none none (.m (.st 5 (.t 5) (.t 100)))) [0, 4, 0]), (.mk (oV 11 104) [4, 5, 0, 1, 2, 3, 4, 5])]
def fg_f45_0 : Fg := ⟨[(2, some (.sl tyKeep)), (3, some tI), (4, none), (5, none), (11, none)], [(4, some tyPolicy), (5, some tyItem), (11, none), (104, none)]⟩
def tb_f45_0 : TC := (.bk 1 (.sq (.sq (.reg [(oM 38 (.ld true 2 (.t 4))), (oM 39 (.ld true 5 (.t 5))), (oC 40 44 [(.t 38), (.t 39)]), (oV 37 40), (oP 41 (.ext 0 (.t 37))), (oP 42 (.ext 1 (.t 37))), (oV 12 41), (oV 13 42)]) (.sq (.reg [(oV 43 12)]) (.cd (.t 43) (.sq (.reg [(oV 44 11), (oV 8 44), (oP 9 (.mv (cI 0)))]) (.fz [11] (.fg ⟨[(8, some (.sl tyLink)), (9, some tI)], [(104, none)]⟩ .rt))) .sk))) (.sq (.reg [(oM 46 (.ld true 2 (.t 4))), (oM 47 (.ld true 5 (.t 5))), (oC 48 21 [(.t 46), (.t 47)]), (oV 45 48), (oP 49 (.ext 0 (.t 45))), (oP 50 (.ext 1 (.t 45))), (oP 51 (.ext 2 (.t 45))), (oV 14 49), (oV 15 50), (oV 16 51)]) (.sq (.sq (.reg [(oV 52 15), (oP 53 (.nt (.t 52)))]) (.cd (.t 53) (.sq (.reg [(oP 8 (.mv (.c (.v (.slice none 0 0))))), (oP 9 (.mv (cI 51)))]) (.fz [11] (.fg ⟨[(8, some (.sl tyLink)), (9, some tI)], [(104, none)]⟩ .rt))) .sk)) (.sq (.dr dr_f45_0 [(0, [4]), (1, []), (2, [5]), (3, [5]), (4, []), (5, [5]), (6, [5]), (7, [5]), (8, [5]), (9, []), (10, []), (11, []), (12, []), (13, []), (14, []), (15, []), (16, []), (17, []), (18, []), (19, []), (20, []), (21, [17, 5017, 10017, 15017]), (22, [17]), (23, [])] (.of [0, 1, 2, 3, 4, 5, 6, 7, 8, 9, 10, 11, 12, 13, 14, 15, 16, 17, 18, 19, 20, 21, 22, 23])) (.sq (.sq (.reg [(oV 75 18), (oP 76 (.nt (.t 75)))]) (.cd (.t 76) (.sq (.reg [(oP 8 (.mv (.c (.v (.slice none 0 0))))), (oP 9 (.mv (cI 51)))]) (.fz [11] (.fg ⟨[(8, some (.sl tyLink)), (9, some tI)], [(104, none)]⟩ .rt))) .sk)) (.sq (.reg [(oM 77 (.ld true 5 (.t 5))), (oM 78 (.ld true 3 (.t 17))), (oM 79 (.bs 62 3 1 [(.v (.int .i64 0)), (.v (.int .i64 0)), (.v (.int .i64 0))] [(0, 3, (.t 78))])), (oC 80 73 [(.t 77), (.t 79)]), (oM 19 (.new [(.v (.string (ByteArray.mk #[]))), (.v (.int .i64 0)), (.v (.int .i64 0)), (.v (.slice none 0 0)), (.v (.int .i64 0))])), (.mk none none (.m (.st 5 (.t 19) (.t 80))))]) (.sq (.sq (.reg [(oP 81 (.fa 3 (.t 19))), (oL 82 81), (oP 83 (.len false (.t 82))), (oP 84 (.bin false .gtr (.t 83) (cI 8)))]) (.cd (.t 84) (.sq (.reg [(oP 8 (.mv (.c (.v (.slice none 0 0))))), (oP 9 (.mv (cI 3)))]) (.fz [11] (.fg ⟨[(8, some (.sl tyLink)), (9, some tI)], [(104, none)]⟩ .rt))) .sk)) (.sq (.reg [(oM 86 (.ld true 2 (.t 4))), (oM 87 (.ld true 5 (.t 5))), (oC 88 43 [(.t 86), (.t 87)]), (oV 85 88), (oP 89 (.ext 0 (.t 85))), (oP 90 (.ext 1 (.t 85))), (oV 20 89), (oV 21 90)]) (.sq (.sq (.reg [(oM 91 (.ld true 2 (.t 4))), (oP 92 (.fa 0 (.t 17))), (oM 93 (.ld true 2 (.t 92))), (oP 94 (.fa 2 (.t 5))), (oL 95 94), (oC 96 74 [(.t 91), (.t 93), (.t 95)]), (oP 97 (.bin false .sub (.t 96) (cI 1))), (oV 98 20), (oP 99 (.bin false .leq (.t 97) (.t 98)))]) (.cd (.t 99) (.sq (.reg [(oP 8 (.mv (.c (.v (.slice none 0 0))))), (oP 9 (.mv (cI 51)))]) (.fz [11] (.fg ⟨[(8, some (.sl tyLink)), (9, some tI)], [(104, none)]⟩ .rt))) .sk)) (.dr dr_f45_1 [(0, [19]), (1, [11, 104]), (2, [17]), (3, []), (4, [11, 104, 5104, 10104, 15104]), (5, [5]), (6, [11, 104])] (.of [0, 1, 2, 3, 4, 5, 6]))))))))))))
def tc_f45 : TC := (.sq (.reg [(oM 4 (.box (.t 0))), (oM 5 (.box (.t 1))), (oP 8 (.mv (.c (.v (.slice none 0 0))))), (oP 9 (.mv (cI 0)))]) (.sq (.sq (.reg [(oM 22 (.ld true 2 (.t 4))), (oM 23 (.ld true 5 (.t 5))), (oC 24 72 [(.t 22), (.t 23)]), (oV 10 24)]) (.sq (.reg [(oV 25 10), (oP 26 (.bin false .neq (.t 25) (cI 0)))]) (.cd (.t 26) (.sq (.reg [(oV 27 10), (oP 8 (.mv (.c (.v (.slice none 0 0))))), (oV 9 27)]) .rt) .sk))) (.sq (.sq (.reg [(oV 28 2), (oC 29 70 [(.t 28)]), (oP 30 (.nt (.t 29)))]) (.cd (.t 30) (.sq (.reg [(oP 8 (.mv (.c (.v (.slice none 0 0))))), (oP 9 (.mv (cI 7)))]) .rt) .sk)) (.sq (.sq (.reg [(oV 31 3), (oP 32 (.bin false .lss (.t 31) (cI 0))), (oV 33 32), (oQ 34 33 false (.mv (.t 3))), (oQ 35 33 false (.bin false .gtr (.t 34) (cI 40000))), (oP 36 (.pick (.t 33) (cB true) (.t 35)))]) (.cd (.t 36) (.sq (.reg [(oP 8 (.mv (.c (.v (.slice none 0 0))))), (oP 9 (.mv (cI 2)))]) .rt) .sk)) (.sq (.reg [(oP 11 (.mv (.c (.v (.slice none 0 0)))))]) (.bk 0 (.nw 11 62 (.lp 0 fg_f45_0 tb_f45_0))))))))
def rv_f45 : List (RV × Option Ty) := [((.t 8), some (.sl tyLink)), ((.t 9), some tI)]
abbrev sh_f45_0 : Sh := ⟨[(2, .ty (.sl tyKeep)), (3, .ty tI), (4, .ptr 4 0), (5, .ptr 5 0), (11, .ms 11)], [(4, .box tyPolicy), (5, .box tyItem), (11, .arr 62 tyLink), (104, .no)]⟩
def st_f45_0 (x2 : (List Keep)) (x3 : Int) (y4 : Policy) (y5 : Item) (y11 : (List Link)) : VS := sh_f45_0.st (x2, x3, (), (), (), ()) (y4, y5, y11, (), ())
abbrev sh_f45_0_ret : Sh := ⟨[(8, .ty (.sl tyLink)), (9, .ty tI)], [(104, .no)]⟩
def st_f45_0_ret (x8 : (List Link)) (x9 : Int) : VS := sh_f45_0_ret.st (x8, x9, ()) ((), ())
-- loop 0: (x2 : (List Keep)) (x3 : Int) (y4 : Policy) (y5 : Item) (y11 : (List Link)); out: ('ret',) (x8 : (List Link)) (x9 : Int)
def L_f45_0 : VS → Option (Bool × List (Bool × Exit × VS)) := mkL sh_f45_0 (fun x y => (fineB y.1 y.2.1 && x.1.all validF && lenOk5 x.1 && decide (0 ≤ x.2.1 ∧ y.2.2.1.length ≤ y.2.1.2.2.2.1.length))) (fun x y => [(true, .ret, st_f45_0_ret (if (schZ y.1 x.1 x.2.1 (9 - y.2.1.2.2.2.1.length) y.2.1 y.2.2.1).2 = 0 then (schZ y.1 x.1 x.2.1 (9 - y.2.1.2.2.2.1.length) y.2.1 y.2.2.1).1 else []) ((schZ y.1 x.1 x.2.1 (9 - y.2.1.2.2.2.1.length) y.2.1 y.2.2.1).2))])
def g_f45 : G := ⟨TYs, [], 105, EL [(21, sp_f21), (43, sp_f43), (44, sp_f44), (70, sp_f70), (71, sp_f71), (72, sp_f72), (73, sp_f73), (74, sp_f74)], keeps, (Ls [L_f45_0]), IL [], RL []⟩
def b_f45_0 (x2 : (List Keep)) (x3 : Int) (y4 : Policy) (y5 : Item) (y11 : (List Link)) : Option (Exit × VS) :=
 br ((fineLen y4 y5))
  (br ((HoldsF y4 y5).1)
   (some (.ret, st_f45_0_ret y11 0))
   (br ((fineLen y4 y5))
    (br ((!(((LatestF y4 y5).2).1)))
     (some (.ret, st_f45_0_ret ([] : List Link) 51))
     (br (cIx y5.2.2.2.1 (isub .i64 (llen y5.2.2.2.1) 1))
      (br ((bestOk y4 x2 y5.2.2.1 (imx x3 (iadd .i64 (((lgt tyLink y5.2.2.2.1 (Int.toNat (isub .i64 (llen y5.2.2.2.1) 1))).2).1) 1)) ((LatestF y4 y5).1)))
       (br ((!((bestF y4 x2 y5.2.2.1 (imx x3 (iadd .i64 (((lgt tyLink y5.2.2.2.1 (Int.toNat (isub .i64 (llen y5.2.2.2.1) 1))).2).1) 1)) ((LatestF y4 y5).1)).2)))
        (some (.ret, st_f45_0_ret ([] : List Link) 51))
        (br ((applyOk y5 ([(((((bestF y4 x2 y5.2.2.1 (imx x3 (iadd .i64 (((lgt tyLink y5.2.2.2.1 (Int.toNat (isub .i64 (llen y5.2.2.2.1) 1))).2).1) 1)) ((LatestF y4 y5).1)).1).1).1, (((((bestF y4 x2 y5.2.2.1 (imx x3 (iadd .i64 (((lgt tyLink y5.2.2.2.1 (Int.toNat (isub .i64 (llen y5.2.2.2.1) 1))).2).1) 1)) ((LatestF y4 y5).1)).1).1).2).1, ())), ((((bestF y4 x2 y5.2.2.1 (imx x3 (iadd .i64 (((lgt tyLink y5.2.2.2.1 (Int.toNat (isub .i64 (llen y5.2.2.2.1) 1))).2).1) 1)) ((LatestF y4 y5).1)).1).2).1, ()))])))
         (br ((igt (llen (((((applyF y5 ([(((((bestF y4 x2 y5.2.2.1 (imx x3 (iadd .i64 (((lgt tyLink y5.2.2.2.1 (Int.toNat (isub .i64 (llen y5.2.2.2.1) 1))).2).1) 1)) ((LatestF y4 y5).1)).1).1).1, (((((bestF y4 x2 y5.2.2.1 (imx x3 (iadd .i64 (((lgt tyLink y5.2.2.2.1 (Int.toNat (isub .i64 (llen y5.2.2.2.1) 1))).2).1) 1)) ((LatestF y4 y5).1)).1).1).2).1, ())), ((((bestF y4 x2 y5.2.2.1 (imx x3 (iadd .i64 (((lgt tyLink y5.2.2.2.1 (Int.toNat (isub .i64 (llen y5.2.2.2.1) 1))).2).1) 1)) ((LatestF y4 y5).1)).1).2).1, ()))])).2).2).2).1)) 8))
          (some (.ret, st_f45_0_ret ([] : List Link) 3))
          (br ((fineLen y4 y5))
           (br ((polLen3 y4 (((bestF y4 x2 y5.2.2.1 (imx x3 (iadd .i64 (((lgt tyLink y5.2.2.2.1 (Int.toNat (isub .i64 (llen y5.2.2.2.1) 1))).2).1) 1)) ((LatestF y4 y5).1)).1).1) y5.2.2.1))
            (br ((ile (isub .i64 (fallU y4 (((bestF y4 x2 y5.2.2.1 (imx x3 (iadd .i64 (((lgt tyLink y5.2.2.2.1 (Int.toNat (isub .i64 (llen y5.2.2.2.1) 1))).2).1) 1)) ((LatestF y4 y5).1)).1).1) y5.2.2.1) 1) ((ReachF y4 y5).1)))
             (some (.ret, st_f45_0_ret ([] : List Link) 51))
             (br (cApp y11 ([(((((bestF y4 x2 y5.2.2.1 (imx x3 (iadd .i64 (((lgt tyLink y5.2.2.2.1 (Int.toNat (isub .i64 (llen y5.2.2.2.1) 1))).2).1) 1)) ((LatestF y4 y5).1)).1).1).1, (((((bestF y4 x2 y5.2.2.1 (imx x3 (iadd .i64 (((lgt tyLink y5.2.2.2.1 (Int.toNat (isub .i64 (llen y5.2.2.2.1) 1))).2).1) 1)) ((LatestF y4 y5).1)).1).1).2).1, ())), ((((bestF y4 x2 y5.2.2.1 (imx x3 (iadd .i64 (((lgt tyLink y5.2.2.2.1 (Int.toNat (isub .i64 (llen y5.2.2.2.1) 1))).2).1) 1)) ((LatestF y4 y5).1)).1).2).1, ()))]) 24)
              (some (.normal, st_f45_0 x2 x3 y4 (applyF y5 ([(((((bestF y4 x2 y5.2.2.1 (imx x3 (iadd .i64 (((lgt tyLink y5.2.2.2.1 (Int.toNat (isub .i64 (llen y5.2.2.2.1) 1))).2).1) 1)) ((LatestF y4 y5).1)).1).1).1, (((((bestF y4 x2 y5.2.2.1 (imx x3 (iadd .i64 (((lgt tyLink y5.2.2.2.1 (Int.toNat (isub .i64 (llen y5.2.2.2.1) 1))).2).1) 1)) ((LatestF y4 y5).1)).1).1).2).1, ())), ((((bestF y4 x2 y5.2.2.1 (imx x3 (iadd .i64 (((lgt tyLink y5.2.2.2.1 (Int.toNat (isub .i64 (llen y5.2.2.2.1) 1))).2).1) 1)) ((LatestF y4 y5).1)).1).2).1, ()))])) (y11 ++ ([(((((bestF y4 x2 y5.2.2.1 (imx x3 (iadd .i64 (((lgt tyLink y5.2.2.2.1 (Int.toNat (isub .i64 (llen y5.2.2.2.1) 1))).2).1) 1)) ((LatestF y4 y5).1)).1).1).1, (((((bestF y4 x2 y5.2.2.1 (imx x3 (iadd .i64 (((lgt tyLink y5.2.2.2.1 (Int.toNat (isub .i64 (llen y5.2.2.2.1) 1))).2).1) 1)) ((LatestF y4 y5).1)).1).1).2).1, ())), ((((bestF y4 x2 y5.2.2.1 (imx x3 (iadd .i64 (((lgt tyLink y5.2.2.2.1 (Int.toNat (isub .i64 (llen y5.2.2.2.1) 1))).2).1) 1)) ((LatestF y4 y5).1)).1).2).1, ()))]))))
              (none)))
            (none))
           (none)))
         (none)))
       (none))
      (none)))
    (none)))
  (none)
noncomputable def lp_f45_0 (x2 : (List Keep)) (x3 : Int) (y4 : Policy) (y5 : Item) (y11 : (List Link)) : Option (Exit × VS) := loopF (roundF g_f45 fg_f45_0 tb_f45_0) (st_f45_0 x2 x3 y4 y5 y11)
noncomputable def n_f45_0 (x2 : (List Keep)) (x3 : Int) (y4 : Policy) (y5 : Item) (y11 : (List Link)) : Option (Exit × VS) :=
 br ((fineLen y4 y5))
  (br ((HoldsF y4 y5).1)
   (some (.ret, st_f45_0_ret y11 0))
   (br ((fineLen y4 y5))
    (br ((!(((LatestF y4 y5).2).1)))
     (some (.ret, st_f45_0_ret ([] : List Link) 51))
     (br (cIx y5.2.2.2.1 (isub .i64 (llen y5.2.2.2.1) 1))
      (br ((bestOk y4 x2 y5.2.2.1 (imx x3 (iadd .i64 (((lgt tyLink y5.2.2.2.1 (Int.toNat (isub .i64 (llen y5.2.2.2.1) 1))).2).1) 1)) ((LatestF y4 y5).1)))
       (br ((!((bestF y4 x2 y5.2.2.1 (imx x3 (iadd .i64 (((lgt tyLink y5.2.2.2.1 (Int.toNat (isub .i64 (llen y5.2.2.2.1) 1))).2).1) 1)) ((LatestF y4 y5).1)).2)))
        (some (.ret, st_f45_0_ret ([] : List Link) 51))
        (br ((applyOk y5 ([(((((bestF y4 x2 y5.2.2.1 (imx x3 (iadd .i64 (((lgt tyLink y5.2.2.2.1 (Int.toNat (isub .i64 (llen y5.2.2.2.1) 1))).2).1) 1)) ((LatestF y4 y5).1)).1).1).1, (((((bestF y4 x2 y5.2.2.1 (imx x3 (iadd .i64 (((lgt tyLink y5.2.2.2.1 (Int.toNat (isub .i64 (llen y5.2.2.2.1) 1))).2).1) 1)) ((LatestF y4 y5).1)).1).1).2).1, ())), ((((bestF y4 x2 y5.2.2.1 (imx x3 (iadd .i64 (((lgt tyLink y5.2.2.2.1 (Int.toNat (isub .i64 (llen y5.2.2.2.1) 1))).2).1) 1)) ((LatestF y4 y5).1)).1).2).1, ()))])))
         (br ((igt (llen (((((applyF y5 ([(((((bestF y4 x2 y5.2.2.1 (imx x3 (iadd .i64 (((lgt tyLink y5.2.2.2.1 (Int.toNat (isub .i64 (llen y5.2.2.2.1) 1))).2).1) 1)) ((LatestF y4 y5).1)).1).1).1, (((((bestF y4 x2 y5.2.2.1 (imx x3 (iadd .i64 (((lgt tyLink y5.2.2.2.1 (Int.toNat (isub .i64 (llen y5.2.2.2.1) 1))).2).1) 1)) ((LatestF y4 y5).1)).1).1).2).1, ())), ((((bestF y4 x2 y5.2.2.1 (imx x3 (iadd .i64 (((lgt tyLink y5.2.2.2.1 (Int.toNat (isub .i64 (llen y5.2.2.2.1) 1))).2).1) 1)) ((LatestF y4 y5).1)).1).2).1, ()))])).2).2).2).1)) 8))
          (some (.ret, st_f45_0_ret ([] : List Link) 3))
          (br ((fineLen y4 y5))
           (br ((polLen3 y4 (((bestF y4 x2 y5.2.2.1 (imx x3 (iadd .i64 (((lgt tyLink y5.2.2.2.1 (Int.toNat (isub .i64 (llen y5.2.2.2.1) 1))).2).1) 1)) ((LatestF y4 y5).1)).1).1) y5.2.2.1))
            (br ((ile (isub .i64 (fallU y4 (((bestF y4 x2 y5.2.2.1 (imx x3 (iadd .i64 (((lgt tyLink y5.2.2.2.1 (Int.toNat (isub .i64 (llen y5.2.2.2.1) 1))).2).1) 1)) ((LatestF y4 y5).1)).1).1) y5.2.2.1) 1) ((ReachF y4 y5).1)))
             (some (.ret, st_f45_0_ret ([] : List Link) 51))
             (br (cApp y11 ([(((((bestF y4 x2 y5.2.2.1 (imx x3 (iadd .i64 (((lgt tyLink y5.2.2.2.1 (Int.toNat (isub .i64 (llen y5.2.2.2.1) 1))).2).1) 1)) ((LatestF y4 y5).1)).1).1).1, (((((bestF y4 x2 y5.2.2.1 (imx x3 (iadd .i64 (((lgt tyLink y5.2.2.2.1 (Int.toNat (isub .i64 (llen y5.2.2.2.1) 1))).2).1) 1)) ((LatestF y4 y5).1)).1).1).2).1, ())), ((((bestF y4 x2 y5.2.2.1 (imx x3 (iadd .i64 (((lgt tyLink y5.2.2.2.1 (Int.toNat (isub .i64 (llen y5.2.2.2.1) 1))).2).1) 1)) ((LatestF y4 y5).1)).1).2).1, ()))]) 24)
              (lp_f45_0 x2 x3 y4 (applyF y5 ([(((((bestF y4 x2 y5.2.2.1 (imx x3 (iadd .i64 (((lgt tyLink y5.2.2.2.1 (Int.toNat (isub .i64 (llen y5.2.2.2.1) 1))).2).1) 1)) ((LatestF y4 y5).1)).1).1).1, (((((bestF y4 x2 y5.2.2.1 (imx x3 (iadd .i64 (((lgt tyLink y5.2.2.2.1 (Int.toNat (isub .i64 (llen y5.2.2.2.1) 1))).2).1) 1)) ((LatestF y4 y5).1)).1).1).2).1, ())), ((((bestF y4 x2 y5.2.2.1 (imx x3 (iadd .i64 (((lgt tyLink y5.2.2.2.1 (Int.toNat (isub .i64 (llen y5.2.2.2.1) 1))).2).1) 1)) ((LatestF y4 y5).1)).1).2).1, ()))])) (y11 ++ ([(((((bestF y4 x2 y5.2.2.1 (imx x3 (iadd .i64 (((lgt tyLink y5.2.2.2.1 (Int.toNat (isub .i64 (llen y5.2.2.2.1) 1))).2).1) 1)) ((LatestF y4 y5).1)).1).1).1, (((((bestF y4 x2 y5.2.2.1 (imx x3 (iadd .i64 (((lgt tyLink y5.2.2.2.1 (Int.toNat (isub .i64 (llen y5.2.2.2.1) 1))).2).1) 1)) ((LatestF y4 y5).1)).1).1).2).1, ())), ((((bestF y4 x2 y5.2.2.1 (imx x3 (iadd .i64 (((lgt tyLink y5.2.2.2.1 (Int.toNat (isub .i64 (llen y5.2.2.2.1) 1))).2).1) 1)) ((LatestF y4 y5).1)).1).2).1, ()))])))
              (none)))
            (none))
           (none)))
         (none)))
       (none))
      (none)))
    (none)))
  (none)
def la_f45_0 (x2 : (List Keep)) (x3 : Int) (y4 : Policy) (y5 : Item) (y11 : (List Link)) : Option (Exit × VS) := some (.ret, st_f45_0_ret (if (schZ y4 x2 x3 (9 - y5.2.2.2.1.length) y5 y11).2 = 0 then (schZ y4 x2 x3 (9 - y5.2.2.2.1.length) y5 y11).1 else []) ((schZ y4 x2 x3 (9 - y5.2.2.2.1.length) y5 y11).2))
theorem be_f45_0 (x2 : (List Keep)) (x3 : Int) (y4 : Policy) (y5 : Item) (y11 : (List Link)) : roundF g_f45 fg_f45_0 tb_f45_0 (st_f45_0 x2 x3 y4 y5 y11) = b_f45_0 x2 x3 y4 y5 y11 := by kernel_rfl
theorem ln_f45_0 (x2 : (List Keep)) (x3 : Int) (y4 : Policy) (y5 : Item) (y11 : (List Link)) : lp_f45_0 x2 x3 y4 y5 y11 = n_f45_0 x2 x3 y4 y5 y11 := (loopF_nxt _ _).trans (by
 rw [be_f45_0]
 simp only [b_f45_0, n_f45_0, nxt_br, nxt_n, nxt_r, nxt_e, nxt_0]
 rfl)
def r_f45 (p0 : Policy) (p1 : Item) (p2 : (List Keep)) (p3 : Int) : Option (V × List VO) :=
 br ((fineLen p0 p1))
  (br ((ine (rcheckF p0 p1) 0))
   (some (.tu [(.t (.sl tyLink) ([] : List Link)), (.t tI (rcheckF p0 p1))], []))
   (br ((lenOk5 p2))
    (br ((!(validsF p2)))
     (some (.tu [(.t (.sl tyLink) ([] : List Link)), (.t tI 7)], []))
     (br ((ilt p3 0))
      (some (.tu [(.t (.sl tyLink) ([] : List Link)), (.t tI 2)], []))
      (br ((igt p3 40000))
       (some (.tu [(.t (.sl tyLink) ([] : List Link)), (.t tI 2)], []))
       (br ((fineB p0 p1 && p2.all validF && lenOk5 p2 && decide (0 ≤ p3 ∧ ([] : List Link).length ≤ p1.2.2.2.1.length)))
        (some (.tu [(.t (.sl tyLink) (if (schZ p0 p2 p3 (9 - p1.2.2.2.1.length) p1 ([] : List Link)).2 = 0 then (schZ p0 p2 p3 (9 - p1.2.2.2.1.length) p1 ([] : List Link)).1 else [])), (.t tI ((schZ p0 p2 p3 (9 - p1.2.2.2.1.length) p1 ([] : List Link)).2))], []))
        (none)))))
    (none)))
  (none)
theorem e_f45 (p0 : Policy) (p1 : Item) (p2 : (List Keep)) (p3 : Int) : runF g_f45 tc_f45 rv_f45 false [.t tyPolicy p0, .t tyItem p1, .t (.sl tyKeep) p2, .t tI p3] [] = r_f45 p0 p1 p2 p3 := by kernel_rfl
theorem ok_f45 : Option.map (trC Tryz.prog) Tryz.f45.body = some tc_f45.er := by kernel_rfl
theorem rok_f45 : trVs Tryz.prog Tryz.f45.results.toList = some (rv_f45.map Prod.fst) := by kernel_rfl
theorem en_f45 : Entered Tryz.prog 45 := .inr ⟨by decide, _, Tryz.func45, by kernel_rfl, by kernel_rfl⟩
theorem gk_f45 : GOk Tryz.prog g_f45 := gok_of _ (by
 intro p hp
 simp only [List.mem_cons, List.not_mem_nil, or_false] at hp
 rcases hp with rfl | rfl | rfl | rfl | rfl | rfl | rfl | rfl
 ·exact ⟨en_f21, ms_f21⟩
 ·exact ⟨en_f43, ms_f43⟩
 ·exact ⟨en_f44, ms_f44⟩
 ·exact ⟨en_f70, ms_f70⟩
 ·exact ⟨en_f71, ms_f71⟩
 ·exact ⟨en_f72, ms_f72⟩
 ·exact ⟨en_f73, ms_f73⟩
 ·exact ⟨en_f74, ms_f74⟩)
def dayR (i : Item) : Int := iadd .i64 (lgt tyLink i.2.2.2.1 (Int.toNat (isub .i64 (llen i.2.2.2.1) 1))).2.1 1
def nxR (y : Policy) (us : List Keep) (from_ : Int) (i : Item) : Link × Bool := bestF y us i.2.2.1 (imx from_ (dayR i)) (LatestF y i).1
theorem n_schR_eq (x2 : List Keep) (x3 : Int) (y4 : Policy) (y5 : Item) (y11 : List Link) : n_f45_0 x2 x3 y4 y5 y11 =
  br (fineLen y4 y5) (br (HoldsF y4 y5).1 (some (.ret, st_f45_0_ret y11 0)) (br (fineLen y4 y5) (br (!(LatestF y4 y5).2.1) (some (.ret, st_f45_0_ret [] 51)) (br (cIx y5.2.2.2.1 (isub .i64 (llen y5.2.2.2.1) 1)) (br (bestOk y4 x2 y5.2.2.1 (imx x3 (dayR y5)) (LatestF y4 y5).1)
   (br (!(nxR y4 x2 x3 y5).2) (some (.ret, st_f45_0_ret [] 51)) (br (applyOk y5 [(nxR y4 x2 x3 y5).1]) (br (igt (llen (applyF y5 [(nxR y4 x2 x3 y5).1]).2.2.2.1) 8) (some (.ret, st_f45_0_ret [] 3)) (br (fineLen y4 y5) (br (polLen3 y4 (nxR y4 x2 x3 y5).1.1 y5.2.2.1)
    (br (ile (isub .i64 (fallU y4 (nxR y4 x2 x3 y5).1.1 y5.2.2.1) 1) (ReachF y4 y5).1) (some (.ret, st_f45_0_ret [] 51)) (br (cApp y11 [(nxR y4 x2 x3 y5).1] 24) (lp_f45_0 x2 x3 y4 (applyF y5 [(nxR y4 x2 x3 y5).1]) (y11 ++ [(nxR y4 x2 x3 y5).1])) none)) none) none)) none)) none) none)) none)) none := by kernel_rfl
theorem l_f45_0 (x2 : (List Keep)) (x3 : Int) (y4 : Policy) (y5 : Item) (y11 : (List Link)) (h : (fineB y4 y5 && x2.all validF && lenOk5 x2 && decide (0 ≤ x3 ∧ y11.length ≤ y5.2.2.2.1.length)) = true) : lp_f45_0 x2 x3 y4 y5 y11 = la_f45_0 x2 x3 y4 y5 y11 := by
 simp only [Bool.and_eq_true, decide_eq_true_eq] at h
 obtain ⟨⟨⟨hf, hu⟩, hl⟩, h0, h1⟩ := h
 have hI0 : y5.2.2.2.1.length ≤ 8 := by
  simp only [fineB, Bool.and_eq_true] at hf
  exact (itemOk_iff.1 hf.2).2.2.2.1.2
 obtain ⟨m, hm⟩ : ∃ m, m = 8 - y5.2.2.2.1.length := ⟨_, rfl⟩
 induction m using Nat.strongRecOn generalizing y5 y11 with
 | ind m ih =>
  rw [ln_f45_0, n_schR_eq]
  have hf2 := hf
  simp only [fineB, Bool.and_eq_true] at hf2
  have hI := itemOk_iff.1 hf2.2
  have e9 : 9 - y5.2.2.2.1.length = (8 - y5.2.2.2.1.length) + 1 := by omega
  obtain ⟨_, _, _, e7, e8⟩ := fine_lens hf
  have f1 := len_of hf
  unfold la_f45_0
  rw [e9]
  unfold schZ
  have eH : (HoldsF y4 y5).1 = !(ilt (reachF y4 y5) y5.2.2.2.2.1) := by
   unfold HoldsF
   rw [hf, if_pos rfl]
   simp only [ige, ilt]
   rw [← decide_not]
   congr 1
   exact propext ⟨fun h => Int.not_lt.2 h, fun h => Int.not_lt.1 h⟩
  rw [f1, br_true, eH]
  cases c1 : ilt (reachF y4 y5) y5.2.2.2.2.1 with
  | false => rfl
  | true =>
   rw [Bool.not_true, br_false, br_true, cond_true]
   cases c2 : (LatestF y4 y5).2.1 with
   | false => rfl
   | true =>
    obtain ⟨l, x, e, hx, hk, hc, eL, hlt, hle, hl0, _⟩ := latest_law hf c2
    have ed : dayR y5 = lastDay y5 + 1 := by
     unfold dayR
     rw [e7, Int.toNat_natCast]
     exact iadd_in (by show _ ≤ lastDay y5 + 1 ∧ lastDay y5 + 1 ≤ _; omega)
    have en : nxR y4 x2 x3 y5 = nxB y4 x2 x3 y5 := by unfold nxR nxB; rw [ed]
    have hb : bestOk y4 x2 y5.2.2.1 (imx x3 (dayR y5)) (LatestF y4 y5).1 = true := by
     unfold bestOk
     rw [hf2.1, hu, hl]
     exact decide_eq_true hI.2.2.1
    rw [e7, e8, hb, en, Bool.not_true, br_false, br_true, br_true, cond_true]
    cases c3 : (nxB y4 x2 x3 y5).2 with
    | false => rfl
    | true =>
     rw [Bool.not_true, br_false, cond_true]
     obtain ⟨u, d, g1, g2, g3, g4, g5, g6, g7, g8, g9, g10⟩ := nx_law hf hu h0 c2 c3
     have ea : applyF y5 [(nxB y4 x2 x3 y5).1] = moreL y5 u d := by rw [g4]; rfl
     have hlen : (applyF y5 [(nxB y4 x2 x3 y5).1]).2.2.2.1.length = y5.2.2.2.1.length + 1 := by
      rw [ea]
      show (y5.2.2.2.1 ++ [(u, (d, ()))]).length = _
      simp
     have f3 : applyOk y5 [(nxB y4 x2 x3 y5).1] = true := by
      unfold applyOk lenOk5
      rw [Bool.and_eq_true]
      exact ⟨decide_eq_true (by omega), decide_eq_true (by simp)⟩
     have e8c : igt (llen (applyF y5 [(nxB y4 x2 x3 y5).1]).2.2.2.1) 8 = ige (llen y5.2.2.2.1) 8 := by
      unfold igt ige llen
      rw [hlen, decide_eq_decide]
      omega
     rw [f3, br_true, e8c]
     cases c4 : ige (llen y5.2.2.2.1) 8 with
     | true => rfl
     | false =>
      simp only [ige, llen, decide_eq_false_iff_not] at c4
      obtain ⟨n1, n2, n3, n4⟩ := next_law hf c2 g2 (by omega) g6 g8 g10
      have f4 : cApp y11 [(nxB y4 x2 x3 y5).1] 24 = true := cApp_ok (by simp; omega) (by omega)
      have f5 : polLen3 y4 (nxB y4 x2 x3 y5).1.1 y5.2.2.1 = true := (pol_len hf2.1).1
      have f6 : isub .i64 (fallU y4 (nxB y4 x2 x3 y5).1.1 y5.2.2.1) 1 = reachF y4 (applyF y5 [(nxB y4 x2 x3 y5).1]) := by
       rw [ea, n3, g4]
       show isub .i64 (fallU y4 u y5.2.2.1) 1 = _
       rw [fallU_fine hf2.1 g2 hI.2.2.1.1 hI.2.2.1.2]
      have f7 : (ReachF y4 y5).1 = reachF y4 y5 := by unfold ReachF; rw [hf]; rfl
      rw [br_false, cond_false, f4, f5, f6, f7, br_true, br_true, br_true]
      cases c5 : ile (reachF y4 (applyF y5 [(nxB y4 x2 x3 y5).1])) (reachF y4 y5) with
      | true => rfl
      | false =>
       rw [br_false, cond_false]
       have hl2 : (y11 ++ [(nxB y4 x2 x3 y5).1]).length ≤ (applyF y5 [(nxB y4 x2 x3 y5).1]).2.2.2.1.length := by
        rw [hlen, List.length_append, List.length_singleton]
        exact Nat.succ_le_succ h1
       have hl3 : (applyF y5 [(nxB y4 x2 x3 y5).1]).2.2.2.1.length ≤ 8 := by
        rw [hlen]
        omega
       have hl4 : 8 - (y5.2.2.2.1.length + 1) < m := by omega
       rw [ih (8 - (y5.2.2.2.1.length + 1)) hl4 (y5 := applyF y5 [(nxB y4 x2 x3 y5).1]) (y11 := y11 ++ [(nxB y4 x2 x3 y5).1]) (by rw [ea]; exact n1) hl2 hl3 (by rw [hlen])]
       unfold la_f45_0
       rw [hlen, show 9 - (y5.2.2.2.1.length + 1) = 8 - y5.2.2.2.1.length by omega]
theorem lo_f45_0 : ∀ S l p, g_f45.L 0 (fgt fg_f45_0 S) = some (true, l) → pickA l = some p → loopF (roundF g_f45 fg_f45_0 tb_f45_0) S = some p :=
 lok_of (s := sh_f45_0) ⟨by decide, by decide⟩ (by kernel_rfl) fun x y hok p hp => by
 simp only [pickA_br, pickA_one] at hp
 exact (l_f45_0 x.1 x.2.1 y.1 y.2.1 y.2.2.1 (by simpa using hok)).trans hp
theorem lk_f45 : tc_f45.lok g_f45 := by
 repeat (first | exact trivial | exact lo_f45_0 | refine ⟨?_, ?_⟩)
theorem s_f45 (y : Policy) (i : Item) (us : List Keep) (f : Int) (h : schOk2 y i us f = true) : r_f45 y i us f = some (.tu [.t (.sl tyLink) (schF y i us f).1, .t tI (schF y i us f).2], []) := by
 simp only [schOk2, Bool.and_eq_true] at h
 simp only [r_f45, h.1, h.2, br_true]
 unfold schF validsF
 rcases rcheck_ne (y := y) (i := i) with ⟨q1, q2⟩ | ⟨q1, q2, q3⟩
 ·rw [q1, q2, show ine 0 0 = false from rfl, br_false, if_neg (show ¬ (true = false) by simp), any_valid]
  cases hall : us.all validF with
  | false => rfl
  | true =>
   rw [Bool.not_true, br_false, if_neg (show ¬ (false = true) by simp)]
   refine br_intro (fun g => ?_) (fun g1 => br_intro (fun g => ?_) (fun g2 => ?_))
   ·rw [if_pos (show f < 0 ∨ 40000 < f from .inl (of_decide_eq_true g))]
   ·rw [if_pos (show f < 0 ∨ 40000 < f from .inr (of_decide_eq_true g))]
   ·have g1 := of_decide_eq_false g1
    have g2 := of_decide_eq_false g2
    rw [if_neg (show ¬ (f < 0 ∨ 40000 < f) by omega), Bool.true_and, Bool.true_and, Bool.true_and, dec_true ⟨by omega, Nat.zero_le _⟩, br_true]
    generalize schZ y us f (9 - i.2.2.2.1.length) i [] = r
    by_cases hr : r.2 = 0
    ·rw [if_pos hr, if_pos hr, hr]
    ·rw [if_neg hr, if_neg hr]
 ·rw [q2, q3, q1, br_true, if_pos rfl]
def sp_f45 : Ent := spec (.pr tyPolicy (.pr tyItem (.pr (.sl tyKeep) (.pr tI .nil)))) (fun x => (schOk2 x.1 x.2.1 x.2.2.1 x.2.2.2.1)) (fun x => (.tu [(.t (.sl tyLink) ((schF x.1 x.2.1 x.2.2.1 x.2.2.2.1).1)), (.t tI ((schF x.1 x.2.1 x.2.2.1 x.2.2.2.1).2))]))
theorem ms_f45 : Meets Tryz.prog 45 (strip sp_f45) := by
 obtain ⟨c, hc, hi⟩ := Option.map_eq_some_iff.1 ok_f45
 exact meets_spec (R := runF g_f45 tc_f45 rv_f45 false) (meets_of (by decide) Tryz.func45 hc hi Tryz.ntmps45 rok_f45 gk_f45 lk_f45 mixed) fun x hok => (e_f45 x.1 x.2.1 x.2.2.1 x.2.2.2.1).trans (s_f45 x.1 x.2.1 x.2.2.1 x.2.2.2.1 hok)
end
end Go.Proofs.YtfehjdaielifiaaGreat.K
