/-
 renewal: best links, how far an item reaches.
-/
import Derived.Test.YtfehjdaielifiaaGreatV32
set_option linter.unusedSimpArgs false
set_option linter.unusedVariables false
namespace Go.Proofs.YtfehjdaielifiaaGreat.K
open Go.RowKit
noncomputable section
def useN' (u : Keep) : Bool := !validF u
def tc_f80 : TC := (.sq (.reg [(oM 1 (.box (.t 0))), (oP 2 (.mv (cB false)))]) (.sq (.reg [(oM 3 (.ld true 2 (.t 1))), (oC 4 52 [(.t 3)]), (oP 5 (.nt (.t 4))), (oV 2 5)]) .rt))
def rv_f80 : List (RV × Option Ty) := [((.t 2), some .bool)]
def g_f80 : G := ⟨TYs, [], 6, EL [(52, sp_f52)], keeps, (fun _ _ => none), IL [], RL []⟩
def r_f80 (p0 : Keep) : Option (V × List VO) :=
 some (.t .bool (!(validF p0)), [])
theorem e_f80 (p0 : Keep) : runF g_f80 tc_f80 rv_f80 false [.t tyKeep p0] [] = r_f80 p0 := by kernel_rfl
theorem ok_f80 : Option.map (trC Tryz.prog) Tryz.f80.body = some tc_f80.er := by kernel_rfl
theorem rok_f80 : trVs Tryz.prog Tryz.f80.results.toList = some (rv_f80.map Prod.fst) := by kernel_rfl
theorem en_f80 : Entered Tryz.prog 80 := .inr ⟨by decide, _, Tryz.func80, by kernel_rfl, by kernel_rfl⟩
theorem gk_f80 : GOk Tryz.prog g_f80 := gok_of _ (by
 intro p hp
 simp only [List.mem_cons, List.not_mem_nil, or_false] at hp
 rcases hp with rfl
 ·exact ⟨en_f52, ms_f52⟩)
theorem lk_f80 : tc_f80.lok g_f80 := by repeat (first | exact trivial | refine ⟨?_, ?_⟩)
theorem s_f80 (u : Keep) : r_f80 u = some (.t .bool (useN' u), []) := rfl
def sp_f80 : Ent := spec (.pr tyKeep .nil) (fun x => true) (fun x => (.t .bool (useN' x.1)))
theorem ms_f80 : Meets Tryz.prog 80 (strip sp_f80) := by
 obtain ⟨c, hc, hi⟩ := Option.map_eq_some_iff.1 ok_f80
 exact meets_spec (R := runF g_f80 tc_f80 rv_f80 false) (meets_of (by decide) Tryz.func80 hc hi Tryz.ntmps80 rok_f80 gk_f80 lk_f80 mixed) fun x _ => (e_f80 x.1).trans (s_f80 x.1)
def fstUse (l : List Keep) : Int := match fstN useN' l with | some k => (k : Int) | none => -1
def fg_f103c80_0 : Fg := ⟨[(0, some (.sl tyKeep)), (1, none), (7, some tI), (8, some tI)], []⟩
def tb_f103c80_0 : TC := (.sq (.reg [(oP 9 (.bin false .lss (.t 8) (.t 7)))]) (.sq (.cd (.t 9) .sk (.fg ⟨[], []⟩ (.ex 0))) (.sq (.bk 1 (.sq (.reg [(oV 10 8), (oV 5 10)]) (.sq (.reg [(oV 11 1), (oV 12 0), (oV 13 5), (oP 14 (.ix 2 (.t 12) (.t 13))), (oM 15 (.ld true 2 (.t 14))), (oK 16 (.cv (.t 11) [(.t 15)]))]) (.cd (.t 16) (.sq (.reg [(oV 17 5), (oV 4 17)]) (.fg ⟨[(4, some tI)], []⟩ .rt)) .sk)))) (.reg [(oP 18 (.bin false .add (.t 8) (cI 1))), (oV 8 18)]))))
def tc_f103c80 : TC := (.sq (.reg [(oP 4 (.mv (cI 0)))]) (.sq (.sq (.reg [(oV 6 0), (oP 7 (.len false (.t 6))), (oP 8 (.mv (cI 0)))]) (.bk 0 (.lp 0 fg_f103c80_0 tb_f103c80_0))) (.sq (.reg [(oP 4 (.mv (cI (-1))))]) .rt)))
def rv_f103c80 : List (RV × Option Ty) := [((.t 4), some tI)]
abbrev sh_f103c80_0 : Sh := ⟨[(0, .ty (.sl tyKeep)), (1, .cf 80), (7, .ty tI), (8, .ty tI)], []⟩
def st_f103c80_0 (x0 : (List Keep)) (x7 : Int) (x8 : Int) : VS := sh_f103c80_0.st (x0, (), x7, x8, ()) ()
abbrev sh_f103c80_0_ret : Sh := ⟨[(4, .ty tI)], []⟩
def st_f103c80_0_ret (x4 : Int) : VS := sh_f103c80_0_ret.st (x4, ()) ()
abbrev sh_f103c80_0_e0 : Sh := ⟨[], []⟩
def st_f103c80_0_e0  : VS := sh_f103c80_0_e0.st () ()
-- loop 0: (x0 : (List Keep)) (x7 : Int) (x8 : Int); out: ('ret',) (x4 : Int); ('exit', 0)
def L_f103c80_0 : VS → Option (Bool × List (Bool × Exit × VS)) := mkL sh_f103c80_0 (fun x y => (rngOk x.1 x.2.2.1 x.2.2.2.1)) (fun x y => [(((fstN useN' (x.1.drop x.2.2.2.1.toNat)).isSome), .ret, st_f103c80_0_ret (x.2.2.2.1 + ((fstN useN' (x.1.drop x.2.2.2.1.toNat)).getD 0 : Nat))), (true, .exit 0, st_f103c80_0_e0)])
def g_f103c80 : G := ⟨TYs, [], 19, EL [(80, sp_f80)], keeps, (Ls [L_f103c80_0]), IL [], RL []⟩
def b_f103c80_0 (x0 : (List Keep)) (x7 : Int) (x8 : Int) : Option (Exit × VS) :=
 br ((ilt x8 x7))
  (br (cIx x0 x8)
   (br ((useN' (lgt tyKeep x0 (Int.toNat x8))))
    (some (.ret, st_f103c80_0_ret x8))
    (some (.normal, st_f103c80_0 x0 x7 (iadd .i64 x8 1))))
   (none))
  (some (.exit 0, st_f103c80_0_e0))
noncomputable def lp_f103c80_0 (x0 : (List Keep)) (x7 : Int) (x8 : Int) : Option (Exit × VS) := loopF (roundF g_f103c80 fg_f103c80_0 tb_f103c80_0) (st_f103c80_0 x0 x7 x8)
noncomputable def n_f103c80_0 (x0 : (List Keep)) (x7 : Int) (x8 : Int) : Option (Exit × VS) :=
 br ((ilt x8 x7))
  (br (cIx x0 x8)
   (br ((useN' (lgt tyKeep x0 (Int.toNat x8))))
    (some (.ret, st_f103c80_0_ret x8))
    (lp_f103c80_0 x0 x7 (iadd .i64 x8 1)))
   (none))
  (some (.exit 0, st_f103c80_0_e0))
def la_f103c80_0 (x0 : (List Keep)) (x7 : Int) (x8 : Int) : Option (Exit × VS) := br ((fstN useN' (x0.drop x8.toNat)).isSome) (some (.ret, st_f103c80_0_ret (x8 + ((fstN useN' (x0.drop x8.toNat)).getD 0 : Nat)))) <| some (.exit 0, st_f103c80_0_e0)
theorem be_f103c80_0 (x0 : (List Keep)) (x7 : Int) (x8 : Int) : roundF g_f103c80 fg_f103c80_0 tb_f103c80_0 (st_f103c80_0 x0 x7 x8) = b_f103c80_0 x0 x7 x8 := by kernel_rfl
theorem ln_f103c80_0 (x0 : (List Keep)) (x7 : Int) (x8 : Int) : lp_f103c80_0 x0 x7 x8 = n_f103c80_0 x0 x7 x8 := (loopF_nxt _ _).trans (by
 rw [be_f103c80_0]
 simp only [b_f103c80_0, n_f103c80_0, nxt_br, nxt_n, nxt_r, nxt_e, nxt_0]
 rfl)
def r_f103c80 (p0 : (List Keep)) : Option (V × List VO) :=
 br ((rngOk p0 (llen p0) (0 : Int)))
  (br (((fstN useN' (p0.drop (0 : Int).toNat)).isSome))
   (some (.t tI ((0 : Int) + ((fstN useN' (p0.drop (0 : Int).toNat)).getD 0 : Nat)), []))
   (some (.t tI (-1), [])))
  (none)
theorem e_f103c80 (p0 : (List Keep)) : runF g_f103c80 tc_f103c80 rv_f103c80 false [.t (.sl tyKeep) p0, .c (.func (.func 80) ⟨[]⟩ ⟨[]⟩)] [] = r_f103c80 p0 := by kernel_rfl
theorem ok_f103c80 : Option.map (trC Tryz.prog) Tryz.f103.body = some tc_f103c80.er := by kernel_rfl
theorem rok_f103c80 : trVs Tryz.prog Tryz.f103.results.toList = some (rv_f103c80.map Prod.fst) := by kernel_rfl
theorem en_f103c80 : Entered Tryz.prog 103 := .inr ⟨by decide, _, Tryz.func103, by kernel_rfl, by kernel_rfl⟩
theorem gk_f103c80 : GOk Tryz.prog g_f103c80 := gok_of _ (by
 intro p hp
 simp only [List.mem_cons, List.not_mem_nil, or_false] at hp
 rcases hp with rfl
 ·exact ⟨en_f80, ms_f80⟩)
theorem l_f103c80_0 (x0 : (List Keep)) (x7 : Int) (x8 : Int) (h : (rngOk x0 x7 x8) = true) : lp_f103c80_0 x0 x7 x8 = la_f103c80_0 x0 x7 x8 := by
 obtain ⟨rfl, h3, k, rfl, hk⟩ := rng_k h
 clear h
 refine range_ind x0 (fun k => lp_f103c80_0 x0 (x0.length : Int) (k : Int) = la_f103c80_0 x0 (x0.length : Int) (k : Int)) ?_ ?_ k hk
 ·rw [ln_f103c80_0]
  simp [n_f103c80_0, la_f103c80_0, ilt_nat, br_false, fstN]
 ·intro k hk ih
  rw [ln_f103c80_0]
  simp only [n_f103c80_0, ilt_nat, cIx_nat, hk, decide_true, br_true, Int.toNat_natCast, add1 (show k < 4611686018427387904 by omega), ih, lgt_get (y := tyKeep) hk]
  simp only [la_f103c80_0, Int.toNat_natCast, List.drop_eq_getElem_cons hk, fstN]
  cases h : useN' x0[k] with
  | true => simp [br_true]
  | false =>
   simp only [br_false, Bool.false_eq_true, if_false]
   cases hq : fstN useN' (x0.drop (k + 1)) with
   | none => rfl
   | some j =>
    simp only [Option.map_some, Option.isSome_some, Option.getD_some, br_true]
    congr 3
    omega
theorem lo_f103c80_0 : ∀ S l p, g_f103c80.L 0 (fgt fg_f103c80_0 S) = some (true, l) → pickA l = some p → loopF (roundF g_f103c80 fg_f103c80_0 tb_f103c80_0) S = some p :=
 lok_of (s := sh_f103c80_0) ⟨by decide, by decide⟩ (by kernel_rfl) fun x y hok p hp => by
 simp only [pickA_br, pickA_one] at hp
 exact (l_f103c80_0 x.1 x.2.2.1 x.2.2.2.1 (by simpa using hok)).trans hp
theorem lk_f103c80 : tc_f103c80.lok g_f103c80 := by
 repeat (first | exact trivial | exact lo_f103c80_0 | refine ⟨?_, ?_⟩)
theorem s_f103c80 (l : List Keep) (h : lenOk5 l = true) : r_f103c80 l = some (.t tI (fstUse l), []) := by
 simp only [lenOk5, decide_eq_true_eq] at h
 simp only [r_f103c80, rng_0 h, br_true, Int.toNat_zero, List.drop_zero, fstUse]
 cases fstN useN' l <;> simp [br_true, br_false]
def sp_f103c80 : Ent := specH [.ty (.sl tyKeep), .cf 80] [] (fun x d => (lenOk5 x.1)) (fun x d => (.t tI (fstUse x.1)))
theorem ms_f103c80 : Meets Tryz.prog 103 (strip sp_f103c80) := by
 obtain ⟨c, hc, hi⟩ := Option.map_eq_some_iff.1 ok_f103c80
 exact meets_specH (R := runF g_f103c80 tc_f103c80 rv_f103c80 false) (meets_of (by decide) Tryz.func103 hc hi Tryz.ntmps103 rok_f103c80 gk_f103c80 lk_f103c80 mixed) fun x d hok => (e_f103c80 x.1).trans (s_f103c80 x.1 hok)
def anyUse (l : List Keep) : Bool := l.any useN'
def tc_f79c80 : TC := (.sq (.reg [(oP 4 (.mv (cB false)))]) (.sq (.reg [(oV 5 0), (oV 6 1), (oC 7 103 [(.t 5), (.t 6)]), (oP 8 (.bin false .geq (.t 7) (cI 0))), (oV 4 8)]) .rt))
def rv_f79c80 : List (RV × Option Ty) := [((.t 4), some .bool)]
def g_f79c80 : G := ⟨TYs, [], 9, EL [(103, sp_f103c80)], keeps, (fun _ _ => none), IL [], RL []⟩
def r_f79c80 (p0 : (List Keep)) : Option (V × List VO) :=
 br ((lenOk5 p0))
  (some (.t .bool (ige (fstUse p0) 0), []))
  (none)
theorem e_f79c80 (p0 : (List Keep)) : runF g_f79c80 tc_f79c80 rv_f79c80 false [.t (.sl tyKeep) p0, .c (.func (.func 80) ⟨[]⟩ ⟨[]⟩)] [] = r_f79c80 p0 := by kernel_rfl
theorem ok_f79c80 : Option.map (trC Tryz.prog) Tryz.f79.body = some tc_f79c80.er := by kernel_rfl
theorem rok_f79c80 : trVs Tryz.prog Tryz.f79.results.toList = some (rv_f79c80.map Prod.fst) := by kernel_rfl
theorem en_f79c80 : Entered Tryz.prog 79 := .inr ⟨by decide, _, Tryz.func79, by kernel_rfl, by kernel_rfl⟩
theorem gk_f79c80 : GOk Tryz.prog g_f79c80 := gok_of _ (by
 intro p hp
 simp only [List.mem_cons, List.not_mem_nil, or_false] at hp
 rcases hp with rfl
 ·exact ⟨en_f103c80, ms_f103c80⟩)
theorem lk_f79c80 : tc_f79c80.lok g_f79c80 := by repeat (first | exact trivial | refine ⟨?_, ?_⟩)
theorem s_f79c80 (l : List Keep) (h : lenOk5 l = true) : r_f79c80 l = some (.t .bool (anyUse l), []) := by
 simp only [r_f79c80, h, br_true]
 congr 3
 unfold fstUse anyUse
 cases hq : fstN useN' l with
 | none => rw [fstN_none.1 hq]; rfl
 | some k => rw [fstN_some hq]; simp only [ige, decide_eq_true_eq]; omega
def sp_f79c80 : Ent := specH [.ty (.sl tyKeep), .cf 80] [] (fun x d => (lenOk5 x.1)) (fun x d => (.t .bool (anyUse x.1)))
theorem ms_f79c80 : Meets Tryz.prog 79 (strip sp_f79c80) := by
 obtain ⟨c, hc, hi⟩ := Option.map_eq_some_iff.1 ok_f79c80
 exact meets_specH (R := runF g_f79c80 tc_f79c80 rv_f79c80 false) (meets_of (by decide) Tryz.func79 hc hi Tryz.ntmps79 rok_f79c80 gk_f79c80 lk_f79c80 mixed) fun x d hok => (e_f79c80 x.1).trans (s_f79c80 x.1 hok)
def tc_f61 : TC := (.sq (.reg [(oP 2 (.mv (cB false)))]) (.sq (.reg [(oV 3 0), (oC 4 79 [(.t 3), (.c (.v (.func (.func 80) #[] #[])))]), (oV 2 4)]) .rt))
def rv_f61 : List (RV × Option Ty) := [((.t 2), some .bool)]
def g_f61 : G := ⟨TYs, [], 5, EL [(79, sp_f79c80)], keeps, (fun _ _ => none), IL [], RL []⟩
def r_f61 (p0 : (List Keep)) : Option (V × List VO) :=
 br ((lenOk5 p0))
  (some (.t .bool (anyUse p0), []))
  (none)
theorem e_f61 (p0 : (List Keep)) : runF g_f61 tc_f61 rv_f61 false [.t (.sl tyKeep) p0] [] = r_f61 p0 := by kernel_rfl
theorem ok_f61 : Option.map (trC Tryz.prog) Tryz.f61.body = some tc_f61.er := by kernel_rfl
theorem rok_f61 : trVs Tryz.prog Tryz.f61.results.toList = some (rv_f61.map Prod.fst) := by kernel_rfl
theorem en_f61 : Entered Tryz.prog 61 := .inr ⟨by decide, _, Tryz.func61, by kernel_rfl, by kernel_rfl⟩
theorem gk_f61 : GOk Tryz.prog g_f61 := gok_of _ (by
 intro p hp
 simp only [List.mem_cons, List.not_mem_nil, or_false] at hp
 rcases hp with rfl
 ·exact ⟨en_f79c80, ms_f79c80⟩)
theorem lk_f61 : tc_f61.lok g_f61 := by repeat (first | exact trivial | refine ⟨?_, ?_⟩)
theorem s_f61 (l : List Keep) (h : lenOk5 l = true) : r_f61 l = some (.t .bool (anyUse l), []) := by
 simp only [r_f61, h, br_true]
def sp_f61 : Ent := spec (.pr (.sl tyKeep) .nil) (fun x => (lenOk5 x.1)) (fun x => (.t .bool (anyUse x.1)))
theorem ms_f61 : Meets Tryz.prog 61 (strip sp_f61) := by
 obtain ⟨c, hc, hi⟩ := Option.map_eq_some_iff.1 ok_f61
 exact meets_spec (R := runF g_f61 tc_f61 rv_f61 false) (meets_of (by decide) Tryz.func61 hc hi Tryz.ntmps61 rok_f61 gk_f61 lk_f61 mixed) fun x hok => (e_f61 x.1).trans (s_f61 x.1 hok)
def fallR (l : List Keep) : Int := if (fallL l).2 then (fallL l).1 else 40001
def bestStep (y : Policy) (p from_ to_ : Int) (s : Link × (Bool × Int)) (u : Keep) : Link × (Bool × Int) :=
 bif (firstF (spansF y u p) from_ to_).2 then (bif (!s.2.1 || igt (fallR (spansF y u p)) s.2.2 || (ieq (fallR (spansF y u p)) s.2.2 && ilt (firstF (spansF y u p) from_ to_).1 s.1.2.1)) then ((u, ((firstF (spansF y u p) from_ to_).1, ())), (true, fallR (spansF y u p))) else s) else s
def noLink : Link := ((0, (0, ())), (0, ()))
def bestZ (y : Policy) (us : List Keep) (p from_ to_ : Int) : Link × (Bool × Int) := us.foldl (bestStep y p from_ to_) (noLink, (false, 0))
def bestF (y : Policy) (us : List Keep) (p from_ to_ : Int) : Link × Bool := ((bestZ y us p from_ to_).1, (bestZ y us p from_ to_).2.1)
def bestOk (y : Policy) (us : List Keep) (p _f _t : Int) : Bool := polOk y && us.all validF && lenOk5 us && decide (1 ≤ p ∧ p ≤ 4)
def fg_f63_0 : Fg := ⟨[(2, some tI), (3, some tI), (4, some tI), (5, none), (10, none), (12, none), (13, some .bool), (14, some tI), (24, some (.sl tyKeep)), (25, some tI), (26, some tI)], [(5, some tyPolicy), (10, some tyLink), (12, some tyLink)]⟩
def tb_f63_0 : TC := (.sq (.reg [(oP 27 (.bin false .lss (.t 26) (.t 25)))]) (.sq (.cd (.t 27) .sk (.fg ⟨[(10, none), (12, none), (13, some .bool)], [(10, some tyLink), (12, some tyLink)]⟩ (.ex 0))) (.sq (.bk 1 (.sq (.reg [(oP 28 (.ix 2 (.t 24) (.t 26))), (oM 29 (.ld true 2 (.t 28))), (oM 16 (.new [(.v (.int .i64 0)), (.v (.int .i64 0))])), (.mk none none (.m (.st 2 (.t 16) (.t 29))))]) (.sq (.reg [(oM 31 (.ld true 2 (.t 5))), (oM 32 (.ld true 2 (.t 16))), (oV 33 2), (oC 34 81 [(.t 31), (.t 32), (.t 33)]), (oV 30 34), (oP 35 (.ext 0 (.t 30))), (oP 36 (.ext 1 (.t 30))), (oV 17 35), (oV 18 36)]) (.sq (.reg [(oV 38 17), (oV 39 3), (oV 40 4), (oC 41 82 [(.t 38), (.t 39), (.t 40)]), (oV 37 41), (oP 42 (.ext 0 (.t 37))), (oP 43 (.ext 1 (.t 37))), (oV 19 42), (oV 20 43)]) (.sq (.sq (.reg [(oV 44 20), (oP 45 (.nt (.t 44)))]) (.cd (.t 45) (.fg ⟨[(2, some tI), (3, some tI), (4, some tI), (5, none), (10, none), (12, none), (13, some .bool), (14, some tI), (24, some (.sl tyKeep)), (25, some tI), (26, some tI)], [(5, some tyPolicy), (10, some tyLink), (12, some tyLink)]⟩ (.ex 1)) .sk)) (.sq (.reg [(oM 47 (.ld true 2 (.t 5))), (oM 48 (.ld true 2 (.t 16))), (oV 49 2), (oC 50 75 [(.t 47), (.t 48), (.t 49)]), (oV 46 50), (oP 51 (.ext 0 (.t 46))), (oP 52 (.ext 1 (.t 46))), (oP 53 (.ext 2 (.t 46))), (oV 21 51), (oV 22 52), (oV 23 53)]) (.sq (.sq (.reg [(oV 54 22), (oP 55 (.nt (.t 54)))]) (.cd (.t 55) (.reg [(oP 21 (.mv (cI 40001)))]) .sk)) (.sq (.reg [(oV 56 13), (oP 57 (.nt (.t 56))), (oV 58 57), (oQ 59 58 false (.mv (.t 21))), (oQ 60 58 false (.mv (.t 14))), (oQ 61 58 false (.bin false .gtr (.t 59) (.t 60))), (oP 62 (.pick (.t 58) (cB true) (.t 61))), (oV 63 62), (oQ 64 63 false (.mv (.t 21))), (oQ 65 63 false (.mv (.t 14))), (oQ 66 63 false (.bin false .eql (.t 64) (.t 65))), (oQ 67 63 false (.mv (.t 66))), (oQ 68 67 true (.mv (.t 19))), (oQ 69 67 true (.fa 2 (.t 12))), (oG 70 67 true (.m (.ld false 1 (.t 69)))), (oQ 71 67 true (.bin false .lss (.t 68) (.t 70))), (oQ 72 63 false (.pick (.t 67) (.t 71) (cB false))), (oP 73 (.pick (.t 63) (cB true) (.t 72)))]) (.cd (.t 73) (.reg [(oM 74 (.ld true 2 (.t 16))), (oV 75 19), (oP 76 (.bd [(.v (.int .i64 0)), (.v (.int .i64 0)), (.v (.int .i64 0))] [(0, 2, (.t 74)), (2, 1, (.t 75))])), (oV 77 21), (.mk none none (.m (.st 3 (.t 12) (.t 76)))), (oP 13 (.mv (cB true))), (oV 14 77)]) .sk))))))))) (.reg [(oP 78 (.bin false .add (.t 26) (cI 1))), (oV 26 78)]))))
def tc_f63 : TC := (.sq (.reg [(oM 5 (.box (.t 0))), (oM 10 (.new [(.v (.int .i64 0)), (.v (.int .i64 0)), (.v (.int .i64 0))])), (oP 11 (.mv (cB false)))]) (.sq (.reg [(oM 12 (.new [(.v (.int .i64 0)), (.v (.int .i64 0)), (.v (.int .i64 0))]))]) (.sq (.reg [(oP 13 (.mv (cB false))), (oP 14 (.mv (cI 0)))]) (.sq (.sq (.reg [(oV 24 1), (oP 25 (.len false (.t 24))), (oP 26 (.mv (cI 0)))]) (.bk 0 (.lp 0 fg_f63_0 tb_f63_0))) (.sq (.reg [(oM 79 (.ld true 3 (.t 12))), (oV 80 13), (.mk none none (.m (.st 3 (.t 10) (.t 79)))), (oV 11 80)]) .rt)))))
def rv_f63 : List (RV × Option Ty) := [((.c 10 true 3), some tyLink), ((.t 11), some .bool)]
abbrev sh_f63_0 : Sh := ⟨[(2, .ty tI), (3, .ty tI), (4, .ty tI), (5, .ptr 5 0), (10, .ptr 10 0), (12, .ptr 12 0), (13, .ty .bool), (14, .ty tI), (24, .ty (.sl tyKeep)), (25, .ty tI), (26, .ty tI)], [(5, .box tyPolicy), (10, .box tyLink), (12, .box tyLink)]⟩
def st_f63_0 (x2 : Int) (x3 : Int) (x4 : Int) (x13 : Bool) (x14 : Int) (x24 : (List Keep)) (x25 : Int) (x26 : Int) (y5 : Policy) (y10 : Link) (y12 : Link) : VS := sh_f63_0.st (x2, x3, x4, (), (), (), x13, x14, x24, x25, x26, ()) (y5, y10, y12, ())
abbrev sh_f63_0_e0 : Sh := ⟨[(10, .ptr 10 0), (12, .ptr 12 0), (13, .ty .bool)], [(10, .box tyLink), (12, .box tyLink)]⟩
def st_f63_0_e0 (x13 : Bool) (y10 : Link) (y12 : Link) : VS := sh_f63_0_e0.st ((), (), x13, ()) (y10, y12, ())
-- loop 0: (x2 : Int) (x3 : Int) (x4 : Int) (x13 : Bool) (x14 : Int) (x24 : (List Keep)) (x25 : Int) (x26 : Int) (y5 : Policy) (y10 : Link) (y12 : Link); out: ('exit', 0) (x13 : Bool) (y10 : Link) (y12 : Link)
def L_f63_0 : VS → Option (Bool × List (Bool × Exit × VS)) := mkL sh_f63_0 (fun x y => (bestOk y.1 x.2.2.2.2.2.2.2.2.1 x.1 x.2.1 x.2.2.1 && rngOk x.2.2.2.2.2.2.2.2.1 x.2.2.2.2.2.2.2.2.2.1 x.2.2.2.2.2.2.2.2.2.2.1)) (fun x y => [(true, .exit 0, st_f63_0_e0 (((x.2.2.2.2.2.2.2.2.1.drop x.2.2.2.2.2.2.2.2.2.2.1.toNat).foldl (bestStep y.1 x.1 x.2.1 x.2.2.1) (y.2.2.1, (x.2.2.2.2.2.2.1, x.2.2.2.2.2.2.2.1))).2.1) (y.2.1) (((x.2.2.2.2.2.2.2.2.1.drop x.2.2.2.2.2.2.2.2.2.2.1.toNat).foldl (bestStep y.1 x.1 x.2.1 x.2.2.1) (y.2.2.1, (x.2.2.2.2.2.2.1, x.2.2.2.2.2.2.2.1))).1))])
def g_f63 : G := ⟨TYs, [], 81, EL [(75, sp_f75), (81, sp_f81), (82, sp_f82)], keeps, (Ls [L_f63_0]), IL [], RL []⟩
def b_f63_0 (x2 : Int) (x3 : Int) (x4 : Int) (x13 : Bool) (x14 : Int) (x24 : (List Keep)) (x25 : Int) (x26 : Int) (y5 : Policy) (y10 : Link) (y12 : Link) : Option (Exit × VS) :=
 br ((ilt x26 x25))
  (br (cIx x24 x26)
   (br ((polLen3 y5 (lgt tyKeep x24 (Int.toNat x26)) x2))
    (br ((firstOk ((SpansF y5 (lgt tyKeep x24 (Int.toNat x26)) x2).1) x3 x4))
     (br ((!((firstF ((SpansF y5 (lgt tyKeep x24 (Int.toNat x26)) x2).1) x3 x4).2)))
      (some (.normal, st_f63_0 x2 x3 x4 x13 x14 x24 x25 (iadd .i64 x26 1) y5 y10 y12))
      (br ((polLen3 y5 (lgt tyKeep x24 (Int.toNat x26)) x2))
       (br ((!(((FallsF y5 (lgt tyKeep x24 (Int.toNat x26)) x2).2).1)))
        (br ((!x13))
         (some (.normal, st_f63_0 x2 x3 x4 true 40001 x24 x25 (iadd .i64 x26 1) y5 y10 (((lgt tyKeep x24 (Int.toNat x26)).1, (((lgt tyKeep x24 (Int.toNat x26)).2).1, ())), ((firstF ((SpansF y5 (lgt tyKeep x24 (Int.toNat x26)) x2).1) x3 x4).1, ()))))
         (br ((igt 40001 x14))
          (some (.normal, st_f63_0 x2 x3 x4 true 40001 x24 x25 (iadd .i64 x26 1) y5 y10 (((lgt tyKeep x24 (Int.toNat x26)).1, (((lgt tyKeep x24 (Int.toNat x26)).2).1, ())), ((firstF ((SpansF y5 (lgt tyKeep x24 (Int.toNat x26)) x2).1) x3 x4).1, ()))))
          (br ((ieq 40001 x14))
           (br ((ilt ((firstF ((SpansF y5 (lgt tyKeep x24 (Int.toNat x26)) x2).1) x3 x4).1) y12.2.1))
            (some (.normal, st_f63_0 x2 x3 x4 true 40001 x24 x25 (iadd .i64 x26 1) y5 y10 (((lgt tyKeep x24 (Int.toNat x26)).1, (((lgt tyKeep x24 (Int.toNat x26)).2).1, ())), ((firstF ((SpansF y5 (lgt tyKeep x24 (Int.toNat x26)) x2).1) x3 x4).1, ()))))
            (some (.normal, st_f63_0 x2 x3 x4 x13 x14 x24 x25 (iadd .i64 x26 1) y5 y10 y12)))
           (some (.normal, st_f63_0 x2 x3 x4 x13 x14 x24 x25 (iadd .i64 x26 1) y5 y10 y12)))))
        (br ((!x13))
         (some (.normal, st_f63_0 x2 x3 x4 true ((FallsF y5 (lgt tyKeep x24 (Int.toNat x26)) x2).1) x24 x25 (iadd .i64 x26 1) y5 y10 (((lgt tyKeep x24 (Int.toNat x26)).1, (((lgt tyKeep x24 (Int.toNat x26)).2).1, ())), ((firstF ((SpansF y5 (lgt tyKeep x24 (Int.toNat x26)) x2).1) x3 x4).1, ()))))
         (br ((igt ((FallsF y5 (lgt tyKeep x24 (Int.toNat x26)) x2).1) x14))
          (some (.normal, st_f63_0 x2 x3 x4 true ((FallsF y5 (lgt tyKeep x24 (Int.toNat x26)) x2).1) x24 x25 (iadd .i64 x26 1) y5 y10 (((lgt tyKeep x24 (Int.toNat x26)).1, (((lgt tyKeep x24 (Int.toNat x26)).2).1, ())), ((firstF ((SpansF y5 (lgt tyKeep x24 (Int.toNat x26)) x2).1) x3 x4).1, ()))))
          (br ((ieq ((FallsF y5 (lgt tyKeep x24 (Int.toNat x26)) x2).1) x14))
           (br ((ilt ((firstF ((SpansF y5 (lgt tyKeep x24 (Int.toNat x26)) x2).1) x3 x4).1) y12.2.1))
            (some (.normal, st_f63_0 x2 x3 x4 true ((FallsF y5 (lgt tyKeep x24 (Int.toNat x26)) x2).1) x24 x25 (iadd .i64 x26 1) y5 y10 (((lgt tyKeep x24 (Int.toNat x26)).1, (((lgt tyKeep x24 (Int.toNat x26)).2).1, ())), ((firstF ((SpansF y5 (lgt tyKeep x24 (Int.toNat x26)) x2).1) x3 x4).1, ()))))
            (some (.normal, st_f63_0 x2 x3 x4 x13 x14 x24 x25 (iadd .i64 x26 1) y5 y10 y12)))
           (some (.normal, st_f63_0 x2 x3 x4 x13 x14 x24 x25 (iadd .i64 x26 1) y5 y10 y12))))))
       (none)))
     (none))
    (none))
   (none))
  (some (.exit 0, st_f63_0_e0 x13 y10 y12))
noncomputable def lp_f63_0 (x2 : Int) (x3 : Int) (x4 : Int) (x13 : Bool) (x14 : Int) (x24 : (List Keep)) (x25 : Int) (x26 : Int) (y5 : Policy) (y10 : Link) (y12 : Link) : Option (Exit × VS) := loopF (roundF g_f63 fg_f63_0 tb_f63_0) (st_f63_0 x2 x3 x4 x13 x14 x24 x25 x26 y5 y10 y12)
noncomputable def n_f63_0 (x2 : Int) (x3 : Int) (x4 : Int) (x13 : Bool) (x14 : Int) (x24 : (List Keep)) (x25 : Int) (x26 : Int) (y5 : Policy) (y10 : Link) (y12 : Link) : Option (Exit × VS) :=
 br ((ilt x26 x25))
  (br (cIx x24 x26)
   (br ((polLen3 y5 (lgt tyKeep x24 (Int.toNat x26)) x2))
    (br ((firstOk ((SpansF y5 (lgt tyKeep x24 (Int.toNat x26)) x2).1) x3 x4))
     (br ((!((firstF ((SpansF y5 (lgt tyKeep x24 (Int.toNat x26)) x2).1) x3 x4).2)))
      (lp_f63_0 x2 x3 x4 x13 x14 x24 x25 (iadd .i64 x26 1) y5 y10 y12)
      (br ((polLen3 y5 (lgt tyKeep x24 (Int.toNat x26)) x2))
       (br ((!(((FallsF y5 (lgt tyKeep x24 (Int.toNat x26)) x2).2).1)))
        (br ((!x13))
         (lp_f63_0 x2 x3 x4 true 40001 x24 x25 (iadd .i64 x26 1) y5 y10 (((lgt tyKeep x24 (Int.toNat x26)).1, (((lgt tyKeep x24 (Int.toNat x26)).2).1, ())), ((firstF ((SpansF y5 (lgt tyKeep x24 (Int.toNat x26)) x2).1) x3 x4).1, ())))
         (br ((igt 40001 x14))
          (lp_f63_0 x2 x3 x4 true 40001 x24 x25 (iadd .i64 x26 1) y5 y10 (((lgt tyKeep x24 (Int.toNat x26)).1, (((lgt tyKeep x24 (Int.toNat x26)).2).1, ())), ((firstF ((SpansF y5 (lgt tyKeep x24 (Int.toNat x26)) x2).1) x3 x4).1, ())))
          (br ((ieq 40001 x14))
           (br ((ilt ((firstF ((SpansF y5 (lgt tyKeep x24 (Int.toNat x26)) x2).1) x3 x4).1) y12.2.1))
            (lp_f63_0 x2 x3 x4 true 40001 x24 x25 (iadd .i64 x26 1) y5 y10 (((lgt tyKeep x24 (Int.toNat x26)).1, (((lgt tyKeep x24 (Int.toNat x26)).2).1, ())), ((firstF ((SpansF y5 (lgt tyKeep x24 (Int.toNat x26)) x2).1) x3 x4).1, ())))
            (lp_f63_0 x2 x3 x4 x13 x14 x24 x25 (iadd .i64 x26 1) y5 y10 y12))
           (lp_f63_0 x2 x3 x4 x13 x14 x24 x25 (iadd .i64 x26 1) y5 y10 y12))))
        (br ((!x13))
         (lp_f63_0 x2 x3 x4 true ((FallsF y5 (lgt tyKeep x24 (Int.toNat x26)) x2).1) x24 x25 (iadd .i64 x26 1) y5 y10 (((lgt tyKeep x24 (Int.toNat x26)).1, (((lgt tyKeep x24 (Int.toNat x26)).2).1, ())), ((firstF ((SpansF y5 (lgt tyKeep x24 (Int.toNat x26)) x2).1) x3 x4).1, ())))
         (br ((igt ((FallsF y5 (lgt tyKeep x24 (Int.toNat x26)) x2).1) x14))
          (lp_f63_0 x2 x3 x4 true ((FallsF y5 (lgt tyKeep x24 (Int.toNat x26)) x2).1) x24 x25 (iadd .i64 x26 1) y5 y10 (((lgt tyKeep x24 (Int.toNat x26)).1, (((lgt tyKeep x24 (Int.toNat x26)).2).1, ())), ((firstF ((SpansF y5 (lgt tyKeep x24 (Int.toNat x26)) x2).1) x3 x4).1, ())))
          (br ((ieq ((FallsF y5 (lgt tyKeep x24 (Int.toNat x26)) x2).1) x14))
           (br ((ilt ((firstF ((SpansF y5 (lgt tyKeep x24 (Int.toNat x26)) x2).1) x3 x4).1) y12.2.1))
            (lp_f63_0 x2 x3 x4 true ((FallsF y5 (lgt tyKeep x24 (Int.toNat x26)) x2).1) x24 x25 (iadd .i64 x26 1) y5 y10 (((lgt tyKeep x24 (Int.toNat x26)).1, (((lgt tyKeep x24 (Int.toNat x26)).2).1, ())), ((firstF ((SpansF y5 (lgt tyKeep x24 (Int.toNat x26)) x2).1) x3 x4).1, ())))
            (lp_f63_0 x2 x3 x4 x13 x14 x24 x25 (iadd .i64 x26 1) y5 y10 y12))
           (lp_f63_0 x2 x3 x4 x13 x14 x24 x25 (iadd .i64 x26 1) y5 y10 y12)))))
       (none)))
     (none))
    (none))
   (none))
  (some (.exit 0, st_f63_0_e0 x13 y10 y12))
def la_f63_0 (x2 : Int) (x3 : Int) (x4 : Int) (x13 : Bool) (x14 : Int) (x24 : (List Keep)) (x25 : Int) (x26 : Int) (y5 : Policy) (y10 : Link) (y12 : Link) : Option (Exit × VS) := some (.exit 0, st_f63_0_e0 (((x24.drop x26.toNat).foldl (bestStep y5 x2 x3 x4) (y12, (x13, x14))).2.1) (y10) (((x24.drop x26.toNat).foldl (bestStep y5 x2 x3 x4) (y12, (x13, x14))).1))
theorem be_f63_0 (x2 : Int) (x3 : Int) (x4 : Int) (x13 : Bool) (x14 : Int) (x24 : (List Keep)) (x25 : Int) (x26 : Int) (y5 : Policy) (y10 : Link) (y12 : Link) : roundF g_f63 fg_f63_0 tb_f63_0 (st_f63_0 x2 x3 x4 x13 x14 x24 x25 x26 y5 y10 y12) = b_f63_0 x2 x3 x4 x13 x14 x24 x25 x26 y5 y10 y12 := by kernel_rfl
theorem ln_f63_0 (x2 : Int) (x3 : Int) (x4 : Int) (x13 : Bool) (x14 : Int) (x24 : (List Keep)) (x25 : Int) (x26 : Int) (y5 : Policy) (y10 : Link) (y12 : Link) : lp_f63_0 x2 x3 x4 x13 x14 x24 x25 x26 y5 y10 y12 = n_f63_0 x2 x3 x4 x13 x14 x24 x25 x26 y5 y10 y12 := (loopF_nxt _ _).trans (by
 rw [be_f63_0]
 simp only [b_f63_0, n_f63_0, nxt_br, nxt_n, nxt_r, nxt_e, nxt_0]
 rfl)
def r_f63 (p0 : Policy) (p1 : (List Keep)) (p2 : Int) (p3 : Int) (p4 : Int) : Option (V × List VO) :=
 br ((bestOk p0 p1 p2 p3 p4 && rngOk p1 (llen p1) (0 : Int)))
  (some (.tu [(.t tyLink (((p1.drop (0 : Int).toNat).foldl (bestStep p0 p2 p3 p4) (((0, (0, ())), (0, ())), (false, (0 : Int)))).1)), (.t .bool (((p1.drop (0 : Int).toNat).foldl (bestStep p0 p2 p3 p4) (((0, (0, ())), (0, ())), (false, (0 : Int)))).2.1))], []))
  (none)
theorem e_f63 (p0 : Policy) (p1 : (List Keep)) (p2 : Int) (p3 : Int) (p4 : Int) : runF g_f63 tc_f63 rv_f63 false [.t tyPolicy p0, .t (.sl tyKeep) p1, .t tI p2, .t tI p3, .t tI p4] [] = r_f63 p0 p1 p2 p3 p4 := by kernel_rfl
theorem ok_f63 : Option.map (trC Tryz.prog) Tryz.f63.body = some tc_f63.er := by kernel_rfl
theorem rok_f63 : trVs Tryz.prog Tryz.f63.results.toList = some (rv_f63.map Prod.fst) := by kernel_rfl
theorem en_f63 : Entered Tryz.prog 63 := .inr ⟨by decide, _, Tryz.func63, by kernel_rfl, by kernel_rfl⟩
theorem gk_f63 : GOk Tryz.prog g_f63 := gok_of _ (by
 intro p hp
 simp only [List.mem_cons, List.not_mem_nil, or_false] at hp
 rcases hp with rfl | rfl | rfl
 ·exact ⟨en_f75, ms_f75⟩
 ·exact ⟨en_f81, ms_f81⟩
 ·exact ⟨en_f82, ms_f82⟩)
theorem best_ascTo {y : Policy} (h : polOk y = true) (u : Keep) (p : Int) : ascTo (spansF y u p) = true := by
 have hw := spans_ws (u := u) (p := p) h
 have hl := spans_len y u p
 have h60 := polOk_len h
 unfold ascTo
 rw [Bool.and_eq_true]
 refine ⟨decide_eq_true ?_, decide_eq_true (by omega)⟩
 refine List.pairwise_iff_getElem.2 fun i j hi hj hij => ?_
 have h1 := (List.pairwise_iff_getElem.1 hw.1) i j hi hj hij
 have h2 := hw.2 _ (List.getElem_mem hj)
 omega
theorem spans_fine {y : Policy} {u : Keep} {p : Int} (hp : polOk y = true) (hv : validF u = true) (h1 : 1 ≤ p) (h2 : p ≤ 4) : SpansF y u p = (spansF y u p, 0) := by
 have ee : earlyF y u p 0 = 0 := by
  unfold earlyF
  rw [hp, hv]
  simp only [Bool.true_eq_false, if_false]
  rw [if_neg (by omega)]
 unfold SpansF
 rw [if_pos ee]
theorem l_f63_0 (x2 : Int) (x3 : Int) (x4 : Int) (x13 : Bool) (x14 : Int) (x24 : (List Keep)) (x25 : Int) (x26 : Int) (y5 : Policy) (y10 : Link) (y12 : Link) (h : (bestOk y5 x24 x2 x3 x4 && rngOk x24 x25 x26) = true) : lp_f63_0 x2 x3 x4 x13 x14 x24 x25 x26 y5 y10 y12 = la_f63_0 x2 x3 x4 x13 x14 x24 x25 x26 y5 y10 y12 := by
 simp only [Bool.and_eq_true] at h
 obtain ⟨hb, hr⟩ := h
 obtain ⟨rfl, h3, k, rfl, hk⟩ := rng_k hr
 clear hr
 simp only [bestOk, Bool.and_eq_true, decide_eq_true_eq] at hb
 obtain ⟨⟨⟨hp, hu⟩, _⟩, hq1, hq2⟩ := hb
 revert x13 x14 y12
 refine range_ind x24 (fun k => ∀ (x13 : Bool) (x14 : Int) (y12 : Link), lp_f63_0 x2 x3 x4 x13 x14 x24 (x24.length : Int) (k : Int) y5 y10 y12 = la_f63_0 x2 x3 x4 x13 x14 x24 (x24.length : Int) (k : Int) y5 y10 y12) ?_ ?_ k hk
 ·intro x13 x14 y12
  rw [ln_f63_0]
  simp [n_f63_0, la_f63_0, ilt_nat, br_false]
 ·intro k hk ih x13 x14 y12
  rw [ln_f63_0]
  have hv : validF x24[k] = true := List.all_eq_true.1 hu _ (List.getElem_mem hk)
  have es := spans_fine (u := x24[k]) (p := x2) hp hv hq1 hq2
  have ef := falls_fine (u := x24[k]) (p := x2) hp hv hq1 hq2
  have hpl : ∀ u q, polLen3 y5 u q = true := fun u q => (pol_len hp).1
  have ha : ∀ a b, firstOk (spansF y5 x24[k] x2) a b = true := fun a b => best_ascTo hp _ _
  have el : la_f63_0 x2 x3 x4 x13 x14 x24 (x24.length : Int) (k : Int) y5 y10 y12 = la_f63_0 x2 x3 x4 (bestStep y5 x2 x3 x4 (y12, (x13, x14)) x24[k]).2.1 (bestStep y5 x2 x3 x4 (y12, (x13, x14)) x24[k]).2.2 x24 (x24.length : Int) ((k + 1 : Nat) : Int) y5 y10 (bestStep y5 x2 x3 x4 (y12, (x13, x14)) x24[k]).1 := by
   simp only [la_f63_0, Int.toNat_natCast, List.drop_eq_getElem_cons hk, List.foldl_cons]
  rw [el]
  simp only [n_f63_0, ilt_nat, cIx_nat, hk, decide_true, br_true, Int.toNat_natCast, lgt_get (y := tyKeep) hk, hpl, es, ef, ha, add1 (show k < 4611686018427387904 by omega), ih]
  unfold bestStep fallR
  cases (firstF (spansF y5 x24[k] x2) x3 x4).2 with
  | false => rfl
  | true =>
   cases (fallL (spansF y5 x24[k] x2)).2 with
   | false =>
    simp only [Bool.not_true, Bool.not_false, br_true, br_false, Bool.false_eq_true, if_false]
    cases x13 with
    | false => rfl
    | true =>
     cases igt 40001 x14 with
     | true => rfl
     | false =>
      cases ieq 40001 x14 with
      | false => rfl
      | true => cases ilt (firstF (spansF y5 x24[k] x2) x3 x4).1 y12.2.1 <;> rfl
   | true =>
    simp only [Bool.not_true, br_false, if_true]
    cases x13 with
    | false => rfl
    | true =>
     cases igt (fallL (spansF y5 x24[k] x2)).1 x14 with
     | true => rfl
     | false =>
      cases ieq (fallL (spansF y5 x24[k] x2)).1 x14 with
      | false => rfl
      | true => cases ilt (firstF (spansF y5 x24[k] x2) x3 x4).1 y12.2.1 <;> rfl
theorem lo_f63_0 : ∀ S l p, g_f63.L 0 (fgt fg_f63_0 S) = some (true, l) → pickA l = some p → loopF (roundF g_f63 fg_f63_0 tb_f63_0) S = some p :=
 lok_of (s := sh_f63_0) ⟨by decide, by decide⟩ (by kernel_rfl) fun x y hok p hp => by
 simp only [pickA_br, pickA_one] at hp
 exact (l_f63_0 x.1 x.2.1 x.2.2.1 x.2.2.2.2.2.2.1 x.2.2.2.2.2.2.2.1 x.2.2.2.2.2.2.2.2.1 x.2.2.2.2.2.2.2.2.2.1 x.2.2.2.2.2.2.2.2.2.2.1 y.1 y.2.1 y.2.2.1 (by simpa using hok)).trans hp
theorem lk_f63 : tc_f63.lok g_f63 := by
 repeat (first | exact trivial | exact lo_f63_0 | refine ⟨?_, ?_⟩)
theorem s_f63 (y : Policy) (us : List Keep) (p a b : Int) (h : bestOk y us p a b = true) : r_f63 y us p a b = some (.tu [.t tyLink (bestF y us p a b).1, .t .bool (bestF y us p a b).2], []) := by
 have hl : us.length ≤ 100000 := by
  simp only [bestOk, Bool.and_eq_true, decide_eq_true_eq, lenOk5] at h
  exact h.1.2
 simp only [r_f63, h, Bool.true_and, rng_0 hl, br_true, Int.toNat_zero, List.drop_zero]
 rfl
def sp_f63 : Ent := spec (.pr tyPolicy (.pr (.sl tyKeep) (.pr tI (.pr tI (.pr tI .nil))))) (fun x => (bestOk x.1 x.2.1 x.2.2.1 x.2.2.2.1 x.2.2.2.2.1)) (fun x => (.tu [(.t tyLink ((bestF x.1 x.2.1 x.2.2.1 x.2.2.2.1 x.2.2.2.2.1).1)), (.t .bool ((bestF x.1 x.2.1 x.2.2.1 x.2.2.2.1 x.2.2.2.2.1).2))]))
theorem ms_f63 : Meets Tryz.prog 63 (strip sp_f63) := by
 obtain ⟨c, hc, hi⟩ := Option.map_eq_some_iff.1 ok_f63
 exact meets_spec (R := runF g_f63 tc_f63 rv_f63 false) (meets_of (by decide) Tryz.func63 hc hi Tryz.ntmps63 rok_f63 gk_f63 lk_f63 mixed) fun x hok => (e_f63 x.1 x.2.1 x.2.2.1 x.2.2.2.1 x.2.2.2.2.1).trans (s_f63 x.1 x.2.1 x.2.2.1 x.2.2.2.1 x.2.2.2.2.1 hok)
def BestF (y : Policy) (us : List Keep) (p from_ to_ : Int) : Link × Bool × Int := if polOk y = false then (noLink, false, 25) else if anyUse us then (noLink, false, 7) else if p < 1 ∨ 4 < p ∨ from_ < 0 ∨ 40000 < to_ then (noLink, false, 2) else ((bestF y us p from_ to_).1, (bestF y us p from_ to_).2, 0)
def BestOk (y : Policy) (us : List Keep) (_p _f _t : Int) : Bool := polLen y && lenOk5 us
def tc_f38 : TC := (.sq (.reg [(oM 5 (.box (.t 0))), (oM 10 (.new [(.v (.int .i64 0)), (.v (.int .i64 0)), (.v (.int .i64 0))])), (oP 11 (.mv (cB false))), (oP 12 (.mv (cI 0)))]) (.sq (.bk 0 (.sq (.reg [(oM 16 (.ld true 2 (.t 5))), (oC 17 67 [(.t 16)]), (oP 18 (.bin false .neq (.t 17) (cI 0))), (oV 15 18)]) (.cd (.t 15) (.sq (.reg [(oP 19 (.bd [(.v (.int .i64 0)), (.v (.int .i64 0)), (.v (.int .i64 0))] [])), (.mk none none (.m (.st 3 (.t 10) (.t 19)))), (oP 11 (.mv (cB false))), (oP 12 (.mv (cI 25)))]) .rt) (.sq (.reg [(oV 21 1), (oC 22 61 [(.t 21)]), (oV 20 22)]) (.cd (.t 20) (.sq (.reg [(oP 23 (.bd [(.v (.int .i64 0)), (.v (.int .i64 0)), (.v (.int .i64 0))] [])), (.mk none none (.m (.st 3 (.t 10) (.t 23)))), (oP 11 (.mv (cB false))), (oP 12 (.mv (cI 7)))]) .rt) (.sq (.reg [(oV 25 2), (oP 26 (.bin false .lss (.t 25) (cI 1))), (oV 27 26), (oQ 28 27 false (.mv (.t 2))), (oQ 29 27 false (.bin false .gtr (.t 28) (cI 4))), (oP 30 (.pick (.t 27) (cB true) (.t 29))), (oV 31 30), (oQ 32 31 false (.mv (.t 3))), (oQ 33 31 false (.bin false .lss (.t 32) (cI 0))), (oP 34 (.pick (.t 31) (cB true) (.t 33))), (oV 35 34), (oQ 36 35 false (.mv (.t 4))), (oQ 37 35 false (.bin false .gtr (.t 36) (cI 40000))), (oP 38 (.pick (.t 35) (cB true) (.t 37))), (oV 24 38)]) (.cd (.t 24) (.sq (.reg [(oP 39 (.bd [(.v (.int .i64 0)), (.v (.int .i64 0)), (.v (.int .i64 0))] [])), (.mk none none (.m (.st 3 (.t 10) (.t 39)))), (oP 11 (.mv (cB false))), (oP 12 (.mv (cI 2)))]) .rt) .sk))))))) (.sq (.reg [(oM 41 (.ld true 2 (.t 5))), (oV 42 1), (oV 43 2), (oV 44 3), (oV 45 4), (oC 46 63 [(.t 41), (.t 42), (.t 43), (.t 44), (.t 45)]), (oV 40 46), (oP 47 (.ext 0 (.t 40))), (oP 48 (.ext 1 (.t 40))), (oM 13 (.new [(.v (.int .i64 0)), (.v (.int .i64 0)), (.v (.int .i64 0))])), (.mk none none (.m (.st 3 (.t 13) (.t 47)))), (oV 14 48)]) (.sq (.reg [(oM 49 (.ld true 3 (.t 13))), (oV 50 14), (.mk none none (.m (.st 3 (.t 10) (.t 49)))), (oV 11 50), (oP 12 (.mv (cI 0)))]) .rt))))
def rv_f38 : List (RV × Option Ty) := [((.c 10 true 3), some tyLink), ((.t 11), some .bool), ((.t 12), some tI)]
def g_f38 : G := ⟨TYs, [], 51, EL [(61, sp_f61), (63, sp_f63), (67, sp_f67)], keeps, (fun _ _ => none), IL [], RL []⟩
def r_f38 (p0 : Policy) (p1 : (List Keep)) (p2 : Int) (p3 : Int) (p4 : Int) : Option (V × List VO) :=
 br ((polLen p0))
  (br ((ine (checkF p0) 0))
   (some (.tu [(.t tyLink ((0, (0, ())), (0, ()))), (.t .bool false), (.t tI 25)], []))
   (br ((lenOk5 p1))
    (br ((anyUse p1))
     (some (.tu [(.t tyLink ((0, (0, ())), (0, ()))), (.t .bool false), (.t tI 7)], []))
     (br ((ilt p2 1))
      (some (.tu [(.t tyLink ((0, (0, ())), (0, ()))), (.t .bool false), (.t tI 2)], []))
      (br ((igt p2 4))
       (some (.tu [(.t tyLink ((0, (0, ())), (0, ()))), (.t .bool false), (.t tI 2)], []))
       (br ((ilt p3 0))
        (some (.tu [(.t tyLink ((0, (0, ())), (0, ()))), (.t .bool false), (.t tI 2)], []))
        (br ((igt p4 40000))
         (some (.tu [(.t tyLink ((0, (0, ())), (0, ()))), (.t .bool false), (.t tI 2)], []))
         (br ((bestOk p0 p1 p2 p3 p4))
          (some (.tu [(.t tyLink ((bestF p0 p1 p2 p3 p4).1)), (.t .bool ((bestF p0 p1 p2 p3 p4).2)), (.t tI 0)], []))
          (none)))))))
    (none)))
  (none)
theorem e_f38 (p0 : Policy) (p1 : (List Keep)) (p2 : Int) (p3 : Int) (p4 : Int) : runF g_f38 tc_f38 rv_f38 false [.t tyPolicy p0, .t (.sl tyKeep) p1, .t tI p2, .t tI p3, .t tI p4] [] = r_f38 p0 p1 p2 p3 p4 := by kernel_rfl
theorem ok_f38 : Option.map (trC Tryz.prog) Tryz.f38.body = some tc_f38.er := by kernel_rfl
theorem rok_f38 : trVs Tryz.prog Tryz.f38.results.toList = some (rv_f38.map Prod.fst) := by kernel_rfl
theorem en_f38 : Entered Tryz.prog 38 := .inr ⟨by decide, _, Tryz.func38, by kernel_rfl, by kernel_rfl⟩
theorem gk_f38 : GOk Tryz.prog g_f38 := gok_of _ (by
 intro p hp
 simp only [List.mem_cons, List.not_mem_nil, or_false] at hp
 rcases hp with rfl | rfl | rfl
 ·exact ⟨en_f61, ms_f61⟩
 ·exact ⟨en_f63, ms_f63⟩
 ·exact ⟨en_f67, ms_f67⟩)
theorem lk_f38 : tc_f38.lok g_f38 := by repeat (first | exact trivial | refine ⟨?_, ?_⟩)
theorem any_valid (us : List Keep) : anyUse us = !us.all validF := by simp [anyUse, List.any_eq_not_all_not, useN']
theorem s_f38 (y : Policy) (us : List Keep) (p a b : Int) (h : BestOk y us p a b = true) : r_f38 y us p a b = some (.tu [.t tyLink (BestF y us p a b).1, .t .bool (BestF y us p a b).2.1, .t tI (BestF y us p a b).2.2], []) := by
 simp only [BestOk, Bool.and_eq_true] at h
 simp only [r_f38, h.1, h.2, br_true]
 unfold BestF checkF
 cases hp : polOk y with
 | false => rfl
 | true =>
  rw [if_pos rfl, show ine 0 0 = false from rfl, br_false, if_neg (by simp)]
  cases ha : anyUse us with
  | true => rfl
  | false =>
   rw [br_false, if_neg (by simp)]
   have hall : us.all validF = true := by rw [any_valid] at ha; simpa using ha
   have bad : (p < 1 ∨ 4 < p ∨ a < 0 ∨ 40000 < b) → some (V.tu [.t tyLink ((0, (0, ())), (0, ())), .t .bool false, .t tI 2], ([] : List VO)) = some (.tu [.t tyLink (if p < 1 ∨ 4 < p ∨ a < 0 ∨ 40000 < b then (noLink, false, (2 : Int)) else ((bestF y us p a b).1, (bestF y us p a b).2, 0)).1, .t .bool (if p < 1 ∨ 4 < p ∨ a < 0 ∨ 40000 < b then (noLink, false, (2 : Int)) else ((bestF y us p a b).1, (bestF y us p a b).2, 0)).2.1, .t tI (if p < 1 ∨ 4 < p ∨ a < 0 ∨ 40000 < b then (noLink, false, (2 : Int)) else ((bestF y us p a b).1, (bestF y us p a b).2, 0)).2.2], []) := fun hb => by
    rw [if_pos hb]
    rfl
   refine br_intro (fun g => bad (.inl (of_decide_eq_true g))) (fun g1 => br_intro (fun g => bad (.inr (.inl (of_decide_eq_true g)))) (fun g2 => br_intro (fun g => bad (.inr (.inr (.inl (of_decide_eq_true g))))) (fun g3 => br_intro (fun g => bad (.inr (.inr (.inr (of_decide_eq_true g))))) (fun g4 => ?_))))
   have g1 := of_decide_eq_false g1
   have g2 := of_decide_eq_false g2
   have g3 := of_decide_eq_false g3
   have g4 := of_decide_eq_false g4
   have hb : bestOk y us p a b = true := by
    unfold bestOk
    rw [hp, hall, h.2]
    exact decide_eq_true (by omega)
   rw [hb, br_true, if_neg (by omega)]
def sp_f38 : Ent := spec (.pr tyPolicy (.pr (.sl tyKeep) (.pr tI (.pr tI (.pr tI .nil))))) (fun x => (BestOk x.1 x.2.1 x.2.2.1 x.2.2.2.1 x.2.2.2.2.1)) (fun x => (.tu [(.t tyLink ((BestF x.1 x.2.1 x.2.2.1 x.2.2.2.1 x.2.2.2.2.1).1)), (.t .bool (((BestF x.1 x.2.1 x.2.2.1 x.2.2.2.1 x.2.2.2.2.1).2).1)), (.t tI (((BestF x.1 x.2.1 x.2.2.1 x.2.2.2.1 x.2.2.2.2.1).2).2))]))
theorem ms_f38 : Meets Tryz.prog 38 (strip sp_f38) := by
 obtain ⟨c, hc, hi⟩ := Option.map_eq_some_iff.1 ok_f38
 exact meets_spec (R := runF g_f38 tc_f38 rv_f38 false) (meets_of (by decide) Tryz.func38 hc hi Tryz.ntmps38 rok_f38 gk_f38 lk_f38 mixed) fun x hok => (e_f38 x.1 x.2.1 x.2.2.1 x.2.2.2.1 x.2.2.2.2.1).trans (s_f38 x.1 x.2.1 x.2.2.1 x.2.2.2.1 x.2.2.2.2.1 hok)
def tc_f60 : TC := (.sq (.reg [(oM 2 (.box (.t 0))), (oM 3 (.box (.t 1))), (oP 4 (.mv (cI 0)))]) (.sq (.bk 0 (.sq (.reg [(oM 6 (.ld true 2 (.t 2))), (oC 7 67 [(.t 6)]), (oP 8 (.bin false .neq (.t 7) (cI 0))), (oV 5 8)]) (.cd (.t 5) (.sq (.reg [(oP 4 (.mv (cI 25)))]) .rt) (.sq (.reg [(oM 10 (.ld true 5 (.t 3))), (oC 11 25 [(.t 10)]), (oP 12 (.bin false .neq (.t 11) (cI 0))), (oV 9 12)]) (.cd (.t 9) (.sq (.reg [(oP 4 (.mv (cI 30)))]) .rt) .sk))))) (.sq (.reg [(oP 4 (.mv (cI 0)))]) .rt)))
def rv_f60 : List (RV × Option Ty) := [((.t 4), some tI)]
def g_f60 : G := ⟨TYs, [], 13, EL [(25, sp_f25), (67, sp_f67)], keeps, (fun _ _ => none), IL [], RL []⟩
def r_f60 (p0 : Policy) (p1 : Item) : Option (V × List VO) :=
 br ((polLen p0))
  (br ((ine (checkF p0) 0))
   (some (.t tI 25, []))
   (br ((itemLen p1))
    (br ((ine (checkI p1) 0))
     (some (.t tI 30, []))
     (some (.t tI 0, [])))
    (none)))
  (none)
theorem e_f60 (p0 : Policy) (p1 : Item) : runF g_f60 tc_f60 rv_f60 false [.t tyPolicy p0, .t tyItem p1] [] = r_f60 p0 p1 := by kernel_rfl
theorem ok_f60 : Option.map (trC Tryz.prog) Tryz.f60.body = some tc_f60.er := by kernel_rfl
theorem rok_f60 : trVs Tryz.prog Tryz.f60.results.toList = some (rv_f60.map Prod.fst) := by kernel_rfl
theorem en_f60 : Entered Tryz.prog 60 := .inr ⟨by decide, _, Tryz.func60, by kernel_rfl, by kernel_rfl⟩
theorem gk_f60 : GOk Tryz.prog g_f60 := gok_of _ (by
 intro p hp
 simp only [List.mem_cons, List.not_mem_nil, or_false] at hp
 rcases hp with rfl | rfl
 ·exact ⟨en_f25, ms_f25⟩
 ·exact ⟨en_f67, ms_f67⟩)
theorem lk_f60 : tc_f60.lok g_f60 := by repeat (first | exact trivial | refine ⟨?_, ?_⟩)
theorem s_f60 (y : Policy) (i : Item) (h : fineLen y i = true) : r_f60 y i = some (.t tI (rcheckF y i), []) := by
 simp only [fineLen, Bool.and_eq_true] at h
 have h2 : itemLen i = true := h.2
 simp only [r_f60, h.1, h2, br_true]
 unfold rcheckF fineB ofE checkF checkI
 generalize polOk y = a
 generalize itemOk i = b
 cases a <;> cases b <;> rfl
def sp_f60 : Ent := spec (.pr tyPolicy (.pr tyItem .nil)) (fun x => (fineLen x.1 x.2.1)) (fun x => (.t tI (rcheckF x.1 x.2.1)))
theorem ms_f60 : Meets Tryz.prog 60 (strip sp_f60) := by
 obtain ⟨c, hc, hi⟩ := Option.map_eq_some_iff.1 ok_f60
 exact meets_spec (R := runF g_f60 tc_f60 rv_f60 false) (meets_of (by decide) Tryz.func60 hc hi Tryz.ntmps60 rok_f60 gk_f60 lk_f60 mixed) fun x hok => (e_f60 x.1 x.2.1).trans (s_f60 x.1 x.2.1 hok)
def reachF (y : Policy) (i : Item) : Int := if (FailsI y i).2.1 then isub .i64 (FailsI y i).1 1 else 40000
def tc_f62 : TC := (.sq (.reg [(oM 2 (.box (.t 0))), (oM 3 (.box (.t 1))), (oP 4 (.mv (cI 0)))]) (.sq (.reg [(oM 9 (.ld true 2 (.t 2))), (oM 10 (.ld true 5 (.t 3))), (oC 11 18 [(.t 9), (.t 10)]), (oV 8 11), (oP 12 (.ext 0 (.t 8))), (oP 13 (.ext 1 (.t 8))), (oP 14 (.ext 2 (.t 8))), (oV 5 12), (oV 6 13), (oV 7 14)]) (.sq (.sq (.reg [(oV 15 6), (oP 16 (.nt (.t 15)))]) (.cd (.t 16) (.sq (.reg [(oP 4 (.mv (cI 40000)))]) .rt) .sk)) (.sq (.reg [(oV 17 5), (oP 18 (.bin false .sub (.t 17) (cI 1))), (oV 4 18)]) .rt))))
def rv_f62 : List (RV × Option Ty) := [((.t 4), some tI)]
def g_f62 : G := ⟨TYs, [], 19, EL [(18, sp_f18)], keeps, (fun _ _ => none), IL [], RL []⟩
def r_f62 (p0 : Policy) (p1 : Item) : Option (V × List VO) :=
 br ((fineLen p0 p1))
  (br ((!(((FailsI p0 p1).2).1)))
   (some (.t tI 40000, []))
   (some (.t tI (isub .i64 ((FailsI p0 p1).1) 1), [])))
  (none)
theorem e_f62 (p0 : Policy) (p1 : Item) : runF g_f62 tc_f62 rv_f62 false [.t tyPolicy p0, .t tyItem p1] [] = r_f62 p0 p1 := by kernel_rfl
theorem ok_f62 : Option.map (trC Tryz.prog) Tryz.f62.body = some tc_f62.er := by kernel_rfl
theorem rok_f62 : trVs Tryz.prog Tryz.f62.results.toList = some (rv_f62.map Prod.fst) := by kernel_rfl
theorem en_f62 : Entered Tryz.prog 62 := .inr ⟨by decide, _, Tryz.func62, by kernel_rfl, by kernel_rfl⟩
theorem gk_f62 : GOk Tryz.prog g_f62 := gok_of _ (by
 intro p hp
 simp only [List.mem_cons, List.not_mem_nil, or_false] at hp
 rcases hp with rfl
 ·exact ⟨en_f18, ms_f18⟩)
theorem lk_f62 : tc_f62.lok g_f62 := by repeat (first | exact trivial | refine ⟨?_, ?_⟩)
theorem s_f62 (y : Policy) (i : Item) (h : fineLen y i = true) : r_f62 y i = some (.t tI (reachF y i), []) := by
 simp only [r_f62, h, br_true]
 unfold reachF
 cases (FailsI y i).2.1 <;> rfl
def sp_f62 : Ent := spec (.pr tyPolicy (.pr tyItem .nil)) (fun x => (fineLen x.1 x.2.1)) (fun x => (.t tI (reachF x.1 x.2.1)))
theorem ms_f62 : Meets Tryz.prog 62 (strip sp_f62) := by
 obtain ⟨c, hc, hi⟩ := Option.map_eq_some_iff.1 ok_f62
 exact meets_spec (R := runF g_f62 tc_f62 rv_f62 false) (meets_of (by decide) Tryz.func62 hc hi Tryz.ntmps62 rok_f62 gk_f62 lk_f62 mixed) fun x hok => (e_f62 x.1 x.2.1).trans (s_f62 x.1 x.2.1 hok)
def ReachF (y : Policy) (i : Item) : Int × Int := if fineB y i then (reachF y i, 0) else (0, ofE y i)
def tc_f40 : TC := (.sq (.reg [(oM 2 (.box (.t 0))), (oM 3 (.box (.t 1))), (oP 4 (.mv (cI 0))), (oP 5 (.mv (cI 0)))]) (.sq (.sq (.reg [(oM 7 (.ld true 2 (.t 2))), (oM 8 (.ld true 5 (.t 3))), (oC 9 60 [(.t 7), (.t 8)]), (oV 6 9)]) (.sq (.reg [(oV 10 6), (oP 11 (.bin false .neq (.t 10) (cI 0)))]) (.cd (.t 11) (.sq (.reg [(oV 12 6), (oP 4 (.mv (cI 0))), (oV 5 12)]) .rt) .sk))) (.sq (.reg [(oM 13 (.ld true 2 (.t 2))), (oM 14 (.ld true 5 (.t 3))), (oC 15 62 [(.t 13), (.t 14)]), (oV 4 15), (oP 5 (.mv (cI 0)))]) .rt)))
def rv_f40 : List (RV × Option Ty) := [((.t 4), some tI), ((.t 5), some tI)]
def g_f40 : G := ⟨TYs, [], 16, EL [(60, sp_f60), (62, sp_f62)], keeps, (fun _ _ => none), IL [], RL []⟩
def r_f40 (p0 : Policy) (p1 : Item) : Option (V × List VO) :=
 br ((fineLen p0 p1))
  (br ((ine (rcheckF p0 p1) 0))
   (some (.tu [(.t tI 0), (.t tI (rcheckF p0 p1))], []))
   (br ((fineLen p0 p1))
    (some (.tu [(.t tI (reachF p0 p1)), (.t tI 0)], []))
    (none)))
  (none)
theorem e_f40 (p0 : Policy) (p1 : Item) : runF g_f40 tc_f40 rv_f40 false [.t tyPolicy p0, .t tyItem p1] [] = r_f40 p0 p1 := by kernel_rfl
theorem ok_f40 : Option.map (trC Tryz.prog) Tryz.f40.body = some tc_f40.er := by kernel_rfl
theorem rok_f40 : trVs Tryz.prog Tryz.f40.results.toList = some (rv_f40.map Prod.fst) := by kernel_rfl
theorem en_f40 : Entered Tryz.prog 40 := .inr ⟨by decide, _, Tryz.func40, by kernel_rfl, by kernel_rfl⟩
theorem gk_f40 : GOk Tryz.prog g_f40 := gok_of _ (by
 intro p hp
 simp only [List.mem_cons, List.not_mem_nil, or_false] at hp
 rcases hp with rfl | rfl
 ·exact ⟨en_f60, ms_f60⟩
 ·exact ⟨en_f62, ms_f62⟩)
theorem lk_f40 : tc_f40.lok g_f40 := by repeat (first | exact trivial | refine ⟨?_, ?_⟩)
theorem s_f40 (y : Policy) (i : Item) (h : fineLen y i = true) : r_f40 y i = some (.tu [.t tI (ReachF y i).1, .t tI (ReachF y i).2], []) := by
 simp only [r_f40, h, br_true]
 unfold ReachF
 rcases rcheck_ne (y := y) (i := i) with ⟨q1, q2⟩ | ⟨q1, q2, q3⟩
 ·rw [q1, q2]
  rfl
 ·rw [q1, q2, q3]
  rfl
def sp_f40 : Ent := spec (.pr tyPolicy (.pr tyItem .nil)) (fun x => (fineLen x.1 x.2.1)) (fun x => (.tu [(.t tI ((ReachF x.1 x.2.1).1)), (.t tI ((ReachF x.1 x.2.1).2))]))
theorem ms_f40 : Meets Tryz.prog 40 (strip sp_f40) := by
 obtain ⟨c, hc, hi⟩ := Option.map_eq_some_iff.1 ok_f40
 exact meets_spec (R := runF g_f40 tc_f40 rv_f40 false) (meets_of (by decide) Tryz.func40 hc hi Tryz.ntmps40 rok_f40 gk_f40 lk_f40 mixed) fun x hok => (e_f40 x.1 x.2.1).trans (s_f40 x.1 x.2.1 hok)
def HoldsF (y : Policy) (i : Item) : Bool × Int := if fineB y i then (ige (reachF y i) i.2.2.2.2.1, 0) else (false, ofE y i)
def dr_f35_0 : List DO := [(.mk (oM 13 (.ld true 2 (.t 2))) []), (.mk (oM 14 (.ld true 5 (.t 3))) []), (.mk (oC 15 62 [(.t 13), (.t 14)]) [0, 1]), (.mk (oP 16 (.fa 4 (.t 3))) []), (.mk (oL 17 16) [3]), (.mk (oP 18 (.bin false .geq (.t 15) (.t 17))) [2, 4]), (.mk (oV 4 18) [5, 2, 0, 1, 2, 3, 4, 5]), (.mk (oP 5 (.mv (cI 0))) [6, 0, 1, 2, 3, 4, 5, 6])]
def tc_f35 : TC := (.sq (.reg [(oM 2 (.box (.t 0))), (oM 3 (.box (.t 1))), (oP 4 (.mv (cB false))), (oP 5 (.mv (cI 0)))]) (.sq (.sq (.reg [(oM 7 (.ld true 2 (.t 2))), (oM 8 (.ld true 5 (.t 3))), (oC 9 60 [(.t 7), (.t 8)]), (oV 6 9)]) (.sq (.reg [(oV 10 6), (oP 11 (.bin false .neq (.t 10) (cI 0)))]) (.cd (.t 11) (.sq (.reg [(oV 12 6), (oP 4 (.mv (cB false))), (oV 5 12)]) .rt) .sk))) (.sq (.dr dr_f35_0 [(0, [2]), (1, [3]), (2, []), (3, [3]), (4, [3]), (5, []), (6, []), (7, [])] (.of [0, 1, 2, 3, 4, 5, 6, 7])) .rt)))
def rv_f35 : List (RV × Option Ty) := [((.t 4), some .bool), ((.t 5), some tI)]
def g_f35 : G := ⟨TYs, [], 19, EL [(60, sp_f60), (62, sp_f62)], keeps, (fun _ _ => none), IL [], RL []⟩
def r_f35 (p0 : Policy) (p1 : Item) : Option (V × List VO) :=
 br ((fineLen p0 p1))
  (br ((ine (rcheckF p0 p1) 0))
   (some (.tu [(.t .bool false), (.t tI (rcheckF p0 p1))], []))
   (br ((fineLen p0 p1))
    (some (.tu [(.t .bool (ige (reachF p0 p1) p1.2.2.2.2.1)), (.t tI 0)], []))
    (none)))
  (none)
theorem e_f35 (p0 : Policy) (p1 : Item) : runF g_f35 tc_f35 rv_f35 false [.t tyPolicy p0, .t tyItem p1] [] = r_f35 p0 p1 := by kernel_rfl
theorem ok_f35 : Option.map (trC Tryz.prog) Tryz.f35.body = some tc_f35.er := by kernel_rfl
theorem rok_f35 : trVs Tryz.prog Tryz.f35.results.toList = some (rv_f35.map Prod.fst) := by kernel_rfl
theorem en_f35 : Entered Tryz.prog 35 := .inr ⟨by decide, _, Tryz.func35, by kernel_rfl, by kernel_rfl⟩
theorem gk_f35 : GOk Tryz.prog g_f35 := gok_of _ (by
 intro p hp
 simp only [List.mem_cons, List.not_mem_nil, or_false] at hp
 rcases hp with rfl | rfl
 ·exact ⟨en_f60, ms_f60⟩
 ·exact ⟨en_f62, ms_f62⟩)
theorem lk_f35 : tc_f35.lok g_f35 := by repeat (first | exact trivial | refine ⟨?_, ?_⟩)
theorem s_f35 (y : Policy) (i : Item) (h : fineLen y i = true) : r_f35 y i = some (.tu [.t .bool (HoldsF y i).1, .t tI (HoldsF y i).2], []) := by
 simp only [r_f35, h, br_true]
 unfold HoldsF
 rcases rcheck_ne (y := y) (i := i) with ⟨q1, q2⟩ | ⟨q1, q2, q3⟩
 ·rw [q1, q2]
  rfl
 ·rw [q1, q2, q3]
  rfl
def sp_f35 : Ent := spec (.pr tyPolicy (.pr tyItem .nil)) (fun x => (fineLen x.1 x.2.1)) (fun x => (.tu [(.t .bool ((HoldsF x.1 x.2.1).1)), (.t tI ((HoldsF x.1 x.2.1).2))]))
theorem ms_f35 : Meets Tryz.prog 35 (strip sp_f35) := by
 obtain ⟨c, hc, hi⟩ := Option.map_eq_some_iff.1 ok_f35
 exact meets_spec (R := runF g_f35 tc_f35 rv_f35 false) (meets_of (by decide) Tryz.func35 hc hi Tryz.ntmps35 rok_f35 gk_f35 lk_f35 mixed) fun x hok => (e_f35 x.1 x.2.1).trans (s_f35 x.1 x.2.1 hok)
def applyF (i : Item) (l : List Link) : Item := (i.1, (i.2.1, (i.2.2.1, (i.2.2.2.1 ++ l, (i.2.2.2.2.1, ())))))
def applyOk (i : Item) (l : List Link) : Bool := lenOk5 i.2.2.2.1 && lenOk5 l
def tc_f36 : TC := (.sq (.reg [(oM 2 (.box (.t 0))), (oM 4 (.new [(.v (.string (ByteArray.mk #[]))), (.v (.int .i64 0)), (.v (.int .i64 0)), (.v (.slice none 0 0)), (.v (.int .i64 0))]))]) (.sq (.reg [(oP 5 (.fa 3 (.t 2))), (oL 6 5), (oC 7 53 [(.t 6)]), (oV 8 1), (oM 9 (.app 62 3 24 (.t 7) (.t 8))), (oP 10 (.fa 3 (.t 2))), (.mk none none (.m (.st 1 (.t 10) (.t 9))))]) (.sq (.reg [(oM 11 (.ld true 5 (.t 2))), (.mk none none (.m (.st 5 (.t 4) (.t 11))))]) .rt)))
def rv_f36 : List (RV × Option Ty) := [((.c 4 true 5), some tyItem)]
def g_f36 : G := ⟨TYs, [], 12, EL [(53, sp_f53)], keeps, (fun _ _ => none), IL [], RL []⟩
def r_f36 (p0 : Item) (p1 : (List Link)) : Option (V × List VO) :=
 br ((lenOk5 p0.2.2.2.1))
  (br (cApp (cloneL p0.2.2.2.1) p1 24)
   (some (.t tyItem (p0.1, (p0.2.1, (p0.2.2.1, (((cloneL p0.2.2.2.1) ++ p1), (p0.2.2.2.2.1, ()))))), []))
   (none))
  (none)
theorem e_f36 (p0 : Item) (p1 : (List Link)) : runF g_f36 tc_f36 rv_f36 false [.t tyItem p0, .t (.sl tyLink) p1] [] = r_f36 p0 p1 := by kernel_rfl
theorem ok_f36 : Option.map (trC Tryz.prog) Tryz.f36.body = some tc_f36.er := by kernel_rfl
theorem rok_f36 : trVs Tryz.prog Tryz.f36.results.toList = some (rv_f36.map Prod.fst) := by kernel_rfl
theorem en_f36 : Entered Tryz.prog 36 := .inr ⟨by decide, _, Tryz.func36, by kernel_rfl, by kernel_rfl⟩
theorem gk_f36 : GOk Tryz.prog g_f36 := gok_of _ (by
 intro p hp
 simp only [List.mem_cons, List.not_mem_nil, or_false] at hp
 rcases hp with rfl
 ·exact ⟨en_f53, ms_f53⟩)
theorem lk_f36 : tc_f36.lok g_f36 := by repeat (first | exact trivial | refine ⟨?_, ?_⟩)
theorem s_f36 (i : Item) (l : List Link) (h : applyOk i l = true) : r_f36 i l = some (.t tyItem (applyF i l), []) := by
 simp only [applyOk, Bool.and_eq_true, lenOk5, decide_eq_true_eq] at h
 have c : cApp (cloneL i.2.2.2.1) l 24 = true := cApp_ok (by simp only [cloneL]; omega) (by omega)
 simp only [r_f36, show lenOk5 i.2.2.2.1 = true from decide_eq_true h.1, c, br_true]
 rfl
def sp_f36 : Ent := spec (.pr tyItem (.pr (.sl tyLink) .nil)) (fun x => (applyOk x.1 x.2.1)) (fun x => (.t tyItem (applyF x.1 x.2.1)))
theorem ms_f36 : Meets Tryz.prog 36 (strip sp_f36) := by
 obtain ⟨c, hc, hi⟩ := Option.map_eq_some_iff.1 ok_f36
 exact meets_spec (R := runF g_f36 tc_f36 rv_f36 false) (meets_of (by decide) Tryz.func36 hc hi Tryz.ntmps36 rok_f36 gk_f36 lk_f36 mixed) fun x hok => (e_f36 x.1 x.2.1).trans (s_f36 x.1 x.2.1 hok)
end
end Go.Proofs.YtfehjdaielifiaaGreat.K
