/-
 More of the ledger: what was known then, where ledgers differ, what was changed; and the answers for adding, checking and all of these.
-/
import Derived.Test.YtnimpcffagidoaaL5
import Derived.KernelRfl
set_option linter.unusedSimpArgs false
set_option linter.unusedVariables false
namespace Go.Proofs.Ytnimpcffagidoaa.K
open Go.RowKit
noncomputable section
-- loop 0: (x6 : (List Decision)) (x7 : (List Decision)) (x8 : Int); out: ('exit', 0) (x6 : (List Decision)) (x7 : (List Decision)) (x8 : Int)
-- loop 0: (x1 : Int) (x2 : Int) (x8 : Int) (x12 : (List Decision)) (x13 : Int) (x14 : Int) (y7 : (List Int)); out: ('exit', 0) (y7 : (List Int))
-- loop 0: (x1 : Int) (x2 : Int) (x8 : Int) (x12 : (List Decision)) (x13 : Int) (x14 : Int) (y3 : Ledger) (y7 : (List Int)); out: ('exit', 0) (y7 : (List Int))
def knS (day : Int) (o : Int) (d : Decision) : Int := if ile d.1 day then imx o d.2.1 else o
def fg_f41_0 : Fg := ⟨[(1, some tI), (5, some tI), (9, some (.sl tyDecision)), (10, some tI), (11, some tI)], []⟩
def tb_f41_0 : TC := (.sq (.reg [(oP 12 (.bin false .lss (.t 11) (.t 10)))]) (.sq (.cd (.t 12) .sk (.fg ⟨[(5, some tI)], []⟩ (.ex 0))) (.sq (.bk 1 (.sq (.reg [(oP 13 (.ix 5 (.t 9) (.t 11))), (oM 14 (.ld true 5 (.t 13))), (oM 7 (.new [(.v (.int .i64 0)), (.v (.int .i64 0)), (.v (.int .i64 0)), (.v (.int .i64 0)), (.v (.int .i64 0))])), (.mk none none (.m (.st 5 (.t 7) (.t 14))))]) (.sq (.reg [(oP 15 (.fa 0 (.t 7))), (oL 16 15), (oV 17 1), (oP 18 (.bin false .leq (.t 16) (.t 17)))]) (.cd (.t 18) (.reg [(oV 19 5), (oP 20 (.fa 1 (.t 7))), (oL 21 20), (oP 22 (.mx (.t 19) (.t 21))), (oV 5 22)]) .sk)))) (.reg [(oP 23 (.bin false .add (.t 11) (cI 1))), (oV 11 23)]))))
abbrev sh_f41_0 : Sh := ⟨[(1, .ty tI), (5, .ty tI), (9, .ty (.sl tyDecision)), (10, .ty tI), (11, .ty tI)], []⟩
def st_f41_0 (x1 : Int) (x5 : Int) (x9 : (List Decision)) (x10 : Int) (x11 : Int) : VS := sh_f41_0.st (x1, x5, x9, x10, x11, ()) ()
abbrev sh_f41_0_e0 : Sh := ⟨[(5, .ty tI)], []⟩
def st_f41_0_e0 (x5 : Int) : VS := sh_f41_0_e0.st (x5, ()) ()
-- loop 0: (x1 : Int) (x5 : Int) (x9 : (List Decision)) (x10 : Int) (x11 : Int); out: ('exit', 0) (x5 : Int)
def L_f41_0 : VS → Option (Bool × List (Bool × Exit × VS)) := mkL sh_f41_0 (fun x y => (rngOk x.2.2.1 x.2.2.2.1 x.2.2.2.2.1)) (fun x y => [(true, .exit 0, st_f41_0_e0 ((x.2.2.1.drop x.2.2.2.2.1.toNat).foldl (knS x.1) x.2.1))])
def g_f41 : G := ⟨TYs, [], 25, EL [], keeps, (Ls [L_f41_0]), IL [], RL []⟩
def b_f41_0 (x1 : Int) (x5 : Int) (x9 : (List Decision)) (x10 : Int) (x11 : Int) : Option (Exit × VS) :=
 br ((ilt x11 x10))
  (br (cIx x9 x11)
   (br ((ile ((lgt tyDecision x9 (Int.toNat x11)).1) x1))
    (some (.normal, st_f41_0 x1 (imx x5 (((lgt tyDecision x9 (Int.toNat x11)).2).1)) x9 x10 (iadd .i64 x11 1)))
    (some (.normal, st_f41_0 x1 x5 x9 x10 (iadd .i64 x11 1))))
   (none))
  (some (.exit 0, st_f41_0_e0 x5))
noncomputable def lp_f41_0 (x1 : Int) (x5 : Int) (x9 : (List Decision)) (x10 : Int) (x11 : Int) : Option (Exit × VS) := loopF (roundF g_f41 fg_f41_0 tb_f41_0) (st_f41_0 x1 x5 x9 x10 x11)
noncomputable def n_f41_0 (x1 : Int) (x5 : Int) (x9 : (List Decision)) (x10 : Int) (x11 : Int) : Option (Exit × VS) :=
 br ((ilt x11 x10))
  (br (cIx x9 x11)
   (br ((ile ((lgt tyDecision x9 (Int.toNat x11)).1) x1))
    (lp_f41_0 x1 (imx x5 (((lgt tyDecision x9 (Int.toNat x11)).2).1)) x9 x10 (iadd .i64 x11 1))
    (lp_f41_0 x1 x5 x9 x10 (iadd .i64 x11 1)))
   (none))
  (some (.exit 0, st_f41_0_e0 x5))
def la_f41_0 (x1 : Int) (x5 : Int) (x9 : (List Decision)) (x10 : Int) (x11 : Int) : Option (Exit × VS) := some (.exit 0, st_f41_0_e0 ((x9.drop x11.toNat).foldl (knS x1) x5))
theorem be_f41_0 (x1 : Int) (x5 : Int) (x9 : (List Decision)) (x10 : Int) (x11 : Int) : roundF g_f41 fg_f41_0 tb_f41_0 (st_f41_0 x1 x5 x9 x10 x11) = b_f41_0 x1 x5 x9 x10 x11 := by kernel_rfl
theorem ln_f41_0 (x1 : Int) (x5 : Int) (x9 : (List Decision)) (x10 : Int) (x11 : Int) : lp_f41_0 x1 x5 x9 x10 x11 = n_f41_0 x1 x5 x9 x10 x11 := (loopF_nxt _ _).trans (by
 rw [be_f41_0]
 simp only [b_f41_0, n_f41_0, nxt_br, nxt_n, nxt_r, nxt_e, nxt_0]
 rfl)
theorem l_f41_0 (x1 : Int) (x5 : Int) (x9 : (List Decision)) (x10 : Int) (x11 : Int) (h : (rngOk x9 x10 x11) = true) : lp_f41_0 x1 x5 x9 x10 x11 = la_f41_0 x1 x5 x9 x10 x11 := by
 obtain ⟨rfl, h3, k, rfl, hk⟩ := rng_k h
 clear h
 revert x5
 refine range_ind x9 (fun k => ∀ x5, lp_f41_0 x1 x5 x9 (x9.length : Int) (k : Int) = la_f41_0 x1 x5 x9 (x9.length : Int) (k : Int)) ?_ ?_ k hk
 ·intro x5
  rw [ln_f41_0]
  simp [n_f41_0, la_f41_0, ilt_nat, br_false]
 ·intro k hk ih x5
  rw [ln_f41_0]
  simp only [n_f41_0, ilt_nat, cIx_nat, hk, decide_true, br_true, Int.toNat_natCast, lgt_get (y := tyDecision) hk, add1 (show k < 4611686018427387904 by omega), ih, la_f41_0, List.drop_eq_getElem_cons hk, List.foldl_cons]
  unfold knS
  cases ile x9[k].1 x1 <;> rfl
-- loop 0: (x1 : Int) (x9 : (List Decision)) (x10 : Int) (x11 : Int) (y4 : Ledger) (y20500 : (List Decision)); out: ('exit', 0) (y4 : Ledger) (y20500 : (List Decision))
-- loop 0: (x1 : Int) (x2 : Int) (x3 : Int) (x11 : Bool) (x15 : (List Decision)) (x16 : Int) (x17 : Int) (y8 : Decision) (y10 : Decision); out: ('exit', 0) (x11 : Bool) (y8 : Decision) (y10 : Decision)
def validV (d : Decision) : Bool := validB (dec d)
def tc_f65 : TC := (.sq (.reg [(oM 1 (.box (.t 0))), (oP 2 (.mv (cB false)))]) (.sq (.reg [(oP 3 (.fa 0 (.t 1))), (oL 4 3), (oP 5 (.bin false .geq (.t 4) (cI 0))), (oV 6 5), (oQ 7 6 true (.fa 0 (.t 1))), (oG 8 6 true (.m (.ld false 1 (.t 7)))), (oQ 9 6 true (.bin false .leq (.t 8) (cI 40000))), (oP 10 (.pick (.t 6) (.t 9) (cB false))), (oV 11 10), (oQ 12 11 true (.fa 1 (.t 1))), (oG 13 11 true (.m (.ld false 1 (.t 12)))), (oQ 14 11 true (.bin false .geq (.t 13) (cI 0))), (oP 15 (.pick (.t 11) (.t 14) (cB false))), (oV 16 15), (oQ 17 16 true (.fa 1 (.t 1))), (oG 18 16 true (.m (.ld false 1 (.t 17)))), (oQ 19 16 true (.bin false .leq (.t 18) (cI 400))), (oP 20 (.pick (.t 16) (.t 19) (cB false))), (oV 21 20), (oQ 22 21 true (.fa 2 (.t 1))), (oG 23 21 true (.m (.ld false 1 (.t 22)))), (oQ 24 21 true (.bin false .geq (.t 23) (cI 1))), (oP 25 (.pick (.t 21) (.t 24) (cB false))), (oV 26 25), (oQ 27 26 true (.fa 2 (.t 1))), (oG 28 26 true (.m (.ld false 1 (.t 27)))), (oQ 29 26 true (.bin false .leq (.t 28) (cI 5))), (oP 30 (.pick (.t 26) (.t 29) (cB false))), (oV 31 30), (oQ 32 31 true (.fa 3 (.t 1))), (oG 33 31 true (.m (.ld false 1 (.t 32)))), (oQ 34 31 true (.bin false .geq (.t 33) (cI 0))), (oP 35 (.pick (.t 31) (.t 34) (cB false))), (oV 36 35), (oQ 37 36 true (.fa 3 (.t 1))), (oG 38 36 true (.m (.ld false 1 (.t 37)))), (oQ 39 36 true (.bin false .leq (.t 38) (cI 40))), (oP 40 (.pick (.t 36) (.t 39) (cB false))), (oV 41 40), (oQ 42 41 true (.fa 4 (.t 1))), (oG 43 41 true (.m (.ld false 1 (.t 42)))), (oQ 44 41 true (.bin false .eql (.t 43) (cI 0))), (oQ 45 41 true (.mv (.t 44))), (oQ 46 45 false (.fa 4 (.t 1))), (oG 47 45 false (.m (.ld false 1 (.t 46)))), (oQ 48 45 false (.bin false .eql (.t 47) (cI 1))), (oQ 49 41 true (.pick (.t 45) (cB true) (.t 48))), (oP 50 (.pick (.t 41) (.t 49) (cB false))), (oV 2 50)]) .rt))
def rv_f65 : List (RV × Option Ty) := [((.t 2), some .bool)]
def g_f65 : G := ⟨TYs, [], 51, EL [], keeps, (fun _ _ => none), IL [], RL []⟩
def r_f65 (p0 : Decision) : Option (V × List VO) :=
 br ((ige p0.1 0))
  (br ((ile p0.1 40000))
   (br ((ige p0.2.1 0))
    (br ((ile p0.2.1 400))
     (br ((ige p0.2.2.1 1))
      (br ((ile p0.2.2.1 5))
       (br ((ige p0.2.2.2.1 0))
        (br ((ile p0.2.2.2.1 40))
         (br ((ieq p0.2.2.2.2.1 0))
          (some (.t .bool true, []))
          (some (.t .bool (ieq p0.2.2.2.2.1 1), [])))
         (some (.t .bool false, [])))
        (some (.t .bool false, [])))
       (some (.t .bool false, [])))
      (some (.t .bool false, [])))
     (some (.t .bool false, [])))
    (some (.t .bool false, [])))
   (some (.t .bool false, [])))
  (some (.t .bool false, []))
theorem e_f65 (p0 : Decision) : runF g_f65 tc_f65 rv_f65 false [.t tyDecision p0] [] = r_f65 p0 := by kernel_rfl
theorem ok_f65 : Option.map (trC Try.prog) Try.f65.body = some tc_f65.er := by kernel_rfl
theorem rok_f65 : trVs Try.prog Try.f65.results.toList = some (rv_f65.map Prod.fst) := by kernel_rfl
theorem en_f65 : Entered Try.prog 65 := .inr ⟨by decide, _, Try.func65, by kernel_rfl, by kernel_rfl⟩
theorem gk_f65 : GOk Try.prog g_f65 := gok_of _ (fun p hp => by cases hp)
theorem lk_f65 : tc_f65.lok g_f65 := by repeat (first | exact trivial | refine ⟨?_, ?_⟩)
theorem s_f65 (d : Decision) : r_f65 d = some (.t .bool (validV d), []) := by
 simp only [r_f65, br_and, br_or]
 refine some_b ?_
 rw [Bool.eq_iff_iff]
 simp only [validV, validB, dec, ieq, beq_iff_eq, ige, ile, Bool.and_eq_true, Bool.or_eq_true, decide_eq_true_eq]
 exact ⟨fun h => decide_eq_true h, fun h => of_decide_eq_true h⟩
def sp_f65 : Ent := spec (.pr tyDecision .nil) (fun x => true) (fun x => (.t .bool (validV x.1)))
theorem ms_f65 : Meets Try.prog 65 (strip sp_f65) := by
 obtain ⟨c, hc, hi⟩ := Option.map_eq_some_iff.1 ok_f65
 exact meets_spec (R := runF g_f65 tc_f65 rv_f65 false) (meets_of (by decide) Try.func65 hc hi Try.ntmps65 rok_f65 gk_f65 lk_f65 mixed) fun x _ => (e_f65 x.1).trans (s_f65 x.1)
def chk (l : List Decision) (i : Nat) : Int := checkFrom (decs l) (l.length - i) i
theorem chk_end {l : List Decision} : chk l l.length = 0 := by
 unfold chk
 rw [Nat.sub_self]
 rfl
theorem chk_step {l : List Decision} {i : Nat} (h : i < l.length) : chk l i = if followsR ((decs l).take i) (dec l[i]) ≠ 0 then followsR ((decs l).take i) (dec l[i]) else chk l (i + 1) := by
 unfold chk
 obtain ⟨n, hn⟩ : ∃ n, l.length - i = n + 1 := ⟨l.length - i - 1, by omega⟩
 have e : (decs l)[i]? = some (dec l[i]) := by simp [h]
 rw [hn, show l.length - (i + 1) = n by omega]
 simp only [checkFrom, e]
def dr_f38_0 : List DO := [(.mk (oV 20 3) []), (.mk (oP 21 (.bin false .gtr (.t 20) (cI 0))) [0]), (.mk (oV 22 21) [1]), (.mk (oQ 23 22 true (.fa 0 (.t 4))) [2]), (.mk (oG 24 22 true (.m (.ld false 1 (.t 23)))) [3, 2]), (.mk (oQ 25 22 true (.fa 0 (.t 1))) [2]), (.mk (oG 26 22 true (.m (.ld false 1 (.t 25)))) [5, 2]), (.mk (oQ 27 22 true (.mv (.t 3))) [2]), (.mk (oQ 28 22 true (.bin false .sub (.t 27) (cI 1))) [7, 2]), (.mk (oQ 29 22 true (.ix 5 (.t 26) (.t 28))) [6, 8, 2]), (.mk (oQ 30 22 true (.fa 0 (.t 29))) [9, 2]), (.mk (oG 31 22 true (.m (.ld false 1 (.t 30)))) [10, 2]), (.mk (oQ 32 22 true (.bin false .lss (.t 24) (.t 31))) [4, 11, 2]), (.mk (oQ 33 22 true (.mv (.t 32))) [12, 2, 2]), (.mk (oQ 34 33 false (.fa 1 (.t 4))) [13]), (.mk (oG 35 33 false (.m (.ld false 1 (.t 34)))) [14, 13]), (.mk (oQ 36 33 false (.fa 0 (.t 1))) [13]), (.mk (oG 37 33 false (.m (.ld false 1 (.t 36)))) [16, 13]), (.mk (oQ 38 33 false (.mv (.t 3))) [13]), (.mk (oQ 39 33 false (.bin false .sub (.t 38) (cI 1))) [18, 13]), (.mk (oQ 40 33 false (.ix 5 (.t 37) (.t 39))) [17, 19, 13]), (.mk (oQ 41 33 false (.fa 1 (.t 40))) [20, 13]), (.mk (oG 42 33 false (.m (.ld false 1 (.t 41)))) [21, 13]), (.mk (oQ 43 33 false (.bin false .lss (.t 35) (.t 42))) [15, 22, 13]), (.mk (oQ 44 22 true (.pick (.t 33) (cB true) (.t 43))) [13, 23, 2]), (.mk (oP 45 (.pick (.t 22) (.t 44) (cB false))) [2, 24])]
def fg_f38_0 : Fg := ⟨[(1, none), (10, some (.sl tyDecision)), (11, some tI), (12, some tI)], [(1, some tyLedger)]⟩
def tb_f38_0 : TC := (.sq (.reg [(oP 13 (.bin false .lss (.t 12) (.t 11)))]) (.sq (.cd (.t 13) .sk (.fg ⟨[], []⟩ (.ex 0))) (.sq (.bk 1 (.sq (.reg [(oV 14 12), (oP 15 (.ix 5 (.t 10) (.t 12))), (oM 16 (.ld true 5 (.t 15))), (oM 4 (.new [(.v (.int .i64 0)), (.v (.int .i64 0)), (.v (.int .i64 0)), (.v (.int .i64 0)), (.v (.int .i64 0))])), (oV 3 14), (.mk none none (.m (.st 5 (.t 4) (.t 16))))]) (.sq (.sq (.reg [(oM 17 (.ld true 5 (.t 4))), (oC 18 65 [(.t 17)]), (oP 19 (.nt (.t 18)))]) (.cd (.t 19) (.sq (.reg [(oP 2 (.mv (cI 57)))]) (.fg ⟨[(2, some tI)], []⟩ .rt)) .sk)) (.sq (.dr dr_f38_0 [(0, []), (1, []), (2, []), (3, [4]), (4, [4]), (5, [1]), (6, [1]), (7, []), (8, []), (9, []), (10, []), (11, []), (12, []), (13, []), (14, [4]), (15, [4]), (16, [1]), (17, [1]), (18, []), (19, []), (20, []), (21, []), (22, []), (23, []), (24, []), (25, [])] (.of [0, 1, 2, 3, 4, 5, 6, 7, 8, 9, 10, 11, 12, 13, 14, 15, 16, 17, 18, 19, 20, 21, 22, 23, 24, 25])) (.cd (.t 45) (.sq (.reg [(oP 2 (.mv (cI 6)))]) (.fg ⟨[(2, some tI)], []⟩ .rt)) .sk))))) (.reg [(oP 46 (.bin false .add (.t 12) (cI 1))), (oV 12 46)]))))
def tc_f38 : TC := (.sq (.reg [(oM 1 (.box (.t 0))), (oP 2 (.mv (cI 0)))]) (.sq (.sq (.reg [(oP 5 (.fa 0 (.t 1))), (oL 6 5), (oP 7 (.len false (.t 6))), (oP 8 (.bin false .gtr (.t 7) (cI 128)))]) (.cd (.t 8) (.sq (.reg [(oP 2 (.mv (cI 3)))]) .rt) .sk)) (.sq (.sq (.reg [(oP 9 (.fa 0 (.t 1))), (oL 10 9), (oP 11 (.len false (.t 10))), (oP 12 (.mv (cI 0)))]) (.bk 0 (.lp 0 fg_f38_0 tb_f38_0))) (.sq (.reg [(oP 2 (.mv (cI 0)))]) .rt))))
def rv_f38 : List (RV × Option Ty) := [((.t 2), some tI)]
abbrev sh_f38_0 : Sh := ⟨[(1, .ptr 1 0), (10, .ty (.sl tyDecision)), (11, .ty tI), (12, .ty tI)], [(1, .box tyLedger)]⟩
def st_f38_0 (x10 : (List Decision)) (x11 : Int) (x12 : Int) (y1 : Ledger) : VS := sh_f38_0.st ((), x10, x11, x12, ()) (y1, ())
abbrev sh_f38_0_ret : Sh := ⟨[(2, .ty tI)], []⟩
def st_f38_0_ret (x2 : Int) : VS := sh_f38_0_ret.st (x2, ()) ()
abbrev sh_f38_0_e0 : Sh := ⟨[], []⟩
def st_f38_0_e0  : VS := sh_f38_0_e0.st () ()
-- loop 0: (x10 : (List Decision)) (x11 : Int) (x12 : Int) (y1 : Ledger); out: ('ret',) (x2 : Int); ('exit', 0)
def L_f38_0 : VS → Option (Bool × List (Bool × Exit × VS)) := mkL sh_f38_0 (fun x y => (rngOk x.2.1 x.2.2.1 x.2.2.2.1 && decide (y.1.1 = x.2.1))) (fun x y => [((chk x.2.1 x.2.2.2.1.toNat != 0), .ret, st_f38_0_ret (chk x.2.1 x.2.2.2.1.toNat)), (true, .exit 0, st_f38_0_e0)])
def g_f38 : G := ⟨TYs, [], 47, EL [(65, sp_f65)], keeps, (Ls [L_f38_0]), IL [], RL []⟩
def b_f38_0 (x10 : (List Decision)) (x11 : Int) (x12 : Int) (y1 : Ledger) : Option (Exit × VS) :=
 br ((ilt x12 x11))
  (br (cIx x10 x12)
   (br ((!(validV (lgt tyDecision x10 (Int.toNat x12)))))
    (some (.ret, st_f38_0_ret 57))
    (br ((igt x12 0))
     (br (cIx y1.1 (isub .i64 x12 1))
      (br ((ilt ((lgt tyDecision x10 (Int.toNat x12)).1) ((lgt tyDecision y1.1 (Int.toNat (isub .i64 x12 1))).1)))
       (some (.ret, st_f38_0_ret 6))
       (br (cIx y1.1 (isub .i64 x12 1))
        (br ((ilt (((lgt tyDecision x10 (Int.toNat x12)).2).1) (((lgt tyDecision y1.1 (Int.toNat (isub .i64 x12 1))).2).1)))
         (some (.ret, st_f38_0_ret 6))
         (some (.normal, st_f38_0 x10 x11 (iadd .i64 x12 1) y1)))
        (none)))
      (none))
     (some (.normal, st_f38_0 x10 x11 (iadd .i64 x12 1) y1))))
   (none))
  (some (.exit 0, st_f38_0_e0))
noncomputable def lp_f38_0 (x10 : (List Decision)) (x11 : Int) (x12 : Int) (y1 : Ledger) : Option (Exit × VS) := loopF (roundF g_f38 fg_f38_0 tb_f38_0) (st_f38_0 x10 x11 x12 y1)
noncomputable def n_f38_0 (x10 : (List Decision)) (x11 : Int) (x12 : Int) (y1 : Ledger) : Option (Exit × VS) :=
 br ((ilt x12 x11))
  (br (cIx x10 x12)
   (br ((!(validV (lgt tyDecision x10 (Int.toNat x12)))))
    (some (.ret, st_f38_0_ret 57))
    (br ((igt x12 0))
     (br (cIx y1.1 (isub .i64 x12 1))
      (br ((ilt ((lgt tyDecision x10 (Int.toNat x12)).1) ((lgt tyDecision y1.1 (Int.toNat (isub .i64 x12 1))).1)))
       (some (.ret, st_f38_0_ret 6))
       (br (cIx y1.1 (isub .i64 x12 1))
        (br ((ilt (((lgt tyDecision x10 (Int.toNat x12)).2).1) (((lgt tyDecision y1.1 (Int.toNat (isub .i64 x12 1))).2).1)))
         (some (.ret, st_f38_0_ret 6))
         (lp_f38_0 x10 x11 (iadd .i64 x12 1) y1))
        (none)))
      (none))
     (lp_f38_0 x10 x11 (iadd .i64 x12 1) y1)))
   (none))
  (some (.exit 0, st_f38_0_e0))
def la_f38_0 (x10 : (List Decision)) (x11 : Int) (x12 : Int) (y1 : Ledger) : Option (Exit × VS) := br (chk x10 x12.toNat != 0) (some (.ret, st_f38_0_ret (chk x10 x12.toNat))) <| some (.exit 0, st_f38_0_e0)
theorem be_f38_0 (x10 : (List Decision)) (x11 : Int) (x12 : Int) (y1 : Ledger) : roundF g_f38 fg_f38_0 tb_f38_0 (st_f38_0 x10 x11 x12 y1) = b_f38_0 x10 x11 x12 y1 := by kernel_rfl
theorem ln_f38_0 (x10 : (List Decision)) (x11 : Int) (x12 : Int) (y1 : Ledger) : lp_f38_0 x10 x11 x12 y1 = n_f38_0 x10 x11 x12 y1 := (loopF_nxt _ _).trans (by
 rw [be_f38_0]
 simp only [b_f38_0, n_f38_0, nxt_br, nxt_n, nxt_r, nxt_e, nxt_0]
 rfl)
def r_f38 (p0 : Ledger) : Option (V × List VO) :=
 br ((igt (llen p0.1) 128))
  (some (.t tI 3, []))
  (br ((rngOk p0.1 (llen p0.1) (0 : Int) && decide (p0.1 = p0.1)))
   (br ((chk p0.1 (0 : Int).toNat != 0))
    (some (.t tI (chk p0.1 (0 : Int).toNat), []))
    (some (.t tI 0, [])))
   (none))
theorem e_f38 (p0 : Ledger) : runF g_f38 tc_f38 rv_f38 false [.t tyLedger p0] [] = r_f38 p0 := by kernel_rfl
theorem ok_f38 : Option.map (trC Try.prog) Try.f38.body = some tc_f38.er := by kernel_rfl
theorem rok_f38 : trVs Try.prog Try.f38.results.toList = some (rv_f38.map Prod.fst) := by kernel_rfl
theorem en_f38 : Entered Try.prog 38 := .inr ⟨by decide, _, Try.func38, by kernel_rfl, by kernel_rfl⟩
theorem gk_f38 : GOk Try.prog g_f38 := gok_of _ (by
 intro p hp
 simp only [List.mem_cons, List.not_mem_nil, or_false] at hp
 rcases hp with rfl
 ·exact ⟨en_f65, ms_f65⟩)
theorem l_f38_0 (x10 : (List Decision)) (x11 : Int) (x12 : Int) (y1 : Ledger) (h : (rngOk x10 x11 x12 && decide (y1.1 = x10)) = true) : lp_f38_0 x10 x11 x12 y1 = la_f38_0 x10 x11 x12 y1 := by
 simp only [Bool.and_eq_true, decide_eq_true_eq] at h
 obtain ⟨h0, h5⟩ := h
 obtain ⟨rfl, h3, k, rfl, hk⟩ := rng_k h0
 clear h0
 obtain ⟨l, u⟩ := y1
 have h5' : x10 = l := h5.symm
 clear h5
 subst h5'
 refine range_ind x10 (fun k => lp_f38_0 x10 (x10.length : Int) (k : Int) (x10, u) = la_f38_0 x10 (x10.length : Int) (k : Int) (x10, u)) ?_ ?_ k hk
 ·rw [ln_f38_0]
  simp only [n_f38_0, la_f38_0, ilt_nat, Nat.lt_irrefl, decide_false, br_false, Int.toNat_natCast, chk_end]
  rfl
 ·intro k hk ih
  rw [ln_f38_0]
  simp only [n_f38_0, ilt_nat, cIx_nat, hk, decide_true, br_true, Int.toNat_natCast, lgt_get (y := tyDecision) hk, add1 (show k < 4611686018427387904 by omega), ih, la_f38_0, chk_step hk]
  unfold followsR
  by_cases q1 : validB (dec x10[k]) = true
  ·have e1 : validV x10[k] = true := q1
   simp only [e1, Bool.not_true, br_false, q1, Bool.true_eq_false, if_false]
   cases k with
   | zero => simp [igt, br_false]
   | succ j =>
    have hj : j < x10.length := by omega
    have e2 : isub .i64 ((j + 1 : Nat) : Int) 1 = (j : Int) := by rw [isub_in (by omega)]; omega
    have e3 : igt ((j + 1 : Nat) : Int) 0 = true := by simp only [igt, decide_eq_true_eq]; omega
    have e4 : ((decs x10).take (j + 1)).getLast? = some (dec x10[j]) := by
     have : (decs x10).take (j + 1) = (decs x10).take j ++ [dec x10[j]] := by
      rw [List.take_add_one, List.getElem?_map, List.getElem?_eq_getElem hj]
      rfl
     rw [this, List.getLast?_concat]
    simp only [e2, e3, br_true, cIx_nat, hj, decide_true, Int.toNat_natCast, lgt_get (y := tyDecision) hj, e4]
    simp only [dec]
    by_cases q2 : x10[j + 1].1 < x10[j].1
    ·simp [ilt, q2, br_true]
    ·by_cases q3 : x10[j + 1].2.1 < x10[j].2.1
     ·simp [ilt, q2, q3, br_true, br_false]
     ·simp [ilt, q2, q3, br_false]
  ·have q1' : validB (dec x10[k]) = false := by simpa using q1
   have e1 : validV x10[k] = false := q1'
   simp [e1, br_true, q1']
theorem lo_f38_0 : ∀ S l p, g_f38.L 0 (fgt fg_f38_0 S) = some (true, l) → pickA l = some p → loopF (roundF g_f38 fg_f38_0 tb_f38_0) S = some p :=
 lok_of (s := sh_f38_0) ⟨by decide, by decide⟩ (by kernel_rfl) fun x y hok p hp => by
 simp only [pickA_br, pickA_one] at hp
 exact (l_f38_0 x.2.1 x.2.2.1 x.2.2.2.1 y.1 (by simpa using hok)).trans hp
theorem lk_f38 : tc_f38.lok g_f38 := by
 repeat (first | exact trivial | exact lo_f38_0 | refine ⟨?_, ?_⟩)
theorem s_f38 (l : Ledger) (h : ledLn l = true) : r_f38 l = some (.t tI (checkV l), []) := by
 simp only [ledLn, decide_eq_true_eq] at h
 have e0 : checkV l = if 128 < l.1.length then 3 else chk l.1 0 := by
  unfold checkV checkR chk
  simp only [decs, List.length_map, Nat.sub_zero]
 have e1 : (rngOk l.1 (llen l.1) 0 && decide (l.1 = l.1)) = true := by simp only [rng_0 h, Bool.true_and, decide_true]
 rw [e0]
 unfold r_f38
 by_cases q : 128 < l.1.length
 ·have e2 : igt (llen l.1) 128 = true := by simp only [igt, llen, decide_eq_true_eq]; omega
  rw [e2, br_true, if_pos q]
 ·have e2 : igt (llen l.1) 128 = false := by simp only [igt, llen, decide_eq_false_iff_not]; omega
  rw [e2, br_false, if_neg q, e1, br_true]
  show br (chk l.1 0 != 0) (some (V.t tI (chk l.1 0), [])) _ = _
  cases q2 : chk l.1 0 != 0 with
  | true => rfl
  | false =>
   have : chk l.1 0 = 0 := by simpa using q2
   rw [this]
   rfl
def sp_f38 : Ent := spec (.pr tyLedger .nil) (fun x => (ledLn x.1)) (fun x => (.t tI (checkV x.1)))
theorem ms_f38 : Meets Try.prog 38 (strip sp_f38) := by
 obtain ⟨c, hc, hi⟩ := Option.map_eq_some_iff.1 ok_f38
 exact meets_spec (R := runF g_f38 tc_f38 rv_f38 false) (meets_of (by decide) Try.func38 hc hi Try.ntmps38 rok_f38 gk_f38 lk_f38 mixed) fun x hok => (e_f38 x.1).trans (s_f38 x.1 hok)
def copyV (l : Ledger) : Ledger := l
def tc_f64 : TC := (.sq (.reg [(oM 1 (.box (.t 0))), (oM 2 (.new [(.v (.slice none 0 0))]))]) (.sq (.reg [(oP 3 (.fa 0 (.t 1))), (oL 4 3), (oM 5 (.app 40 5 40 (.c (.v (.slice none 0 0))) (.t 4))), (oP 6 (.bd [(.v (.slice none 0 0))] [(0, 1, (.t 5))])), (.mk none none (.m (.st 1 (.t 2) (.t 6))))]) .rt))
def rv_f64 : List (RV × Option Ty) := [((.c 2 true 1), none)]
def g_f64 : G := ⟨TYs, [], 7, EL [], keeps, (fun _ _ => none), IL [], RL []⟩
def r_f64 (p0 : Ledger) : Option (V × List VO) :=
 br (cApp ([] : List Decision) p0.1 40)
  (some (.ag [(.ms 50000)], [.arr 40 tyDecision (([] : List Decision) ++ p0.1)]))
  (none)
theorem e_f64 (p0 : Ledger) : runF g_f64 tc_f64 rv_f64 true [.t tyLedger p0] [] = r_f64 p0 := by kernel_rfl
theorem ok_f64 : Option.map (trC Try.prog) Try.f64.body = some tc_f64.er := by kernel_rfl
theorem rok_f64 : trVs Try.prog Try.f64.results.toList = some (rv_f64.map Prod.fst) := by kernel_rfl
theorem en_f64 : Entered Try.prog 64 := .inr ⟨by decide, _, Try.func64, by kernel_rfl, by kernel_rfl⟩
theorem gk_f64 : GOk Try.prog g_f64 := gok_of _ (fun p hp => by cases hp)
theorem lk_f64 : tc_f64.lok g_f64 := by repeat (first | exact trivial | refine ⟨?_, ?_⟩)
theorem s_f64 (l : Ledger) (h : ledLn l = true) : r_f64 l = some (.ag [.ms 50000], [.arr 40 tyDecision l.1]) := by
 simp only [ledLn, decide_eq_true_eq] at h
 have e1 : cApp ([] : List Decision) l.1 40 = true := cApp_ok (by simp only [List.length_nil]; omega) (by decide)
 simp only [r_f64, e1, br_true, List.nil_append]
def sp_f64 : Ent := specO (.pr tyLedger .nil) (fun x => (ledLn x.1)) (fun x => (.ag [(.ms 50000)])) (fun x => [.arr 40 tyDecision ((copyV x.1).1)])
theorem ms_f64 : Meets Try.prog 64 (strip sp_f64) := by
 obtain ⟨c, hc, hi⟩ := Option.map_eq_some_iff.1 ok_f64
 exact meets_specO (R := runF g_f64 tc_f64 rv_f64 true) (meets_of (by decide) Try.func64 hc hi Try.ntmps64 rok_f64 gk_f64 lk_f64 mixed) fun x hok => (e_f64 x.1).trans (s_f64 x.1 hok)
def dr_f37_0 : List DO := [(.mk (oV 27 8) []), (.mk (oP 28 (.bin false .gtr (.t 27) (cI 0))) [0]), (.mk (oV 29 28) [1]), (.mk (oQ 30 29 true (.fa 0 (.t 3))) [2]), (.mk (oG 31 29 true (.m (.ld false 1 (.t 30)))) [3, 2]), (.mk (oQ 32 29 true (.fa 0 (.t 2))) [2]), (.mk (oG 33 29 true (.m (.ld false 1 (.t 32)))) [5, 2]), (.mk (oQ 34 29 true (.mv (.t 8))) [2]), (.mk (oQ 35 29 true (.bin false .sub (.t 34) (cI 1))) [7, 2]), (.mk (oQ 36 29 true (.ix 5 (.t 33) (.t 35))) [6, 8, 2]), (.mk (oQ 37 29 true (.fa 0 (.t 36))) [9, 2]), (.mk (oG 38 29 true (.m (.ld false 1 (.t 37)))) [10, 2]), (.mk (oQ 39 29 true (.bin false .lss (.t 31) (.t 38))) [4, 11, 2]), (.mk (oQ 40 29 true (.mv (.t 39))) [12, 2, 2]), (.mk (oQ 41 40 false (.fa 1 (.t 3))) [13]), (.mk (oG 42 40 false (.m (.ld false 1 (.t 41)))) [14, 13]), (.mk (oQ 43 40 false (.fa 0 (.t 2))) [13]), (.mk (oG 44 40 false (.m (.ld false 1 (.t 43)))) [16, 13]), (.mk (oQ 45 40 false (.mv (.t 8))) [13]), (.mk (oQ 46 40 false (.bin false .sub (.t 45) (cI 1))) [18, 13]), (.mk (oQ 47 40 false (.ix 5 (.t 44) (.t 46))) [17, 19, 13]), (.mk (oQ 48 40 false (.fa 1 (.t 47))) [20, 13]), (.mk (oG 49 40 false (.m (.ld false 1 (.t 48)))) [21, 13]), (.mk (oQ 50 40 false (.bin false .lss (.t 42) (.t 49))) [15, 22, 13]), (.mk (oQ 51 29 true (.pick (.t 40) (cB true) (.t 50))) [13, 23, 2]), (.mk (oP 52 (.pick (.t 29) (.t 51) (cB false))) [2, 24])]
def tc_f37 : TC := (.sq (.reg [(oM 2 (.box (.t 0))), (oM 3 (.box (.t 1))), (oM 4 (.new [(.v (.slice none 0 0))])), (oP 5 (.mv (cI 0)))]) (.sq (.reg [(oM 9 (.ld true 1 (.t 2))), (oC 10 64 [(.t 9)]), (oM 6 (.new [(.v (.slice none 0 0))])), (.mk none none (.m (.st 1 (.t 6) (.t 10))))]) (.sq (.sq (.reg [(oM 11 (.ld true 1 (.t 2))), (oC 12 38 [(.t 11)]), (oV 7 12)]) (.sq (.reg [(oV 13 7), (oP 14 (.bin false .neq (.t 13) (cI 0)))]) (.cd (.t 14) (.sq (.reg [(oM 15 (.ld true 1 (.t 6))), (oV 16 7), (.mk none none (.m (.st 1 (.t 4) (.t 15)))), (oV 5 16)]) .rt) .sk))) (.sq (.reg [(oP 17 (.fa 0 (.t 2))), (oL 18 17), (oP 19 (.len false (.t 18))), (oV 8 19)]) (.sq (.sq (.reg [(oV 20 8), (oP 21 (.bin false .geq (.t 20) (cI 128)))]) (.cd (.t 21) (.sq (.reg [(oM 22 (.ld true 1 (.t 6))), (.mk none none (.m (.st 1 (.t 4) (.t 22)))), (oP 5 (.mv (cI 3)))]) .rt) .sk)) (.sq (.sq (.reg [(oM 23 (.ld true 5 (.t 3))), (oC 24 65 [(.t 23)]), (oP 25 (.nt (.t 24)))]) (.cd (.t 25) (.sq (.reg [(oM 26 (.ld true 1 (.t 6))), (.mk none none (.m (.st 1 (.t 4) (.t 26)))), (oP 5 (.mv (cI 57)))]) .rt) .sk)) (.sq (.sq (.dr dr_f37_0 [(0, []), (1, []), (2, []), (3, [3]), (4, [3]), (5, [2]), (6, [2]), (7, []), (8, []), (9, []), (10, []), (11, []), (12, []), (13, []), (14, [3]), (15, [3]), (16, [2]), (17, [2]), (18, []), (19, []), (20, []), (21, []), (22, []), (23, []), (24, []), (25, [])] (.of [0, 1, 2, 3, 4, 5, 6, 7, 8, 9, 10, 11, 12, 13, 14, 15, 16, 17, 18, 19, 20, 21, 22, 23, 24, 25])) (.cd (.t 52) (.sq (.reg [(oM 53 (.ld true 1 (.t 6))), (.mk none none (.m (.st 1 (.t 4) (.t 53)))), (oP 5 (.mv (cI 6)))]) .rt) .sk)) (.sq (.reg [(oP 54 (.fa 0 (.t 6))), (oL 55 54), (oM 56 (.ld true 5 (.t 3))), (oM 57 (.bs 40 5 1 [(.v (.int .i64 0)), (.v (.int .i64 0)), (.v (.int .i64 0)), (.v (.int .i64 0)), (.v (.int .i64 0))] [(0, 5, (.t 56))])), (oM 58 (.app 40 5 40 (.t 55) (.t 57))), (oP 59 (.fa 0 (.t 6))), (.mk none none (.m (.st 1 (.t 59) (.t 58))))]) (.sq (.reg [(oM 60 (.ld true 1 (.t 6))), (.mk none none (.m (.st 1 (.t 4) (.t 60)))), (oP 5 (.mv (cI 0)))]) .rt)))))))))
def rv_f37 : List (RV × Option Ty) := [((.c 4 true 1), some tyLedger), ((.t 5), some tI)]
def g_f37 : G := ⟨TYs, [], 61, EL [(38, sp_f38), (64, sp_f64), (65, sp_f65)], keeps, (fun _ _ => none), IL [], RL []⟩
def r_f37_1 (p0 : Ledger) (p1 : Decision) : Option (V × List VO) :=
 br (cApp ((copyV p0).1) ([(p1.1, (p1.2.1, (p1.2.2.1, (p1.2.2.2.1, (p1.2.2.2.2.1, ())))))]) 40)
  (some (.tu [(.t tyLedger ((((copyV p0).1) ++ ([(p1.1, (p1.2.1, (p1.2.2.1, (p1.2.2.2.1, (p1.2.2.2.2.1, ())))))])), ())), (.t tI 0)], []))
  (none)
def r_f37 (p0 : Ledger) (p1 : Decision) : Option (V × List VO) :=
 br ((ledLn p0))
  (br ((ledLn p0))
   (br ((ine (checkV p0) 0))
    (some (.tu [(.t tyLedger ((copyV p0).1, ())), (.t tI (checkV p0))], []))
    (br ((ige (llen p0.1) 128))
     (some (.tu [(.t tyLedger ((copyV p0).1, ())), (.t tI 3)], []))
     (br ((!(validV p1)))
      (some (.tu [(.t tyLedger ((copyV p0).1, ())), (.t tI 57)], []))
      (br ((igt (llen p0.1) 0))
       (br (cIx p0.1 (isub .i64 (llen p0.1) 1))
        (br ((ilt p1.1 ((lgt tyDecision p0.1 (Int.toNat (isub .i64 (llen p0.1) 1))).1)))
         (some (.tu [(.t tyLedger ((copyV p0).1, ())), (.t tI 6)], []))
         (br (cIx p0.1 (isub .i64 (llen p0.1) 1))
          (br ((ilt p1.2.1 (((lgt tyDecision p0.1 (Int.toNat (isub .i64 (llen p0.1) 1))).2).1)))
           (some (.tu [(.t tyLedger ((copyV p0).1, ())), (.t tI 6)], []))
           (r_f37_1 p0 p1))
          (none)))
        (none))
       (r_f37_1 p0 p1)))))
   (none))
  (none)
theorem e_f37 (p0 : Ledger) (p1 : Decision) : runF g_f37 tc_f37 rv_f37 false [.t tyLedger p0, .t tyDecision p1] [] = r_f37 p0 p1 := by kernel_rfl
theorem ok_f37 : Option.map (trC Try.prog) Try.f37.body = some tc_f37.er := by kernel_rfl
theorem rok_f37 : trVs Try.prog Try.f37.results.toList = some (rv_f37.map Prod.fst) := by kernel_rfl
theorem en_f37 : Entered Try.prog 37 := .inr ⟨by decide, _, Try.func37, by kernel_rfl, by kernel_rfl⟩
theorem gk_f37 : GOk Try.prog g_f37 := gok_of _ (by
 intro p hp
 simp only [List.mem_cons, List.not_mem_nil, or_false] at hp
 rcases hp with rfl | rfl | rfl
 ·exact ⟨en_f38, ms_f38⟩
 ·exact ⟨en_f64, ms_f64⟩
 ·exact ⟨en_f65, ms_f65⟩)
theorem lk_f37 : tc_f37.lok g_f37 := by repeat (first | exact trivial | refine ⟨?_, ?_⟩)
theorem s_f37 (l : Ledger) (d : Decision) (h : addOk l d = true) : r_f37 l d = some (.tu [.t tyLedger (addV l d).1, .t tI (addV l d).2], []) := by
 have h0 : ledLn l = true := h
 have h1 := h0
 simp only [ledLn, decide_eq_true_eq] at h1
 obtain ⟨l, u⟩ := l
 have h1 : l.length ≤ 100000 := h1
 have hl : (decs l).length = l.length := List.length_map _
 have e1 : cApp l [d] 40 = true := cApp_ok (by simp only [List.length_singleton]; omega) (by decide)
 have e1' : cApp l [(d.1, (d.2.1, (d.2.2.1, (d.2.2.2.1, (d.2.2.2.2.1, ())))))] 40 = true := e1
 have ea : addV (l, u) d = ((if addR (decs l) (dec d) = 0 then l ++ [d] else l, ()), addR (decs l) (dec d)) := by
  simp only [addV, addL]
  by_cases q : addR (decs l) (dec d) = 0
  ·have : decs l ++ [dec d] = decs (l ++ [d]) := by simp
   rw [if_pos q, if_pos q, this, und_decs]
  ·rw [if_neg q, if_neg q, und_decs]
 have ec : checkV (l, u) = checkR (decs l) := rfl
 rw [ea]
 simp only [r_f37, r_f37_1, h0, br_true, copyV, e1', ec]
 unfold addR
 by_cases q1 : checkR (decs l) = 0
 ·have e2 : ine (checkR (decs l)) 0 = false := by simp [ine, q1]
  rw [e2, br_false]
  by_cases q2 : 128 ≤ l.length
  ·have e3 : ige (llen l) 128 = true := by simp only [ige, llen, decide_eq_true_eq]; omega
   rw [e3, br_true]
   simp [q1, q2]
  ·have e3 : ige (llen l) 128 = false := by simp only [ige, llen, decide_eq_false_iff_not]; omega
   rw [e3, br_false]
   unfold followsR
   by_cases q3 : validB (dec d) = true
   ·have e4 : validV d = true := q3
    simp only [e4, Bool.not_true, br_false, q1, hl, q2, q3]
    rcases hq : l with _ | ⟨y, l'⟩
    ·have e5 : igt (llen ([] : List Decision)) 0 = false := rfl
     simp [e5, br_false]
    ·rw [← hq]
     have hp : 0 < l.length := by rw [hq]; simp
     obtain ⟨m, hm⟩ : ∃ m, l.length = m + 1 := ⟨l.length - 1, by omega⟩
     have e5 : igt (llen l) 0 = true := by simp only [igt, llen, decide_eq_true_eq]; omega
     have hml : m < l.length := by omega
     have e6 : isub .i64 (llen l) 1 = (m : Int) := by rw [isub_in (by simp only [llen]; omega)]; simp only [llen]; omega
     have e7 : (decs l).getLast? = some (dec l[m]) := by
      rw [List.getLast?_eq_getElem?, hl, hm, Nat.add_sub_cancel]
      simp [hml]
     simp only [e5, br_true, e6, cIx_nat, hml, decide_true, Int.toNat_natCast, lgt_get (y := tyDecision) hml, e7]
     simp only [dec]
     by_cases q4 : d.1 < l[m].1
     ·simp [ilt, q4, br_true]
     ·by_cases q5 : d.2.1 < l[m].2.1
      ·simp [ilt, q4, q5, br_true, br_false]
      ·simp [ilt, q4, q5, br_false]
   ·have q3' : validB (dec d) = false := by simpa using q3
    have e4 : validV d = false := q3'
    simp [e4, br_true, q1, hl, q2, q3']
 ·have e2 : ine (checkR (decs l)) 0 = true := by simp [ine, q1]
  rw [e2, br_true]
  simp [q1]
def sp_f37 : Ent := spec (.pr tyLedger (.pr tyDecision .nil)) (fun x => (addOk x.1 x.2.1)) (fun x => (.tu [(.t tyLedger ((addV x.1 x.2.1).1)), (.t tI ((addV x.1 x.2.1).2))]))
theorem ms_f37 : Meets Try.prog 37 (strip sp_f37) := by
 obtain ⟨c, hc, hi⟩ := Option.map_eq_some_iff.1 ok_f37
 exact meets_spec (R := runF g_f37 tc_f37 rv_f37 false) (meets_of (by decide) Try.func37 hc hi Try.ntmps37 rok_f37 gk_f37 lk_f37 mixed) fun x hok => (e_f37 x.1 x.2.1).trans (s_f37 x.1 x.2.1 hok)
-- loop 0: (x0 : (List Int)) (x1 : (List Int)) (x12 : Int) (x13 : Int); out: ('ret',) (x4 : Bool); ('exit', 0)
end
end Go.Proofs.Ytnimpcffagidoaa.K
