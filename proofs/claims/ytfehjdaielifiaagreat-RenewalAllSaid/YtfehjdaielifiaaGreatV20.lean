/-
 lifetime: which items are valid, and what they are.
-/
import Derived.Test.YtfehjdaielifiaaGreatV19
import Derived.Test.YtfehjdaielifiaaGreatP19
set_option linter.unusedSimpArgs false
set_option linter.unusedVariables false
namespace Go.Proofs.YtfehjdaielifiaaGreat.K
open Go.RowKit
def linksB : Option Int → List Link → Bool
 | _, [] => true
 | pv, x :: r => validF x.1 && decide (0 ≤ x.2.1 ∧ x.2.1 ≤ 40000) && (match pv with | none => true | some d => decide (d < x.2.1)) && linksB (some x.2.1) r
theorem linksB_cons (pv : Option Int) (x : Link) (r : List Link) : linksB pv (x :: r) = (validF x.1 && decide (0 ≤ x.2.1 ∧ x.2.1 ≤ 40000) && (match pv with | none => true | some d => decide (d < x.2.1)) && linksB (some x.2.1) r) := by cases pv <;> rfl
def pvAt (l : List Link) (k : Nat) : Option Int := if k = 0 then none else (l[k - 1]?).map fun x : Link => x.2.1
def itemOk (i : Item) : Bool := namedF i.1 && decide (1 ≤ i.2.1 ∧ i.2.1 ≤ 2) && decide (1 ≤ i.2.2.1 ∧ i.2.2.1 ≤ 4) && decide (1 ≤ i.2.2.2.1.length ∧ i.2.2.2.1.length ≤ 8) && linksB none i.2.2.2.1 && decide ((i.2.2.2.1.headD ((0, (0, ())), (0, ()))).2.1 ≤ i.2.2.2.2.1 ∧ i.2.2.2.2.1 ≤ 40000)
def checkI (i : Item) : Int := if itemOk i then 0 else 30
def itemLen (i : Item) : Bool := nameOk i.1
def dr_f25_0 : List DO := [(.mk (oP 52 (.fa 0 (.t 5))) []), (.mk (oM 53 (.ld true 2 (.t 52))) [0]), (.mk (oC 54 52 [(.t 53)]) [1]), (.mk (oP 55 (.nt (.t 54))) [2]), (.mk (oV 56 55) [3, 2]), (.mk (oQ 57 56 false (.fa 2 (.t 5))) [4]), (.mk (oG 58 56 false (.m (.ld false 1 (.t 57)))) [5, 4]), (.mk (oQ 59 56 false (.bin false .lss (.t 58) (cI 0))) [6, 4]), (.mk (oP 60 (.pick (.t 56) (cB true) (.t 59))) [4, 7]), (.mk (oV 61 60) [8, 4]), (.mk (oQ 62 61 false (.fa 2 (.t 5))) [9]), (.mk (oG 63 61 false (.m (.ld false 1 (.t 62)))) [10, 9]), (.mk (oQ 64 61 false (.bin false .gtr (.t 63) (cI 40000))) [11, 9]), (.mk (oP 65 (.pick (.t 61) (cB true) (.t 64))) [9, 12]), (.mk (oV 66 65) [13, 9]), (.mk (oQ 67 66 false (.mv (.t 4))) [14]), (.mk (oQ 68 66 false (.bin false .gtr (.t 67) (cI 0))) [15, 14]), (.mk (oQ 69 66 false (.mv (.t 68))) [16, 14, 14]), (.mk (oQ 70 69 true (.fa 3 (.t 1))) [17]), (.mk (oG 71 69 true (.m (.ld false 1 (.t 70)))) [18, 17]), (.mk (oQ 72 69 true (.mv (.t 4))) [17]), (.mk (oQ 73 69 true (.bin false .sub (.t 72) (cI 1))) [20, 17]), (.mk (oQ 74 69 true (.ix 3 (.t 71) (.t 73))) [19, 21, 17]), (.mk (oQ 75 69 true (.fa 2 (.t 74))) [22, 17]), (.mk (oG 76 69 true (.m (.ld false 1 (.t 75)))) [23, 17]), (.mk (oQ 77 69 true (.fa 2 (.t 5))) [17]), (.mk (oG 78 69 true (.m (.ld false 1 (.t 77)))) [25, 17]), (.mk (oQ 79 69 true (.bin false .geq (.t 76) (.t 78))) [24, 26, 17]), (.mk (oQ 80 66 false (.pick (.t 69) (.t 79) (cB false))) [17, 27, 14]), (.mk (oP 81 (.pick (.t 66) (cB true) (.t 80))) [14, 28])]
def dr_f25_1 : List DO := [(.mk (oP 83 (.fa 4 (.t 1))) []), (.mk (oL 84 83) [0]), (.mk (oP 85 (.fa 3 (.t 1))) []), (.mk (oL 86 85) [2]), (.mk (oP 87 (.ix 3 (.t 86) (cI 0))) [3]), (.mk (oP 88 (.fa 2 (.t 87))) [4]), (.mk (oL 89 88) [5]), (.mk (oP 90 (.bin false .lss (.t 84) (.t 89))) [1, 6]), (.mk (oV 91 90) [7]), (.mk (oQ 92 91 false (.fa 4 (.t 1))) [8]), (.mk (oG 93 91 false (.m (.ld false 1 (.t 92)))) [9, 8]), (.mk (oQ 94 91 false (.bin false .gtr (.t 93) (cI 40000))) [10, 8]), (.mk (oP 95 (.pick (.t 91) (cB true) (.t 94))) [8, 11])]
def fg_f25_0 : Fg := ⟨[(1, none), (45, some (.sl tyLink)), (46, some tI), (47, some tI)], [(1, some tyItem)]⟩
def tb_f25_0 : TC := (.sq (.reg [(oP 48 (.bin false .lss (.t 47) (.t 46)))]) (.sq (.cd (.t 48) .sk (.fg ⟨[(1, none)], [(1, some tyItem)]⟩ (.ex 0))) (.sq (.bk 1 (.sq (.reg [(oV 49 47), (oP 50 (.ix 3 (.t 45) (.t 47))), (oM 51 (.ld true 3 (.t 50))), (oM 5 (.new [(.v (.int .i64 0)), (.v (.int .i64 0)), (.v (.int .i64 0))])), (oV 4 49), (.mk none none (.m (.st 3 (.t 5) (.t 51))))]) (.sq (.dr dr_f25_0 [(0, [5]), (1, [5]), (2, []), (3, []), (4, []), (5, [5]), (6, [5]), (7, []), (8, []), (9, []), (10, [5]), (11, [5]), (12, []), (13, []), (14, []), (15, []), (16, []), (17, []), (18, [1]), (19, [1]), (20, []), (21, []), (22, []), (23, []), (24, []), (25, [5]), (26, [5]), (27, []), (28, []), (29, [])] (.of [0, 1, 2, 3, 4, 5, 6, 7, 8, 9, 10, 11, 12, 13, 14, 15, 16, 17, 18, 19, 20, 21, 22, 23, 24, 25, 26, 27, 28, 29])) (.cd (.t 81) (.sq (.reg [(oP 2 (.mv (cI 30)))]) (.fg ⟨[(2, some tI)], []⟩ .rt)) .sk)))) (.reg [(oP 82 (.bin false .add (.t 47) (cI 1))), (oV 47 82)]))))
def tc_f25 : TC := (.sq (.reg [(oM 1 (.box (.t 0))), (oP 2 (.mv (cI 0)))]) (.sq (.reg [(oP 6 (.fa 1 (.t 1))), (oL 7 6), (oP 8 (.bin false .eql (.t 7) (cI 1))), (oV 9 8), (oQ 10 9 false (.fa 1 (.t 1))), (oG 11 9 false (.m (.ld false 1 (.t 10)))), (oQ 12 9 false (.bin false .eql (.t 11) (cI 2))), (oP 13 (.pick (.t 9) (cB true) (.t 12))), (oV 3 13)]) (.sq (.sq (.reg [(oP 14 (.fa 0 (.t 1))), (oL 15 14), (oC 16 55 [(.t 15)]), (oP 17 (.nt (.t 16))), (oV 18 17), (oQ 19 18 false (.mv (.t 3))), (oQ 20 18 false (.nt (.t 19))), (oP 21 (.pick (.t 18) (cB true) (.t 20))), (oV 22 21), (oQ 23 22 false (.fa 2 (.t 1))), (oG 24 22 false (.m (.ld false 1 (.t 23)))), (oQ 25 22 false (.bin false .lss (.t 24) (cI 1))), (oP 26 (.pick (.t 22) (cB true) (.t 25))), (oV 27 26), (oQ 28 27 false (.fa 2 (.t 1))), (oG 29 27 false (.m (.ld false 1 (.t 28)))), (oQ 30 27 false (.bin false .gtr (.t 29) (cI 4))), (oP 31 (.pick (.t 27) (cB true) (.t 30))), (oV 32 31), (oQ 33 32 false (.fa 3 (.t 1))), (oG 34 32 false (.m (.ld false 1 (.t 33)))), (oQ 35 32 false (.len false (.t 34))), (oQ 36 32 false (.bin false .lss (.t 35) (cI 1))), (oP 37 (.pick (.t 32) (cB true) (.t 36))), (oV 38 37), (oQ 39 38 false (.fa 3 (.t 1))), (oG 40 38 false (.m (.ld false 1 (.t 39)))), (oQ 41 38 false (.len false (.t 40))), (oQ 42 38 false (.bin false .gtr (.t 41) (cI 8))), (oP 43 (.pick (.t 38) (cB true) (.t 42)))]) (.cd (.t 43) (.sq (.reg [(oP 2 (.mv (cI 30)))]) .rt) .sk)) (.sq (.sq (.reg [(oP 44 (.fa 3 (.t 1))), (oL 45 44), (oP 46 (.len false (.t 45))), (oP 47 (.mv (cI 0)))]) (.bk 0 (.lp 0 fg_f25_0 tb_f25_0))) (.sq (.sq (.dr dr_f25_1 [(0, [1]), (1, [1]), (2, [1]), (3, [1]), (4, []), (5, []), (6, []), (7, []), (8, []), (9, [1]), (10, [1]), (11, []), (12, [])] (.of [0, 1, 2, 3, 4, 5, 6, 7, 8, 9, 10, 11, 12])) (.cd (.t 95) (.sq (.reg [(oP 2 (.mv (cI 30)))]) .rt) .sk)) (.sq (.reg [(oP 2 (.mv (cI 0)))]) .rt))))))
def rv_f25 : List (RV × Option Ty) := [((.t 2), some tI)]
abbrev sh_f25_0 : Sh := ⟨[(1, .ptr 1 0), (45, .ty (.sl tyLink)), (46, .ty tI), (47, .ty tI)], [(1, .box tyItem)]⟩
def st_f25_0 (x45 : (List Link)) (x46 : Int) (x47 : Int) (y1 : Item) : VS := sh_f25_0.st ((), x45, x46, x47, ()) (y1, ())
abbrev sh_f25_0_ret : Sh := ⟨[(2, .ty tI)], []⟩
def st_f25_0_ret (x2 : Int) : VS := sh_f25_0_ret.st (x2, ()) ()
abbrev sh_f25_0_e0 : Sh := ⟨[(1, .ptr 1 0)], [(1, .box tyItem)]⟩
def st_f25_0_e0 (y1 : Item) : VS := sh_f25_0_e0.st ((), ()) (y1, ())
-- loop 0: (x45 : (List Link)) (x46 : Int) (x47 : Int) (y1 : Item); out: ('ret',) (x2 : Int); ('exit', 0) (y1 : Item)
def L_f25_0 : VS → Option (Bool × List (Bool × Exit × VS)) := mkL sh_f25_0 (fun x y => ((x.2.1 == y.1.2.2.2.1) && rngOk x.2.1 x.2.2.1 x.2.2.2.1)) (fun x y => [((!(linksB (pvAt x.2.1 x.2.2.2.1.toNat) (x.2.1.drop x.2.2.2.1.toNat))), .ret, st_f25_0_ret (30)), (true, .exit 0, st_f25_0_e0 (y.1))])
def g_f25 : G := ⟨TYs, [], 96, EL [(52, sp_f52), (55, sp_f55)], keeps, (Ls [L_f25_0]), IL [], RL []⟩
def b_f25_0 (x45 : (List Link)) (x46 : Int) (x47 : Int) (y1 : Item) : Option (Exit × VS) :=
 br ((ilt x47 x46))
  (br (cIx x45 x47)
   (br ((!(validF ((lgt tyLink x45 (Int.toNat x47)).1))))
    (some (.ret, st_f25_0_ret 30))
    (br ((ilt (((lgt tyLink x45 (Int.toNat x47)).2).1) 0))
     (some (.ret, st_f25_0_ret 30))
     (br ((igt (((lgt tyLink x45 (Int.toNat x47)).2).1) 40000))
      (some (.ret, st_f25_0_ret 30))
      (br ((igt x47 0))
       (br (cIx y1.2.2.2.1 (isub .i64 x47 1))
        (br ((ige (((lgt tyLink y1.2.2.2.1 (Int.toNat (isub .i64 x47 1))).2).1) (((lgt tyLink x45 (Int.toNat x47)).2).1)))
         (some (.ret, st_f25_0_ret 30))
         (some (.normal, st_f25_0 x45 x46 (iadd .i64 x47 1) y1)))
        (none))
       (some (.normal, st_f25_0 x45 x46 (iadd .i64 x47 1) y1))))))
   (none))
  (some (.exit 0, st_f25_0_e0 y1))
noncomputable def lp_f25_0 (x45 : (List Link)) (x46 : Int) (x47 : Int) (y1 : Item) : Option (Exit × VS) := loopF (roundF g_f25 fg_f25_0 tb_f25_0) (st_f25_0 x45 x46 x47 y1)
noncomputable def n_f25_0 (x45 : (List Link)) (x46 : Int) (x47 : Int) (y1 : Item) : Option (Exit × VS) :=
 br ((ilt x47 x46))
  (br (cIx x45 x47)
   (br ((!(validF ((lgt tyLink x45 (Int.toNat x47)).1))))
    (some (.ret, st_f25_0_ret 30))
    (br ((ilt (((lgt tyLink x45 (Int.toNat x47)).2).1) 0))
     (some (.ret, st_f25_0_ret 30))
     (br ((igt (((lgt tyLink x45 (Int.toNat x47)).2).1) 40000))
      (some (.ret, st_f25_0_ret 30))
      (br ((igt x47 0))
       (br (cIx y1.2.2.2.1 (isub .i64 x47 1))
        (br ((ige (((lgt tyLink y1.2.2.2.1 (Int.toNat (isub .i64 x47 1))).2).1) (((lgt tyLink x45 (Int.toNat x47)).2).1)))
         (some (.ret, st_f25_0_ret 30))
         (lp_f25_0 x45 x46 (iadd .i64 x47 1) y1))
        (none))
       (lp_f25_0 x45 x46 (iadd .i64 x47 1) y1)))))
   (none))
  (some (.exit 0, st_f25_0_e0 y1))
def la_f25_0 (x45 : (List Link)) (x46 : Int) (x47 : Int) (y1 : Item) : Option (Exit × VS) := br (!(linksB (pvAt x45 x47.toNat) (x45.drop x47.toNat))) (some (.ret, st_f25_0_ret (30))) <| some (.exit 0, st_f25_0_e0 (y1))
theorem be_f25_0 (x45 : (List Link)) (x46 : Int) (x47 : Int) (y1 : Item) : roundF g_f25 fg_f25_0 tb_f25_0 (st_f25_0 x45 x46 x47 y1) = b_f25_0 x45 x46 x47 y1 := by kernel_rfl
theorem ln_f25_0 (x45 : (List Link)) (x46 : Int) (x47 : Int) (y1 : Item) : lp_f25_0 x45 x46 x47 y1 = n_f25_0 x45 x46 x47 y1 := (loopF_nxt _ _).trans (by
 rw [be_f25_0]
 simp only [b_f25_0, n_f25_0, nxt_br, nxt_n, nxt_r, nxt_e, nxt_0]
 rfl)
def r_f25_1 (p0 : Item) : Option (V × List VO) :=
 br ((ilt p0.2.2.1 1))
  (some (.t tI 30, []))
  (br ((igt p0.2.2.1 4))
   (some (.t tI 30, []))
   (br ((ilt (llen p0.2.2.2.1) 1))
    (some (.t tI 30, []))
    (br ((igt (llen p0.2.2.2.1) 8))
     (some (.t tI 30, []))
     (br (((p0.2.2.2.1 == p0.2.2.2.1) && rngOk p0.2.2.2.1 (llen p0.2.2.2.1) (0 : Int)))
      (br ((!(linksB (pvAt p0.2.2.2.1 (0 : Int).toNat) (p0.2.2.2.1.drop (0 : Int).toNat))))
       (some (.t tI (30), []))
       (br (cIx (((((p0).2).2).2).1) 0)
        (br ((ilt ((((((p0).2).2).2).2).1) (((lgt tyLink (((((p0).2).2).2).1) (Int.toNat 0)).2).1)))
         (some (.t tI 30, []))
         (br ((igt ((((((p0).2).2).2).2).1) 40000))
          (some (.t tI 30, []))
          (some (.t tI 0, []))))
        (none)))
      (none)))))
def r_f25 (p0 : Item) : Option (V × List VO) :=
 br ((ieq p0.2.1 1))
  (br ((nameOk p0.1))
   (br ((!(namedF p0.1)))
    (some (.t tI 30, []))
    (br ((!true))
     (some (.t tI 30, []))
     (r_f25_1 p0)))
   (none))
  (br ((nameOk p0.1))
   (br ((!(namedF p0.1)))
    (some (.t tI 30, []))
    (br ((!(ieq p0.2.1 2)))
     (some (.t tI 30, []))
     (r_f25_1 p0)))
   (none))
theorem e_f25 (p0 : Item) : runF g_f25 tc_f25 rv_f25 false [.t tyItem p0] [] = r_f25 p0 := by kernel_rfl
theorem ok_f25 : Option.map (trC Tryz.prog) Tryz.f25.body = some tc_f25.er := by kernel_rfl
theorem rok_f25 : trVs Tryz.prog Tryz.f25.results.toList = some (rv_f25.map Prod.fst) := by kernel_rfl
theorem en_f25 : Entered Tryz.prog 25 := .inr ⟨by decide, _, Tryz.func25, by kernel_rfl, by kernel_rfl⟩
theorem gk_f25 : GOk Tryz.prog g_f25 := gok_of _ (by
 intro p hp
 simp only [List.mem_cons, List.not_mem_nil, or_false] at hp
 rcases hp with rfl | rfl
 ·exact ⟨en_f52, ms_f52⟩
 ·exact ⟨en_f55, ms_f55⟩)
theorem l_f25_0 (x45 : (List Link)) (x46 : Int) (x47 : Int) (y1 : Item) (h : ((x45 == y1.2.2.2.1) && rngOk x45 x46 x47) = true) : lp_f25_0 x45 x46 x47 y1 = la_f25_0 x45 x46 x47 y1 := by
 simp only [Bool.and_eq_true, beq_iff_eq] at h
 obtain ⟨hx, h0⟩ := h
 obtain ⟨rfl, h3, k, rfl, hk⟩ := rng_k h0
 clear h0
 refine range_ind x45 (fun k => lp_f25_0 x45 (x45.length : Int) (k : Int) y1 = la_f25_0 x45 (x45.length : Int) (k : Int) y1) ?_ ?_ k hk
 ·rw [ln_f25_0]
  simp [n_f25_0, la_f25_0, ilt_nat, br_false, linksB]
 ·intro k hk ih
  rw [ln_f25_0]
  have el : la_f25_0 x45 (x45.length : Int) (k : Int) y1 = br (!(validF x45[k].1 && decide (0 ≤ x45[k].2.1 ∧ x45[k].2.1 ≤ 40000) && (match pvAt x45 k with | none => true | some d => decide (d < x45[k].2.1)))) (some (.ret, st_f25_0_ret 30)) (la_f25_0 x45 (x45.length : Int) ((k + 1 : Nat) : Int) y1) := by
   have e1 : pvAt x45 (k + 1) = some x45[k].2.1 := by
    unfold pvAt
    rw [if_neg (by omega), Nat.add_sub_cancel, List.getElem?_eq_getElem hk]
    rfl
   simp only [la_f25_0, Int.toNat_natCast, e1]
   rw [List.drop_eq_getElem_cons hk, linksB_cons]
   generalize (validF x45[k].1 && decide (0 ≤ x45[k].2.1 ∧ x45[k].2.1 ≤ 40000) && (match pvAt x45 k with | none => true | some d => decide (d < x45[k].2.1))) = c
   cases c <;> rfl
  rw [el]
  simp only [n_f25_0, ilt_nat, cIx_nat, hk, decide_true, br_true, Int.toNat_natCast, add1 (show k < 4611686018427387904 by omega), lgt_get (y := tyLink) hk, ih, ← hx]
  cases validF x45[k].1 with
  | false => rfl
  | true =>
   simp only [Bool.not_true, br_false, Bool.true_and]
   by_cases c1 : x45[k].2.1 < 0
   ·rw [show ilt x45[k].2.1 0 = true from decide_eq_true c1, br_true, decide_eq_false (show ¬ (0 ≤ x45[k].2.1 ∧ x45[k].2.1 ≤ 40000) by omega)]
    rfl
   ·rw [show ilt x45[k].2.1 0 = false from decide_eq_false c1, br_false]
    by_cases c2 : 40000 < x45[k].2.1
    ·rw [show igt x45[k].2.1 40000 = true from decide_eq_true (by omega), br_true, decide_eq_false (show ¬ (0 ≤ x45[k].2.1 ∧ x45[k].2.1 ≤ 40000) by omega)]
     rfl
    ·rw [show igt x45[k].2.1 40000 = false from decide_eq_false (by omega), br_false, decide_eq_true (show 0 ≤ x45[k].2.1 ∧ x45[k].2.1 ≤ 40000 by omega)]
     simp only [Bool.true_and]
     by_cases hk0 : k = 0
     ·subst hk0
      rfl
     ·have hk1 : k - 1 < x45.length := by omega
      have e1 : isub .i64 (k : Int) 1 = ((k - 1 : Nat) : Int) := by rw [isub_in (by omega)]; omega
      have e2 : igt (k : Int) 0 = true := by simp only [igt, decide_eq_true_eq]; omega
      have e3 : pvAt x45 k = some x45[k - 1].2.1 := by
       unfold pvAt
       rw [if_neg hk0, List.getElem?_eq_getElem hk1]
       rfl
      rw [e1, e2, e3, br_true]
      simp only [cIx_nat, hk1, decide_true, br_true, Int.toNat_natCast, lgt_get (y := tyLink) hk1]
      by_cases c3 : x45[k - 1].2.1 < x45[k].2.1
      ·rw [show ige x45[k - 1].2.1 x45[k].2.1 = false from decide_eq_false (by omega), br_false, decide_eq_true c3]
       rfl
      ·rw [show ige x45[k - 1].2.1 x45[k].2.1 = true from decide_eq_true (by omega), br_true, decide_eq_false c3]
       rfl
theorem lo_f25_0 : ∀ S l p, g_f25.L 0 (fgt fg_f25_0 S) = some (true, l) → pickA l = some p → loopF (roundF g_f25 fg_f25_0 tb_f25_0) S = some p :=
 lok_of (s := sh_f25_0) ⟨by decide, by decide⟩ (by kernel_rfl) fun x y hok p hp => by
 simp only [pickA_br, pickA_one] at hp
 exact (l_f25_0 x.2.1 x.2.2.1 x.2.2.2.1 y.1 (by simpa using hok)).trans hp
theorem lk_f25 : tc_f25.lok g_f25 := by
 repeat (first | exact trivial | exact lo_f25_0 | refine ⟨?_, ?_⟩)
theorem itemOk_iff {i : Item} : itemOk i = true ↔ namedF i.1 = true ∧ (1 ≤ i.2.1 ∧ i.2.1 ≤ 2) ∧ (1 ≤ i.2.2.1 ∧ i.2.2.1 ≤ 4) ∧ (1 ≤ i.2.2.2.1.length ∧ i.2.2.2.1.length ≤ 8) ∧ linksB none i.2.2.2.1 = true ∧ (i.2.2.2.1.headD ((0, (0, ())), (0, ()))).2.1 ≤ i.2.2.2.2.1 ∧ i.2.2.2.2.1 ≤ 40000 := by
 unfold itemOk
 simp only [Bool.and_eq_true, decide_eq_true_eq, and_assoc]
theorem s_f25 (i : Item) (h : itemLen i = true) : r_f25 i = some (.t tI (checkI i), []) := by
 have h : nameOk i.1 = true := h
 have bad : (itemOk i = true → False) → some (V.t tI 30, ([] : List VO)) = some (V.t tI (checkI i), []) := fun hq => by
  cases hi : itemOk i with
  | false => simp [checkI, hi]
  | true => exact (hq hi).elim
 have tail : namedF i.1 = true → (1 ≤ i.2.1 ∧ i.2.1 ≤ 2) → r_f25_1 i = some (.t tI (checkI i), []) := fun k1 k2 => by
  simp only [r_f25_1]
  refine br_intro (fun g => bad fun hq => ?_) (fun g1 => br_intro (fun g => bad fun hq => ?_) (fun g2 => br_intro (fun g => bad fun hq => ?_) (fun g3 => br_intro (fun g => bad fun hq => ?_) (fun g4 => ?_))))
  ·have := itemOk_iff.1 hq; simp only [ilt, decide_eq_true_eq] at g; omega
  ·have := itemOk_iff.1 hq; simp only [igt, decide_eq_true_eq] at g; omega
  ·have := itemOk_iff.1 hq; simp only [ilt, llen, decide_eq_true_eq] at g; omega
  ·have := itemOk_iff.1 hq; simp only [igt, llen, decide_eq_true_eq] at g; omega
  ·simp only [ilt, igt, llen, decide_eq_false_iff_not] at g1 g2 g3 g4
   rw [beq_self_eq_true, Bool.true_and, rng_0 (by omega), br_true]
   have e0 : pvAt i.2.2.2.1 (0 : Int).toNat = none := rfl
   rw [e0, Int.toNat_zero, List.drop_zero]
   refine br_intro (fun g => bad fun hq => ?_) (fun g5 => ?_)
   ·have := itemOk_iff.1 hq
    rw [this.2.2.2.2.1] at g
    cases g
   ·have hl : 0 < i.2.2.2.1.length := by omega
    have e1 : cIx i.2.2.2.1 0 = true := by simp only [cIx, decide_eq_true_eq]; omega
    have e2 : lgt tyLink i.2.2.2.1 0 = i.2.2.2.1.headD ((0, (0, ())), (0, ())) := by
     cases hq : i.2.2.2.1 with
     | nil => rw [hq] at hl; simp at hl
     | cons a l => rfl
    rw [e1, br_true, e2]
    refine br_intro (fun g => bad fun hq => ?_) (fun g6 => br_intro (fun g => bad fun hq => ?_) (fun g7 => ?_))
    ·have := itemOk_iff.1 hq; simp only [ilt, decide_eq_true_eq] at g; omega
    ·have := itemOk_iff.1 hq; simp only [igt, decide_eq_true_eq] at g; omega
    ·simp only [ilt, igt, decide_eq_false_iff_not] at g6 g7
     have : itemOk i = true := itemOk_iff.2 ⟨k1, k2, by omega, by omega, by simpa using g5, by omega, by omega⟩
     simp [checkI, this]
 simp only [r_f25, r_f25_1] at tail ⊢
 rw [h]
 simp only [br_true]
 refine br_intro (fun g1 => br_intro (fun g => bad fun hq => ?_) (fun g2 => ?_)) (fun g1 => br_intro (fun g => bad fun hq => ?_) (fun g2 => br_intro (fun g => bad fun hq => ?_) (fun g3 => ?_)))
 ·rw [(itemOk_iff.1 hq).1] at g; cases g
 ·simp only [ieq_dec, decide_eq_true_eq] at g1
  exact tail (by simpa using g2) (by omega)
 ·rw [(itemOk_iff.1 hq).1] at g; cases g
 ·have := itemOk_iff.1 hq
  simp only [ieq_dec, decide_eq_false_iff_not, Bool.not_eq_true', decide_eq_true_eq] at g1 g
  omega
 ·simp only [ieq_dec, decide_eq_false_iff_not, Bool.not_eq_false', decide_eq_true_eq] at g1 g3
  exact tail (by simpa using g2) (by omega)
def sp_f25 : Ent := spec (.pr tyItem .nil) (fun x => (itemLen x.1)) (fun x => (.t tI (checkI x.1)))
theorem ms_f25 : Meets Tryz.prog 25 (strip sp_f25) := by
 obtain ⟨c, hc, hi⟩ := Option.map_eq_some_iff.1 ok_f25
 exact meets_spec (R := runF g_f25 tc_f25 rv_f25 false) (meets_of (by decide) Tryz.func25 hc hi Tryz.ntmps25 rok_f25 gk_f25 lk_f25 mixed) fun x hok => (e_f25 x.1).trans (s_f25 x.1 hok)
def lkF (y : Policy) (p : Int) (x : Link) : LinkX := (x.2.1, ((fallL (spansF y x.1 p)).1, ((fallL (spansF y x.1 p)).2, ())))
def lksF (y : Policy) (i : Item) : List LinkX := i.2.2.2.1.map (lkF y i.2.2.1)
def fineB (y : Policy) (i : Item) : Bool := polOk y && itemOk i
def ofA (y : Policy) (i : Item) : List LinkX × Int := (lksF y i, 0)
def ofE (y : Policy) (_i : Item) : Int := if polOk y then 30 else 25
def ofOkA (y : Policy) (i : Item) : Bool := fineB y i && ieq i.2.1 1
def ofOkB (y : Policy) (i : Item) : Bool := fineB y i && ieq i.2.1 2
def ofOkE (y : Policy) (i : Item) : Bool := polLen y && nameOk i.1 && !fineB y i
theorem linksB_all : ∀ {l : List Link} {pv : Option Int}, linksB pv l = true → ∀ x, x ∈ l → validF x.1 = true ∧ 0 ≤ x.2.1 ∧ x.2.1 ≤ 40000
 | [], _, _, _, hx => by cases hx
 | a :: l, pv, h, x, hx => by
  rw [linksB_cons, Bool.and_eq_true, Bool.and_eq_true, Bool.and_eq_true, decide_eq_true_eq] at h
  rcases List.mem_cons.1 hx with rfl | hx
  ·exact ⟨h.1.1.1, h.1.1.2⟩
  ·exact linksB_all h.2 x hx
theorem falls_fine {y : Policy} {u : Keep} {p : Int} (hp : polOk y = true) (hv : validF u = true) (h1 : 1 ≤ p) (h2 : p ≤ 4) : FallsF y u p = ((fallL (spansF y u p)).1, (fallL (spansF y u p)).2, 0) := by
 have ee : earlyF y u p 0 = 0 := by
  unfold earlyF
  rw [hp, hv]
  simp only [Bool.true_eq_false, if_false]
  rw [if_neg (by omega)]
 unfold FallsF
 rw [if_pos ee]
def fg_f50_0 : Fg := ⟨[(2, none), (3, none), (8, none), (25, some (.sl tyLink)), (26, some tI), (27, some tI)], [(2, some tyPolicy), (3, some tyItem), (8, none), (51, none)]⟩
def tb_f50_0 : TC := (.sq (.reg [(oP 28 (.bin false .lss (.t 27) (.t 26)))]) (.sq (.cd (.t 28) .sk (.fg ⟨[(3, none), (8, none)], [(3, some tyItem), (8, none), (51, none)]⟩ (.ex 0))) (.sq (.bk 1 (.sq (.reg [(oP 29 (.ix 3 (.t 25) (.t 27))), (oM 30 (.ld true 3 (.t 29))), (oM 10 (.new [(.v (.int .i64 0)), (.v (.int .i64 0)), (.v (.int .i64 0))])), (.mk none none (.m (.st 3 (.t 10) (.t 30))))]) (.sq (.reg [(oM 32 (.ld true 2 (.t 2))), (oP 33 (.fa 0 (.t 10))), (oM 34 (.ld true 2 (.t 33))), (oP 35 (.fa 2 (.t 3))), (oL 36 35), (oC 37 75 [(.t 32), (.t 34), (.t 36)]), (oV 31 37), (oP 38 (.ext 0 (.t 31))), (oP 39 (.ext 1 (.t 31))), (oP 40 (.ext 2 (.t 31))), (oV 11 38), (oV 12 39), (oV 13 40)]) (.sq (.sq (.reg [(oV 41 13), (oP 42 (.bin false .neq (.t 41) (cI 0)))]) (.cd (.t 42) (.sq (.reg [(oV 43 13), (oP 4 (.mv (.c (.v .nilIface)))), (oV 5 43)]) (.fg ⟨[(4, none), (5, some tI)], []⟩ .rt)) .sk)) (.reg [(oV 44 8), (oP 45 (.fa 2 (.t 10))), (oL 46 45), (oV 47 11), (oV 48 12), (oP 49 (.bd [(.v (.int .i64 0)), (.v (.int .i64 0)), (.v (.bool false))] [(0, 1, (.t 46)), (1, 1, (.t 47)), (2, 1, (.t 48))])), (oM 50 (.bs 114 3 1 [(.v (.int .i64 0)), (.v (.int .i64 0)), (.v (.bool false))] [(0, 3, (.t 49))])), (oM 51 (.app 114 3 24 (.t 44) (.t 50))), (oV 8 51)]))))) (.reg [(oP 52 (.bin false .add (.t 27) (cI 1))), (oV 27 52)]))))
def tc_f50 : TC := (.sq (.reg [(oM 2 (.box (.t 0))), (oM 3 (.box (.t 1))), (oP 4 (.mv (.c (.v .nilIface)))), (oP 5 (.mv (cI 0)))]) (.sq (.sq (.reg [(oM 14 (.ld true 2 (.t 2))), (oC 15 67 [(.t 14)]), (oV 6 15)]) (.sq (.reg [(oV 16 6), (oP 17 (.bin false .neq (.t 16) (cI 0)))]) (.cd (.t 17) (.sq (.reg [(oV 18 6), (oP 4 (.mv (.c (.v .nilIface)))), (oV 5 18)]) .rt) .sk))) (.sq (.sq (.reg [(oM 19 (.ld true 5 (.t 3))), (oC 20 25 [(.t 19)]), (oV 7 20)]) (.sq (.reg [(oV 21 7), (oP 22 (.bin false .neq (.t 21) (cI 0)))]) (.cd (.t 22) (.sq (.reg [(oV 23 7), (oP 4 (.mv (.c (.v .nilIface)))), (oV 5 23)]) .rt) .sk))) (.sq (.reg [(oP 8 (.mv (.c (.v (.slice none 0 0)))))]) (.sq (.sq (.reg [(oP 24 (.fa 3 (.t 3))), (oL 25 24), (oP 26 (.len false (.t 25))), (oP 27 (.mv (cI 0)))]) (.bk 0 (.nw 8 114 (.lp 0 fg_f50_0 tb_f50_0)))) (.sq (.sq (.reg [(oP 53 (.fa 1 (.t 3))), (oL 54 53), (oP 55 (.bin false .eql (.t 54) (cI 1)))]) (.cd (.t 55) (.sq (.reg [(oV 56 8), (oC 57 1001843 [(.t 56)]), (oV 4 57), (oP 5 (.mv (cI 0)))]) .rt) .sk)) (.sq (.reg [(oV 58 8), (oC 59 1001859 [(.t 58)]), (oV 4 59), (oP 5 (.mv (cI 0)))]) .rt)))))))
def rv_f50 : List (RV × Option Ty) := [((.t 4), none), ((.t 5), some tI)]
abbrev sh_f50_0 : Sh := ⟨[(2, .ptr 2 0), (3, .ptr 3 0), (8, .ms 8), (25, .ty (.sl tyLink)), (26, .ty tI), (27, .ty tI)], [(2, .box tyPolicy), (3, .box tyItem), (8, .arr 114 tyLinkX), (51, .no)]⟩
def st_f50_0 (x25 : (List Link)) (x26 : Int) (x27 : Int) (y2 : Policy) (y3 : Item) (y8 : (List LinkX)) : VS := sh_f50_0.st ((), (), (), x25, x26, x27, ()) (y2, y3, y8, (), ())
abbrev sh_f50_0_ret : Sh := ⟨[(4, .ni), (5, .ty tI)], []⟩
def st_f50_0_ret (x5 : Int) : VS := sh_f50_0_ret.st ((), x5, ()) ()
abbrev sh_f50_0_e0 : Sh := ⟨[(3, .ptr 3 0), (8, .ms 8)], [(3, .box tyItem), (8, .arr 114 tyLinkX), (51, .no)]⟩
def st_f50_0_e0 (y3 : Item) (y8 : (List LinkX)) : VS := sh_f50_0_e0.st ((), (), ()) (y3, y8, (), ())
-- loop 0: (x25 : (List Link)) (x26 : Int) (x27 : Int) (y2 : Policy) (y3 : Item) (y8 : (List LinkX)); out: ('ret',) (x5 : Int); ('exit', 0) (y3 : Item) (y8 : (List LinkX))
def L_f50_0 : VS → Option (Bool × List (Bool × Exit × VS)) := mkL sh_f50_0 (fun x y => (fineB y.1 y.2.1 && (x.2.2.2.1 == y.2.1.2.2.2.1) && rngOk x.2.2.2.1 x.2.2.2.2.1 x.2.2.2.2.2.1 && decide ((y.2.2.1.length : Int) ≤ x.2.2.2.2.2.1))) (fun x y => [((false), .ret, st_f50_0_ret (0)), (true, .exit 0, st_f50_0_e0 (y.2.1) (y.2.2.1 ++ (x.2.2.2.1.drop x.2.2.2.2.2.1.toNat).map (lkF y.1 y.2.1.2.2.1)))])
def g_f50 : G := ⟨TYs, [], 60, EL [(25, sp_f25), (67, sp_f67), (75, sp_f75), (1001843, sp_op_iface_115), (1001859, sp_op_iface_116)], keeps, (Ls [L_f50_0]), IL [], RL []⟩
def b_f50_0 (x25 : (List Link)) (x26 : Int) (x27 : Int) (y2 : Policy) (y3 : Item) (y8 : (List LinkX)) : Option (Exit × VS) :=
 br ((ilt x27 x26))
  (br (cIx x25 x27)
   (br ((polLen3 y2 ((lgt tyLink x25 (Int.toNat x27)).1) y3.2.2.1))
    (br ((ine (((FallsF y2 ((lgt tyLink x25 (Int.toNat x27)).1) y3.2.2.1).2).2) 0))
     (some (.ret, st_f50_0_ret (((FallsF y2 ((lgt tyLink x25 (Int.toNat x27)).1) y3.2.2.1).2).2)))
     (br (cApp y8 ([(((lgt tyLink x25 (Int.toNat x27)).2).1, ((FallsF y2 ((lgt tyLink x25 (Int.toNat x27)).1) y3.2.2.1).1, (((FallsF y2 ((lgt tyLink x25 (Int.toNat x27)).1) y3.2.2.1).2).1, ())))]) 24)
      (some (.normal, st_f50_0 x25 x26 (iadd .i64 x27 1) y2 y3 (y8 ++ ([(((lgt tyLink x25 (Int.toNat x27)).2).1, ((FallsF y2 ((lgt tyLink x25 (Int.toNat x27)).1) y3.2.2.1).1, (((FallsF y2 ((lgt tyLink x25 (Int.toNat x27)).1) y3.2.2.1).2).1, ())))]))))
      (none)))
    (none))
   (none))
  (some (.exit 0, st_f50_0_e0 y3 y8))
noncomputable def lp_f50_0 (x25 : (List Link)) (x26 : Int) (x27 : Int) (y2 : Policy) (y3 : Item) (y8 : (List LinkX)) : Option (Exit × VS) := loopF (roundF g_f50 fg_f50_0 tb_f50_0) (st_f50_0 x25 x26 x27 y2 y3 y8)
noncomputable def n_f50_0 (x25 : (List Link)) (x26 : Int) (x27 : Int) (y2 : Policy) (y3 : Item) (y8 : (List LinkX)) : Option (Exit × VS) :=
 br ((ilt x27 x26))
  (br (cIx x25 x27)
   (br ((polLen3 y2 ((lgt tyLink x25 (Int.toNat x27)).1) y3.2.2.1))
    (br ((ine (((FallsF y2 ((lgt tyLink x25 (Int.toNat x27)).1) y3.2.2.1).2).2) 0))
     (some (.ret, st_f50_0_ret (((FallsF y2 ((lgt tyLink x25 (Int.toNat x27)).1) y3.2.2.1).2).2)))
     (br (cApp y8 ([(((lgt tyLink x25 (Int.toNat x27)).2).1, ((FallsF y2 ((lgt tyLink x25 (Int.toNat x27)).1) y3.2.2.1).1, (((FallsF y2 ((lgt tyLink x25 (Int.toNat x27)).1) y3.2.2.1).2).1, ())))]) 24)
      (lp_f50_0 x25 x26 (iadd .i64 x27 1) y2 y3 (y8 ++ ([(((lgt tyLink x25 (Int.toNat x27)).2).1, ((FallsF y2 ((lgt tyLink x25 (Int.toNat x27)).1) y3.2.2.1).1, (((FallsF y2 ((lgt tyLink x25 (Int.toNat x27)).1) y3.2.2.1).2).1, ())))])))
      (none)))
    (none))
   (none))
  (some (.exit 0, st_f50_0_e0 y3 y8))
def la_f50_0 (x25 : (List Link)) (x26 : Int) (x27 : Int) (y2 : Policy) (y3 : Item) (y8 : (List LinkX)) : Option (Exit × VS) := br (false) (some (.ret, st_f50_0_ret (0))) <| some (.exit 0, st_f50_0_e0 (y3) (y8 ++ (x25.drop x27.toNat).map (lkF y2 y3.2.2.1)))
theorem be_f50_0 (x25 : (List Link)) (x26 : Int) (x27 : Int) (y2 : Policy) (y3 : Item) (y8 : (List LinkX)) : roundF g_f50 fg_f50_0 tb_f50_0 (st_f50_0 x25 x26 x27 y2 y3 y8) = b_f50_0 x25 x26 x27 y2 y3 y8 := by kernel_rfl
theorem ln_f50_0 (x25 : (List Link)) (x26 : Int) (x27 : Int) (y2 : Policy) (y3 : Item) (y8 : (List LinkX)) : lp_f50_0 x25 x26 x27 y2 y3 y8 = n_f50_0 x25 x26 x27 y2 y3 y8 := (loopF_nxt _ _).trans (by
 rw [be_f50_0]
 simp only [b_f50_0, n_f50_0, nxt_br, nxt_n, nxt_r, nxt_e, nxt_0]
 rfl)
def r_f50 (p0 : Policy) (p1 : Item) : Option (V × List VO) :=
 br ((polLen p0))
  (br ((ine (checkF p0) 0))
   (some (.tu [(.c .nilIface), (.t tI (checkF p0))], []))
   (br ((itemLen p1))
    (br ((ine (checkI p1) 0))
     (some (.tu [(.c .nilIface), (.t tI (checkI p1))], []))
     (br ((fineB p0 p1 && (p1.2.2.2.1 == p1.2.2.2.1) && rngOk p1.2.2.2.1 (llen p1.2.2.2.1) (0 : Int) && decide ((([] : List LinkX).length : Int) ≤ (0 : Int))))
      (br ((false))
       (some (.tu [(.c .nilIface), (.t tI (0))], []))
       (br ((ieq (((p1).2).1) 1))
        (some (.tu [(.ifc 115 (.t (.sl tyLinkX) (([] : List LinkX) ++ (p1.2.2.2.1.drop (0 : Int).toNat).map (lkF p0 p1.2.2.1)))), (.t tI 0)], []))
        (some (.tu [(.ifc 116 (.t (.sl tyLinkX) (([] : List LinkX) ++ (p1.2.2.2.1.drop (0 : Int).toNat).map (lkF p0 p1.2.2.1)))), (.t tI 0)], []))))
      (none)))
    (none)))
  (none)
theorem e_f50 (p0 : Policy) (p1 : Item) : runF g_f50 tc_f50 rv_f50 false [.t tyPolicy p0, .t tyItem p1] [] = r_f50 p0 p1 := by kernel_rfl
theorem ok_f50 : Option.map (trC Tryz.prog) Tryz.f50.body = some tc_f50.er := by kernel_rfl
theorem rok_f50 : trVs Tryz.prog Tryz.f50.results.toList = some (rv_f50.map Prod.fst) := by kernel_rfl
theorem en_f50 : Entered Tryz.prog 50 := .inr ⟨by decide, _, Tryz.func50, by kernel_rfl, by kernel_rfl⟩
theorem gk_f50 : GOk Tryz.prog g_f50 := gok_of _ (by
 intro p hp
 simp only [List.mem_cons, List.not_mem_nil, or_false] at hp
 rcases hp with rfl | rfl | rfl | rfl | rfl
 ·exact ⟨en_f25, ms_f25⟩
 ·exact ⟨en_f67, ms_f67⟩
 ·exact ⟨en_f75, ms_f75⟩
 ·exact ⟨en_op_iface_115, ms_op_iface_115⟩
 ·exact ⟨en_op_iface_116, ms_op_iface_116⟩)
theorem l_f50_0 (x25 : (List Link)) (x26 : Int) (x27 : Int) (y2 : Policy) (y3 : Item) (y8 : (List LinkX)) (h : (fineB y2 y3 && (x25 == y3.2.2.2.1) && rngOk x25 x26 x27 && decide ((y8.length : Int) ≤ x27)) = true) : lp_f50_0 x25 x26 x27 y2 y3 y8 = la_f50_0 x25 x26 x27 y2 y3 y8 := by
 simp only [Bool.and_eq_true, beq_iff_eq, decide_eq_true_eq] at h
 obtain ⟨⟨⟨hf, hx⟩, h0⟩, h4⟩ := h
 obtain ⟨rfl, h3, k, rfl, hk⟩ := rng_k h0
 clear h0
 simp only [fineB, Bool.and_eq_true] at hf
 have hi := itemOk_iff.1 hf.2
 have hpl : ∀ u q, polLen3 y2 u q = true := fun u q => (pol_len hf.1).1
 revert y8
 refine range_ind x25 (fun k => ∀ y8 : List LinkX, (y8.length : Int) ≤ (k : Int) → lp_f50_0 x25 (x25.length : Int) (k : Int) y2 y3 y8 = la_f50_0 x25 (x25.length : Int) (k : Int) y2 y3 y8) ?_ ?_ k hk
 ·intro y8 _
  rw [ln_f50_0]
  simp [n_f50_0, la_f50_0, ilt_nat, br_false]
 ·intro k hk ih y8 hy
  rw [ln_f50_0]
  have hv := linksB_all hi.2.2.2.2.1 x25[k] (by rw [← hx]; exact List.getElem_mem hk)
  have ef := falls_fine (u := x25[k].1) (p := y3.2.2.1) hf.1 hv.1 hi.2.2.1.1 hi.2.2.1.2
  simp only [n_f50_0, ilt_nat, cIx_nat, hk, decide_true, br_true, Int.toNat_natCast, add1 (show k < 4611686018427387904 by omega), lgt_get (y := tyLink) hk, hpl, ef, show ine 0 0 = false from rfl, br_false]
  rw [cApp_ok (by simp; omega) (by omega), br_true, ih _ (by simp; omega)]
  simp only [la_f50_0, Int.toNat_natCast, List.drop_eq_getElem_cons hk, List.map_cons, List.append_assoc, br_false]
  rfl
theorem lo_f50_0 : ∀ S l p, g_f50.L 0 (fgt fg_f50_0 S) = some (true, l) → pickA l = some p → loopF (roundF g_f50 fg_f50_0 tb_f50_0) S = some p :=
 lok_of (s := sh_f50_0) ⟨by decide, by decide⟩ (by kernel_rfl) fun x y hok p hp => by
 simp only [pickA_br, pickA_one] at hp
 exact (l_f50_0 x.2.2.2.1 x.2.2.2.2.1 x.2.2.2.2.2.1 y.1 y.2.1 y.2.2.1 (by simpa using hok)).trans hp
theorem lk_f50 : tc_f50.lok g_f50 := by
 repeat (first | exact trivial | exact lo_f50_0 | refine ⟨?_, ?_⟩)
theorem mr_f50 : Meets Tryz.prog 50 (runF g_f50 tc_f50 rv_f50 false) := by
 obtain ⟨c, hc, hi⟩ := Option.map_eq_some_iff.1 ok_f50
 exact meets_of (by decide) Tryz.func50 hc hi Tryz.ntmps50 rok_f50 gk_f50 lk_f50 mixed
theorem of_fine {y : Policy} {i : Item} (h : fineB y i = true) : r_f50 y i = br (ieq i.2.1 1) (some (.tu [.ifc 115 (.t (.sl tyLinkX) (lksF y i)), .t tI 0], [])) (some (.tu [.ifc 116 (.t (.sl tyLinkX) (lksF y i)), .t tI 0], [])) := by
 have hf := h
 simp only [fineB, Bool.and_eq_true] at hf
 have hi := itemOk_iff.1 hf.2
 have hn : itemLen i = true := by
  have := hi.1
  simp only [namedF, Bool.and_eq_true, decide_eq_true_eq] at this
  exact decide_eq_true (by omega)
 simp only [r_f50, (pol_len hf.1).1, hn, checkF, hf.1, checkI, hf.2, if_true, show ine 0 0 = false from rfl, br_true, br_false, h, beq_self_eq_true, Bool.true_and, rng_0 (show i.2.2.2.1.length ≤ 100000 by omega)]
 rw [dec_true (by simp), br_true]
 rfl
theorem s_f50A (y : Policy) (i : Item) (h : ofOkA y i = true) : r_f50 y i = some (.tu [.ifc 115 (.t (.sl tyLinkX) (ofA y i).1), .t tI (ofA y i).2], []) := by
 simp only [ofOkA, Bool.and_eq_true] at h
 rw [of_fine h.1, h.2]
 rfl
theorem s_f50B (y : Policy) (i : Item) (h : ofOkB y i = true) : r_f50 y i = some (.tu [.ifc 116 (.t (.sl tyLinkX) (ofA y i).1), .t tI (ofA y i).2], []) := by
 simp only [ofOkB, Bool.and_eq_true] at h
 have h2 := h.2
 simp only [ieq_dec, decide_eq_true_eq] at h2
 rw [of_fine h.1, h2]
 rfl
theorem s_f50E (y : Policy) (i : Item) (h : ofOkE y i = true) : r_f50 y i = some (.tu [.c .nilIface, .t tI (ofE y i)], []) := by
 simp only [ofOkE, Bool.and_eq_true, Bool.not_eq_true', fineB, Bool.and_eq_false_iff] at h
 have hn : itemLen i = true := h.1.2
 simp only [r_f50, h.1.1, hn, checkF, checkI, ofE, br_true]
 cases hp : polOk y with
 | false => rfl
 | true =>
  have hq : itemOk i = false := h.2.resolve_left (by rw [hp]; simp)
  simp only [hq, if_true, show ine 0 0 = false from rfl, br_false]
  rfl
def sp_f50A : Ent := spec (.pr tyPolicy (.pr tyItem .nil)) (fun x => (ofOkA x.1 x.2.1)) (fun x => (.tu [(.ifc 115 (.t (.sl tyLinkX) ((ofA x.1 x.2.1).1))), (.t tI ((ofA x.1 x.2.1).2))]))
theorem en_f50A : Entered Tryz.prog 50 := en_f50
theorem ms_f50A : Meets Tryz.prog 50 (strip sp_f50A) := meets_spec mr_f50 fun x hok => (e_f50 x.1 x.2.1).trans (s_f50A x.1 x.2.1 hok)
def sp_f50B : Ent := spec (.pr tyPolicy (.pr tyItem .nil)) (fun x => (ofOkB x.1 x.2.1)) (fun x => (.tu [(.ifc 116 (.t (.sl tyLinkX) ((ofA x.1 x.2.1).1))), (.t tI ((ofA x.1 x.2.1).2))]))
theorem en_f50B : Entered Tryz.prog 50 := en_f50
theorem ms_f50B : Meets Tryz.prog 50 (strip sp_f50B) := meets_spec mr_f50 fun x hok => (e_f50 x.1 x.2.1).trans (s_f50B x.1 x.2.1 hok)
def sp_f50E : Ent := spec (.pr tyPolicy (.pr tyItem .nil)) (fun x => (ofOkE x.1 x.2.1)) (fun x => (.tu [(.c .nilIface), (.t tI (ofE x.1 x.2.1))]))
theorem en_f50E : Entered Tryz.prog 50 := en_f50
theorem ms_f50E : Meets Tryz.prog 50 (strip sp_f50E) := meets_spec mr_f50 fun x hok => (e_f50 x.1 x.2.1).trans (s_f50E x.1 x.2.1 hok)
end Go.Proofs.YtfehjdaielifiaaGreat.K
