/-
 The document's answers of 22, and the rest of them.
-/
import Derived.Test.YtfehjdaielifiaaGreatV28
set_option linter.unusedSimpArgs false
set_option linter.unusedVariables false
namespace Go.Proofs.YtfehjdaielifiaaGreat.K
open Go.RowKit
noncomputable section
theorem imx_comm (a b : Int) : imx a b = imx b a := by
 unfold imx
 split <;> split <;> omega
def dr_f19_0 : List DO := [(.mk (oM 37 (.ld true 2 (.t 2))) []), (.mk (oP 38 (.fa 3 (.t 3))) []), (.mk (oL 39 38) [1]), (.mk (oV 40 12) []), (.mk (oP 41 (.ix 3 (.t 39) (.t 40))) [2, 3]), (.mk (oP 42 (.fa 0 (.t 41))) [4]), (.mk (oM 43 (.ld true 2 (.t 42))) [5]), (.mk (oP 44 (.fa 2 (.t 3))) []), (.mk (oL 45 44) [7]), (.mk (oC 46 39 [(.t 37), (.t 43), (.t 45)]) [0, 6, 8]), (.mk (oV 36 46) [9]), (.mk (oP 47 (.ext 0 (.t 36))) [10]), (.mk (oP 48 (.ext 1 (.t 36))) [10]), (.mk (oP 49 (.ext 2 (.t 36))) [10]), (.mk (oV 13 47) [11, 9, 0, 1, 2, 3, 4, 5, 6, 7, 8, 9, 10, 11]), (.mk (oV 14 48) [12, 14, 0, 1, 2, 3, 4, 5, 6, 7, 8, 9, 10, 11, 12, 14]), (.mk (oV 15 49) [13, 15, 0, 1, 2, 3, 4, 5, 6, 7, 8, 9, 10, 11, 12, 13, 14, 15])]
def fg_f19_0 : Fg := ⟨[(2, none), (3, none), (7, some tI), (10, some tI), (11, some .bool), (12, some tI)], [(2, some tyPolicy), (3, some tyItem)]⟩
def tb_f19_0 : TC := (.sq (.sq (.reg [(oV 31 12), (oV 32 7), (oP 33 (.bin false .lss (.t 31) (.t 32)))]) (.cd (.t 33) .sk (.fg ⟨[(10, some tI), (11, some .bool)], []⟩ (.ex 0)))) (.sq (.bk 1 (.sq (.dr dr_f19_0 [(0, [2]), (1, [3]), (2, [3]), (3, []), (4, []), (5, []), (6, []), (7, [3]), (8, [3]), (9, []), (10, []), (11, []), (12, []), (13, []), (14, []), (15, []), (16, [])] (.of [0, 1, 2, 3, 4, 5, 6, 7, 8, 9, 10, 11, 12, 13, 14, 15, 16])) (.sq (.reg [(oV 50 13), (oP 51 (.fa 3 (.t 3))), (oL 52 51), (oV 53 12), (oP 54 (.ix 3 (.t 52) (.t 53))), (oP 55 (.fa 2 (.t 54))), (oL 56 55), (oP 57 (.mx (.t 50) (.t 56))), (oV 13 57)]) (.sq (.reg [(oV 58 14), (oV 59 58), (oQ 60 59 true (.mv (.t 11))), (oQ 61 59 true (.nt (.t 60))), (oQ 62 59 true (.mv (.t 61))), (oQ 63 62 false (.mv (.t 13))), (oQ 64 62 false (.mv (.t 10))), (oQ 65 62 false (.bin false .lss (.t 63) (.t 64))), (oQ 66 59 true (.pick (.t 62) (cB true) (.t 65))), (oP 67 (.pick (.t 59) (.t 66) (cB false)))]) (.cd (.t 67) (.reg [(oV 68 13), (oV 10 68), (oP 11 (.mv (cB true)))]) .sk))))) (.reg [(oV 34 12), (oP 35 (.bin false .add (.t 34) (cI 1))), (oV 12 35)])))
def tc_f19 : TC := (.sq (.reg [(oM 2 (.box (.t 0))), (oM 3 (.box (.t 1))), (oP 4 (.mv (cI 0))), (oP 5 (.mv (cB false))), (oP 6 (.mv (cI 0)))]) (.sq (.reg [(oM 17 (.ld true 2 (.t 2))), (oM 18 (.ld true 5 (.t 3))), (oC 19 17 [(.t 17), (.t 18)]), (oV 16 19), (oP 20 (.ext 0 (.t 16))), (oP 21 (.ext 1 (.t 16))), (oV 7 20), (oV 8 21)]) (.sq (.sq (.reg [(oV 22 8), (oP 23 (.bin false .neq (.t 22) (cI 0)))]) (.cd (.t 23) (.sq (.reg [(oV 24 8), (oP 4 (.mv (cI 0))), (oP 5 (.mv (cB false))), (oV 6 24)]) .rt) .sk)) (.sq (.reg [(oP 9 (.mv (cI 0)))]) (.sq (.sq (.reg [(oP 25 (.fa 1 (.t 3))), (oL 26 25), (oP 27 (.bin false .eql (.t 26) (cI 2)))]) (.cd (.t 27) (.reg [(oV 28 7), (oP 29 (.bin false .sub (.t 28) (cI 1))), (oV 9 29)]) .sk)) (.sq (.reg [(oP 10 (.mv (cI 0))), (oP 11 (.mv (cB false)))]) (.sq (.sq (.reg [(oV 30 9), (oV 12 30)]) (.bk 0 (.lp 0 fg_f19_0 tb_f19_0))) (.sq (.reg [(oV 69 10), (oV 70 11), (oV 4 69), (oV 5 70), (oP 6 (.mv (cI 0)))]) .rt))))))))
def rv_f19 : List (RV × Option Ty) := [((.t 4), some tI), ((.t 5), some .bool), ((.t 6), some tI)]
abbrev sh_f19_0 : Sh := ⟨[(2, .ptr 2 0), (3, .ptr 3 0), (7, .ty tI), (10, .ty tI), (11, .ty .bool), (12, .ty tI)], [(2, .box tyPolicy), (3, .box tyItem)]⟩
def st_f19_0 (x7 : Int) (x10 : Int) (x11 : Bool) (x12 : Int) (y2 : Policy) (y3 : Item) : VS := sh_f19_0.st ((), (), x7, x10, x11, x12, ()) (y2, y3, ())
abbrev sh_f19_0_e0 : Sh := ⟨[(10, .ty tI), (11, .ty .bool)], []⟩
def st_f19_0_e0 (x10 : Int) (x11 : Bool) : VS := sh_f19_0_e0.st (x10, x11, ()) ()
-- loop 0: (x7 : Int) (x10 : Int) (x11 : Bool) (x12 : Int) (y2 : Policy) (y3 : Item); out: ('exit', 0) (x10 : Int) (x11 : Bool)
def L_f19_0 : VS → Option (Bool × List (Bool × Exit × VS)) := mkL sh_f19_0 (fun x y => (fineB y.1 y.2.1 && decide (0 ≤ x.2.2.2.2.2.1 ∧ x.2.2.2.2.2.1 ≤ x.2.2.1 ∧ x.2.2.1 ≤ y.2.1.2.2.2.1.length))) (fun x y => [(true, .exit 0, st_f19_0_e0 (((((lksF y.1 y.2.1).take x.2.2.1.toNat).drop x.2.2.2.2.2.1.toNat).foldl secStep (x.2.2.2.1, x.2.2.2.2.1)).1) (((((lksF y.1 y.2.1).take x.2.2.1.toNat).drop x.2.2.2.2.2.1.toNat).foldl secStep (x.2.2.2.1, x.2.2.2.2.1)).2))])
def g_f19 : G := ⟨TYs, [], 71, EL [(17, sp_f17), (39, sp_f39)], keeps, (Ls [L_f19_0]), IL [], RL []⟩
def b_f19_0 (x7 : Int) (x10 : Int) (x11 : Bool) (x12 : Int) (y2 : Policy) (y3 : Item) : Option (Exit × VS) :=
 br ((ilt x12 x7))
  (br (cIx y3.2.2.2.1 x12)
   (br ((polLen3 y2 ((lgt tyLink y3.2.2.2.1 (Int.toNat x12)).1) y3.2.2.1))
    (br (cIx y3.2.2.2.1 x12)
     (br (((FallsF y2 ((lgt tyLink y3.2.2.2.1 (Int.toNat x12)).1) y3.2.2.1).2).1)
      (br ((!x11))
       (some (.normal, st_f19_0 x7 (imx ((FallsF y2 ((lgt tyLink y3.2.2.2.1 (Int.toNat x12)).1) y3.2.2.1).1) (((lgt tyLink y3.2.2.2.1 (Int.toNat x12)).2).1)) true (iadd .i64 x12 1) y2 y3))
       (br ((ilt (imx ((FallsF y2 ((lgt tyLink y3.2.2.2.1 (Int.toNat x12)).1) y3.2.2.1).1) (((lgt tyLink y3.2.2.2.1 (Int.toNat x12)).2).1)) x10))
        (some (.normal, st_f19_0 x7 (imx ((FallsF y2 ((lgt tyLink y3.2.2.2.1 (Int.toNat x12)).1) y3.2.2.1).1) (((lgt tyLink y3.2.2.2.1 (Int.toNat x12)).2).1)) true (iadd .i64 x12 1) y2 y3))
        (some (.normal, st_f19_0 x7 x10 x11 (iadd .i64 x12 1) y2 y3))))
      (some (.normal, st_f19_0 x7 x10 x11 (iadd .i64 x12 1) y2 y3)))
     (none))
    (none))
   (none))
  (some (.exit 0, st_f19_0_e0 x10 x11))
noncomputable def lp_f19_0 (x7 : Int) (x10 : Int) (x11 : Bool) (x12 : Int) (y2 : Policy) (y3 : Item) : Option (Exit × VS) := loopF (roundF g_f19 fg_f19_0 tb_f19_0) (st_f19_0 x7 x10 x11 x12 y2 y3)
noncomputable def n_f19_0 (x7 : Int) (x10 : Int) (x11 : Bool) (x12 : Int) (y2 : Policy) (y3 : Item) : Option (Exit × VS) :=
 br ((ilt x12 x7))
  (br (cIx y3.2.2.2.1 x12)
   (br ((polLen3 y2 ((lgt tyLink y3.2.2.2.1 (Int.toNat x12)).1) y3.2.2.1))
    (br (cIx y3.2.2.2.1 x12)
     (br (((FallsF y2 ((lgt tyLink y3.2.2.2.1 (Int.toNat x12)).1) y3.2.2.1).2).1)
      (br ((!x11))
       (lp_f19_0 x7 (imx ((FallsF y2 ((lgt tyLink y3.2.2.2.1 (Int.toNat x12)).1) y3.2.2.1).1) (((lgt tyLink y3.2.2.2.1 (Int.toNat x12)).2).1)) true (iadd .i64 x12 1) y2 y3)
       (br ((ilt (imx ((FallsF y2 ((lgt tyLink y3.2.2.2.1 (Int.toNat x12)).1) y3.2.2.1).1) (((lgt tyLink y3.2.2.2.1 (Int.toNat x12)).2).1)) x10))
        (lp_f19_0 x7 (imx ((FallsF y2 ((lgt tyLink y3.2.2.2.1 (Int.toNat x12)).1) y3.2.2.1).1) (((lgt tyLink y3.2.2.2.1 (Int.toNat x12)).2).1)) true (iadd .i64 x12 1) y2 y3)
        (lp_f19_0 x7 x10 x11 (iadd .i64 x12 1) y2 y3)))
      (lp_f19_0 x7 x10 x11 (iadd .i64 x12 1) y2 y3))
     (none))
    (none))
   (none))
  (some (.exit 0, st_f19_0_e0 x10 x11))
def la_f19_0 (x7 : Int) (x10 : Int) (x11 : Bool) (x12 : Int) (y2 : Policy) (y3 : Item) : Option (Exit × VS) := some (.exit 0, st_f19_0_e0 (((((lksF y2 y3).take x7.toNat).drop x12.toNat).foldl secStep (x10, x11)).1) (((((lksF y2 y3).take x7.toNat).drop x12.toNat).foldl secStep (x10, x11)).2))
theorem be_f19_0 (x7 : Int) (x10 : Int) (x11 : Bool) (x12 : Int) (y2 : Policy) (y3 : Item) : roundF g_f19 fg_f19_0 tb_f19_0 (st_f19_0 x7 x10 x11 x12 y2 y3) = b_f19_0 x7 x10 x11 x12 y2 y3 := by kernel_rfl
theorem ln_f19_0 (x7 : Int) (x10 : Int) (x11 : Bool) (x12 : Int) (y2 : Policy) (y3 : Item) : lp_f19_0 x7 x10 x11 x12 y2 y3 = n_f19_0 x7 x10 x11 x12 y2 y3 := (loopF_nxt _ _).trans (by
 rw [be_f19_0]
 simp only [b_f19_0, n_f19_0, nxt_br, nxt_n, nxt_r, nxt_e, nxt_0]
 rfl)
def r_f19 (p0 : Policy) (p1 : Item) : Option (V × List VO) :=
 br ((fineLen p0 p1))
  (br ((ine ((LinksF p0 p1).2) 0))
   (some (.tu [(.t tI 0), (.t .bool false), (.t tI ((LinksF p0 p1).2))], []))
   (br ((ieq p1.2.1 2))
    (br ((fineB p0 p1 && decide (0 ≤ (isub .i64 ((LinksF p0 p1).1) 1) ∧ (isub .i64 ((LinksF p0 p1).1) 1) ≤ ((LinksF p0 p1).1) ∧ ((LinksF p0 p1).1) ≤ p1.2.2.2.1.length)))
     (some (.tu [(.t tI (((((lksF p0 p1).take ((LinksF p0 p1).1).toNat).drop (isub .i64 ((LinksF p0 p1).1) 1).toNat).foldl secStep ((0 : Int), false)).1)), (.t .bool (((((lksF p0 p1).take ((LinksF p0 p1).1).toNat).drop (isub .i64 ((LinksF p0 p1).1) 1).toNat).foldl secStep ((0 : Int), false)).2)), (.t tI 0)], []))
     (none))
    (br ((fineB p0 p1 && decide (0 ≤ (0 : Int) ∧ (0 : Int) ≤ ((LinksF p0 p1).1) ∧ ((LinksF p0 p1).1) ≤ p1.2.2.2.1.length)))
     (some (.tu [(.t tI (((((lksF p0 p1).take ((LinksF p0 p1).1).toNat).drop (0 : Int).toNat).foldl secStep ((0 : Int), false)).1)), (.t .bool (((((lksF p0 p1).take ((LinksF p0 p1).1).toNat).drop (0 : Int).toNat).foldl secStep ((0 : Int), false)).2)), (.t tI 0)], []))
     (none))))
  (none)
theorem e_f19 (p0 : Policy) (p1 : Item) : runF g_f19 tc_f19 rv_f19 false [.t tyPolicy p0, .t tyItem p1] [] = r_f19 p0 p1 := by kernel_rfl
theorem ok_f19 : Option.map (trC Tryz.prog) Tryz.f19.body = some tc_f19.er := by kernel_rfl
theorem rok_f19 : trVs Tryz.prog Tryz.f19.results.toList = some (rv_f19.map Prod.fst) := by kernel_rfl
theorem en_f19 : Entered Tryz.prog 19 := .inr ⟨by decide, _, Tryz.func19, by kernel_rfl, by kernel_rfl⟩
theorem gk_f19 : GOk Tryz.prog g_f19 := gok_of _ (by
 intro p hp
 simp only [List.mem_cons, List.not_mem_nil, or_false] at hp
 rcases hp with rfl | rfl
 ·exact ⟨en_f17, ms_f17⟩
 ·exact ⟨en_f39, ms_f39⟩)
theorem l_f19_0 (x7 : Int) (x10 : Int) (x11 : Bool) (x12 : Int) (y2 : Policy) (y3 : Item) (h : (fineB y2 y3 && decide (0 ≤ x12 ∧ x12 ≤ x7 ∧ x7 ≤ y3.2.2.2.1.length)) = true) : lp_f19_0 x7 x10 x11 x12 y2 y3 = la_f19_0 x7 x10 x11 x12 y2 y3 := by
 simp only [Bool.and_eq_true, decide_eq_true_eq] at h
 obtain ⟨hf, h1, h2, h3⟩ := h
 have hf2 := hf
 simp only [fineB, Bool.and_eq_true] at hf2
 have hi := itemOk_iff.1 hf2.2
 have hpl : ∀ u q, polLen3 y2 u q = true := fun u q => (pol_len hf2.1).1
 obtain ⟨k, rfl⟩ := Int.eq_ofNat_of_zero_le h1
 obtain ⟨n, rfl⟩ := Int.eq_ofNat_of_zero_le (show 0 ≤ x7 by omega)
 have hlk : (lksF y2 y3).length = y3.2.2.2.1.length := by simp [lksF]
 have hn : ((lksF y2 y3).take n).length = n := by rw [List.length_take, hlk]; omega
 revert x10 x11
 refine range_ind ((lksF y2 y3).take n) (fun k => ∀ (x10 : Int) (x11 : Bool), lp_f19_0 (n : Int) x10 x11 (k : Int) y2 y3 = la_f19_0 (n : Int) x10 x11 (k : Int) y2 y3) ?_ ?_ k (by rw [hn]; omega)
 ·intro x10 x11
  rw [ln_f19_0, hn]
  simp [n_f19_0, la_f19_0, ilt_nat, br_false]
 ·intro k hk ih x10 x11
  have hkn : k < n := by rw [hn] at hk; exact hk
  have hk0 : k < y3.2.2.2.1.length := by omega
  rw [ln_f19_0]
  have hv := linksB_all hi.2.2.2.2.1 y3.2.2.2.1[k] (List.getElem_mem hk0)
  have ef := falls_fine (u := y3.2.2.2.1[k].1) (p := y3.2.2.1) hf2.1 hv.1 hi.2.2.1.1 hi.2.2.1.2
  have g0 : ((lksF y2 y3).take n)[k] = lkF y2 y3.2.2.1 y3.2.2.2.1[k] := by simp [lksF]
  have el : la_f19_0 (n : Int) x10 x11 (k : Int) y2 y3 = la_f19_0 (n : Int) (secStep (x10, x11) (lkF y2 y3.2.2.1 y3.2.2.2.1[k])).1 (secStep (x10, x11) (lkF y2 y3.2.2.1 y3.2.2.2.1[k])).2 ((k + 1 : Nat) : Int) y2 y3 := by
   simp only [la_f19_0, Int.toNat_natCast, List.drop_eq_getElem_cons hk, List.foldl_cons, g0]
  have eg : (goneV (lkF y2 y3.2.2.1 y3.2.2.2.1[k])).1 = imx (fallL (spansF y2 y3.2.2.2.1[k].1 y3.2.2.1)).1 y3.2.2.2.1[k].2.1 := imx_comm _ _
  have eh : (goneV (lkF y2 y3.2.2.1 y3.2.2.2.1[k])).2 = (fallL (spansF y2 y3.2.2.2.1[k].1 y3.2.2.1)).2 := rfl
  rw [el]
  simp only [n_f19_0, ilt_nat, hkn, decide_true, br_true, cIx_nat, hk0, Int.toNat_natCast, lgt_get (y := tyLink) hk0, hpl, ef, add1 (show k < 4611686018427387904 by omega), ih]
  unfold secStep
  rw [eg, eh]
  generalize imx (fallL (spansF y2 y3.2.2.2.1[k].1 y3.2.2.1)).1 y3.2.2.2.1[k].2.1 = g
  cases (fallL (spansF y2 y3.2.2.2.1[k].1 y3.2.2.1)).2 <;> cases x11 <;> cases ilt g x10 <;> rfl
theorem lo_f19_0 : ∀ S l p, g_f19.L 0 (fgt fg_f19_0 S) = some (true, l) → pickA l = some p → loopF (roundF g_f19 fg_f19_0 tb_f19_0) S = some p :=
 lok_of (s := sh_f19_0) ⟨by decide, by decide⟩ (by kernel_rfl) fun x y hok p hp => by
 simp only [pickA_br, pickA_one] at hp
 exact (l_f19_0 x.2.2.1 x.2.2.2.1 x.2.2.2.2.1 x.2.2.2.2.2.1 y.1 y.2.1 (by simpa using hok)).trans hp
theorem lk_f19 : tc_f19.lok g_f19 := by
 repeat (first | exact trivial | exact lo_f19_0 | refine ⟨?_, ?_⟩)
theorem sg_fold {l : List LinkX} (h : l ≠ []) : ((l.take (sgCount l).toNat).drop ((sgCount l).toNat - 1)).foldl secStep (0, false) = sgFails l := by
 have hc := sgCount_le h
 obtain ⟨n, hn⟩ : ∃ n : Nat, sgCount l = ((n + 1 : Nat) : Int) := ⟨(sgCount l).toNat - 1, by omega⟩
 have hl : n < l.length := by omega
 have e1 : (sgCount l).toNat = n + 1 := by omega
 have e2 : (l.take (n + 1)).drop n = [l[n]] := by
  have hk : n < (l.take (n + 1)).length := by rw [List.length_take]; omega
  rw [List.drop_eq_getElem_cons hk, List.drop_eq_nil_of_le (by rw [List.length_take]; omega)]
  simp
 have e3 : sgLast l = l[n] := by
  unfold sgLast
  rw [hn, show (((n + 1 : Nat) : Int) - 1).toNat = n by omega, List.getD_eq_getElem?_getD, List.getElem?_eq_getElem hl]
  rfl
 rw [e1, Nat.add_sub_cancel, e2, sgFails, e3, List.foldl_cons, List.foldl_nil]
 unfold secStep
 cases (goneV l[n]).2 <;> rfl
theorem s_f19 (y : Policy) (i : Item) (h : fineLen y i = true) : r_f19 y i = some (.tu [.t tI (FailsI y i).1, .t .bool (FailsI y i).2.1, .t tI (FailsI y i).2.2], []) := by
 simp only [r_f19, h, br_true]
 cases hf : fineB y i with
 | false =>
  have e : LinksF y i = (0, ofE y i) := by unfold LinksF; rw [hf]; rfl
  rw [e, ofE_ne, br_true]
  unfold FailsI
  rw [hf]
  rfl
 | true =>
  have hf2 := hf
  simp only [fineB, Bool.and_eq_true] at hf2
  have hi := itemOk_iff.1 hf2.2
  have hlk : (lksF y i).length = i.2.2.2.1.length := by simp [lksF]
  have hne : lksF y i ≠ [] := fun e => by rw [e] at hlk; simp at hlk; omega
  have hc := sgCount_le hne
  have eF : FailsI y i = ((failsL y i).1, (failsL y i).2, 0) := by unfold FailsI; rw [hf]; rfl
  have hk := hi.2.1
  by_cases k1 : i.2.1 = 1
  ·have e : LinksF y i = ((i.2.2.2.1.length : Int), 0) := by unfold LinksF; rw [hf, k1]; simp [ieq, scCount, hlk]
   have ef : failsL y i = secFails (lksF y i) := by unfold failsL; rw [k1]; rfl
   rw [e, k1, show ine 0 0 = false from rfl, br_false, show ieq 1 2 = false from rfl, br_false, Bool.true_and, dec_true ⟨Int.le_refl 0, by omega, by omega⟩, br_true, eF, ef]
   have e2 : ((lksF y i).take (Int.toNat (i.2.2.2.1.length : Int))).drop (Int.toNat 0) = lksF y i := by
    rw [Int.toNat_natCast, Int.toNat_zero, List.drop_zero, ← hlk, List.take_length]
   rw [e2]
   rfl
  ·have k2 : i.2.1 = 2 := by omega
   have e : LinksF y i = (sgCount (lksF y i), 0) := by unfold LinksF; rw [hf, k2]; rfl
   have ef : failsL y i = sgFails (lksF y i) := by unfold failsL; rw [k2]; rfl
   have es : isub .i64 (sgCount (lksF y i)) 1 = sgCount (lksF y i) - 1 := isub_in (by omega)
   have e5 : (sgCount (lksF y i) - 1).toNat = (sgCount (lksF y i)).toNat - 1 := by omega
   rw [e, k2, show ine 0 0 = false from rfl, br_false, show ieq 2 2 = true from rfl, br_true]
   simp only [es]
   rw [Bool.true_and, dec_true ⟨by omega, by omega, by omega⟩, br_true, eF, ef, e5, sg_fold hne]
def sp_f19 : Ent := spec (.pr tyPolicy (.pr tyItem .nil)) (fun x => (fineLen x.1 x.2.1)) (fun x => (.tu [(.t tI ((FailsI x.1 x.2.1).1)), (.t .bool (((FailsI x.1 x.2.1).2).1)), (.t tI (((FailsI x.1 x.2.1).2).2))]))
theorem ms_f19 : Meets Tryz.prog 19 (strip sp_f19) := by
 obtain ⟨c, hc, hi⟩ := Option.map_eq_some_iff.1 ok_f19
 exact meets_spec (R := runF g_f19 tc_f19 rv_f19 false) (meets_of (by decide) Tryz.func19 hc hi Tryz.ntmps19 rok_f19 gk_f19 lk_f19 mixed) fun x hok => (e_f19 x.1 x.2.1).trans (s_f19 x.1 x.2.1 hok)
def tc_f21 : TC := (.sq (.reg [(oM 2 (.box (.t 0))), (oM 3 (.box (.t 1))), (oP 4 (.mv (cI 0))), (oP 5 (.mv (cB false))), (oP 6 (.mv (cI 0)))]) (.sq (.reg [(oM 14 (.ld true 2 (.t 2))), (oM 15 (.ld true 5 (.t 3))), (oC 16 17 [(.t 14), (.t 15)]), (oV 13 16), (oP 17 (.ext 0 (.t 13))), (oP 18 (.ext 1 (.t 13))), (oV 7 17), (oV 8 18)]) (.sq (.sq (.reg [(oV 19 8), (oP 20 (.bin false .neq (.t 19) (cI 0)))]) (.cd (.t 20) (.sq (.reg [(oV 21 8), (oP 4 (.mv (cI 0))), (oP 5 (.mv (cB false))), (oV 6 21)]) .rt) .sk)) (.sq (.sq (.reg [(oP 22 (.fa 1 (.t 3))), (oL 23 22), (oP 24 (.bin false .eql (.t 23) (cI 1))), (oV 25 24), (oQ 26 25 false (.mv (.t 7))), (oQ 27 25 false (.fa 3 (.t 3))), (oG 28 25 false (.m (.ld false 1 (.t 27)))), (oQ 29 25 false (.len false (.t 28))), (oQ 30 25 false (.bin false .lss (.t 26) (.t 29))), (oP 31 (.pick (.t 25) (cB true) (.t 30)))]) (.cd (.t 31) (.sq (.reg [(oP 4 (.mv (cI 0))), (oP 5 (.mv (cB false))), (oP 6 (.mv (cI 0)))]) .rt) .sk)) (.sq (.reg [(oM 33 (.ld true 2 (.t 2))), (oM 34 (.ld true 5 (.t 3))), (oC 35 19 [(.t 33), (.t 34)]), (oV 32 35), (oP 36 (.ext 0 (.t 32))), (oP 37 (.ext 1 (.t 32))), (oP 38 (.ext 2 (.t 32))), (oV 9 36), (oV 10 37), (oV 11 38)]) (.sq (.reg [(oP 12 (.mv (cI 40000)))]) (.sq (.sq (.reg [(oV 39 10)]) (.cd (.t 39) (.reg [(oV 40 9), (oP 41 (.bin false .sub (.t 40) (cI 1))), (oV 12 41)]) .sk)) (.sq (.sq (.reg [(oV 42 12), (oP 43 (.fa 3 (.t 3))), (oL 44 43), (oV 45 7), (oP 46 (.bin false .sub (.t 45) (cI 1))), (oP 47 (.ix 3 (.t 44) (.t 46))), (oP 48 (.fa 2 (.t 47))), (oL 49 48), (oP 50 (.bin false .leq (.t 42) (.t 49)))]) (.cd (.t 50) (.sq (.reg [(oP 4 (.mv (cI 0))), (oP 5 (.mv (cB false))), (oP 6 (.mv (cI 0)))]) .rt) .sk)) (.sq (.reg [(oV 51 12), (oV 4 51), (oP 5 (.mv (cB true))), (oP 6 (.mv (cI 0)))]) .rt)))))))))
def rv_f21 : List (RV × Option Ty) := [((.t 4), some tI), ((.t 5), some .bool), ((.t 6), some tI)]
def g_f21 : G := ⟨TYs, [], 52, EL [(17, sp_f17), (19, sp_f19)], keeps, (fun _ _ => none), IL [], RL []⟩
def r_f21 (p0 : Policy) (p1 : Item) : Option (V × List VO) :=
 br ((fineLen p0 p1))
  (br ((ine ((LinksF p0 p1).2) 0))
   (some (.tu [(.t tI 0), (.t .bool false), (.t tI ((LinksF p0 p1).2))], []))
   (br ((ieq p1.2.1 1))
    (some (.tu [(.t tI 0), (.t .bool false), (.t tI 0)], []))
    (br ((ilt ((LinksF p0 p1).1) (llen p1.2.2.2.1)))
     (some (.tu [(.t tI 0), (.t .bool false), (.t tI 0)], []))
     (br ((fineLen p0 p1))
      (br (((FailsI p0 p1).2).1)
       (br (cIx p1.2.2.2.1 (isub .i64 ((LinksF p0 p1).1) 1))
        (br ((ile (isub .i64 ((FailsI p0 p1).1) 1) (((lgt tyLink p1.2.2.2.1 (Int.toNat (isub .i64 ((LinksF p0 p1).1) 1))).2).1)))
         (some (.tu [(.t tI 0), (.t .bool false), (.t tI 0)], []))
         (some (.tu [(.t tI (isub .i64 ((FailsI p0 p1).1) 1)), (.t .bool true), (.t tI 0)], [])))
        (none))
       (br (cIx p1.2.2.2.1 (isub .i64 ((LinksF p0 p1).1) 1))
        (br ((ile 40000 (((lgt tyLink p1.2.2.2.1 (Int.toNat (isub .i64 ((LinksF p0 p1).1) 1))).2).1)))
         (some (.tu [(.t tI 0), (.t .bool false), (.t tI 0)], []))
         (some (.tu [(.t tI 40000), (.t .bool true), (.t tI 0)], [])))
        (none)))
      (none)))))
  (none)
theorem e_f21 (p0 : Policy) (p1 : Item) : runF g_f21 tc_f21 rv_f21 false [.t tyPolicy p0, .t tyItem p1] [] = r_f21 p0 p1 := by kernel_rfl
theorem ok_f21 : Option.map (trC Tryz.prog) Tryz.f21.body = some tc_f21.er := by kernel_rfl
theorem rok_f21 : trVs Tryz.prog Tryz.f21.results.toList = some (rv_f21.map Prod.fst) := by kernel_rfl
theorem en_f21 : Entered Tryz.prog 21 := .inr ⟨by decide, _, Tryz.func21, by kernel_rfl, by kernel_rfl⟩
theorem gk_f21 : GOk Tryz.prog g_f21 := gok_of _ (by
 intro p hp
 simp only [List.mem_cons, List.not_mem_nil, or_false] at hp
 rcases hp with rfl | rfl
 ·exact ⟨en_f17, ms_f17⟩
 ·exact ⟨en_f19, ms_f19⟩)
theorem lk_f21 : tc_f21.lok g_f21 := by repeat (first | exact trivial | refine ⟨?_, ?_⟩)
theorem s_f21 (y : Policy) (i : Item) (h : fineLen y i = true) : r_f21 y i = some (.tu [.t tI (LatestF y i).1, .t .bool (LatestF y i).2.1, .t tI (LatestF y i).2.2], []) := by
 simp only [r_f21, h, br_true]
 cases hf : fineB y i with
 | false =>
  have e : LinksF y i = (0, ofE y i) := by unfold LinksF; rw [hf]; rfl
  rw [e, ofE_ne, br_true]
  unfold LatestF
  rw [hf]
  rfl
 | true =>
  have hf2 := hf
  simp only [fineB, Bool.and_eq_true] at hf2
  have hi := itemOk_iff.1 hf2.2
  have hlk : (lksF y i).length = i.2.2.2.1.length := by simp [lksF]
  have hne : lksF y i ≠ [] := fun e => by rw [e] at hlk; simp at hlk; omega
  have hc := sgCount_le hne
  have eF : FailsI y i = ((failsL y i).1, (failsL y i).2, 0) := by unfold FailsI; rw [hf]; rfl
  have hk := hi.2.1
  by_cases k1 : i.2.1 = 1
  ·have e : LinksF y i = ((i.2.2.2.1.length : Int), 0) := by unfold LinksF; rw [hf, k1]; simp [ieq, scCount, hlk]
   rw [e, k1, show ine 0 0 = false from rfl, br_false, show ieq 1 1 = true from rfl, br_true]
   unfold LatestF
   rw [hf, k1]
   rfl
  ·have k2 : i.2.1 = 2 := by omega
   have e : LinksF y i = (sgCount (lksF y i), 0) := by unfold LinksF; rw [hf, k2]; rfl
   have ef : failsL y i = sgFails (lksF y i) := by unfold failsL; rw [k2]; rfl
   have eL : LatestF y i = if sgOpen (lksF y i) then (if ile (lastI2 y i) (lastDay i) then (0, false, 0) else (lastI2 y i, true, 0)) else (0, false, 0) := by
    unfold LatestF
    rw [hf, k2]
    rfl
   rw [e, k2, show ine 0 0 = false from rfl, br_false, show ieq 2 1 = false from rfl, br_false, eF, ef, eL]
   have eo : sgOpen (lksF y i) = !(ilt (sgCount (lksF y i)) (llen i.2.2.2.1)) := by
    rw [Bool.eq_iff_iff]
    simp only [sgOpen, ieq_dec, llen, hlk, ilt, Bool.not_eq_true', decide_eq_false_iff_not, decide_eq_true_eq]
    omega
   rw [eo]
   refine br_intro (fun g => ?_) (fun g => ?_)
   ·rw [g]
    rfl
   ·rw [g]
    simp only [ilt, llen, decide_eq_false_iff_not] at g
    have ec : sgCount (lksF y i) = (i.2.2.2.1.length : Int) := by omega
    have es : isub .i64 (sgCount (lksF y i)) 1 = ((i.2.2.2.1.length - 1 : Nat) : Int) := by rw [ec, isub_in (by omega)]; omega
    have hl1 : i.2.2.2.1.length - 1 < i.2.2.2.1.length := by omega
    have hd : (lgt tyLink i.2.2.2.1 (i.2.2.2.1.length - 1)).2.1 = lastDay i := rfl
    simp only [es, cIx_nat, hl1, decide_true, br_true, Int.toNat_natCast, hd, Bool.not_false, if_true]
    cases hs : (sgFails (lksF y i)).2 with
    | true =>
     have e9 : lastI2 y i = isub .i64 (sgFails (lksF y i)).1 1 := by unfold lastI2; rw [if_pos hs]
     rw [br_true, ← e9]
     cases ile (lastI2 y i) (lastDay i) <;> rfl
    | false =>
     have e9 : lastI2 y i = 40000 := by unfold lastI2; rw [hs]; rfl
     rw [br_false, e9]
     cases ile 40000 (lastDay i) <;> rfl
def sp_f21 : Ent := spec (.pr tyPolicy (.pr tyItem .nil)) (fun x => (fineLen x.1 x.2.1)) (fun x => (.tu [(.t tI ((LatestF x.1 x.2.1).1)), (.t .bool (((LatestF x.1 x.2.1).2).1)), (.t tI (((LatestF x.1 x.2.1).2).2))]))
theorem ms_f21 : Meets Tryz.prog 21 (strip sp_f21) := by
 obtain ⟨c, hc, hi⟩ := Option.map_eq_some_iff.1 ok_f21
 exact meets_spec (R := runF g_f21 tc_f21 rv_f21 false) (meets_of (by decide) Tryz.func21 hc hi Tryz.ntmps21 rok_f21 gk_f21 lk_f21 mixed) fun x hok => (e_f21 x.1 x.2.1).trans (s_f21 x.1 x.2.1 hok)
theorem eq_three (a b : Link) : and (ieq a.1.1 b.1.1) (and (ieq a.1.2.1 b.1.2.1) (and (ieq a.2.1 b.2.1) true)) = (a == b) := by
 obtain ⟨⟨a1, a2, _⟩, a3, _⟩ := a
 obtain ⟨⟨b1, b2, _⟩, b3, _⟩ := b
 rw [Bool.eq_iff_iff]
 simp [ieq, and_assoc]
-- loop 0: (x5 : Int) (y2 : Item) (y3 : Item); out: ('ret',) (x4 : Bool); ('exit', 0)
end
end Go.Proofs.YtfehjdaielifiaaGreat.K
