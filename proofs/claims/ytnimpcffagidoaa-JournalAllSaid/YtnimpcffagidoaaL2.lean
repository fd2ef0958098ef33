/-
 Ledgers that are made.
-/
import Derived.Test.YtnimpcffagidoaaL1
import Derived.KernelRfl
set_option linter.unusedSimpArgs false
set_option linter.unusedVariables false
namespace Go.Proofs.Ytnimpcffagidoaa.K
open Go.RowKit
noncomputable section
def genL : Nat → Dice → Decision → List Decision
 | 0, _, _ => []
 | k + 1, d, a => decV d a :: genL k (decN d a) (decV d a)
def genD : Nat → Dice → Decision → Dice
 | 0, d, _ => d
 | k + 1, d, a => genD k (decN d a) (decV d a)
def zeroT : Decision := (0, 0, 0, 0, 0, ())
def ledV (d : Dice) (most : Int) : Ledger := (genL (dval d (most + 1)).toNat (adv d) zeroT, ())
def ledN (d : Dice) (most : Int) : Dice := genD (dval d (most + 1)).toNat (adv d) zeroT
def ledOk (d : Dice) (most : Int) : Bool := dOk d && decide (0 ≤ most ∧ most ≤ 100)
def lgOk (k : Int) (_y4 : Ledger) (a : Decision) (l : List Decision) (d : Dice) : Bool := dOk d && decide (0 ≤ k ∧ k ≤ 101 ∧ 0 ≤ a.1 ∧ a.1 + 2 * k ≤ 1000000 ∧ 0 ≤ a.2.1 ∧ a.2.1 + k ≤ 1000000 ∧ l.length + k ≤ 1000)
def lg4 (_k : Int) (y4 : Ledger) (_a : Decision) (_l : List Decision) (_d : Dice) : Ledger := y4
def lgL (k : Int) (_y4 : Ledger) (a : Decision) (l : List Decision) (d : Dice) : List Decision := l ++ genL k.toNat d a
def lgD (k : Int) (_y4 : Ledger) (a : Decision) (_l : List Decision) (d : Dice) : Dice := genD k.toNat d a
def fg_f16_0 : Fg := ⟨[(0, none), (4, none), (5, none), (6, none), (7, some tI)], [(4, some tyLedger), (5, none), (6, some tyDecision), (23, none), (20500, none), (50000, some tyDice)]⟩
def tb_f16_0 : TC := (.sq (.sq (.reg [(oV 12 7), (oP 13 (.bin false .gtr (.t 12) (cI 0)))]) (.cd (.t 13) .sk (.fg ⟨[(4, none), (5, none)], [(4, some tyLedger), (5, some tyLedger), (23, none), (20500, none), (50000, some tyDice)]⟩ (.ex 0)))) (.sq (.bk 1 (.sq (.reg [(oV 16 0), (oM 17 (.ld true 5 (.t 6))), (oC 18 29 [(.t 16), (.t 17)]), (.mk none none (.m (.st 5 (.t 6) (.t 18))))]) (.reg [(oP 19 (.fa 0 (.t 5))), (oL 20 19), (oM 21 (.ld true 5 (.t 6))), (oM 22 (.bs 40 5 1 [(.v (.int .i64 0)), (.v (.int .i64 0)), (.v (.int .i64 0)), (.v (.int .i64 0)), (.v (.int .i64 0))] [(0, 5, (.t 21))])), (oM 23 (.app 40 5 40 (.t 20) (.t 22))), (oP 24 (.fa 0 (.t 5))), (.mk none none (.m (.st 1 (.t 24) (.t 23))))]))) (.reg [(oV 14 7), (oP 15 (.bin false .sub (.t 14) (cI 1))), (oV 7 15)])))
def tc_f16 : TC := (.sq (.reg [(oM 4 (.new [(.v (.slice none 0 0))]))]) (.sq (.reg [(oM 5 (.new [(.v (.slice none 0 0))]))]) (.sq (.reg [(oM 6 (.new [(.v (.int .i64 0)), (.v (.int .i64 0)), (.v (.int .i64 0)), (.v (.int .i64 0)), (.v (.int .i64 0))]))]) (.sq (.sq (.reg [(oV 8 0), (oV 9 1), (oP 10 (.bin false .add (.t 9) (cI 1))), (oC 11 25 [(.t 8), (.t 10)]), (oV 7 11)]) (.bk 0 (.nf 5 0 40 20500 (.lp 0 fg_f16_0 tb_f16_0)))) (.sq (.reg [(oM 25 (.ld true 1 (.t 5))), (.mk none none (.m (.st 1 (.t 4) (.t 25))))]) .rt)))))
def rv_f16 : List (RV × Option Ty) := [((.c 4 true 1), some tyLedger)]
abbrev sh_f16_0 : Sh := ⟨[(0, .ptr 50000 0), (4, .ptr 4 0), (5, .ptr 5 0), (6, .ptr 6 0), (7, .ty tI)], [(4, .box tyLedger), (5, .bag [.ms 20500]), (6, .box tyDecision), (23, .no), (20500, .arr 40 tyDecision), (50000, .box tyDice)]⟩
def st_f16_0 (x7 : Int) (y4 : Ledger) (y6 : Decision) (y20500 : (List Decision)) (y50000 : Dice) : VS := sh_f16_0.st ((), (), (), (), x7, ()) (y4, ((), ()), y6, (), y20500, y50000, ())
abbrev sh_f16_0_e0 : Sh := ⟨[(4, .ptr 4 0), (5, .ptr 5 0)], [(4, .box tyLedger), (5, .bag [.ms 20500]), (23, .no), (20500, .arr 40 tyDecision), (50000, .box tyDice)]⟩
def st_f16_0_e0 (y4 : Ledger) (y20500 : (List Decision)) (y50000 : Dice) : VS := sh_f16_0_e0.st ((), (), ()) (y4, ((), ()), (), y20500, y50000, ())
-- loop 0: (x7 : Int) (y4 : Ledger) (y6 : Decision) (y20500 : (List Decision)) (y50000 : Dice); out: ('exit', 0) (y4 : Ledger) (y20500 : (List Decision)) (y50000 : Dice)
def L_f16_0 : VS → Option (Bool × List (Bool × Exit × VS)) := mkL sh_f16_0 (fun x y => (lgOk x.2.2.2.2.1 y.1 y.2.2.1 y.2.2.2.2.1 y.2.2.2.2.2.1)) (fun x y => [(true, .exit 0, st_f16_0_e0 (lg4 x.2.2.2.2.1 y.1 y.2.2.1 y.2.2.2.2.1 y.2.2.2.2.2.1) (lgL x.2.2.2.2.1 y.1 y.2.2.1 y.2.2.2.2.1 y.2.2.2.2.2.1) (lgD x.2.2.2.2.1 y.1 y.2.2.1 y.2.2.2.2.1 y.2.2.2.2.2.1))])
def g_f16 : G := ⟨TYs, [], 26, EL [(25, sp_f25), (29, sp_f29)], keeps, (Ls [L_f16_0]), IL [], RL []⟩
def b_f16_0 (x7 : Int) (y4 : Ledger) (y6 : Decision) (y20500 : (List Decision)) (y50000 : Dice) : Option (Exit × VS) :=
 br ((igt x7 0))
  (br ((decOk y50000 y6))
   (br (cApp y20500 ([((decV y50000 y6).1, (((decV y50000 y6).2).1, ((((decV y50000 y6).2).2).1, (((((decV y50000 y6).2).2).2).1, ((((((decV y50000 y6).2).2).2).2).1, ())))))]) 40)
    (some (.normal, st_f16_0 (isub .i64 x7 1) y4 (decV y50000 y6) (y20500 ++ ([((decV y50000 y6).1, (((decV y50000 y6).2).1, ((((decV y50000 y6).2).2).1, (((((decV y50000 y6).2).2).2).1, ((((((decV y50000 y6).2).2).2).2).1, ())))))])) (decN y50000 y6)))
    (none))
   (none))
  (some (.exit 0, st_f16_0_e0 y4 y20500 y50000))
noncomputable def lp_f16_0 (x7 : Int) (y4 : Ledger) (y6 : Decision) (y20500 : (List Decision)) (y50000 : Dice) : Option (Exit × VS) := loopF (roundF g_f16 fg_f16_0 tb_f16_0) (st_f16_0 x7 y4 y6 y20500 y50000)
noncomputable def n_f16_0 (x7 : Int) (y4 : Ledger) (y6 : Decision) (y20500 : (List Decision)) (y50000 : Dice) : Option (Exit × VS) :=
 br ((igt x7 0))
  (br ((decOk y50000 y6))
   (br (cApp y20500 ([((decV y50000 y6).1, (((decV y50000 y6).2).1, ((((decV y50000 y6).2).2).1, (((((decV y50000 y6).2).2).2).1, ((((((decV y50000 y6).2).2).2).2).1, ())))))]) 40)
    (lp_f16_0 (isub .i64 x7 1) y4 (decV y50000 y6) (y20500 ++ ([((decV y50000 y6).1, (((decV y50000 y6).2).1, ((((decV y50000 y6).2).2).1, (((((decV y50000 y6).2).2).2).1, ((((((decV y50000 y6).2).2).2).2).1, ())))))])) (decN y50000 y6))
    (none))
   (none))
  (some (.exit 0, st_f16_0_e0 y4 y20500 y50000))
def la_f16_0 (x7 : Int) (y4 : Ledger) (y6 : Decision) (y20500 : (List Decision)) (y50000 : Dice) : Option (Exit × VS) := some (.exit 0, st_f16_0_e0 (lg4 x7 y4 y6 y20500 y50000) (lgL x7 y4 y6 y20500 y50000) (lgD x7 y4 y6 y20500 y50000))
theorem be_f16_0 (x7 : Int) (y4 : Ledger) (y6 : Decision) (y20500 : (List Decision)) (y50000 : Dice) : roundF g_f16 fg_f16_0 tb_f16_0 (st_f16_0 x7 y4 y6 y20500 y50000) = b_f16_0 x7 y4 y6 y20500 y50000 := by kernel_rfl
theorem ln_f16_0 (x7 : Int) (y4 : Ledger) (y6 : Decision) (y20500 : (List Decision)) (y50000 : Dice) : lp_f16_0 x7 y4 y6 y20500 y50000 = n_f16_0 x7 y4 y6 y20500 y50000 := (loopF_nxt _ _).trans (by
 rw [be_f16_0]
 simp only [b_f16_0, n_f16_0, nxt_br, nxt_n, nxt_r, nxt_e, nxt_0]
 rfl)
def r_f16 (d0 : Dice) (p1 : Int) : Option (V × List VO) :=
 br ((nextOk d0 (iadd .i64 p1 1)))
  (br ((lgOk (dval d0 (iadd .i64 p1 1)) (([] : List Decision), ()) (0, (0, (0, (0, (0, ()))))) ([] : List Decision) (dnext d0 (iadd .i64 p1 1))))
   (some (.t tyLedger ((lgL (dval d0 (iadd .i64 p1 1)) (([] : List Decision), ()) (0, (0, (0, (0, (0, ()))))) ([] : List Decision) (dnext d0 (iadd .i64 p1 1))), ()), [.box (.t tyDice (lgD (dval d0 (iadd .i64 p1 1)) (([] : List Decision), ()) (0, (0, (0, (0, (0, ()))))) ([] : List Decision) (dnext d0 (iadd .i64 p1 1))))]))
   (none))
  (none)
theorem e_f16 (d0 : Dice) (p1 : Int) : runF g_f16 tc_f16 rv_f16 false [.ptr 50000 0, .t tI p1] [.box (.t tyDice d0)] = r_f16 d0 p1 := by kernel_rfl
theorem ok_f16 : Option.map (trC Try.prog) Try.f16.body = some tc_f16.er := by kernel_rfl
theorem rok_f16 : trVs Try.prog Try.f16.results.toList = some (rv_f16.map Prod.fst) := by kernel_rfl
theorem en_f16 : Entered Try.prog 16 := .inr ⟨by decide, _, Try.func16, by kernel_rfl, by kernel_rfl⟩
theorem gk_f16 : GOk Try.prog g_f16 := gok_of _ (by
 intro p hp
 simp only [List.mem_cons, List.not_mem_nil, or_false] at hp
 rcases hp with rfl | rfl
 ·exact ⟨en_f25, ms_f25⟩
 ·exact ⟨en_f29, ms_f29⟩)
theorem dOk_dec {d : Dice} {a : Decision} (h : dOk d = true) : dOk (decN d a) = true := dOk_next (n := 0) (dOk_next (n := 0) (dOk_next (n := 0) (dOk_next (n := 0) (dOk_next (n := 0) h))))
theorem dec_bd (d : Dice) (a : Decision) : a.1 ≤ (decV d a).1 ∧ (decV d a).1 ≤ a.1 + 2 ∧ a.2.1 ≤ (decV d a).2.1 ∧ (decV d a).2.1 ≤ a.2.1 + 1 := by
 have v1 := dval_lt (d := d) (n := 3) (by omega)
 have v2 := dval_lt (d := adv d) (n := 2) (by omega)
 simp only [decV]
 omega
theorem l_f16_0 (k : Int) (y4 : Ledger) (a : Decision) (l : List Decision) (d : Dice) (h : lgOk k y4 a l d = true) : lp_f16_0 k y4 a l d = la_f16_0 k y4 a l d := by
 simp only [lgOk, Bool.and_eq_true, decide_eq_true_eq] at h
 obtain ⟨h0, h1, h2, h3, h4, h5, h6, h7⟩ := h
 obtain ⟨n, rfl⟩ : ∃ n : Nat, k = n := ⟨k.toNat, by omega⟩
 induction n generalizing a l d with
 | zero =>
  rw [ln_f16_0]
  simp [n_f16_0, la_f16_0, igt, br_false, lg4, lgL, lgD, genL, genD]
 | succ n ih =>
  rw [ln_f16_0]
  have b := dec_bd d a
  have e1 : igt ((n + 1 : Nat) : Int) 0 = true := by simp only [igt, decide_eq_true_eq]; omega
  have e2 : decOk d a = true := by simp only [decOk, h0, Bool.true_and, decide_eq_true_eq]; omega
  have e3 : isub .i64 ((n + 1 : Nat) : Int) 1 = (n : Int) := by rw [isub_in (by omega)]; omega
  have e4 : ∀ x : Decision, cApp l [x] 40 = true := fun x => by simp [cApp]; omega
  simp only [n_f16_0, e1, br_true, e2, e3, e4]
  refine (ih (decV d a) (l ++ [decV d a]) (decN d a) (dOk_dec h0) (by omega) (by omega) (by omega) (by omega) (by omega) (by omega) (by simp; omega)).trans ?_
  simp only [la_f16_0, lg4, lgL, lgD, Int.toNat_natCast, genL, genD, List.append_assoc, List.singleton_append]
theorem lo_f16_0 : ∀ S l p, g_f16.L 0 (fgt fg_f16_0 S) = some (true, l) → pickA l = some p → loopF (roundF g_f16 fg_f16_0 tb_f16_0) S = some p :=
 lok_of (s := sh_f16_0) ⟨by decide, by decide⟩ (by kernel_rfl) fun x y hok p hp => by
 simp only [pickA_br, pickA_one] at hp
 exact (l_f16_0 x.2.2.2.2.1 y.1 y.2.2.1 y.2.2.2.2.1 y.2.2.2.2.2.1 (by simpa using hok)).trans hp
theorem lk_f16 : tc_f16.lok g_f16 := by
 repeat (first | exact trivial | exact lo_f16_0 | refine ⟨?_, ?_⟩)
theorem s_f16 (d : Dice) (most : Int) (h : ledOk d most = true) : r_f16 d most = some (.t tyLedger (ledV d most), [.box (.t tyDice (ledN d most))]) := by
 simp only [ledOk, Bool.and_eq_true, decide_eq_true_eq] at h
 obtain ⟨h0, h1, h2⟩ := h
 have b := dval_lt (d := d) (n := most + 1) (by omega)
 have e0 : iadd .i64 most 1 = most + 1 := iadd_in (by omega)
 have e2 : lgOk (dval d (most + 1)) (([] : List Decision), ()) (0, (0, (0, (0, (0, ()))))) ([] : List Decision) (dnext d (most + 1)) = true := by
  simp only [lgOk, dOk_next h0, Bool.true_and, decide_eq_true_eq, List.length_nil]
  omega
 simp only [r_f16, e0, nOk h0 (n := most + 1) (by omega), br_true, e2]
 rfl
def sp_f16 : Ent := specP tyDice (.pr tI .nil) (fun d x => (ledOk d x.1)) (fun d x => (.t tyLedger (ledV d x.1))) (fun d x => (ledN d x.1))
theorem ms_f16 : Meets Try.prog 16 (strip sp_f16) := by
 obtain ⟨c, hc, hi⟩ := Option.map_eq_some_iff.1 ok_f16
 exact meets_specP (R := runF g_f16 tc_f16 rv_f16 false) (meets_of (by decide) Try.func16 hc hi Try.ntmps16 rok_f16 gk_f16 lk_f16 mixed) rfl fun d x hok => (e_f16 d x.1).trans (s_f16 d x.1 hok)
end
end Go.Proofs.Ytnimpcffagidoaa.K
