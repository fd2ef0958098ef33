/-
  Ledgers that are made.
-/
import Derived.Test.YtnimpcffagidoaaL1
import Derived.KernelRfl
set_option linter.unusedSimpArgs false
set_option linter.unusedVariables false
namespace Go.Proofs.Ytnimpcffagidoaa.K
open Go.RowKit
noncomputable section
/-- k decisions more -/
def genL : Nat → Dice → Decision → List Decision
  | 0, _, _ => []
  | k + 1, d, a => decV d a :: genL k (decN d a) (decV d a)
def genD : Nat → Dice → Decision → Dice
  | 0, d, _ => d
  | k + 1, d, a => genD k (decN d a) (decV d a)
def zeroT : Decision := (0, 0, 0, 0, 0, ())
def ledV (d : Dice) (most : Int) : Ledger := (genL (dval d (most + 1)).toNat (adv d) zeroT, ())
def ledN (d : Dice) (most : Int) : Dice := genD (dval d (most + 1)).toNat (adv d) zeroT
def ledOk (d : Dice) (most : Int) : Bool := dOk d && decide (0 ≤ most ∧ most ≤ 100)
def lgOk (k : Int) (_y4 : Ledger) (a : Decision) (l : List Decision) (d : Dice) : Bool := dOk d && decide (0 ≤ k ∧ k ≤ 101 ∧ 0 ≤ a.1 ∧ a.1 + 2 * k ≤ 1000000 ∧ 0 ≤ a.2.1 ∧ a.2.1 + k ≤ 1000000 ∧ l.length + k ≤ 1000)
def lg4 (_k : Int) (y4 : Ledger) (_a : Decision) (_l : List Decision) (_d : Dice) : Ledger := y4
def lgL (k : Int) (_y4 : Ledger) (a : Decision) (l : List Decision) (d : Dice) : List Decision := l ++ genL k.toNat d a
def lgD (k : Int) (_y4 : Ledger) (a : Decision) (_l : List Decision) (d : Dice) : Dice := genD k.toNat d a
def fg_move_Ledger_0 : Fg := ⟨[(0, none), (4, none), (5, none), (6, none), (7, some tI)], [(4, some tyLedger), (5, none), (6, some tyDecision), (23, none), (20500, none), (50000, some tyDice)]⟩
def tb_move_Ledger_0 : TC := (.sq (.sq (.reg [(.mk (some 12) none (.m (.pu (.mv (.t 7))))), (.mk (some 13) none (.m (.pu (.bin false .gtr (.t 12) (.c (.v (.int .i64 0)))))))]) (.cd (.t 13) .sk (.fg ⟨[(4, none), (5, none)], [(4, some tyLedger), (5, some tyLedger), (23, none), (20500, none), (50000, some tyDice)]⟩ (.ex 0)))) (.sq (.bk 1 (.sq (.reg [(.mk (some 16) none (.m (.pu (.mv (.t 0))))), (.mk (some 17) none (.m (.ld true 5 (.t 6)))), (.mk (some 18) none (.call 29 [(.t 16), (.t 17)])), (.mk none none (.m (.st 5 (.t 6) (.t 18))))]) (.reg [(.mk (some 19) none (.m (.pu (.fa 0 (.t 5))))), (.mk (some 20) none (.m (.ld false 1 (.t 19)))), (.mk (some 21) none (.m (.ld true 5 (.t 6)))), (.mk (some 22) none (.m (.bs 40 5 1 [(.v (.int .i64 0)), (.v (.int .i64 0)), (.v (.int .i64 0)), (.v (.int .i64 0)), (.v (.int .i64 0))] [(0, 5, (.t 21))]))), (.mk (some 23) none (.m (.app 40 5 40 (.t 20) (.t 22)))), (.mk (some 24) none (.m (.pu (.fa 0 (.t 5))))), (.mk none none (.m (.st 1 (.t 24) (.t 23))))]))) (.reg [(.mk (some 14) none (.m (.pu (.mv (.t 7))))), (.mk (some 15) none (.m (.pu (.bin false .sub (.t 14) (.c (.v (.int .i64 1))))))), (.mk (some 7) none (.m (.pu (.mv (.t 15)))))])))
/-- cipherplan/cipherplanmove.Ledger -/
def tc_move_Ledger : TC := (.sq (.reg [(.mk (some 4) none (.m (.new [(.v (.slice none 0 0))])))]) (.sq (.reg [(.mk (some 5) none (.m (.new [(.v (.slice none 0 0))])))]) (.sq (.reg [(.mk (some 6) none (.m (.new [(.v (.int .i64 0)), (.v (.int .i64 0)), (.v (.int .i64 0)), (.v (.int .i64 0)), (.v (.int .i64 0))])))]) (.sq (.sq (.reg [(.mk (some 8) none (.m (.pu (.mv (.t 0))))), (.mk (some 9) none (.m (.pu (.mv (.t 1))))), (.mk (some 10) none (.m (.pu (.bin false .add (.t 9) (.c (.v (.int .i64 1))))))), (.mk (some 11) none (.call 25 [(.t 8), (.t 10)])), (.mk (some 7) none (.m (.pu (.mv (.t 11)))))]) (.bk 0 (.nf 5 0 40 20500 (.lp 0 fg_move_Ledger_0 tb_move_Ledger_0)))) (.sq (.reg [(.mk (some 25) none (.m (.ld true 1 (.t 5)))), (.mk none none (.m (.st 1 (.t 4) (.t 25))))]) .rt)))))
def rv_move_Ledger : List (RV × Option Ty) := [((.c 4 true 1), some tyLedger)]
abbrev sh_move_Ledger_0 : Sh := ⟨[(0, .ptr 50000 0), (4, .ptr 4 0), (5, .ptr 5 0), (6, .ptr 6 0), (7, .ty tI)], [(4, .box tyLedger), (5, .bag [.ms 20500]), (6, .box tyDecision), (23, .no), (20500, .arr 40 tyDecision), (50000, .box tyDice)]⟩
def st_move_Ledger_0 (x7 : Int) (y4 : Ledger) (y6 : Decision) (y20500 : (List Decision)) (y50000 : Dice) : VS := sh_move_Ledger_0.st ((), (), (), (), x7, ()) (y4, ((), ()), y6, (), y20500, y50000, ())
abbrev sh_move_Ledger_0_e0 : Sh := ⟨[(4, .ptr 4 0), (5, .ptr 5 0)], [(4, .box tyLedger), (5, .bag [.ms 20500]), (23, .no), (20500, .arr 40 tyDecision), (50000, .box tyDice)]⟩
def st_move_Ledger_0_e0 (y4 : Ledger) (y20500 : (List Decision)) (y50000 : Dice) : VS := sh_move_Ledger_0_e0.st ((), (), ()) (y4, ((), ()), (), y20500, y50000, ())
-- loop 0: (x7 : Int) (y4 : Ledger) (y6 : Decision) (y20500 : (List Decision)) (y50000 : Dice); out: ('exit', 0) (y4 : Ledger) (y20500 : (List Decision)) (y50000 : Dice)
def L_move_Ledger_0 : VS → Option (Bool × List (Bool × Exit × VS)) := mkL sh_move_Ledger_0 (fun x y => (lgOk x.2.2.2.2.1 y.1 y.2.2.1 y.2.2.2.2.1 y.2.2.2.2.2.1)) (fun x y => [(true, .exit 0, st_move_Ledger_0_e0 (lg4 x.2.2.2.2.1 y.1 y.2.2.1 y.2.2.2.2.1 y.2.2.2.2.2.1) (lgL x.2.2.2.2.1 y.1 y.2.2.1 y.2.2.2.2.1 y.2.2.2.2.2.1) (lgD x.2.2.2.2.1 y.1 y.2.2.1 y.2.2.2.2.1 y.2.2.2.2.2.1))])
def g_move_Ledger : G := ⟨TYs, [], 26, EL [(25, sp_make_Dice_Next), (29, sp_move_Decision)], keeps, (Ls [L_move_Ledger_0])⟩
def b_move_Ledger_0 (x7 : Int) (y4 : Ledger) (y6 : Decision) (y20500 : (List Decision)) (y50000 : Dice) : Option (Exit × VS) :=
  br ((igt x7 0))
    (br ((decOk y50000 y6))
      (br (cApp y20500 ([((decV y50000 y6).1, (((decV y50000 y6).2).1, ((((decV y50000 y6).2).2).1, (((((decV y50000 y6).2).2).2).1, ((((((decV y50000 y6).2).2).2).2).1, ())))))]) 40)
        (some (.normal, st_move_Ledger_0 (isub .i64 x7 1) y4 (decV y50000 y6) (y20500 ++ ([((decV y50000 y6).1, (((decV y50000 y6).2).1, ((((decV y50000 y6).2).2).1, (((((decV y50000 y6).2).2).2).1, ((((((decV y50000 y6).2).2).2).2).1, ())))))])) (decN y50000 y6)))
        (none))
      (none))
    (some (.exit 0, st_move_Ledger_0_e0 y4 y20500 y50000))
noncomputable def lp_move_Ledger_0 (x7 : Int) (y4 : Ledger) (y6 : Decision) (y20500 : (List Decision)) (y50000 : Dice) : Option (Exit × VS) := loopF (roundF g_move_Ledger fg_move_Ledger_0 tb_move_Ledger_0) (st_move_Ledger_0 x7 y4 y6 y20500 y50000)
noncomputable def n_move_Ledger_0 (x7 : Int) (y4 : Ledger) (y6 : Decision) (y20500 : (List Decision)) (y50000 : Dice) : Option (Exit × VS) :=
  br ((igt x7 0))
    (br ((decOk y50000 y6))
      (br (cApp y20500 ([((decV y50000 y6).1, (((decV y50000 y6).2).1, ((((decV y50000 y6).2).2).1, (((((decV y50000 y6).2).2).2).1, ((((((decV y50000 y6).2).2).2).2).1, ())))))]) 40)
        (lp_move_Ledger_0 (isub .i64 x7 1) y4 (decV y50000 y6) (y20500 ++ ([((decV y50000 y6).1, (((decV y50000 y6).2).1, ((((decV y50000 y6).2).2).1, (((((decV y50000 y6).2).2).2).1, ((((((decV y50000 y6).2).2).2).2).1, ())))))])) (decN y50000 y6))
        (none))
      (none))
    (some (.exit 0, st_move_Ledger_0_e0 y4 y20500 y50000))
def la_move_Ledger_0 (x7 : Int) (y4 : Ledger) (y6 : Decision) (y20500 : (List Decision)) (y50000 : Dice) : Option (Exit × VS) := some (.exit 0, st_move_Ledger_0_e0 (lg4 x7 y4 y6 y20500 y50000) (lgL x7 y4 y6 y20500 y50000) (lgD x7 y4 y6 y20500 y50000))
theorem be_move_Ledger_0 (x7 : Int) (y4 : Ledger) (y6 : Decision) (y20500 : (List Decision)) (y50000 : Dice) : roundF g_move_Ledger fg_move_Ledger_0 tb_move_Ledger_0 (st_move_Ledger_0 x7 y4 y6 y20500 y50000) = b_move_Ledger_0 x7 y4 y6 y20500 y50000 := by kernel_rfl
theorem ln_move_Ledger_0 (x7 : Int) (y4 : Ledger) (y6 : Decision) (y20500 : (List Decision)) (y50000 : Dice) : lp_move_Ledger_0 x7 y4 y6 y20500 y50000 = n_move_Ledger_0 x7 y4 y6 y20500 y50000 := (loopF_nxt _ _).trans (by
  rw [be_move_Ledger_0]
  simp only [b_move_Ledger_0, n_move_Ledger_0, nxt_br, nxt_n, nxt_r, nxt_e, nxt_0]
  rfl)
def r_move_Ledger (d0 : Dice) (p1 : Int) : Option (V × List VO) :=
  br ((nextOk d0 (iadd .i64 p1 1)))
    (br ((lgOk (dval d0 (iadd .i64 p1 1)) (([] : List Decision), ()) (0, (0, (0, (0, (0, ()))))) ([] : List Decision) (dnext d0 (iadd .i64 p1 1))))
      (some (.t tyLedger ((lgL (dval d0 (iadd .i64 p1 1)) (([] : List Decision), ()) (0, (0, (0, (0, (0, ()))))) ([] : List Decision) (dnext d0 (iadd .i64 p1 1))), ()), [.box (.t tyDice (lgD (dval d0 (iadd .i64 p1 1)) (([] : List Decision), ()) (0, (0, (0, (0, (0, ()))))) ([] : List Decision) (dnext d0 (iadd .i64 p1 1))))]))
      (none))
    (none)
theorem e_move_Ledger (d0 : Dice) (p1 : Int) : runF g_move_Ledger tc_move_Ledger rv_move_Ledger false [.ptr 50000 0, .t tI p1] [.box (.t tyDice d0)] = r_move_Ledger d0 p1 := by kernel_rfl
theorem ok_move_Ledger : Option.map (trC Try.prog) Try.f16.body = some tc_move_Ledger.er := by kernel_rfl
theorem rok_move_Ledger : trVs Try.prog Try.f16.results.toList = some (rv_move_Ledger.map Prod.fst) := by kernel_rfl
theorem en_move_Ledger : Entered Try.prog 16 := .inr ⟨by decide, _, Try.func16, by kernel_rfl, by kernel_rfl⟩
theorem gk_move_Ledger : GOk Try.prog g_move_Ledger := gok_of _ (by
  intro p hp
  simp only [List.mem_cons, List.not_mem_nil, or_false] at hp
  rcases hp with rfl | rfl
  · exact ⟨en_make_Dice_Next, ms_make_Dice_Next⟩
  · exact ⟨en_move_Decision, ms_move_Decision⟩)
theorem dOk_dec {d : Dice} {a : Decision} (h : dOk d = true) : dOk (decN d a) = true := dOk_next (n := 0) (dOk_next (n := 0) (dOk_next (n := 0) (dOk_next (n := 0) (dOk_next (n := 0) h))))
theorem dec_bd (d : Dice) (a : Decision) : a.1 ≤ (decV d a).1 ∧ (decV d a).1 ≤ a.1 + 2 ∧ a.2.1 ≤ (decV d a).2.1 ∧ (decV d a).2.1 ≤ a.2.1 + 1 := by
  have v1 := dval_lt (d := d) (n := 3) (by omega)
  have v2 := dval_lt (d := adv d) (n := 2) (by omega)
  simp only [decV]
  omega
theorem l_move_Ledger_0 (k : Int) (y4 : Ledger) (a : Decision) (l : List Decision) (d : Dice) (h : lgOk k y4 a l d = true) : lp_move_Ledger_0 k y4 a l d = la_move_Ledger_0 k y4 a l d := by
  simp only [lgOk, Bool.and_eq_true, decide_eq_true_eq] at h
  obtain ⟨h0, h1, h2, h3, h4, h5, h6, h7⟩ := h
  obtain ⟨n, rfl⟩ : ∃ n : Nat, k = n := ⟨k.toNat, by omega⟩
  induction n generalizing a l d with
  | zero =>
    rw [ln_move_Ledger_0]
    simp [n_move_Ledger_0, la_move_Ledger_0, igt, br_false, lg4, lgL, lgD, genL, genD]
  | succ n ih =>
    rw [ln_move_Ledger_0]
    have b := dec_bd d a
    have e1 : igt ((n + 1 : Nat) : Int) 0 = true := by simp only [igt, decide_eq_true_eq]; omega
    have e2 : decOk d a = true := by simp only [decOk, h0, Bool.true_and, decide_eq_true_eq]; omega
    have e3 : isub .i64 ((n + 1 : Nat) : Int) 1 = (n : Int) := by rw [isub_in (by omega)]; omega
    have e4 : ∀ x : Decision, cApp l [x] 40 = true := fun x => by simp [cApp]; omega
    simp only [n_move_Ledger_0, e1, br_true, e2, e3, e4]
    refine (ih (decV d a) (l ++ [decV d a]) (decN d a) (dOk_dec h0) (by omega) (by omega) (by omega) (by omega) (by omega) (by omega) (by simp; omega)).trans ?_
    simp only [la_move_Ledger_0, lg4, lgL, lgD, Int.toNat_natCast, genL, genD, List.append_assoc, List.singleton_append]
theorem lo_move_Ledger_0 : ∀ S l p, g_move_Ledger.L 0 (fgt fg_move_Ledger_0 S) = some (true, l) → pickA l = some p → loopF (roundF g_move_Ledger fg_move_Ledger_0 tb_move_Ledger_0) S = some p :=
  lok_of (s := sh_move_Ledger_0) ⟨by decide, by decide⟩ (by kernel_rfl) fun x y hok p hp => by
  simp only [pickA_br, pickA_one] at hp
  exact (l_move_Ledger_0 x.2.2.2.2.1 y.1 y.2.2.1 y.2.2.2.2.1 y.2.2.2.2.2.1 (by simpa using hok)).trans hp
theorem lk_move_Ledger : tc_move_Ledger.lok g_move_Ledger := by
  repeat (first | exact trivial | exact lo_move_Ledger_0 | refine ⟨?_, ?_⟩)
theorem s_move_Ledger (d : Dice) (most : Int) (h : ledOk d most = true) : r_move_Ledger d most = some (.t tyLedger (ledV d most), [.box (.t tyDice (ledN d most))]) := by
  simp only [ledOk, Bool.and_eq_true, decide_eq_true_eq] at h
  obtain ⟨h0, h1, h2⟩ := h
  have b := dval_lt (d := d) (n := most + 1) (by omega)
  have e0 : iadd .i64 most 1 = most + 1 := iadd_in (by omega)
  have e2 : lgOk (dval d (most + 1)) (([] : List Decision), ()) (0, (0, (0, (0, (0, ()))))) ([] : List Decision) (dnext d (most + 1)) = true := by
    simp only [lgOk, dOk_next h0, Bool.true_and, decide_eq_true_eq, List.length_nil]
    omega
  simp only [r_move_Ledger, e0, nOk h0 (n := most + 1) (by omega), br_true, e2]
  rfl
def sp_move_Ledger : Ent := specP tyDice (.pr tI .nil) (fun d x => (ledOk d x.1)) (fun d x => (.t tyLedger (ledV d x.1))) (fun d x => (ledN d x.1))
theorem ms_move_Ledger : Meets Try.prog 16 (strip sp_move_Ledger) := by
  obtain ⟨c, hc, hi⟩ := Option.map_eq_some_iff.1 ok_move_Ledger
  exact meets_specP (R := runF g_move_Ledger tc_move_Ledger rv_move_Ledger false) (meets_of (by decide) Try.func16 hc hi Try.ntmps16 rok_move_Ledger gk_move_Ledger lk_move_Ledger mixed) rfl fun d x hok => (e_move_Ledger d x.1).trans (s_move_Ledger d x.1 hok)
end
end Go.Proofs.Ytnimpcffagidoaa.K
