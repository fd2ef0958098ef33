/-
  When two ledgers differ.
-/
import Derived.Test.YtnimpcffagidoaaL2
import Derived.KernelRfl
set_option linter.unusedSimpArgs false
set_option linter.unusedVariables false
namespace Go.Proofs.Ytnimpcffagidoaa.K
open Go.RowKit
noncomputable section
def diffAt : List Decision → List Decision → Option Nat
  | [], [] => none
  | x :: a, y :: b => if x == y then (diffAt a b).map (· + 1) else some 0
  | _, _ => some 0
def differV (a b : Ledger) : Int × Bool := match diffAt a.1 b.1 with | some k => (k, true) | none => (0, false)
def dfOk (i : Int) (a b : Ledger) : Bool := sameOk a b && decide (0 ≤ i)
def dfNe (i : Int) (a b : Ledger) : Bool := (diffAt (a.1.drop i.toNat) (b.1.drop i.toNat)).isSome
def dfK (i : Int) (a b : Ledger) : Int := i + ((diffAt (a.1.drop i.toNat) (b.1.drop i.toNat)).getD 0 : Nat)
def dfT (_ : Int) (_ _ : Ledger) : Bool := true
def dr_ref41_Differ_0 : List DO := [(.mk (.mk (some 21) none (.m (.pu (.mv (.t 6))))) []), (.mk (.mk (some 22) none (.m (.pu (.fa 0 (.t 2))))) []), (.mk (.mk (some 23) none (.m (.ld false 1 (.t 22)))) [1]), (.mk (.mk (some 24) none (.m (.pu (.len false (.t 23))))) [2]), (.mk (.mk (some 25) none (.m (.pu (.bin false .geq (.t 21) (.t 24))))) [0, 3]), (.mk (.mk (some 26) none (.m (.pu (.mv (.t 25))))) [4]), (.mk (.mk (some 27) (some (26, false)) (.m (.pu (.mv (.t 6))))) [5]), (.mk (.mk (some 28) (some (26, false)) (.m (.pu (.fa 0 (.t 3))))) [5]), (.mk (.mk (some 29) (some (26, false)) (.m (.ld false 1 (.t 28)))) [7, 5]), (.mk (.mk (some 30) (some (26, false)) (.m (.pu (.len false (.t 29))))) [8, 5]), (.mk (.mk (some 31) (some (26, false)) (.m (.pu (.bin false .geq (.t 27) (.t 30))))) [6, 9, 5]), (.mk (.mk (some 32) none (.m (.pu (.pick (.t 26) (.c (.v (.bool true))) (.t 31))))) [5, 10]), (.mk (.mk (some 33) none (.m (.pu (.mv (.t 32))))) [11, 5]), (.mk (.mk (some 34) (some (33, false)) (.m (.pu (.fa 0 (.t 2))))) [12]), (.mk (.mk (some 35) (some (33, false)) (.m (.ld false 1 (.t 34)))) [13, 12]), (.mk (.mk (some 36) (some (33, false)) (.m (.pu (.mv (.t 6))))) [12]), (.mk (.mk (some 37) (some (33, false)) (.m (.pu (.ix 5 (.t 35) (.t 36))))) [14, 15, 12]), (.mk (.mk (some 38) (some (33, false)) (.m (.ld true 5 (.t 37)))) [16, 12]), (.mk (.mk (some 39) (some (33, false)) (.m (.pu (.fa 0 (.t 3))))) [12]), (.mk (.mk (some 40) (some (33, false)) (.m (.ld false 1 (.t 39)))) [18, 12]), (.mk (.mk (some 41) (some (33, false)) (.m (.pu (.mv (.t 6))))) [12]), (.mk (.mk (some 42) (some (33, false)) (.m (.pu (.ix 5 (.t 40) (.t 41))))) [19, 20, 12]), (.mk (.mk (some 43) (some (33, false)) (.m (.ld true 5 (.t 42)))) [21, 12]), (.mk (.mk (some 44) (some (33, false)) (.m (.pu (.eqs true [0, 0, 0, 0, 0] (.t 38) (.t 43))))) [17, 22, 12]), (.mk (.mk (some 45) none (.m (.pu (.pick (.t 33) (.c (.v (.bool true))) (.t 44))))) [12, 23])]
def fg_ref41_Differ_0 : Fg := ⟨[(2, none), (3, none), (6, some tI)], [(2, some tyLedger), (3, some tyLedger)]⟩
def tb_ref41_Differ_0 : TC := (.sq (.sq (.reg [(.mk (some 7) none (.m (.pu (.mv (.t 6))))), (.mk (some 8) none (.m (.pu (.fa 0 (.t 2))))), (.mk (some 9) none (.m (.ld false 1 (.t 8)))), (.mk (some 10) none (.m (.pu (.len false (.t 9))))), (.mk (some 11) none (.m (.pu (.bin false .lss (.t 7) (.t 10))))), (.mk (some 12) none (.m (.pu (.mv (.t 11))))), (.mk (some 13) (some (12, false)) (.m (.pu (.mv (.t 6))))), (.mk (some 14) (some (12, false)) (.m (.pu (.fa 0 (.t 3))))), (.mk (some 15) (some (12, false)) (.m (.ld false 1 (.t 14)))), (.mk (some 16) (some (12, false)) (.m (.pu (.len false (.t 15))))), (.mk (some 17) (some (12, false)) (.m (.pu (.bin false .lss (.t 13) (.t 16))))), (.mk (some 18) none (.m (.pu (.pick (.t 12) (.c (.v (.bool true))) (.t 17)))))]) (.cd (.t 18) .sk (.fg ⟨[], []⟩ (.ex 0)))) (.sq (.bk 1 (.sq (.dr dr_ref41_Differ_0 [(0, []), (1, [2]), (2, [2]), (3, []), (4, []), (5, []), (6, []), (7, [3]), (8, [3]), (9, []), (10, []), (11, []), (12, []), (13, [2]), (14, [2]), (15, []), (16, []), (17, []), (18, [3]), (19, [3]), (20, []), (21, []), (22, []), (23, []), (24, [])] (.of [0, 1, 2, 3, 4, 5, 6, 7, 8, 9, 10, 11, 12, 13, 14, 15, 16, 17, 18, 19, 20, 21, 22, 23, 24])) (.cd (.t 45) (.sq (.reg [(.mk (some 46) none (.m (.pu (.mv (.t 6))))), (.mk (some 4) none (.m (.pu (.mv (.t 46))))), (.mk (some 5) none (.m (.pu (.mv (.c (.v (.bool true)))))))]) (.fg ⟨[(4, some tI), (5, some .bool)], []⟩ .rt)) .sk))) (.reg [(.mk (some 19) none (.m (.pu (.mv (.t 6))))), (.mk (some 20) none (.m (.pu (.bin false .add (.t 19) (.c (.v (.int .i64 1))))))), (.mk (some 6) none (.m (.pu (.mv (.t 20)))))])))
/-- cipherplan/cipherplanref41.Differ -/
def tc_ref41_Differ : TC := (.sq (.reg [(.mk (some 2) none (.m (.box (.t 0)))), (.mk (some 3) none (.m (.box (.t 1)))), (.mk (some 4) none (.m (.pu (.mv (.c (.v (.int .i64 0))))))), (.mk (some 5) none (.m (.pu (.mv (.c (.v (.bool false)))))))]) (.sq (.sq (.reg [(.mk (some 6) none (.m (.pu (.mv (.c (.v (.int .i64 0)))))))]) (.bk 0 (.lp 0 fg_ref41_Differ_0 tb_ref41_Differ_0))) (.sq (.reg [(.mk (some 4) none (.m (.pu (.mv (.c (.v (.int .i64 0))))))), (.mk (some 5) none (.m (.pu (.mv (.c (.v (.bool false)))))))]) .rt)))
def rv_ref41_Differ : List (RV × Option Ty) := [((.t 4), some tI), ((.t 5), some .bool)]
abbrev sh_ref41_Differ_0 : Sh := ⟨[(2, .ptr 2 0), (3, .ptr 3 0), (6, .ty tI)], [(2, .box tyLedger), (3, .box tyLedger)]⟩
def st_ref41_Differ_0 (x6 : Int) (y2 : Ledger) (y3 : Ledger) : VS := sh_ref41_Differ_0.st ((), (), x6, ()) (y2, y3, ())
abbrev sh_ref41_Differ_0_ret : Sh := ⟨[(4, .ty tI), (5, .ty .bool)], []⟩
def st_ref41_Differ_0_ret (x4 : Int) (x5 : Bool) : VS := sh_ref41_Differ_0_ret.st (x4, x5, ()) ()
abbrev sh_ref41_Differ_0_e0 : Sh := ⟨[], []⟩
def st_ref41_Differ_0_e0  : VS := sh_ref41_Differ_0_e0.st () ()
-- loop 0: (x6 : Int) (y2 : Ledger) (y3 : Ledger); out: ('ret',) (x4 : Int) (x5 : Bool); ('exit', 0) 
def L_ref41_Differ_0 : VS → Option (Bool × List (Bool × Exit × VS)) := mkL sh_ref41_Differ_0 (fun x y => (dfOk x.2.2.1 y.1 y.2.1)) (fun x y => [((dfNe x.2.2.1 y.1 y.2.1), .ret, st_ref41_Differ_0_ret (dfK x.2.2.1 y.1 y.2.1) (dfT x.2.2.1 y.1 y.2.1)), (true, .exit 0, st_ref41_Differ_0_e0)])
def g_ref41_Differ : G := ⟨TYs, [], 47, EL [], keeps, (Ls [L_ref41_Differ_0])⟩
def b_ref41_Differ_0_1 (x6 : Int) (y2 : Ledger) (y3 : Ledger) : Option (Exit × VS) :=
  br ((ige x6 (llen y2.1)))
    (some (.ret, st_ref41_Differ_0_ret x6 true))
    (br ((ige x6 (llen y3.1)))
      (some (.ret, st_ref41_Differ_0_ret x6 true))
      (br (cIx y2.1 x6)
        (br (cIx y3.1 x6)
          (br ((!(and (ieq ((lgt tyDecision y2.1 (Int.toNat x6)).1) ((lgt tyDecision y3.1 (Int.toNat x6)).1)) (and (ieq (((lgt tyDecision y2.1 (Int.toNat x6)).2).1) (((lgt tyDecision y3.1 (Int.toNat x6)).2).1)) (and (ieq ((((lgt tyDecision y2.1 (Int.toNat x6)).2).2).1) ((((lgt tyDecision y3.1 (Int.toNat x6)).2).2).1)) (and (ieq (((((lgt tyDecision y2.1 (Int.toNat x6)).2).2).2).1) (((((lgt tyDecision y3.1 (Int.toNat x6)).2).2).2).1)) (and (ieq ((((((lgt tyDecision y2.1 (Int.toNat x6)).2).2).2).2).1) ((((((lgt tyDecision y3.1 (Int.toNat x6)).2).2).2).2).1)) true)))))))
            (some (.ret, st_ref41_Differ_0_ret x6 true))
            (some (.normal, st_ref41_Differ_0 (iadd .i64 x6 1) y2 y3)))
          (none))
        (none)))
def b_ref41_Differ_0 (x6 : Int) (y2 : Ledger) (y3 : Ledger) : Option (Exit × VS) :=
  br ((ilt x6 (llen y2.1)))
    (b_ref41_Differ_0_1 x6 y2 y3)
    (br ((ilt x6 (llen y3.1)))
      (b_ref41_Differ_0_1 x6 y2 y3)
      (some (.exit 0, st_ref41_Differ_0_e0)))
noncomputable def lp_ref41_Differ_0 (x6 : Int) (y2 : Ledger) (y3 : Ledger) : Option (Exit × VS) := loopF (roundF g_ref41_Differ fg_ref41_Differ_0 tb_ref41_Differ_0) (st_ref41_Differ_0 x6 y2 y3)
noncomputable def n_ref41_Differ_0_1 (x6 : Int) (y2 : Ledger) (y3 : Ledger) : Option (Exit × VS) :=
  br ((ige x6 (llen y2.1)))
    (some (.ret, st_ref41_Differ_0_ret x6 true))
    (br ((ige x6 (llen y3.1)))
      (some (.ret, st_ref41_Differ_0_ret x6 true))
      (br (cIx y2.1 x6)
        (br (cIx y3.1 x6)
          (br ((!(and (ieq ((lgt tyDecision y2.1 (Int.toNat x6)).1) ((lgt tyDecision y3.1 (Int.toNat x6)).1)) (and (ieq (((lgt tyDecision y2.1 (Int.toNat x6)).2).1) (((lgt tyDecision y3.1 (Int.toNat x6)).2).1)) (and (ieq ((((lgt tyDecision y2.1 (Int.toNat x6)).2).2).1) ((((lgt tyDecision y3.1 (Int.toNat x6)).2).2).1)) (and (ieq (((((lgt tyDecision y2.1 (Int.toNat x6)).2).2).2).1) (((((lgt tyDecision y3.1 (Int.toNat x6)).2).2).2).1)) (and (ieq ((((((lgt tyDecision y2.1 (Int.toNat x6)).2).2).2).2).1) ((((((lgt tyDecision y3.1 (Int.toNat x6)).2).2).2).2).1)) true)))))))
            (some (.ret, st_ref41_Differ_0_ret x6 true))
            (lp_ref41_Differ_0 (iadd .i64 x6 1) y2 y3))
          (none))
        (none)))
noncomputable def n_ref41_Differ_0 (x6 : Int) (y2 : Ledger) (y3 : Ledger) : Option (Exit × VS) :=
  br ((ilt x6 (llen y2.1)))
    (n_ref41_Differ_0_1 x6 y2 y3)
    (br ((ilt x6 (llen y3.1)))
      (n_ref41_Differ_0_1 x6 y2 y3)
      (some (.exit 0, st_ref41_Differ_0_e0)))
def la_ref41_Differ_0 (x6 : Int) (y2 : Ledger) (y3 : Ledger) : Option (Exit × VS) := br (dfNe x6 y2 y3) (some (.ret, st_ref41_Differ_0_ret (dfK x6 y2 y3) (dfT x6 y2 y3))) <| some (.exit 0, st_ref41_Differ_0_e0)
theorem be_ref41_Differ_0 (x6 : Int) (y2 : Ledger) (y3 : Ledger) : roundF g_ref41_Differ fg_ref41_Differ_0 tb_ref41_Differ_0 (st_ref41_Differ_0 x6 y2 y3) = b_ref41_Differ_0 x6 y2 y3 := by kernel_rfl
theorem ln_ref41_Differ_0 (x6 : Int) (y2 : Ledger) (y3 : Ledger) : lp_ref41_Differ_0 x6 y2 y3 = n_ref41_Differ_0 x6 y2 y3 := (loopF_nxt _ _).trans (by
  rw [be_ref41_Differ_0]
  simp only [b_ref41_Differ_0, b_ref41_Differ_0_1, n_ref41_Differ_0, n_ref41_Differ_0_1, nxt_br, nxt_n, nxt_r, nxt_e, nxt_0]
  rfl)
def r_ref41_Differ (p0 : Ledger) (p1 : Ledger) : Option (V × List VO) :=
  br ((dfOk 0 p0 p1))
    (br ((dfNe 0 p0 p1))
      (some (.tu [(.t tI (dfK 0 p0 p1)), (.t .bool (dfT 0 p0 p1))], []))
      (some (.tu [(.t tI 0), (.t .bool false)], [])))
    (none)
theorem e_ref41_Differ (p0 : Ledger) (p1 : Ledger) : runF g_ref41_Differ tc_ref41_Differ rv_ref41_Differ false [.t tyLedger p0, .t tyLedger p1] [] = r_ref41_Differ p0 p1 := by kernel_rfl
theorem ok_ref41_Differ : Option.map (trC Try.prog) Try.f39.body = some tc_ref41_Differ.er := by kernel_rfl
theorem rok_ref41_Differ : trVs Try.prog Try.f39.results.toList = some (rv_ref41_Differ.map Prod.fst) := by kernel_rfl
theorem en_ref41_Differ : Entered Try.prog 39 := .inr ⟨by decide, _, Try.func39, by kernel_rfl, by kernel_rfl⟩
theorem gk_ref41_Differ : GOk Try.prog g_ref41_Differ := gok_of _ (fun p hp => by cases hp)
theorem l_ref41_Differ_0 (i : Int) (a b : Ledger) (h : dfOk i a b = true) : lp_ref41_Differ_0 i a b = la_ref41_Differ_0 i a b := by
  obtain ⟨a, ua⟩ := a
  obtain ⟨b, ub⟩ := b
  simp only [dfOk, sameOk, Bool.and_eq_true, decide_eq_true_eq] at h
  obtain ⟨⟨h1, h2⟩, h3⟩ := h
  obtain ⟨k, rfl⟩ : ∃ k : Nat, i = k := ⟨i.toNat, by omega⟩
  induction hn : max a.length b.length - k generalizing k with
  | zero =>
    rw [ln_ref41_Differ_0]
    have e1 : a.drop k = [] := List.drop_eq_nil_of_le (by omega)
    have e2 : b.drop k = [] := List.drop_eq_nil_of_le (by omega)
    have e3 : ¬ k < a.length := by omega
    have e4 : ¬ k < b.length := by omega
    simp [n_ref41_Differ_0, la_ref41_Differ_0, dfNe, e1, e2, llen, ilt_nat, e3, e4, br_false, diffAt]
  | succ n ih =>
    rw [ln_ref41_Differ_0]
    by_cases h4 : k < a.length
    · by_cases h5 : k < b.length
      · have e1 : a.drop k = a[k] :: a.drop (k + 1) := List.drop_eq_getElem_cons h4
        have e2 : b.drop k = b[k] :: b.drop (k + 1) := List.drop_eq_getElem_cons h5
        have g1 : ¬ a.length ≤ k := by omega
        have g2 : ¬ b.length ≤ k := by omega
        simp only [n_ref41_Differ_0, n_ref41_Differ_0_1, llen, ilt_nat, ige_nat, cIx_nat, h4, h5, g1, g2, decide_true, decide_false, br_true, br_false, Int.toNat_natCast, eq_five, add1 (show k < 4611686018427387904 by omega), lgt_get (y := tyDecision) (l := a) h4, lgt_get (y := tyDecision) (l := b) h5]
        rw [ih (k + 1) (by omega) (by omega)]
        simp only [la_ref41_Differ_0, dfNe, dfK, dfT, Int.toNat_natCast]
        rw [e1, e2]
        simp only [diffAt]
        cases hq : a[k] == b[k] with
        | true =>
          simp only [Bool.not_true, br_false, if_true]
          cases diffAt (a.drop (k + 1)) (b.drop (k + 1)) with
          | none => rfl
          | some m =>
            have : ((k + 1 : Nat) : Int) + (m : Nat) = (k : Int) + ((m + 1 : Nat) : Int) := by omega
            simp only [Option.map_some, Option.isSome_some, Option.getD_some, br_true, this]
        | false => simp [br_true]
      · have e1 : a.drop k = a[k] :: a.drop (k + 1) := List.drop_eq_getElem_cons h4
        have e2 : b.drop k = [] := List.drop_eq_nil_of_le (by omega)
        have g1 : ¬ a.length ≤ k := by omega
        have g2 : b.length ≤ k := by omega
        simp only [n_ref41_Differ_0, n_ref41_Differ_0_1, llen, ilt_nat, ige_nat, h4, g1, g2, decide_true, decide_false, br_true, br_false, la_ref41_Differ_0, dfNe, dfK, dfT, Int.toNat_natCast]
        rw [e1, e2]
        simp [diffAt, br_true]
    · have h5 : k < b.length := by omega
      have e1 : a.drop k = [] := List.drop_eq_nil_of_le (by omega)
      have e2 : b.drop k = b[k] :: b.drop (k + 1) := List.drop_eq_getElem_cons h5
      have g1 : a.length ≤ k := by omega
      simp only [n_ref41_Differ_0, n_ref41_Differ_0_1, llen, ilt_nat, ige_nat, h4, h5, g1, decide_true, decide_false, br_true, br_false, la_ref41_Differ_0, dfNe, dfK, dfT, Int.toNat_natCast]
      rw [e1, e2]
      simp [diffAt, br_true]
theorem lo_ref41_Differ_0 : ∀ S l p, g_ref41_Differ.L 0 (fgt fg_ref41_Differ_0 S) = some (true, l) → pickA l = some p → loopF (roundF g_ref41_Differ fg_ref41_Differ_0 tb_ref41_Differ_0) S = some p :=
  lok_of (s := sh_ref41_Differ_0) ⟨by decide, by decide⟩ (by kernel_rfl) fun x y hok p hp => by
  simp only [pickA_br, pickA_one] at hp
  exact (l_ref41_Differ_0 x.2.2.1 y.1 y.2.1 (by simpa using hok)).trans hp
theorem lk_ref41_Differ : tc_ref41_Differ.lok g_ref41_Differ := by
  repeat (first | exact trivial | exact lo_ref41_Differ_0 | refine ⟨?_, ?_⟩)
theorem s_ref41_Differ (a b : Ledger) (h : sameOk a b = true) : r_ref41_Differ a b = some (.tu [.t tI (differV a b).1, .t .bool (differV a b).2], []) := by
  have e1 : dfOk 0 a b = true := by simp [dfOk, h]
  simp only [r_ref41_Differ, e1, br_true]
  simp only [dfNe, dfK, dfT, differV, Int.toNat_zero, List.drop_zero]
  cases diffAt a.1 b.1 <;> simp [br_true, br_false]
def sp_ref41_Differ : Ent := spec (.pr tyLedger (.pr tyLedger .nil)) (fun x => (sameOk x.1 x.2.1)) (fun x => (.tu [(.t tI ((differV x.1 x.2.1).1)), (.t .bool ((differV x.1 x.2.1).2))]))
theorem ms_ref41_Differ : Meets Try.prog 39 (strip sp_ref41_Differ) := by
  obtain ⟨c, hc, hi⟩ := Option.map_eq_some_iff.1 ok_ref41_Differ
  exact meets_spec (R := runF g_ref41_Differ tc_ref41_Differ rv_ref41_Differ false) (meets_of (by decide) Try.func39 hc hi Try.ntmps39 rok_ref41_Differ gk_ref41_Differ lk_ref41_Differ mixed) fun x hok => (e_ref41_Differ x.1 x.2.1).trans (s_ref41_Differ x.1 x.2.1 hok)
theorem diffAt_same : ∀ (a b : List Decision), (diffAt a b).isSome = !(a == b)
  | [], [] => rfl
  | [], _ :: _ => rfl
  | _ :: _, [] => rfl
  | x :: a, y :: b => by
    simp only [diffAt]
    rw [beq_list]
    cases hq : x == y with
    | true => simp [diffAt_same a b]
    | false => simp
/-- cipherplan/cipherplanref41.Same -/
def tc_ref41_Same : TC := (.sq (.reg [(.mk (some 2) none (.m (.box (.t 0)))), (.mk (some 3) none (.m (.box (.t 1)))), (.mk (some 4) none (.m (.pu (.mv (.c (.v (.bool false)))))))]) (.sq (.reg [(.mk (some 8) none (.m (.ld true 1 (.t 2)))), (.mk (some 9) none (.m (.ld true 1 (.t 3)))), (.mk (some 10) none (.call 39 [(.t 8), (.t 9)])), (.mk (some 7) none (.m (.pu (.mv (.t 10))))), (.mk (some 11) none (.m (.pu (.ext 0 (.t 7))))), (.mk (some 12) none (.m (.pu (.ext 1 (.t 7))))), (.mk (some 5) none (.m (.pu (.mv (.t 11))))), (.mk (some 6) none (.m (.pu (.mv (.t 12)))))]) (.sq (.reg [(.mk (some 13) none (.m (.pu (.mv (.t 6))))), (.mk (some 14) none (.m (.pu (.nt (.t 13))))), (.mk (some 4) none (.m (.pu (.mv (.t 14)))))]) .rt)))
def rv_ref41_Same : List (RV × Option Ty) := [((.t 4), some .bool)]
def g_ref41_Same : G := ⟨TYs, [], 15, EL [(39, sp_ref41_Differ)], keeps, (fun _ _ => none)⟩
def r_ref41_Same (p0 : Ledger) (p1 : Ledger) : Option (V × List VO) :=
  br ((sameOk p0 p1))
    (some (.t .bool (!((differV p0 p1).2)), []))
    (none)
theorem e_ref41_Same (p0 : Ledger) (p1 : Ledger) : runF g_ref41_Same tc_ref41_Same rv_ref41_Same false [.t tyLedger p0, .t tyLedger p1] [] = r_ref41_Same p0 p1 := by kernel_rfl
theorem ok_ref41_Same : Option.map (trC Try.prog) Try.f31.body = some tc_ref41_Same.er := by kernel_rfl
theorem rok_ref41_Same : trVs Try.prog Try.f31.results.toList = some (rv_ref41_Same.map Prod.fst) := by kernel_rfl
theorem en_ref41_Same : Entered Try.prog 31 := .inr ⟨by decide, _, Try.func31, by kernel_rfl, by kernel_rfl⟩
theorem gk_ref41_Same : GOk Try.prog g_ref41_Same := gok_of _ (by
  intro p hp
  simp only [List.mem_cons, List.not_mem_nil, or_false] at hp
  rcases hp with rfl
  · exact ⟨en_ref41_Differ, ms_ref41_Differ⟩)
theorem lk_ref41_Same : tc_ref41_Same.lok g_ref41_Same := by repeat (first | exact trivial | refine ⟨?_, ?_⟩)
theorem s_ref41_Same (a b : Ledger) (h : sameOk a b = true) : r_ref41_Same a b = some (.t .bool (sameV a b), []) := by
  simp only [r_ref41_Same, h, br_true]
  have := diffAt_same a.1 b.1
  simp only [differV, sameV]
  cases hd : diffAt a.1 b.1 with
  | none => rw [hd] at this; simp at this; simp [this]
  | some k => rw [hd] at this; simp at this; simp [this]
def sp_ref41_Same : Ent := spec (.pr tyLedger (.pr tyLedger .nil)) (fun x => (sameOk x.1 x.2.1)) (fun x => (.t .bool (sameV x.1 x.2.1)))
theorem ms_ref41_Same : Meets Try.prog 31 (strip sp_ref41_Same) := by
  obtain ⟨c, hc, hi⟩ := Option.map_eq_some_iff.1 ok_ref41_Same
  exact meets_spec (R := runF g_ref41_Same tc_ref41_Same rv_ref41_Same false) (meets_of (by decide) Try.func31 hc hi Try.ntmps31 rok_ref41_Same gk_ref41_Same lk_ref41_Same mixed) fun x hok => (e_ref41_Same x.1 x.2.1).trans (s_ref41_Same x.1 x.2.1 hok)
end
end Go.Proofs.Ytnimpcffagidoaa.K
