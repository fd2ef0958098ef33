/-
  More of the ledger: what was known then, where ledgers differ, what was changed; and the answers for adding, checking and all of these.
-/
import Derived.Test.YtnimpcffagidoaaL5
import Derived.KernelRfl
set_option linter.unusedSimpArgs false
set_option linter.unusedVariables false
namespace Go.Proofs.Ytnimpcffagidoaa.K
open Go.RowKit
noncomputable section
def dayOk (l : Ledger) (_d : Int) : Bool := daysOk l
def knownV (l : Ledger) (d : Int) : Int := maxK ((decs l.1).take (cnt (decs l.1) d))
def thenV (l : Ledger) (d : Int) : Ledger := (((decs l.1).take (cnt (decs l.1) d)).map und, ())
def sp_ledger_Known : Ent := spec (.pr tyLedger (.pr tI .nil)) (fun x => (dayOk x.1 x.2.1)) (fun x => (.t tI (knownV x.1 x.2.1)))
theorem en_ledger_Known : Entered Try.prog 28 := ⟨_, Try.func28, by kernel_rfl, by kernel_rfl⟩
def sp_ledger_Then : Ent := spec (.pr tyLedger (.pr tI .nil)) (fun x => (dayOk x.1 x.2.1)) (fun x => (.t tyLedger (thenV x.1 x.2.1)))
theorem en_ledger_Then : Entered Try.prog 34 := ⟨_, Try.func34, by kernel_rfl, by kernel_rfl⟩
theorem ms_ledger_Known : Meets Try.prog 28 (strip sp_ledger_Known) := meets_calls fun x hok X w σ vs hfin hc => by
  simp only [dayOk, daysOk, lenOk, Bool.and_eq_true, decide_eq_true_eq] at hok
  simp only [Ty.canon] at hc
  obtain ⟨A, c, us, rfl, hl, k1⟩ := arg_led hc
  obtain ⟨us, rfl, k2⟩ := arg_int k1
  simp only [V.ds, Cs] at k2
  subst k2
  refine (known_any A c (decs x.1.1) _ w hl hok.1 (by simpa using hok.2)).mono ?_
  rintro r w' ⟨rfl, hb⟩
  exact ⟨_, rfl, c_int _, hb⟩
theorem ms_ledger_Then : Meets Try.prog 34 (strip sp_ledger_Then) := meets_calls fun x hok X w σ vs hfin hc => by
  simp only [dayOk, daysOk, lenOk, Bool.and_eq_true, decide_eq_true_eq] at hok
  simp only [Ty.canon] at hc
  obtain ⟨A, c, us, rfl, hl, k1⟩ := arg_led hc
  obtain ⟨us, rfl, k2⟩ := arg_int k1
  simp only [V.ds, Cs] at k2
  subst k2
  refine (then_any A c (decs x.1.1) _ w hl hok.1 (by simpa using hok.2)).mono ?_
  rintro r w' ⟨sv, rfl, ho, hb⟩
  exact ⟨_, rfl, c_led (c_of_own ho hfin), hb⟩

/-! Differ of the program -/
def cpl : List Decision → List Decision → Nat
  | x :: a, y :: b => if x == y then cpl a b + 1 else 0
  | _, _ => 0
theorem cpl_spec : ∀ (a b : List Decision), cpl a b ≤ a.length ∧ cpl a b ≤ b.length ∧ (match diffAt a b with | some k => k = cpl a b ∧ ¬ (cpl a b = a.length ∧ cpl a b = b.length) | none => cpl a b = a.length ∧ cpl a b = b.length)
  | [], [] => by simp [cpl, diffAt]
  | [], _ :: _ => by simp [cpl, diffAt]
  | _ :: _, [] => by simp [cpl, diffAt]
  | x :: a, y :: b => by
    have h := cpl_spec a b
    simp only [cpl, diffAt]
    cases hq : x == y with
    | false => simp
    | true =>
      simp only [if_true, List.length_cons]
      refine ⟨by omega, by omega, ?_⟩
      cases hd : diffAt a b with
      | none => rw [hd] at h; simp only [Option.map_none] at h ⊢; omega
      | some k => rw [hd] at h; simp only [Option.map_some] at h ⊢; omega
theorem cpl_drop {a b : List Decision} {k : Nat} (h1 : k < a.length) (h2 : k < b.length) : cpl (a.drop k) (b.drop k) = if a[k] == b[k] then cpl (a.drop (k + 1)) (b.drop (k + 1)) + 1 else 0 := by
  rw [List.drop_eq_getElem_cons h1, List.drop_eq_getElem_cons h2]
  rfl
theorem cpl_nil {a b : List Decision} (h : a = [] ∨ b = []) : cpl a b = 0 := by
  rcases h with rfl | rfl
  · cases b <;> rfl
  · cases a <;> rfl
def dr_ledger_Differ_0 : List DO := [(.mk (.mk (some 9) none (.m (.pu (.fa 0 (.t 2))))) []), (.mk (.mk (some 10) none (.m (.ld false 1 (.t 9)))) [0]), (.mk (.mk (some 11) none (.m (.pu (.fa 0 (.t 3))))) []), (.mk (.mk (some 12) none (.m (.ld false 1 (.t 11)))) [2]), (.mk (.mk (some 6) none (.m (.pu (.mv (.t 10))))) [1, 0, 1]), (.mk (.mk (some 7) none (.m (.pu (.mv (.t 12))))) [3, 4, 0, 1, 2, 3, 4])]
def dr_ledger_Differ_1 : List DO := [(.mk (.mk (some 13) none (.m (.pu (.mv (.t 8))))) []), (.mk (.mk (some 14) none (.m (.pu (.mv (.t 6))))) []), (.mk (.mk (some 15) none (.m (.pu (.len false (.t 14))))) [1]), (.mk (.mk (some 16) none (.m (.pu (.bin false .lss (.t 13) (.t 15))))) [0, 2]), (.mk (.mk (some 17) none (.m (.pu (.mv (.t 16))))) [3]), (.mk (.mk (some 18) (some (17, true)) (.m (.pu (.mv (.t 8))))) [4]), (.mk (.mk (some 19) (some (17, true)) (.m (.pu (.mv (.t 7))))) [4]), (.mk (.mk (some 20) (some (17, true)) (.m (.pu (.len false (.t 19))))) [6, 4]), (.mk (.mk (some 21) (some (17, true)) (.m (.pu (.bin false .lss (.t 18) (.t 20))))) [5, 7, 4]), (.mk (.mk (some 22) none (.m (.pu (.pick (.t 17) (.t 21) (.c (.v (.bool false))))))) [4, 8]), (.mk (.mk (some 23) none (.m (.pu (.mv (.t 22))))) [9, 4]), (.mk (.mk (some 24) (some (23, true)) (.m (.pu (.mv (.t 6))))) [10]), (.mk (.mk (some 25) (some (23, true)) (.m (.pu (.mv (.t 8))))) [10]), (.mk (.mk (some 26) (some (23, true)) (.m (.pu (.ix 5 (.t 24) (.t 25))))) [11, 12, 10]), (.mk (.mk (some 27) (some (23, true)) (.m (.ld true 5 (.t 26)))) [13, 10]), (.mk (.mk (some 28) (some (23, true)) (.m (.pu (.mv (.t 7))))) [10]), (.mk (.mk (some 29) (some (23, true)) (.m (.pu (.mv (.t 8))))) [10]), (.mk (.mk (some 30) (some (23, true)) (.m (.pu (.ix 5 (.t 28) (.t 29))))) [15, 16, 10]), (.mk (.mk (some 31) (some (23, true)) (.m (.ld true 5 (.t 30)))) [17, 10]), (.mk (.mk (some 32) (some (23, true)) (.m (.pu (.eqs false [0, 0, 0, 0, 0] (.t 27) (.t 31))))) [14, 18, 10]), (.mk (.mk (some 33) none (.m (.pu (.pick (.t 23) (.t 32) (.c (.v (.bool false))))))) [10, 19])]
def fg_ledger_Differ_0 : Fg := ⟨[(6, some (.sl tyDecision)), (7, some (.sl tyDecision)), (8, some tI)], []⟩
def tb_ledger_Differ_0 : TC := (.sq (.sq (.dr dr_ledger_Differ_1 [(0, []), (1, []), (2, []), (3, []), (4, []), (5, []), (6, []), (7, []), (8, []), (9, []), (10, []), (11, []), (12, []), (13, []), (14, []), (15, []), (16, []), (17, []), (18, []), (19, []), (20, [])] (.of [0, 1, 2, 3, 4, 5, 6, 7, 8, 9, 10, 11, 12, 13, 14, 15, 16, 17, 18, 19, 20])) (.cd (.t 33) .sk (.fg ⟨[(6, some (.sl tyDecision)), (7, some (.sl tyDecision)), (8, some tI)], []⟩ (.ex 0)))) (.bk 1 (.reg [(.mk (some 34) none (.m (.pu (.mv (.t 8))))), (.mk (some 35) none (.m (.pu (.bin false .add (.t 34) (.c (.v (.int .i64 1))))))), (.mk (some 8) none (.m (.pu (.mv (.t 35)))))])))
/-- cipherplan/ledger.Differ -/
def tc_ledger_Differ : TC := (.sq (.reg [(.mk (some 2) none (.m (.box (.t 0)))), (.mk (some 3) none (.m (.box (.t 1)))), (.mk (some 4) none (.m (.pu (.mv (.c (.v (.int .i64 0))))))), (.mk (some 5) none (.m (.pu (.mv (.c (.v (.bool false)))))))]) (.sq (.dr dr_ledger_Differ_0 [(0, [2]), (1, [2]), (2, [3]), (3, [3]), (4, []), (5, [])] (.of [0, 1, 2, 3, 4, 5])) (.sq (.reg [(.mk (some 8) none (.m (.pu (.mv (.c (.v (.int .i64 0)))))))]) (.sq (.bk 0 (.lp 0 fg_ledger_Differ_0 tb_ledger_Differ_0)) (.sq (.sq (.reg [(.mk (some 36) none (.m (.pu (.mv (.t 8))))), (.mk (some 37) none (.m (.pu (.mv (.t 6))))), (.mk (some 38) none (.m (.pu (.len false (.t 37))))), (.mk (some 39) none (.m (.pu (.bin false .eql (.t 36) (.t 38))))), (.mk (some 40) none (.m (.pu (.mv (.t 39))))), (.mk (some 41) (some (40, true)) (.m (.pu (.mv (.t 8))))), (.mk (some 42) (some (40, true)) (.m (.pu (.mv (.t 7))))), (.mk (some 43) (some (40, true)) (.m (.pu (.len false (.t 42))))), (.mk (some 44) (some (40, true)) (.m (.pu (.bin false .eql (.t 41) (.t 43))))), (.mk (some 45) none (.m (.pu (.pick (.t 40) (.t 44) (.c (.v (.bool false)))))))]) (.cd (.t 45) (.sq (.reg [(.mk (some 4) none (.m (.pu (.mv (.c (.v (.int .i64 0))))))), (.mk (some 5) none (.m (.pu (.mv (.c (.v (.bool false)))))))]) .rt) .sk)) (.sq (.reg [(.mk (some 46) none (.m (.pu (.mv (.t 8))))), (.mk (some 4) none (.m (.pu (.mv (.t 46))))), (.mk (some 5) none (.m (.pu (.mv (.c (.v (.bool true)))))))]) .rt))))))
def rv_ledger_Differ : List (RV × Option Ty) := [((.t 4), some tI), ((.t 5), some .bool)]
abbrev sh_ledger_Differ_0 : Sh := ⟨[(6, .ty (.sl tyDecision)), (7, .ty (.sl tyDecision)), (8, .ty tI)], []⟩
def st_ledger_Differ_0 (x6 : (List Decision)) (x7 : (List Decision)) (x8 : Int) : VS := sh_ledger_Differ_0.st (x6, x7, x8, ()) ()
abbrev sh_ledger_Differ_0_e0 : Sh := ⟨[(6, .ty (.sl tyDecision)), (7, .ty (.sl tyDecision)), (8, .ty tI)], []⟩
def st_ledger_Differ_0_e0 (x6 : (List Decision)) (x7 : (List Decision)) (x8 : Int) : VS := sh_ledger_Differ_0_e0.st (x6, x7, x8, ()) ()
-- loop 0: (x6 : (List Decision)) (x7 : (List Decision)) (x8 : Int); out: ('exit', 0) (x6 : (List Decision)) (x7 : (List Decision)) (x8 : Int)
def L_ledger_Differ_0 : VS → Option (Bool × List (Bool × Exit × VS)) := mkL sh_ledger_Differ_0 (fun x y => (decide (0 ≤ x.2.2.1 ∧ x.1.length ≤ 100000 ∧ x.2.1.length ≤ 100000))) (fun x y => [(true, .exit 0, st_ledger_Differ_0_e0 (x.1) (x.2.1) (x.2.2.1 + (cpl (x.1.drop x.2.2.1.toNat) (x.2.1.drop x.2.2.1.toNat) : Nat)))])
def g_ledger_Differ : G := ⟨TYs, [], 47, EL [], keeps, (Ls [L_ledger_Differ_0])⟩
def b_ledger_Differ_0 (x6 : (List Decision)) (x7 : (List Decision)) (x8 : Int) : Option (Exit × VS) :=
  br ((ilt x8 (llen x6)))
    (br ((ilt x8 (llen x7)))
      (br (cIx x6 x8)
        (br (cIx x7 x8)
          (br ((and (ieq ((lgt tyDecision x6 (Int.toNat x8)).1) ((lgt tyDecision x7 (Int.toNat x8)).1)) (and (ieq (((lgt tyDecision x6 (Int.toNat x8)).2).1) (((lgt tyDecision x7 (Int.toNat x8)).2).1)) (and (ieq ((((lgt tyDecision x6 (Int.toNat x8)).2).2).1) ((((lgt tyDecision x7 (Int.toNat x8)).2).2).1)) (and (ieq (((((lgt tyDecision x6 (Int.toNat x8)).2).2).2).1) (((((lgt tyDecision x7 (Int.toNat x8)).2).2).2).1)) (and (ieq ((((((lgt tyDecision x6 (Int.toNat x8)).2).2).2).2).1) ((((((lgt tyDecision x7 (Int.toNat x8)).2).2).2).2).1)) true))))))
            (some (.normal, st_ledger_Differ_0 x6 x7 (iadd .i64 x8 1)))
            (some (.exit 0, st_ledger_Differ_0_e0 x6 x7 x8)))
          (none))
        (none))
      (some (.exit 0, st_ledger_Differ_0_e0 x6 x7 x8)))
    (some (.exit 0, st_ledger_Differ_0_e0 x6 x7 x8))
noncomputable def lp_ledger_Differ_0 (x6 : (List Decision)) (x7 : (List Decision)) (x8 : Int) : Option (Exit × VS) := loopF (roundF g_ledger_Differ fg_ledger_Differ_0 tb_ledger_Differ_0) (st_ledger_Differ_0 x6 x7 x8)
noncomputable def n_ledger_Differ_0 (x6 : (List Decision)) (x7 : (List Decision)) (x8 : Int) : Option (Exit × VS) :=
  br ((ilt x8 (llen x6)))
    (br ((ilt x8 (llen x7)))
      (br (cIx x6 x8)
        (br (cIx x7 x8)
          (br ((and (ieq ((lgt tyDecision x6 (Int.toNat x8)).1) ((lgt tyDecision x7 (Int.toNat x8)).1)) (and (ieq (((lgt tyDecision x6 (Int.toNat x8)).2).1) (((lgt tyDecision x7 (Int.toNat x8)).2).1)) (and (ieq ((((lgt tyDecision x6 (Int.toNat x8)).2).2).1) ((((lgt tyDecision x7 (Int.toNat x8)).2).2).1)) (and (ieq (((((lgt tyDecision x6 (Int.toNat x8)).2).2).2).1) (((((lgt tyDecision x7 (Int.toNat x8)).2).2).2).1)) (and (ieq ((((((lgt tyDecision x6 (Int.toNat x8)).2).2).2).2).1) ((((((lgt tyDecision x7 (Int.toNat x8)).2).2).2).2).1)) true))))))
            (lp_ledger_Differ_0 x6 x7 (iadd .i64 x8 1))
            (some (.exit 0, st_ledger_Differ_0_e0 x6 x7 x8)))
          (none))
        (none))
      (some (.exit 0, st_ledger_Differ_0_e0 x6 x7 x8)))
    (some (.exit 0, st_ledger_Differ_0_e0 x6 x7 x8))
def la_ledger_Differ_0 (x6 : (List Decision)) (x7 : (List Decision)) (x8 : Int) : Option (Exit × VS) := some (.exit 0, st_ledger_Differ_0_e0 (x6) (x7) (x8 + (cpl (x6.drop x8.toNat) (x7.drop x8.toNat) : Nat)))
theorem be_ledger_Differ_0 (x6 : (List Decision)) (x7 : (List Decision)) (x8 : Int) : roundF g_ledger_Differ fg_ledger_Differ_0 tb_ledger_Differ_0 (st_ledger_Differ_0 x6 x7 x8) = b_ledger_Differ_0 x6 x7 x8 := by kernel_rfl
theorem ln_ledger_Differ_0 (x6 : (List Decision)) (x7 : (List Decision)) (x8 : Int) : lp_ledger_Differ_0 x6 x7 x8 = n_ledger_Differ_0 x6 x7 x8 := (loopF_nxt _ _).trans (by
  rw [be_ledger_Differ_0]
  simp only [b_ledger_Differ_0, n_ledger_Differ_0, nxt_br, nxt_n, nxt_r, nxt_e, nxt_0]
  rfl)
def r_ledger_Differ (p0 : Ledger) (p1 : Ledger) : Option (V × List VO) :=
  br ((decide (0 ≤ (0 : Int) ∧ p0.1.length ≤ 100000 ∧ p1.1.length ≤ 100000)))
    (br ((ieq ((0 : Int) + (cpl (p0.1.drop (0 : Int).toNat) (p1.1.drop (0 : Int).toNat) : Nat)) (llen (p0.1))))
      (br ((ieq ((0 : Int) + (cpl (p0.1.drop (0 : Int).toNat) (p1.1.drop (0 : Int).toNat) : Nat)) (llen (p1.1))))
        (some (.tu [(.t tI 0), (.t .bool false)], []))
        (some (.tu [(.t tI ((0 : Int) + (cpl (p0.1.drop (0 : Int).toNat) (p1.1.drop (0 : Int).toNat) : Nat))), (.t .bool true)], [])))
      (some (.tu [(.t tI ((0 : Int) + (cpl (p0.1.drop (0 : Int).toNat) (p1.1.drop (0 : Int).toNat) : Nat))), (.t .bool true)], [])))
    (none)
theorem e_ledger_Differ (p0 : Ledger) (p1 : Ledger) : runF g_ledger_Differ tc_ledger_Differ rv_ledger_Differ false [.t tyLedger p0, .t tyLedger p1] [] = r_ledger_Differ p0 p1 := by kernel_rfl
theorem ok_ledger_Differ : Option.map (trC Try.prog) Try.f35.body = some tc_ledger_Differ.er := by kernel_rfl
theorem rok_ledger_Differ : trVs Try.prog Try.f35.results.toList = some (rv_ledger_Differ.map Prod.fst) := by kernel_rfl
theorem en_ledger_Differ : Entered Try.prog 35 := ⟨_, Try.func35, by kernel_rfl, by kernel_rfl⟩
theorem gk_ledger_Differ : GOk Try.prog g_ledger_Differ := gok_of _ (fun p hp => by cases hp)
theorem l_ledger_Differ_0 (x6 : (List Decision)) (x7 : (List Decision)) (x8 : Int) (h : (decide (0 ≤ x8 ∧ x6.length ≤ 100000 ∧ x7.length ≤ 100000)) = true) : lp_ledger_Differ_0 x6 x7 x8 = la_ledger_Differ_0 x6 x7 x8 := by
  simp only [decide_eq_true_eq] at h
  obtain ⟨h1, h2, h3⟩ := h
  obtain ⟨k, rfl⟩ := Int.eq_ofNat_of_zero_le h1
  induction hn : x6.length - k generalizing k with
  | zero =>
    rw [ln_ledger_Differ_0]
    have e1 : ¬ k < x6.length := by omega
    have e2 : x6.drop k = [] := List.drop_eq_nil_of_le (by omega)
    simp only [n_ledger_Differ_0, llen, ilt_nat, e1, decide_false, br_false, la_ledger_Differ_0, Int.toNat_natCast, cpl_nil (.inl e2), Int.natCast_zero, Int.add_zero]
  | succ n ih =>
    rw [ln_ledger_Differ_0]
    have e1 : k < x6.length := by omega
    by_cases e2 : k < x7.length
    · simp only [n_ledger_Differ_0, llen, ilt_nat, cIx_nat, e1, e2, decide_true, br_true, Int.toNat_natCast, eq_five, add1 (show k < 4611686018427387904 by omega), lgt_get (y := tyDecision) e1, lgt_get (y := tyDecision) e2]
      rw [ih (k + 1) (by omega) (by omega)]
      simp only [la_ledger_Differ_0, Int.toNat_natCast, cpl_drop e1 e2]
      cases x6[k] == x7[k] with
      | true => simp only [br_true, if_true, Int.natCast_add, Int.natCast_one]; congr 3; omega
      | false => simp [br_false]
    · have e3 : x7.drop k = [] := List.drop_eq_nil_of_le (by omega)
      simp only [n_ledger_Differ_0, llen, ilt_nat, e1, e2, decide_true, decide_false, br_true, br_false, la_ledger_Differ_0, Int.toNat_natCast, cpl_nil (.inr e3), Int.natCast_zero, Int.add_zero]
theorem lo_ledger_Differ_0 : ∀ S l p, g_ledger_Differ.L 0 (fgt fg_ledger_Differ_0 S) = some (true, l) → pickA l = some p → loopF (roundF g_ledger_Differ fg_ledger_Differ_0 tb_ledger_Differ_0) S = some p :=
  lok_of (s := sh_ledger_Differ_0) ⟨by decide, by decide⟩ (by kernel_rfl) fun x y hok p hp => by
  simp only [pickA_br, pickA_one] at hp
  exact (l_ledger_Differ_0 x.1 x.2.1 x.2.2.1 (by simpa using hok)).trans hp
theorem lk_ledger_Differ : tc_ledger_Differ.lok g_ledger_Differ := by
  repeat (first | exact trivial | exact lo_ledger_Differ_0 | refine ⟨?_, ?_⟩)
theorem s_ledger_Differ (a b : Ledger) (h : sameOk a b = true) : r_ledger_Differ a b = some (.tu [.t tI (differV a b).1, .t .bool (differV a b).2], []) := by
  have e1 : decide ((0 : Int) ≤ 0 ∧ a.1.length ≤ 100000 ∧ b.1.length ≤ 100000) = true := by
    simp only [sameOk, decide_eq_true_eq] at h
    simpa using h
  have hs := cpl_spec a.1 b.1
  simp only [r_ledger_Differ, e1, br_true, Int.toNat_zero, List.drop_zero, Int.zero_add, llen, ieq_nat, differV]
  cases hd : diffAt a.1 b.1 with
  | none =>
    rw [hd] at hs
    rw [dec_true hs.2.2.1, br_true, dec_true hs.2.2.2, br_true]
  | some k =>
    rw [hd] at hs
    obtain ⟨h1, h2, h3, h4⟩ := hs
    subst h3
    by_cases q1 : cpl a.1 b.1 = a.1.length
    · have q2 : ¬ cpl a.1 b.1 = b.1.length := fun q2 => h4 ⟨q1, q2⟩
      simp only [q1, decide_true, br_true]
      rw [q1] at q2
      simp only [q2, decide_false, br_false]
    · simp only [q1, decide_false, br_false]
def sp_ledger_Differ : Ent := spec (.pr tyLedger (.pr tyLedger .nil)) (fun x => (sameOk x.1 x.2.1)) (fun x => (.tu [(.t tI ((differV x.1 x.2.1).1)), (.t .bool ((differV x.1 x.2.1).2))]))
theorem ms_ledger_Differ : Meets Try.prog 35 (strip sp_ledger_Differ) := by
  obtain ⟨c, hc, hi⟩ := Option.map_eq_some_iff.1 ok_ledger_Differ
  exact meets_spec (R := runF g_ledger_Differ tc_ledger_Differ rv_ledger_Differ false) (meets_of Try.func35 hc hi Try.ntmps35 rok_ledger_Differ gk_ledger_Differ lk_ledger_Differ mixed) fun x hok => (e_ledger_Differ x.1 x.2.1).trans (s_ledger_Differ x.1 x.2.1 hok)

/-! what was changed -/
def chg (k s : Int) : Int → Int → List Decision → List Int
  | _, _, [] => []
  | i, last, d :: l => if d.2.2.1 ≠ k ∨ d.2.2.2.1 ≠ s then chg k s (i + 1) last l else if d.2.2.2.2.1 ≠ last then i :: chg k s (i + 1) d.2.2.2.2.1 l else chg k s (i + 1) d.2.2.2.2.1 l
def changedV (l : Ledger) (k s : Int) : List Int := chg k s 0 (-1) l.1
def changedOk (l : Ledger) (_k _s : Int) : Bool := lenOk l && l.1.all fun d => decide (0 ≤ d.2.2.2.2.1)
theorem chg_drop {k s i last : Int} {l : List Decision} {j : Nat} (h : j < l.length) : chg k s i last (l.drop j) = if l[j].2.2.1 ≠ k ∨ l[j].2.2.2.1 ≠ s then chg k s (i + 1) last (l.drop (j + 1)) else if l[j].2.2.2.2.1 ≠ last then i :: chg k s (i + 1) l[j].2.2.2.2.1 (l.drop (j + 1)) else chg k s (i + 1) l[j].2.2.2.2.1 (l.drop (j + 1)) := by
  rw [List.drop_eq_getElem_cons h]
  rfl
def fg_ledger_Changed_0 : Fg := ⟨[(1, some tI), (2, some tI), (7, none), (8, some tI), (12, some (.sl tyDecision)), (13, some tI), (14, some tI)], [(7, none), (36, none)]⟩
def tb_ledger_Changed_0 : TC := (.sq (.reg [(.mk (some 15) none (.m (.pu (.bin false .lss (.t 14) (.t 13)))))]) (.sq (.cd (.t 15) .sk (.fg ⟨[(7, none)], [(7, none), (36, none)]⟩ (.ex 0))) (.sq (.bk 1 (.sq (.reg [(.mk (some 16) none (.m (.pu (.mv (.t 14))))), (.mk (some 17) none (.m (.pu (.ix 5 (.t 12) (.t 14))))), (.mk (some 18) none (.m (.ld true 5 (.t 17)))), (.mk (some 10) none (.m (.new [(.v (.int .i64 0)), (.v (.int .i64 0)), (.v (.int .i64 0)), (.v (.int .i64 0)), (.v (.int .i64 0))]))), (.mk (some 9) none (.m (.pu (.mv (.t 16))))), (.mk none none (.m (.st 5 (.t 10) (.t 18))))]) (.sq (.sq (.reg [(.mk (some 19) none (.m (.pu (.fa 2 (.t 10))))), (.mk (some 20) none (.m (.ld false 1 (.t 19)))), (.mk (some 21) none (.m (.pu (.mv (.t 1))))), (.mk (some 22) none (.m (.pu (.bin false .neq (.t 20) (.t 21))))), (.mk (some 23) none (.m (.pu (.mv (.t 22))))), (.mk (some 24) (some (23, false)) (.m (.pu (.fa 3 (.t 10))))), (.mk (some 25) (some (23, false)) (.m (.ld false 1 (.t 24)))), (.mk (some 26) (some (23, false)) (.m (.pu (.mv (.t 2))))), (.mk (some 27) (some (23, false)) (.m (.pu (.bin false .neq (.t 25) (.t 26))))), (.mk (some 28) none (.m (.pu (.pick (.t 23) (.c (.v (.bool true))) (.t 27)))))]) (.cd (.t 28) (.fg ⟨[(1, some tI), (2, some tI), (7, none), (8, some tI), (12, some (.sl tyDecision)), (13, some tI), (14, some tI)], [(7, none), (36, none)]⟩ (.ex 1)) .sk)) (.sq (.sq (.reg [(.mk (some 29) none (.m (.pu (.fa 4 (.t 10))))), (.mk (some 30) none (.m (.ld false 1 (.t 29)))), (.mk (some 31) none (.m (.pu (.mv (.t 8))))), (.mk (some 32) none (.m (.pu (.bin false .neq (.t 30) (.t 31)))))]) (.cd (.t 32) (.reg [(.mk (some 33) none (.m (.pu (.mv (.t 7))))), (.mk (some 34) none (.m (.pu (.mv (.t 9))))), (.mk (some 35) none (.m (.bs 3 1 1 [(.v (.int .i64 0))] [(0, 1, (.t 34))]))), (.mk (some 36) none (.m (.app 3 1 8 (.t 33) (.t 35)))), (.mk (some 7) none (.m (.pu (.mv (.t 36)))))]) .sk)) (.reg [(.mk (some 37) none (.m (.pu (.fa 4 (.t 10))))), (.mk (some 38) none (.m (.ld false 1 (.t 37)))), (.mk (some 8) none (.m (.pu (.mv (.t 38)))))]))))) (.reg [(.mk (some 39) none (.m (.pu (.bin false .add (.t 14) (.c (.v (.int .i64 1))))))), (.mk (some 14) none (.m (.pu (.mv (.t 39)))))]))))
/-- cipherplan/ledger.Changed -/
def tc_ledger_Changed : TC := (.sq (.reg [(.mk (some 3) none (.m (.box (.t 0)))), (.mk (some 6) none (.m (.pu (.mv (.c (.v (.slice none 0 0)))))))]) (.sq (.reg [(.mk (some 7) none (.m (.pu (.mv (.c (.v (.slice none 0 0)))))))]) (.sq (.reg [(.mk (some 8) none (.m (.pu (.mv (.c (.v (.int .i64 (-1))))))))]) (.sq (.sq (.reg [(.mk (some 11) none (.m (.pu (.fa 0 (.t 3))))), (.mk (some 12) none (.m (.ld false 1 (.t 11)))), (.mk (some 13) none (.m (.pu (.len false (.t 12))))), (.mk (some 14) none (.m (.pu (.mv (.c (.v (.int .i64 0)))))))]) (.bk 0 (.nw 7 3 (.lp 0 fg_ledger_Changed_0 tb_ledger_Changed_0)))) (.sq (.reg [(.mk (some 40) none (.m (.pu (.mv (.t 7))))), (.mk (some 6) none (.m (.pu (.mv (.t 40)))))]) .rt)))))
def rv_ledger_Changed : List (RV × Option Ty) := [((.t 6), some (.sl tI))]
abbrev sh_ledger_Changed_0 : Sh := ⟨[(1, .ty tI), (2, .ty tI), (7, .ms 7), (8, .ty tI), (12, .ty (.sl tyDecision)), (13, .ty tI), (14, .ty tI)], [(7, .arr 3 tI), (36, .no)]⟩
def st_ledger_Changed_0 (x1 : Int) (x2 : Int) (x8 : Int) (x12 : (List Decision)) (x13 : Int) (x14 : Int) (y7 : (List Int)) : VS := sh_ledger_Changed_0.st (x1, x2, (), x8, x12, x13, x14, ()) (y7, (), ())
abbrev sh_ledger_Changed_0_e0 : Sh := ⟨[(7, .ms 7)], [(7, .arr 3 tI), (36, .no)]⟩
def st_ledger_Changed_0_e0 (y7 : (List Int)) : VS := sh_ledger_Changed_0_e0.st ((), ()) (y7, (), ())
-- loop 0: (x1 : Int) (x2 : Int) (x8 : Int) (x12 : (List Decision)) (x13 : Int) (x14 : Int) (y7 : (List Int)); out: ('exit', 0) (y7 : (List Int))
def L_ledger_Changed_0 : VS → Option (Bool × List (Bool × Exit × VS)) := mkL sh_ledger_Changed_0 (fun x y => (rngOk x.2.2.2.2.1 x.2.2.2.2.2.1 x.2.2.2.2.2.2.1 && decide (y.1.length ≤ x.2.2.2.2.2.2.1))) (fun x y => [(true, .exit 0, st_ledger_Changed_0_e0 (y.1 ++ chg x.1 x.2.1 x.2.2.2.2.2.2.1 x.2.2.2.1 (x.2.2.2.2.1.drop x.2.2.2.2.2.2.1.toNat)))])
def g_ledger_Changed : G := ⟨TYs, [], 41, EL [], keeps, (Ls [L_ledger_Changed_0])⟩
def b_ledger_Changed_0 (x1 : Int) (x2 : Int) (x8 : Int) (x12 : (List Decision)) (x13 : Int) (x14 : Int) (y7 : (List Int)) : Option (Exit × VS) :=
  br ((ilt x14 x13))
    (br (cIx x12 x14)
      (br ((ine ((((lgt tyDecision x12 (Int.toNat x14)).2).2).1) x1))
        (some (.normal, st_ledger_Changed_0 x1 x2 x8 x12 x13 (iadd .i64 x14 1) y7))
        (br ((ine (((((lgt tyDecision x12 (Int.toNat x14)).2).2).2).1) x2))
          (some (.normal, st_ledger_Changed_0 x1 x2 x8 x12 x13 (iadd .i64 x14 1) y7))
          (br ((ine ((((((lgt tyDecision x12 (Int.toNat x14)).2).2).2).2).1) x8))
            (br (cApp y7 ([x14]) 8)
              (some (.normal, st_ledger_Changed_0 x1 x2 ((((((lgt tyDecision x12 (Int.toNat x14)).2).2).2).2).1) x12 x13 (iadd .i64 x14 1) (y7 ++ ([x14]))))
              (none))
            (some (.normal, st_ledger_Changed_0 x1 x2 ((((((lgt tyDecision x12 (Int.toNat x14)).2).2).2).2).1) x12 x13 (iadd .i64 x14 1) y7)))))
      (none))
    (some (.exit 0, st_ledger_Changed_0_e0 y7))
noncomputable def lp_ledger_Changed_0 (x1 : Int) (x2 : Int) (x8 : Int) (x12 : (List Decision)) (x13 : Int) (x14 : Int) (y7 : (List Int)) : Option (Exit × VS) := loopF (roundF g_ledger_Changed fg_ledger_Changed_0 tb_ledger_Changed_0) (st_ledger_Changed_0 x1 x2 x8 x12 x13 x14 y7)
noncomputable def n_ledger_Changed_0 (x1 : Int) (x2 : Int) (x8 : Int) (x12 : (List Decision)) (x13 : Int) (x14 : Int) (y7 : (List Int)) : Option (Exit × VS) :=
  br ((ilt x14 x13))
    (br (cIx x12 x14)
      (br ((ine ((((lgt tyDecision x12 (Int.toNat x14)).2).2).1) x1))
        (lp_ledger_Changed_0 x1 x2 x8 x12 x13 (iadd .i64 x14 1) y7)
        (br ((ine (((((lgt tyDecision x12 (Int.toNat x14)).2).2).2).1) x2))
          (lp_ledger_Changed_0 x1 x2 x8 x12 x13 (iadd .i64 x14 1) y7)
          (br ((ine ((((((lgt tyDecision x12 (Int.toNat x14)).2).2).2).2).1) x8))
            (br (cApp y7 ([x14]) 8)
              (lp_ledger_Changed_0 x1 x2 ((((((lgt tyDecision x12 (Int.toNat x14)).2).2).2).2).1) x12 x13 (iadd .i64 x14 1) (y7 ++ ([x14])))
              (none))
            (lp_ledger_Changed_0 x1 x2 ((((((lgt tyDecision x12 (Int.toNat x14)).2).2).2).2).1) x12 x13 (iadd .i64 x14 1) y7))))
      (none))
    (some (.exit 0, st_ledger_Changed_0_e0 y7))
def la_ledger_Changed_0 (x1 : Int) (x2 : Int) (x8 : Int) (x12 : (List Decision)) (x13 : Int) (x14 : Int) (y7 : (List Int)) : Option (Exit × VS) := some (.exit 0, st_ledger_Changed_0_e0 (y7 ++ chg x1 x2 x14 x8 (x12.drop x14.toNat)))
theorem be_ledger_Changed_0 (x1 : Int) (x2 : Int) (x8 : Int) (x12 : (List Decision)) (x13 : Int) (x14 : Int) (y7 : (List Int)) : roundF g_ledger_Changed fg_ledger_Changed_0 tb_ledger_Changed_0 (st_ledger_Changed_0 x1 x2 x8 x12 x13 x14 y7) = b_ledger_Changed_0 x1 x2 x8 x12 x13 x14 y7 := by kernel_rfl
theorem ln_ledger_Changed_0 (x1 : Int) (x2 : Int) (x8 : Int) (x12 : (List Decision)) (x13 : Int) (x14 : Int) (y7 : (List Int)) : lp_ledger_Changed_0 x1 x2 x8 x12 x13 x14 y7 = n_ledger_Changed_0 x1 x2 x8 x12 x13 x14 y7 := (loopF_nxt _ _).trans (by
  rw [be_ledger_Changed_0]
  simp only [b_ledger_Changed_0, n_ledger_Changed_0, nxt_br, nxt_n, nxt_r, nxt_e, nxt_0]
  rfl)
def r_ledger_Changed (p0 : Ledger) (p1 : Int) (p2 : Int) : Option (V × List VO) :=
  br ((rngOk p0.1 (llen p0.1) (0 : Int) && decide (([] : List Int).length ≤ (0 : Int))))
    (some (.t (.sl tI) (([] : List Int) ++ chg p1 p2 (0 : Int) (-1) (p0.1.drop (0 : Int).toNat)), []))
    (none)
theorem e_ledger_Changed (p0 : Ledger) (p1 : Int) (p2 : Int) : runF g_ledger_Changed tc_ledger_Changed rv_ledger_Changed false [.t tyLedger p0, .t tI p1, .t tI p2] [] = r_ledger_Changed p0 p1 p2 := by kernel_rfl
theorem ok_ledger_Changed : Option.map (trC Try.prog) Try.f33.body = some tc_ledger_Changed.er := by kernel_rfl
theorem rok_ledger_Changed : trVs Try.prog Try.f33.results.toList = some (rv_ledger_Changed.map Prod.fst) := by kernel_rfl
theorem en_ledger_Changed : Entered Try.prog 33 := ⟨_, Try.func33, by kernel_rfl, by kernel_rfl⟩
theorem gk_ledger_Changed : GOk Try.prog g_ledger_Changed := gok_of _ (fun p hp => by cases hp)
theorem l_ledger_Changed_0 (x1 : Int) (x2 : Int) (x8 : Int) (x12 : (List Decision)) (x13 : Int) (x14 : Int) (y7 : (List Int)) (h : (rngOk x12 x13 x14 && decide (y7.length ≤ x14)) = true) : lp_ledger_Changed_0 x1 x2 x8 x12 x13 x14 y7 = la_ledger_Changed_0 x1 x2 x8 x12 x13 x14 y7 := by
  simp only [Bool.and_eq_true, decide_eq_true_eq] at h
  obtain ⟨h0, h4⟩ := h
  obtain ⟨rfl, h3, k, rfl, hk⟩ := rng_k h0
  clear h0
  revert x8 y7
  refine range_ind x12 (fun k => ∀ x8 y7, y7.length ≤ (k : Int) → lp_ledger_Changed_0 x1 x2 x8 x12 (x12.length : Int) (k : Int) y7 = la_ledger_Changed_0 x1 x2 x8 x12 (x12.length : Int) (k : Int) y7) ?_ ?_ k hk
  · intro x8 y7 _
    rw [ln_ledger_Changed_0]
    simp [n_ledger_Changed_0, la_ledger_Changed_0, ilt_nat, br_false, chg]
  · intro k hk ih x8 y7 hy
    rw [ln_ledger_Changed_0]
    have e1 : cApp y7 [(k : Int)] 8 = true := cApp_ok (by simp only [List.length_singleton]; omega) (by decide)
    have i1 := ih x8 y7 (by omega)
    have i2 := ih x12[k].2.2.2.2.1 y7 (by omega)
    have i3 := ih x12[k].2.2.2.2.1 (y7 ++ [(k : Int)]) (by simp; omega)
    simp only [n_ledger_Changed_0, ilt_nat, cIx_nat, hk, decide_true, br_true, Int.toNat_natCast, lgt_get (y := tyDecision) hk, add1 (show k < 4611686018427387904 by omega), e1, i1, i2, i3]
    simp only [la_ledger_Changed_0, Int.toNat_natCast, chg_drop hk, ine_dec]
    by_cases q1 : x12[k].2.2.1 = x1 <;> by_cases q2 : x12[k].2.2.2.1 = x2 <;> by_cases q3 : x12[k].2.2.2.2.1 = x8 <;> simp [q1, q2, q3, br_true, br_false, Int.natCast_add]
theorem lo_ledger_Changed_0 : ∀ S l p, g_ledger_Changed.L 0 (fgt fg_ledger_Changed_0 S) = some (true, l) → pickA l = some p → loopF (roundF g_ledger_Changed fg_ledger_Changed_0 tb_ledger_Changed_0) S = some p :=
  lok_of (s := sh_ledger_Changed_0) ⟨by decide, by decide⟩ (by kernel_rfl) fun x y hok p hp => by
  simp only [pickA_br, pickA_one] at hp
  exact (l_ledger_Changed_0 x.1 x.2.1 x.2.2.2.1 x.2.2.2.2.1 x.2.2.2.2.2.1 x.2.2.2.2.2.2.1 y.1 (by simpa using hok)).trans hp
theorem lk_ledger_Changed : tc_ledger_Changed.lok g_ledger_Changed := by
  repeat (first | exact trivial | exact lo_ledger_Changed_0 | refine ⟨?_, ?_⟩)
theorem s_ledger_Changed (l : Ledger) (k s : Int) (h : changedOk l k s = true) : r_ledger_Changed l k s = some (.t (.sl tI) (changedV l k s), []) := by
  simp only [changedOk, lenOk, Bool.and_eq_true, decide_eq_true_eq] at h
  have e1 : (rngOk l.1 (llen l.1) 0 && decide ((([] : List Int).length : Int) ≤ 0)) = true := by simp only [rng_0 h.1, Bool.true_and]; rfl
  simp only [r_ledger_Changed]
  first | (rw [e1]; rfl) | (simp only [e1, br_true]; rfl)
def sp_ledger_Changed : Ent := spec (.pr tyLedger (.pr tI (.pr tI .nil))) (fun x => (changedOk x.1 x.2.1 x.2.2.1)) (fun x => (.t (.sl tI) (changedV x.1 x.2.1 x.2.2.1)))
theorem ms_ledger_Changed : Meets Try.prog 33 (strip sp_ledger_Changed) := by
  obtain ⟨c, hc, hi⟩ := Option.map_eq_some_iff.1 ok_ledger_Changed
  exact meets_spec (R := runF g_ledger_Changed tc_ledger_Changed rv_ledger_Changed false) (meets_of Try.func33 hc hi Try.ntmps33 rok_ledger_Changed gk_ledger_Changed lk_ledger_Changed mixed) fun x hok => (e_ledger_Changed x.1 x.2.1 x.2.2.1).trans (s_ledger_Changed x.1 x.2.1 x.2.2.1 hok)
def lastV (l : List Decision) (j : Int) : Int := if j < 0 then -1 else (lgt tyDecision l j.toNat).2.2.2.2.1
def nnAll (l : List Decision) : Bool := l.all fun d => decide (0 ≤ d.2.2.2.2.1)
def dr_ref41_Changed_0 : List DO := [(.mk (.mk (some 29) none (.m (.pu (.mv (.t 8))))) []), (.mk (.mk (some 30) none (.m (.pu (.bin false .lss (.t 29) (.c (.v (.int .i64 0))))))) [0]), (.mk (.mk (some 31) none (.m (.pu (.mv (.t 30))))) [1]), (.mk (.mk (some 32) (some (31, false)) (.m (.pu (.fa 0 (.t 3))))) [2]), (.mk (.mk (some 33) (some (31, false)) (.m (.ld false 1 (.t 32)))) [3, 2]), (.mk (.mk (some 34) (some (31, false)) (.m (.pu (.mv (.t 8))))) [2]), (.mk (.mk (some 35) (some (31, false)) (.m (.pu (.ix 5 (.t 33) (.t 34))))) [4, 5, 2]), (.mk (.mk (some 36) (some (31, false)) (.m (.pu (.fa 4 (.t 35))))) [6, 2]), (.mk (.mk (some 37) (some (31, false)) (.m (.ld false 1 (.t 36)))) [7, 2]), (.mk (.mk (some 38) (some (31, false)) (.m (.pu (.fa 4 (.t 10))))) [2]), (.mk (.mk (some 39) (some (31, false)) (.m (.ld false 1 (.t 38)))) [9, 2]), (.mk (.mk (some 40) (some (31, false)) (.m (.pu (.bin false .neq (.t 37) (.t 39))))) [8, 10, 2]), (.mk (.mk (some 41) none (.m (.pu (.pick (.t 31) (.c (.v (.bool true))) (.t 40))))) [2, 11])]
def fg_ref41_Changed_0 : Fg := ⟨[(1, some tI), (2, some tI), (3, none), (7, none), (8, some tI), (12, some (.sl tyDecision)), (13, some tI), (14, some tI)], [(3, some tyLedger), (7, none), (45, none)]⟩
def tb_ref41_Changed_0 : TC := (.sq (.reg [(.mk (some 15) none (.m (.pu (.bin false .lss (.t 14) (.t 13)))))]) (.sq (.cd (.t 15) .sk (.fg ⟨[(7, none)], [(7, none), (45, none)]⟩ (.ex 0))) (.sq (.bk 1 (.sq (.reg [(.mk (some 16) none (.m (.pu (.mv (.t 14))))), (.mk (some 17) none (.m (.pu (.ix 5 (.t 12) (.t 14))))), (.mk (some 18) none (.m (.ld true 5 (.t 17)))), (.mk (some 10) none (.m (.new [(.v (.int .i64 0)), (.v (.int .i64 0)), (.v (.int .i64 0)), (.v (.int .i64 0)), (.v (.int .i64 0))]))), (.mk (some 9) none (.m (.pu (.mv (.t 16))))), (.mk none none (.m (.st 5 (.t 10) (.t 18))))]) (.sq (.sq (.reg [(.mk (some 19) none (.m (.pu (.fa 2 (.t 10))))), (.mk (some 20) none (.m (.ld false 1 (.t 19)))), (.mk (some 21) none (.m (.pu (.mv (.t 1))))), (.mk (some 22) none (.m (.pu (.bin false .neq (.t 20) (.t 21))))), (.mk (some 23) none (.m (.pu (.mv (.t 22))))), (.mk (some 24) (some (23, false)) (.m (.pu (.fa 3 (.t 10))))), (.mk (some 25) (some (23, false)) (.m (.ld false 1 (.t 24)))), (.mk (some 26) (some (23, false)) (.m (.pu (.mv (.t 2))))), (.mk (some 27) (some (23, false)) (.m (.pu (.bin false .neq (.t 25) (.t 26))))), (.mk (some 28) none (.m (.pu (.pick (.t 23) (.c (.v (.bool true))) (.t 27)))))]) (.cd (.t 28) (.fg ⟨[(1, some tI), (2, some tI), (3, none), (7, none), (8, some tI), (12, some (.sl tyDecision)), (13, some tI), (14, some tI)], [(3, some tyLedger), (7, none), (45, none)]⟩ (.ex 1)) .sk)) (.sq (.sq (.dr dr_ref41_Changed_0 [(0, []), (1, []), (2, []), (3, [3]), (4, [3]), (5, []), (6, []), (7, []), (8, []), (9, [10]), (10, [10]), (11, []), (12, [])] (.of [0, 1, 2, 3, 4, 5, 6, 7, 8, 9, 10, 11, 12])) (.cd (.t 41) (.reg [(.mk (some 42) none (.m (.pu (.mv (.t 7))))), (.mk (some 43) none (.m (.pu (.mv (.t 9))))), (.mk (some 44) none (.m (.bs 3 1 1 [(.v (.int .i64 0))] [(0, 1, (.t 43))]))), (.mk (some 45) none (.m (.app 3 1 8 (.t 42) (.t 44)))), (.mk (some 7) none (.m (.pu (.mv (.t 45)))))]) .sk)) (.reg [(.mk (some 46) none (.m (.pu (.mv (.t 9))))), (.mk (some 8) none (.m (.pu (.mv (.t 46)))))]))))) (.reg [(.mk (some 47) none (.m (.pu (.bin false .add (.t 14) (.c (.v (.int .i64 1))))))), (.mk (some 14) none (.m (.pu (.mv (.t 47)))))]))))
/-- cipherplan/cipherplanref41.Changed -/
def tc_ref41_Changed : TC := (.sq (.reg [(.mk (some 3) none (.m (.box (.t 0)))), (.mk (some 6) none (.m (.pu (.mv (.c (.v (.slice none 0 0)))))))]) (.sq (.reg [(.mk (some 7) none (.m (.pu (.mv (.c (.v (.slice none 0 0)))))))]) (.sq (.reg [(.mk (some 8) none (.m (.pu (.mv (.c (.v (.int .i64 (-1))))))))]) (.sq (.sq (.reg [(.mk (some 11) none (.m (.pu (.fa 0 (.t 3))))), (.mk (some 12) none (.m (.ld false 1 (.t 11)))), (.mk (some 13) none (.m (.pu (.len false (.t 12))))), (.mk (some 14) none (.m (.pu (.mv (.c (.v (.int .i64 0)))))))]) (.bk 0 (.nw 7 3 (.lp 0 fg_ref41_Changed_0 tb_ref41_Changed_0)))) (.sq (.reg [(.mk (some 48) none (.m (.pu (.mv (.t 7))))), (.mk (some 6) none (.m (.pu (.mv (.t 48)))))]) .rt)))))
def rv_ref41_Changed : List (RV × Option Ty) := [((.t 6), some (.sl tI))]
abbrev sh_ref41_Changed_0 : Sh := ⟨[(1, .ty tI), (2, .ty tI), (3, .ptr 3 0), (7, .ms 7), (8, .ty tI), (12, .ty (.sl tyDecision)), (13, .ty tI), (14, .ty tI)], [(3, .box tyLedger), (7, .arr 3 tI), (45, .no)]⟩
def st_ref41_Changed_0 (x1 : Int) (x2 : Int) (x8 : Int) (x12 : (List Decision)) (x13 : Int) (x14 : Int) (y3 : Ledger) (y7 : (List Int)) : VS := sh_ref41_Changed_0.st (x1, x2, (), (), x8, x12, x13, x14, ()) (y3, y7, (), ())
abbrev sh_ref41_Changed_0_e0 : Sh := ⟨[(7, .ms 7)], [(7, .arr 3 tI), (45, .no)]⟩
def st_ref41_Changed_0_e0 (y7 : (List Int)) : VS := sh_ref41_Changed_0_e0.st ((), ()) (y7, (), ())
-- loop 0: (x1 : Int) (x2 : Int) (x8 : Int) (x12 : (List Decision)) (x13 : Int) (x14 : Int) (y3 : Ledger) (y7 : (List Int)); out: ('exit', 0) (y7 : (List Int))
def L_ref41_Changed_0 : VS → Option (Bool × List (Bool × Exit × VS)) := mkL sh_ref41_Changed_0 (fun x y => (rngOk x.2.2.2.2.2.1 x.2.2.2.2.2.2.1 x.2.2.2.2.2.2.2.1 && decide (y.2.1.length ≤ x.2.2.2.2.2.2.2.1 ∧ y.1.1 = x.2.2.2.2.2.1 ∧ -1 ≤ x.2.2.2.2.1 ∧ x.2.2.2.2.1 < x.2.2.2.2.2.2.2.1) && nnAll x.2.2.2.2.2.1)) (fun x y => [(true, .exit 0, st_ref41_Changed_0_e0 (y.2.1 ++ chg x.1 x.2.1 x.2.2.2.2.2.2.2.1 (lastV y.1.1 x.2.2.2.2.1) (x.2.2.2.2.2.1.drop x.2.2.2.2.2.2.2.1.toNat)))])
def g_ref41_Changed : G := ⟨TYs, [], 49, EL [], keeps, (Ls [L_ref41_Changed_0])⟩
def b_ref41_Changed_0_1 (x1 : Int) (x2 : Int) (x8 : Int) (x12 : (List Decision)) (x13 : Int) (x14 : Int) (y3 : Ledger) (y7 : (List Int)) : Option (Exit × VS) :=
  br (cApp y7 ([x14]) 8)
    (some (.normal, st_ref41_Changed_0 x1 x2 x14 x12 x13 (iadd .i64 x14 1) y3 (y7 ++ ([x14]))))
    (none)
def b_ref41_Changed_0 (x1 : Int) (x2 : Int) (x8 : Int) (x12 : (List Decision)) (x13 : Int) (x14 : Int) (y3 : Ledger) (y7 : (List Int)) : Option (Exit × VS) :=
  br ((ilt x14 x13))
    (br (cIx x12 x14)
      (br ((ine ((((lgt tyDecision x12 (Int.toNat x14)).2).2).1) x1))
        (some (.normal, st_ref41_Changed_0 x1 x2 x8 x12 x13 (iadd .i64 x14 1) y3 y7))
        (br ((ine (((((lgt tyDecision x12 (Int.toNat x14)).2).2).2).1) x2))
          (some (.normal, st_ref41_Changed_0 x1 x2 x8 x12 x13 (iadd .i64 x14 1) y3 y7))
          (br ((ilt x8 0))
            (b_ref41_Changed_0_1 x1 x2 x8 x12 x13 x14 y3 y7)
            (br (cIx y3.1 x8)
              (br ((ine ((((((lgt tyDecision y3.1 (Int.toNat x8)).2).2).2).2).1) ((((((lgt tyDecision x12 (Int.toNat x14)).2).2).2).2).1)))
                (b_ref41_Changed_0_1 x1 x2 x8 x12 x13 x14 y3 y7)
                (some (.normal, st_ref41_Changed_0 x1 x2 x14 x12 x13 (iadd .i64 x14 1) y3 y7)))
              (none)))))
      (none))
    (some (.exit 0, st_ref41_Changed_0_e0 y7))
noncomputable def lp_ref41_Changed_0 (x1 : Int) (x2 : Int) (x8 : Int) (x12 : (List Decision)) (x13 : Int) (x14 : Int) (y3 : Ledger) (y7 : (List Int)) : Option (Exit × VS) := loopF (roundF g_ref41_Changed fg_ref41_Changed_0 tb_ref41_Changed_0) (st_ref41_Changed_0 x1 x2 x8 x12 x13 x14 y3 y7)
noncomputable def n_ref41_Changed_0_1 (x1 : Int) (x2 : Int) (x8 : Int) (x12 : (List Decision)) (x13 : Int) (x14 : Int) (y3 : Ledger) (y7 : (List Int)) : Option (Exit × VS) :=
  br (cApp y7 ([x14]) 8)
    (lp_ref41_Changed_0 x1 x2 x14 x12 x13 (iadd .i64 x14 1) y3 (y7 ++ ([x14])))
    (none)
noncomputable def n_ref41_Changed_0 (x1 : Int) (x2 : Int) (x8 : Int) (x12 : (List Decision)) (x13 : Int) (x14 : Int) (y3 : Ledger) (y7 : (List Int)) : Option (Exit × VS) :=
  br ((ilt x14 x13))
    (br (cIx x12 x14)
      (br ((ine ((((lgt tyDecision x12 (Int.toNat x14)).2).2).1) x1))
        (lp_ref41_Changed_0 x1 x2 x8 x12 x13 (iadd .i64 x14 1) y3 y7)
        (br ((ine (((((lgt tyDecision x12 (Int.toNat x14)).2).2).2).1) x2))
          (lp_ref41_Changed_0 x1 x2 x8 x12 x13 (iadd .i64 x14 1) y3 y7)
          (br ((ilt x8 0))
            (n_ref41_Changed_0_1 x1 x2 x8 x12 x13 x14 y3 y7)
            (br (cIx y3.1 x8)
              (br ((ine ((((((lgt tyDecision y3.1 (Int.toNat x8)).2).2).2).2).1) ((((((lgt tyDecision x12 (Int.toNat x14)).2).2).2).2).1)))
                (n_ref41_Changed_0_1 x1 x2 x8 x12 x13 x14 y3 y7)
                (lp_ref41_Changed_0 x1 x2 x14 x12 x13 (iadd .i64 x14 1) y3 y7))
              (none)))))
      (none))
    (some (.exit 0, st_ref41_Changed_0_e0 y7))
def la_ref41_Changed_0 (x1 : Int) (x2 : Int) (x8 : Int) (x12 : (List Decision)) (x13 : Int) (x14 : Int) (y3 : Ledger) (y7 : (List Int)) : Option (Exit × VS) := some (.exit 0, st_ref41_Changed_0_e0 (y7 ++ chg x1 x2 x14 (lastV y3.1 x8) (x12.drop x14.toNat)))
theorem be_ref41_Changed_0 (x1 : Int) (x2 : Int) (x8 : Int) (x12 : (List Decision)) (x13 : Int) (x14 : Int) (y3 : Ledger) (y7 : (List Int)) : roundF g_ref41_Changed fg_ref41_Changed_0 tb_ref41_Changed_0 (st_ref41_Changed_0 x1 x2 x8 x12 x13 x14 y3 y7) = b_ref41_Changed_0 x1 x2 x8 x12 x13 x14 y3 y7 := by kernel_rfl
theorem ln_ref41_Changed_0 (x1 : Int) (x2 : Int) (x8 : Int) (x12 : (List Decision)) (x13 : Int) (x14 : Int) (y3 : Ledger) (y7 : (List Int)) : lp_ref41_Changed_0 x1 x2 x8 x12 x13 x14 y3 y7 = n_ref41_Changed_0 x1 x2 x8 x12 x13 x14 y3 y7 := (loopF_nxt _ _).trans (by
  rw [be_ref41_Changed_0]
  simp only [b_ref41_Changed_0, b_ref41_Changed_0_1, n_ref41_Changed_0, n_ref41_Changed_0_1, nxt_br, nxt_n, nxt_r, nxt_e, nxt_0]
  rfl)
def r_ref41_Changed (p0 : Ledger) (p1 : Int) (p2 : Int) : Option (V × List VO) :=
  br ((rngOk p0.1 (llen p0.1) (0 : Int) && decide (([] : List Int).length ≤ (0 : Int) ∧ p0.1 = p0.1 ∧ -1 ≤ (-1) ∧ (-1) < (0 : Int)) && nnAll p0.1))
    (some (.t (.sl tI) (([] : List Int) ++ chg p1 p2 (0 : Int) (lastV p0.1 (-1)) (p0.1.drop (0 : Int).toNat)), []))
    (none)
theorem e_ref41_Changed (p0 : Ledger) (p1 : Int) (p2 : Int) : runF g_ref41_Changed tc_ref41_Changed rv_ref41_Changed false [.t tyLedger p0, .t tI p1, .t tI p2] [] = r_ref41_Changed p0 p1 p2 := by kernel_rfl
theorem ok_ref41_Changed : Option.map (trC Try.prog) Try.f44.body = some tc_ref41_Changed.er := by kernel_rfl
theorem rok_ref41_Changed : trVs Try.prog Try.f44.results.toList = some (rv_ref41_Changed.map Prod.fst) := by kernel_rfl
theorem en_ref41_Changed : Entered Try.prog 44 := ⟨_, Try.func44, by kernel_rfl, by kernel_rfl⟩
theorem gk_ref41_Changed : GOk Try.prog g_ref41_Changed := gok_of _ (fun p hp => by cases hp)
theorem l_ref41_Changed_0 (x1 : Int) (x2 : Int) (x8 : Int) (x12 : (List Decision)) (x13 : Int) (x14 : Int) (y3 : Ledger) (y7 : (List Int)) (h : (rngOk x12 x13 x14 && decide (y7.length ≤ x14 ∧ y3.1 = x12 ∧ -1 ≤ x8 ∧ x8 < x14) && nnAll x12) = true) : lp_ref41_Changed_0 x1 x2 x8 x12 x13 x14 y3 y7 = la_ref41_Changed_0 x1 x2 x8 x12 x13 x14 y3 y7 := by
  simp only [Bool.and_eq_true, decide_eq_true_eq] at h
  obtain ⟨⟨h0, h4, h5, h6, h7⟩, h8⟩ := h
  obtain ⟨rfl, h3, k, rfl, hk⟩ := rng_k h0
  clear h0
  obtain ⟨l, u⟩ := y3
  have h5' : x12 = l := h5.symm
  clear h5
  subst h5'
  revert x8 y7
  refine range_ind x12 (fun k => ∀ x8 y7, -1 ≤ x8 → y7.length ≤ (k : Int) → x8 < (k : Int) → lp_ref41_Changed_0 x1 x2 x8 x12 (x12.length : Int) (k : Int) (x12, u) y7 = la_ref41_Changed_0 x1 x2 x8 x12 (x12.length : Int) (k : Int) (x12, u) y7) ?_ ?_ k hk
  · intro x8 y7 _ _ _
    rw [ln_ref41_Changed_0]
    simp [n_ref41_Changed_0, la_ref41_Changed_0, ilt_nat, br_false, chg]
  · intro k hk ih x8 y7 h9 hy h10
    rw [ln_ref41_Changed_0]
    have e1 : cApp y7 [(k : Int)] 8 = true := cApp_ok (by simp only [List.length_singleton]; omega) (by decide)
    have i1 := ih x8 y7 h9 (by omega) (by omega)
    have i2 := ih (k : Int) y7 (by omega) (by omega) (by omega)
    have i3 := ih (k : Int) (y7 ++ [(k : Int)]) (by omega) (by simp; omega) (by omega)
    have hnn : 0 ≤ x12[k].2.2.2.2.1 := by
      have := List.all_eq_true.1 h8 x12[k] (List.getElem_mem hk)
      simpa using this
    have hlk : lastV x12 (k : Int) = x12[k].2.2.2.2.1 := by
      unfold lastV
      rw [if_neg (by omega), Int.toNat_natCast, lgt_get (y := tyDecision) hk]
    simp only [n_ref41_Changed_0, n_ref41_Changed_0_1, ilt_nat, cIx_nat, hk, decide_true, br_true, Int.toNat_natCast, lgt_get (y := tyDecision) hk, add1 (show k < 4611686018427387904 by omega), e1, i1, i2, i3]
    simp only [la_ref41_Changed_0, Int.toNat_natCast, chg_drop hk, hlk]
    by_cases q1 : x12[k].2.2.1 = x1
    · by_cases q2 : x12[k].2.2.2.1 = x2
      · by_cases q3 : x8 < 0
        · have e2 : lastV x12 x8 = -1 := by unfold lastV; rw [if_pos q3]
          have e3 : x12[k].2.2.2.2.1 ≠ -1 := by omega
          simp [ine_dec, q1, q2, q3, ilt, br_true, br_false, e2, e3]
        · obtain ⟨j, rfl⟩ := Int.eq_ofNat_of_zero_le (show 0 ≤ x8 by omega)
          have hj : j < x12.length := by omega
          have e2 : lastV x12 (j : Int) = x12[j].2.2.2.2.1 := by
            unfold lastV
            rw [if_neg (by omega), Int.toNat_natCast, lgt_get (y := tyDecision) hj]
          simp only [ilt, q3, decide_false, br_false, cIx_nat, hj, decide_true, br_true, Int.toNat_natCast, lgt_get (y := tyDecision) hj, e2]
          by_cases q4 : x12[k].2.2.2.2.1 = x12[j].2.2.2.2.1
          · simp [ine_dec, q1, q2, q4, br_false]
          · have q5 : ¬ x12[j].2.2.2.2.1 = x12[k].2.2.2.2.1 := fun e => q4 e.symm
            simp [ine_dec, q1, q2, q4, q5, br_true, br_false]
      · simp [ine_dec, q1, q2, br_true, br_false]
    · simp [ine_dec, q1, br_true]
theorem lo_ref41_Changed_0 : ∀ S l p, g_ref41_Changed.L 0 (fgt fg_ref41_Changed_0 S) = some (true, l) → pickA l = some p → loopF (roundF g_ref41_Changed fg_ref41_Changed_0 tb_ref41_Changed_0) S = some p :=
  lok_of (s := sh_ref41_Changed_0) ⟨by decide, by decide⟩ (by kernel_rfl) fun x y hok p hp => by
  simp only [pickA_br, pickA_one] at hp
  exact (l_ref41_Changed_0 x.1 x.2.1 x.2.2.2.2.1 x.2.2.2.2.2.1 x.2.2.2.2.2.2.1 x.2.2.2.2.2.2.2.1 y.1 y.2.1 (by simpa using hok)).trans hp
theorem lk_ref41_Changed : tc_ref41_Changed.lok g_ref41_Changed := by
  repeat (first | exact trivial | exact lo_ref41_Changed_0 | refine ⟨?_, ?_⟩)
theorem s_ref41_Changed (l : Ledger) (k s : Int) (h : changedOk l k s = true) : r_ref41_Changed l k s = some (.t (.sl tI) (changedV l k s), []) := by
  simp only [changedOk, lenOk, Bool.and_eq_true, decide_eq_true_eq] at h
  have e1 : (rngOk l.1 (llen l.1) 0 && decide ((([] : List Int).length : Int) ≤ 0 ∧ l.1 = l.1 ∧ (-1 : Int) ≤ -1 ∧ (-1 : Int) < 0) && nnAll l.1) = true := by
    simp only [rng_0 h.1, Bool.true_and, Bool.and_eq_true, decide_eq_true_eq]
    exact ⟨⟨by simp, trivial, by decide, by decide⟩, h.2⟩
  unfold r_ref41_Changed
  first | (rw [e1]; rfl) | (simp only [e1, br_true]; rfl)
def sp_ref41_Changed : Ent := spec (.pr tyLedger (.pr tI (.pr tI .nil))) (fun x => (changedOk x.1 x.2.1 x.2.2.1)) (fun x => (.t (.sl tI) (changedV x.1 x.2.1 x.2.2.1)))
theorem ms_ref41_Changed : Meets Try.prog 44 (strip sp_ref41_Changed) := by
  obtain ⟨c, hc, hi⟩ := Option.map_eq_some_iff.1 ok_ref41_Changed
  exact meets_spec (R := runF g_ref41_Changed tc_ref41_Changed rv_ref41_Changed false) (meets_of Try.func44 hc hi Try.ntmps44 rok_ref41_Changed gk_ref41_Changed lk_ref41_Changed mixed) fun x hok => (e_ref41_Changed x.1 x.2.1 x.2.2.1).trans (s_ref41_Changed x.1 x.2.1 x.2.2.1 hok)

/-! Known, Then, Latest of the answer -/
def knS (day : Int) (o : Int) (d : Decision) : Int := if ile d.1 day then imx o d.2.1 else o
def refKnown (l : Ledger) (day : Int) : Int := l.1.foldl (knS day) 0
def lenOk2 (l : Ledger) (_ : Int) : Bool := lenOk l
def fg_ref41_Known_0 : Fg := ⟨[(1, some tI), (5, some tI), (9, some (.sl tyDecision)), (10, some tI), (11, some tI)], []⟩
def tb_ref41_Known_0 : TC := (.sq (.reg [(.mk (some 12) none (.m (.pu (.bin false .lss (.t 11) (.t 10)))))]) (.sq (.cd (.t 12) .sk (.fg ⟨[(5, some tI)], []⟩ (.ex 0))) (.sq (.bk 1 (.sq (.reg [(.mk (some 13) none (.m (.pu (.ix 5 (.t 9) (.t 11))))), (.mk (some 14) none (.m (.ld true 5 (.t 13)))), (.mk (some 7) none (.m (.new [(.v (.int .i64 0)), (.v (.int .i64 0)), (.v (.int .i64 0)), (.v (.int .i64 0)), (.v (.int .i64 0))]))), (.mk none none (.m (.st 5 (.t 7) (.t 14))))]) (.sq (.reg [(.mk (some 15) none (.m (.pu (.fa 0 (.t 7))))), (.mk (some 16) none (.m (.ld false 1 (.t 15)))), (.mk (some 17) none (.m (.pu (.mv (.t 1))))), (.mk (some 18) none (.m (.pu (.bin false .leq (.t 16) (.t 17)))))]) (.cd (.t 18) (.reg [(.mk (some 19) none (.m (.pu (.mv (.t 5))))), (.mk (some 20) none (.m (.pu (.fa 1 (.t 7))))), (.mk (some 21) none (.m (.ld false 1 (.t 20)))), (.mk (some 22) none (.m (.pu (.mx (.t 19) (.t 21))))), (.mk (some 5) none (.m (.pu (.mv (.t 22)))))]) .sk)))) (.reg [(.mk (some 23) none (.m (.pu (.bin false .add (.t 11) (.c (.v (.int .i64 1))))))), (.mk (some 11) none (.m (.pu (.mv (.t 23)))))]))))
/-- cipherplan/cipherplanref41.Known -/
def tc_ref41_Known : TC := (.sq (.reg [(.mk (some 2) none (.m (.box (.t 0)))), (.mk (some 4) none (.m (.pu (.mv (.c (.v (.int .i64 0)))))))]) (.sq (.reg [(.mk (some 5) none (.m (.pu (.mv (.c (.v (.int .i64 0)))))))]) (.sq (.sq (.reg [(.mk (some 8) none (.m (.pu (.fa 0 (.t 2))))), (.mk (some 9) none (.m (.ld false 1 (.t 8)))), (.mk (some 10) none (.m (.pu (.len false (.t 9))))), (.mk (some 11) none (.m (.pu (.mv (.c (.v (.int .i64 0)))))))]) (.bk 0 (.lp 0 fg_ref41_Known_0 tb_ref41_Known_0))) (.sq (.reg [(.mk (some 24) none (.m (.pu (.mv (.t 5))))), (.mk (some 4) none (.m (.pu (.mv (.t 24)))))]) .rt))))
def rv_ref41_Known : List (RV × Option Ty) := [((.t 4), some tI)]
abbrev sh_ref41_Known_0 : Sh := ⟨[(1, .ty tI), (5, .ty tI), (9, .ty (.sl tyDecision)), (10, .ty tI), (11, .ty tI)], []⟩
def st_ref41_Known_0 (x1 : Int) (x5 : Int) (x9 : (List Decision)) (x10 : Int) (x11 : Int) : VS := sh_ref41_Known_0.st (x1, x5, x9, x10, x11, ()) ()
abbrev sh_ref41_Known_0_e0 : Sh := ⟨[(5, .ty tI)], []⟩
def st_ref41_Known_0_e0 (x5 : Int) : VS := sh_ref41_Known_0_e0.st (x5, ()) ()
-- loop 0: (x1 : Int) (x5 : Int) (x9 : (List Decision)) (x10 : Int) (x11 : Int); out: ('exit', 0) (x5 : Int)
def L_ref41_Known_0 : VS → Option (Bool × List (Bool × Exit × VS)) := mkL sh_ref41_Known_0 (fun x y => (rngOk x.2.2.1 x.2.2.2.1 x.2.2.2.2.1)) (fun x y => [(true, .exit 0, st_ref41_Known_0_e0 ((x.2.2.1.drop x.2.2.2.2.1.toNat).foldl (knS x.1) x.2.1))])
def g_ref41_Known : G := ⟨TYs, [], 25, EL [], keeps, (Ls [L_ref41_Known_0])⟩
def b_ref41_Known_0 (x1 : Int) (x5 : Int) (x9 : (List Decision)) (x10 : Int) (x11 : Int) : Option (Exit × VS) :=
  br ((ilt x11 x10))
    (br (cIx x9 x11)
      (br ((ile ((lgt tyDecision x9 (Int.toNat x11)).1) x1))
        (some (.normal, st_ref41_Known_0 x1 (imx x5 (((lgt tyDecision x9 (Int.toNat x11)).2).1)) x9 x10 (iadd .i64 x11 1)))
        (some (.normal, st_ref41_Known_0 x1 x5 x9 x10 (iadd .i64 x11 1))))
      (none))
    (some (.exit 0, st_ref41_Known_0_e0 x5))
noncomputable def lp_ref41_Known_0 (x1 : Int) (x5 : Int) (x9 : (List Decision)) (x10 : Int) (x11 : Int) : Option (Exit × VS) := loopF (roundF g_ref41_Known fg_ref41_Known_0 tb_ref41_Known_0) (st_ref41_Known_0 x1 x5 x9 x10 x11)
noncomputable def n_ref41_Known_0 (x1 : Int) (x5 : Int) (x9 : (List Decision)) (x10 : Int) (x11 : Int) : Option (Exit × VS) :=
  br ((ilt x11 x10))
    (br (cIx x9 x11)
      (br ((ile ((lgt tyDecision x9 (Int.toNat x11)).1) x1))
        (lp_ref41_Known_0 x1 (imx x5 (((lgt tyDecision x9 (Int.toNat x11)).2).1)) x9 x10 (iadd .i64 x11 1))
        (lp_ref41_Known_0 x1 x5 x9 x10 (iadd .i64 x11 1)))
      (none))
    (some (.exit 0, st_ref41_Known_0_e0 x5))
def la_ref41_Known_0 (x1 : Int) (x5 : Int) (x9 : (List Decision)) (x10 : Int) (x11 : Int) : Option (Exit × VS) := some (.exit 0, st_ref41_Known_0_e0 ((x9.drop x11.toNat).foldl (knS x1) x5))
theorem be_ref41_Known_0 (x1 : Int) (x5 : Int) (x9 : (List Decision)) (x10 : Int) (x11 : Int) : roundF g_ref41_Known fg_ref41_Known_0 tb_ref41_Known_0 (st_ref41_Known_0 x1 x5 x9 x10 x11) = b_ref41_Known_0 x1 x5 x9 x10 x11 := by kernel_rfl
theorem ln_ref41_Known_0 (x1 : Int) (x5 : Int) (x9 : (List Decision)) (x10 : Int) (x11 : Int) : lp_ref41_Known_0 x1 x5 x9 x10 x11 = n_ref41_Known_0 x1 x5 x9 x10 x11 := (loopF_nxt _ _).trans (by
  rw [be_ref41_Known_0]
  simp only [b_ref41_Known_0, n_ref41_Known_0, nxt_br, nxt_n, nxt_r, nxt_e, nxt_0]
  rfl)
def r_ref41_Known (p0 : Ledger) (p1 : Int) : Option (V × List VO) :=
  br ((rngOk p0.1 (llen p0.1) (0 : Int)))
    (some (.t tI ((p0.1.drop (0 : Int).toNat).foldl (knS p1) (0 : Int)), []))
    (none)
theorem e_ref41_Known (p0 : Ledger) (p1 : Int) : runF g_ref41_Known tc_ref41_Known rv_ref41_Known false [.t tyLedger p0, .t tI p1] [] = r_ref41_Known p0 p1 := by kernel_rfl
theorem ok_ref41_Known : Option.map (trC Try.prog) Try.f41.body = some tc_ref41_Known.er := by kernel_rfl
theorem rok_ref41_Known : trVs Try.prog Try.f41.results.toList = some (rv_ref41_Known.map Prod.fst) := by kernel_rfl
theorem en_ref41_Known : Entered Try.prog 41 := ⟨_, Try.func41, by kernel_rfl, by kernel_rfl⟩
theorem gk_ref41_Known : GOk Try.prog g_ref41_Known := gok_of _ (fun p hp => by cases hp)
theorem l_ref41_Known_0 (x1 : Int) (x5 : Int) (x9 : (List Decision)) (x10 : Int) (x11 : Int) (h : (rngOk x9 x10 x11) = true) : lp_ref41_Known_0 x1 x5 x9 x10 x11 = la_ref41_Known_0 x1 x5 x9 x10 x11 := by
  obtain ⟨rfl, h3, k, rfl, hk⟩ := rng_k h
  clear h
  revert x5
  refine range_ind x9 (fun k => ∀ x5, lp_ref41_Known_0 x1 x5 x9 (x9.length : Int) (k : Int) = la_ref41_Known_0 x1 x5 x9 (x9.length : Int) (k : Int)) ?_ ?_ k hk
  · intro x5
    rw [ln_ref41_Known_0]
    simp [n_ref41_Known_0, la_ref41_Known_0, ilt_nat, br_false]
  · intro k hk ih x5
    rw [ln_ref41_Known_0]
    simp only [n_ref41_Known_0, ilt_nat, cIx_nat, hk, decide_true, br_true, Int.toNat_natCast, lgt_get (y := tyDecision) hk, add1 (show k < 4611686018427387904 by omega), ih, la_ref41_Known_0, List.drop_eq_getElem_cons hk, List.foldl_cons]
    unfold knS
    cases ile x9[k].1 x1 <;> rfl
theorem lo_ref41_Known_0 : ∀ S l p, g_ref41_Known.L 0 (fgt fg_ref41_Known_0 S) = some (true, l) → pickA l = some p → loopF (roundF g_ref41_Known fg_ref41_Known_0 tb_ref41_Known_0) S = some p :=
  lok_of (s := sh_ref41_Known_0) ⟨by decide, by decide⟩ (by kernel_rfl) fun x y hok p hp => by
  simp only [pickA_br, pickA_one] at hp
  exact (l_ref41_Known_0 x.1 x.2.1 x.2.2.1 x.2.2.2.1 x.2.2.2.2.1 (by simpa using hok)).trans hp
theorem lk_ref41_Known : tc_ref41_Known.lok g_ref41_Known := by
  repeat (first | exact trivial | exact lo_ref41_Known_0 | refine ⟨?_, ?_⟩)
theorem s_ref41_Known (l : Ledger) (d : Int) (h : lenOk2 l d = true) : r_ref41_Known l d = some (.t tI (refKnown l d), []) := by
  simp only [lenOk2, lenOk, decide_eq_true_eq] at h
  simp only [r_ref41_Known, rng_0 h, br_true]
  rfl
def sp_ref41_Known : Ent := spec (.pr tyLedger (.pr tI .nil)) (fun x => (lenOk2 x.1 x.2.1)) (fun x => (.t tI (refKnown x.1 x.2.1)))
theorem ms_ref41_Known : Meets Try.prog 41 (strip sp_ref41_Known) := by
  obtain ⟨c, hc, hi⟩ := Option.map_eq_some_iff.1 ok_ref41_Known
  exact meets_spec (R := runF g_ref41_Known tc_ref41_Known rv_ref41_Known false) (meets_of Try.func41 hc hi Try.ntmps41 rok_ref41_Known gk_ref41_Known lk_ref41_Known mixed) fun x hok => (e_ref41_Known x.1 x.2.1).trans (s_ref41_Known x.1 x.2.1 hok)
def refThen (l : Ledger) (day : Int) : Ledger := (l.1.filter fun d => ile d.1 day, ())
def fg_ref41_Then_0 : Fg := ⟨[(1, some tI), (4, none), (5, none), (9, some (.sl tyDecision)), (10, some tI), (11, some tI)], [(4, some tyLedger), (5, none), (23, none), (20500, none)]⟩
def tb_ref41_Then_0 : TC := (.sq (.reg [(.mk (some 12) none (.m (.pu (.bin false .lss (.t 11) (.t 10)))))]) (.sq (.cd (.t 12) .sk (.fg ⟨[(4, none), (5, none)], [(4, some tyLedger), (5, some tyLedger), (23, none), (20500, none)]⟩ (.ex 0))) (.sq (.bk 1 (.sq (.reg [(.mk (some 13) none (.m (.pu (.ix 5 (.t 9) (.t 11))))), (.mk (some 14) none (.m (.ld true 5 (.t 13)))), (.mk (some 7) none (.m (.new [(.v (.int .i64 0)), (.v (.int .i64 0)), (.v (.int .i64 0)), (.v (.int .i64 0)), (.v (.int .i64 0))]))), (.mk none none (.m (.st 5 (.t 7) (.t 14))))]) (.sq (.reg [(.mk (some 15) none (.m (.pu (.fa 0 (.t 7))))), (.mk (some 16) none (.m (.ld false 1 (.t 15)))), (.mk (some 17) none (.m (.pu (.mv (.t 1))))), (.mk (some 18) none (.m (.pu (.bin false .leq (.t 16) (.t 17)))))]) (.cd (.t 18) (.reg [(.mk (some 19) none (.m (.pu (.fa 0 (.t 5))))), (.mk (some 20) none (.m (.ld false 1 (.t 19)))), (.mk (some 21) none (.m (.ld true 5 (.t 7)))), (.mk (some 22) none (.m (.bs 40 5 1 [(.v (.int .i64 0)), (.v (.int .i64 0)), (.v (.int .i64 0)), (.v (.int .i64 0)), (.v (.int .i64 0))] [(0, 5, (.t 21))]))), (.mk (some 23) none (.m (.app 40 5 40 (.t 20) (.t 22)))), (.mk (some 24) none (.m (.pu (.fa 0 (.t 5))))), (.mk none none (.m (.st 1 (.t 24) (.t 23))))]) .sk)))) (.reg [(.mk (some 25) none (.m (.pu (.bin false .add (.t 11) (.c (.v (.int .i64 1))))))), (.mk (some 11) none (.m (.pu (.mv (.t 25)))))]))))
/-- cipherplan/cipherplanref41.Then -/
def tc_ref41_Then : TC := (.sq (.reg [(.mk (some 2) none (.m (.box (.t 0)))), (.mk (some 4) none (.m (.new [(.v (.slice none 0 0))])))]) (.sq (.reg [(.mk (some 5) none (.m (.new [(.v (.slice none 0 0))])))]) (.sq (.sq (.reg [(.mk (some 8) none (.m (.pu (.fa 0 (.t 2))))), (.mk (some 9) none (.m (.ld false 1 (.t 8)))), (.mk (some 10) none (.m (.pu (.len false (.t 9))))), (.mk (some 11) none (.m (.pu (.mv (.c (.v (.int .i64 0)))))))]) (.bk 0 (.nf 5 0 40 20500 (.lp 0 fg_ref41_Then_0 tb_ref41_Then_0)))) (.sq (.reg [(.mk (some 26) none (.m (.ld true 1 (.t 5)))), (.mk none none (.m (.st 1 (.t 4) (.t 26))))]) .rt))))
def rv_ref41_Then : List (RV × Option Ty) := [((.c 4 true 1), some tyLedger)]
abbrev sh_ref41_Then_0 : Sh := ⟨[(1, .ty tI), (4, .ptr 4 0), (5, .ptr 5 0), (9, .ty (.sl tyDecision)), (10, .ty tI), (11, .ty tI)], [(4, .box tyLedger), (5, .bag [.ms 20500]), (23, .no), (20500, .arr 40 tyDecision)]⟩
def st_ref41_Then_0 (x1 : Int) (x9 : (List Decision)) (x10 : Int) (x11 : Int) (y4 : Ledger) (y20500 : (List Decision)) : VS := sh_ref41_Then_0.st (x1, (), (), x9, x10, x11, ()) (y4, ((), ()), (), y20500, ())
abbrev sh_ref41_Then_0_e0 : Sh := ⟨[(4, .ptr 4 0), (5, .ptr 5 0)], [(4, .box tyLedger), (5, .bag [.ms 20500]), (23, .no), (20500, .arr 40 tyDecision)]⟩
def st_ref41_Then_0_e0 (y4 : Ledger) (y20500 : (List Decision)) : VS := sh_ref41_Then_0_e0.st ((), (), ()) (y4, ((), ()), (), y20500, ())
-- loop 0: (x1 : Int) (x9 : (List Decision)) (x10 : Int) (x11 : Int) (y4 : Ledger) (y20500 : (List Decision)); out: ('exit', 0) (y4 : Ledger) (y20500 : (List Decision))
def L_ref41_Then_0 : VS → Option (Bool × List (Bool × Exit × VS)) := mkL sh_ref41_Then_0 (fun x y => (rngOk x.2.2.2.1 x.2.2.2.2.1 x.2.2.2.2.2.1 && decide (y.2.2.2.1.length ≤ x.2.2.2.2.2.1))) (fun x y => [(true, .exit 0, st_ref41_Then_0_e0 (y.1) (y.2.2.2.1 ++ (x.2.2.2.1.drop x.2.2.2.2.2.1.toNat).filter fun d => ile d.1 x.1))])
def g_ref41_Then : G := ⟨TYs, [], 27, EL [], keeps, (Ls [L_ref41_Then_0])⟩
def b_ref41_Then_0 (x1 : Int) (x9 : (List Decision)) (x10 : Int) (x11 : Int) (y4 : Ledger) (y20500 : (List Decision)) : Option (Exit × VS) :=
  br ((ilt x11 x10))
    (br (cIx x9 x11)
      (br ((ile ((lgt tyDecision x9 (Int.toNat x11)).1) x1))
        (br (cApp y20500 ([((lgt tyDecision x9 (Int.toNat x11)).1, (((lgt tyDecision x9 (Int.toNat x11)).2).1, ((((lgt tyDecision x9 (Int.toNat x11)).2).2).1, (((((lgt tyDecision x9 (Int.toNat x11)).2).2).2).1, ((((((lgt tyDecision x9 (Int.toNat x11)).2).2).2).2).1, ())))))]) 40)
          (some (.normal, st_ref41_Then_0 x1 x9 x10 (iadd .i64 x11 1) y4 (y20500 ++ ([((lgt tyDecision x9 (Int.toNat x11)).1, (((lgt tyDecision x9 (Int.toNat x11)).2).1, ((((lgt tyDecision x9 (Int.toNat x11)).2).2).1, (((((lgt tyDecision x9 (Int.toNat x11)).2).2).2).1, ((((((lgt tyDecision x9 (Int.toNat x11)).2).2).2).2).1, ())))))]))))
          (none))
        (some (.normal, st_ref41_Then_0 x1 x9 x10 (iadd .i64 x11 1) y4 y20500)))
      (none))
    (some (.exit 0, st_ref41_Then_0_e0 y4 y20500))
noncomputable def lp_ref41_Then_0 (x1 : Int) (x9 : (List Decision)) (x10 : Int) (x11 : Int) (y4 : Ledger) (y20500 : (List Decision)) : Option (Exit × VS) := loopF (roundF g_ref41_Then fg_ref41_Then_0 tb_ref41_Then_0) (st_ref41_Then_0 x1 x9 x10 x11 y4 y20500)
noncomputable def n_ref41_Then_0 (x1 : Int) (x9 : (List Decision)) (x10 : Int) (x11 : Int) (y4 : Ledger) (y20500 : (List Decision)) : Option (Exit × VS) :=
  br ((ilt x11 x10))
    (br (cIx x9 x11)
      (br ((ile ((lgt tyDecision x9 (Int.toNat x11)).1) x1))
        (br (cApp y20500 ([((lgt tyDecision x9 (Int.toNat x11)).1, (((lgt tyDecision x9 (Int.toNat x11)).2).1, ((((lgt tyDecision x9 (Int.toNat x11)).2).2).1, (((((lgt tyDecision x9 (Int.toNat x11)).2).2).2).1, ((((((lgt tyDecision x9 (Int.toNat x11)).2).2).2).2).1, ())))))]) 40)
          (lp_ref41_Then_0 x1 x9 x10 (iadd .i64 x11 1) y4 (y20500 ++ ([((lgt tyDecision x9 (Int.toNat x11)).1, (((lgt tyDecision x9 (Int.toNat x11)).2).1, ((((lgt tyDecision x9 (Int.toNat x11)).2).2).1, (((((lgt tyDecision x9 (Int.toNat x11)).2).2).2).1, ((((((lgt tyDecision x9 (Int.toNat x11)).2).2).2).2).1, ())))))])))
          (none))
        (lp_ref41_Then_0 x1 x9 x10 (iadd .i64 x11 1) y4 y20500))
      (none))
    (some (.exit 0, st_ref41_Then_0_e0 y4 y20500))
def la_ref41_Then_0 (x1 : Int) (x9 : (List Decision)) (x10 : Int) (x11 : Int) (y4 : Ledger) (y20500 : (List Decision)) : Option (Exit × VS) := some (.exit 0, st_ref41_Then_0_e0 (y4) (y20500 ++ (x9.drop x11.toNat).filter fun d => ile d.1 x1))
theorem be_ref41_Then_0 (x1 : Int) (x9 : (List Decision)) (x10 : Int) (x11 : Int) (y4 : Ledger) (y20500 : (List Decision)) : roundF g_ref41_Then fg_ref41_Then_0 tb_ref41_Then_0 (st_ref41_Then_0 x1 x9 x10 x11 y4 y20500) = b_ref41_Then_0 x1 x9 x10 x11 y4 y20500 := by kernel_rfl
theorem ln_ref41_Then_0 (x1 : Int) (x9 : (List Decision)) (x10 : Int) (x11 : Int) (y4 : Ledger) (y20500 : (List Decision)) : lp_ref41_Then_0 x1 x9 x10 x11 y4 y20500 = n_ref41_Then_0 x1 x9 x10 x11 y4 y20500 := (loopF_nxt _ _).trans (by
  rw [be_ref41_Then_0]
  simp only [b_ref41_Then_0, n_ref41_Then_0, nxt_br, nxt_n, nxt_r, nxt_e, nxt_0]
  rfl)
def r_ref41_Then (p0 : Ledger) (p1 : Int) : Option (V × List VO) :=
  br ((rngOk p0.1 (llen p0.1) (0 : Int) && decide (([] : List Decision).length ≤ (0 : Int))))
    (some (.t tyLedger ((([] : List Decision) ++ (p0.1.drop (0 : Int).toNat).filter fun d => ile d.1 p1), ()), []))
    (none)
theorem e_ref41_Then (p0 : Ledger) (p1 : Int) : runF g_ref41_Then tc_ref41_Then rv_ref41_Then false [.t tyLedger p0, .t tI p1] [] = r_ref41_Then p0 p1 := by kernel_rfl
theorem ok_ref41_Then : Option.map (trC Try.prog) Try.f42.body = some tc_ref41_Then.er := by kernel_rfl
theorem rok_ref41_Then : trVs Try.prog Try.f42.results.toList = some (rv_ref41_Then.map Prod.fst) := by kernel_rfl
theorem en_ref41_Then : Entered Try.prog 42 := ⟨_, Try.func42, by kernel_rfl, by kernel_rfl⟩
theorem gk_ref41_Then : GOk Try.prog g_ref41_Then := gok_of _ (fun p hp => by cases hp)
theorem l_ref41_Then_0 (x1 : Int) (x9 : (List Decision)) (x10 : Int) (x11 : Int) (y4 : Ledger) (y20500 : (List Decision)) (h : (rngOk x9 x10 x11 && decide (y20500.length ≤ x11)) = true) : lp_ref41_Then_0 x1 x9 x10 x11 y4 y20500 = la_ref41_Then_0 x1 x9 x10 x11 y4 y20500 := by
  simp only [Bool.and_eq_true, decide_eq_true_eq] at h
  obtain ⟨h0, h4⟩ := h
  obtain ⟨rfl, h3, k, rfl, hk⟩ := rng_k h0
  clear h0
  revert y20500
  refine range_ind x9 (fun k => ∀ y20500, y20500.length ≤ (k : Int) → lp_ref41_Then_0 x1 x9 (x9.length : Int) (k : Int) y4 y20500 = la_ref41_Then_0 x1 x9 (x9.length : Int) (k : Int) y4 y20500) ?_ ?_ k hk
  · intro y _
    rw [ln_ref41_Then_0]
    simp [n_ref41_Then_0, la_ref41_Then_0, ilt_nat, br_false]
  · intro k hk ih y hy
    rw [ln_ref41_Then_0]
    have e1 : ∀ x, cApp y [x] 40 = true := fun x => cApp_ok (by simp only [List.length_singleton]; omega) (by decide)
    have i1 := ih y (by omega)
    have i2 := ih (y ++ [x9[k]]) (by simp; omega)
    simp only [n_ref41_Then_0, ilt_nat, cIx_nat, hk, decide_true, br_true, Int.toNat_natCast, lgt_get (y := tyDecision) hk, add1 (show k < 4611686018427387904 by omega), e1, i1]
    refine (show _ = br (ile x9[k].1 x1) (lp_ref41_Then_0 x1 x9 (x9.length : Int) ((k + 1 : Nat) : Int) y4 (y ++ [x9[k]])) _ from rfl).trans ?_
    rw [i2]
    simp only [la_ref41_Then_0, Int.toNat_natCast, List.drop_eq_getElem_cons hk, List.filter_cons]
    cases ile x9[k].1 x1 <;> simp [br_true, br_false]
theorem lo_ref41_Then_0 : ∀ S l p, g_ref41_Then.L 0 (fgt fg_ref41_Then_0 S) = some (true, l) → pickA l = some p → loopF (roundF g_ref41_Then fg_ref41_Then_0 tb_ref41_Then_0) S = some p :=
  lok_of (s := sh_ref41_Then_0) ⟨by decide, by decide⟩ (by kernel_rfl) fun x y hok p hp => by
  simp only [pickA_br, pickA_one] at hp
  exact (l_ref41_Then_0 x.1 x.2.2.2.1 x.2.2.2.2.1 x.2.2.2.2.2.1 y.1 y.2.2.2.1 (by simpa using hok)).trans hp
theorem lk_ref41_Then : tc_ref41_Then.lok g_ref41_Then := by
  repeat (first | exact trivial | exact lo_ref41_Then_0 | refine ⟨?_, ?_⟩)
theorem s_ref41_Then (l : Ledger) (d : Int) (h : lenOk2 l d = true) : r_ref41_Then l d = some (.t tyLedger (refThen l d), []) := by
  simp only [lenOk2, lenOk, decide_eq_true_eq] at h
  have e1 : (rngOk l.1 (llen l.1) 0 && decide ((([] : List Decision).length : Int) ≤ 0)) = true := by simp only [rng_0 h, Bool.true_and]; rfl
  simp only [r_ref41_Then]
  first | (rw [e1]; rfl) | (simp only [e1, br_true]; rfl)
def sp_ref41_Then : Ent := spec (.pr tyLedger (.pr tI .nil)) (fun x => (lenOk2 x.1 x.2.1)) (fun x => (.t tyLedger (refThen x.1 x.2.1)))
theorem ms_ref41_Then : Meets Try.prog 42 (strip sp_ref41_Then) := by
  obtain ⟨c, hc, hi⟩ := Option.map_eq_some_iff.1 ok_ref41_Then
  exact meets_spec (R := runF g_ref41_Then tc_ref41_Then rv_ref41_Then false) (meets_of Try.func42 hc hi Try.ntmps42 rok_ref41_Then gk_ref41_Then lk_ref41_Then mixed) fun x hok => (e_ref41_Then x.1 x.2.1).trans (s_ref41_Then x.1 x.2.1 hok)
def refLatest (l : Ledger) (k s d : Int) : Decision × Bool := wantL k s d (zeroT, false) l.1
def lenOk4 (l : Ledger) (_ _ _ : Int) : Bool := lenOk l
def fg_ref41_Latest_0 : Fg := ⟨[(1, some tI), (2, some tI), (3, some tI), (8, none), (10, none), (11, some .bool), (15, some (.sl tyDecision)), (16, some tI), (17, some tI)], [(8, some tyDecision), (10, some tyDecision)]⟩
def tb_ref41_Latest_0 : TC := (.sq (.reg [(.mk (some 18) none (.m (.pu (.bin false .lss (.t 17) (.t 16)))))]) (.sq (.cd (.t 18) .sk (.fg ⟨[(8, none), (10, none), (11, some .bool)], [(8, some tyDecision), (10, some tyDecision)]⟩ (.ex 0))) (.sq (.bk 1 (.sq (.reg [(.mk (some 19) none (.m (.pu (.ix 5 (.t 15) (.t 17))))), (.mk (some 20) none (.m (.ld true 5 (.t 19)))), (.mk (some 13) none (.m (.new [(.v (.int .i64 0)), (.v (.int .i64 0)), (.v (.int .i64 0)), (.v (.int .i64 0)), (.v (.int .i64 0))]))), (.mk none none (.m (.st 5 (.t 13) (.t 20))))]) (.sq (.reg [(.mk (some 21) none (.m (.pu (.fa 2 (.t 13))))), (.mk (some 22) none (.m (.ld false 1 (.t 21)))), (.mk (some 23) none (.m (.pu (.mv (.t 1))))), (.mk (some 24) none (.m (.pu (.bin false .eql (.t 22) (.t 23))))), (.mk (some 25) none (.m (.pu (.mv (.t 24))))), (.mk (some 26) (some (25, true)) (.m (.pu (.fa 3 (.t 13))))), (.mk (some 27) (some (25, true)) (.m (.ld false 1 (.t 26)))), (.mk (some 28) (some (25, true)) (.m (.pu (.mv (.t 2))))), (.mk (some 29) (some (25, true)) (.m (.pu (.bin false .eql (.t 27) (.t 28))))), (.mk (some 30) none (.m (.pu (.pick (.t 25) (.t 29) (.c (.v (.bool false))))))), (.mk (some 31) none (.m (.pu (.mv (.t 30))))), (.mk (some 32) (some (31, true)) (.m (.pu (.fa 0 (.t 13))))), (.mk (some 33) (some (31, true)) (.m (.ld false 1 (.t 32)))), (.mk (some 34) (some (31, true)) (.m (.pu (.mv (.t 3))))), (.mk (some 35) (some (31, true)) (.m (.pu (.bin false .leq (.t 33) (.t 34))))), (.mk (some 36) none (.m (.pu (.pick (.t 31) (.t 35) (.c (.v (.bool false)))))))]) (.cd (.t 36) (.reg [(.mk (some 37) none (.m (.ld true 5 (.t 13)))), (.mk none none (.m (.st 5 (.t 10) (.t 37)))), (.mk (some 11) none (.m (.pu (.mv (.c (.v (.bool true)))))))]) .sk)))) (.reg [(.mk (some 38) none (.m (.pu (.bin false .add (.t 17) (.c (.v (.int .i64 1))))))), (.mk (some 17) none (.m (.pu (.mv (.t 38)))))]))))
/-- cipherplan/cipherplanref41.Latest -/
def tc_ref41_Latest : TC := (.sq (.reg [(.mk (some 4) none (.m (.box (.t 0)))), (.mk (some 8) none (.m (.new [(.v (.int .i64 0)), (.v (.int .i64 0)), (.v (.int .i64 0)), (.v (.int .i64 0)), (.v (.int .i64 0))]))), (.mk (some 9) none (.m (.pu (.mv (.c (.v (.bool false)))))))]) (.sq (.reg [(.mk (some 10) none (.m (.new [(.v (.int .i64 0)), (.v (.int .i64 0)), (.v (.int .i64 0)), (.v (.int .i64 0)), (.v (.int .i64 0))])))]) (.sq (.reg [(.mk (some 11) none (.m (.pu (.mv (.c (.v (.bool false)))))))]) (.sq (.sq (.reg [(.mk (some 14) none (.m (.pu (.fa 0 (.t 4))))), (.mk (some 15) none (.m (.ld false 1 (.t 14)))), (.mk (some 16) none (.m (.pu (.len false (.t 15))))), (.mk (some 17) none (.m (.pu (.mv (.c (.v (.int .i64 0)))))))]) (.bk 0 (.lp 0 fg_ref41_Latest_0 tb_ref41_Latest_0))) (.sq (.reg [(.mk (some 39) none (.m (.ld true 5 (.t 10)))), (.mk (some 40) none (.m (.pu (.mv (.t 11))))), (.mk none none (.m (.st 5 (.t 8) (.t 39)))), (.mk (some 9) none (.m (.pu (.mv (.t 40)))))]) .rt)))))
def rv_ref41_Latest : List (RV × Option Ty) := [((.c 8 true 5), some tyDecision), ((.t 9), some .bool)]
abbrev sh_ref41_Latest_0 : Sh := ⟨[(1, .ty tI), (2, .ty tI), (3, .ty tI), (8, .ptr 8 0), (10, .ptr 10 0), (11, .ty .bool), (15, .ty (.sl tyDecision)), (16, .ty tI), (17, .ty tI)], [(8, .box tyDecision), (10, .box tyDecision)]⟩
def st_ref41_Latest_0 (x1 : Int) (x2 : Int) (x3 : Int) (x11 : Bool) (x15 : (List Decision)) (x16 : Int) (x17 : Int) (y8 : Decision) (y10 : Decision) : VS := sh_ref41_Latest_0.st (x1, x2, x3, (), (), x11, x15, x16, x17, ()) (y8, y10, ())
abbrev sh_ref41_Latest_0_e0 : Sh := ⟨[(8, .ptr 8 0), (10, .ptr 10 0), (11, .ty .bool)], [(8, .box tyDecision), (10, .box tyDecision)]⟩
def st_ref41_Latest_0_e0 (x11 : Bool) (y8 : Decision) (y10 : Decision) : VS := sh_ref41_Latest_0_e0.st ((), (), x11, ()) (y8, y10, ())
-- loop 0: (x1 : Int) (x2 : Int) (x3 : Int) (x11 : Bool) (x15 : (List Decision)) (x16 : Int) (x17 : Int) (y8 : Decision) (y10 : Decision); out: ('exit', 0) (x11 : Bool) (y8 : Decision) (y10 : Decision)
def L_ref41_Latest_0 : VS → Option (Bool × List (Bool × Exit × VS)) := mkL sh_ref41_Latest_0 (fun x y => (rngOk x.2.2.2.2.2.2.1 x.2.2.2.2.2.2.2.1 x.2.2.2.2.2.2.2.2.1)) (fun x y => [(true, .exit 0, st_ref41_Latest_0_e0 ((wantL x.1 x.2.1 x.2.2.1 (y.2.1, x.2.2.2.2.2.1) (x.2.2.2.2.2.2.1.drop x.2.2.2.2.2.2.2.2.1.toNat)).2) (y.1) ((wantL x.1 x.2.1 x.2.2.1 (y.2.1, x.2.2.2.2.2.1) (x.2.2.2.2.2.2.1.drop x.2.2.2.2.2.2.2.2.1.toNat)).1))])
def g_ref41_Latest : G := ⟨TYs, [], 41, EL [], keeps, (Ls [L_ref41_Latest_0])⟩
def b_ref41_Latest_0 (x1 : Int) (x2 : Int) (x3 : Int) (x11 : Bool) (x15 : (List Decision)) (x16 : Int) (x17 : Int) (y8 : Decision) (y10 : Decision) : Option (Exit × VS) :=
  br ((ilt x17 x16))
    (br (cIx x15 x17)
      (br ((ieq ((((lgt tyDecision x15 (Int.toNat x17)).2).2).1) x1))
        (br ((ieq (((((lgt tyDecision x15 (Int.toNat x17)).2).2).2).1) x2))
          (br ((ile ((lgt tyDecision x15 (Int.toNat x17)).1) x3))
            (some (.normal, st_ref41_Latest_0 x1 x2 x3 true x15 x16 (iadd .i64 x17 1) y8 (lgt tyDecision x15 (Int.toNat x17))))
            (some (.normal, st_ref41_Latest_0 x1 x2 x3 x11 x15 x16 (iadd .i64 x17 1) y8 y10)))
          (some (.normal, st_ref41_Latest_0 x1 x2 x3 x11 x15 x16 (iadd .i64 x17 1) y8 y10)))
        (some (.normal, st_ref41_Latest_0 x1 x2 x3 x11 x15 x16 (iadd .i64 x17 1) y8 y10)))
      (none))
    (some (.exit 0, st_ref41_Latest_0_e0 x11 y8 y10))
noncomputable def lp_ref41_Latest_0 (x1 : Int) (x2 : Int) (x3 : Int) (x11 : Bool) (x15 : (List Decision)) (x16 : Int) (x17 : Int) (y8 : Decision) (y10 : Decision) : Option (Exit × VS) := loopF (roundF g_ref41_Latest fg_ref41_Latest_0 tb_ref41_Latest_0) (st_ref41_Latest_0 x1 x2 x3 x11 x15 x16 x17 y8 y10)
noncomputable def n_ref41_Latest_0 (x1 : Int) (x2 : Int) (x3 : Int) (x11 : Bool) (x15 : (List Decision)) (x16 : Int) (x17 : Int) (y8 : Decision) (y10 : Decision) : Option (Exit × VS) :=
  br ((ilt x17 x16))
    (br (cIx x15 x17)
      (br ((ieq ((((lgt tyDecision x15 (Int.toNat x17)).2).2).1) x1))
        (br ((ieq (((((lgt tyDecision x15 (Int.toNat x17)).2).2).2).1) x2))
          (br ((ile ((lgt tyDecision x15 (Int.toNat x17)).1) x3))
            (lp_ref41_Latest_0 x1 x2 x3 true x15 x16 (iadd .i64 x17 1) y8 (lgt tyDecision x15 (Int.toNat x17)))
            (lp_ref41_Latest_0 x1 x2 x3 x11 x15 x16 (iadd .i64 x17 1) y8 y10))
          (lp_ref41_Latest_0 x1 x2 x3 x11 x15 x16 (iadd .i64 x17 1) y8 y10))
        (lp_ref41_Latest_0 x1 x2 x3 x11 x15 x16 (iadd .i64 x17 1) y8 y10))
      (none))
    (some (.exit 0, st_ref41_Latest_0_e0 x11 y8 y10))
def la_ref41_Latest_0 (x1 : Int) (x2 : Int) (x3 : Int) (x11 : Bool) (x15 : (List Decision)) (x16 : Int) (x17 : Int) (y8 : Decision) (y10 : Decision) : Option (Exit × VS) := some (.exit 0, st_ref41_Latest_0_e0 ((wantL x1 x2 x3 (y10, x11) (x15.drop x17.toNat)).2) (y8) ((wantL x1 x2 x3 (y10, x11) (x15.drop x17.toNat)).1))
theorem be_ref41_Latest_0 (x1 : Int) (x2 : Int) (x3 : Int) (x11 : Bool) (x15 : (List Decision)) (x16 : Int) (x17 : Int) (y8 : Decision) (y10 : Decision) : roundF g_ref41_Latest fg_ref41_Latest_0 tb_ref41_Latest_0 (st_ref41_Latest_0 x1 x2 x3 x11 x15 x16 x17 y8 y10) = b_ref41_Latest_0 x1 x2 x3 x11 x15 x16 x17 y8 y10 := by kernel_rfl
theorem ln_ref41_Latest_0 (x1 : Int) (x2 : Int) (x3 : Int) (x11 : Bool) (x15 : (List Decision)) (x16 : Int) (x17 : Int) (y8 : Decision) (y10 : Decision) : lp_ref41_Latest_0 x1 x2 x3 x11 x15 x16 x17 y8 y10 = n_ref41_Latest_0 x1 x2 x3 x11 x15 x16 x17 y8 y10 := (loopF_nxt _ _).trans (by
  rw [be_ref41_Latest_0]
  simp only [b_ref41_Latest_0, n_ref41_Latest_0, nxt_br, nxt_n, nxt_r, nxt_e, nxt_0]
  rfl)
def r_ref41_Latest (p0 : Ledger) (p1 : Int) (p2 : Int) (p3 : Int) : Option (V × List VO) :=
  br ((rngOk p0.1 (llen p0.1) (0 : Int)))
    (some (.tu [(.t tyDecision ((wantL p1 p2 p3 ((0, (0, (0, (0, (0, ()))))), false) (p0.1.drop (0 : Int).toNat)).1)), (.t .bool ((wantL p1 p2 p3 ((0, (0, (0, (0, (0, ()))))), false) (p0.1.drop (0 : Int).toNat)).2))], []))
    (none)
theorem e_ref41_Latest (p0 : Ledger) (p1 : Int) (p2 : Int) (p3 : Int) : runF g_ref41_Latest tc_ref41_Latest rv_ref41_Latest false [.t tyLedger p0, .t tI p1, .t tI p2, .t tI p3] [] = r_ref41_Latest p0 p1 p2 p3 := by kernel_rfl
theorem ok_ref41_Latest : Option.map (trC Try.prog) Try.f40.body = some tc_ref41_Latest.er := by kernel_rfl
theorem rok_ref41_Latest : trVs Try.prog Try.f40.results.toList = some (rv_ref41_Latest.map Prod.fst) := by kernel_rfl
theorem en_ref41_Latest : Entered Try.prog 40 := ⟨_, Try.func40, by kernel_rfl, by kernel_rfl⟩
theorem gk_ref41_Latest : GOk Try.prog g_ref41_Latest := gok_of _ (fun p hp => by cases hp)
theorem l_ref41_Latest_0 (x1 : Int) (x2 : Int) (x3 : Int) (x11 : Bool) (x15 : (List Decision)) (x16 : Int) (x17 : Int) (y8 : Decision) (y10 : Decision) (h : (rngOk x15 x16 x17) = true) : lp_ref41_Latest_0 x1 x2 x3 x11 x15 x16 x17 y8 y10 = la_ref41_Latest_0 x1 x2 x3 x11 x15 x16 x17 y8 y10 := by
  obtain ⟨rfl, h3, k, rfl, hk⟩ := rng_k h
  clear h
  revert x11 y10
  refine range_ind x15 (fun k => ∀ x11 y10, lp_ref41_Latest_0 x1 x2 x3 x11 x15 (x15.length : Int) (k : Int) y8 y10 = la_ref41_Latest_0 x1 x2 x3 x11 x15 (x15.length : Int) (k : Int) y8 y10) ?_ ?_ k hk
  · intro x11 y10
    rw [ln_ref41_Latest_0]
    simp [n_ref41_Latest_0, la_ref41_Latest_0, ilt_nat, br_false, wantL]
  · intro k hk ih x11 y10
    rw [ln_ref41_Latest_0]
    simp only [n_ref41_Latest_0, ilt_nat, cIx_nat, hk, decide_true, br_true, Int.toNat_natCast, lgt_get (y := tyDecision) hk, add1 (show k < 4611686018427387904 by omega), ih, la_ref41_Latest_0, wantL_drop hk, wantS]
    generalize ieq _ x1 = b1
    generalize ieq _ x2 = b2
    generalize ile _ x3 = b3
    cases b1 <;> cases b2 <;> cases b3 <;> rfl
theorem lo_ref41_Latest_0 : ∀ S l p, g_ref41_Latest.L 0 (fgt fg_ref41_Latest_0 S) = some (true, l) → pickA l = some p → loopF (roundF g_ref41_Latest fg_ref41_Latest_0 tb_ref41_Latest_0) S = some p :=
  lok_of (s := sh_ref41_Latest_0) ⟨by decide, by decide⟩ (by kernel_rfl) fun x y hok p hp => by
  simp only [pickA_br, pickA_one] at hp
  exact (l_ref41_Latest_0 x.1 x.2.1 x.2.2.1 x.2.2.2.2.2.1 x.2.2.2.2.2.2.1 x.2.2.2.2.2.2.2.1 x.2.2.2.2.2.2.2.2.1 y.1 y.2.1 (by simpa using hok)).trans hp
theorem lk_ref41_Latest : tc_ref41_Latest.lok g_ref41_Latest := by
  repeat (first | exact trivial | exact lo_ref41_Latest_0 | refine ⟨?_, ?_⟩)
theorem s_ref41_Latest (l : Ledger) (k s d : Int) (h : lenOk4 l k s d = true) : r_ref41_Latest l k s d = some (.tu [.t tyDecision (refLatest l k s d).1, .t .bool (refLatest l k s d).2], []) := by
  simp only [lenOk4, lenOk, decide_eq_true_eq] at h
  simp only [r_ref41_Latest, rng_0 h, br_true]
  rfl
def sp_ref41_Latest : Ent := spec (.pr tyLedger (.pr tI (.pr tI (.pr tI .nil)))) (fun x => (lenOk4 x.1 x.2.1 x.2.2.1 x.2.2.2.1)) (fun x => (.tu [(.t tyDecision ((refLatest x.1 x.2.1 x.2.2.1 x.2.2.2.1).1)), (.t .bool ((refLatest x.1 x.2.1 x.2.2.1 x.2.2.2.1).2))]))
theorem ms_ref41_Latest : Meets Try.prog 40 (strip sp_ref41_Latest) := by
  obtain ⟨c, hc, hi⟩ := Option.map_eq_some_iff.1 ok_ref41_Latest
  exact meets_spec (R := runF g_ref41_Latest tc_ref41_Latest rv_ref41_Latest false) (meets_of Try.func40 hc hi Try.ntmps40 rok_ref41_Latest gk_ref41_Latest lk_ref41_Latest mixed) fun x hok => (e_ref41_Latest x.1 x.2.1 x.2.2.1 x.2.2.2.1).trans (s_ref41_Latest x.1 x.2.1 x.2.2.1 x.2.2.2.1 hok)

/-! Valid, Check, Copy, Add of the answer -/
def validV (d : Decision) : Bool := validB (dec d)
/-- cipherplan/cipherplanref41.Valid -/
def tc_ref41_Valid : TC := (.sq (.reg [(.mk (some 1) none (.m (.box (.t 0)))), (.mk (some 2) none (.m (.pu (.mv (.c (.v (.bool false)))))))]) (.sq (.reg [(.mk (some 3) none (.m (.pu (.fa 0 (.t 1))))), (.mk (some 4) none (.m (.ld false 1 (.t 3)))), (.mk (some 5) none (.m (.pu (.bin false .geq (.t 4) (.c (.v (.int .i64 0))))))), (.mk (some 6) none (.m (.pu (.mv (.t 5))))), (.mk (some 7) (some (6, true)) (.m (.pu (.fa 0 (.t 1))))), (.mk (some 8) (some (6, true)) (.m (.ld false 1 (.t 7)))), (.mk (some 9) (some (6, true)) (.m (.pu (.bin false .leq (.t 8) (.c (.v (.int .i64 40000))))))), (.mk (some 10) none (.m (.pu (.pick (.t 6) (.t 9) (.c (.v (.bool false))))))), (.mk (some 11) none (.m (.pu (.mv (.t 10))))), (.mk (some 12) (some (11, true)) (.m (.pu (.fa 1 (.t 1))))), (.mk (some 13) (some (11, true)) (.m (.ld false 1 (.t 12)))), (.mk (some 14) (some (11, true)) (.m (.pu (.bin false .geq (.t 13) (.c (.v (.int .i64 0))))))), (.mk (some 15) none (.m (.pu (.pick (.t 11) (.t 14) (.c (.v (.bool false))))))), (.mk (some 16) none (.m (.pu (.mv (.t 15))))), (.mk (some 17) (some (16, true)) (.m (.pu (.fa 1 (.t 1))))), (.mk (some 18) (some (16, true)) (.m (.ld false 1 (.t 17)))), (.mk (some 19) (some (16, true)) (.m (.pu (.bin false .leq (.t 18) (.c (.v (.int .i64 400))))))), (.mk (some 20) none (.m (.pu (.pick (.t 16) (.t 19) (.c (.v (.bool false))))))), (.mk (some 21) none (.m (.pu (.mv (.t 20))))), (.mk (some 22) (some (21, true)) (.m (.pu (.fa 2 (.t 1))))), (.mk (some 23) (some (21, true)) (.m (.ld false 1 (.t 22)))), (.mk (some 24) (some (21, true)) (.m (.pu (.bin false .geq (.t 23) (.c (.v (.int .i64 1))))))), (.mk (some 25) none (.m (.pu (.pick (.t 21) (.t 24) (.c (.v (.bool false))))))), (.mk (some 26) none (.m (.pu (.mv (.t 25))))), (.mk (some 27) (some (26, true)) (.m (.pu (.fa 2 (.t 1))))), (.mk (some 28) (some (26, true)) (.m (.ld false 1 (.t 27)))), (.mk (some 29) (some (26, true)) (.m (.pu (.bin false .leq (.t 28) (.c (.v (.int .i64 5))))))), (.mk (some 30) none (.m (.pu (.pick (.t 26) (.t 29) (.c (.v (.bool false))))))), (.mk (some 31) none (.m (.pu (.mv (.t 30))))), (.mk (some 32) (some (31, true)) (.m (.pu (.fa 3 (.t 1))))), (.mk (some 33) (some (31, true)) (.m (.ld false 1 (.t 32)))), (.mk (some 34) (some (31, true)) (.m (.pu (.bin false .geq (.t 33) (.c (.v (.int .i64 0))))))), (.mk (some 35) none (.m (.pu (.pick (.t 31) (.t 34) (.c (.v (.bool false))))))), (.mk (some 36) none (.m (.pu (.mv (.t 35))))), (.mk (some 37) (some (36, true)) (.m (.pu (.fa 3 (.t 1))))), (.mk (some 38) (some (36, true)) (.m (.ld false 1 (.t 37)))), (.mk (some 39) (some (36, true)) (.m (.pu (.bin false .leq (.t 38) (.c (.v (.int .i64 40))))))), (.mk (some 40) none (.m (.pu (.pick (.t 36) (.t 39) (.c (.v (.bool false))))))), (.mk (some 41) none (.m (.pu (.mv (.t 40))))), (.mk (some 42) (some (41, true)) (.m (.pu (.fa 4 (.t 1))))), (.mk (some 43) (some (41, true)) (.m (.ld false 1 (.t 42)))), (.mk (some 44) (some (41, true)) (.m (.pu (.bin false .eql (.t 43) (.c (.v (.int .i64 0))))))), (.mk (some 45) (some (41, true)) (.m (.pu (.mv (.t 44))))), (.mk (some 46) (some (45, false)) (.m (.pu (.fa 4 (.t 1))))), (.mk (some 47) (some (45, false)) (.m (.ld false 1 (.t 46)))), (.mk (some 48) (some (45, false)) (.m (.pu (.bin false .eql (.t 47) (.c (.v (.int .i64 1))))))), (.mk (some 49) (some (41, true)) (.m (.pu (.pick (.t 45) (.c (.v (.bool true))) (.t 48))))), (.mk (some 50) none (.m (.pu (.pick (.t 41) (.t 49) (.c (.v (.bool false))))))), (.mk (some 2) none (.m (.pu (.mv (.t 50)))))]) .rt))
def rv_ref41_Valid : List (RV × Option Ty) := [((.t 2), some .bool)]
def g_ref41_Valid : G := ⟨TYs, [], 51, EL [], keeps, (fun _ _ => none)⟩
def r_ref41_Valid (p0 : Decision) : Option (V × List VO) :=
  br ((ige p0.1 0))
    (br ((ile p0.1 40000))
      (br ((ige p0.2.1 0))
        (br ((ile p0.2.1 400))
          (br ((ige p0.2.2.1 1))
            (br ((ile p0.2.2.1 5))
              (br ((ige p0.2.2.2.1 0))
                (br ((ile p0.2.2.2.1 40))
                  (br ((ieq p0.2.2.2.2.1 0))
                    (some (.t .bool true, []))
                    (some (.t .bool (ieq p0.2.2.2.2.1 1), [])))
                  (some (.t .bool false, [])))
                (some (.t .bool false, [])))
              (some (.t .bool false, [])))
            (some (.t .bool false, [])))
          (some (.t .bool false, [])))
        (some (.t .bool false, [])))
      (some (.t .bool false, [])))
    (some (.t .bool false, []))
theorem e_ref41_Valid (p0 : Decision) : runF g_ref41_Valid tc_ref41_Valid rv_ref41_Valid false [.t tyDecision p0] [] = r_ref41_Valid p0 := by kernel_rfl
theorem ok_ref41_Valid : Option.map (trC Try.prog) Try.f65.body = some tc_ref41_Valid.er := by kernel_rfl
theorem rok_ref41_Valid : trVs Try.prog Try.f65.results.toList = some (rv_ref41_Valid.map Prod.fst) := by kernel_rfl
theorem en_ref41_Valid : Entered Try.prog 65 := ⟨_, Try.func65, by kernel_rfl, by kernel_rfl⟩
theorem gk_ref41_Valid : GOk Try.prog g_ref41_Valid := gok_of _ (fun p hp => by cases hp)
theorem lk_ref41_Valid : tc_ref41_Valid.lok g_ref41_Valid := by repeat (first | exact trivial | refine ⟨?_, ?_⟩)
theorem s_ref41_Valid (d : Decision) : r_ref41_Valid d = some (.t .bool (validV d), []) := by
  simp only [r_ref41_Valid, br_and, br_or]
  refine some_b ?_
  rw [Bool.eq_iff_iff]
  simp only [validV, validB, dec, ieq, beq_iff_eq, ige, ile, Bool.and_eq_true, Bool.or_eq_true, decide_eq_true_eq]
  exact ⟨fun h => decide_eq_true h, fun h => of_decide_eq_true h⟩
def sp_ref41_Valid : Ent := spec (.pr tyDecision .nil) (fun x => true) (fun x => (.t .bool (validV x.1)))
theorem ms_ref41_Valid : Meets Try.prog 65 (strip sp_ref41_Valid) := by
  obtain ⟨c, hc, hi⟩ := Option.map_eq_some_iff.1 ok_ref41_Valid
  exact meets_spec (R := runF g_ref41_Valid tc_ref41_Valid rv_ref41_Valid false) (meets_of Try.func65 hc hi Try.ntmps65 rok_ref41_Valid gk_ref41_Valid lk_ref41_Valid mixed) fun x _ => (e_ref41_Valid x.1).trans (s_ref41_Valid x.1)
def chk (l : List Decision) (i : Nat) : Int := checkFrom (decs l) (l.length - i) i
theorem chk_end {l : List Decision} : chk l l.length = 0 := by
  unfold chk
  rw [Nat.sub_self]
  rfl
theorem chk_step {l : List Decision} {i : Nat} (h : i < l.length) : chk l i = if followsR ((decs l).take i) (dec l[i]) ≠ 0 then followsR ((decs l).take i) (dec l[i]) else chk l (i + 1) := by
  unfold chk
  obtain ⟨n, hn⟩ : ∃ n, l.length - i = n + 1 := ⟨l.length - i - 1, by omega⟩
  have e : (decs l)[i]? = some (dec l[i]) := by simp [h]
  rw [hn, show l.length - (i + 1) = n by omega]
  simp only [checkFrom, e]
def dr_ref41_Check_0 : List DO := [(.mk (.mk (some 20) none (.m (.pu (.mv (.t 3))))) []), (.mk (.mk (some 21) none (.m (.pu (.bin false .gtr (.t 20) (.c (.v (.int .i64 0))))))) [0]), (.mk (.mk (some 22) none (.m (.pu (.mv (.t 21))))) [1]), (.mk (.mk (some 23) (some (22, true)) (.m (.pu (.fa 0 (.t 4))))) [2]), (.mk (.mk (some 24) (some (22, true)) (.m (.ld false 1 (.t 23)))) [3, 2]), (.mk (.mk (some 25) (some (22, true)) (.m (.pu (.fa 0 (.t 1))))) [2]), (.mk (.mk (some 26) (some (22, true)) (.m (.ld false 1 (.t 25)))) [5, 2]), (.mk (.mk (some 27) (some (22, true)) (.m (.pu (.mv (.t 3))))) [2]), (.mk (.mk (some 28) (some (22, true)) (.m (.pu (.bin false .sub (.t 27) (.c (.v (.int .i64 1))))))) [7, 2]), (.mk (.mk (some 29) (some (22, true)) (.m (.pu (.ix 5 (.t 26) (.t 28))))) [6, 8, 2]), (.mk (.mk (some 30) (some (22, true)) (.m (.pu (.fa 0 (.t 29))))) [9, 2]), (.mk (.mk (some 31) (some (22, true)) (.m (.ld false 1 (.t 30)))) [10, 2]), (.mk (.mk (some 32) (some (22, true)) (.m (.pu (.bin false .lss (.t 24) (.t 31))))) [4, 11, 2]), (.mk (.mk (some 33) (some (22, true)) (.m (.pu (.mv (.t 32))))) [12, 2, 2]), (.mk (.mk (some 34) (some (33, false)) (.m (.pu (.fa 1 (.t 4))))) [13]), (.mk (.mk (some 35) (some (33, false)) (.m (.ld false 1 (.t 34)))) [14, 13]), (.mk (.mk (some 36) (some (33, false)) (.m (.pu (.fa 0 (.t 1))))) [13]), (.mk (.mk (some 37) (some (33, false)) (.m (.ld false 1 (.t 36)))) [16, 13]), (.mk (.mk (some 38) (some (33, false)) (.m (.pu (.mv (.t 3))))) [13]), (.mk (.mk (some 39) (some (33, false)) (.m (.pu (.bin false .sub (.t 38) (.c (.v (.int .i64 1))))))) [18, 13]), (.mk (.mk (some 40) (some (33, false)) (.m (.pu (.ix 5 (.t 37) (.t 39))))) [17, 19, 13]), (.mk (.mk (some 41) (some (33, false)) (.m (.pu (.fa 1 (.t 40))))) [20, 13]), (.mk (.mk (some 42) (some (33, false)) (.m (.ld false 1 (.t 41)))) [21, 13]), (.mk (.mk (some 43) (some (33, false)) (.m (.pu (.bin false .lss (.t 35) (.t 42))))) [15, 22, 13]), (.mk (.mk (some 44) (some (22, true)) (.m (.pu (.pick (.t 33) (.c (.v (.bool true))) (.t 43))))) [13, 23, 2]), (.mk (.mk (some 45) none (.m (.pu (.pick (.t 22) (.t 44) (.c (.v (.bool false))))))) [2, 24])]
def fg_ref41_Check_0 : Fg := ⟨[(1, none), (10, some (.sl tyDecision)), (11, some tI), (12, some tI)], [(1, some tyLedger)]⟩
def tb_ref41_Check_0 : TC := (.sq (.reg [(.mk (some 13) none (.m (.pu (.bin false .lss (.t 12) (.t 11)))))]) (.sq (.cd (.t 13) .sk (.fg ⟨[], []⟩ (.ex 0))) (.sq (.bk 1 (.sq (.reg [(.mk (some 14) none (.m (.pu (.mv (.t 12))))), (.mk (some 15) none (.m (.pu (.ix 5 (.t 10) (.t 12))))), (.mk (some 16) none (.m (.ld true 5 (.t 15)))), (.mk (some 4) none (.m (.new [(.v (.int .i64 0)), (.v (.int .i64 0)), (.v (.int .i64 0)), (.v (.int .i64 0)), (.v (.int .i64 0))]))), (.mk (some 3) none (.m (.pu (.mv (.t 14))))), (.mk none none (.m (.st 5 (.t 4) (.t 16))))]) (.sq (.sq (.reg [(.mk (some 17) none (.m (.ld true 5 (.t 4)))), (.mk (some 18) none (.call 65 [(.t 17)])), (.mk (some 19) none (.m (.pu (.nt (.t 18)))))]) (.cd (.t 19) (.sq (.reg [(.mk (some 2) none (.m (.pu (.mv (.c (.v (.int .i64 57)))))))]) (.fg ⟨[(2, some tI)], []⟩ .rt)) .sk)) (.sq (.dr dr_ref41_Check_0 [(0, []), (1, []), (2, []), (3, [4]), (4, [4]), (5, [1]), (6, [1]), (7, []), (8, []), (9, []), (10, []), (11, []), (12, []), (13, []), (14, [4]), (15, [4]), (16, [1]), (17, [1]), (18, []), (19, []), (20, []), (21, []), (22, []), (23, []), (24, []), (25, [])] (.of [0, 1, 2, 3, 4, 5, 6, 7, 8, 9, 10, 11, 12, 13, 14, 15, 16, 17, 18, 19, 20, 21, 22, 23, 24, 25])) (.cd (.t 45) (.sq (.reg [(.mk (some 2) none (.m (.pu (.mv (.c (.v (.int .i64 6)))))))]) (.fg ⟨[(2, some tI)], []⟩ .rt)) .sk))))) (.reg [(.mk (some 46) none (.m (.pu (.bin false .add (.t 12) (.c (.v (.int .i64 1))))))), (.mk (some 12) none (.m (.pu (.mv (.t 46)))))]))))
/-- cipherplan/cipherplanref41.Check -/
def tc_ref41_Check : TC := (.sq (.reg [(.mk (some 1) none (.m (.box (.t 0)))), (.mk (some 2) none (.m (.pu (.mv (.c (.v (.int .i64 0)))))))]) (.sq (.sq (.reg [(.mk (some 5) none (.m (.pu (.fa 0 (.t 1))))), (.mk (some 6) none (.m (.ld false 1 (.t 5)))), (.mk (some 7) none (.m (.pu (.len false (.t 6))))), (.mk (some 8) none (.m (.pu (.bin false .gtr (.t 7) (.c (.v (.int .i64 128)))))))]) (.cd (.t 8) (.sq (.reg [(.mk (some 2) none (.m (.pu (.mv (.c (.v (.int .i64 3)))))))]) .rt) .sk)) (.sq (.sq (.reg [(.mk (some 9) none (.m (.pu (.fa 0 (.t 1))))), (.mk (some 10) none (.m (.ld false 1 (.t 9)))), (.mk (some 11) none (.m (.pu (.len false (.t 10))))), (.mk (some 12) none (.m (.pu (.mv (.c (.v (.int .i64 0)))))))]) (.bk 0 (.lp 0 fg_ref41_Check_0 tb_ref41_Check_0))) (.sq (.reg [(.mk (some 2) none (.m (.pu (.mv (.c (.v (.int .i64 0)))))))]) .rt))))
def rv_ref41_Check : List (RV × Option Ty) := [((.t 2), some tI)]
abbrev sh_ref41_Check_0 : Sh := ⟨[(1, .ptr 1 0), (10, .ty (.sl tyDecision)), (11, .ty tI), (12, .ty tI)], [(1, .box tyLedger)]⟩
def st_ref41_Check_0 (x10 : (List Decision)) (x11 : Int) (x12 : Int) (y1 : Ledger) : VS := sh_ref41_Check_0.st ((), x10, x11, x12, ()) (y1, ())
abbrev sh_ref41_Check_0_ret : Sh := ⟨[(2, .ty tI)], []⟩
def st_ref41_Check_0_ret (x2 : Int) : VS := sh_ref41_Check_0_ret.st (x2, ()) ()
abbrev sh_ref41_Check_0_e0 : Sh := ⟨[], []⟩
def st_ref41_Check_0_e0  : VS := sh_ref41_Check_0_e0.st () ()
-- loop 0: (x10 : (List Decision)) (x11 : Int) (x12 : Int) (y1 : Ledger); out: ('ret',) (x2 : Int); ('exit', 0) 
def L_ref41_Check_0 : VS → Option (Bool × List (Bool × Exit × VS)) := mkL sh_ref41_Check_0 (fun x y => (rngOk x.2.1 x.2.2.1 x.2.2.2.1 && decide (y.1.1 = x.2.1))) (fun x y => [((chk x.2.1 x.2.2.2.1.toNat != 0), .ret, st_ref41_Check_0_ret (chk x.2.1 x.2.2.2.1.toNat)), (true, .exit 0, st_ref41_Check_0_e0)])
def g_ref41_Check : G := ⟨TYs, [], 47, EL [(65, sp_ref41_Valid)], keeps, (Ls [L_ref41_Check_0])⟩
def b_ref41_Check_0 (x10 : (List Decision)) (x11 : Int) (x12 : Int) (y1 : Ledger) : Option (Exit × VS) :=
  br ((ilt x12 x11))
    (br (cIx x10 x12)
      (br ((!(validV (lgt tyDecision x10 (Int.toNat x12)))))
        (some (.ret, st_ref41_Check_0_ret 57))
        (br ((igt x12 0))
          (br (cIx y1.1 (isub .i64 x12 1))
            (br ((ilt ((lgt tyDecision x10 (Int.toNat x12)).1) ((lgt tyDecision y1.1 (Int.toNat (isub .i64 x12 1))).1)))
              (some (.ret, st_ref41_Check_0_ret 6))
              (br (cIx y1.1 (isub .i64 x12 1))
                (br ((ilt (((lgt tyDecision x10 (Int.toNat x12)).2).1) (((lgt tyDecision y1.1 (Int.toNat (isub .i64 x12 1))).2).1)))
                  (some (.ret, st_ref41_Check_0_ret 6))
                  (some (.normal, st_ref41_Check_0 x10 x11 (iadd .i64 x12 1) y1)))
                (none)))
            (none))
          (some (.normal, st_ref41_Check_0 x10 x11 (iadd .i64 x12 1) y1))))
      (none))
    (some (.exit 0, st_ref41_Check_0_e0))
noncomputable def lp_ref41_Check_0 (x10 : (List Decision)) (x11 : Int) (x12 : Int) (y1 : Ledger) : Option (Exit × VS) := loopF (roundF g_ref41_Check fg_ref41_Check_0 tb_ref41_Check_0) (st_ref41_Check_0 x10 x11 x12 y1)
noncomputable def n_ref41_Check_0 (x10 : (List Decision)) (x11 : Int) (x12 : Int) (y1 : Ledger) : Option (Exit × VS) :=
  br ((ilt x12 x11))
    (br (cIx x10 x12)
      (br ((!(validV (lgt tyDecision x10 (Int.toNat x12)))))
        (some (.ret, st_ref41_Check_0_ret 57))
        (br ((igt x12 0))
          (br (cIx y1.1 (isub .i64 x12 1))
            (br ((ilt ((lgt tyDecision x10 (Int.toNat x12)).1) ((lgt tyDecision y1.1 (Int.toNat (isub .i64 x12 1))).1)))
              (some (.ret, st_ref41_Check_0_ret 6))
              (br (cIx y1.1 (isub .i64 x12 1))
                (br ((ilt (((lgt tyDecision x10 (Int.toNat x12)).2).1) (((lgt tyDecision y1.1 (Int.toNat (isub .i64 x12 1))).2).1)))
                  (some (.ret, st_ref41_Check_0_ret 6))
                  (lp_ref41_Check_0 x10 x11 (iadd .i64 x12 1) y1))
                (none)))
            (none))
          (lp_ref41_Check_0 x10 x11 (iadd .i64 x12 1) y1)))
      (none))
    (some (.exit 0, st_ref41_Check_0_e0))
def la_ref41_Check_0 (x10 : (List Decision)) (x11 : Int) (x12 : Int) (y1 : Ledger) : Option (Exit × VS) := br (chk x10 x12.toNat != 0) (some (.ret, st_ref41_Check_0_ret (chk x10 x12.toNat))) <| some (.exit 0, st_ref41_Check_0_e0)
theorem be_ref41_Check_0 (x10 : (List Decision)) (x11 : Int) (x12 : Int) (y1 : Ledger) : roundF g_ref41_Check fg_ref41_Check_0 tb_ref41_Check_0 (st_ref41_Check_0 x10 x11 x12 y1) = b_ref41_Check_0 x10 x11 x12 y1 := by kernel_rfl
theorem ln_ref41_Check_0 (x10 : (List Decision)) (x11 : Int) (x12 : Int) (y1 : Ledger) : lp_ref41_Check_0 x10 x11 x12 y1 = n_ref41_Check_0 x10 x11 x12 y1 := (loopF_nxt _ _).trans (by
  rw [be_ref41_Check_0]
  simp only [b_ref41_Check_0, n_ref41_Check_0, nxt_br, nxt_n, nxt_r, nxt_e, nxt_0]
  rfl)
def r_ref41_Check (p0 : Ledger) : Option (V × List VO) :=
  br ((igt (llen p0.1) 128))
    (some (.t tI 3, []))
    (br ((rngOk p0.1 (llen p0.1) (0 : Int) && decide (p0.1 = p0.1)))
      (br ((chk p0.1 (0 : Int).toNat != 0))
        (some (.t tI (chk p0.1 (0 : Int).toNat), []))
        (some (.t tI 0, [])))
      (none))
theorem e_ref41_Check (p0 : Ledger) : runF g_ref41_Check tc_ref41_Check rv_ref41_Check false [.t tyLedger p0] [] = r_ref41_Check p0 := by kernel_rfl
theorem ok_ref41_Check : Option.map (trC Try.prog) Try.f38.body = some tc_ref41_Check.er := by kernel_rfl
theorem rok_ref41_Check : trVs Try.prog Try.f38.results.toList = some (rv_ref41_Check.map Prod.fst) := by kernel_rfl
theorem en_ref41_Check : Entered Try.prog 38 := ⟨_, Try.func38, by kernel_rfl, by kernel_rfl⟩
theorem gk_ref41_Check : GOk Try.prog g_ref41_Check := gok_of _ (by
  intro p hp
  simp only [List.mem_cons, List.not_mem_nil, or_false] at hp
  rcases hp with rfl
  · exact ⟨en_ref41_Valid, ms_ref41_Valid⟩)
theorem l_ref41_Check_0 (x10 : (List Decision)) (x11 : Int) (x12 : Int) (y1 : Ledger) (h : (rngOk x10 x11 x12 && decide (y1.1 = x10)) = true) : lp_ref41_Check_0 x10 x11 x12 y1 = la_ref41_Check_0 x10 x11 x12 y1 := by
  simp only [Bool.and_eq_true, decide_eq_true_eq] at h
  obtain ⟨h0, h5⟩ := h
  obtain ⟨rfl, h3, k, rfl, hk⟩ := rng_k h0
  clear h0
  obtain ⟨l, u⟩ := y1
  have h5' : x10 = l := h5.symm
  clear h5
  subst h5'
  refine range_ind x10 (fun k => lp_ref41_Check_0 x10 (x10.length : Int) (k : Int) (x10, u) = la_ref41_Check_0 x10 (x10.length : Int) (k : Int) (x10, u)) ?_ ?_ k hk
  · rw [ln_ref41_Check_0]
    simp only [n_ref41_Check_0, la_ref41_Check_0, ilt_nat, Nat.lt_irrefl, decide_false, br_false, Int.toNat_natCast, chk_end]
    rfl
  · intro k hk ih
    rw [ln_ref41_Check_0]
    simp only [n_ref41_Check_0, ilt_nat, cIx_nat, hk, decide_true, br_true, Int.toNat_natCast, lgt_get (y := tyDecision) hk, add1 (show k < 4611686018427387904 by omega), ih, la_ref41_Check_0, chk_step hk]
    unfold followsR
    by_cases q1 : validB (dec x10[k]) = true
    · have e1 : validV x10[k] = true := q1
      simp only [e1, Bool.not_true, br_false, q1, Bool.true_eq_false, if_false]
      cases k with
      | zero => simp [igt, br_false]
      | succ j =>
        have hj : j < x10.length := by omega
        have e2 : isub .i64 ((j + 1 : Nat) : Int) 1 = (j : Int) := by rw [isub_in (by omega)]; omega
        have e3 : igt ((j + 1 : Nat) : Int) 0 = true := by simp only [igt, decide_eq_true_eq]; omega
        have e4 : ((decs x10).take (j + 1)).getLast? = some (dec x10[j]) := by
          have : (decs x10).take (j + 1) = (decs x10).take j ++ [dec x10[j]] := by
            rw [List.take_add_one, List.getElem?_map, List.getElem?_eq_getElem hj]
            rfl
          rw [this, List.getLast?_concat]
        simp only [e2, e3, br_true, cIx_nat, hj, decide_true, Int.toNat_natCast, lgt_get (y := tyDecision) hj, e4]
        simp only [dec]
        by_cases q2 : x10[j + 1].1 < x10[j].1
        · simp [ilt, q2, br_true]
        · by_cases q3 : x10[j + 1].2.1 < x10[j].2.1
          · simp [ilt, q2, q3, br_true, br_false]
          · simp [ilt, q2, q3, br_false]
    · have q1' : validB (dec x10[k]) = false := by simpa using q1
      have e1 : validV x10[k] = false := q1'
      simp [e1, br_true, q1']
theorem lo_ref41_Check_0 : ∀ S l p, g_ref41_Check.L 0 (fgt fg_ref41_Check_0 S) = some (true, l) → pickA l = some p → loopF (roundF g_ref41_Check fg_ref41_Check_0 tb_ref41_Check_0) S = some p :=
  lok_of (s := sh_ref41_Check_0) ⟨by decide, by decide⟩ (by kernel_rfl) fun x y hok p hp => by
  simp only [pickA_br, pickA_one] at hp
  exact (l_ref41_Check_0 x.2.1 x.2.2.1 x.2.2.2.1 y.1 (by simpa using hok)).trans hp
theorem lk_ref41_Check : tc_ref41_Check.lok g_ref41_Check := by
  repeat (first | exact trivial | exact lo_ref41_Check_0 | refine ⟨?_, ?_⟩)
theorem s_ref41_Check (l : Ledger) (h : lenOk l = true) : r_ref41_Check l = some (.t tI (checkV l), []) := by
  simp only [lenOk, decide_eq_true_eq] at h
  have e0 : checkV l = if 128 < l.1.length then 3 else chk l.1 0 := by
    unfold checkV checkR chk
    simp only [decs, List.length_map, Nat.sub_zero]
  have e1 : (rngOk l.1 (llen l.1) 0 && decide (l.1 = l.1)) = true := by simp only [rng_0 h, Bool.true_and, decide_true]
  rw [e0]
  unfold r_ref41_Check
  by_cases q : 128 < l.1.length
  · have e2 : igt (llen l.1) 128 = true := by simp only [igt, llen, decide_eq_true_eq]; omega
    rw [e2, br_true, if_pos q]
  · have e2 : igt (llen l.1) 128 = false := by simp only [igt, llen, decide_eq_false_iff_not]; omega
    rw [e2, br_false, if_neg q, e1, br_true]
    show br (chk l.1 0 != 0) (some (V.t tI (chk l.1 0), [])) _ = _
    cases q2 : chk l.1 0 != 0 with
    | true => rfl
    | false =>
      have : chk l.1 0 = 0 := by simpa using q2
      rw [this]
      rfl
def sp_ref41_Check : Ent := spec (.pr tyLedger .nil) (fun x => (lenOk x.1)) (fun x => (.t tI (checkV x.1)))
theorem ms_ref41_Check : Meets Try.prog 38 (strip sp_ref41_Check) := by
  obtain ⟨c, hc, hi⟩ := Option.map_eq_some_iff.1 ok_ref41_Check
  exact meets_spec (R := runF g_ref41_Check tc_ref41_Check rv_ref41_Check false) (meets_of Try.func38 hc hi Try.ntmps38 rok_ref41_Check gk_ref41_Check lk_ref41_Check mixed) fun x hok => (e_ref41_Check x.1).trans (s_ref41_Check x.1 hok)
def copyV (l : Ledger) : Ledger := l
/-- cipherplan/cipherplanref41.Copy -/
def tc_ref41_Copy : TC := (.sq (.reg [(.mk (some 1) none (.m (.box (.t 0)))), (.mk (some 2) none (.m (.new [(.v (.slice none 0 0))])))]) (.sq (.reg [(.mk (some 3) none (.m (.pu (.fa 0 (.t 1))))), (.mk (some 4) none (.m (.ld false 1 (.t 3)))), (.mk (some 5) none (.m (.app 40 5 40 (.c (.v (.slice none 0 0))) (.t 4)))), (.mk (some 6) none (.m (.pu (.bd [(.v (.slice none 0 0))] [(0, 1, (.t 5))])))), (.mk none none (.m (.st 1 (.t 2) (.t 6))))]) .rt))
def rv_ref41_Copy : List (RV × Option Ty) := [((.c 2 true 1), none)]
def g_ref41_Copy : G := ⟨TYs, [], 7, EL [], keeps, (fun _ _ => none)⟩
def r_ref41_Copy (p0 : Ledger) : Option (V × List VO) :=
  br (cApp ([] : List Decision) p0.1 40)
    (some (.ag [(.ms 50000)], [.arr 40 tyDecision (([] : List Decision) ++ p0.1)]))
    (none)
theorem e_ref41_Copy (p0 : Ledger) : runF g_ref41_Copy tc_ref41_Copy rv_ref41_Copy true [.t tyLedger p0] [] = r_ref41_Copy p0 := by kernel_rfl
theorem ok_ref41_Copy : Option.map (trC Try.prog) Try.f64.body = some tc_ref41_Copy.er := by kernel_rfl
theorem rok_ref41_Copy : trVs Try.prog Try.f64.results.toList = some (rv_ref41_Copy.map Prod.fst) := by kernel_rfl
theorem en_ref41_Copy : Entered Try.prog 64 := ⟨_, Try.func64, by kernel_rfl, by kernel_rfl⟩
theorem gk_ref41_Copy : GOk Try.prog g_ref41_Copy := gok_of _ (fun p hp => by cases hp)
theorem lk_ref41_Copy : tc_ref41_Copy.lok g_ref41_Copy := by repeat (first | exact trivial | refine ⟨?_, ?_⟩)
theorem s_ref41_Copy (l : Ledger) (h : lenOk l = true) : r_ref41_Copy l = some (.ag [.ms 50000], [.arr 40 tyDecision l.1]) := by
  simp only [lenOk, decide_eq_true_eq] at h
  have e1 : cApp ([] : List Decision) l.1 40 = true := cApp_ok (by simp only [List.length_nil]; omega) (by decide)
  simp only [r_ref41_Copy, e1, br_true, List.nil_append]
def sp_ref41_Copy : Ent := specO (.pr tyLedger .nil) (fun x => (lenOk x.1)) (fun x => (.ag [(.ms 50000)])) (fun x => [.arr 40 tyDecision ((copyV x.1).1)])
theorem ms_ref41_Copy : Meets Try.prog 64 (strip sp_ref41_Copy) := by
  obtain ⟨c, hc, hi⟩ := Option.map_eq_some_iff.1 ok_ref41_Copy
  exact meets_specO (R := runF g_ref41_Copy tc_ref41_Copy rv_ref41_Copy true) (meets_of Try.func64 hc hi Try.ntmps64 rok_ref41_Copy gk_ref41_Copy lk_ref41_Copy mixed) fun x hok => (e_ref41_Copy x.1).trans (s_ref41_Copy x.1 hok)
def dr_ref41_Add_0 : List DO := [(.mk (.mk (some 27) none (.m (.pu (.mv (.t 8))))) []), (.mk (.mk (some 28) none (.m (.pu (.bin false .gtr (.t 27) (.c (.v (.int .i64 0))))))) [0]), (.mk (.mk (some 29) none (.m (.pu (.mv (.t 28))))) [1]), (.mk (.mk (some 30) (some (29, true)) (.m (.pu (.fa 0 (.t 3))))) [2]), (.mk (.mk (some 31) (some (29, true)) (.m (.ld false 1 (.t 30)))) [3, 2]), (.mk (.mk (some 32) (some (29, true)) (.m (.pu (.fa 0 (.t 2))))) [2]), (.mk (.mk (some 33) (some (29, true)) (.m (.ld false 1 (.t 32)))) [5, 2]), (.mk (.mk (some 34) (some (29, true)) (.m (.pu (.mv (.t 8))))) [2]), (.mk (.mk (some 35) (some (29, true)) (.m (.pu (.bin false .sub (.t 34) (.c (.v (.int .i64 1))))))) [7, 2]), (.mk (.mk (some 36) (some (29, true)) (.m (.pu (.ix 5 (.t 33) (.t 35))))) [6, 8, 2]), (.mk (.mk (some 37) (some (29, true)) (.m (.pu (.fa 0 (.t 36))))) [9, 2]), (.mk (.mk (some 38) (some (29, true)) (.m (.ld false 1 (.t 37)))) [10, 2]), (.mk (.mk (some 39) (some (29, true)) (.m (.pu (.bin false .lss (.t 31) (.t 38))))) [4, 11, 2]), (.mk (.mk (some 40) (some (29, true)) (.m (.pu (.mv (.t 39))))) [12, 2, 2]), (.mk (.mk (some 41) (some (40, false)) (.m (.pu (.fa 1 (.t 3))))) [13]), (.mk (.mk (some 42) (some (40, false)) (.m (.ld false 1 (.t 41)))) [14, 13]), (.mk (.mk (some 43) (some (40, false)) (.m (.pu (.fa 0 (.t 2))))) [13]), (.mk (.mk (some 44) (some (40, false)) (.m (.ld false 1 (.t 43)))) [16, 13]), (.mk (.mk (some 45) (some (40, false)) (.m (.pu (.mv (.t 8))))) [13]), (.mk (.mk (some 46) (some (40, false)) (.m (.pu (.bin false .sub (.t 45) (.c (.v (.int .i64 1))))))) [18, 13]), (.mk (.mk (some 47) (some (40, false)) (.m (.pu (.ix 5 (.t 44) (.t 46))))) [17, 19, 13]), (.mk (.mk (some 48) (some (40, false)) (.m (.pu (.fa 1 (.t 47))))) [20, 13]), (.mk (.mk (some 49) (some (40, false)) (.m (.ld false 1 (.t 48)))) [21, 13]), (.mk (.mk (some 50) (some (40, false)) (.m (.pu (.bin false .lss (.t 42) (.t 49))))) [15, 22, 13]), (.mk (.mk (some 51) (some (29, true)) (.m (.pu (.pick (.t 40) (.c (.v (.bool true))) (.t 50))))) [13, 23, 2]), (.mk (.mk (some 52) none (.m (.pu (.pick (.t 29) (.t 51) (.c (.v (.bool false))))))) [2, 24])]
/-- cipherplan/cipherplanref41.Add -/
def tc_ref41_Add : TC := (.sq (.reg [(.mk (some 2) none (.m (.box (.t 0)))), (.mk (some 3) none (.m (.box (.t 1)))), (.mk (some 4) none (.m (.new [(.v (.slice none 0 0))]))), (.mk (some 5) none (.m (.pu (.mv (.c (.v (.int .i64 0)))))))]) (.sq (.reg [(.mk (some 9) none (.m (.ld true 1 (.t 2)))), (.mk (some 10) none (.call 64 [(.t 9)])), (.mk (some 6) none (.m (.new [(.v (.slice none 0 0))]))), (.mk none none (.m (.st 1 (.t 6) (.t 10))))]) (.sq (.sq (.reg [(.mk (some 11) none (.m (.ld true 1 (.t 2)))), (.mk (some 12) none (.call 38 [(.t 11)])), (.mk (some 7) none (.m (.pu (.mv (.t 12)))))]) (.sq (.reg [(.mk (some 13) none (.m (.pu (.mv (.t 7))))), (.mk (some 14) none (.m (.pu (.bin false .neq (.t 13) (.c (.v (.int .i64 0)))))))]) (.cd (.t 14) (.sq (.reg [(.mk (some 15) none (.m (.ld true 1 (.t 6)))), (.mk (some 16) none (.m (.pu (.mv (.t 7))))), (.mk none none (.m (.st 1 (.t 4) (.t 15)))), (.mk (some 5) none (.m (.pu (.mv (.t 16)))))]) .rt) .sk))) (.sq (.reg [(.mk (some 17) none (.m (.pu (.fa 0 (.t 2))))), (.mk (some 18) none (.m (.ld false 1 (.t 17)))), (.mk (some 19) none (.m (.pu (.len false (.t 18))))), (.mk (some 8) none (.m (.pu (.mv (.t 19)))))]) (.sq (.sq (.reg [(.mk (some 20) none (.m (.pu (.mv (.t 8))))), (.mk (some 21) none (.m (.pu (.bin false .geq (.t 20) (.c (.v (.int .i64 128)))))))]) (.cd (.t 21) (.sq (.reg [(.mk (some 22) none (.m (.ld true 1 (.t 6)))), (.mk none none (.m (.st 1 (.t 4) (.t 22)))), (.mk (some 5) none (.m (.pu (.mv (.c (.v (.int .i64 3)))))))]) .rt) .sk)) (.sq (.sq (.reg [(.mk (some 23) none (.m (.ld true 5 (.t 3)))), (.mk (some 24) none (.call 65 [(.t 23)])), (.mk (some 25) none (.m (.pu (.nt (.t 24)))))]) (.cd (.t 25) (.sq (.reg [(.mk (some 26) none (.m (.ld true 1 (.t 6)))), (.mk none none (.m (.st 1 (.t 4) (.t 26)))), (.mk (some 5) none (.m (.pu (.mv (.c (.v (.int .i64 57)))))))]) .rt) .sk)) (.sq (.sq (.dr dr_ref41_Add_0 [(0, []), (1, []), (2, []), (3, [3]), (4, [3]), (5, [2]), (6, [2]), (7, []), (8, []), (9, []), (10, []), (11, []), (12, []), (13, []), (14, [3]), (15, [3]), (16, [2]), (17, [2]), (18, []), (19, []), (20, []), (21, []), (22, []), (23, []), (24, []), (25, [])] (.of [0, 1, 2, 3, 4, 5, 6, 7, 8, 9, 10, 11, 12, 13, 14, 15, 16, 17, 18, 19, 20, 21, 22, 23, 24, 25])) (.cd (.t 52) (.sq (.reg [(.mk (some 53) none (.m (.ld true 1 (.t 6)))), (.mk none none (.m (.st 1 (.t 4) (.t 53)))), (.mk (some 5) none (.m (.pu (.mv (.c (.v (.int .i64 6)))))))]) .rt) .sk)) (.sq (.reg [(.mk (some 54) none (.m (.pu (.fa 0 (.t 6))))), (.mk (some 55) none (.m (.ld false 1 (.t 54)))), (.mk (some 56) none (.m (.ld true 5 (.t 3)))), (.mk (some 57) none (.m (.bs 40 5 1 [(.v (.int .i64 0)), (.v (.int .i64 0)), (.v (.int .i64 0)), (.v (.int .i64 0)), (.v (.int .i64 0))] [(0, 5, (.t 56))]))), (.mk (some 58) none (.m (.app 40 5 40 (.t 55) (.t 57)))), (.mk (some 59) none (.m (.pu (.fa 0 (.t 6))))), (.mk none none (.m (.st 1 (.t 59) (.t 58))))]) (.sq (.reg [(.mk (some 60) none (.m (.ld true 1 (.t 6)))), (.mk none none (.m (.st 1 (.t 4) (.t 60)))), (.mk (some 5) none (.m (.pu (.mv (.c (.v (.int .i64 0)))))))]) .rt)))))))))
def rv_ref41_Add : List (RV × Option Ty) := [((.c 4 true 1), some tyLedger), ((.t 5), some tI)]
def g_ref41_Add : G := ⟨TYs, [], 61, EL [(38, sp_ref41_Check), (64, sp_ref41_Copy), (65, sp_ref41_Valid)], keeps, (fun _ _ => none)⟩
def r_ref41_Add_1 (p0 : Ledger) (p1 : Decision) : Option (V × List VO) :=
  br (cApp ((copyV p0).1) ([(p1.1, (p1.2.1, (p1.2.2.1, (p1.2.2.2.1, (p1.2.2.2.2.1, ())))))]) 40)
    (some (.tu [(.t tyLedger ((((copyV p0).1) ++ ([(p1.1, (p1.2.1, (p1.2.2.1, (p1.2.2.2.1, (p1.2.2.2.2.1, ())))))])), ())), (.t tI 0)], []))
    (none)
def r_ref41_Add (p0 : Ledger) (p1 : Decision) : Option (V × List VO) :=
  br ((lenOk p0))
    (br ((lenOk p0))
      (br ((ine (checkV p0) 0))
        (some (.tu [(.t tyLedger ((copyV p0).1, ())), (.t tI (checkV p0))], []))
        (br ((ige (llen p0.1) 128))
          (some (.tu [(.t tyLedger ((copyV p0).1, ())), (.t tI 3)], []))
          (br ((!(validV p1)))
            (some (.tu [(.t tyLedger ((copyV p0).1, ())), (.t tI 57)], []))
            (br ((igt (llen p0.1) 0))
              (br (cIx p0.1 (isub .i64 (llen p0.1) 1))
                (br ((ilt p1.1 ((lgt tyDecision p0.1 (Int.toNat (isub .i64 (llen p0.1) 1))).1)))
                  (some (.tu [(.t tyLedger ((copyV p0).1, ())), (.t tI 6)], []))
                  (br (cIx p0.1 (isub .i64 (llen p0.1) 1))
                    (br ((ilt p1.2.1 (((lgt tyDecision p0.1 (Int.toNat (isub .i64 (llen p0.1) 1))).2).1)))
                      (some (.tu [(.t tyLedger ((copyV p0).1, ())), (.t tI 6)], []))
                      (r_ref41_Add_1 p0 p1))
                    (none)))
                (none))
              (r_ref41_Add_1 p0 p1)))))
      (none))
    (none)
theorem e_ref41_Add (p0 : Ledger) (p1 : Decision) : runF g_ref41_Add tc_ref41_Add rv_ref41_Add false [.t tyLedger p0, .t tyDecision p1] [] = r_ref41_Add p0 p1 := by kernel_rfl
theorem ok_ref41_Add : Option.map (trC Try.prog) Try.f37.body = some tc_ref41_Add.er := by kernel_rfl
theorem rok_ref41_Add : trVs Try.prog Try.f37.results.toList = some (rv_ref41_Add.map Prod.fst) := by kernel_rfl
theorem en_ref41_Add : Entered Try.prog 37 := ⟨_, Try.func37, by kernel_rfl, by kernel_rfl⟩
theorem gk_ref41_Add : GOk Try.prog g_ref41_Add := gok_of _ (by
  intro p hp
  simp only [List.mem_cons, List.not_mem_nil, or_false] at hp
  rcases hp with rfl | rfl | rfl
  · exact ⟨en_ref41_Check, ms_ref41_Check⟩
  · exact ⟨en_ref41_Copy, ms_ref41_Copy⟩
  · exact ⟨en_ref41_Valid, ms_ref41_Valid⟩)
theorem lk_ref41_Add : tc_ref41_Add.lok g_ref41_Add := by repeat (first | exact trivial | refine ⟨?_, ?_⟩)
theorem s_ref41_Add (l : Ledger) (d : Decision) (h : addOk l d = true) : r_ref41_Add l d = some (.tu [.t tyLedger (addV l d).1, .t tI (addV l d).2], []) := by
  have h0 : lenOk l = true := h
  have h1 := h0
  simp only [lenOk, decide_eq_true_eq] at h1
  obtain ⟨l, u⟩ := l
  have h1 : l.length ≤ 100000 := h1
  have hl : (decs l).length = l.length := List.length_map _
  have e1 : cApp l [d] 40 = true := cApp_ok (by simp only [List.length_singleton]; omega) (by decide)
  have e1' : cApp l [(d.1, (d.2.1, (d.2.2.1, (d.2.2.2.1, (d.2.2.2.2.1, ())))))] 40 = true := e1
  have ea : addV (l, u) d = ((if addR (decs l) (dec d) = 0 then l ++ [d] else l, ()), addR (decs l) (dec d)) := by
    simp only [addV, addL]
    by_cases q : addR (decs l) (dec d) = 0
    · have : decs l ++ [dec d] = decs (l ++ [d]) := by simp
      rw [if_pos q, if_pos q, this, und_decs]
    · rw [if_neg q, if_neg q, und_decs]
  have ec : checkV (l, u) = checkR (decs l) := rfl
  rw [ea]
  simp only [r_ref41_Add, r_ref41_Add_1, h0, br_true, copyV, e1', ec]
  unfold addR
  by_cases q1 : checkR (decs l) = 0
  · have e2 : ine (checkR (decs l)) 0 = false := by simp [ine, q1]
    rw [e2, br_false]
    by_cases q2 : 128 ≤ l.length
    · have e3 : ige (llen l) 128 = true := by simp only [ige, llen, decide_eq_true_eq]; omega
      rw [e3, br_true]
      simp [q1, q2]
    · have e3 : ige (llen l) 128 = false := by simp only [ige, llen, decide_eq_false_iff_not]; omega
      rw [e3, br_false]
      unfold followsR
      by_cases q3 : validB (dec d) = true
      · have e4 : validV d = true := q3
        simp only [e4, Bool.not_true, br_false, q1, hl, q2, q3]
        rcases hq : l with _ | ⟨y, l'⟩
        · have e5 : igt (llen ([] : List Decision)) 0 = false := rfl
          simp [e5, br_false]
        · rw [← hq]
          have hp : 0 < l.length := by rw [hq]; simp
          obtain ⟨m, hm⟩ : ∃ m, l.length = m + 1 := ⟨l.length - 1, by omega⟩
          have e5 : igt (llen l) 0 = true := by simp only [igt, llen, decide_eq_true_eq]; omega
          have hml : m < l.length := by omega
          have e6 : isub .i64 (llen l) 1 = (m : Int) := by rw [isub_in (by simp only [llen]; omega)]; simp only [llen]; omega
          have e7 : (decs l).getLast? = some (dec l[m]) := by
            rw [List.getLast?_eq_getElem?, hl, hm, Nat.add_sub_cancel]
            simp [hml]
          simp only [e5, br_true, e6, cIx_nat, hml, decide_true, Int.toNat_natCast, lgt_get (y := tyDecision) hml, e7]
          simp only [dec]
          by_cases q4 : d.1 < l[m].1
          · simp [ilt, q4, br_true]
          · by_cases q5 : d.2.1 < l[m].2.1
            · simp [ilt, q4, q5, br_true, br_false]
            · simp [ilt, q4, q5, br_false]
      · have q3' : validB (dec d) = false := by simpa using q3
        have e4 : validV d = false := q3'
        simp [e4, br_true, q1, hl, q2, q3']
  · have e2 : ine (checkR (decs l)) 0 = true := by simp [ine, q1]
    rw [e2, br_true]
    simp [q1]
def sp_ref41_Add : Ent := spec (.pr tyLedger (.pr tyDecision .nil)) (fun x => (addOk x.1 x.2.1)) (fun x => (.tu [(.t tyLedger ((addV x.1 x.2.1).1)), (.t tI ((addV x.1 x.2.1).2))]))
theorem ms_ref41_Add : Meets Try.prog 37 (strip sp_ref41_Add) := by
  obtain ⟨c, hc, hi⟩ := Option.map_eq_some_iff.1 ok_ref41_Add
  exact meets_spec (R := runF g_ref41_Add tc_ref41_Add rv_ref41_Add false) (meets_of Try.func37 hc hi Try.ntmps37 rok_ref41_Add gk_ref41_Add lk_ref41_Add mixed) fun x hok => (e_ref41_Add x.1 x.2.1).trans (s_ref41_Add x.1 x.2.1 hok)
def sameIs (a b : List Int) : Bool := a == b
def sameIsOk (a b : List Int) : Bool := decide (a.length ≤ 100000 ∧ b.length ≤ 100000)
def dr_ref26_SameInts_0 : List DO := [(.mk (.mk (some 16) none (.m (.pu (.mv (.t 0))))) []), (.mk (.mk (some 17) none (.m (.pu (.mv (.t 5))))) []), (.mk (.mk (some 18) none (.m (.pu (.ix 1 (.t 16) (.t 17))))) [0, 1]), (.mk (.mk (some 19) none (.m (.ld false 1 (.t 18)))) [2]), (.mk (.mk (some 20) none (.m (.pu (.mv (.t 1))))) []), (.mk (.mk (some 21) none (.m (.pu (.mv (.t 5))))) []), (.mk (.mk (some 22) none (.m (.pu (.ix 1 (.t 20) (.t 21))))) [4, 5]), (.mk (.mk (some 23) none (.m (.ld false 1 (.t 22)))) [6]), (.mk (.mk (some 24) none (.m (.pu (.bin false .neq (.t 19) (.t 23))))) [3, 7])]
def fg_ref26_SameInts_0 : Fg := ⟨[(0, some (.sl tI)), (1, some (.sl tI)), (12, some tI), (13, some tI)], []⟩
def tb_ref26_SameInts_0 : TC := (.sq (.reg [(.mk (some 14) none (.m (.pu (.bin false .lss (.t 13) (.t 12)))))]) (.sq (.cd (.t 14) .sk (.fg ⟨[], []⟩ (.ex 0))) (.sq (.bk 1 (.sq (.reg [(.mk (some 15) none (.m (.pu (.mv (.t 13))))), (.mk (some 5) none (.m (.pu (.mv (.t 15)))))]) (.sq (.dr dr_ref26_SameInts_0 [(0, []), (1, []), (2, []), (3, []), (4, []), (5, []), (6, []), (7, []), (8, [])] (.of [0, 1, 2, 3, 4, 5, 6, 7, 8])) (.cd (.t 24) (.sq (.reg [(.mk (some 4) none (.m (.pu (.mv (.c (.v (.bool false)))))))]) (.fg ⟨[(4, some .bool)], []⟩ .rt)) .sk)))) (.reg [(.mk (some 25) none (.m (.pu (.bin false .add (.t 13) (.c (.v (.int .i64 1))))))), (.mk (some 13) none (.m (.pu (.mv (.t 25)))))]))))
/-- cipherplan/cipherplanref26.SameInts -/
def tc_ref26_SameInts : TC := (.sq (.reg [(.mk (some 4) none (.m (.pu (.mv (.c (.v (.bool false)))))))]) (.sq (.sq (.reg [(.mk (some 6) none (.m (.pu (.mv (.t 0))))), (.mk (some 7) none (.m (.pu (.len false (.t 6))))), (.mk (some 8) none (.m (.pu (.mv (.t 1))))), (.mk (some 9) none (.m (.pu (.len false (.t 8))))), (.mk (some 10) none (.m (.pu (.bin false .neq (.t 7) (.t 9)))))]) (.cd (.t 10) (.sq (.reg [(.mk (some 4) none (.m (.pu (.mv (.c (.v (.bool false)))))))]) .rt) .sk)) (.sq (.sq (.reg [(.mk (some 11) none (.m (.pu (.mv (.t 0))))), (.mk (some 12) none (.m (.pu (.len false (.t 11))))), (.mk (some 13) none (.m (.pu (.mv (.c (.v (.int .i64 0)))))))]) (.bk 0 (.lp 0 fg_ref26_SameInts_0 tb_ref26_SameInts_0))) (.sq (.reg [(.mk (some 4) none (.m (.pu (.mv (.c (.v (.bool true)))))))]) .rt))))
def rv_ref26_SameInts : List (RV × Option Ty) := [((.t 4), some .bool)]
abbrev sh_ref26_SameInts_0 : Sh := ⟨[(0, .ty (.sl tI)), (1, .ty (.sl tI)), (12, .ty tI), (13, .ty tI)], []⟩
def st_ref26_SameInts_0 (x0 : (List Int)) (x1 : (List Int)) (x12 : Int) (x13 : Int) : VS := sh_ref26_SameInts_0.st (x0, x1, x12, x13, ()) ()
abbrev sh_ref26_SameInts_0_ret : Sh := ⟨[(4, .ty .bool)], []⟩
def st_ref26_SameInts_0_ret (x4 : Bool) : VS := sh_ref26_SameInts_0_ret.st (x4, ()) ()
abbrev sh_ref26_SameInts_0_e0 : Sh := ⟨[], []⟩
def st_ref26_SameInts_0_e0  : VS := sh_ref26_SameInts_0_e0.st () ()
-- loop 0: (x0 : (List Int)) (x1 : (List Int)) (x12 : Int) (x13 : Int); out: ('ret',) (x4 : Bool); ('exit', 0) 
def L_ref26_SameInts_0 : VS → Option (Bool × List (Bool × Exit × VS)) := mkL sh_ref26_SameInts_0 (fun x y => (rngOk x.1 x.2.2.1 x.2.2.2.1 && decide (x.1.length = x.2.1.length))) (fun x y => [((!(x.1.drop x.2.2.2.1.toNat == x.2.1.drop x.2.2.2.1.toNat)), .ret, st_ref26_SameInts_0_ret (false)), (true, .exit 0, st_ref26_SameInts_0_e0)])
def g_ref26_SameInts : G := ⟨TYs, [], 26, EL [], keeps, (Ls [L_ref26_SameInts_0])⟩
def b_ref26_SameInts_0 (x0 : (List Int)) (x1 : (List Int)) (x12 : Int) (x13 : Int) : Option (Exit × VS) :=
  br ((ilt x13 x12))
    (br (cIx x0 x13)
      (br (cIx x1 x13)
        (br ((ine (lgt tI x0 (Int.toNat x13)) (lgt tI x1 (Int.toNat x13))))
          (some (.ret, st_ref26_SameInts_0_ret false))
          (some (.normal, st_ref26_SameInts_0 x0 x1 x12 (iadd .i64 x13 1))))
        (none))
      (none))
    (some (.exit 0, st_ref26_SameInts_0_e0))
noncomputable def lp_ref26_SameInts_0 (x0 : (List Int)) (x1 : (List Int)) (x12 : Int) (x13 : Int) : Option (Exit × VS) := loopF (roundF g_ref26_SameInts fg_ref26_SameInts_0 tb_ref26_SameInts_0) (st_ref26_SameInts_0 x0 x1 x12 x13)
noncomputable def n_ref26_SameInts_0 (x0 : (List Int)) (x1 : (List Int)) (x12 : Int) (x13 : Int) : Option (Exit × VS) :=
  br ((ilt x13 x12))
    (br (cIx x0 x13)
      (br (cIx x1 x13)
        (br ((ine (lgt tI x0 (Int.toNat x13)) (lgt tI x1 (Int.toNat x13))))
          (some (.ret, st_ref26_SameInts_0_ret false))
          (lp_ref26_SameInts_0 x0 x1 x12 (iadd .i64 x13 1)))
        (none))
      (none))
    (some (.exit 0, st_ref26_SameInts_0_e0))
def la_ref26_SameInts_0 (x0 : (List Int)) (x1 : (List Int)) (x12 : Int) (x13 : Int) : Option (Exit × VS) := br (!(x0.drop x13.toNat == x1.drop x13.toNat)) (some (.ret, st_ref26_SameInts_0_ret (false))) <| some (.exit 0, st_ref26_SameInts_0_e0)
theorem be_ref26_SameInts_0 (x0 : (List Int)) (x1 : (List Int)) (x12 : Int) (x13 : Int) : roundF g_ref26_SameInts fg_ref26_SameInts_0 tb_ref26_SameInts_0 (st_ref26_SameInts_0 x0 x1 x12 x13) = b_ref26_SameInts_0 x0 x1 x12 x13 := by kernel_rfl
theorem ln_ref26_SameInts_0 (x0 : (List Int)) (x1 : (List Int)) (x12 : Int) (x13 : Int) : lp_ref26_SameInts_0 x0 x1 x12 x13 = n_ref26_SameInts_0 x0 x1 x12 x13 := (loopF_nxt _ _).trans (by
  rw [be_ref26_SameInts_0]
  simp only [b_ref26_SameInts_0, n_ref26_SameInts_0, nxt_br, nxt_n, nxt_r, nxt_e, nxt_0]
  rfl)
def r_ref26_SameInts (p0 : (List Int)) (p1 : (List Int)) : Option (V × List VO) :=
  br ((ine (llen p0) (llen p1)))
    (some (.t .bool false, []))
    (br ((rngOk p0 (llen p0) (0 : Int) && decide (p0.length = p1.length)))
      (br ((!(p0.drop (0 : Int).toNat == p1.drop (0 : Int).toNat)))
        (some (.t .bool (false), []))
        (some (.t .bool true, [])))
      (none))
theorem e_ref26_SameInts (p0 : (List Int)) (p1 : (List Int)) : runF g_ref26_SameInts tc_ref26_SameInts rv_ref26_SameInts false [.t (.sl tI) p0, .t (.sl tI) p1] [] = r_ref26_SameInts p0 p1 := by kernel_rfl
theorem ok_ref26_SameInts : Option.map (trC Try.prog) Try.f43.body = some tc_ref26_SameInts.er := by kernel_rfl
theorem rok_ref26_SameInts : trVs Try.prog Try.f43.results.toList = some (rv_ref26_SameInts.map Prod.fst) := by kernel_rfl
theorem en_ref26_SameInts : Entered Try.prog 43 := ⟨_, Try.func43, by kernel_rfl, by kernel_rfl⟩
theorem gk_ref26_SameInts : GOk Try.prog g_ref26_SameInts := gok_of _ (fun p hp => by cases hp)
theorem l_ref26_SameInts_0 (x0 : (List Int)) (x1 : (List Int)) (x12 : Int) (x13 : Int) (h : (rngOk x0 x12 x13 && decide (x0.length = x1.length)) = true) : lp_ref26_SameInts_0 x0 x1 x12 x13 = la_ref26_SameInts_0 x0 x1 x12 x13 := by
  simp only [Bool.and_eq_true, decide_eq_true_eq] at h
  obtain ⟨h0, h5⟩ := h
  obtain ⟨rfl, h3, k, rfl, hk⟩ := rng_k h0
  clear h0
  refine range_ind x0 (fun k => lp_ref26_SameInts_0 x0 x1 (x0.length : Int) (k : Int) = la_ref26_SameInts_0 x0 x1 (x0.length : Int) (k : Int)) ?_ ?_ k hk
  · rw [ln_ref26_SameInts_0]
    have e2 : x1.drop x0.length = [] := List.drop_eq_nil_of_le (by omega)
    simp [n_ref26_SameInts_0, la_ref26_SameInts_0, ilt_nat, br_false, e2]
  · intro k hk ih
    have hk1 : k < x1.length := by omega
    rw [ln_ref26_SameInts_0]
    simp only [n_ref26_SameInts_0, ilt_nat, cIx_nat, hk, hk1, decide_true, br_true, Int.toNat_natCast, lgt_get (y := tI) hk, lgt_get (y := tI) hk1, add1 (show k < 4611686018427387904 by omega), ih, la_ref26_SameInts_0, drop_ne hk hk1]
    unfold ine bne
    cases x0[k] == x1[k] <;> rfl
theorem lo_ref26_SameInts_0 : ∀ S l p, g_ref26_SameInts.L 0 (fgt fg_ref26_SameInts_0 S) = some (true, l) → pickA l = some p → loopF (roundF g_ref26_SameInts fg_ref26_SameInts_0 tb_ref26_SameInts_0) S = some p :=
  lok_of (s := sh_ref26_SameInts_0) ⟨by decide, by decide⟩ (by kernel_rfl) fun x y hok p hp => by
  simp only [pickA_br, pickA_one] at hp
  exact (l_ref26_SameInts_0 x.1 x.2.1 x.2.2.1 x.2.2.2.1 (by simpa using hok)).trans hp
theorem lk_ref26_SameInts : tc_ref26_SameInts.lok g_ref26_SameInts := by
  repeat (first | exact trivial | exact lo_ref26_SameInts_0 | refine ⟨?_, ?_⟩)
theorem s_ref26_SameInts (a b : List Int) (h : sameIsOk a b = true) : r_ref26_SameInts a b = some (.t .bool (sameIs a b), []) := by
  simp only [sameIsOk, decide_eq_true_eq] at h
  simp only [r_ref26_SameInts, sameIs]
  by_cases q : a.length = b.length
  · have e1 : ine (llen a) (llen b) = false := by simp [ine, llen, q]
    have e2 : (rngOk a (llen a) 0 && decide (a.length = b.length)) = true := by simp only [rng_0 h.1, Bool.true_and, decide_eq_true_eq]; exact q
    simp only [e1, br_false, e2, br_true]
    show br (!(a == b)) _ _ = _
    cases a == b <;> rfl
  · have e1 : ine (llen a) (llen b) = true := by simp [ine, llen]; omega
    have e2 : (a == b) = false := by
      rw [beq_eq_false_iff_ne]
      rintro rfl
      exact q rfl
    rw [e1, e2, br_true]
def sp_ref26_SameInts : Ent := spec (.pr (.sl tI) (.pr (.sl tI) .nil)) (fun x => (sameIsOk x.1 x.2.1)) (fun x => (.t .bool (sameIs x.1 x.2.1)))
theorem ms_ref26_SameInts : Meets Try.prog 43 (strip sp_ref26_SameInts) := by
  obtain ⟨c, hc, hi⟩ := Option.map_eq_some_iff.1 ok_ref26_SameInts
  exact meets_spec (R := runF g_ref26_SameInts tc_ref26_SameInts rv_ref26_SameInts false) (meets_of Try.func43 hc hi Try.ntmps43 rok_ref26_SameInts gk_ref26_SameInts lk_ref26_SameInts mixed) fun x hok => (e_ref26_SameInts x.1 x.2.1).trans (s_ref26_SameInts x.1 x.2.1 hok)
end
end Go.Proofs.Ytnimpcffagidoaa.K
