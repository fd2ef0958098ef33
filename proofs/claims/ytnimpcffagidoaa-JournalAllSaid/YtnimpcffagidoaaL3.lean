/-
 When two ledgers differ.
-/
import Derived.Test.YtnimpcffagidoaaL2
import Derived.KernelRfl
set_option linter.unusedSimpArgs false
set_option linter.unusedVariables false
namespace Go.Proofs.Ytnimpcffagidoaa.K
open Go.RowKit
noncomputable section
def diffAt : List Decision → List Decision → Option Nat
 | [], [] => none
 | x :: a, y :: b => if x == y then (diffAt a b).map (· + 1) else some 0
 | _, _ => some 0
def differV (a b : Ledger) : Int × Bool := match diffAt a.1 b.1 with | some k => (k, true) | none => (0, false)
def dfOk (i : Int) (a b : Ledger) : Bool := sameOk a b && decide (0 ≤ i)
def dfNe (i : Int) (a b : Ledger) : Bool := (diffAt (a.1.drop i.toNat) (b.1.drop i.toNat)).isSome
def dfK (i : Int) (a b : Ledger) : Int := i + ((diffAt (a.1.drop i.toNat) (b.1.drop i.toNat)).getD 0 : Nat)
def dfT (_ : Int) (_ _ : Ledger) : Bool := true
def dr_f39_0 : List DO := [(.mk (oV 21 6) []), (.mk (oP 22 (.fa 0 (.t 2))) []), (.mk (oL 23 22) [1]), (.mk (oP 24 (.len false (.t 23))) [2]), (.mk (oP 25 (.bin false .geq (.t 21) (.t 24))) [0, 3]), (.mk (oV 26 25) [4]), (.mk (oQ 27 26 false (.mv (.t 6))) [5]), (.mk (oQ 28 26 false (.fa 0 (.t 3))) [5]), (.mk (oG 29 26 false (.m (.ld false 1 (.t 28)))) [7, 5]), (.mk (oQ 30 26 false (.len false (.t 29))) [8, 5]), (.mk (oQ 31 26 false (.bin false .geq (.t 27) (.t 30))) [6, 9, 5]), (.mk (oP 32 (.pick (.t 26) (cB true) (.t 31))) [5, 10]), (.mk (oV 33 32) [11, 5]), (.mk (oQ 34 33 false (.fa 0 (.t 2))) [12]), (.mk (oG 35 33 false (.m (.ld false 1 (.t 34)))) [13, 12]), (.mk (oQ 36 33 false (.mv (.t 6))) [12]), (.mk (oQ 37 33 false (.ix 5 (.t 35) (.t 36))) [14, 15, 12]), (.mk (oG 38 33 false (.m (.ld true 5 (.t 37)))) [16, 12]), (.mk (oQ 39 33 false (.fa 0 (.t 3))) [12]), (.mk (oG 40 33 false (.m (.ld false 1 (.t 39)))) [18, 12]), (.mk (oQ 41 33 false (.mv (.t 6))) [12]), (.mk (oQ 42 33 false (.ix 5 (.t 40) (.t 41))) [19, 20, 12]), (.mk (oG 43 33 false (.m (.ld true 5 (.t 42)))) [21, 12]), (.mk (oQ 44 33 false (.eqs true [0, 0, 0, 0, 0] (.t 38) (.t 43))) [17, 22, 12]), (.mk (oP 45 (.pick (.t 33) (cB true) (.t 44))) [12, 23])]
def fg_f39_0 : Fg := ⟨[(2, none), (3, none), (6, some tI)], [(2, some tyLedger), (3, some tyLedger)]⟩
def tb_f39_0 : TC := (.sq (.sq (.reg [(oV 7 6), (oP 8 (.fa 0 (.t 2))), (oL 9 8), (oP 10 (.len false (.t 9))), (oP 11 (.bin false .lss (.t 7) (.t 10))), (oV 12 11), (oQ 13 12 false (.mv (.t 6))), (oQ 14 12 false (.fa 0 (.t 3))), (oG 15 12 false (.m (.ld false 1 (.t 14)))), (oQ 16 12 false (.len false (.t 15))), (oQ 17 12 false (.bin false .lss (.t 13) (.t 16))), (oP 18 (.pick (.t 12) (cB true) (.t 17)))]) (.cd (.t 18) .sk (.fg ⟨[], []⟩ (.ex 0)))) (.sq (.bk 1 (.sq (.dr dr_f39_0 [(0, []), (1, [2]), (2, [2]), (3, []), (4, []), (5, []), (6, []), (7, [3]), (8, [3]), (9, []), (10, []), (11, []), (12, []), (13, [2]), (14, [2]), (15, []), (16, []), (17, []), (18, [3]), (19, [3]), (20, []), (21, []), (22, []), (23, []), (24, [])] (.of [0, 1, 2, 3, 4, 5, 6, 7, 8, 9, 10, 11, 12, 13, 14, 15, 16, 17, 18, 19, 20, 21, 22, 23, 24])) (.cd (.t 45) (.sq (.reg [(oV 46 6), (oV 4 46), (oP 5 (.mv (cB true)))]) (.fg ⟨[(4, some tI), (5, some .bool)], []⟩ .rt)) .sk))) (.reg [(oV 19 6), (oP 20 (.bin false .add (.t 19) (cI 1))), (oV 6 20)])))
def tc_f39 : TC := (.sq (.reg [(oM 2 (.box (.t 0))), (oM 3 (.box (.t 1))), (oP 4 (.mv (cI 0))), (oP 5 (.mv (cB false)))]) (.sq (.sq (.reg [(oP 6 (.mv (cI 0)))]) (.bk 0 (.lp 0 fg_f39_0 tb_f39_0))) (.sq (.reg [(oP 4 (.mv (cI 0))), (oP 5 (.mv (cB false)))]) .rt)))
def rv_f39 : List (RV × Option Ty) := [((.t 4), some tI), ((.t 5), some .bool)]
abbrev sh_f39_0 : Sh := ⟨[(2, .ptr 2 0), (3, .ptr 3 0), (6, .ty tI)], [(2, .box tyLedger), (3, .box tyLedger)]⟩
def st_f39_0 (x6 : Int) (y2 : Ledger) (y3 : Ledger) : VS := sh_f39_0.st ((), (), x6, ()) (y2, y3, ())
abbrev sh_f39_0_ret : Sh := ⟨[(4, .ty tI), (5, .ty .bool)], []⟩
def st_f39_0_ret (x4 : Int) (x5 : Bool) : VS := sh_f39_0_ret.st (x4, x5, ()) ()
abbrev sh_f39_0_e0 : Sh := ⟨[], []⟩
def st_f39_0_e0  : VS := sh_f39_0_e0.st () ()
-- loop 0: (x6 : Int) (y2 : Ledger) (y3 : Ledger); out: ('ret',) (x4 : Int) (x5 : Bool); ('exit', 0)
def L_f39_0 : VS → Option (Bool × List (Bool × Exit × VS)) := mkL sh_f39_0 (fun x y => (dfOk x.2.2.1 y.1 y.2.1)) (fun x y => [((dfNe x.2.2.1 y.1 y.2.1), .ret, st_f39_0_ret (dfK x.2.2.1 y.1 y.2.1) (dfT x.2.2.1 y.1 y.2.1)), (true, .exit 0, st_f39_0_e0)])
def g_f39 : G := ⟨TYs, [], 47, EL [], keeps, (Ls [L_f39_0]), IL [], RL []⟩
def b_f39_0_1 (x6 : Int) (y2 : Ledger) (y3 : Ledger) : Option (Exit × VS) :=
 br ((ige x6 (llen y2.1)))
  (some (.ret, st_f39_0_ret x6 true))
  (br ((ige x6 (llen y3.1)))
   (some (.ret, st_f39_0_ret x6 true))
   (br (cIx y2.1 x6)
    (br (cIx y3.1 x6)
     (br ((!(and (ieq ((lgt tyDecision y2.1 (Int.toNat x6)).1) ((lgt tyDecision y3.1 (Int.toNat x6)).1)) (and (ieq (((lgt tyDecision y2.1 (Int.toNat x6)).2).1) (((lgt tyDecision y3.1 (Int.toNat x6)).2).1)) (and (ieq ((((lgt tyDecision y2.1 (Int.toNat x6)).2).2).1) ((((lgt tyDecision y3.1 (Int.toNat x6)).2).2).1)) (and (ieq (((((lgt tyDecision y2.1 (Int.toNat x6)).2).2).2).1) (((((lgt tyDecision y3.1 (Int.toNat x6)).2).2).2).1)) (and (ieq ((((((lgt tyDecision y2.1 (Int.toNat x6)).2).2).2).2).1) ((((((lgt tyDecision y3.1 (Int.toNat x6)).2).2).2).2).1)) true)))))))
      (some (.ret, st_f39_0_ret x6 true))
      (some (.normal, st_f39_0 (iadd .i64 x6 1) y2 y3)))
     (none))
    (none)))
def b_f39_0 (x6 : Int) (y2 : Ledger) (y3 : Ledger) : Option (Exit × VS) :=
 br ((ilt x6 (llen y2.1)))
  (b_f39_0_1 x6 y2 y3)
  (br ((ilt x6 (llen y3.1)))
   (b_f39_0_1 x6 y2 y3)
   (some (.exit 0, st_f39_0_e0)))
noncomputable def lp_f39_0 (x6 : Int) (y2 : Ledger) (y3 : Ledger) : Option (Exit × VS) := loopF (roundF g_f39 fg_f39_0 tb_f39_0) (st_f39_0 x6 y2 y3)
noncomputable def n_f39_0_1 (x6 : Int) (y2 : Ledger) (y3 : Ledger) : Option (Exit × VS) :=
 br ((ige x6 (llen y2.1)))
  (some (.ret, st_f39_0_ret x6 true))
  (br ((ige x6 (llen y3.1)))
   (some (.ret, st_f39_0_ret x6 true))
   (br (cIx y2.1 x6)
    (br (cIx y3.1 x6)
     (br ((!(and (ieq ((lgt tyDecision y2.1 (Int.toNat x6)).1) ((lgt tyDecision y3.1 (Int.toNat x6)).1)) (and (ieq (((lgt tyDecision y2.1 (Int.toNat x6)).2).1) (((lgt tyDecision y3.1 (Int.toNat x6)).2).1)) (and (ieq ((((lgt tyDecision y2.1 (Int.toNat x6)).2).2).1) ((((lgt tyDecision y3.1 (Int.toNat x6)).2).2).1)) (and (ieq (((((lgt tyDecision y2.1 (Int.toNat x6)).2).2).2).1) (((((lgt tyDecision y3.1 (Int.toNat x6)).2).2).2).1)) (and (ieq ((((((lgt tyDecision y2.1 (Int.toNat x6)).2).2).2).2).1) ((((((lgt tyDecision y3.1 (Int.toNat x6)).2).2).2).2).1)) true)))))))
      (some (.ret, st_f39_0_ret x6 true))
      (lp_f39_0 (iadd .i64 x6 1) y2 y3))
     (none))
    (none)))
noncomputable def n_f39_0 (x6 : Int) (y2 : Ledger) (y3 : Ledger) : Option (Exit × VS) :=
 br ((ilt x6 (llen y2.1)))
  (n_f39_0_1 x6 y2 y3)
  (br ((ilt x6 (llen y3.1)))
   (n_f39_0_1 x6 y2 y3)
   (some (.exit 0, st_f39_0_e0)))
def la_f39_0 (x6 : Int) (y2 : Ledger) (y3 : Ledger) : Option (Exit × VS) := br (dfNe x6 y2 y3) (some (.ret, st_f39_0_ret (dfK x6 y2 y3) (dfT x6 y2 y3))) <| some (.exit 0, st_f39_0_e0)
theorem be_f39_0 (x6 : Int) (y2 : Ledger) (y3 : Ledger) : roundF g_f39 fg_f39_0 tb_f39_0 (st_f39_0 x6 y2 y3) = b_f39_0 x6 y2 y3 := by kernel_rfl
theorem ln_f39_0 (x6 : Int) (y2 : Ledger) (y3 : Ledger) : lp_f39_0 x6 y2 y3 = n_f39_0 x6 y2 y3 := (loopF_nxt _ _).trans (by
 rw [be_f39_0]
 simp only [b_f39_0, b_f39_0_1, n_f39_0, n_f39_0_1, nxt_br, nxt_n, nxt_r, nxt_e, nxt_0]
 rfl)
def r_f39 (p0 : Ledger) (p1 : Ledger) : Option (V × List VO) :=
 br ((dfOk 0 p0 p1))
  (br ((dfNe 0 p0 p1))
   (some (.tu [(.t tI (dfK 0 p0 p1)), (.t .bool (dfT 0 p0 p1))], []))
   (some (.tu [(.t tI 0), (.t .bool false)], [])))
  (none)
theorem e_f39 (p0 : Ledger) (p1 : Ledger) : runF g_f39 tc_f39 rv_f39 false [.t tyLedger p0, .t tyLedger p1] [] = r_f39 p0 p1 := by kernel_rfl
theorem ok_f39 : Option.map (trC Try.prog) Try.f39.body = some tc_f39.er := by kernel_rfl
theorem rok_f39 : trVs Try.prog Try.f39.results.toList = some (rv_f39.map Prod.fst) := by kernel_rfl
theorem en_f39 : Entered Try.prog 39 := .inr ⟨by decide, _, Try.func39, by kernel_rfl, by kernel_rfl⟩
theorem gk_f39 : GOk Try.prog g_f39 := gok_of _ (fun p hp => by cases hp)
theorem l_f39_0 (i : Int) (a b : Ledger) (h : dfOk i a b = true) : lp_f39_0 i a b = la_f39_0 i a b := by
 obtain ⟨a, ua⟩ := a
 obtain ⟨b, ub⟩ := b
 simp only [dfOk, sameOk, Bool.and_eq_true, decide_eq_true_eq] at h
 obtain ⟨⟨h1, h2⟩, h3⟩ := h
 obtain ⟨k, rfl⟩ : ∃ k : Nat, i = k := ⟨i.toNat, by omega⟩
 induction hn : max a.length b.length - k generalizing k with
 | zero =>
  rw [ln_f39_0]
  have e1 : a.drop k = [] := List.drop_eq_nil_of_le (by omega)
  have e2 : b.drop k = [] := List.drop_eq_nil_of_le (by omega)
  have e3 : ¬ k < a.length := by omega
  have e4 : ¬ k < b.length := by omega
  simp [n_f39_0, la_f39_0, dfNe, e1, e2, llen, ilt_nat, e3, e4, br_false, diffAt]
 | succ n ih =>
  rw [ln_f39_0]
  by_cases h4 : k < a.length
  ·by_cases h5 : k < b.length
   ·have e1 : a.drop k = a[k] :: a.drop (k + 1) := List.drop_eq_getElem_cons h4
    have e2 : b.drop k = b[k] :: b.drop (k + 1) := List.drop_eq_getElem_cons h5
    have g1 : ¬ a.length ≤ k := by omega
    have g2 : ¬ b.length ≤ k := by omega
    simp only [n_f39_0, n_f39_0_1, llen, ilt_nat, ige_nat, cIx_nat, h4, h5, g1, g2, decide_true, decide_false, br_true, br_false, Int.toNat_natCast, eq_five, add1 (show k < 4611686018427387904 by omega), lgt_get (y := tyDecision) (l := a) h4, lgt_get (y := tyDecision) (l := b) h5]
    rw [ih (k + 1) (by omega) (by omega)]
    simp only [la_f39_0, dfNe, dfK, dfT, Int.toNat_natCast]
    rw [e1, e2]
    simp only [diffAt]
    cases hq : a[k] == b[k] with
    | true =>
     simp only [Bool.not_true, br_false, if_true]
     cases diffAt (a.drop (k + 1)) (b.drop (k + 1)) with
     | none => rfl
     | some m =>
      have : ((k + 1 : Nat) : Int) + (m : Nat) = (k : Int) + ((m + 1 : Nat) : Int) := by omega
      simp only [Option.map_some, Option.isSome_some, Option.getD_some, br_true, this]
    | false => simp [br_true]
   ·have e1 : a.drop k = a[k] :: a.drop (k + 1) := List.drop_eq_getElem_cons h4
    have e2 : b.drop k = [] := List.drop_eq_nil_of_le (by omega)
    have g1 : ¬ a.length ≤ k := by omega
    have g2 : b.length ≤ k := by omega
    simp only [n_f39_0, n_f39_0_1, llen, ilt_nat, ige_nat, h4, g1, g2, decide_true, decide_false, br_true, br_false, la_f39_0, dfNe, dfK, dfT, Int.toNat_natCast]
    rw [e1, e2]
    simp [diffAt, br_true]
  ·have h5 : k < b.length := by omega
   have e1 : a.drop k = [] := List.drop_eq_nil_of_le (by omega)
   have e2 : b.drop k = b[k] :: b.drop (k + 1) := List.drop_eq_getElem_cons h5
   have g1 : a.length ≤ k := by omega
   simp only [n_f39_0, n_f39_0_1, llen, ilt_nat, ige_nat, h4, h5, g1, decide_true, decide_false, br_true, br_false, la_f39_0, dfNe, dfK, dfT, Int.toNat_natCast]
   rw [e1, e2]
   simp [diffAt, br_true]
theorem lo_f39_0 : ∀ S l p, g_f39.L 0 (fgt fg_f39_0 S) = some (true, l) → pickA l = some p → loopF (roundF g_f39 fg_f39_0 tb_f39_0) S = some p :=
 lok_of (s := sh_f39_0) ⟨by decide, by decide⟩ (by kernel_rfl) fun x y hok p hp => by
 simp only [pickA_br, pickA_one] at hp
 exact (l_f39_0 x.2.2.1 y.1 y.2.1 (by simpa using hok)).trans hp
theorem lk_f39 : tc_f39.lok g_f39 := by
 repeat (first | exact trivial | exact lo_f39_0 | refine ⟨?_, ?_⟩)
theorem s_f39 (a b : Ledger) (h : sameOk a b = true) : r_f39 a b = some (.tu [.t tI (differV a b).1, .t .bool (differV a b).2], []) := by
 have e1 : dfOk 0 a b = true := by simp [dfOk, h]
 simp only [r_f39, e1, br_true]
 simp only [dfNe, dfK, dfT, differV, Int.toNat_zero, List.drop_zero]
 cases diffAt a.1 b.1 <;> simp [br_true, br_false]
def sp_f39 : Ent := spec (.pr tyLedger (.pr tyLedger .nil)) (fun x => (sameOk x.1 x.2.1)) (fun x => (.tu [(.t tI ((differV x.1 x.2.1).1)), (.t .bool ((differV x.1 x.2.1).2))]))
theorem ms_f39 : Meets Try.prog 39 (strip sp_f39) := by
 obtain ⟨c, hc, hi⟩ := Option.map_eq_some_iff.1 ok_f39
 exact meets_spec (R := runF g_f39 tc_f39 rv_f39 false) (meets_of (by decide) Try.func39 hc hi Try.ntmps39 rok_f39 gk_f39 lk_f39 mixed) fun x hok => (e_f39 x.1 x.2.1).trans (s_f39 x.1 x.2.1 hok)
theorem diffAt_same : ∀ (a b : List Decision), (diffAt a b).isSome = !(a == b)
 | [], [] => rfl
 | [], _ :: _ => rfl
 | _ :: _, [] => rfl
 | x :: a, y :: b => by
  simp only [diffAt]
  rw [beq_list]
  cases hq : x == y with
  | true => simp [diffAt_same a b]
  | false => simp
def tc_f31 : TC := (.sq (.reg [(oM 2 (.box (.t 0))), (oM 3 (.box (.t 1))), (oP 4 (.mv (cB false)))]) (.sq (.reg [(oM 8 (.ld true 1 (.t 2))), (oM 9 (.ld true 1 (.t 3))), (oC 10 39 [(.t 8), (.t 9)]), (oV 7 10), (oP 11 (.ext 0 (.t 7))), (oP 12 (.ext 1 (.t 7))), (oV 5 11), (oV 6 12)]) (.sq (.reg [(oV 13 6), (oP 14 (.nt (.t 13))), (oV 4 14)]) .rt)))
def rv_f31 : List (RV × Option Ty) := [((.t 4), some .bool)]
def g_f31 : G := ⟨TYs, [], 15, EL [(39, sp_f39)], keeps, (fun _ _ => none), IL [], RL []⟩
def r_f31 (p0 : Ledger) (p1 : Ledger) : Option (V × List VO) :=
 br ((sameOk p0 p1))
  (some (.t .bool (!((differV p0 p1).2)), []))
  (none)
theorem e_f31 (p0 : Ledger) (p1 : Ledger) : runF g_f31 tc_f31 rv_f31 false [.t tyLedger p0, .t tyLedger p1] [] = r_f31 p0 p1 := by kernel_rfl
theorem ok_f31 : Option.map (trC Try.prog) Try.f31.body = some tc_f31.er := by kernel_rfl
theorem rok_f31 : trVs Try.prog Try.f31.results.toList = some (rv_f31.map Prod.fst) := by kernel_rfl
theorem en_f31 : Entered Try.prog 31 := .inr ⟨by decide, _, Try.func31, by kernel_rfl, by kernel_rfl⟩
theorem gk_f31 : GOk Try.prog g_f31 := gok_of _ (by
 intro p hp
 simp only [List.mem_cons, List.not_mem_nil, or_false] at hp
 rcases hp with rfl
 ·exact ⟨en_f39, ms_f39⟩)
theorem lk_f31 : tc_f31.lok g_f31 := by repeat (first | exact trivial | refine ⟨?_, ?_⟩)
theorem s_f31 (a b : Ledger) (h : sameOk a b = true) : r_f31 a b = some (.t .bool (sameV a b), []) := by
 simp only [r_f31, h, br_true]
 have := diffAt_same a.1 b.1
 simp only [differV, sameV]
 cases hd : diffAt a.1 b.1 with
 | none => rw [hd] at this; simp at this; simp [this]
 | some k => rw [hd] at this; simp at this; simp [this]
def sp_f31 : Ent := spec (.pr tyLedger (.pr tyLedger .nil)) (fun x => (sameOk x.1 x.2.1)) (fun x => (.t .bool (sameV x.1 x.2.1)))
theorem ms_f31 : Meets Try.prog 31 (strip sp_f31) := by
 obtain ⟨c, hc, hi⟩ := Option.map_eq_some_iff.1 ok_f31
 exact meets_spec (R := runF g_f31 tc_f31 rv_f31 false) (meets_of (by decide) Try.func31 hc hi Try.ntmps31 rok_f31 gk_f31 lk_f31 mixed) fun x hok => (e_f31 x.1 x.2.1).trans (s_f31 x.1 x.2.1 hok)
end
end Go.Proofs.Ytnimpcffagidoaa.K
