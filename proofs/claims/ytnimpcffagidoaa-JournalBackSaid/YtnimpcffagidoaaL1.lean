/-
  Ledgers that are made; when two are the same.
-/
import Derived.Test.YtnimpcffagidoaaL0
import Derived.KernelRfl
set_option linter.unusedSimpArgs false
set_option linter.unusedVariables false
namespace Go.Proofs.Ytnimpcffagidoaa.K
open Go.RowKit
noncomputable section
def eqDs (a b : List Decision) : Bool := a == b
def eqOk (a b : List Decision) : Bool := decide (a.length ≤ 100000 ∧ b.length ≤ 100000)
def eqLOk (a b : List Decision) (n i : Int) : Bool := decide (a.length = b.length ∧ n = a.length ∧ 0 ≤ i ∧ i ≤ a.length ∧ a.length ≤ 100000)
def eqNe (a b : List Decision) (_n i : Int) : Bool := !(a.drop i.toNat == b.drop i.toNat)
def eqF (_ _ : List Decision) (_ _ : Int) : Bool := false
def dr_slices_Equal_api_Decision_api_Decision_0 : List DO := [(.mk (.mk (some 16) none (.m (.pu (.mv (.t 0))))) []), (.mk (.mk (some 17) none (.m (.pu (.mv (.t 5))))) []), (.mk (.mk (some 18) none (.m (.pu (.ix 5 (.t 16) (.t 17))))) [0, 1]), (.mk (.mk (some 19) none (.m (.ld true 5 (.t 18)))) [2]), (.mk (.mk (some 20) none (.m (.pu (.mv (.t 1))))) []), (.mk (.mk (some 21) none (.m (.pu (.mv (.t 5))))) []), (.mk (.mk (some 22) none (.m (.pu (.ix 5 (.t 20) (.t 21))))) [4, 5]), (.mk (.mk (some 23) none (.m (.ld true 5 (.t 22)))) [6]), (.mk (.mk (some 24) none (.m (.pu (.eqs true [0, 0, 0, 0, 0] (.t 19) (.t 23))))) [3, 7])]
def fg_slices_Equal_api_Decision_api_Decision_0 : Fg := ⟨[(0, some (.sl tyDecision)), (1, some (.sl tyDecision)), (12, some tI), (13, some tI)], []⟩
def tb_slices_Equal_api_Decision_api_Decision_0 : TC := (.sq (.reg [(.mk (some 14) none (.m (.pu (.bin false .lss (.t 13) (.t 12)))))]) (.sq (.cd (.t 14) .sk (.fg ⟨[], []⟩ (.ex 0))) (.sq (.bk 1 (.sq (.reg [(.mk (some 15) none (.m (.pu (.mv (.t 13))))), (.mk (some 5) none (.m (.pu (.mv (.t 15)))))]) (.sq (.dr dr_slices_Equal_api_Decision_api_Decision_0 [(0, []), (1, []), (2, []), (3, []), (4, []), (5, []), (6, []), (7, []), (8, [])] (.of [0, 1, 2, 3, 4, 5, 6, 7, 8])) (.cd (.t 24) (.sq (.reg [(.mk (some 4) none (.m (.pu (.mv (.c (.v (.bool false)))))))]) (.fg ⟨[(4, some .bool)], []⟩ .rt)) .sk)))) (.reg [(.mk (some 25) none (.m (.pu (.bin false .add (.t 13) (.c (.v (.int .i64 1))))))), (.mk (some 13) none (.m (.pu (.mv (.t 25)))))]))))
/-- slices.Equal[[]cipherplan/api.Decision,cipherplan/api.Decision] -/
def tc_slices_Equal_api_Decision_api_Decision : TC := (.sq (.reg [(.mk (some 4) none (.m (.pu (.mv (.c (.v (.bool false)))))))]) (.sq (.sq (.reg [(.mk (some 6) none (.m (.pu (.mv (.t 0))))), (.mk (some 7) none (.m (.pu (.len false (.t 6))))), (.mk (some 8) none (.m (.pu (.mv (.t 1))))), (.mk (some 9) none (.m (.pu (.len false (.t 8))))), (.mk (some 10) none (.m (.pu (.bin false .neq (.t 7) (.t 9)))))]) (.cd (.t 10) (.sq (.reg [(.mk (some 4) none (.m (.pu (.mv (.c (.v (.bool false)))))))]) .rt) .sk)) (.sq (.sq (.reg [(.mk (some 11) none (.m (.pu (.mv (.t 0))))), (.mk (some 12) none (.m (.pu (.len false (.t 11))))), (.mk (some 13) none (.m (.pu (.mv (.c (.v (.int .i64 0)))))))]) (.bk 0 (.lp 0 fg_slices_Equal_api_Decision_api_Decision_0 tb_slices_Equal_api_Decision_api_Decision_0))) (.sq (.reg [(.mk (some 4) none (.m (.pu (.mv (.c (.v (.bool true)))))))]) .rt))))
def rv_slices_Equal_api_Decision_api_Decision : List (RV × Option Ty) := [((.t 4), some .bool)]
abbrev sh_slices_Equal_api_Decision_api_Decision_0 : Sh := ⟨[(0, .ty (.sl tyDecision)), (1, .ty (.sl tyDecision)), (12, .ty tI), (13, .ty tI)], []⟩
def st_slices_Equal_api_Decision_api_Decision_0 (x0 : (List Decision)) (x1 : (List Decision)) (x12 : Int) (x13 : Int) : VS := sh_slices_Equal_api_Decision_api_Decision_0.st (x0, x1, x12, x13, ()) ()
abbrev sh_slices_Equal_api_Decision_api_Decision_0_ret : Sh := ⟨[(4, .ty .bool)], []⟩
def st_slices_Equal_api_Decision_api_Decision_0_ret (x4 : Bool) : VS := sh_slices_Equal_api_Decision_api_Decision_0_ret.st (x4, ()) ()
abbrev sh_slices_Equal_api_Decision_api_Decision_0_e0 : Sh := ⟨[], []⟩
def st_slices_Equal_api_Decision_api_Decision_0_e0  : VS := sh_slices_Equal_api_Decision_api_Decision_0_e0.st () ()
-- loop 0: (x0 : (List Decision)) (x1 : (List Decision)) (x12 : Int) (x13 : Int); out: ('ret',) (x4 : Bool); ('exit', 0) 
def L_slices_Equal_api_Decision_api_Decision_0 : VS → Option (Bool × List (Bool × Exit × VS)) := mkL sh_slices_Equal_api_Decision_api_Decision_0 (fun x y => (eqLOk x.1 x.2.1 x.2.2.1 x.2.2.2.1)) (fun x y => [((eqNe x.1 x.2.1 x.2.2.1 x.2.2.2.1), .ret, st_slices_Equal_api_Decision_api_Decision_0_ret (eqF x.1 x.2.1 x.2.2.1 x.2.2.2.1)), (true, .exit 0, st_slices_Equal_api_Decision_api_Decision_0_e0)])
def g_slices_Equal_api_Decision_api_Decision : G := ⟨TYs, [], 26, EL [], keeps, (Ls [L_slices_Equal_api_Decision_api_Decision_0])⟩
def b_slices_Equal_api_Decision_api_Decision_0 (x0 : (List Decision)) (x1 : (List Decision)) (x12 : Int) (x13 : Int) : Option (Exit × VS) :=
  br ((ilt x13 x12))
    (br (cIx x0 x13)
      (br (cIx x1 x13)
        (br ((!(and (ieq ((lgt tyDecision x0 (Int.toNat x13)).1) ((lgt tyDecision x1 (Int.toNat x13)).1)) (and (ieq (((lgt tyDecision x0 (Int.toNat x13)).2).1) (((lgt tyDecision x1 (Int.toNat x13)).2).1)) (and (ieq ((((lgt tyDecision x0 (Int.toNat x13)).2).2).1) ((((lgt tyDecision x1 (Int.toNat x13)).2).2).1)) (and (ieq (((((lgt tyDecision x0 (Int.toNat x13)).2).2).2).1) (((((lgt tyDecision x1 (Int.toNat x13)).2).2).2).1)) (and (ieq ((((((lgt tyDecision x0 (Int.toNat x13)).2).2).2).2).1) ((((((lgt tyDecision x1 (Int.toNat x13)).2).2).2).2).1)) true)))))))
          (some (.ret, st_slices_Equal_api_Decision_api_Decision_0_ret false))
          (some (.normal, st_slices_Equal_api_Decision_api_Decision_0 x0 x1 x12 (iadd .i64 x13 1))))
        (none))
      (none))
    (some (.exit 0, st_slices_Equal_api_Decision_api_Decision_0_e0))
noncomputable def lp_slices_Equal_api_Decision_api_Decision_0 (x0 : (List Decision)) (x1 : (List Decision)) (x12 : Int) (x13 : Int) : Option (Exit × VS) := loopF (roundF g_slices_Equal_api_Decision_api_Decision fg_slices_Equal_api_Decision_api_Decision_0 tb_slices_Equal_api_Decision_api_Decision_0) (st_slices_Equal_api_Decision_api_Decision_0 x0 x1 x12 x13)
noncomputable def n_slices_Equal_api_Decision_api_Decision_0 (x0 : (List Decision)) (x1 : (List Decision)) (x12 : Int) (x13 : Int) : Option (Exit × VS) :=
  br ((ilt x13 x12))
    (br (cIx x0 x13)
      (br (cIx x1 x13)
        (br ((!(and (ieq ((lgt tyDecision x0 (Int.toNat x13)).1) ((lgt tyDecision x1 (Int.toNat x13)).1)) (and (ieq (((lgt tyDecision x0 (Int.toNat x13)).2).1) (((lgt tyDecision x1 (Int.toNat x13)).2).1)) (and (ieq ((((lgt tyDecision x0 (Int.toNat x13)).2).2).1) ((((lgt tyDecision x1 (Int.toNat x13)).2).2).1)) (and (ieq (((((lgt tyDecision x0 (Int.toNat x13)).2).2).2).1) (((((lgt tyDecision x1 (Int.toNat x13)).2).2).2).1)) (and (ieq ((((((lgt tyDecision x0 (Int.toNat x13)).2).2).2).2).1) ((((((lgt tyDecision x1 (Int.toNat x13)).2).2).2).2).1)) true)))))))
          (some (.ret, st_slices_Equal_api_Decision_api_Decision_0_ret false))
          (lp_slices_Equal_api_Decision_api_Decision_0 x0 x1 x12 (iadd .i64 x13 1)))
        (none))
      (none))
    (some (.exit 0, st_slices_Equal_api_Decision_api_Decision_0_e0))
def la_slices_Equal_api_Decision_api_Decision_0 (x0 : (List Decision)) (x1 : (List Decision)) (x12 : Int) (x13 : Int) : Option (Exit × VS) := br (eqNe x0 x1 x12 x13) (some (.ret, st_slices_Equal_api_Decision_api_Decision_0_ret (eqF x0 x1 x12 x13))) <| some (.exit 0, st_slices_Equal_api_Decision_api_Decision_0_e0)
theorem be_slices_Equal_api_Decision_api_Decision_0 (x0 : (List Decision)) (x1 : (List Decision)) (x12 : Int) (x13 : Int) : roundF g_slices_Equal_api_Decision_api_Decision fg_slices_Equal_api_Decision_api_Decision_0 tb_slices_Equal_api_Decision_api_Decision_0 (st_slices_Equal_api_Decision_api_Decision_0 x0 x1 x12 x13) = b_slices_Equal_api_Decision_api_Decision_0 x0 x1 x12 x13 := by kernel_rfl
theorem ln_slices_Equal_api_Decision_api_Decision_0 (x0 : (List Decision)) (x1 : (List Decision)) (x12 : Int) (x13 : Int) : lp_slices_Equal_api_Decision_api_Decision_0 x0 x1 x12 x13 = n_slices_Equal_api_Decision_api_Decision_0 x0 x1 x12 x13 := (loopF_nxt _ _).trans (by
  rw [be_slices_Equal_api_Decision_api_Decision_0]
  simp only [b_slices_Equal_api_Decision_api_Decision_0, n_slices_Equal_api_Decision_api_Decision_0, nxt_br, nxt_n, nxt_r, nxt_e, nxt_0]
  rfl)
def r_slices_Equal_api_Decision_api_Decision (p0 : (List Decision)) (p1 : (List Decision)) : Option (V × List VO) :=
  br ((ine (llen p0) (llen p1)))
    (some (.t .bool false, []))
    (br ((eqLOk p0 p1 (llen p0) 0))
      (br ((eqNe p0 p1 (llen p0) 0))
        (some (.t .bool (eqF p0 p1 (llen p0) 0), []))
        (some (.t .bool true, [])))
      (none))
theorem e_slices_Equal_api_Decision_api_Decision (p0 : (List Decision)) (p1 : (List Decision)) : runF g_slices_Equal_api_Decision_api_Decision tc_slices_Equal_api_Decision_api_Decision rv_slices_Equal_api_Decision_api_Decision false [.t (.sl tyDecision) p0, .t (.sl tyDecision) p1] [] = r_slices_Equal_api_Decision_api_Decision p0 p1 := by kernel_rfl
theorem ok_slices_Equal_api_Decision_api_Decision : Option.map (trC Try.prog) Try.f63.body = some tc_slices_Equal_api_Decision_api_Decision.er := by kernel_rfl
theorem rok_slices_Equal_api_Decision_api_Decision : trVs Try.prog Try.f63.results.toList = some (rv_slices_Equal_api_Decision_api_Decision.map Prod.fst) := by kernel_rfl
theorem en_slices_Equal_api_Decision_api_Decision : Entered Try.prog 63 := .inr ⟨by decide, _, Try.func63, by kernel_rfl, by kernel_rfl⟩
theorem gk_slices_Equal_api_Decision_api_Decision : GOk Try.prog g_slices_Equal_api_Decision_api_Decision := gok_of _ (fun p hp => by cases hp)
theorem eq_five (a b : Decision) : and (ieq a.1 b.1) (and (ieq a.2.1 b.2.1) (and (ieq a.2.2.1 b.2.2.1) (and (ieq a.2.2.2.1 b.2.2.2.1) (and (ieq a.2.2.2.2.1 b.2.2.2.2.1) true)))) = (a == b) := by
  obtain ⟨a1, a2, a3, a4, a5, _⟩ := a
  obtain ⟨b1, b2, b3, b4, b5, _⟩ := b
  rw [Bool.eq_iff_iff]
  simp [ieq]
theorem l_slices_Equal_api_Decision_api_Decision_0 (a b : List Decision) (n i : Int) (h : eqLOk a b n i = true) : lp_slices_Equal_api_Decision_api_Decision_0 a b n i = la_slices_Equal_api_Decision_api_Decision_0 a b n i := by
  simp only [eqLOk, decide_eq_true_eq] at h
  obtain ⟨h1, rfl, h2, h3, h4⟩ := h
  obtain ⟨k, rfl⟩ : ∃ k : Nat, i = k := ⟨i.toNat, by omega⟩
  induction hn : a.length - k generalizing k with
  | zero =>
    rw [ln_slices_Equal_api_Decision_api_Decision_0]
    have e1 : a.drop k = [] := List.drop_eq_nil_of_le (by omega)
    have e2 : b.drop k = [] := List.drop_eq_nil_of_le (by omega)
    have e3 : ¬ k < a.length := by omega
    simp [n_slices_Equal_api_Decision_api_Decision_0, la_slices_Equal_api_Decision_api_Decision_0, eqNe, e1, e2, ilt_nat, e3, br_false]
  | succ n ih =>
    have h5 : k < a.length := by omega
    have h6 : k < b.length := by omega
    rw [ln_slices_Equal_api_Decision_api_Decision_0]
    simp only [n_slices_Equal_api_Decision_api_Decision_0, ilt_nat, cIx_nat, h5, h6, decide_true, br_true, Int.toNat_natCast, eq_five, add1 (show k < 4611686018427387904 by omega), lgt_get (y := tyDecision) (l := a) h5, lgt_get (y := tyDecision) (l := b) h6]
    rw [ih (k + 1) (by omega) (by omega) (by omega)]
    have e1 : a.drop k = a[k] :: a.drop (k + 1) := List.drop_eq_getElem_cons h5
    have e2 : b.drop k = b[k] :: b.drop (k + 1) := List.drop_eq_getElem_cons h6
    have e3 : eqNe a b (a.length : Int) (k : Int) = (!(a[k] == b[k]) || eqNe a b (a.length : Int) ((k + 1 : Nat) : Int)) := by
      unfold eqNe
      simp only [Int.toNat_natCast]
      rw [e1, e2]
      show (!(a[k] == b[k] && _)) = _
      rw [Bool.not_and]
      rfl
    simp only [la_slices_Equal_api_Decision_api_Decision_0, e3, eqF]
    cases a[k] == b[k] <;> rfl
theorem lo_slices_Equal_api_Decision_api_Decision_0 : ∀ S l p, g_slices_Equal_api_Decision_api_Decision.L 0 (fgt fg_slices_Equal_api_Decision_api_Decision_0 S) = some (true, l) → pickA l = some p → loopF (roundF g_slices_Equal_api_Decision_api_Decision fg_slices_Equal_api_Decision_api_Decision_0 tb_slices_Equal_api_Decision_api_Decision_0) S = some p :=
  lok_of (s := sh_slices_Equal_api_Decision_api_Decision_0) ⟨by decide, by decide⟩ (by kernel_rfl) fun x y hok p hp => by
  simp only [pickA_br, pickA_one] at hp
  exact (l_slices_Equal_api_Decision_api_Decision_0 x.1 x.2.1 x.2.2.1 x.2.2.2.1 (by simpa using hok)).trans hp
theorem lk_slices_Equal_api_Decision_api_Decision : tc_slices_Equal_api_Decision_api_Decision.lok g_slices_Equal_api_Decision_api_Decision := by
  repeat (first | exact trivial | exact lo_slices_Equal_api_Decision_api_Decision_0 | refine ⟨?_, ?_⟩)
theorem s_slices_Equal_api_Decision_api_Decision (a b : List Decision) (h : eqOk a b = true) : r_slices_Equal_api_Decision_api_Decision a b = some (.t .bool (eqDs a b), []) := by
  simp only [eqOk, decide_eq_true_eq] at h
  simp only [r_slices_Equal_api_Decision_api_Decision]
  refine br_intro (fun h1 => ?_) (fun h1 => ?_)
  · have : a ≠ b := fun e => by subst e; simp [ine] at h1
    simp [eqDs, this]
  · have h2 : a.length = b.length := by simp [ine, llen] at h1; omega
    have h3 : eqLOk a b (llen a) 0 = true := by simp [eqLOk, h2, llen]; omega
    rw [h3, br_true]
    refine br_intro (fun h1 => ?_) (fun h1 => ?_) <;> simp_all [eqNe, eqDs, eqF]
def sp_slices_Equal_api_Decision_api_Decision : Ent := spec (.pr (.sl tyDecision) (.pr (.sl tyDecision) .nil)) (fun x => (eqOk x.1 x.2.1)) (fun x => (.t .bool (eqDs x.1 x.2.1)))
theorem ms_slices_Equal_api_Decision_api_Decision : Meets Try.prog 63 (strip sp_slices_Equal_api_Decision_api_Decision) := by
  obtain ⟨c, hc, hi⟩ := Option.map_eq_some_iff.1 ok_slices_Equal_api_Decision_api_Decision
  exact meets_spec (R := runF g_slices_Equal_api_Decision_api_Decision tc_slices_Equal_api_Decision_api_Decision rv_slices_Equal_api_Decision_api_Decision false) (meets_of (by decide) Try.func63 hc hi Try.ntmps63 rok_slices_Equal_api_Decision_api_Decision gk_slices_Equal_api_Decision_api_Decision lk_slices_Equal_api_Decision_api_Decision mixed) fun x hok => (e_slices_Equal_api_Decision_api_Decision x.1 x.2.1).trans (s_slices_Equal_api_Decision_api_Decision x.1 x.2.1 hok)
def sameV (a b : Ledger) : Bool := a.1 == b.1
def sameOk (a b : Ledger) : Bool := decide (a.1.length ≤ 100000 ∧ b.1.length ≤ 100000)
/-- cipherplan/ledger.Same -/
def tc_ledger_Same : TC := (.sq (.reg [(.mk (some 2) none (.m (.box (.t 0)))), (.mk (some 3) none (.m (.box (.t 1)))), (.mk (some 4) none (.m (.pu (.mv (.c (.v (.bool false)))))))]) (.sq (.reg [(.mk (some 5) none (.m (.pu (.fa 0 (.t 2))))), (.mk (some 6) none (.m (.ld false 1 (.t 5)))), (.mk (some 7) none (.m (.pu (.fa 0 (.t 3))))), (.mk (some 8) none (.m (.ld false 1 (.t 7)))), (.mk (some 9) none (.call 63 [(.t 6), (.t 8)])), (.mk (some 4) none (.m (.pu (.mv (.t 9)))))]) .rt))
def rv_ledger_Same : List (RV × Option Ty) := [((.t 4), some .bool)]
def g_ledger_Same : G := ⟨TYs, [], 10, EL [(63, sp_slices_Equal_api_Decision_api_Decision)], keeps, (fun _ _ => none)⟩
def r_ledger_Same (p0 : Ledger) (p1 : Ledger) : Option (V × List VO) :=
  br ((eqOk p0.1 p1.1))
    (some (.t .bool (eqDs p0.1 p1.1), []))
    (none)
theorem e_ledger_Same (p0 : Ledger) (p1 : Ledger) : runF g_ledger_Same tc_ledger_Same rv_ledger_Same false [.t tyLedger p0, .t tyLedger p1] [] = r_ledger_Same p0 p1 := by kernel_rfl
theorem ok_ledger_Same : Option.map (trC Try.prog) Try.f30.body = some tc_ledger_Same.er := by kernel_rfl
theorem rok_ledger_Same : trVs Try.prog Try.f30.results.toList = some (rv_ledger_Same.map Prod.fst) := by kernel_rfl
theorem en_ledger_Same : Entered Try.prog 30 := .inr ⟨by decide, _, Try.func30, by kernel_rfl, by kernel_rfl⟩
theorem gk_ledger_Same : GOk Try.prog g_ledger_Same := gok_of _ (by
  intro p hp
  simp only [List.mem_cons, List.not_mem_nil, or_false] at hp
  rcases hp with rfl
  · exact ⟨en_slices_Equal_api_Decision_api_Decision, ms_slices_Equal_api_Decision_api_Decision⟩)
theorem lk_ledger_Same : tc_ledger_Same.lok g_ledger_Same := by repeat (first | exact trivial | refine ⟨?_, ?_⟩)
theorem s_ledger_Same (a b : Ledger) (h : sameOk a b = true) : r_ledger_Same a b = some (.t .bool (sameV a b), []) := by
  simp only [r_ledger_Same, show eqOk a.1 b.1 = true from h, br_true]
  rfl
def sp_ledger_Same : Ent := spec (.pr tyLedger (.pr tyLedger .nil)) (fun x => (sameOk x.1 x.2.1)) (fun x => (.t .bool (sameV x.1 x.2.1)))
theorem ms_ledger_Same : Meets Try.prog 30 (strip sp_ledger_Same) := by
  obtain ⟨c, hc, hi⟩ := Option.map_eq_some_iff.1 ok_ledger_Same
  exact meets_spec (R := runF g_ledger_Same tc_ledger_Same rv_ledger_Same false) (meets_of (by decide) Try.func30 hc hi Try.ntmps30 rok_ledger_Same gk_ledger_Same lk_ledger_Same mixed) fun x hok => (e_ledger_Same x.1 x.2.1).trans (s_ledger_Same x.1 x.2.1 hok)
end
end Go.Proofs.Ytnimpcffagidoaa.K
