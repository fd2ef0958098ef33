import Derived.Test.YtkngeegkjhipeaaGreatN1
set_option linter.unusedSimpArgs false
set_option linter.unusedVariables false
namespace Go.Proofs.YtkngeegkjhipeaaGreat.K
open Go.RowKit
noncomputable section
def intT (n : Int) : ValT := (2, (intL n, (false, (([] : List Val), ()))))
def i64Ok (n : Int) : Bool := decide (-9223372036854775808 ≤ n ∧ n < 9223372036854775808)
def QfF : Fg := ⟨[(0, some tI), (2, none), (3, none), (4, some tI)], [(2, some Qah), (3, none), (16, none)]⟩
noncomputable def Qhd : TC := (.sq (.sq (.reg (rT Tryz.f162 3)) (.cd (.t 6) .sk (.fg ⟨[(2, none), (3, none)], [(2, some Qah), (3, none), (16, none)]⟩ (.ex 0)))) (.sq (.bk 1 (.reg (rT Tryz.f162 4))) (.reg (rT Tryz.f162 5))))
def QfE : Fg := ⟨[(2, none), (3, some (.sl (.int .u8)))], [(2, some Qah), (3, none), (16, none)]⟩
noncomputable def Qhc : TC := (.sq (.sq (.reg (rT Tryz.f162 6)) (.cd (.t 43) .sk (.fg ⟨[(2, none), (3, none)], [(2, some Qah), (3, none), (16, none)]⟩ (.ex 2)))) (.bk 3 (.reg (rT Tryz.f162 7))))
noncomputable def Qty : TC := (.sq (.reg (rT Tryz.f162 0)) (.sq (.reg (rT Tryz.f162 1)) (.sq (.sq (.reg (rT Tryz.f162 2)) (.bk 0 (.nw 3 5 (.lp 0 QfF Qhd)))) (.sq (.bk 2 (.fz [3] (.lp 1 QfE Qhc))) (.sq (.reg (rT Tryz.f162 8)) .rt)))))
def QBC : List (RV × Option Ty) := [((.c 2 true 4), some Qah)]
abbrev Qmp : Sh := ⟨[(0, .ty tI), (2, .ptr 2 0), (3, .ms 3), (4, .ty tI)], [(2, .box Qah), (3, .arr 5 (.int .u8)), (16, .no)]⟩
def QlU (x0 x4 : Int) (y2 : ValT) (y3 : List Int) : VS := Qmp.st (x0, (), (), x4, ()) (y2, y3, (), ())
abbrev Qrv : Sh := ⟨[(2, .ptr 2 0), (3, .ms 3)], [(2, .box Qah), (3, .arr 5 (.int .u8)), (16, .no)]⟩
def Qdk (y2 : ValT) (y3 : List Int) : VS := Qrv.st ((), (), ()) (y2, y3, (), ())
abbrev Qmo : Sh := ⟨[(2, .ptr 2 0), (3, .ty (.sl (.int .u8)))], [(2, .box Qah), (3, .no), (16, .no)]⟩
def QlT (x3 : List Int) (y2 : ValT) : VS := Qmo.st ((), x3, ()) (y2, (), (), ())
abbrev Qru : Sh := ⟨[(2, .ptr 2 0), (3, .ty (.sl (.int .u8)))], [(2, .box Qah), (3, .no), (16, .no)]⟩
def Qa5 (x3 : List Int) (y2 : ValT) : VS := Qru.st ((), x3, ()) (y2, (), (), ())
def QKj : VS → Option (Bool × List (Bool × Exit × VS)) := mkL Qmp (fun x y => (i64Ok x.1 && decide (y.2.1.length ≤ 100 ∧ -8 ≤ x.2.2.2.1 ∧ x.2.2.2.1 ≤ 56 ∧ x.2.2.2.1 % 8 = 0))) (fun x y => [(true, .exit 0, Qdk (y.1) (y.2.1 ++ bytsN x.1 ((x.2.2.2.1 + 8) / 8).toNat))])
def QKi : VS → Option (Bool × List (Bool × Exit × VS)) := mkL Qmo (fun x y => (decide (x.2.1.length ≤ 1000))) (fun x y => [(true, .exit 2, Qa5 (trimB x.2.1) (y.1))])
def Qe5 : G := ⟨TYs, [], 48, EL [], keeps, (Ls [QKj, QKi]), IL [], RL []⟩
def Qx0 (x0 x4 : Int) (y2 : ValT) (y3 : List Int) : Option (Exit × VS) :=
 let a1 := icv .u8 (ishr .u64 (icv .u64 x0) x4)
 br (ige x4 0) (br (decide ((0 : Int) ≤ x4)) (br (cApp y3 ([a1]) 1) (some (.normal, QlU x0 (isub .i64 x4 8) y2 (y3 ++ ([a1])))) none) none) (some (.exit 0, Qdk y2 y3))
noncomputable def Qm8 (x0 x4 : Int) (y2 : ValT) (y3 : List Int) : Option (Exit × VS) := loopF (Qaj Qe5 QfF Qhd) (QlU x0 x4 y2 y3)
noncomputable def QkE (x0 x4 : Int) (y2 : ValT) (y3 : List Int) : Option (Exit × VS) :=
 let a1 := icv .u8 (ishr .u64 (icv .u64 x0) x4)
 br (ige x4 0) (br (decide ((0 : Int) ≤ x4)) (br (cApp y3 ([a1]) 1) (Qm8 x0 (isub .i64 x4 8) y2 (y3 ++ ([a1]))) none) none) (some (.exit 0, Qdk y2 y3))
def Qnh (x0 x4 : Int) (y2 : ValT) (y3 : List Int) : Option (Exit × VS) := some (.exit 0, Qdk (y2) (y3 ++ bytsN x0 ((x4 + 8) / 8).toNat))
theorem QGd (x0 x4 : Int) (y2 : ValT) (y3 : List Int) : Qaj Qe5 QfF Qhd (QlU x0 x4 y2 y3) = Qx0 x0 x4 y2 y3 := by kernel_rfl
theorem Qsr (x0 x4 : Int) (y2 : ValT) (y3 : List Int) : Qm8 x0 x4 y2 y3 = QkE x0 x4 y2 y3 := (Qaq _ _).trans (by
 rw [QGd]
 simp only [Qx0, QkE, QaE, nxt_n, nxt_r, nxt_e, nxt_0]
 rfl)
def Qjp (x3 : List Int) (y2 : ValT) : Option (Exit × VS) :=
 let a1 := (List.length x3 : Nat)
 br (cSl x3 1 (a1 : Int) (a1 : Int)) (some (.normal, QlT (lsl x3 1 (a1 : Int)) y2)) none
def Qjo (x3 : List Int) (y2 : ValT) : Option (Exit × VS) := br (cIx x3 0) (br (ieq (lgt (.int .u8) x3 (Int.toNat 0)) 255) (br (cIx x3 1) (br (ige (lgt (.int .u8) x3 (Int.toNat 1)) 128) (Qjp x3 y2) (some (.exit 2, Qa5 x3 y2))) none) (some (.exit 2, Qa5 x3 y2))) none
def QxZ (x3 : List Int) (y2 : ValT) : Option (Exit × VS) := br (igt (llen x3) 1) (br (cIx x3 0) (br (ieq (lgt (.int .u8) x3 (Int.toNat 0)) 0) (br (cIx x3 1) (br (ilt (lgt (.int .u8) x3 (Int.toNat 1)) 128) (Qjp x3 y2) (Qjo x3 y2)) none) (Qjo x3 y2)) none) (some (.exit 2, Qa5 x3 y2))
noncomputable def Qm7 (x3 : List Int) (y2 : ValT) : Option (Exit × VS) := loopF (Qaj Qe5 QfE Qhc) (QlT x3 y2)
noncomputable def QcO (x3 : List Int) (y2 : ValT) : Option (Exit × VS) :=
 let a1 := (List.length x3 : Nat)
 br (cSl x3 1 (a1 : Int) (a1 : Int)) (Qm7 (lsl x3 1 (a1 : Int)) y2) none
noncomputable def QcN (x3 : List Int) (y2 : ValT) : Option (Exit × VS) := br (cIx x3 0) (br (ieq (lgt (.int .u8) x3 (Int.toNat 0)) 255) (br (cIx x3 1) (br (ige (lgt (.int .u8) x3 (Int.toNat 1)) 128) (QcO x3 y2) (some (.exit 2, Qa5 x3 y2))) none) (some (.exit 2, Qa5 x3 y2))) none
noncomputable def QhA (x3 : List Int) (y2 : ValT) : Option (Exit × VS) := br (igt (llen x3) 1) (br (cIx x3 0) (br (ieq (lgt (.int .u8) x3 (Int.toNat 0)) 0) (br (cIx x3 1) (br (ilt (lgt (.int .u8) x3 (Int.toNat 1)) 128) (QcO x3 y2) (QcN x3 y2)) none) (QcN x3 y2)) none) (some (.exit 2, Qa5 x3 y2))
def Qh7 (x3 : List Int) (y2 : ValT) : Option (Exit × VS) := some (.exit 2, Qa5 (trimB x3) (y2))
theorem QGc (x3 : List Int) (y2 : ValT) : Qaj Qe5 QfE Qhc (QlT x3 y2) = QxZ x3 y2 := by kernel_rfl
theorem Qne (x3 : List Int) (y2 : ValT) : Qm7 x3 y2 = QhA x3 y2 := (Qaq _ _).trans (by
 rw [QGc]
 simp only [QxZ, Qjp, Qjo, QhA, QcO, QcN, QaE, nxt_n, nxt_r, nxt_e, nxt_0]
 rfl)
def QCC (p0 : Int) : Option (V × List VO) := br (i64Ok p0 && decide (([] : List Int).length ≤ 100 ∧ -8 ≤ (56 : Int) ∧ (56 : Int) ≤ 56 ∧ (56 : Int) % 8 = 0)) (br (decide ((([] : List Int) ++ bytsN p0 (((56 : Int) + 8) / 8).toNat).length ≤ 1000)) (some (.t Qah (2, ((trimB (([] : List Int) ++ bytsN p0 (((56 : Int) + 8) / 8).toNat)), (false, (([] : List Val), ())))), [])) none) none
theorem e_f162 (p0 : Int) : runF Qe5 Qty QBC false [.t tI p0] [] = QCC p0 := by kernel_rfl
theorem QFp : Qag Tryz.prog 162 := .inr ⟨by decide, _, Tryz.func162, by kernel_rfl, by kernel_rfl⟩
theorem QPL : GOk Tryz.prog Qe5 := Qan _ (fun p hp => by cases hp)
theorem QIo (x0 x4 : Int) (y2 : ValT) (y3 : List Int) (h : (i64Ok x0 && decide (y3.length ≤ 100 ∧ -8 ≤ x4 ∧ x4 ≤ 56 ∧ x4 % 8 = 0)) = true) : Qm8 x0 x4 y2 y3 = Qnh x0 x4 y2 y3 := by
 simp only [Bool.and_eq_true, decide_eq_true_eq] at h
 obtain ⟨h0, h1, h2, h3, h4⟩ := h
 obtain ⟨k, hk⟩ : ∃ k : Nat, x4 = 8 * (k : Int) - 8 := ⟨((x4 + 8) / 8).toNat, by omega⟩
 subst hk
 have hk8 : k ≤ 8 := by omega
 have h9 : y3.length + k ≤ 200 := by omega
 clear h1 h2 h3 h4
 induction k generalizing y3 with
 | zero =>
  rw [Qsr]
  simp [QkE, Qnh, ige, Qae, bytsN]
 | succ k ih =>
  rw [Qsr]
  have e0 : (8 * ((k + 1 : Nat) : Int) - 8) = ((8 * k : Nat) : Int) := by omega
  rw [e0]
  simp only [QkE, show ige ((8 * k : Nat) : Int) 0 = true from decide_eq_true (by omega), Qac, show decide ((0 : Int) ≤ ((8 * k : Nat) : Int)) = true from decide_eq_true (by omega), QQ5 x0 k (by omega)]
  have e1 : isub .i64 ((8 * k : Nat) : Int) 8 = 8 * (k : Int) - 8 := by rw [QbE (by omega)]; omega
  rw [cAppN (by omega) (by simp only [List.length_singleton]; omega), Qac, e1, ih (y3 ++ [byt x0 k]) (by omega) (by simp only [List.length_append, List.length_singleton]; omega)]
  simp only [Qnh, show ((8 * (k : Int) - 8 + 8) / 8).toNat = k by omega, show ((((8 * k : Nat) : Int) + 8) / 8).toNat = k + 1 by omega, bytsN, List.append_assoc, List.singleton_append]
theorem QIn (x3 : List Int) (y2 : ValT) (h : (decide (x3.length ≤ 1000)) = true) : Qm7 x3 y2 = Qh7 x3 y2 := by
 simp only [decide_eq_true_eq] at h
 induction x3 with
 | nil =>
  rw [Qne]
  simp [QhA, QcO, QcN, Qh7, igt, llen, Qae, trimB]
 | cons x l ih =>
  cases l with
  | nil =>
   rw [Qne]
   simp [QhA, QcO, QcN, Qh7, igt, llen, Qae, trimB, trimL]
  | cons y r =>
   rw [Qne]
   simp only [List.length_cons] at h
   have e1 : igt (llen (x :: y :: r)) 1 = true := by simp only [igt, llen, List.length_cons, decide_eq_true_eq]; omega
   have e2 : cIx (x :: y :: r) 0 = true := by simp only [cIx, List.length_cons, decide_eq_true_eq]; omega
   have e3 : cIx (x :: y :: r) 1 = true := by simp only [cIx, List.length_cons, decide_eq_true_eq]; omega
   have e4 : lgt (.int .u8) (x :: y :: r) (Int.toNat 0) = x := rfl
   have e5 : lgt (.int .u8) (x :: y :: r) (Int.toNat 1) = y := rfl
   have e6 : cSl (x :: y :: r) 1 ((List.length (x :: y :: r) : Nat) : Int) ((List.length (x :: y :: r) : Nat) : Int) = true := by simp only [cSl, List.length_cons, decide_eq_true_eq]; omega
   have e7 : lsl (x :: y :: r) 1 ((List.length (x :: y :: r) : Nat) : Int) = y :: r := by
    show List.take _ (y :: r) = _
    exact List.take_of_length_le (by simp only [List.length_cons]; omega)
   have ih' := ih (by simp only [List.length_cons]; omega)
   have hb : trimB (x :: y :: r) = bif trimC x y then trimB (y :: r) else x :: y :: r := rfl
   simp only [QhA, QcO, QcN, e1, e2, e3, e4, e5, e6, e7, ih', Qac]
   simp only [Qh7, hb, trimC, ieq, ilt, ige]
   cases x == 0 <;> cases decide (y < 128) <;> cases x == 255 <;> cases decide (y ≥ 128) <;> rfl
theorem QD0 : ∀ S l p, Qe5.L 0 (fgt QfF S) = some (true, l) → pickA l = some p → loopF (Qaj Qe5 QfF Qhd) S = some p :=
 QaF (s := Qmp) ⟨by decide, by decide⟩ (by kernel_rfl) fun x y hok p hp => by
 simp only [Qas, Qap] at hp
 exact (QIo x.1 x.2.2.2.1 y.1 y.2.1 (by simpa using hok)).trans hp
theorem QDZ : ∀ S l p, Qe5.L 1 (fgt QfE S) = some (true, l) → pickA l = some p → loopF (Qaj Qe5 QfE Qhc) S = some p :=
 QaF (s := Qmo) ⟨by decide, by decide⟩ (by kernel_rfl) fun x y hok p hp => by
 simp only [Qas, Qap] at hp
 exact (QIn x.2.1 y.1 (by simpa using hok)).trans hp
theorem QOw : Qty.lok Qe5 := by
 repeat (first | exact trivial | exact QD0 | exact QDZ | refine ⟨?_, ?_⟩)
theorem s_f162 (n : Int) (h : i64Ok n = true) : QCC n = some (.t Qah (intT n), []) := by
 have h1 := h
 simp only [i64Ok, decide_eq_true_eq] at h1
 simp only [QCC, h, Bool.true_and, show ((56 + 8 : Int) / 8).toNat = 8 from rfl, List.nil_append, List.length_nil]
 rw [show (decide ((0 : Nat) ≤ 100 ∧ (-8 : Int) ≤ 56 ∧ (56 : Int) ≤ 56 ∧ (56 : Int) % 8 = 0)) = true from rfl, Qac, decide_eq_true (by rw [QnK]; omega), Qac, QEE h1]
 rfl
def Quf : Ent := spec (.pr tI .nil) (fun x => (i64Ok x.1)) (fun x => (.t Qah (intT x.1)))
theorem QDF : Meets Tryz.prog 162 (strip Quf) := Qaf (R := runF Qe5 Qty QBC false) (mG Tryz.func162 (by kernel_rfl) Tryz.ntmps162 (by kernel_rfl) QPL QOw) fun x hok => (e_f162 x.1).trans (s_f162 x.1 hok)
def QfH : Fg := ⟨[(2, none), (3, none), (4, some tI)], [(2, some Qah), (3, none), (7, none), (40, none), (42, none)]⟩
noncomputable def Qhf : TC := (.mv [(40, 7)] (.sq (.sq (.reg (rT Tryz.f154 3)) (.cd (.t 35) .sk (.fg ⟨[(2, none), (3, none)], [(2, some Qah), (3, none), (7, none), (40, none), (42, none)]⟩ (.ex 0)))) (.sq (.bk 1 (.reg (rT Tryz.f154 4))) (.reg (rT Tryz.f154 5)))))
noncomputable def QtF : TC := (.sq (.reg (rT Tryz.f154 0)) (.sq (.reg (rT Tryz.f154 1)) (.sq (.sq (.reg (rT Tryz.f154 2)) (.bk 0 (.nw 3 5 (.lp 0 QfH Qhf)))) (.sq (.reg (rT Tryz.f154 6)) .rt))))
def QBJ : List (RV × Option Ty) := [((.c 2 true 4), some Qah)]
abbrev Qmr : Sh := ⟨[(2, .ptr 2 0), (3, .ms 7), (4, .ty tI)], [(2, .box Qah), (3, .no), (7, .arr 5 (.int .u8)), (40, .no), (42, .no)]⟩
def QlW (x4 : Int) (y2 : ValT) (y7 : List Int) : VS := Qmr.st ((), (), x4, ()) (y2, (), y7, (), (), ())
abbrev Qrx : Sh := ⟨[(2, .ptr 2 0), (3, .ms 7)], [(2, .box Qah), (3, .no), (7, .arr 5 (.int .u8)), (40, .no), (42, .no)]⟩
def Qa6 (y2 : ValT) (y7 : List Int) : VS := Qrx.st ((), (), ()) (y2, (), y7, (), (), ())
def QKl : VS → Option (Bool × List (Bool × Exit × VS)) := mkL Qmr (fun x y => (decide (-9223372036854775808 ≤ x.2.2.1 ∧ x.2.2.1 < 9223372036854775808 ∧ 1 ≤ y.2.2.1.length ∧ y.2.2.1.length ≤ 100))) (fun x y => [(true, .exit 0, Qa6 (y.1) (growB 10 x.2.2.1 y.2.2.1))])
def QjO : G := ⟨TYs, [7, 40], 45, EL [], keeps, (Ls [QKl]), IL [], RL []⟩
def Qgt (x4 : Int) (y2 : ValT) (y7 : List Int) : Option (Exit × VS) := br (cApp ([(icv .u8 x4)]) y7 1) (br (decide ((0 : Int) ≤ 8)) (some (.normal, QlW (ishr .i64 x4 8) y2 (([(icv .u8 x4)]) ++ y7))) none) none
def Qjq (x4 : Int) (y2 : ValT) (y7 : List Int) : Option (Exit × VS) := br (ieq x4 (-1)) (br (cIx y7 0) (br (cLd y7 (Int.toNat 0)) (br (ilt (lgt (.int .u8) y7 (Int.toNat 0)) 128) (Qgt x4 y2 y7) (some (.exit 0, Qa6 y2 y7))) none) none) (some (.exit 0, Qa6 y2 y7))
def Qjr (x4 : Int) (y2 : ValT) (y7 : List Int) : Option (Exit × VS) := br (ieq x4 0) (br (cIx y7 0) (br (cLd y7 (Int.toNat 0)) (br (ige (lgt (.int .u8) y7 (Int.toNat 0)) 128) (Qgt x4 y2 y7) (Qjq x4 y2 y7)) none) none) (Qjq x4 y2 y7)
def Qx2 (x4 : Int) (y2 : ValT) (y7 : List Int) : Option (Exit × VS) := br (ine x4 0) (br (ine x4 (-1)) (Qgt x4 y2 y7) (Qjr x4 y2 y7)) (Qjr x4 y2 y7)
noncomputable def Qd4 (x4 : Int) (y2 : ValT) (y7 : List Int) : Option (Exit × VS) := loopF (Qaj QjO QfH Qhf) (QlW x4 y2 y7)
noncomputable def Qd3 (x4 : Int) (y2 : ValT) (y7 : List Int) : Option (Exit × VS) := br (cApp ([(icv .u8 x4)]) y7 1) (br (decide ((0 : Int) ≤ 8)) (Qd4 (ishr .i64 x4 8) y2 (([(icv .u8 x4)]) ++ y7)) none) none
noncomputable def Qgd (x4 : Int) (y2 : ValT) (y7 : List Int) : Option (Exit × VS) := br (ieq x4 (-1)) (br (cIx y7 0) (br (cLd y7 (Int.toNat 0)) (br (ilt (lgt (.int .u8) y7 (Int.toNat 0)) 128) (Qd3 x4 y2 y7) (some (.exit 0, Qa6 y2 y7))) none) none) (some (.exit 0, Qa6 y2 y7))
noncomputable def Qge (x4 : Int) (y2 : ValT) (y7 : List Int) : Option (Exit × VS) := br (ieq x4 0) (br (cIx y7 0) (br (cLd y7 (Int.toNat 0)) (br (ige (lgt (.int .u8) y7 (Int.toNat 0)) 128) (Qd3 x4 y2 y7) (Qgd x4 y2 y7)) none) none) (Qgd x4 y2 y7)
noncomputable def Qp9 (x4 : Int) (y2 : ValT) (y7 : List Int) : Option (Exit × VS) := br (ine x4 0) (br (ine x4 (-1)) (Qd3 x4 y2 y7) (Qge x4 y2 y7)) (Qge x4 y2 y7)
def Qni (x4 : Int) (y2 : ValT) (y7 : List Int) : Option (Exit × VS) := some (.exit 0, Qa6 (y2) (growB 10 x4 y7))
theorem QGf (x4 : Int) (y2 : ValT) (y7 : List Int) : Qaj QjO QfH Qhf (QlW x4 y2 y7) = Qx2 x4 y2 y7 := by kernel_rfl
theorem QEg (x4 : Int) (y2 : ValT) (y7 : List Int) : Qd4 x4 y2 y7 = Qp9 x4 y2 y7 := (Qaq _ _).trans (by
 rw [QGf]
 simp only [Qx2, Qgt, Qjr, Qjq, Qp9, Qd3, Qge, Qgd, QaE, nxt_n, nxt_r, nxt_e, nxt_0]
 rfl)
def QCI (p0 : Int) : Option (V × List VO) :=
 let a1 := ishr .i64 p0 8
 br (decide ((0 : Int) ≤ 8)) (br (decide (-9223372036854775808 ≤ a1 ∧ a1 < 9223372036854775808 ∧ 1 ≤ ([(icv .u8 p0)]).length ∧ ([(icv .u8 p0)]).length ≤ 100)) (some (.t Qah (2, ((growB 10 a1 ([(icv .u8 p0)])), (false, (([] : List Val), ())))), [])) none) none
theorem e_f154 (p0 : Int) : runF QjO QtF QBJ false [.t tI p0] [] = QCI p0 := by kernel_rfl
theorem QFs : Qag Tryz.prog 154 := .inr ⟨by decide, _, Tryz.func154, by kernel_rfl, by kernel_rfl⟩
theorem QPS : GOk Tryz.prog QjO := Qan _ (fun p hp => by cases hp)
theorem ishr8z (n : Int) : ishr .i64 n 8 = n / 256 := by
 have := Qlk (kd := .i64) rfl n 1 (by omega)
 rw [show ((8 * 1 : Nat) : Int) = 8 from rfl] at this
 rw [this]
 rfl
theorem Qno : ∀ (k : Nat) (x : Int) (b : List Int), -(256 ^ k : Int) ≤ x → x < 256 ^ k → ∀ f, growB (k + 2 + f) x b = growB (k + 2) x b
 | 0, x, b, h1, h2, f => by
  simp only [Int.pow_zero] at h1 h2
  have hx : x = -1 ∨ x = 0 := by omega
  have g : ∀ f, growB (f + 2) x b = bif growC x (b.headD 0) then (x % 256 :: b) else b := by
   intro f
   rw [show f + 2 = (f + 1) + 1 from rfl, growB, growB]
   rcases hx with rfl | rfl
   ·rw [show ((-1 : Int) % 256 :: b).headD 0 = 255 from rfl, show growC (-1 / 256) 255 = false from rfl]; rfl
   ·rw [show ((0 : Int) % 256 :: b).headD 0 = 0 from rfl, show growC (0 / 256) 0 = false from rfl]; rfl
  rw [show 0 + 2 + f = f + 2 by omega, g f]
  exact (g 0).symm
 | k + 1, x, b, h1, h2, f => by
  rw [show k + 1 + 2 + f = (k + 2 + f) + 1 by omega, growB, show k + 1 + 2 = (k + 2) + 1 from rfl, growB]
  have e : (256 : Int) ^ (k + 1) = 256 ^ k * 256 := by rw [Int.pow_succ]
  rw [e] at h1 h2
  rw [Qno k (x / 256) (x % 256 :: b) (by omega) (by omega) f]
theorem QvA (x : Int) (b : List Int) (h : -9223372036854775808 ≤ x ∧ x < 9223372036854775808) : growB 10 x b = bif growC x (b.headD 0) then growB 10 (x / 256) (x % 256 :: b) else b := by
 have := Qno 8 x b (by omega) (by omega) 1
 rw [← this]
 rfl
theorem QIq (x4 : Int) (y2 : ValT) (y7 : List Int) (h : (decide (-9223372036854775808 ≤ x4 ∧ x4 < 9223372036854775808 ∧ 1 ≤ y7.length ∧ y7.length ≤ 100)) = true) : Qd4 x4 y2 y7 = Qni x4 y2 y7 := by
 simp only [decide_eq_true_eq] at h
 obtain ⟨h1, h2, h3, h4⟩ := h
 have step : ∀ (x c : Int) (r : List Int), r.length ≤ 300 → Qd4 x y2 (c :: r) = bif growC x c then Qd4 (x / 256) y2 (x % 256 :: c :: r) else some (.exit 0, Qa6 y2 (c :: r)) := by
  intro x c r hr
  rw [QEg]
  have e1 : cIx (c :: r) 0 = true := by simp only [cIx, List.length_cons, decide_eq_true_eq]; omega
  have e2 : cLd (c :: r) (Int.toNat 0) = true := by simp only [cLd, List.length_cons, decide_eq_true_eq, Int.toNat_zero]; omega
  have e3 : lgt (.int .u8) (c :: r) (Int.toNat 0) = c := rfl
  have e4 : cApp [x % 256] (c :: r) 1 = true := cAppN (by omega) (by simp only [List.length_cons, List.length_nil]; omega)
  simp only [Qp9, Qd3, Qge, Qgd, e1, e2, e3, e4, Qac, show decide ((0 : Int) ≤ 8) = true from rfl, ishr8z, icv8, List.singleton_append]
  simp only [growC, ine, ieq, ilt, ige]
  have q1 : (x != 0) = !(x == 0) := rfl
  have q2 : (x != -1) = !(x == -1) := rfl
  rw [q1, q2]
  by_cases hx : x = 0
  ·subst hx
   cases decide (c ≥ 128) <;> rfl
  ·by_cases hy : x = -1
   ·subst hy
    cases decide (c < 128) <;> rfl
   ·rw [show (x == 0) = false from beq_false_of_ne hx, show (x == -1) = false from beq_false_of_ne hy]
    rfl
 have lae : ∀ (x : Int) (y : List Int), Qni x y2 y = some (.exit 0, Qa6 y2 (growB 10 x y)) := fun _ _ => rfl
 have key : ∀ (k : Nat) (x : Int) (y : List Int), -(256 ^ k : Int) ≤ x → x < 256 ^ k → k ≤ 8 → 1 ≤ y.length → y.length + k ≤ 200 → -9223372036854775808 ≤ x → x < 9223372036854775808 → Qd4 x y2 y = Qni x y2 y := by
  intro k
  induction k with
  | zero =>
   intro x y g1 g2 g3 g4 g5 g6 g7
   simp only [Int.pow_zero] at g1 g2
   have hx : x = -1 ∨ x = 0 := by omega
   obtain ⟨c, r, rfl⟩ : ∃ c r, y = c :: r := by
    cases y with
    | nil => simp at g4
    | cons c r => exact ⟨c, r, rfl⟩
   simp only [List.length_cons] at g5
   rw [step x c r (by omega), lae, QvA x (c :: r) ⟨g6, g7⟩, List.headD_cons]
   cases growC x c with
   | false => rfl
   | true =>
    rw [cond_true, cond_true, step (x / 256) (x % 256) (c :: r) (by simp only [List.length_cons]; omega), QvA (x / 256) (x % 256 :: c :: r) (by omega), List.headD_cons]
    have : growC (x / 256) (x % 256) = false := by rcases hx with rfl | rfl <;> rfl
    rw [this]
    rfl
  | succ k ih =>
   intro x y g1 g2 g3 g4 g5 g6 g7
   obtain ⟨c, r, rfl⟩ : ∃ c r, y = c :: r := by
    cases y with
    | nil => simp at g4
    | cons c r => exact ⟨c, r, rfl⟩
   have e : (256 : Int) ^ (k + 1) = 256 ^ k * 256 := by rw [Int.pow_succ]
   rw [e] at g1 g2
   simp only [List.length_cons] at g5
   rw [step x c r (by omega), lae, QvA x (c :: r) ⟨g6, g7⟩, List.headD_cons]
   cases growC x c with
   | false => rfl
   | true =>
    rw [cond_true, cond_true, ih (x / 256) (x % 256 :: c :: r) (by omega) (by omega) (by omega) (by simp) (by simp only [List.length_cons]; omega) (by omega) (by omega), lae]
 exact key 8 x4 y7 (by omega) (by omega) (by omega) h3 (by omega) (by omega) (by omega)
theorem QD2 : ∀ S l p, QjO.L 0 (fgt QfH S) = some (true, l) → pickA l = some p → loopF (Qaj QjO QfH Qhf) S = some p :=
 QaF (s := Qmr) ⟨by decide, by decide⟩ (by kernel_rfl) fun x y hok p hp => by
 simp only [Qas, Qap] at hp
 exact (QIq x.2.2.1 y.1 y.2.2.1 (by simpa using hok)).trans hp
theorem QOD : QtF.lok QjO := by
 repeat (first | exact trivial | exact QD2 | refine ⟨?_, ?_⟩)
theorem s_f154 (n : Int) (h : i64Ok n = true) : QCI n = some (.t Qah (intT n), []) := by
 have h1 := h
 simp only [i64Ok, decide_eq_true_eq] at h1
 have e0 : icv .u8 n = byt n 0 := by
  rw [icv8]
  simp [byt]
 simp only [QCI, show decide ((0 : Int) ≤ 8) = true from rfl, Qac, ishr8z, e0]
 rw [decide_eq_true ⟨by omega, by omega, by simp, by simp⟩, Qac]
 have e1 := Qno 7 (n / 256) [byt n 0] (by omega) (by omega) 1
 rw [show growB 10 (n / 256) [byt n 0] = growB 9 (n / 256) [byt n 0] from e1, QEF h1]
 rfl
def Qug : Ent := spec (.pr tI .nil) (fun x => (i64Ok x.1)) (fun x => (.t Qah (intT x.1)))
theorem QDG : Meets Tryz.prog 154 (strip Qug) := Qaf (R := runF QjO QtF QBJ false) (mG Tryz.func154 (by kernel_rfl) Tryz.ntmps154 (by kernel_rfl) QPS QOD) fun x hok => (e_f154 x.1).trans (s_f154 x.1 hok)
def txtT (s : ByteArray) : ValT := (12, (QaH s, (false, (([] : List Val), ()))))
noncomputable def QtA : TC := (.sq (.reg (rT Tryz.f160 0)) (.sq (.reg (rT Tryz.f160 1)) .rt))
def QBE : List (RV × Option Ty) := [((.c 2 true 4), some Qah)]
def Qw9 : G := ⟨TYs, [], 6, EL [(22760144, QaX)], keeps, (fun _ _ => none), IL [], RL []⟩
def QCE (p0 : ByteArray) : Option (V × List VO) := br (Qa3 p0) (some (.t Qah (12, ((QaH p0), (false, (([] : List Val), ())))), [])) none
theorem e_f160 (p0 : ByteArray) : runF Qw9 QtA QBE false [.t .str p0] [] = QCE p0 := by kernel_rfl
theorem QQy : Qag Tryz.prog 160 := .inr ⟨by decide, _, Tryz.func160, by kernel_rfl, by kernel_rfl⟩
theorem QPN : GOk Tryz.prog Qw9 := Qan _ (gA (gC Qbc Qba gN))
theorem QOy : QtA.lok Qw9 := by repeat (first | exact trivial | refine ⟨?_, ?_⟩)
theorem s_f160 (s : ByteArray) (h : Qa3 s = true) : QCE s = some (.t Qah (txtT s), []) := by
 simp only [QCE, h, Qac]
 rfl
def QAN : Ent := spec (.pr .str .nil) (fun x => (Qa3 x.1)) (fun x => (.t Qah (txtT x.1)))
theorem QNH : Meets Tryz.prog 160 (strip QAN) := Qaf (R := runF Qw9 QtA QBE false) (mG Tryz.func160 (by kernel_rfl) Tryz.ntmps160 (by kernel_rfl) QPN QOy) fun x hok => (e_f160 x.1).trans (s_f160 x.1 hok)
noncomputable def QtH : TC := (.sq (.reg (rT Tryz.f152 0)) (.sq (.reg (rT Tryz.f152 1)) .rt))
def QBL : List (RV × Option Ty) := [((.c 2 true 4), some Qah)]
def Qxe : G := ⟨TYs, [], 6, EL [(22760144, QaX)], keeps, (fun _ _ => none), IL [], RL []⟩
def QCK (p0 : ByteArray) : Option (V × List VO) := br (Qa3 p0) (some (.t Qah (12, ((QaH p0), (false, (([] : List Val), ())))), [])) none
theorem e_f152 (p0 : ByteArray) : runF Qxe QtH QBL false [.t .str p0] [] = QCK p0 := by kernel_rfl
theorem QQB : Qag Tryz.prog 152 := .inr ⟨by decide, _, Tryz.func152, by kernel_rfl, by kernel_rfl⟩
theorem QPU : GOk Tryz.prog Qxe := Qan _ (gA (gC Qbc Qba gN))
theorem QOF : QtH.lok Qxe := by repeat (first | exact trivial | refine ⟨?_, ?_⟩)
theorem s_f152 (s : ByteArray) (h : Qa3 s = true) : QCK s = some (.t Qah (txtT s), []) := by
 simp only [QCK, h, Qac]
 rfl
def QAS : Ent := spec (.pr .str .nil) (fun x => (Qa3 x.1)) (fun x => (.t Qah (txtT x.1)))
theorem QNM : Meets Tryz.prog 152 (strip QAS) := Qaf (R := runF Qxe QtH QBL false) (mG Tryz.func152 (by kernel_rfl) Tryz.ntmps152 (by kernel_rfl) QPU QOF) fun x hok => (e_f152 x.1).trans (s_f152 x.1 hok)
def boolT (b : Bool) : ValT := (1, ([bif b then 255 else 0], (false, (([] : List Val), ()))))
noncomputable def Qtw : TC := (.sq (.reg (rT Tryz.f164 0)) (.sq (.sq (.reg (rT Tryz.f164 1)) (.cd (.t 3) (.sq (.reg (rT Tryz.f164 2)) .rt) .sk)) (.sq (.reg (rT Tryz.f164 3)) .rt)))
def QBA : List (RV × Option Ty) := [((.c 2 true 4), some Qah)]
def Qw6 : G := ⟨TYs, [], 8, EL [], keeps, (fun _ _ => none), IL [], RL []⟩
def QMn (p0 : Bool) : Option (V × List VO) := br (p0) (some (.t Qah (1, ([255], (false, (([] : List Val), ())))), [])) (some (.t Qah (1, ([0], (false, (([] : List Val), ())))), []))
theorem e_f164 (p0 : Bool) : runF Qw6 Qtw QBA false [.t .bool p0] [] = QMn p0 := by kernel_rfl
theorem QQw : Qag Tryz.prog 164 := .inr ⟨by decide, _, Tryz.func164, by kernel_rfl, by kernel_rfl⟩
theorem QPJ : GOk Tryz.prog Qw6 := Qan _ (fun p hp => by cases hp)
theorem QOu : Qtw.lok Qw6 := by repeat (first | exact trivial | refine ⟨?_, ?_⟩)
theorem s_f164 (b : Bool) : QMn b = some (.t Qah (boolT b), []) := by cases b <;> rfl
def QAL : Ent := spec (.pr .bool .nil) (fun x => true) (fun x => (.t Qah (boolT x.1)))
theorem QNF : Meets Tryz.prog 164 (strip QAL) := Qaf (R := runF Qw6 Qtw QBA false) (mG Tryz.func164 (by kernel_rfl) Tryz.ntmps164 (by kernel_rfl) QPJ QOu) fun x _ => (e_f164 x.1).trans (s_f164 x.1)
noncomputable def QtD : TC := (.sq (.reg (rT Tryz.f156 0)) (.sq (.sq (.reg (rT Tryz.f156 1)) (.cd (.t 3) (.sq (.reg (rT Tryz.f156 2)) .rt) .sk)) (.sq (.reg (rT Tryz.f156 3)) .rt)))
def QBH : List (RV × Option Ty) := [((.c 2 true 4), some Qah)]
def Qxb : G := ⟨TYs, [], 8, EL [], keeps, (fun _ _ => none), IL [], RL []⟩
def QMo (p0 : Bool) : Option (V × List VO) := br (p0) (some (.t Qah (1, ([255], (false, (([] : List Val), ())))), [])) (some (.t Qah (1, ([0], (false, (([] : List Val), ())))), []))
theorem e_f156 (p0 : Bool) : runF Qxb QtD QBH false [.t .bool p0] [] = QMo p0 := by kernel_rfl
theorem QQz : Qag Tryz.prog 156 := .inr ⟨by decide, _, Tryz.func156, by kernel_rfl, by kernel_rfl⟩
theorem QPQ : GOk Tryz.prog Qxb := Qan _ (fun p hp => by cases hp)
theorem QOB : QtD.lok Qxb := by repeat (first | exact trivial | refine ⟨?_, ?_⟩)
theorem s_f156 (b : Bool) : QMo b = some (.t Qah (boolT b), []) := by cases b <;> rfl
def QAQ : Ent := spec (.pr .bool .nil) (fun x => true) (fun x => (.t Qah (boolT x.1)))
theorem QNK : Meets Tryz.prog 156 (strip QAQ) := Qaf (R := runF Qxb QtD QBH false) (mG Tryz.func156 (by kernel_rfl) Tryz.ntmps156 (by kernel_rfl) QPQ QOB) fun x _ => (e_f156 x.1).trans (s_f156 x.1)
end
end Go.Proofs.YtkngeegkjhipeaaGreat.K
