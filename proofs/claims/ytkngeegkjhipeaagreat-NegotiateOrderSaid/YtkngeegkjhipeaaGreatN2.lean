import Derived.Test.YtkngeegkjhipeaaGreatN1
set_option linter.unusedSimpArgs false
set_option linter.unusedVariables false
namespace Go.Proofs.YtkngeegkjhipeaaGreat.K
open Go.RowKit
noncomputable section
def intT (n : Int) : ValT := (2, (intL n, (false, (([] : List Val), ()))))
def i64Ok (n : Int) : Bool := decide (-9223372036854775808 ≤ n ∧ n < 9223372036854775808)
def QfE : Fg := ⟨[(0, some tI), (2, none), (3, none), (4, some tI)], [(2, some Qai), (3, none), (16, none)]⟩
noncomputable def Qhe : TC := (.sq (.sq (.reg (rT Tryz.f162 3)) (.cd (.t 6) .sk (.fg ⟨[(2, none), (3, none)], [(2, some Qai), (3, none), (16, none)]⟩ (.ex 0)))) (.sq (.bk 1 (.reg (rT Tryz.f162 4))) (.reg (rT Tryz.f162 5))))
def QfD : Fg := ⟨[(2, none), (3, some (.sl (.int .u8)))], [(2, some Qai), (3, none), (16, none)]⟩
noncomputable def Qhd : TC := (.sq (.sq (.reg (rT Tryz.f162 6)) (.cd (.t 43) .sk (.fg ⟨[(2, none), (3, none)], [(2, some Qai), (3, none), (16, none)]⟩ (.ex 2)))) (.bk 3 (.reg (rT Tryz.f162 7))))
noncomputable def QtZ : TC := (.sq (.reg (rT Tryz.f162 0)) (.sq (.reg (rT Tryz.f162 1)) (.sq (.sq (.reg (rT Tryz.f162 2)) (.bk 0 (.nw 3 5 (.lp 0 QfE Qhe)))) (.sq (.bk 2 (.fz [3] (.lp 1 QfD Qhd))) (.sq (.reg (rT Tryz.f162 8)) .rt)))))
def QCj : List (RV × Option Ty) := [((.c 2 true 4), some Qai)]
abbrev Qmy : Sh := ⟨[(0, .ty tI), (2, .ptr 2 0), (3, .ms 3), (4, .ty tI)], [(2, .box Qai), (3, .arr 5 (.int .u8)), (16, .no)]⟩
def Ql3 (x0 x4 : Int) (y2 : ValT) (y3 : List Int) : VS := Qmy.st (x0, (), (), x4, ()) (y2, y3, (), ())
abbrev QrN : Sh := ⟨[(2, .ptr 2 0), (3, .ms 3)], [(2, .box Qai), (3, .arr 5 (.int .u8)), (16, .no)]⟩
def Qdk (y2 : ValT) (y3 : List Int) : VS := QrN.st ((), (), ()) (y2, y3, (), ())
abbrev Qmx : Sh := ⟨[(2, .ptr 2 0), (3, .ty (.sl (.int .u8)))], [(2, .box Qai), (3, .no), (16, .no)]⟩
def Ql2 (x3 : List Int) (y2 : ValT) : VS := Qmx.st ((), x3, ()) (y2, (), (), ())
abbrev QrM : Sh := ⟨[(2, .ptr 2 0), (3, .ty (.sl (.int .u8)))], [(2, .box Qai), (3, .no), (16, .no)]⟩
def Qa5 (x3 : List Int) (y2 : ValT) : VS := QrM.st ((), x3, ()) (y2, (), (), ())
def QKZ : VS → Option (Bool × List (Bool × Exit × VS)) := mkL Qmy (fun x y => (i64Ok x.1 && decide (y.2.1.length ≤ 100 ∧ -8 ≤ x.2.2.2.1 ∧ x.2.2.2.1 ≤ 56 ∧ x.2.2.2.1 % 8 = 0))) (fun x y => [(true, .exit 0, Qdk (y.1) (y.2.1 ++ bytsN x.1 ((x.2.2.2.1 + 8) / 8).toNat))])
def QKY : VS → Option (Bool × List (Bool × Exit × VS)) := mkL Qmx (fun x y => (decide (x.2.1.length ≤ 1000))) (fun x y => [(true, .exit 2, Qa5 (trimB x.2.1) (y.1))])
def Qe5 : G := ⟨TYs, [], 48, EL [], keeps, (Ls [QKZ, QKY]), IL [], RL []⟩
def QyD (x0 x4 : Int) (y2 : ValT) (y3 : List Int) : Option (Exit × VS) :=
 let a1 := icv .u8 (ishr .u64 (icv .u64 x0) x4)
 br (ige x4 0) (br (decide ((0 : Int) ≤ x4)) (br (cApp y3 ([a1]) 1) (some (.normal, Ql3 x0 (isub .i64 x4 8) y2 (y3 ++ ([a1])))) none) none) (some (.exit 0, Qdk y2 y3))
noncomputable def Qnk (x0 x4 : Int) (y2 : ValT) (y3 : List Int) : Option (Exit × VS) := loopF (Qaj Qe5 QfE Qhe) (Ql3 x0 x4 y2 y3)
noncomputable def QkK (x0 x4 : Int) (y2 : ValT) (y3 : List Int) : Option (Exit × VS) :=
 let a1 := icv .u8 (ishr .u64 (icv .u64 x0) x4)
 br (ige x4 0) (br (decide ((0 : Int) ≤ x4)) (br (cApp y3 ([a1]) 1) (Qnk x0 (isub .i64 x4 8) y2 (y3 ++ ([a1]))) none) none) (some (.exit 0, Qdk y2 y3))
def Qnv (x0 x4 : Int) (y2 : ValT) (y3 : List Int) : Option (Exit × VS) := some (.exit 0, Qdk (y2) (y3 ++ bytsN x0 ((x4 + 8) / 8).toNat))
theorem QGU (x0 x4 : Int) (y2 : ValT) (y3 : List Int) : Qaj Qe5 QfE Qhe (Ql3 x0 x4 y2 y3) = QyD x0 x4 y2 y3 := by kernel_rfl
theorem QsR (x0 x4 : Int) (y2 : ValT) (y3 : List Int) : Qnk x0 x4 y2 y3 = QkK x0 x4 y2 y3 := (Qaq _ _).trans (by
 rw [QGU]
 simp only [QyD, QkK, QaE, nxt_n, nxt_r, nxt_e, nxt_0]
 rfl)
def Qjv (x3 : List Int) (y2 : ValT) : Option (Exit × VS) :=
 let a1 := (List.length x3 : Nat)
 br (cSl x3 1 (a1 : Int) (a1 : Int)) (some (.normal, Ql2 (lsl x3 1 (a1 : Int)) y2)) none
def Qju (x3 : List Int) (y2 : ValT) : Option (Exit × VS) := br (cIx x3 0) (br (ieq (lgt (.int .u8) x3 (Int.toNat 0)) 255) (br (cIx x3 1) (br (ige (lgt (.int .u8) x3 (Int.toNat 1)) 128) (Qjv x3 y2) (some (.exit 2, Qa5 x3 y2))) none) (some (.exit 2, Qa5 x3 y2))) none
def QyC (x3 : List Int) (y2 : ValT) : Option (Exit × VS) := br (igt (llen x3) 1) (br (cIx x3 0) (br (ieq (lgt (.int .u8) x3 (Int.toNat 0)) 0) (br (cIx x3 1) (br (ilt (lgt (.int .u8) x3 (Int.toNat 1)) 128) (Qjv x3 y2) (Qju x3 y2)) none) (Qju x3 y2)) none) (some (.exit 2, Qa5 x3 y2))
noncomputable def Qnj (x3 : List Int) (y2 : ValT) : Option (Exit × VS) := loopF (Qaj Qe5 QfD Qhd) (Ql2 x3 y2)
noncomputable def QcM (x3 : List Int) (y2 : ValT) : Option (Exit × VS) :=
 let a1 := (List.length x3 : Nat)
 br (cSl x3 1 (a1 : Int) (a1 : Int)) (Qnj (lsl x3 1 (a1 : Int)) y2) none
noncomputable def QcL (x3 : List Int) (y2 : ValT) : Option (Exit × VS) := br (cIx x3 0) (br (ieq (lgt (.int .u8) x3 (Int.toNat 0)) 255) (br (cIx x3 1) (br (ige (lgt (.int .u8) x3 (Int.toNat 1)) 128) (QcM x3 y2) (some (.exit 2, Qa5 x3 y2))) none) (some (.exit 2, Qa5 x3 y2))) none
noncomputable def QhD (x3 : List Int) (y2 : ValT) : Option (Exit × VS) := br (igt (llen x3) 1) (br (cIx x3 0) (br (ieq (lgt (.int .u8) x3 (Int.toNat 0)) 0) (br (cIx x3 1) (br (ilt (lgt (.int .u8) x3 (Int.toNat 1)) 128) (QcM x3 y2) (QcL x3 y2)) none) (QcL x3 y2)) none) (some (.exit 2, Qa5 x3 y2))
def Qia (x3 : List Int) (y2 : ValT) : Option (Exit × VS) := some (.exit 2, Qa5 (trimB x3) (y2))
theorem QGT (x3 : List Int) (y2 : ValT) : Qaj Qe5 QfD Qhd (Ql2 x3 y2) = QyC x3 y2 := by kernel_rfl
theorem Qnq (x3 : List Int) (y2 : ValT) : Qnj x3 y2 = QhD x3 y2 := (Qaq _ _).trans (by
 rw [QGT]
 simp only [QyC, Qjv, Qju, QhD, QcM, QcL, QaE, nxt_n, nxt_r, nxt_e, nxt_0]
 rfl)
def QDj (p0 : Int) : Option (V × List VO) := br (i64Ok p0 && decide (([] : List Int).length ≤ 100 ∧ -8 ≤ (56 : Int) ∧ (56 : Int) ≤ 56 ∧ (56 : Int) % 8 = 0)) (br (decide ((([] : List Int) ++ bytsN p0 (((56 : Int) + 8) / 8).toNat).length ≤ 1000)) (some (.t Qai (2, ((trimB (([] : List Int) ++ bytsN p0 (((56 : Int) + 8) / 8).toNat)), (false, (([] : List Val), ())))), [])) none) none
theorem e_f162 (p0 : Int) : runF Qe5 QtZ QCj false [.t tI p0] [] = QDj p0 := by kernel_rfl
theorem QF7 : Qag Tryz.prog 162 := .inr ⟨by decide, _, Tryz.func162, by kernel_rfl, by kernel_rfl⟩
theorem QQz : GOk Tryz.prog Qe5 := Qao _ (fun p hp => by cases hp)
theorem QI6 (x0 x4 : Int) (y2 : ValT) (y3 : List Int) (h : (i64Ok x0 && decide (y3.length ≤ 100 ∧ -8 ≤ x4 ∧ x4 ≤ 56 ∧ x4 % 8 = 0)) = true) : Qnk x0 x4 y2 y3 = Qnv x0 x4 y2 y3 := by
 simp only [Bool.and_eq_true, decide_eq_true_eq] at h
 obtain ⟨h0, h1, h2, h3, h4⟩ := h
 obtain ⟨k, hk⟩ : ∃ k : Nat, x4 = 8 * (k : Int) - 8 := ⟨((x4 + 8) / 8).toNat, by omega⟩
 subst hk
 have hk8 : k ≤ 8 := by omega
 have h9 : y3.length + k ≤ 200 := by omega
 clear h1 h2 h3 h4
 induction k generalizing y3 with
 | zero =>
  rw [QsR]
  simp [QkK, Qnv, ige, Qae, bytsN]
 | succ k ih =>
  rw [QsR]
  have e0 : (8 * ((k + 1 : Nat) : Int) - 8) = ((8 * k : Nat) : Int) := by omega
  rw [e0]
  simp only [QkK, show ige ((8 * k : Nat) : Int) 0 = true from decide_eq_true (by omega), Qac, show decide ((0 : Int) ≤ ((8 * k : Nat) : Int)) = true from decide_eq_true (by omega), QRW x0 k (by omega)]
  have e1 : isub .i64 ((8 * k : Nat) : Int) 8 = 8 * (k : Int) - 8 := by rw [QbF (by omega)]; omega
  rw [cAppN (by omega) (by simp only [List.length_singleton]; omega), Qac, e1, ih (y3 ++ [byt x0 k]) (by omega) (by simp only [List.length_append, List.length_singleton]; omega)]
  simp only [Qnv, show ((8 * (k : Int) - 8 + 8) / 8).toNat = k by omega, show ((((8 * k : Nat) : Int) + 8) / 8).toNat = k + 1 by omega, bytsN, List.append_assoc, List.singleton_append]
theorem QI5 (x3 : List Int) (y2 : ValT) (h : (decide (x3.length ≤ 1000)) = true) : Qnj x3 y2 = Qia x3 y2 := by
 simp only [decide_eq_true_eq] at h
 induction x3 with
 | nil =>
  rw [Qnq]
  simp [QhD, QcM, QcL, Qia, igt, llen, Qae, trimB]
 | cons x l ih =>
  cases l with
  | nil =>
   rw [Qnq]
   simp [QhD, QcM, QcL, Qia, igt, llen, Qae, trimB, trimL]
  | cons y r =>
   rw [Qnq]
   simp only [List.length_cons] at h
   have e1 : igt (llen (x :: y :: r)) 1 = true := by simp only [igt, llen, List.length_cons, decide_eq_true_eq]; omega
   have e2 : cIx (x :: y :: r) 0 = true := by simp only [cIx, List.length_cons, decide_eq_true_eq]; omega
   have e3 : cIx (x :: y :: r) 1 = true := by simp only [cIx, List.length_cons, decide_eq_true_eq]; omega
   have e4 : lgt (.int .u8) (x :: y :: r) (Int.toNat 0) = x := rfl
   have e5 : lgt (.int .u8) (x :: y :: r) (Int.toNat 1) = y := rfl
   have e6 : cSl (x :: y :: r) 1 ((List.length (x :: y :: r) : Nat) : Int) ((List.length (x :: y :: r) : Nat) : Int) = true := by simp only [cSl, List.length_cons, decide_eq_true_eq]; omega
   have e7 : lsl (x :: y :: r) 1 ((List.length (x :: y :: r) : Nat) : Int) = y :: r := by
    show List.take _ (y :: r) = _
    exact List.take_of_length_le (by simp only [List.length_cons]; omega)
   have ih' := ih (by simp only [List.length_cons]; omega)
   have hb : trimB (x :: y :: r) = bif trimC x y then trimB (y :: r) else x :: y :: r := rfl
   simp only [QhD, QcM, QcL, e1, e2, e3, e4, e5, e6, e7, ih', Qac]
   simp only [Qia, hb, trimC, ieq, ilt, ige]
   cases x == 0 <;> cases decide (y < 128) <;> cases x == 255 <;> cases decide (y ≥ 128) <;> rfl
theorem QEG : ∀ S l p, Qe5.L 0 (fgt QfE S) = some (true, l) → pickA l = some p → loopF (Qaj Qe5 QfE Qhe) S = some p :=
 QaF (s := Qmy) ⟨by decide, by decide⟩ (by kernel_rfl) fun x y hok p hp => by
 simp only [Qar, Qap] at hp
 exact (QI6 x.1 x.2.2.2.1 y.1 y.2.1 (by simpa using hok)).trans hp
theorem QEF : ∀ S l p, Qe5.L 1 (fgt QfD S) = some (true, l) → pickA l = some p → loopF (Qaj Qe5 QfD Qhd) S = some p :=
 QaF (s := Qmx) ⟨by decide, by decide⟩ (by kernel_rfl) fun x y hok p hp => by
 simp only [Qar, Qap] at hp
 exact (QI5 x.2.1 y.1 (by simpa using hok)).trans hp
theorem QPk : QtZ.lok Qe5 := by
 repeat (first | exact trivial | exact QEG | exact QEF | refine ⟨?_, ?_⟩)
theorem s_f162 (n : Int) (h : i64Ok n = true) : QDj n = some (.t Qai (intT n), []) := by
 have h1 := h
 simp only [i64Ok, decide_eq_true_eq] at h1
 simp only [QDj, h, Bool.true_and, show ((56 + 8 : Int) / 8).toNat = 8 from rfl, List.nil_append, List.length_nil]
 rw [show (decide ((0 : Nat) ≤ 100 ∧ (-8 : Int) ≤ 56 ∧ (56 : Int) ≤ 56 ∧ (56 : Int) % 8 = 0)) = true from rfl, Qac, decide_eq_true (by rw [Qn0]; omega), Qac, QFl h1]
 rfl
def QuI : Ent := spec (.pr tI .nil) (fun x => (i64Ok x.1)) (fun x => (.t Qai (intT x.1)))
theorem QEl : Meets Tryz.prog 162 (strip QuI) := Qaf (R := runF Qe5 QtZ QCj false) (mG Tryz.func162 (by kernel_rfl) Tryz.ntmps162 (by kernel_rfl) QQz QPk) fun x hok => (e_f162 x.1).trans (s_f162 x.1 hok)
def QfG : Fg := ⟨[(2, none), (3, none), (4, some tI)], [(2, some Qai), (3, none), (7, none), (40, none), (42, none)]⟩
noncomputable def Qhg : TC := (.mv [(40, 7)] (.sq (.sq (.reg (rT Tryz.f154 3)) (.cd (.t 35) .sk (.fg ⟨[(2, none), (3, none)], [(2, some Qai), (3, none), (7, none), (40, none), (42, none)]⟩ (.ex 0)))) (.sq (.bk 1 (.reg (rT Tryz.f154 4))) (.reg (rT Tryz.f154 5)))))
noncomputable def Qt6 : TC := (.sq (.reg (rT Tryz.f154 0)) (.sq (.reg (rT Tryz.f154 1)) (.sq (.sq (.reg (rT Tryz.f154 2)) (.bk 0 (.nw 3 5 (.lp 0 QfG Qhg)))) (.sq (.reg (rT Tryz.f154 6)) .rt))))
def QCq : List (RV × Option Ty) := [((.c 2 true 4), some Qai)]
abbrev QmA : Sh := ⟨[(2, .ptr 2 0), (3, .ms 7), (4, .ty tI)], [(2, .box Qai), (3, .no), (7, .arr 5 (.int .u8)), (40, .no), (42, .no)]⟩
def Ql5 (x4 : Int) (y2 : ValT) (y7 : List Int) : VS := QmA.st ((), (), x4, ()) (y2, (), y7, (), (), ())
abbrev QrP : Sh := ⟨[(2, .ptr 2 0), (3, .ms 7)], [(2, .box Qai), (3, .no), (7, .arr 5 (.int .u8)), (40, .no), (42, .no)]⟩
def Qa6 (y2 : ValT) (y7 : List Int) : VS := QrP.st ((), (), ()) (y2, (), y7, (), (), ())
def QK1 : VS → Option (Bool × List (Bool × Exit × VS)) := mkL QmA (fun x y => (decide (-9223372036854775808 ≤ x.2.2.1 ∧ x.2.2.1 < 9223372036854775808 ∧ 1 ≤ y.2.2.1.length ∧ y.2.2.1.length ≤ 100))) (fun x y => [(true, .exit 0, Qa6 (y.1) (growB 10 x.2.2.1 y.2.2.1))])
def QjU : G := ⟨TYs, [7, 40], 45, EL [], keeps, (Ls [QK1]), IL [], RL []⟩
def Qgu (x4 : Int) (y2 : ValT) (y7 : List Int) : Option (Exit × VS) := br (cApp ([(icv .u8 x4)]) y7 1) (br (decide ((0 : Int) ≤ 8)) (some (.normal, Ql5 (ishr .i64 x4 8) y2 (([(icv .u8 x4)]) ++ y7))) none) none
def Qjw (x4 : Int) (y2 : ValT) (y7 : List Int) : Option (Exit × VS) := br (ieq x4 (-1)) (br (cIx y7 0) (br (cLd y7 (Int.toNat 0)) (br (ilt (lgt (.int .u8) y7 (Int.toNat 0)) 128) (Qgu x4 y2 y7) (some (.exit 0, Qa6 y2 y7))) none) none) (some (.exit 0, Qa6 y2 y7))
def Qjx (x4 : Int) (y2 : ValT) (y7 : List Int) : Option (Exit × VS) := br (ieq x4 0) (br (cIx y7 0) (br (cLd y7 (Int.toNat 0)) (br (ige (lgt (.int .u8) y7 (Int.toNat 0)) 128) (Qgu x4 y2 y7) (Qjw x4 y2 y7)) none) none) (Qjw x4 y2 y7)
def QyF (x4 : Int) (y2 : ValT) (y7 : List Int) : Option (Exit × VS) := br (ine x4 0) (br (ine x4 (-1)) (Qgu x4 y2 y7) (Qjx x4 y2 y7)) (Qjx x4 y2 y7)
noncomputable def Qd4 (x4 : Int) (y2 : ValT) (y7 : List Int) : Option (Exit × VS) := loopF (Qaj QjU QfG Qhg) (Ql5 x4 y2 y7)
noncomputable def Qd3 (x4 : Int) (y2 : ValT) (y7 : List Int) : Option (Exit × VS) := br (cApp ([(icv .u8 x4)]) y7 1) (br (decide ((0 : Int) ≤ 8)) (Qd4 (ishr .i64 x4 8) y2 (([(icv .u8 x4)]) ++ y7)) none) none
noncomputable def Qge (x4 : Int) (y2 : ValT) (y7 : List Int) : Option (Exit × VS) := br (ieq x4 (-1)) (br (cIx y7 0) (br (cLd y7 (Int.toNat 0)) (br (ilt (lgt (.int .u8) y7 (Int.toNat 0)) 128) (Qd3 x4 y2 y7) (some (.exit 0, Qa6 y2 y7))) none) none) (some (.exit 0, Qa6 y2 y7))
noncomputable def Qgf (x4 : Int) (y2 : ValT) (y7 : List Int) : Option (Exit × VS) := br (ieq x4 0) (br (cIx y7 0) (br (cLd y7 (Int.toNat 0)) (br (ige (lgt (.int .u8) y7 (Int.toNat 0)) 128) (Qd3 x4 y2 y7) (Qge x4 y2 y7)) none) none) (Qge x4 y2 y7)
noncomputable def Qqu (x4 : Int) (y2 : ValT) (y7 : List Int) : Option (Exit × VS) := br (ine x4 0) (br (ine x4 (-1)) (Qd3 x4 y2 y7) (Qgf x4 y2 y7)) (Qgf x4 y2 y7)
def Qnw (x4 : Int) (y2 : ValT) (y7 : List Int) : Option (Exit × VS) := some (.exit 0, Qa6 (y2) (growB 10 x4 y7))
theorem QGW (x4 : Int) (y2 : ValT) (y7 : List Int) : Qaj QjU QfG Qhg (Ql5 x4 y2 y7) = QyF x4 y2 y7 := by kernel_rfl
theorem QEX (x4 : Int) (y2 : ValT) (y7 : List Int) : Qd4 x4 y2 y7 = Qqu x4 y2 y7 := (Qaq _ _).trans (by
 rw [QGW]
 simp only [QyF, Qgu, Qjx, Qjw, Qqu, Qd3, Qgf, Qge, QaE, nxt_n, nxt_r, nxt_e, nxt_0]
 rfl)
def QDp (p0 : Int) : Option (V × List VO) :=
 let a1 := ishr .i64 p0 8
 br (decide ((0 : Int) ≤ 8)) (br (decide (-9223372036854775808 ≤ a1 ∧ a1 < 9223372036854775808 ∧ 1 ≤ ([(icv .u8 p0)]).length ∧ ([(icv .u8 p0)]).length ≤ 100)) (some (.t Qai (2, ((growB 10 a1 ([(icv .u8 p0)])), (false, (([] : List Val), ())))), [])) none) none
theorem e_f154 (p0 : Int) : runF QjU Qt6 QCq false [.t tI p0] [] = QDp p0 := by kernel_rfl
theorem QGa : Qag Tryz.prog 154 := .inr ⟨by decide, _, Tryz.func154, by kernel_rfl, by kernel_rfl⟩
theorem QQG : GOk Tryz.prog QjU := Qao _ (fun p hp => by cases hp)
theorem ishr8z (n : Int) : ishr .i64 n 8 = n / 256 := by
 have := Qls (kd := .i64) rfl n 1 (by omega)
 rw [show ((8 * 1 : Nat) : Int) = 8 from rfl] at this
 rw [this]
 rfl
theorem QnC : ∀ (k : Nat) (x : Int) (b : List Int), -(256 ^ k : Int) ≤ x → x < 256 ^ k → ∀ f, growB (k + 2 + f) x b = growB (k + 2) x b
 | 0, x, b, h1, h2, f => by
  simp only [Int.pow_zero] at h1 h2
  have hx : x = -1 ∨ x = 0 := by omega
  have g : ∀ f, growB (f + 2) x b = bif growC x (b.headD 0) then (x % 256 :: b) else b := by
   intro f
   rw [show f + 2 = (f + 1) + 1 from rfl, growB, growB]
   rcases hx with rfl | rfl
   ·rw [show ((-1 : Int) % 256 :: b).headD 0 = 255 from rfl, show growC (-1 / 256) 255 = false from rfl]; rfl
   ·rw [show ((0 : Int) % 256 :: b).headD 0 = 0 from rfl, show growC (0 / 256) 0 = false from rfl]; rfl
  rw [show 0 + 2 + f = f + 2 by omega, g f]
  exact (g 0).symm
 | k + 1, x, b, h1, h2, f => by
  rw [show k + 1 + 2 + f = (k + 2 + f) + 1 by omega, growB, show k + 1 + 2 = (k + 2) + 1 from rfl, growB]
  have e : (256 : Int) ^ (k + 1) = 256 ^ k * 256 := by rw [Int.pow_succ]
  rw [e] at h1 h2
  rw [QnC k (x / 256) (x % 256 :: b) (by omega) (by omega) f]
theorem Qv5 (x : Int) (b : List Int) (h : -9223372036854775808 ≤ x ∧ x < 9223372036854775808) : growB 10 x b = bif growC x (b.headD 0) then growB 10 (x / 256) (x % 256 :: b) else b := by
 have := QnC 8 x b (by omega) (by omega) 1
 rw [← this]
 rfl
theorem QI8 (x4 : Int) (y2 : ValT) (y7 : List Int) (h : (decide (-9223372036854775808 ≤ x4 ∧ x4 < 9223372036854775808 ∧ 1 ≤ y7.length ∧ y7.length ≤ 100)) = true) : Qd4 x4 y2 y7 = Qnw x4 y2 y7 := by
 simp only [decide_eq_true_eq] at h
 obtain ⟨h1, h2, h3, h4⟩ := h
 have step : ∀ (x c : Int) (r : List Int), r.length ≤ 300 → Qd4 x y2 (c :: r) = bif growC x c then Qd4 (x / 256) y2 (x % 256 :: c :: r) else some (.exit 0, Qa6 y2 (c :: r)) := by
  intro x c r hr
  rw [QEX]
  have e1 : cIx (c :: r) 0 = true := by simp only [cIx, List.length_cons, decide_eq_true_eq]; omega
  have e2 : cLd (c :: r) (Int.toNat 0) = true := by simp only [cLd, List.length_cons, decide_eq_true_eq, Int.toNat_zero]; omega
  have e3 : lgt (.int .u8) (c :: r) (Int.toNat 0) = c := rfl
  have e4 : cApp [x % 256] (c :: r) 1 = true := cAppN (by omega) (by simp only [List.length_cons, List.length_nil]; omega)
  simp only [Qqu, Qd3, Qgf, Qge, e1, e2, e3, e4, Qac, show decide ((0 : Int) ≤ 8) = true from rfl, ishr8z, icv8, List.singleton_append]
  simp only [growC, ine, ieq, ilt, ige]
  have q1 : (x != 0) = !(x == 0) := rfl
  have q2 : (x != -1) = !(x == -1) := rfl
  rw [q1, q2]
  by_cases hx : x = 0
  ·subst hx
   cases decide (c ≥ 128) <;> rfl
  ·by_cases hy : x = -1
   ·subst hy
    cases decide (c < 128) <;> rfl
   ·rw [show (x == 0) = false from beq_false_of_ne hx, show (x == -1) = false from beq_false_of_ne hy]
    rfl
 have lae : ∀ (x : Int) (y : List Int), Qnw x y2 y = some (.exit 0, Qa6 y2 (growB 10 x y)) := fun _ _ => rfl
 have key : ∀ (k : Nat) (x : Int) (y : List Int), -(256 ^ k : Int) ≤ x → x < 256 ^ k → k ≤ 8 → 1 ≤ y.length → y.length + k ≤ 200 → -9223372036854775808 ≤ x → x < 9223372036854775808 → Qd4 x y2 y = Qnw x y2 y := by
  intro k
  induction k with
  | zero =>
   intro x y g1 g2 g3 g4 g5 g6 g7
   simp only [Int.pow_zero] at g1 g2
   have hx : x = -1 ∨ x = 0 := by omega
   obtain ⟨c, r, rfl⟩ : ∃ c r, y = c :: r := by
    cases y with
    | nil => simp at g4
    | cons c r => exact ⟨c, r, rfl⟩
   simp only [List.length_cons] at g5
   rw [step x c r (by omega), lae, Qv5 x (c :: r) ⟨g6, g7⟩, List.headD_cons]
   cases growC x c with
   | false => rfl
   | true =>
    rw [cond_true, cond_true, step (x / 256) (x % 256) (c :: r) (by simp only [List.length_cons]; omega), Qv5 (x / 256) (x % 256 :: c :: r) (by omega), List.headD_cons]
    have : growC (x / 256) (x % 256) = false := by rcases hx with rfl | rfl <;> rfl
    rw [this]
    rfl
  | succ k ih =>
   intro x y g1 g2 g3 g4 g5 g6 g7
   obtain ⟨c, r, rfl⟩ : ∃ c r, y = c :: r := by
    cases y with
    | nil => simp at g4
    | cons c r => exact ⟨c, r, rfl⟩
   have e : (256 : Int) ^ (k + 1) = 256 ^ k * 256 := by rw [Int.pow_succ]
   rw [e] at g1 g2
   simp only [List.length_cons] at g5
   rw [step x c r (by omega), lae, Qv5 x (c :: r) ⟨g6, g7⟩, List.headD_cons]
   cases growC x c with
   | false => rfl
   | true =>
    rw [cond_true, cond_true, ih (x / 256) (x % 256 :: c :: r) (by omega) (by omega) (by omega) (by simp) (by simp only [List.length_cons]; omega) (by omega) (by omega), lae]
 exact key 8 x4 y7 (by omega) (by omega) (by omega) h3 (by omega) (by omega) (by omega)
theorem QEI : ∀ S l p, QjU.L 0 (fgt QfG S) = some (true, l) → pickA l = some p → loopF (Qaj QjU QfG Qhg) S = some p :=
 QaF (s := QmA) ⟨by decide, by decide⟩ (by kernel_rfl) fun x y hok p hp => by
 simp only [Qar, Qap] at hp
 exact (QI8 x.2.2.1 y.1 y.2.2.1 (by simpa using hok)).trans hp
theorem QPr : Qt6.lok QjU := by
 repeat (first | exact trivial | exact QEI | refine ⟨?_, ?_⟩)
theorem s_f154 (n : Int) (h : i64Ok n = true) : QDp n = some (.t Qai (intT n), []) := by
 have h1 := h
 simp only [i64Ok, decide_eq_true_eq] at h1
 have e0 : icv .u8 n = byt n 0 := by
  rw [icv8]
  simp [byt]
 simp only [QDp, show decide ((0 : Int) ≤ 8) = true from rfl, Qac, ishr8z, e0]
 rw [decide_eq_true ⟨by omega, by omega, by simp, by simp⟩, Qac]
 have e1 := QnC 7 (n / 256) [byt n 0] (by omega) (by omega) 1
 rw [show growB 10 (n / 256) [byt n 0] = growB 9 (n / 256) [byt n 0] from e1, QFm h1]
 rfl
def QuJ : Ent := spec (.pr tI .nil) (fun x => (i64Ok x.1)) (fun x => (.t Qai (intT x.1)))
theorem QEm : Meets Tryz.prog 154 (strip QuJ) := Qaf (R := runF QjU Qt6 QCq false) (mG Tryz.func154 (by kernel_rfl) Tryz.ntmps154 (by kernel_rfl) QQG QPr) fun x hok => (e_f154 x.1).trans (s_f154 x.1 hok)
def txtT (s : ByteArray) : ValT := (12, (QaH s, (false, (([] : List Val), ()))))
noncomputable def Qt1 : TC := (.sq (.reg (rT Tryz.f160 0)) (.sq (.reg (rT Tryz.f160 1)) .rt))
def QCl : List (RV × Option Ty) := [((.c 2 true 4), some Qai)]
def QxN : G := ⟨TYs, [], 6, EL [(22760144, QaV)], keeps, (fun _ _ => none), IL [], RL []⟩
def QDl (p0 : ByteArray) : Option (V × List VO) := br (Qa1 p0) (some (.t Qai (12, ((QaH p0), (false, (([] : List Val), ())))), [])) none
theorem e_f160 (p0 : ByteArray) : runF QxN Qt1 QCl false [.t .str p0] [] = QDl p0 := by kernel_rfl
theorem QRl : Qag Tryz.prog 160 := .inr ⟨by decide, _, Tryz.func160, by kernel_rfl, by kernel_rfl⟩
theorem QQB : GOk Tryz.prog QxN := Qao _ (gA (gC Qbc Qba gN))
theorem QPm : Qt1.lok QxN := by repeat (first | exact trivial | refine ⟨?_, ?_⟩)
theorem s_f160 (s : ByteArray) (h : Qa1 s = true) : QDl s = some (.t Qai (txtT s), []) := by
 simp only [QDl, h, Qac]
 rfl
def QBt : Ent := spec (.pr .str .nil) (fun x => (Qa1 x.1)) (fun x => (.t Qai (txtT x.1)))
theorem QOu : Meets Tryz.prog 160 (strip QBt) := Qaf (R := runF QxN Qt1 QCl false) (mG Tryz.func160 (by kernel_rfl) Tryz.ntmps160 (by kernel_rfl) QQB QPm) fun x hok => (e_f160 x.1).trans (s_f160 x.1 hok)
noncomputable def Qt8 : TC := (.sq (.reg (rT Tryz.f152 0)) (.sq (.reg (rT Tryz.f152 1)) .rt))
def QCs : List (RV × Option Ty) := [((.c 2 true 4), some Qai)]
def QxS : G := ⟨TYs, [], 6, EL [(22760144, QaV)], keeps, (fun _ _ => none), IL [], RL []⟩
def QDr (p0 : ByteArray) : Option (V × List VO) := br (Qa1 p0) (some (.t Qai (12, ((QaH p0), (false, (([] : List Val), ())))), [])) none
theorem e_f152 (p0 : ByteArray) : runF QxS Qt8 QCs false [.t .str p0] [] = QDr p0 := by kernel_rfl
theorem QRo : Qag Tryz.prog 152 := .inr ⟨by decide, _, Tryz.func152, by kernel_rfl, by kernel_rfl⟩
theorem QQI : GOk Tryz.prog QxS := Qao _ (gA (gC Qbc Qba gN))
theorem QPt : Qt8.lok QxS := by repeat (first | exact trivial | refine ⟨?_, ?_⟩)
theorem s_f152 (s : ByteArray) (h : Qa1 s = true) : QDr s = some (.t Qai (txtT s), []) := by
 simp only [QDr, h, Qac]
 rfl
def QBy : Ent := spec (.pr .str .nil) (fun x => (Qa1 x.1)) (fun x => (.t Qai (txtT x.1)))
theorem QOz : Meets Tryz.prog 152 (strip QBy) := Qaf (R := runF QxS Qt8 QCs false) (mG Tryz.func152 (by kernel_rfl) Tryz.ntmps152 (by kernel_rfl) QQI QPt) fun x hok => (e_f152 x.1).trans (s_f152 x.1 hok)
def boolT (b : Bool) : ValT := (1, ([bif b then 255 else 0], (false, (([] : List Val), ()))))
noncomputable def QtX : TC := (.sq (.reg (rT Tryz.f164 0)) (.sq (.sq (.reg (rT Tryz.f164 1)) (.cd (.t 3) (.sq (.reg (rT Tryz.f164 2)) .rt) .sk)) (.sq (.reg (rT Tryz.f164 3)) .rt)))
def QCh : List (RV × Option Ty) := [((.c 2 true 4), some Qai)]
def QxK : G := ⟨TYs, [], 8, EL [], keeps, (fun _ _ => none), IL [], RL []⟩
def QM5 (p0 : Bool) : Option (V × List VO) := br (p0) (some (.t Qai (1, ([255], (false, (([] : List Val), ())))), [])) (some (.t Qai (1, ([0], (false, (([] : List Val), ())))), []))
theorem e_f164 (p0 : Bool) : runF QxK QtX QCh false [.t .bool p0] [] = QM5 p0 := by kernel_rfl
theorem QRj : Qag Tryz.prog 164 := .inr ⟨by decide, _, Tryz.func164, by kernel_rfl, by kernel_rfl⟩
theorem QQx : GOk Tryz.prog QxK := Qao _ (fun p hp => by cases hp)
theorem QPi : QtX.lok QxK := by repeat (first | exact trivial | refine ⟨?_, ?_⟩)
theorem s_f164 (b : Bool) : QM5 b = some (.t Qai (boolT b), []) := by cases b <;> rfl
def QBr : Ent := spec (.pr .bool .nil) (fun x => true) (fun x => (.t Qai (boolT x.1)))
theorem QOs : Meets Tryz.prog 164 (strip QBr) := Qaf (R := runF QxK QtX QCh false) (mG Tryz.func164 (by kernel_rfl) Tryz.ntmps164 (by kernel_rfl) QQx QPi) fun x _ => (e_f164 x.1).trans (s_f164 x.1)
noncomputable def Qt4 : TC := (.sq (.reg (rT Tryz.f156 0)) (.sq (.sq (.reg (rT Tryz.f156 1)) (.cd (.t 3) (.sq (.reg (rT Tryz.f156 2)) .rt) .sk)) (.sq (.reg (rT Tryz.f156 3)) .rt)))
def QCo : List (RV × Option Ty) := [((.c 2 true 4), some Qai)]
def QxP : G := ⟨TYs, [], 8, EL [], keeps, (fun _ _ => none), IL [], RL []⟩
def QM6 (p0 : Bool) : Option (V × List VO) := br (p0) (some (.t Qai (1, ([255], (false, (([] : List Val), ())))), [])) (some (.t Qai (1, ([0], (false, (([] : List Val), ())))), []))
theorem e_f156 (p0 : Bool) : runF QxP Qt4 QCo false [.t .bool p0] [] = QM6 p0 := by kernel_rfl
theorem QRm : Qag Tryz.prog 156 := .inr ⟨by decide, _, Tryz.func156, by kernel_rfl, by kernel_rfl⟩
theorem QQE : GOk Tryz.prog QxP := Qao _ (fun p hp => by cases hp)
theorem QPp : Qt4.lok QxP := by repeat (first | exact trivial | refine ⟨?_, ?_⟩)
theorem s_f156 (b : Bool) : QM6 b = some (.t Qai (boolT b), []) := by cases b <;> rfl
def QBw : Ent := spec (.pr .bool .nil) (fun x => true) (fun x => (.t Qai (boolT x.1)))
theorem QOx : Meets Tryz.prog 156 (strip QBw) := Qaf (R := runF QxP Qt4 QCo false) (mG Tryz.func156 (by kernel_rfl) Tryz.ntmps156 (by kernel_rfl) QQE QPp) fun x _ => (e_f156 x.1).trans (s_f156 x.1)
end
end Go.Proofs.YtkngeegkjhipeaaGreat.K
