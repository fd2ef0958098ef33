import Derived.Test.YtckcgijklnloiaaGreatQ4
set_option linter.unusedSimpArgs false
set_option linter.unusedVariables false
namespace Go.Proofs.YtckcgijklnloiaaGreat.K
open Go.RowKit
noncomputable section
def intT (n : Int) : ValT := (2, (intL n, (false, (([] : List Val), ()))))
def i64Ok (n : Int) : Bool := decide (-9223372036854775808 ≤ n ∧ n < 9223372036854775808)
def QgG : Fg := ⟨[(0, some tI), (2, none), (3, none), (4, some tI)], [(2, some Qaj), (3, none), (16, none)]⟩
noncomputable def Qiv : TC := (.sq (.sq (.reg (rT Tryz.f224 3)) (.cd (.t 6) .sk (.fg ⟨[(2, none), (3, none)], [(2, some Qaj), (3, none), (16, none)]⟩ (.ex 0)))) (.sq (.bk 1 (.reg (rT Tryz.f224 4))) (.reg (rT Tryz.f224 5))))
def QgF : Fg := ⟨[(2, none), (3, some (.sl (.int .u8)))], [(2, some Qaj), (3, none), (16, none)]⟩
noncomputable def Qiu : TC := (.sq (.sq (.reg (rT Tryz.f224 6)) (.cd (.t 43) .sk (.fg ⟨[(2, none), (3, none)], [(2, some Qaj), (3, none), (16, none)]⟩ (.ex 2)))) (.bk 3 (.reg (rT Tryz.f224 7))))
noncomputable def Qwf : TC := (.sq (.reg (rT Tryz.f224 0)) (.sq (.reg (rT Tryz.f224 1)) (.sq (.sq (.reg (rT Tryz.f224 2)) (.bk 0 (.nw 3 5 (.lp 0 QgG Qiv)))) (.sq (.bk 2 (.fz [3] (.lp 1 QgF Qiu))) (.sq (.reg (rT Tryz.f224 8)) .rt)))))
def QFF : List (RV × Option Ty) := [((.c 2 true 4), some Qaj)]
abbrev Qoo : Sh := ⟨[(0, .ty tI), (2, .ptr 2 0), (3, .ms 3), (4, .ty tI)], [(2, .box Qaj), (3, .arr 5 (.int .u8)), (16, .no)]⟩
def QnH (x0 x4 : Int) (y2 : ValT) (y3 : List Int) : VS := Qoo.st (x0, (), (), x4, ()) (y2, y3, (), ())
abbrev Quc : Sh := ⟨[(2, .ptr 2 0), (3, .ms 3)], [(2, .box Qaj), (3, .arr 5 (.int .u8)), (16, .no)]⟩
def QdS (y2 : ValT) (y3 : List Int) : VS := Quc.st ((), (), ()) (y2, y3, (), ())
abbrev Qon : Sh := ⟨[(2, .ptr 2 0), (3, .ty (.sl (.int .u8)))], [(2, .box Qaj), (3, .no), (16, .no)]⟩
def QnG (x3 : List Int) (y2 : ValT) : VS := Qon.st ((), x3, ()) (y2, (), (), ())
abbrev Qub : Sh := ⟨[(2, .ptr 2 0), (3, .ty (.sl (.int .u8)))], [(2, .box Qaj), (3, .no), (16, .no)]⟩
def Qbm (x3 : List Int) (y2 : ValT) : VS := Qub.st ((), x3, ()) (y2, (), (), ())
def QO5 : VS → Option (Bool × List (Bool × Exit × VS)) := mkL Qoo (fun x y => (i64Ok x.1 && decide (y.2.1.length ≤ 100 ∧ -8 ≤ x.2.2.2.1 ∧ x.2.2.2.1 ≤ 56 ∧ x.2.2.2.1 % 8 = 0))) (fun x y => [(true, .exit 0, QdS (y.1) (y.2.1 ++ bytsN x.1 ((x.2.2.2.1 + 8) / 8).toNat))])
def QO4 : VS → Option (Bool × List (Bool × Exit × VS)) := mkL Qon (fun x y => (decide (x.2.1.length ≤ 1000))) (fun x y => [(true, .exit 2, Qbm (trimB x.2.1) (y.1))])
def QfT : G := ⟨TYs, [], 48, EL [], keeps, (Ls [QO5, QO4]), IL [], RL []⟩
def QBo (x0 x4 : Int) (y2 : ValT) (y3 : List Int) : Option (Exit × VS) :=
 let a1 := icv .u8 (ishr .u64 (icv .u64 x0) x4)
 br (ige x4 0) (br (decide ((0 : Int) ≤ x4)) (br (cApp y3 ([a1]) 1) (some (.normal, QnH x0 (isub .i64 x4 8) y2 (y3 ++ ([a1])))) none) none) (some (.exit 0, QdS y2 y3))
noncomputable def QpC (x0 x4 : Int) (y2 : ValT) (y3 : List Int) : Option (Exit × VS) := loopF (Qak QfT QgG Qiv) (QnH x0 x4 y2 y3)
noncomputable def QmC (x0 x4 : Int) (y2 : ValT) (y3 : List Int) : Option (Exit × VS) :=
 let a1 := icv .u8 (ishr .u64 (icv .u64 x0) x4)
 br (ige x4 0) (br (decide ((0 : Int) ≤ x4)) (br (cApp y3 ([a1]) 1) (QpC x0 (isub .i64 x4 8) y2 (y3 ++ ([a1]))) none) none) (some (.exit 0, QdS y2 y3))
def QpQ (x0 x4 : Int) (y2 : ValT) (y3 : List Int) : Option (Exit × VS) := some (.exit 0, QdS (y2) (y3 ++ bytsN x0 ((x4 + 8) / 8).toNat))
theorem QK2 (x0 x4 : Int) (y2 : ValT) (y3 : List Int) : Qak QfT QgG Qiv (QnH x0 x4 y2 y3) = QBo x0 x4 y2 y3 := by kernel_rfl
theorem Qu9 (x0 x4 : Int) (y2 : ValT) (y3 : List Int) : QpC x0 x4 y2 y3 = QmC x0 x4 y2 y3 := (Qao _ _).trans (by
 rw [QK2]
 simp only [QBo, QmC, Qay, nxt_n, nxt_r, nxt_e, nxt_0]
 rfl)
def Qla (x3 : List Int) (y2 : ValT) : Option (Exit × VS) :=
 let a1 := (List.length x3 : Nat)
 br (cSl x3 1 (a1 : Int) (a1 : Int)) (some (.normal, QnG (lsl x3 1 (a1 : Int)) y2)) none
def Qk9 (x3 : List Int) (y2 : ValT) : Option (Exit × VS) := br (cIx x3 0) (br (ieq (lgt (.int .u8) x3 (Int.toNat 0)) 255) (br (cIx x3 1) (br (ige (lgt (.int .u8) x3 (Int.toNat 1)) 128) (Qla x3 y2) (some (.exit 2, Qbm x3 y2))) none) (some (.exit 2, Qbm x3 y2))) none
def QBn (x3 : List Int) (y2 : ValT) : Option (Exit × VS) := br (igt (llen x3) 1) (br (cIx x3 0) (br (ieq (lgt (.int .u8) x3 (Int.toNat 0)) 0) (br (cIx x3 1) (br (ilt (lgt (.int .u8) x3 (Int.toNat 1)) 128) (Qla x3 y2) (Qk9 x3 y2)) none) (Qk9 x3 y2)) none) (some (.exit 2, Qbm x3 y2))
noncomputable def QpB (x3 : List Int) (y2 : ValT) : Option (Exit × VS) := loopF (Qak QfT QgF Qiu) (QnG x3 y2)
noncomputable def Qdm (x3 : List Int) (y2 : ValT) : Option (Exit × VS) :=
 let a1 := (List.length x3 : Nat)
 br (cSl x3 1 (a1 : Int) (a1 : Int)) (QpB (lsl x3 1 (a1 : Int)) y2) none
noncomputable def Qdl (x3 : List Int) (y2 : ValT) : Option (Exit × VS) := br (cIx x3 0) (br (ieq (lgt (.int .u8) x3 (Int.toNat 0)) 255) (br (cIx x3 1) (br (ige (lgt (.int .u8) x3 (Int.toNat 1)) 128) (Qdm x3 y2) (some (.exit 2, Qbm x3 y2))) none) (some (.exit 2, Qbm x3 y2))) none
noncomputable def Qi6 (x3 : List Int) (y2 : ValT) : Option (Exit × VS) := br (igt (llen x3) 1) (br (cIx x3 0) (br (ieq (lgt (.int .u8) x3 (Int.toNat 0)) 0) (br (cIx x3 1) (br (ilt (lgt (.int .u8) x3 (Int.toNat 1)) 128) (Qdm x3 y2) (Qdl x3 y2)) none) (Qdl x3 y2)) none) (some (.exit 2, Qbm x3 y2))
def QjJ (x3 : List Int) (y2 : ValT) : Option (Exit × VS) := some (.exit 2, Qbm (trimB x3) (y2))
theorem QK1 (x3 : List Int) (y2 : ValT) : Qak QfT QgF Qiu (QnG x3 y2) = QBn x3 y2 := by kernel_rfl
theorem QpH (x3 : List Int) (y2 : ValT) : QpB x3 y2 = Qi6 x3 y2 := (Qao _ _).trans (by
 rw [QK1]
 simp only [QBn, Qla, Qk9, Qi6, Qdm, Qdl, Qay, nxt_n, nxt_r, nxt_e, nxt_0]
 rfl)
def QG3 (p0 : Int) : Option (V × List VO) := br (i64Ok p0 && decide (([] : List Int).length ≤ 100 ∧ -8 ≤ (56 : Int) ∧ (56 : Int) ≤ 56 ∧ (56 : Int) % 8 = 0)) (br (decide ((([] : List Int) ++ bytsN p0 (((56 : Int) + 8) / 8).toNat).length ≤ 1000)) (some (.t Qaj (2, ((trimB (([] : List Int) ++ bytsN p0 (((56 : Int) + 8) / 8).toNat)), (false, (([] : List Val), ())))), [])) none) none
theorem e_f224 (p0 : Int) : runF QfT Qwf QFF false [.t tI p0] [] = QG3 p0 := by kernel_rfl
theorem QJ6 : Qai Tryz.prog 224 := .inr ⟨by decide, _, Tryz.func224, by kernel_rfl, by kernel_rfl⟩
theorem QUK : GOk Tryz.prog QfT := Qal _ (fun p hp => by cases hp)
theorem QNe (x0 x4 : Int) (y2 : ValT) (y3 : List Int) (h : (i64Ok x0 && decide (y3.length ≤ 100 ∧ -8 ≤ x4 ∧ x4 ≤ 56 ∧ x4 % 8 = 0)) = true) : QpC x0 x4 y2 y3 = QpQ x0 x4 y2 y3 := by
 simp only [Bool.and_eq_true, decide_eq_true_eq] at h
 obtain ⟨h0, h1, h2, h3, h4⟩ := h
 obtain ⟨k, hk⟩ : ∃ k : Nat, x4 = 8 * (k : Int) - 8 := ⟨((x4 + 8) / 8).toNat, by omega⟩
 subst hk
 have hk8 : k ≤ 8 := by omega
 have h9 : y3.length + k ≤ 200 := by omega
 clear h1 h2 h3 h4
 induction k generalizing y3 with
 | zero =>
  rw [Qu9]
  simp [QmC, QpQ, ige, Qaf, bytsN]
 | succ k ih =>
  rw [Qu9]
  have e0 : (8 * ((k + 1 : Nat) : Int) - 8) = ((8 * k : Nat) : Int) := by omega
  rw [e0]
  simp only [QmC, show ige ((8 * k : Nat) : Int) 0 = true from decide_eq_true (by omega), Qac, show decide ((0 : Int) ≤ ((8 * k : Nat) : Int)) = true from decide_eq_true (by omega), QWJ x0 k (by omega)]
  have e1 : isub .i64 ((8 * k : Nat) : Int) 8 = 8 * (k : Int) - 8 := by rw [QbU (by omega)]; omega
  rw [cAppN (by omega) (by simp only [List.length_singleton]; omega), Qac, e1, ih (y3 ++ [byt x0 k]) (by omega) (by simp only [List.length_append, List.length_singleton]; omega)]
  simp only [QpQ, show ((8 * (k : Int) - 8 + 8) / 8).toNat = k by omega, show ((((8 * k : Nat) : Int) + 8) / 8).toNat = k + 1 by omega, bytsN, List.append_assoc, List.singleton_append]
theorem QNd (x3 : List Int) (y2 : ValT) (h : (decide (x3.length ≤ 1000)) = true) : QpB x3 y2 = QjJ x3 y2 := by
 simp only [decide_eq_true_eq] at h
 induction x3 with
 | nil =>
  rw [QpH]
  simp [Qi6, Qdm, Qdl, QjJ, igt, llen, Qaf, trimB]
 | cons x l ih =>
  cases l with
  | nil =>
   rw [QpH]
   simp [Qi6, Qdm, Qdl, QjJ, igt, llen, Qaf, trimB, trimL]
  | cons y r =>
   rw [QpH]
   simp only [List.length_cons] at h
   have e1 : igt (llen (x :: y :: r)) 1 = true := by simp only [igt, llen, List.length_cons, decide_eq_true_eq]; omega
   have e2 : cIx (x :: y :: r) 0 = true := by simp only [cIx, List.length_cons, decide_eq_true_eq]; omega
   have e3 : cIx (x :: y :: r) 1 = true := by simp only [cIx, List.length_cons, decide_eq_true_eq]; omega
   have e4 : lgt (.int .u8) (x :: y :: r) (Int.toNat 0) = x := rfl
   have e5 : lgt (.int .u8) (x :: y :: r) (Int.toNat 1) = y := rfl
   have e6 : cSl (x :: y :: r) 1 ((List.length (x :: y :: r) : Nat) : Int) ((List.length (x :: y :: r) : Nat) : Int) = true := by simp only [cSl, List.length_cons, decide_eq_true_eq]; omega
   have e7 : lsl (x :: y :: r) 1 ((List.length (x :: y :: r) : Nat) : Int) = y :: r := by
    show List.take _ (y :: r) = _
    exact List.take_of_length_le (by simp only [List.length_cons]; omega)
   have ih' := ih (by simp only [List.length_cons]; omega)
   have hb : trimB (x :: y :: r) = bif trimC x y then trimB (y :: r) else x :: y :: r := rfl
   simp only [Qi6, Qdm, Qdl, e1, e2, e3, e4, e5, e6, e7, ih', Qac]
   simp only [QjJ, hb, trimC, ieq, ilt, ige]
   cases x == 0 <;> cases decide (y < 128) <;> cases x == 255 <;> cases decide (y ≥ 128) <;> rfl
theorem QIH : ∀ S l p, QfT.L 0 (fgt QgG S) = some (true, l) → pickA l = some p → loopF (Qak QfT QgG Qiv) S = some p :=
 QaD (s := Qoo) ⟨by decide, by decide⟩ (by kernel_rfl) fun x y hok p hp => by
 simp only [Qaq, Qan] at hp
 exact (QNe x.1 x.2.2.2.1 y.1 y.2.1 (by simpa using hok)).trans hp
theorem QIG : ∀ S l p, QfT.L 1 (fgt QgF S) = some (true, l) → pickA l = some p → loopF (Qak QfT QgF Qiu) S = some p :=
 QaD (s := Qon) ⟨by decide, by decide⟩ (by kernel_rfl) fun x y hok p hp => by
 simp only [Qaq, Qan] at hp
 exact (QNd x.2.1 y.1 (by simpa using hok)).trans hp
theorem QTd : Qwf.lok QfT := by
 repeat (first | exact trivial | exact QIH | exact QIG | refine ⟨?_, ?_⟩)
theorem s_f224 (n : Int) (h : i64Ok n = true) : QG3 n = some (.t Qaj (intT n), []) := by
 have h1 := h
 simp only [i64Ok, decide_eq_true_eq] at h1
 simp only [QG3, h, Bool.true_and, show ((56 + 8 : Int) / 8).toNat = 8 from rfl, List.nil_append, List.length_nil]
 rw [show (decide ((0 : Nat) ≤ 100 ∧ (-8 : Int) ≤ 56 ∧ (56 : Int) ≤ 56 ∧ (56 : Int) % 8 = 0)) = true from rfl, Qac, decide_eq_true (by rw [Qqs]; omega), Qac, QJw h1]
 rfl
def Qxi : Ent := spec (.pr tI .nil) (fun x => (i64Ok x.1)) (fun x => (.t Qaj (intT x.1)))
theorem QIl : Meets Tryz.prog 224 (strip Qxi) := Qag (R := runF QfT Qwf QFF false) (mG Tryz.func224 (by kernel_rfl) Tryz.ntmps224 (by kernel_rfl) QUK QTd) fun x hok => (e_f224 x.1).trans (s_f224 x.1 hok)
def QgM : Fg := ⟨[(2, none), (3, none), (4, some tI)], [(2, some Qaj), (3, none), (7, none), (40, none), (42, none)]⟩
noncomputable def QiB : TC := (.mv [(40, 7)] (.sq (.sq (.reg (rT Tryz.f187 3)) (.cd (.t 35) .sk (.fg ⟨[(2, none), (3, none)], [(2, some Qaj), (3, none), (7, none), (40, none), (42, none)]⟩ (.ex 0)))) (.sq (.bk 1 (.reg (rT Tryz.f187 4))) (.reg (rT Tryz.f187 5)))))
noncomputable def Qwv : TC := (.sq (.reg (rT Tryz.f187 0)) (.sq (.reg (rT Tryz.f187 1)) (.sq (.sq (.reg (rT Tryz.f187 2)) (.bk 0 (.nw 3 5 (.lp 0 QgM QiB)))) (.sq (.reg (rT Tryz.f187 6)) .rt))))
def QFV : List (RV × Option Ty) := [((.c 2 true 4), some Qaj)]
abbrev Qov : Sh := ⟨[(2, .ptr 2 0), (3, .ms 7), (4, .ty tI)], [(2, .box Qaj), (3, .no), (7, .arr 5 (.int .u8)), (40, .no), (42, .no)]⟩
def QnN (x4 : Int) (y2 : ValT) (y7 : List Int) : VS := Qov.st ((), (), x4, ()) (y2, (), y7, (), (), ())
abbrev Qui : Sh := ⟨[(2, .ptr 2 0), (3, .ms 7)], [(2, .box Qaj), (3, .no), (7, .arr 5 (.int .u8)), (40, .no), (42, .no)]⟩
def Qbn (y2 : ValT) (y7 : List Int) : VS := Qui.st ((), (), ()) (y2, (), y7, (), (), ())
def QPb : VS → Option (Bool × List (Bool × Exit × VS)) := mkL Qov (fun x y => (decide (-9223372036854775808 ≤ x.2.2.1 ∧ x.2.2.1 < 9223372036854775808 ∧ 1 ≤ y.2.2.1.length ∧ y.2.2.1.length ≤ 100))) (fun x y => [(true, .exit 0, Qbn (y.1) (growB 10 x.2.2.1 y.2.2.1))])
def Qlv : G := ⟨TYs, [7, 40], 45, EL [], keeps, (Ls [QPb]), IL [], RL []⟩
def QhK (x4 : Int) (y2 : ValT) (y7 : List Int) : Option (Exit × VS) := br (cApp ([(icv .u8 x4)]) y7 1) (br (decide ((0 : Int) ≤ 8)) (some (.normal, QnN (ishr .i64 x4 8) y2 (([(icv .u8 x4)]) ++ y7))) none) none
def Qlb (x4 : Int) (y2 : ValT) (y7 : List Int) : Option (Exit × VS) := br (ieq x4 (-1)) (br (cIx y7 0) (br (cLd y7 (Int.toNat 0)) (br (ilt (lgt (.int .u8) y7 (Int.toNat 0)) 128) (QhK x4 y2 y7) (some (.exit 0, Qbn y2 y7))) none) none) (some (.exit 0, Qbn y2 y7))
def Qlc (x4 : Int) (y2 : ValT) (y7 : List Int) : Option (Exit × VS) := br (ieq x4 0) (br (cIx y7 0) (br (cLd y7 (Int.toNat 0)) (br (ige (lgt (.int .u8) y7 (Int.toNat 0)) 128) (QhK x4 y2 y7) (Qlb x4 y2 y7)) none) none) (Qlb x4 y2 y7)
def QBu (x4 : Int) (y2 : ValT) (y7 : List Int) : Option (Exit × VS) := br (ine x4 0) (br (ine x4 (-1)) (QhK x4 y2 y7) (Qlc x4 y2 y7)) (Qlc x4 y2 y7)
noncomputable def QeT (x4 : Int) (y2 : ValT) (y7 : List Int) : Option (Exit × VS) := loopF (Qak Qlv QgM QiB) (QnN x4 y2 y7)
noncomputable def QeQ (x4 : Int) (y2 : ValT) (y7 : List Int) : Option (Exit × VS) := br (cApp ([(icv .u8 x4)]) y7 1) (br (decide ((0 : Int) ≤ 8)) (QeT (ishr .i64 x4 8) y2 (([(icv .u8 x4)]) ++ y7)) none) none
noncomputable def Qho (x4 : Int) (y2 : ValT) (y7 : List Int) : Option (Exit × VS) := br (ieq x4 (-1)) (br (cIx y7 0) (br (cLd y7 (Int.toNat 0)) (br (ilt (lgt (.int .u8) y7 (Int.toNat 0)) 128) (QeQ x4 y2 y7) (some (.exit 0, Qbn y2 y7))) none) none) (some (.exit 0, Qbn y2 y7))
noncomputable def Qhp (x4 : Int) (y2 : ValT) (y7 : List Int) : Option (Exit × VS) := br (ieq x4 0) (br (cIx y7 0) (br (cLd y7 (Int.toNat 0)) (br (ige (lgt (.int .u8) y7 (Int.toNat 0)) 128) (QeQ x4 y2 y7) (Qho x4 y2 y7)) none) none) (Qho x4 y2 y7)
noncomputable def QsX (x4 : Int) (y2 : ValT) (y7 : List Int) : Option (Exit × VS) := br (ine x4 0) (br (ine x4 (-1)) (QeQ x4 y2 y7) (Qhp x4 y2 y7)) (Qhp x4 y2 y7)
def QpR (x4 : Int) (y2 : ValT) (y7 : List Int) : Option (Exit × VS) := some (.exit 0, Qbn (y2) (growB 10 x4 y7))
theorem QK8 (x4 : Int) (y2 : ValT) (y7 : List Int) : Qak Qlv QgM QiB (QnN x4 y2 y7) = QBu x4 y2 y7 := by kernel_rfl
theorem QI9 (x4 : Int) (y2 : ValT) (y7 : List Int) : QeT x4 y2 y7 = QsX x4 y2 y7 := (Qao _ _).trans (by
 rw [QK8]
 simp only [QBu, QhK, Qlc, Qlb, QsX, QeQ, Qhp, Qho, Qay, nxt_n, nxt_r, nxt_e, nxt_0]
 rfl)
def QHh (p0 : Int) : Option (V × List VO) :=
 let a1 := ishr .i64 p0 8
 br (decide ((0 : Int) ≤ 8)) (br (decide (-9223372036854775808 ≤ a1 ∧ a1 < 9223372036854775808 ∧ 1 ≤ ([(icv .u8 p0)]).length ∧ ([(icv .u8 p0)]).length ≤ 100)) (some (.t Qaj (2, ((growB 10 a1 ([(icv .u8 p0)])), (false, (([] : List Val), ())))), [])) none) none
theorem e_f187 (p0 : Int) : runF Qlv Qwv QFV false [.t tI p0] [] = QHh p0 := by kernel_rfl
theorem QKa : Qai Tryz.prog 187 := .inr ⟨by decide, _, Tryz.func187, by kernel_rfl, by kernel_rfl⟩
theorem QU0 : GOk Tryz.prog Qlv := Qal _ (fun p hp => by cases hp)
theorem ishr8z (n : Int) : ishr .i64 n 8 = n / 256 := by
 have := Qnb (kd := .i64) rfl n 1 (by omega)
 rw [show ((8 * 1 : Nat) : Int) = 8 from rfl] at this
 rw [this]
 rfl
theorem QpX : ∀ (k : Nat) (x : Int) (b : List Int), -(256 ^ k : Int) ≤ x → x < 256 ^ k → ∀ f, growB (k + 2 + f) x b = growB (k + 2) x b
 | 0, x, b, h1, h2, f => by
  simp only [Int.pow_zero] at h1 h2
  have hx : x = -1 ∨ x = 0 := by omega
  have g : ∀ f, growB (f + 2) x b = bif growC x (b.headD 0) then (x % 256 :: b) else b := by
   intro f
   rw [show f + 2 = (f + 1) + 1 from rfl, growB, growB]
   rcases hx with rfl | rfl
   ·rw [show ((-1 : Int) % 256 :: b).headD 0 = 255 from rfl, show growC (-1 / 256) 255 = false from rfl]; rfl
   ·rw [show ((0 : Int) % 256 :: b).headD 0 = 0 from rfl, show growC (0 / 256) 0 = false from rfl]; rfl
  rw [show 0 + 2 + f = f + 2 by omega, g f]
  exact (g 0).symm
 | k + 1, x, b, h1, h2, f => by
  rw [show k + 1 + 2 + f = (k + 2 + f) + 1 by omega, growB, show k + 1 + 2 = (k + 2) + 1 from rfl, growB]
  have e : (256 : Int) ^ (k + 1) = 256 ^ k * 256 := by rw [Int.pow_succ]
  rw [e] at h1 h2
  rw [QpX k (x / 256) (x % 256 :: b) (by omega) (by omega) f]
theorem QyC (x : Int) (b : List Int) (h : -9223372036854775808 ≤ x ∧ x < 9223372036854775808) : growB 10 x b = bif growC x (b.headD 0) then growB 10 (x / 256) (x % 256 :: b) else b := by
 have := QpX 8 x b (by omega) (by omega) 1
 rw [← this]
 rfl
theorem QNk (x4 : Int) (y2 : ValT) (y7 : List Int) (h : (decide (-9223372036854775808 ≤ x4 ∧ x4 < 9223372036854775808 ∧ 1 ≤ y7.length ∧ y7.length ≤ 100)) = true) : QeT x4 y2 y7 = QpR x4 y2 y7 := by
 simp only [decide_eq_true_eq] at h
 obtain ⟨h1, h2, h3, h4⟩ := h
 have step : ∀ (x c : Int) (r : List Int), r.length ≤ 300 → QeT x y2 (c :: r) = bif growC x c then QeT (x / 256) y2 (x % 256 :: c :: r) else some (.exit 0, Qbn y2 (c :: r)) := by
  intro x c r hr
  rw [QI9]
  have e1 : cIx (c :: r) 0 = true := by simp only [cIx, List.length_cons, decide_eq_true_eq]; omega
  have e2 : cLd (c :: r) (Int.toNat 0) = true := by simp only [cLd, List.length_cons, decide_eq_true_eq, Int.toNat_zero]; omega
  have e3 : lgt (.int .u8) (c :: r) (Int.toNat 0) = c := rfl
  have e4 : cApp [x % 256] (c :: r) 1 = true := cAppN (by omega) (by simp only [List.length_cons, List.length_nil]; omega)
  simp only [QsX, QeQ, Qhp, Qho, e1, e2, e3, e4, Qac, show decide ((0 : Int) ≤ 8) = true from rfl, ishr8z, icv8, List.singleton_append]
  simp only [growC, ine, ieq, ilt, ige]
  have q1 : (x != 0) = !(x == 0) := rfl
  have q2 : (x != -1) = !(x == -1) := rfl
  rw [q1, q2]
  by_cases hx : x = 0
  ·subst hx
   cases decide (c ≥ 128) <;> rfl
  ·by_cases hy : x = -1
   ·subst hy
    cases decide (c < 128) <;> rfl
   ·rw [show (x == 0) = false from beq_false_of_ne hx, show (x == -1) = false from beq_false_of_ne hy]
    rfl
 have lae : ∀ (x : Int) (y : List Int), QpR x y2 y = some (.exit 0, Qbn y2 (growB 10 x y)) := fun _ _ => rfl
 have key : ∀ (k : Nat) (x : Int) (y : List Int), -(256 ^ k : Int) ≤ x → x < 256 ^ k → k ≤ 8 → 1 ≤ y.length → y.length + k ≤ 200 → -9223372036854775808 ≤ x → x < 9223372036854775808 → QeT x y2 y = QpR x y2 y := by
  intro k
  induction k with
  | zero =>
   intro x y g1 g2 g3 g4 g5 g6 g7
   simp only [Int.pow_zero] at g1 g2
   have hx : x = -1 ∨ x = 0 := by omega
   obtain ⟨c, r, rfl⟩ : ∃ c r, y = c :: r := by
    cases y with
    | nil => simp at g4
    | cons c r => exact ⟨c, r, rfl⟩
   simp only [List.length_cons] at g5
   rw [step x c r (by omega), lae, QyC x (c :: r) ⟨g6, g7⟩, List.headD_cons]
   cases growC x c with
   | false => rfl
   | true =>
    rw [cond_true, cond_true, step (x / 256) (x % 256) (c :: r) (by simp only [List.length_cons]; omega), QyC (x / 256) (x % 256 :: c :: r) (by omega), List.headD_cons]
    have : growC (x / 256) (x % 256) = false := by rcases hx with rfl | rfl <;> rfl
    rw [this]
    rfl
  | succ k ih =>
   intro x y g1 g2 g3 g4 g5 g6 g7
   obtain ⟨c, r, rfl⟩ : ∃ c r, y = c :: r := by
    cases y with
    | nil => simp at g4
    | cons c r => exact ⟨c, r, rfl⟩
   have e : (256 : Int) ^ (k + 1) = 256 ^ k * 256 := by rw [Int.pow_succ]
   rw [e] at g1 g2
   simp only [List.length_cons] at g5
   rw [step x c r (by omega), lae, QyC x (c :: r) ⟨g6, g7⟩, List.headD_cons]
   cases growC x c with
   | false => rfl
   | true =>
    rw [cond_true, cond_true, ih (x / 256) (x % 256 :: c :: r) (by omega) (by omega) (by omega) (by simp) (by simp only [List.length_cons]; omega) (by omega) (by omega), lae]
 exact key 8 x4 y7 (by omega) (by omega) (by omega) h3 (by omega) (by omega) (by omega)
theorem QIN : ∀ S l p, Qlv.L 0 (fgt QgM S) = some (true, l) → pickA l = some p → loopF (Qak Qlv QgM QiB) S = some p :=
 QaD (s := Qov) ⟨by decide, by decide⟩ (by kernel_rfl) fun x y hok p hp => by
 simp only [Qaq, Qan] at hp
 exact (QNk x.2.2.1 y.1 y.2.2.1 (by simpa using hok)).trans hp
theorem QTt : Qwv.lok Qlv := by
 repeat (first | exact trivial | exact QIN | refine ⟨?_, ?_⟩)
theorem s_f187 (n : Int) (h : i64Ok n = true) : QHh n = some (.t Qaj (intT n), []) := by
 have h1 := h
 simp only [i64Ok, decide_eq_true_eq] at h1
 have e0 : icv .u8 n = byt n 0 := by
  rw [icv8]
  simp [byt]
 simp only [QHh, show decide ((0 : Int) ≤ 8) = true from rfl, Qac, ishr8z, e0]
 rw [decide_eq_true ⟨by omega, by omega, by simp, by simp⟩, Qac]
 have e1 := QpX 7 (n / 256) [byt n 0] (by omega) (by omega) 1
 rw [show growB 10 (n / 256) [byt n 0] = growB 9 (n / 256) [byt n 0] from e1, QJx h1]
 rfl
def Qxj : Ent := spec (.pr tI .nil) (fun x => (i64Ok x.1)) (fun x => (.t Qaj (intT x.1)))
theorem QIm : Meets Tryz.prog 187 (strip Qxj) := Qag (R := runF Qlv Qwv QFV false) (mG Tryz.func187 (by kernel_rfl) Tryz.ntmps187 (by kernel_rfl) QU0 QTt) fun x hok => (e_f187 x.1).trans (s_f187 x.1 hok)
def txtT (s : ByteArray) : ValT := (12, (QaI s, (false, (([] : List Val), ()))))
noncomputable def Qwh : TC := (.sq (.reg (rT Tryz.f222 0)) (.sq (.reg (rT Tryz.f222 1)) .rt))
def QFH : List (RV × Option Ty) := [((.c 2 true 4), some Qaj)]
def QAj : G := ⟨TYs, [], 6, EL [(30120144, Qa8)], keeps, (fun _ _ => none), IL [], RL []⟩
def QG5 (p0 : ByteArray) : Option (V × List VO) := br (Qbh p0) (some (.t Qaj (12, ((QaI p0), (false, (([] : List Val), ())))), [])) none
theorem e_f222 (p0 : ByteArray) : runF QAj Qwh QFH false [.t .str p0] [] = QG5 p0 := by kernel_rfl
theorem QVU : Qai Tryz.prog 222 := .inr ⟨by decide, _, Tryz.func222, by kernel_rfl, by kernel_rfl⟩
theorem QUM : GOk Tryz.prog QAj := Qal _ (gA (gC Qbr Qbq gN))
theorem QTf : Qwh.lok QAj := by repeat (first | exact trivial | refine ⟨?_, ?_⟩)
theorem s_f222 (s : ByteArray) (h : Qbh s = true) : QG5 s = some (.t Qaj (txtT s), []) := by
 simp only [QG5, h, Qac]
 rfl
def QEq : Ent := spec (.pr .str .nil) (fun x => (Qbh x.1)) (fun x => (.t Qaj (txtT x.1)))
theorem QR6 : Meets Tryz.prog 222 (strip QEq) := Qag (R := runF QAj Qwh QFH false) (mG Tryz.func222 (by kernel_rfl) Tryz.ntmps222 (by kernel_rfl) QUM QTf) fun x hok => (e_f222 x.1).trans (s_f222 x.1 hok)
noncomputable def Qwx : TC := (.sq (.reg (rT Tryz.f185 0)) (.sq (.reg (rT Tryz.f185 1)) .rt))
def QFX : List (RV × Option Ty) := [((.c 2 true 4), some Qaj)]
def QAt : G := ⟨TYs, [], 6, EL [(30120144, Qa8)], keeps, (fun _ _ => none), IL [], RL []⟩
def QHj (p0 : ByteArray) : Option (V × List VO) := br (Qbh p0) (some (.t Qaj (12, ((QaI p0), (false, (([] : List Val), ())))), [])) none
theorem e_f185 (p0 : ByteArray) : runF QAt Qwx QFX false [.t .str p0] [] = QHj p0 := by kernel_rfl
theorem QV5 : Qai Tryz.prog 185 := .inr ⟨by decide, _, Tryz.func185, by kernel_rfl, by kernel_rfl⟩
theorem QU2 : GOk Tryz.prog QAt := Qal _ (gA (gC Qbr Qbq gN))
theorem QTv : Qwx.lok QAt := by repeat (first | exact trivial | refine ⟨?_, ?_⟩)
theorem s_f185 (s : ByteArray) (h : Qbh s = true) : QHj s = some (.t Qaj (txtT s), []) := by
 simp only [QHj, h, Qac]
 rfl
def QEE : Ent := spec (.pr .str .nil) (fun x => (Qbh x.1)) (fun x => (.t Qaj (txtT x.1)))
theorem QSk : Meets Tryz.prog 185 (strip QEE) := Qag (R := runF QAt Qwx QFX false) (mG Tryz.func185 (by kernel_rfl) Tryz.ntmps185 (by kernel_rfl) QU2 QTv) fun x hok => (e_f185 x.1).trans (s_f185 x.1 hok)
def boolT (b : Bool) : ValT := (1, ([bif b then 255 else 0], (false, (([] : List Val), ()))))
noncomputable def Qwd : TC := (.sq (.reg (rT Tryz.f226 0)) (.sq (.sq (.reg (rT Tryz.f226 1)) (.cd (.t 3) (.sq (.reg (rT Tryz.f226 2)) .rt) .sk)) (.sq (.reg (rT Tryz.f226 3)) .rt)))
def QFD : List (RV × Option Ty) := [((.c 2 true 4), some Qaj)]
def QAg : G := ⟨TYs, [], 8, EL [], keeps, (fun _ _ => none), IL [], RL []⟩
def QQN (p0 : Bool) : Option (V × List VO) := br (p0) (some (.t Qaj (1, ([255], (false, (([] : List Val), ())))), [])) (some (.t Qaj (1, ([0], (false, (([] : List Val), ())))), []))
theorem e_f226 (p0 : Bool) : runF QAg Qwd QFD false [.t .bool p0] [] = QQN p0 := by kernel_rfl
theorem QVS : Qai Tryz.prog 226 := .inr ⟨by decide, _, Tryz.func226, by kernel_rfl, by kernel_rfl⟩
theorem QUI : GOk Tryz.prog QAg := Qal _ (fun p hp => by cases hp)
theorem QTb : Qwd.lok QAg := by repeat (first | exact trivial | refine ⟨?_, ?_⟩)
theorem s_f226 (b : Bool) : QQN b = some (.t Qaj (boolT b), []) := by cases b <;> rfl
def QEo : Ent := spec (.pr .bool .nil) (fun x => true) (fun x => (.t Qaj (boolT x.1)))
theorem QR4 : Meets Tryz.prog 226 (strip QEo) := Qag (R := runF QAg Qwd QFD false) (mG Tryz.func226 (by kernel_rfl) Tryz.ntmps226 (by kernel_rfl) QUI QTb) fun x _ => (e_f226 x.1).trans (s_f226 x.1)
noncomputable def Qwt : TC := (.sq (.reg (rT Tryz.f189 0)) (.sq (.sq (.reg (rT Tryz.f189 1)) (.cd (.t 3) (.sq (.reg (rT Tryz.f189 2)) .rt) .sk)) (.sq (.reg (rT Tryz.f189 3)) .rt)))
def QFT : List (RV × Option Ty) := [((.c 2 true 4), some Qaj)]
def QAq : G := ⟨TYs, [], 8, EL [], keeps, (fun _ _ => none), IL [], RL []⟩
def QQP (p0 : Bool) : Option (V × List VO) := br (p0) (some (.t Qaj (1, ([255], (false, (([] : List Val), ())))), [])) (some (.t Qaj (1, ([0], (false, (([] : List Val), ())))), []))
theorem e_f189 (p0 : Bool) : runF QAq Qwt QFT false [.t .bool p0] [] = QQP p0 := by kernel_rfl
theorem QV3 : Qai Tryz.prog 189 := .inr ⟨by decide, _, Tryz.func189, by kernel_rfl, by kernel_rfl⟩
theorem QUY : GOk Tryz.prog QAq := Qal _ (fun p hp => by cases hp)
theorem QTr : Qwt.lok QAq := by repeat (first | exact trivial | refine ⟨?_, ?_⟩)
theorem s_f189 (b : Bool) : QQP b = some (.t Qaj (boolT b), []) := by cases b <;> rfl
def QEC : Ent := spec (.pr .bool .nil) (fun x => true) (fun x => (.t Qaj (boolT x.1)))
theorem QSi : Meets Tryz.prog 189 (strip QEC) := Qag (R := runF QAq Qwt QFT false) (mG Tryz.func189 (by kernel_rfl) Tryz.ntmps189 (by kernel_rfl) QUY QTr) fun x _ => (e_f189 x.1).trans (s_f189 x.1)
end
end Go.Proofs.YtckcgijklnloiaaGreat.K
set_option linter.unusedSectionVars false
namespace Go.Proofs.YtckcgijklnloiaaGreat.K
open Go.RowKit
noncomputable section
def okT (n : Nat) (x : ValT) : Bool := okV n (Val.of x)
theorem QuR {n : Nat} {v : Val} : okT n v.un = okV n v := by rw [okT, Val.of_un]
theorem QcH {n : Nat} {x : ValT} (h : okT (n + 1) x = true) :
  (x.1 = 1 ∨ x.1 = 2 ∨ x.1 = 12 ∨ x.1 = 48) ∧ x.2.2.1 = (x.1 == 48) ∧ (x.2.2.1 = true → x.2.1 = []) ∧ (x.2.2.1 = false → x.2.2.2.1 = []) ∧ x.2.1.length ≤ 100000 ∧ x.2.2.2.1.length ≤ 100000 ∧ ∀ v ∈ x.2.2.2.1, okV n v = true := by
 obtain ⟨t, b, q, es, _⟩ := x
 exact QzJ h
def copLF : Nat → List ValT → Bool
 | 0, _ => false
 | n + 1, l => decide (l.length ≤ 100000) && l.all (okT n)
theorem QOB {n : Nat} {es : List Val} (hl : es.length ≤ 100000) (h : ∀ v ∈ es, okV n v = true) : copLF (n + 1) (es.map Val.un) = true := by
 simp only [copLF, Bool.and_eq_true, decide_eq_true_eq, List.length_map, List.all_eq_true, List.mem_map]
 refine ⟨hl, ?_⟩
 rintro x ⟨v, hv, rfl⟩
 rw [QuR]
 exact h v hv
theorem QBc {n : Nat} {x : ValT} (h : okT n x = true) : copLF n (x.2.2.2.1.map Val.un) = true := by
 cases n with
 | zero => obtain ⟨t, b, q, es, _⟩ := x; cases h
 | succ n =>
  obtain ⟨_, _, _, _, _, h6, h7⟩ := QcH h
  exact QOB h6 h7
theorem QcP (es : List Val) : List.map Val.of (List.map Val.un es) = es := by
 rw [List.map_map]
 have : (Val.of ∘ Val.un) = id := funext Val.of_un
 rw [this, List.map_id]
def copV (l : List ValT) : List ValT := l
def copOk (l : List ValT) : Bool := copLF 12 l
theorem QuT {n : Nat} {x : ValT} (h : okT n x = true) : x.2.1.length ≤ 100000 := by
 cases n with
 | zero => obtain ⟨t, b, q, es, _⟩ := x; cases h
 | succ n => exact (QcH h).2.2.2.2.1
theorem Qp3 (l : List ValT) (h : copOk l = true) : ∃ N, copLF N l = true := ⟨12, h⟩
theorem QJ3 : Qai Tryz.prog 236 := .inr ⟨by decide, _, Tryz.func236, by kernel_rfl, by kernel_rfl⟩
def Qhc [Fuel] : Ent := spec (.pr (.sl Qaj) .nil) (fun x => (copLF fuel x.1)) (fun x => (.t (.sl Qaj) (copV x.1)))
theorem QNX : Qai Tryz.prog 236 := QJ3
section
variable [Fuel] [Nonempty (PLift (Meets Tryz.prog 236 (strip Qhc)))]
theorem QMw : Meets Tryz.prog 236 (strip Qhc) := (Classical.choice (inferInstance : Nonempty (PLift (Meets Tryz.prog 236 (strip Qhc))))).down
def copIn [Fuel] (l : List ValT) : Bool := copLF (fuel + 1) l
noncomputable def QKr : List DO := dT Tryz.f236 5
def QgB : Fg := ⟨[(3, none), (6, some (.sl Qaj)), (7, some tI), (8, some tI)], [(3, none), (23, none)]⟩
noncomputable def Qiq : TC := (.sq (.reg (rT Tryz.f236 3)) (.sq (.cd (.t 9) .sk (.fg ⟨[(3, none)], [(3, none), (23, none)]⟩ (.ex 0))) (.sq (.bk 1 (.sq (.reg (rT Tryz.f236 4)) (.sq (.dr QKr [(0, [5]), (1, [5]), (2, []), (3, [5]), (4, [5]), (5, []), (6, [5]), (7, [5]), (8, [5]), (9, [5])] (.of [0, 1, 2, 3, 4, 5, 6, 7, 8, 9])) (.reg (rT Tryz.f236 6))))) (.reg (rT Tryz.f236 7)))))
noncomputable def Qv7 : TC := (.sq (.reg (rT Tryz.f236 0)) (.sq (.reg (rT Tryz.f236 1)) (.sq (.sq (.reg (rT Tryz.f236 2)) (.bk 0 (.nw 3 202 (.lp 0 QgB Qiq)))) (.sq (.reg (rT Tryz.f236 8)) .rt))))
def QFx : List (RV × Option Ty) := [((.t 2), some (.sl Qaj))]
abbrev Qoj : Sh := ⟨[(3, .ms 3), (6, .ty (.sl Qaj)), (7, .ty tI), (8, .ty tI)], [(3, .arr 202 Qaj), (23, .no)]⟩
def QnC (x6 : List ValT) (x7 x8 : Int) (y3 : List ValT) : VS := Qoj.st ((), x6, x7, x8, ()) (y3, (), ())
abbrev Qt7 : Sh := ⟨[(3, .ms 3)], [(3, .arr 202 Qaj), (23, .no)]⟩
def QdO (y3 : List ValT) : VS := Qt7.st ((), ()) (y3, (), ())
def QO0 : VS → Option (Bool × List (Bool × Exit × VS)) := mkL Qoj (fun x y => (rngOk x.2.1 x.2.2.1 x.2.2.2.1 && copIn x.2.1 && decide (y.1.length + x.2.1.length ≤ 200000 + x.2.2.2.1.toNat))) (fun x y => [(true, .exit 0, QdO (y.1 ++ x.2.1.drop x.2.2.2.1.toNat))])
def Qlo : G := ⟨TYs, [], 26, EL [(236, Qhc), (238, QEi)], keeps, (Ls [QO0]), IL [], RL []⟩
def QBj (x6 : List ValT) (x7 x8 : Int) (y3 : List ValT) : Option (Exit × VS) :=
 let a2 := ((lgt Qaj x6 (Int.toNat x8)).2)
 let a1 := ((lgt Qaj x6 (Int.toNat x8)).1, ((clonB (a2.1)), ((a2.2).1, ((List.map Val.of (List.map Val.un (List.map Val.of (copV (List.map Val.un (((a2.2).2).1)))))), ()))))
 br (ilt x8 x7) (br (cIx x6 x8) (br (QBg (a2.1)) (br (copLF fuel (List.map Val.un (((a2.2).2).1))) (br (cApp y3 ([a1]) 64) (some (.normal, QnC x6 x7 (iadd .i64 x8 1) (y3 ++ ([a1])))) none) none) none) none) (some (.exit 0, QdO y3))
noncomputable def Qjd (x6 : List ValT) (x7 x8 : Int) (y3 : List ValT) : Option (Exit × VS) := loopF (Qak Qlo QgB Qiq) (QnC x6 x7 x8 y3)
noncomputable def Qmz (x6 : List ValT) (x7 x8 : Int) (y3 : List ValT) : Option (Exit × VS) :=
 let a2 := ((lgt Qaj x6 (Int.toNat x8)).2)
 let a1 := ((lgt Qaj x6 (Int.toNat x8)).1, ((clonB (a2.1)), ((a2.2).1, ((List.map Val.of (List.map Val.un (List.map Val.of (copV (List.map Val.un (((a2.2).2).1)))))), ()))))
 br (ilt x8 x7) (br (cIx x6 x8) (br (QBg (a2.1)) (br (copLF fuel (List.map Val.un (((a2.2).2).1))) (br (cApp y3 ([a1]) 64) (Qjd x6 x7 (iadd .i64 x8 1) (y3 ++ ([a1]))) none) none) none) none) (some (.exit 0, QdO y3))
def QjH (x6 : List ValT) (x7 x8 : Int) (y3 : List ValT) : Option (Exit × VS) := some (.exit 0, QdO (y3 ++ x6.drop x8.toNat))
theorem QKX (x6 : List ValT) (x7 x8 : Int) (y3 : List ValT) : Qak Qlo QgB Qiq (QnC x6 x7 x8 y3) = QBj x6 x7 x8 y3 := by kernel_rfl
theorem Qu5 (x6 : List ValT) (x7 x8 : Int) (y3 : List ValT) : Qjd x6 x7 x8 y3 = Qmz x6 x7 x8 y3 := (Qao _ _).trans (by
 rw [QKX]
 simp only [QBj, Qmz, Qay, nxt_n, nxt_r, nxt_e, nxt_0]
 rfl)
def QGW (p0 : List ValT) : Option (V × List VO) := br (rngOk p0 (llen p0) (0 : Int) && copIn p0 && decide (([] : List ValT).length + p0.length ≤ 200000 + (0 : Int).toNat)) (some (.t (.sl Qaj) (([] : List ValT) ++ p0.drop (0 : Int).toNat), [])) none
theorem e_f236 (p0 : List ValT) : runF Qlo Qv7 QFx false [.t (.sl Qaj) p0] [] = QGW p0 := by kernel_rfl
theorem QUC : GOk Tryz.prog Qlo := Qal _ (gA (gC QNX QMw (gC QVO QRY gN)))
theorem QM9 (x6 : List ValT) (x7 x8 : Int) (y3 : List ValT) (h : (rngOk x6 x7 x8 && copIn x6 && decide (y3.length + x6.length ≤ 200000 + x8.toNat)) = true) : Qjd x6 x7 x8 y3 = QjH x6 x7 x8 y3 := by
 simp only [Bool.and_eq_true, decide_eq_true_eq] at h
 obtain ⟨⟨h0, hc⟩, h2⟩ := h
 obtain ⟨rfl, h3, k, rfl, hk⟩ := rng_k h0
 clear h0
 rw [Int.toNat_natCast] at h2
 simp only [copIn, copLF, Bool.and_eq_true, List.all_eq_true] at hc
 revert y3
 refine Qat x6 (fun k => ∀ y3 : List ValT, y3.length + x6.length ≤ 200000 + k → Qjd x6 (x6.length : Int) (k : Int) y3 = QjH x6 (x6.length : Int) (k : Int) y3) ?_ ?_ k hk
 ·intro y3 _
  rw [Qu5]
  simp [Qmz, QjH, Qar, Qaf]
 ·intro k hk ih y3 hy
  rw [Qu5]
  have hx := hc.2 x6[k] (List.getElem_mem hk)
  have e1 : QBg x6[k].2.1 = true := decide_eq_true (by have := QuT hx; omega)
  have e2 : copLF fuel (List.map Val.un x6[k].2.2.2.1) = true := QBc hx
  simp only [Qmz, Qar, Qav, hk, decide_true, Qac, Int.toNat_natCast, add1 (show k < 4611686018427387904 by omega), QaA (y := Qaj) hk, e1, e2, clonB, copV, QcP]
  rw [cAppN (by omega) (by simp only [List.length_singleton]; omega), Qac, ih _ (by simp only [List.length_append, List.length_singleton]; omega)]
  simp only [QjH, Int.toNat_natCast, List.drop_eq_getElem_cons hk, List.append_assoc, List.singleton_append]
theorem QIC : ∀ S l p, Qlo.L 0 (fgt QgB S) = some (true, l) → pickA l = some p → loopF (Qak Qlo QgB Qiq) S = some p :=
 QaD (s := Qoj) ⟨by decide, by decide⟩ (by kernel_rfl) fun x y hok p hp => by
 simp only [Qaq, Qan] at hp
 exact (QM9 x.2.1 x.2.2.1 x.2.2.2.1 y.1 (by simpa using hok)).trans hp
theorem QS5 : Qv7.lok Qlo := by
 repeat (first | exact trivial | exact QIC | refine ⟨?_, ?_⟩)
theorem s_f236 (l : List ValT) (h : copLF (fuel + 1) l = true) : QGW l = some (.t (.sl Qaj) (copV l), []) := by
 have hl : l.length ≤ 100000 := by simp only [copLF, Bool.and_eq_true, decide_eq_true_eq] at h; exact h.1
 simp only [QGW, rng_0 hl, show copIn l = true from h, Bool.true_and, List.length_nil, Int.toNat_zero, List.drop_zero, List.nil_append]
 rw [decide_eq_true (by omega), Qac]
 rfl
theorem QSV : Meets Tryz.prog 236 (runF Qlo Qv7 QFx false) := mG Tryz.func236 (by kernel_rfl) Tryz.ntmps236 (by kernel_rfl) QUC QS5
end
theorem Qja : ∀ N : Nat, Meets Tryz.prog 236 (strip (@Qhc ⟨N⟩))
 | 0 => Qb8 fun x => by first | rfl | simp [copLF]
 | N + 1 => by
  letI : Fuel := ⟨N⟩
  haveI : Nonempty (PLift (Meets Tryz.prog 236 (strip Qhc))) := ⟨⟨Qja N⟩⟩
  exact Qag QSV fun x hok => (e_f236 x.1).trans (s_f236 x.1 hok)
def QEj : Ent := spec (.pr (.sl Qaj) .nil) (fun x => (copOk x.1)) (fun x => (.t (.sl Qaj) (copV x.1)))
theorem QRZ : Meets Tryz.prog 236 (strip QEj) := Qb9 Qja fun x hok => Qp3 x.1 hok
theorem Qk3 (l : List ValT) (h : copOk l = true) : ∃ N, copLF N l = true := ⟨12, h⟩
theorem QJ9 : Qai Tryz.prog 212 := .inr ⟨by decide, _, Tryz.func212, by kernel_rfl, by kernel_rfl⟩
def Qhg [Fuel] : Ent := spec (.pr (.sl Qaj) .nil) (fun x => (copLF fuel x.1)) (fun x => (.t (.sl Qaj) (copV x.1)))
theorem QN3 : Qai Tryz.prog 212 := QJ9
section
variable [Fuel] [Nonempty (PLift (Meets Tryz.prog 212 (strip Qhg)))]
theorem QMC : Meets Tryz.prog 212 (strip Qhg) := (Classical.choice (inferInstance : Nonempty (PLift (Meets Tryz.prog 212 (strip Qhg))))).down
def QvR [Fuel] (l : List ValT) : Bool := copLF (fuel + 1) l
def QgI : Fg := ⟨[(0, some (.sl Qaj)), (3, none), (4, some tI)], [(3, none), (28, none)]⟩
noncomputable def Qix : TC := (.sq (.sq (.reg (rT Tryz.f212 3)) (.cd (.t 9) .sk (.fg ⟨[(3, none)], [(3, none), (28, none)]⟩ (.ex 0)))) (.sq (.bk 1 (.sq (.reg (rT Tryz.f212 4)) (.sq (.reg (rT Tryz.f212 5)) (.sq (.reg (rT Tryz.f212 6)) (.reg (rT Tryz.f212 7)))))) (.reg (rT Tryz.f212 8))))
noncomputable def Qwk : TC := (.sq (.reg (rT Tryz.f212 0)) (.sq (.reg (rT Tryz.f212 1)) (.sq (.sq (.reg (rT Tryz.f212 2)) (.bk 0 (.nf 5 1 5 20501 (.nw 3 202 (.lp 0 QgI Qix))))) (.sq (.reg (rT Tryz.f212 9)) .rt))))
def QFK : List (RV × Option Ty) := [((.t 2), some (.sl Qaj))]
abbrev Qoq : Sh := ⟨[(0, .ty (.sl Qaj)), (3, .ms 3), (4, .ty tI)], [(3, .arr 202 Qaj), (28, .no)]⟩
def QnJ (x0 : List ValT) (x4 : Int) (y3 : List ValT) : VS := Qoq.st (x0, (), x4, ()) (y3, (), ())
abbrev Que : Sh := ⟨[(3, .ms 3)], [(3, .arr 202 Qaj), (28, .no)]⟩
def QdU (y3 : List ValT) : VS := Que.st ((), ()) (y3, (), ())
def QO7 : VS → Option (Bool × List (Bool × Exit × VS)) := mkL Qoq (fun x y => (idxOk x.1 x.2.2.1 && QvR x.1 && decide (y.1.length + x.1.length ≤ 200000 + x.2.2.1.toNat))) (fun x y => [(true, .exit 0, QdU (y.1 ++ x.1.drop x.2.2.1.toNat))])
def Qlr : G := ⟨TYs, [16], 30, EL [(212, Qhg)], keeps, (Ls [QO7]), IL [], RL []⟩
def QBq (x0 : List ValT) (x4 : Int) (y3 : List ValT) : Option (Exit × VS) :=
 let a1 := lgt Qaj x0 (Int.toNat x4)
 let a2 := (((a1.2).2).1, ((List.map Val.of (copV (List.map Val.un ((((a1.2).2).2).1)))), ()))
 br (ilt x4 (llen x0)) (br (cIx x0 x4) (br (cApp ([] : List Int) ((a1.2).1) 1) (br (copLF fuel (List.map Val.un ((((a1.2).2).2).1))) (br (cApp y3 ([(a1.1, ((([] : List Int) ++ ((a1.2).1)), a2))]) 64) (some (.normal, QnJ x0 (iadd .i64 x4 1) (y3 ++ ([(a1.1, ((([] : List Int) ++ ((a1.2).1)), a2))])))) none) none) none) none) (some (.exit 0, QdU y3))
noncomputable def Qjh (x0 : List ValT) (x4 : Int) (y3 : List ValT) : Option (Exit × VS) := loopF (Qak Qlr QgI Qix) (QnJ x0 x4 y3)
noncomputable def QmE (x0 : List ValT) (x4 : Int) (y3 : List ValT) : Option (Exit × VS) :=
 let a1 := lgt Qaj x0 (Int.toNat x4)
 let a2 := (((a1.2).2).1, ((List.map Val.of (copV (List.map Val.un ((((a1.2).2).2).1)))), ()))
 br (ilt x4 (llen x0)) (br (cIx x0 x4) (br (cApp ([] : List Int) ((a1.2).1) 1) (br (copLF fuel (List.map Val.un ((((a1.2).2).2).1))) (br (cApp y3 ([(a1.1, ((([] : List Int) ++ ((a1.2).1)), a2))]) 64) (Qjh x0 (iadd .i64 x4 1) (y3 ++ ([(a1.1, ((([] : List Int) ++ ((a1.2).1)), a2))]))) none) none) none) none) (some (.exit 0, QdU y3))
def QjL (x0 : List ValT) (x4 : Int) (y3 : List ValT) : Option (Exit × VS) := some (.exit 0, QdU (y3 ++ x0.drop x4.toNat))
theorem QK4 (x0 : List ValT) (x4 : Int) (y3 : List ValT) : Qak Qlr QgI Qix (QnJ x0 x4 y3) = QBq x0 x4 y3 := by kernel_rfl
theorem Qvb (x0 : List ValT) (x4 : Int) (y3 : List ValT) : Qjh x0 x4 y3 = QmE x0 x4 y3 := (Qao _ _).trans (by
 rw [QK4]
 simp only [QBq, QmE, Qay, nxt_n, nxt_r, nxt_e, nxt_0]
 rfl)
def QG8 (p0 : List ValT) : Option (V × List VO) := br (idxOk p0 (0 : Int) && QvR p0 && decide (([] : List ValT).length + p0.length ≤ 200000 + (0 : Int).toNat)) (some (.t (.sl Qaj) (([] : List ValT) ++ p0.drop (0 : Int).toNat), [])) none
theorem e_f212 (p0 : List ValT) : runF Qlr Qwk QFK false [.t (.sl Qaj) p0] [] = QG8 p0 := by kernel_rfl
theorem QUP : GOk Tryz.prog Qlr := Qal _ (gA (gC QN3 QMC gN))
theorem QNg (x0 : List ValT) (x4 : Int) (y3 : List ValT) (h : (idxOk x0 x4 && QvR x0 && decide (y3.length + x0.length ≤ 200000 + x4.toNat)) = true) : Qjh x0 x4 y3 = QjL x0 x4 y3 := by
 simp only [Bool.and_eq_true, decide_eq_true_eq, idxOk] at h
 obtain ⟨⟨⟨h0, h1, h3⟩, hc⟩, h2⟩ := h
 obtain ⟨k, rfl⟩ := Int.eq_ofNat_of_zero_le h0
 rw [Int.toNat_natCast] at h2
 simp only [QvR, copLF, Bool.and_eq_true, List.all_eq_true] at hc
 revert y3
 refine Qat x0 (fun k => ∀ y3 : List ValT, y3.length + x0.length ≤ 200000 + k → Qjh x0 (k : Int) y3 = QjL x0 (k : Int) y3) ?_ ?_ k (by omega)
 ·intro y3 _
  rw [Qvb]
  simp [QmE, QjL, ilt, llen, Qaf]
 ·intro k hk ih y3 hy
  rw [Qvb]
  have hx := hc.2 x0[k] (List.getElem_mem hk)
  have e2 : copLF fuel (List.map Val.un x0[k].2.2.2.1) = true := QBc hx
  simp only [QmE, show ilt (k : Int) (llen x0) = true from decide_eq_true (by simp only [llen]; omega), Qav, hk, decide_true, Qac, Int.toNat_natCast, add1 (show k < 4611686018427387904 by omega), QaA (y := Qaj) hk, e2, copV, QcP]
  rw [cAppN (by omega) (by have := QuT hx; simp only [List.length_nil]; omega), Qac, cAppN (by omega) (by simp only [List.length_singleton]; omega), Qac, ih _ (by simp only [List.length_append, List.length_singleton]; omega)]
  simp only [QjL, Int.toNat_natCast, List.drop_eq_getElem_cons hk, List.append_assoc, List.singleton_append, List.nil_append]
theorem QIJ : ∀ S l p, Qlr.L 0 (fgt QgI S) = some (true, l) → pickA l = some p → loopF (Qak Qlr QgI Qix) S = some p :=
 QaD (s := Qoq) ⟨by decide, by decide⟩ (by kernel_rfl) fun x y hok p hp => by
 simp only [Qaq, Qan] at hp
 exact (QNg x.1 x.2.2.1 y.1 (by simpa using hok)).trans hp
theorem QTi : Qwk.lok Qlr := by
 repeat (first | exact trivial | exact QIJ | refine ⟨?_, ?_⟩)
theorem s_f212 (l : List ValT) (h : copLF (fuel + 1) l = true) : QG8 l = some (.t (.sl Qaj) (copV l), []) := by
 have hl : l.length ≤ 100000 := by simp only [copLF, Bool.and_eq_true, decide_eq_true_eq] at h; exact h.1
 simp only [QG8, show idxOk l 0 = true from decide_eq_true (by omega), show QvR l = true from h, Bool.true_and, List.length_nil, Int.toNat_zero, List.drop_zero, List.nil_append]
 rw [decide_eq_true (by omega), Qac]
 rfl
theorem QSZ : Meets Tryz.prog 212 (runF Qlr Qwk QFK false) := mG Tryz.func212 (by kernel_rfl) Tryz.ntmps212 (by kernel_rfl) QUP QTi
end
theorem Qgu : ∀ N : Nat, Meets Tryz.prog 212 (strip (@Qhg ⟨N⟩))
 | 0 => Qb8 fun x => by first | rfl | simp [copLF]
 | N + 1 => by
  letI : Fuel := ⟨N⟩
  haveI : Nonempty (PLift (Meets Tryz.prog 212 (strip Qhg))) := ⟨⟨Qgu N⟩⟩
  exact Qag QSZ fun x hok => (e_f212 x.1).trans (s_f212 x.1 hok)
def QEt : Ent := spec (.pr (.sl Qaj) .nil) (fun x => (copOk x.1)) (fun x => (.t (.sl Qaj) (copV x.1)))
theorem QR9 : Meets Tryz.prog 212 (strip QEt) := Qb9 Qgu fun x hok => Qk3 x.1 hok
end
end Go.Proofs.YtckcgijklnloiaaGreat.K
set_option linter.unusedSectionVars false
namespace Go.Proofs.YtckcgijklnloiaaGreat.K
open Go.RowKit
noncomputable section
theorem QxU {n : Nat} {x : ValT} (h : okT (n + 1) x = true) : ∀ k (hk : k < (List.map Val.un x.2.2.2.1).length), okT n (List.map Val.un x.2.2.2.1)[k] = true := by
 intro k hk
 rw [List.getElem_map, QuR]
 exact (QcH h).2.2.2.2.2.2 _ (List.getElem_mem _)
def frmV (_x : ValT) : Bool := true
def frmOk (x : ValT) : Bool := okT 12 x
theorem Qp2 (x : ValT) (h : frmOk x = true) : ∃ N, okT N x = true := ⟨12, h⟩
theorem Qk2 (x : ValT) (h : frmOk x = true) : ∃ N, okT N x = true := ⟨12, h⟩
theorem QJ8 : Qai Tryz.prog 219 := .inr ⟨by decide, _, Tryz.func219, by kernel_rfl, by kernel_rfl⟩
def Qhf [Fuel] : Ent := spec (.pr Qaj .nil) (fun x => (okT fuel x.1)) (fun x => (.t .bool (frmV x.1)))
theorem QN2 : Qai Tryz.prog 219 := QJ8
section
variable [Fuel] [Nonempty (PLift (Meets Tryz.prog 219 (strip Qhf)))]
theorem QMB : Meets Tryz.prog 219 (strip Qhf) := (Classical.choice (inferInstance : Nonempty (PLift (Meets Tryz.prog 219 (strip Qhf))))).down
def unfV (_x : ValT) : Bool := false
def unfOk [Fuel] (x : ValT) : Bool := okT fuel x
def QeN [Fuel] (l : List ValT) : Bool := decide (l.length ≤ 100000) && l.all (okT fuel)
noncomputable def Qwa : TC := (.sq (.reg (rT Tryz.f233 0)) (.sq (.reg (rT Tryz.f233 1)) .rt))
def QFA : List (RV × Option Ty) := [((.t 2), some .bool)]
def QAd : G := ⟨TYs, [], 6, EL [(219, Qhf)], keeps, (fun _ _ => none), IL [], RL []⟩
def QGZ (p0 : ValT) : Option (V × List VO) := br (okT fuel p0) (some (.t .bool (!(frmV p0)), [])) none
theorem e_f233 (p0 : ValT) : runF QAd Qwa QFA false [.t Qaj p0] [] = QGZ p0 := by kernel_rfl
theorem QVP : Qai Tryz.prog 233 := .inr ⟨by decide, _, Tryz.func233, by kernel_rfl, by kernel_rfl⟩
theorem QUF : GOk Tryz.prog QAd := Qal _ (gA (gC QN2 QMB gN))
theorem QS8 : Qwa.lok QAd := by repeat (first | exact trivial | refine ⟨?_, ?_⟩)
theorem s_f233 (x : ValT) (h : unfOk x = true) : QGZ x = some (.t .bool (unfV x), []) := by
 simp only [QGZ, show okT fuel x = true from h, Qac]
 rfl
def QEl : Ent := spec (.pr Qaj .nil) (fun x => (unfOk x.1)) (fun x => (.t .bool (unfV x.1)))
theorem QR1 : Meets Tryz.prog 233 (strip QEl) := Qag (R := runF QAd Qwa QFA false) (mG Tryz.func233 (by kernel_rfl) Tryz.ntmps233 (by kernel_rfl) QUF QS8) fun x hok => (e_f233 x.1).trans (s_f233 x.1 hok)
def QJL (_l : List ValT) : Int := -1
def Qco : Fg := ⟨[(0, some (.sl Qaj)), (1, none), (7, some tI), (8, some tI)], []⟩
noncomputable def Qc8 : TC := (.sq (.reg (rT Tryz.f237 2)) (.sq (.cd (.t 9) .sk (.fg ⟨[], []⟩ (.ex 0))) (.sq (.bk 1 (.sq (.reg (rT Tryz.f237 3)) (.sq (.reg (rT Tryz.f237 4)) (.cd (.t 16) (.sq (.reg (rT Tryz.f237 5)) (.fg ⟨[(4, some tI)], []⟩ .rt)) .sk)))) (.reg (rT Tryz.f237 6)))))
noncomputable def QhX : TC := (.sq (.reg (rT Tryz.f237 0)) (.sq (.sq (.reg (rT Tryz.f237 1)) (.bk 0 (.lp 0 Qco Qc8))) (.sq (.reg (rT Tryz.f237 7)) .rt)))
def QoY : List (RV × Option Ty) := [((.t 4), some tI)]
abbrev Qfj : Sh := ⟨[(0, .ty (.sl Qaj)), (1, .cf 233), (7, .ty tI), (8, .ty tI)], []⟩
def Qfb (x0 : List ValT) (x7 x8 : Int) : VS := Qfj.st (x0, (), x7, x8, ()) ()
abbrev QkJ : Sh := ⟨[(4, .ty tI)], []⟩
def QbF (x4 : Int) : VS := QkJ.st (x4, ()) ()
abbrev QlX : Sh := ⟨[], []⟩
def QbX  : VS := QlX.st () ()
def Qv4 : VS → Option (Bool × List (Bool × Exit × VS)) := mkL Qfj (fun x y => (rngOk x.1 x.2.2.1 x.2.2.2.1 && QeN x.1)) (fun x y => [((false), .ret, QbF (x.2.2.2.1)), (true, .exit 0, QbX)])
def Qcc : G := ⟨TYs, [], 19, EL [(233, QEl)], keeps, (Ls [Qv4]), IL [], RL []⟩
def QlS (x0 : List ValT) (x7 x8 : Int) : Option (Exit × VS) :=
 let a1 := lgt Qaj x0 (Int.toNat x8)
 br (ilt x8 x7) (br (cIx x0 x8) (br (unfOk a1) (br (unfV a1) (some (.ret, QbF x8)) (some (.normal, Qfb x0 x7 (iadd .i64 x8 1)))) none) none) (some (.exit 0, QbX))
noncomputable def Qdj (x0 : List ValT) (x7 x8 : Int) : Option (Exit × VS) := loopF (Qak Qcc Qco Qc8) (Qfb x0 x7 x8)
noncomputable def Qek (x0 : List ValT) (x7 x8 : Int) : Option (Exit × VS) :=
 let a1 := lgt Qaj x0 (Int.toNat x8)
 br (ilt x8 x7) (br (cIx x0 x8) (br (unfOk a1) (br (unfV a1) (some (.ret, QbF x8)) (Qdj x0 x7 (iadd .i64 x8 1))) none) none) (some (.exit 0, QbX))
def QfE (x0 : List ValT) (x7 x8 : Int) : Option (Exit × VS) := br (false) (some (.ret, QbF (x8))) <| some (.exit 0, QbX)
theorem Qtz (x0 : List ValT) (x7 x8 : Int) : Qak Qcc Qco Qc8 (Qfb x0 x7 x8) = QlS x0 x7 x8 := by kernel_rfl
theorem QjC (x0 : List ValT) (x7 x8 : Int) : Qdj x0 x7 x8 = Qek x0 x7 x8 := (Qao _ _).trans (by
 rw [Qtz]
 simp only [QlS, Qek, Qay, nxt_n, nxt_r, nxt_e, nxt_0]
 rfl)
def QkO (p0 : List ValT) : Option (V × List VO) := br (rngOk p0 (llen p0) (0 : Int) && QeN p0) (br (false) (some (.t tI (0 : Int), [])) (some (.t tI (-1), []))) none
theorem QCJ (p0 : List ValT) : runF Qcc QhX QoY false [.t (.sl Qaj) p0, .c (.func (.func 233) ⟨[]⟩ ⟨[]⟩)] [] = QkO p0 := by kernel_rfl
theorem QyQ : Qai Tryz.prog 237 := .inr ⟨by decide, _, Tryz.func237, by kernel_rfl, by kernel_rfl⟩
theorem QyD : GOk Tryz.prog Qcc := Qal _ (gA (gC QVP QR1 gN))
theorem Qvz (x0 : List ValT) (x7 x8 : Int) (h : (rngOk x0 x7 x8 && QeN x0) = true) : Qdj x0 x7 x8 = QfE x0 x7 x8 := by
 simp only [Bool.and_eq_true] at h
 obtain ⟨h0, hc⟩ := h
 obtain ⟨rfl, h3, k, rfl, hk⟩ := rng_k h0
 clear h0
 simp only [QeN, Bool.and_eq_true, List.all_eq_true] at hc
 refine Qat x0 (fun k => Qdj x0 (x0.length : Int) (k : Int) = QfE x0 (x0.length : Int) (k : Int)) ?_ ?_ k hk
 ·rw [QjC]
  simp [Qek, QfE, Qar, Qaf]
 ·intro k hk ih
  rw [QjC]
  have hx := hc.2 x0[k] (List.getElem_mem hk)
  simp only [Qek, Qar, Qav, hk, decide_true, Qac, Int.toNat_natCast, add1 (show k < 4611686018427387904 by omega), QaA (y := Qaj) hk, show unfOk x0[k] = true from hx, unfV, Qaf, ih]
  rfl
theorem Qs7 : ∀ S l p, Qcc.L 0 (fgt Qco S) = some (true, l) → pickA l = some p → loopF (Qak Qcc Qco Qc8) S = some p :=
 QaD (s := Qfj) ⟨by decide, by decide⟩ (by kernel_rfl) fun x y hok p hp => by
 simp only [Qaq, Qan] at hp
 exact (Qvz x.1 x.2.2.1 x.2.2.2.1 (by simpa using hok)).trans hp
theorem Qyn : QhX.lok Qcc := by
 repeat (first | exact trivial | exact Qs7 | refine ⟨?_, ?_⟩)
theorem QB5 (l : List ValT) (h : QeN l = true) : QkO l = some (.t tI (QJL l), []) := by
 have hl : l.length ≤ 100000 := by simp only [QeN, Bool.and_eq_true, decide_eq_true_eq] at h; exact h.1
 simp only [QkO, rng_0 hl, h, Bool.true_and, Qac, Qaf]
 rfl
def Qn3 : Ent := specH [.ty (.sl Qaj), .cf 233] [] (fun x d => (QeN x.1)) (fun x d => (.t tI (QJL x.1)))
theorem Qx0 : Meets Tryz.prog 237 (strip Qn3) := (QaQ (R := runF Qcc QhX QoY false) (mG Tryz.func237 (by kernel_rfl) Tryz.ntmps237 (by kernel_rfl) QyD Qyn) fun x d hok => (QCJ x.1).trans (QB5 x.1 hok))
def QLM (_l : List ValT) : Bool := false
noncomputable def QhY : TC := (.sq (.reg (rT Tryz.f232 0)) (.sq (.reg (rT Tryz.f232 1)) .rt))
def QoZ : List (RV × Option Ty) := [((.t 4), some .bool)]
def Qhz : G := ⟨TYs, [], 9, EL [(237, Qn3)], keeps, (fun _ _ => none), IL [], RL []⟩
def QkP (p0 : List ValT) : Option (V × List VO) := br (QeN p0) (some (.t .bool (ige (QJL p0) 0), [])) none
theorem QCK (p0 : List ValT) : runF Qhz QhY QoZ false [.t (.sl Qaj) p0, .c (.func (.func 233) ⟨[]⟩ ⟨[]⟩)] [] = QkP p0 := by kernel_rfl
theorem QyR : Qai Tryz.prog 232 := .inr ⟨by decide, _, Tryz.func232, by kernel_rfl, by kernel_rfl⟩
theorem QyE : GOk Tryz.prog Qhz := Qal _ (gA (gC QyQ Qx0 gN))
theorem Qyo : QhY.lok Qhz := by repeat (first | exact trivial | refine ⟨?_, ?_⟩)
theorem QB6 (l : List ValT) (h : QeN l = true) : QkP l = some (.t .bool (QLM l), []) := by
 simp only [QkP, h, Qac]
 rfl
def Qn4 : Ent := specH [.ty (.sl Qaj), .cf 233] [] (fun x d => (QeN x.1)) (fun x d => (.t .bool (QLM x.1)))
theorem Qx1 : Meets Tryz.prog 232 (strip Qn4) := (QaQ (R := runF Qhz QhY QoZ false) (mG Tryz.func232 (by kernel_rfl) Tryz.ntmps232 (by kernel_rfl) QyE Qyo) fun x d hok => (QCK x.1).trans (QB6 x.1 hok))
noncomputable def Qwj : TC := (.sq (.reg (rT Tryz.f219 0)) (.sq (.sq (.reg (rT Tryz.f219 1)) (.cd (.t 36) (.sq (.reg (rT Tryz.f219 2)) .rt) .sk)) (.sq (.reg (rT Tryz.f219 3)) .rt)))
def QFJ : List (RV × Option Ty) := [((.t 2), some .bool)]
def QAk : G := ⟨TYs, [], 41, EL [(231, QEm), (232, Qn4)], keeps, (fun _ _ => none), IL [], RL []⟩
def QsB (p0 : ValT) : Option (V × List VO) :=
 let a1 := List.map Val.un p0.2.2.2.1
 br (QeN a1) (some (.t .bool (!(QLM a1)), [])) none
def Qpa (p0 : ValT) : Option (V × List VO) := br (!p0.2.2.1) (br (igt (llen (List.map Val.un p0.2.2.2.1)) 0) (some (.t .bool false, [])) (QsB p0)) (QsB p0)
def QG7 (p0 : ValT) : Option (V × List VO) := br (!(tagB p0.1)) (some (.t .bool false, [])) (br (bneq p0.2.2.1 (ine (iband .i64 p0.1 32) 0)) (some (.t .bool false, [])) (br (p0.2.2.1) (br (igt (llen p0.2.1) 0) (some (.t .bool false, [])) (Qpa p0)) (Qpa p0)))
theorem e_f219 (p0 : ValT) : runF QAk Qwj QFJ false [.t Qaj p0] [] = QG7 p0 := by kernel_rfl
theorem QUO : GOk Tryz.prog QAk := Qal _ (gA (gC QVQ QR2 (gC QyR Qx1 gN)))
theorem QTh : Qwj.lok QAk := by repeat (first | exact trivial | refine ⟨?_, ?_⟩)
theorem s_f219 (x : ValT) (h : okT (fuel + 1) x = true) : QG7 x = some (.t .bool (frmV x), []) := by
 obtain ⟨h1, h2, h3, h4, h5, h6, h7⟩ := QcH h
 have hu : QeN (List.map Val.un x.2.2.2.1) = true := by
  simp only [QeN, Bool.and_eq_true, decide_eq_true_eq, List.length_map, List.all_eq_true, List.mem_map]
  refine ⟨h6, ?_⟩
  rintro y ⟨v, hv, rfl⟩
  rw [QuR]
  exact h7 v hv
 have ht : tagB x.1 = true := by rcases h1 with e | e | e | e <;> rw [e] <;> rfl
 have hn : bneq x.2.2.1 (ine (iband .i64 x.1 32) 0) = false := by rw [h2]; rcases h1 with e | e | e | e <;> rw [e] <;> rfl
 simp only [QG7, Qpa, QsB, ht, hn, hu, Bool.not_true, Qac, Qaf]
 cases hq : x.2.2.1 with
 | true =>
  rw [h3 hq]
  rfl
 | false =>
  rw [h4 hq]
  rfl
theorem QSY : Meets Tryz.prog 219 (runF QAk Qwj QFJ false) := mG Tryz.func219 (by kernel_rfl) Tryz.ntmps219 (by kernel_rfl) QUO QTh
end
theorem Qi9 : ∀ N : Nat, Meets Tryz.prog 219 (strip (@Qhf ⟨N⟩))
 | 0 => Qb8 fun x => by first | rfl | simp [okT]
 | N + 1 => by
  letI : Fuel := ⟨N⟩
  haveI : Nonempty (PLift (Meets Tryz.prog 219 (strip Qhf))) := ⟨⟨Qi9 N⟩⟩
  exact Qag QSY fun x hok => (e_f219 x.1).trans (s_f219 x.1 hok)
def QEs : Ent := spec (.pr Qaj .nil) (fun x => (frmOk x.1)) (fun x => (.t .bool (frmV x.1)))
theorem QR8 : Meets Tryz.prog 219 (strip QEs) := Qb9 Qi9 fun x hok => Qp2 x.1 hok
theorem QKe : Qai Tryz.prog 182 := .inr ⟨by decide, _, Tryz.func182, by kernel_rfl, by kernel_rfl⟩
def Qhj [Fuel] : Ent := spec (.pr Qaj .nil) (fun x => (okT fuel x.1)) (fun x => (.t .bool (frmV x.1)))
theorem QN6 : Qai Tryz.prog 182 := QKe
section
variable [Fuel] [Nonempty (PLift (Meets Tryz.prog 182 (strip Qhj)))]
theorem QMF : Meets Tryz.prog 182 (strip Qhj) := (Classical.choice (inferInstance : Nonempty (PLift (Meets Tryz.prog 182 (strip Qhj))))).down
def frmIn [Fuel] (x : ValT) : Bool := okT (fuel + 1) x
def QgP : Fg := ⟨[(1, none), (3, some tI)], [(1, some Qaj)]⟩
noncomputable def QiE : TC := (.sq (.sq (.reg (rT Tryz.f182 4)) (.cd (.t 43) .sk (.fg ⟨[], []⟩ (.ex 0)))) (.sq (.bk 1 (.sq (.reg (rT Tryz.f182 5)) (.cd (.t 52) (.sq (.reg (rT Tryz.f182 6)) (.fg ⟨[(2, some .bool)], []⟩ .rt)) .sk))) (.reg (rT Tryz.f182 7))))
noncomputable def QwA : TC := (.sq (.reg (rT Tryz.f182 0)) (.sq (.sq (.reg (rT Tryz.f182 1)) (.cd (.t 38) (.sq (.reg (rT Tryz.f182 2)) .rt) .sk)) (.sq (.sq (.reg (rT Tryz.f182 3)) (.bk 0 (.lp 0 QgP QiE))) (.sq (.reg (rT Tryz.f182 8)) .rt))))
def QF0 : List (RV × Option Ty) := [((.t 2), some .bool)]
abbrev Qoy : Sh := ⟨[(1, .ptr 1 0), (3, .ty tI)], [(1, .box Qaj)]⟩
def QnQ (x3 : Int) (y1 : ValT) : VS := Qoy.st ((), x3, ()) (y1, ())
abbrev Qr5 : Sh := ⟨[(2, .ty .bool)], []⟩
def Qdc (x2 : Bool) : VS := Qr5.st (x2, ()) ()
abbrev Qul : Sh := ⟨[], []⟩
def Qd0  : VS := Qul.st () ()
def QPe : VS → Option (Bool × List (Bool × Exit × VS)) := mkL Qoy (fun x y => (decide (0 ≤ x.2.1 ∧ x.2.1 ≤ y.1.2.2.2.1.length) && frmIn y.1)) (fun x y => [((false), .ret, Qdc (false)), (true, .exit 0, Qd0)])
def Qly : G := ⟨TYs, [], 53, EL [(182, Qhj), (210, QEv)], keeps, (Ls [QPe]), IL [], RL []⟩
def QBx (x3 : Int) (y1 : ValT) : Option (Exit × VS) :=
 let a1 := List.map Val.un y1.2.2.2.1
 let a2 := lgt Qaj a1 (Int.toNat x3)
 br (ilt x3 (llen a1)) (br (cIx a1 x3) (br (okT fuel a2) (br (!(frmV a2)) (some (.ret, Qdc false)) (some (.normal, QnQ (iadd .i64 x3 1) y1))) none) none) (some (.exit 0, Qd0))
noncomputable def Qjo (x3 : Int) (y1 : ValT) : Option (Exit × VS) := loopF (Qak Qly QgP QiE) (QnQ x3 y1)
noncomputable def QmJ (x3 : Int) (y1 : ValT) : Option (Exit × VS) :=
 let a1 := List.map Val.un y1.2.2.2.1
 let a2 := lgt Qaj a1 (Int.toNat x3)
 br (ilt x3 (llen a1)) (br (cIx a1 x3) (br (okT fuel a2) (br (!(frmV a2)) (some (.ret, Qdc false)) (Qjo (iadd .i64 x3 1) y1)) none) none) (some (.exit 0, Qd0))
def QpS (x3 : Int) (y1 : ValT) : Option (Exit × VS) := br (false) (some (.ret, Qdc (false))) <| some (.exit 0, Qd0)
theorem QLb (x3 : Int) (y1 : ValT) : Qak Qly QgP QiE (QnQ x3 y1) = QBx x3 y1 := by kernel_rfl
theorem Qvh (x3 : Int) (y1 : ValT) : Qjo x3 y1 = QmJ x3 y1 := (Qao _ _).trans (by
 rw [QLb]
 simp only [QBx, QmJ, Qay, nxt_n, nxt_r, nxt_e, nxt_0]
 rfl)
def QsD (p0 : ValT) : Option (V × List VO) := br (decide (0 ≤ (0 : Int) ∧ (0 : Int) ≤ p0.2.2.2.1.length) && frmIn p0) (br (false) (some (.t .bool (false), [])) (some (.t .bool true, []))) none
def QsE (p0 : ValT) : Option (V × List VO) := br (!p0.2.2.1) (br (igt (llen (List.map Val.un p0.2.2.2.1)) 0) (some (.t .bool false, [])) (QsD p0)) (QsD p0)
def QHm (p0 : ValT) : Option (V × List VO) := br (!(tagR p0.1)) (some (.t .bool false, [])) (br (cNz 32) (br (cNz 2) (br (bneq p0.2.2.1 (ieq (irem (iquo .i64 p0.1 32) 2) 1)) (some (.t .bool false, [])) (br (p0.2.2.1) (br (igt (llen p0.2.1) 0) (some (.t .bool false, [])) (QsE p0)) (QsE p0))) none) none)
theorem e_f182 (p0 : ValT) : runF Qly QwA QF0 false [.t Qaj p0] [] = QHm p0 := by kernel_rfl
theorem QU5 : GOk Tryz.prog Qly := Qal _ (gA (gC QN6 QMF (gC QVW QSb gN)))
theorem QNn (x3 : Int) (y1 : ValT) (h : (decide (0 ≤ x3 ∧ x3 ≤ y1.2.2.2.1.length) && frmIn y1) = true) : Qjo x3 y1 = QpS x3 y1 := by
 simp only [Bool.and_eq_true, decide_eq_true_eq] at h
 obtain ⟨⟨h0, h1⟩, hc⟩ := h
 obtain ⟨k, rfl⟩ := Int.eq_ofNat_of_zero_le h0
 have hm := QxU hc
 have hl := (QcH hc).2.2.2.2.2.1
 refine Qat (List.map Val.un y1.2.2.2.1) (fun k => Qjo (k : Int) y1 = QpS (k : Int) y1) ?_ ?_ k (by rw [List.length_map]; omega)
 ·rw [Qvh]
  simp [QmJ, QpS, ilt, llen, Qaf]
 ·intro k hk ih
  rw [Qvh]
  have hk2 : k < y1.2.2.2.1.length := by rw [List.length_map] at hk; exact hk
  simp only [QmJ, show ilt (k : Int) (llen (List.map Val.un y1.2.2.2.1)) = true from decide_eq_true (by simp only [llen]; omega), Qav, hk, decide_true, Qac, Int.toNat_natCast, add1 (show k < 4611686018427387904 by omega), QaA (y := Qaj) hk, hm k hk, frmV, Bool.not_true, Qaf, ih]
  rfl
theorem QIQ : ∀ S l p, Qly.L 0 (fgt QgP S) = some (true, l) → pickA l = some p → loopF (Qak Qly QgP QiE) S = some p :=
 QaD (s := Qoy) ⟨by decide, by decide⟩ (by kernel_rfl) fun x y hok p hp => by
 simp only [Qaq, Qan] at hp
 exact (QNn x.2.1 y.1 (by simpa using hok)).trans hp
theorem QTy : QwA.lok Qly := by
 repeat (first | exact trivial | exact QIQ | refine ⟨?_, ?_⟩)
theorem s_f182 (x : ValT) (h : okT (fuel + 1) x = true) : QHm x = some (.t .bool (frmV x), []) := by
 obtain ⟨h1, h2, h3, h4, h5, h6, h7⟩ := QcH h
 have ht : tagR x.1 = true := by rcases h1 with e | e | e | e <;> rw [e] <;> rfl
 have hn : bneq x.2.2.1 (ieq (irem (iquo .i64 x.1 32) 2) 1) = false := by rw [h2]; rcases h1 with e | e | e | e <;> rw [e] <;> rfl
 have hd : decide ((0 : Int) ≤ 0 ∧ (0 : Int) ≤ x.2.2.2.1.length) = true := decide_eq_true (by omega)
 simp only [QHm, QsE, QsD, ht, hn, hd, show frmIn x = true from h, Bool.and_self, show cNz 32 = true from rfl, show cNz 2 = true from rfl, Bool.not_true, Qac, Qaf]
 cases hq : x.2.2.1 with
 | true =>
  rw [h3 hq]
  rfl
 | false =>
  rw [h4 hq]
  rfl
theorem QS2 : Meets Tryz.prog 182 (runF Qly QwA QF0 false) := mG Tryz.func182 (by kernel_rfl) Tryz.ntmps182 (by kernel_rfl) QU5 QTy
end
theorem Qgt : ∀ N : Nat, Meets Tryz.prog 182 (strip (@Qhj ⟨N⟩))
 | 0 => Qb8 fun x => by first | rfl | simp [okT]
 | N + 1 => by
  letI : Fuel := ⟨N⟩
  haveI : Nonempty (PLift (Meets Tryz.prog 182 (strip Qhj))) := ⟨⟨Qgt N⟩⟩
  exact Qag QS2 fun x hok => (e_f182 x.1).trans (s_f182 x.1 hok)
def QEH : Ent := spec (.pr Qaj .nil) (fun x => (frmOk x.1)) (fun x => (.t .bool (frmV x.1)))
theorem QSn : Meets Tryz.prog 182 (strip QEH) := Qb9 Qgt fun x hok => Qk2 x.1 hok
def dpV (x : ValT) : Int := (depV (Val.of x) : Int)
def depLF (n : Nat) (x : ValT) : Bool := okT n x && decide (n ≤ 100)
def dpOk (x : ValT) : Bool := okT 12 x
theorem QqK (x : ValT) (h : dpOk x = true) : ∃ N, depLF N x = true := ⟨12, by rw [depLF, show okT 12 x = true from h]; rfl⟩
theorem Ql4 (x : ValT) (h : dpOk x = true) : ∃ N, depLF N x = true := ⟨12, by rw [depLF, show okT 12 x = true from h]; rfl⟩
def depL (l : List ValT) : Nat := depVs (l.map Val.of)
theorem QA9 : depL [] = 0 := rfl
theorem QvO (x : ValT) (l : List ValT) : depL (x :: l) = max (depV (Val.of x)) (depL l) := rfl
theorem Qtu (x : ValT) : depV (Val.of x) = depVs x.2.2.2.1 + 1 := rfl
theorem QJy (a b : Nat) : imx (a : Int) (b : Int) = ((max a b : Nat) : Int) := by
 unfold imx
 split <;> omega
theorem QJ7 : Qai Tryz.prog 220 := .inr ⟨by decide, _, Tryz.func220, by kernel_rfl, by kernel_rfl⟩
def Qhe [Fuel] : Ent := spec (.pr Qaj .nil) (fun x => (depLF fuel x.1)) (fun x => (.t tI (dpV x.1)))
theorem QN1 : Qai Tryz.prog 220 := QJ7
section
variable [Fuel] [Nonempty (PLift (Meets Tryz.prog 220 (strip Qhe)))]
theorem QMA : Meets Tryz.prog 220 (strip Qhe) := (Classical.choice (inferInstance : Nonempty (PLift (Meets Tryz.prog 220 (strip Qhe))))).down
def depIn [Fuel] (l : List ValT) : Bool := decide (l.length ≤ 100000 ∧ fuel + 1 ≤ 100) && l.all (okT fuel)
def QgH : Fg := ⟨[(3, some tI), (7, some (.sl Qaj)), (8, some tI), (9, some tI)], []⟩
noncomputable def Qiw : TC := (.sq (.reg (rT Tryz.f220 3)) (.sq (.cd (.t 10) .sk (.fg ⟨[(3, some tI)], []⟩ (.ex 0))) (.sq (.bk 1 (.sq (.reg (rT Tryz.f220 4)) (.reg (rT Tryz.f220 5)))) (.reg (rT Tryz.f220 6)))))
noncomputable def Qwi : TC := (.sq (.reg (rT Tryz.f220 0)) (.sq (.reg (rT Tryz.f220 1)) (.sq (.sq (.reg (rT Tryz.f220 2)) (.bk 0 (.lp 0 QgH Qiw))) (.sq (.reg (rT Tryz.f220 7)) .rt))))
def QFI : List (RV × Option Ty) := [((.t 2), some tI)]
abbrev Qop : Sh := ⟨[(3, .ty tI), (7, .ty (.sl Qaj)), (8, .ty tI), (9, .ty tI)], []⟩
def QnI (x3 : Int) (x7 : List ValT) (x8 x9 : Int) : VS := Qop.st (x3, x7, x8, x9, ()) ()
abbrev Qud : Sh := ⟨[(3, .ty tI)], []⟩
def QdT (x3 : Int) : VS := Qud.st (x3, ()) ()
def QO6 : VS → Option (Bool × List (Bool × Exit × VS)) := mkL Qop (fun x y => (rngOk x.2.1 x.2.2.1 x.2.2.2.1 && depIn x.2.1 && decide (0 ≤ x.1 ∧ x.1 ≤ 100))) (fun x y => [(true, .exit 0, QdT ((max x.1.toNat (depL (x.2.1.drop x.2.2.2.1.toNat)) : Nat) : Int))])
def Qlq : G := ⟨TYs, [], 20, EL [(220, Qhe)], keeps, (Ls [QO6]), IL [], RL []⟩
def QBp (x3 : Int) (x7 : List ValT) (x8 x9 : Int) : Option (Exit × VS) :=
 let a1 := lgt Qaj x7 (Int.toNat x9)
 br (ilt x9 x8) (br (cIx x7 x9) (br (depLF fuel a1) (some (.normal, QnI (imx x3 (dpV a1)) x7 x8 (iadd .i64 x9 1))) none) none) (some (.exit 0, QdT x3))
noncomputable def Qjg (x3 : Int) (x7 : List ValT) (x8 x9 : Int) : Option (Exit × VS) := loopF (Qak Qlq QgH Qiw) (QnI x3 x7 x8 x9)
noncomputable def QmD (x3 : Int) (x7 : List ValT) (x8 x9 : Int) : Option (Exit × VS) :=
 let a1 := lgt Qaj x7 (Int.toNat x9)
 br (ilt x9 x8) (br (cIx x7 x9) (br (depLF fuel a1) (Qjg (imx x3 (dpV a1)) x7 x8 (iadd .i64 x9 1)) none) none) (some (.exit 0, QdT x3))
def QjK (x3 : Int) (x7 : List ValT) (x8 x9 : Int) : Option (Exit × VS) := some (.exit 0, QdT ((max x3.toNat (depL (x7.drop x9.toNat)) : Nat) : Int))
theorem QK3 (x3 : Int) (x7 : List ValT) (x8 x9 : Int) : Qak Qlq QgH Qiw (QnI x3 x7 x8 x9) = QBp x3 x7 x8 x9 := by kernel_rfl
theorem Qva (x3 : Int) (x7 : List ValT) (x8 x9 : Int) : Qjg x3 x7 x8 x9 = QmD x3 x7 x8 x9 := (Qao _ _).trans (by
 rw [QK3]
 simp only [QBp, QmD, Qay, nxt_n, nxt_r, nxt_e, nxt_0]
 rfl)
def QG6 (p0 : ValT) : Option (V × List VO) :=
 let a1 := List.map Val.un p0.2.2.2.1
 br (rngOk a1 (llen a1) (0 : Int) && depIn a1 && decide (0 ≤ (0 : Int) ∧ (0 : Int) ≤ 100)) (some (.t tI (iadd .i64 ((max (0 : Int).toNat (depL (a1.drop (0 : Int).toNat)) : Nat) : Int) 1), [])) none
theorem e_f220 (p0 : ValT) : runF Qlq Qwi QFI false [.t Qaj p0] [] = QG6 p0 := by kernel_rfl
theorem QUN : GOk Tryz.prog Qlq := Qal _ (gA (gC QN1 QMA gN))
theorem QNf (x3 : Int) (x7 : List ValT) (x8 x9 : Int) (h : (rngOk x7 x8 x9 && depIn x7 && decide (0 ≤ x3 ∧ x3 ≤ 100)) = true) : Qjg x3 x7 x8 x9 = QjK x3 x7 x8 x9 := by
 simp only [Bool.and_eq_true, decide_eq_true_eq] at h
 obtain ⟨⟨h0, hc⟩, h1, h2⟩ := h
 obtain ⟨rfl, h3, k, rfl, hk⟩ := rng_k h0
 clear h0
 obtain ⟨m, rfl⟩ := Int.eq_ofNat_of_zero_le h1
 clear h1 h2
 simp only [depIn, Bool.and_eq_true, List.all_eq_true, decide_eq_true_eq] at hc
 obtain ⟨⟨hc0, hc1⟩, hc2⟩ := hc
 revert m
 refine Qat x7 (fun k => ∀ m : Nat, Qjg (m : Int) x7 (x7.length : Int) (k : Int) = QjK (m : Int) x7 (x7.length : Int) (k : Int)) ?_ ?_ k hk
 ·intro m
  rw [Qva]
  simp [QmD, QjK, Qar, Qaf, QA9]
 ·intro k hk ih m
  rw [Qva]
  have hx := hc2 x7[k] (List.getElem_mem hk)
  have hd : depLF fuel x7[k] = true := by rw [depLF, hx, decide_eq_true (by omega)]; rfl
  simp only [QmD, Qar, Qav, hk, decide_true, Qac, Int.toNat_natCast, add1 (show k < 4611686018427387904 by omega), QaA (y := Qaj) hk, hd, dpV, QJy, ih]
  simp only [QjK, Int.toNat_natCast, List.drop_eq_getElem_cons hk, QvO, Nat.max_assoc]
theorem QII : ∀ S l p, Qlq.L 0 (fgt QgH S) = some (true, l) → pickA l = some p → loopF (Qak Qlq QgH Qiw) S = some p :=
 QaD (s := Qop) ⟨by decide, by decide⟩ (by kernel_rfl) fun x y hok p hp => by
 simp only [Qaq, Qan] at hp
 exact (QNf x.1 x.2.1 x.2.2.1 x.2.2.2.1 (by simpa using hok)).trans hp
theorem QTg : Qwi.lok Qlq := by
 repeat (first | exact trivial | exact QII | refine ⟨?_, ?_⟩)
theorem s_f220 (x : ValT) (h : depLF (fuel + 1) x = true) : QG6 x = some (.t tI (dpV x), []) := by
 simp only [depLF, Bool.and_eq_true, decide_eq_true_eq] at h
 obtain ⟨h, hf⟩ := h
 obtain ⟨h1, h2, h3, h4, h5, h6, h7⟩ := QcH h
 have hu : depIn (List.map Val.un x.2.2.2.1) = true := by
  simp only [depIn, Bool.and_eq_true, decide_eq_true_eq, List.length_map, List.all_eq_true, List.mem_map]
  refine ⟨⟨h6, hf⟩, ?_⟩
  rintro y ⟨v, hv, rfl⟩
  rw [QuR]
  exact h7 v hv
 have hd := QsM (v := Val.of x) h
 rw [Qtu] at hd
 simp only [QG6, rng_0 (show (List.map Val.un x.2.2.2.1).length ≤ 100000 by rw [List.length_map]; exact h6), hu, Bool.and_self, show decide ((0 : Int) ≤ 0 ∧ (0 : Int) ≤ 100) = true from rfl, Qac, Int.toNat_zero, List.drop_zero, depL, QcP, Nat.zero_max]
 rw [Qa4 (by omega)]
 simp only [dpV, Qtu]
 congr 2
theorem QSX : Meets Tryz.prog 220 (runF Qlq Qwi QFI false) := mG Tryz.func220 (by kernel_rfl) Tryz.ntmps220 (by kernel_rfl) QUN QTg
end
theorem Qlh : ∀ N : Nat, Meets Tryz.prog 220 (strip (@Qhe ⟨N⟩))
 | 0 => Qb8 fun x => by first | rfl | simp [depLF]
 | N + 1 => by
  letI : Fuel := ⟨N⟩
  haveI : Nonempty (PLift (Meets Tryz.prog 220 (strip Qhe))) := ⟨⟨Qlh N⟩⟩
  exact Qag QSX fun x hok => (e_f220 x.1).trans (s_f220 x.1 hok)
def QEr : Ent := spec (.pr Qaj .nil) (fun x => (dpOk x.1)) (fun x => (.t tI (dpV x.1)))
theorem QR7 : Meets Tryz.prog 220 (strip QEr) := Qb9 Qlh fun x hok => QqK x.1 hok
theorem QKd : Qai Tryz.prog 183 := .inr ⟨by decide, _, Tryz.func183, by kernel_rfl, by kernel_rfl⟩
def Qhi [Fuel] : Ent := spec (.pr Qaj .nil) (fun x => (depLF fuel x.1)) (fun x => (.t tI (dpV x.1)))
theorem QN5 : Qai Tryz.prog 183 := QKd
section
variable [Fuel] [Nonempty (PLift (Meets Tryz.prog 183 (strip Qhi)))]
theorem QME : Meets Tryz.prog 183 (strip Qhi) := (Classical.choice (inferInstance : Nonempty (PLift (Meets Tryz.prog 183 (strip Qhi))))).down
def QvP [Fuel] (x : ValT) : Bool := depLF (fuel + 1) x
def QgO : Fg := ⟨[(1, none), (3, some tI), (4, some tI)], [(1, some Qaj)]⟩
noncomputable def QiD : TC := (.sq (.sq (.reg (rT Tryz.f183 3)) (.cd (.t 9) .sk (.fg ⟨[(3, some tI)], []⟩ (.ex 0)))) (.sq (.bk 1 (.reg (rT Tryz.f183 4))) (.reg (rT Tryz.f183 5))))
noncomputable def Qwz : TC := (.sq (.reg (rT Tryz.f183 0)) (.sq (.reg (rT Tryz.f183 1)) (.sq (.sq (.reg (rT Tryz.f183 2)) (.bk 0 (.lp 0 QgO QiD))) (.sq (.reg (rT Tryz.f183 6)) .rt))))
def QFZ : List (RV × Option Ty) := [((.t 2), some tI)]
abbrev Qox : Sh := ⟨[(1, .ptr 1 0), (3, .ty tI), (4, .ty tI)], [(1, .box Qaj)]⟩
def QnP (x3 x4 : Int) (y1 : ValT) : VS := Qox.st ((), x3, x4, ()) (y1, ())
abbrev Quk : Sh := ⟨[(3, .ty tI)], []⟩
def QdZ (x3 : Int) : VS := Quk.st (x3, ()) ()
def QPd : VS → Option (Bool × List (Bool × Exit × VS)) := mkL Qox (fun x y => (decide (0 ≤ x.2.2.1 ∧ x.2.2.1 ≤ y.1.2.2.2.1.length ∧ 0 ≤ x.2.1 ∧ x.2.1 ≤ 100) && QvP y.1)) (fun x y => [(true, .exit 0, QdZ ((max x.2.1.toNat (depL ((List.map Val.un y.1.2.2.2.1).drop x.2.2.1.toNat)) : Nat) : Int))])
def Qlx : G := ⟨TYs, [], 22, EL [(183, Qhi)], keeps, (Ls [QPd]), IL [], RL []⟩
def QBw (x3 x4 : Int) (y1 : ValT) : Option (Exit × VS) :=
 let a1 := List.map Val.un y1.2.2.2.1
 let a2 := lgt Qaj a1 (Int.toNat x4)
 br (ilt x4 (llen a1)) (br (cIx a1 x4) (br (depLF fuel a2) (some (.normal, QnP (imx x3 (dpV a2)) (iadd .i64 x4 1) y1)) none) none) (some (.exit 0, QdZ x3))
noncomputable def Qjn (x3 x4 : Int) (y1 : ValT) : Option (Exit × VS) := loopF (Qak Qlx QgO QiD) (QnP x3 x4 y1)
noncomputable def QmI (x3 x4 : Int) (y1 : ValT) : Option (Exit × VS) :=
 let a1 := List.map Val.un y1.2.2.2.1
 let a2 := lgt Qaj a1 (Int.toNat x4)
 br (ilt x4 (llen a1)) (br (cIx a1 x4) (br (depLF fuel a2) (Qjn (imx x3 (dpV a2)) (iadd .i64 x4 1) y1) none) none) (some (.exit 0, QdZ x3))
def QjP (x3 x4 : Int) (y1 : ValT) : Option (Exit × VS) := some (.exit 0, QdZ ((max x3.toNat (depL ((List.map Val.un y1.2.2.2.1).drop x4.toNat)) : Nat) : Int))
theorem QLa (x3 x4 : Int) (y1 : ValT) : Qak Qlx QgO QiD (QnP x3 x4 y1) = QBw x3 x4 y1 := by kernel_rfl
theorem Qvg (x3 x4 : Int) (y1 : ValT) : Qjn x3 x4 y1 = QmI x3 x4 y1 := (Qao _ _).trans (by
 rw [QLa]
 simp only [QBw, QmI, Qay, nxt_n, nxt_r, nxt_e, nxt_0]
 rfl)
def QHl (p0 : ValT) : Option (V × List VO) := br (decide (0 ≤ (0 : Int) ∧ (0 : Int) ≤ p0.2.2.2.1.length ∧ 0 ≤ (0 : Int) ∧ (0 : Int) ≤ 100) && QvP p0) (some (.t tI (iadd .i64 ((max (0 : Int).toNat (depL ((List.map Val.un p0.2.2.2.1).drop (0 : Int).toNat)) : Nat) : Int) 1), [])) none
theorem e_f183 (p0 : ValT) : runF Qlx Qwz QFZ false [.t Qaj p0] [] = QHl p0 := by kernel_rfl
theorem QU4 : GOk Tryz.prog Qlx := Qal _ (gA (gC QN5 QME gN))
theorem QNm (x3 x4 : Int) (y1 : ValT) (h : (decide (0 ≤ x4 ∧ x4 ≤ y1.2.2.2.1.length ∧ 0 ≤ x3 ∧ x3 ≤ 100) && QvP y1) = true) : Qjn x3 x4 y1 = QjP x3 x4 y1 := by
 simp only [Bool.and_eq_true, decide_eq_true_eq] at h
 obtain ⟨⟨h0, h1, h2, h3⟩, hc⟩ := h
 obtain ⟨k, rfl⟩ := Int.eq_ofNat_of_zero_le h0
 obtain ⟨m, rfl⟩ := Int.eq_ofNat_of_zero_le h2
 clear h2 h3
 simp only [QvP, depLF, Bool.and_eq_true, decide_eq_true_eq] at hc
 obtain ⟨hc, hf⟩ := hc
 have hm := QxU hc
 have hl := (QcH hc).2.2.2.2.2.1
 revert m
 refine Qat (List.map Val.un y1.2.2.2.1) (fun k => ∀ m : Nat, Qjn (m : Int) (k : Int) y1 = QjP (m : Int) (k : Int) y1) ?_ ?_ k (by rw [List.length_map]; omega)
 ·intro m
  rw [Qvg]
  simp only [QmI, show ilt ((List.map Val.un y1.2.2.2.1).length : Int) (llen (List.map Val.un y1.2.2.2.1)) = false from decide_eq_false (by simp only [llen]; omega), Qaf]
  simp only [QjP, Int.toNat_natCast, List.drop_length, QA9, Nat.max_zero]
 ·intro k hk ih m
  rw [Qvg]
  have hk2 : k < y1.2.2.2.1.length := by rw [List.length_map] at hk; exact hk
  have hd : depLF fuel (List.map Val.un y1.2.2.2.1)[k] = true := by rw [depLF, hm k hk, decide_eq_true (by omega)]; rfl
  simp only [QmI, show ilt (k : Int) (llen (List.map Val.un y1.2.2.2.1)) = true from decide_eq_true (by simp only [llen]; omega), Qav, hk, decide_true, Qac, Int.toNat_natCast, add1 (show k < 4611686018427387904 by omega), QaA (y := Qaj) hk, hd, dpV, QJy, ih]
  simp only [QjP, Int.toNat_natCast, List.drop_eq_getElem_cons hk, QvO, Nat.max_assoc]
theorem QIP : ∀ S l p, Qlx.L 0 (fgt QgO S) = some (true, l) → pickA l = some p → loopF (Qak Qlx QgO QiD) S = some p :=
 QaD (s := Qox) ⟨by decide, by decide⟩ (by kernel_rfl) fun x y hok p hp => by
 simp only [Qaq, Qan] at hp
 exact (QNm x.2.1 x.2.2.1 y.1 (by simpa using hok)).trans hp
theorem QTx : Qwz.lok Qlx := by
 repeat (first | exact trivial | exact QIP | refine ⟨?_, ?_⟩)
theorem s_f183 (x : ValT) (h : depLF (fuel + 1) x = true) : QHl x = some (.t tI (dpV x), []) := by
 have hin : QvP x = true := h
 simp only [depLF, Bool.and_eq_true, decide_eq_true_eq] at h
 obtain ⟨h, hf⟩ := h
 have hd := QsM (v := Val.of x) h
 rw [Qtu] at hd
 have hdd : decide ((0 : Int) ≤ 0 ∧ (0 : Int) ≤ x.2.2.2.1.length ∧ (0 : Int) ≤ 0 ∧ (0 : Int) ≤ 100) = true := decide_eq_true (by omega)
 simp only [QHl, hin, hdd, Bool.and_self, Qac, Int.toNat_zero, List.drop_zero, depL, QcP, Nat.zero_max]
 rw [Qa4 (by omega)]
 simp only [dpV, Qtu]
 congr 2
theorem QS1 : Meets Tryz.prog 183 (runF Qlx Qwz QFZ false) := mG Tryz.func183 (by kernel_rfl) Tryz.ntmps183 (by kernel_rfl) QU4 QTx
end
theorem QhR : ∀ N : Nat, Meets Tryz.prog 183 (strip (@Qhi ⟨N⟩))
 | 0 => Qb8 fun x => by first | rfl | simp [depLF]
 | N + 1 => by
  letI : Fuel := ⟨N⟩
  haveI : Nonempty (PLift (Meets Tryz.prog 183 (strip Qhi))) := ⟨⟨QhR N⟩⟩
  exact Qag QS1 fun x hok => (e_f183 x.1).trans (s_f183 x.1 hok)
def QEG : Ent := spec (.pr Qaj .nil) (fun x => (dpOk x.1)) (fun x => (.t tI (dpV x.1)))
theorem QSm : Meets Tryz.prog 183 (strip QEG) := Qb9 QhR fun x hok => Ql4 x.1 hok
end
end Go.Proofs.YtckcgijklnloiaaGreat.K
set_option linter.unusedSectionVars false
namespace Go.Proofs.YtckcgijklnloiaaGreat.K
open Go.RowKit
noncomputable section
def encT (x : ValT) : List Int := encV (Val.of x)
def encL (l : List ValT) : List Int := encVs (l.map Val.of)
theorem QhH : encL [] = [] := rfl
theorem Qcp (x : ValT) (l : List ValT) : encL (x :: l) = encT x ++ encL l := rfl
theorem Qqd (x : ValT) : encT x = icv .u8 x.1 :: (lenL (x.2.1.length + (encVs x.2.2.2.1).length) ++ (x.2.1 ++ encVs x.2.2.2.1)) := rfl
theorem Qqc (x : ValT) : x.2.1.length + (encVs x.2.2.2.1).length ≤ (encT x).length := QNW x.1 x.2.1 x.2.2.1 x.2.2.2.1
theorem Qk6 : ∀ (l : List ValT) (k : Nat) (hk : k < l.length), (encL (l.take k)).length + (encT l[k]).length ≤ (encL l).length
 | [], k, hk => by simp at hk
 | x :: l, 0, _ => by
  rw [List.take_zero, QhH, Qcp, List.length_append]
  simp
 | x :: l, k + 1, hk => by
  simp only [List.length_cons] at hk
  have := Qk6 l k (by omega)
  simp only [List.take_succ_cons, Qcp, List.length_append, List.getElem_cons_succ]
  omega
theorem Qhu (n : Nat) : (lenL n).length ≤ 9 := by
 unfold lenL
 split
 ·simp
 ·rw [List.length_cons, Qtt]
  have := Qtv 8 n
  omega
def encLF (n : Nat) (x : ValT) : Bool := okT n x && decide ((encT x).length ≤ 100000000)
def encOk (x : ValT) : Bool := okT 12 x && decide ((encT x).length ≤ 100000000)
theorem QqJ (x : ValT) (h : encOk x = true) : ∃ N, encLF N x = true := ⟨12, h⟩
theorem QKc : Qai Tryz.prog 184 := .inr ⟨by decide, _, Tryz.func184, by kernel_rfl, by kernel_rfl⟩
def Qhh [Fuel] : Ent := spec (.pr Qaj .nil) (fun x => (encLF fuel x.1)) (fun x => (.t (.sl (.int .u8)) (encT x.1)))
theorem QN4 : Qai Tryz.prog 184 := QKc
section
variable [Fuel] [Nonempty (PLift (Meets Tryz.prog 184 (strip Qhh)))]
theorem QMD : Meets Tryz.prog 184 (strip Qhh) := (Classical.choice (inferInstance : Nonempty (PLift (Meets Tryz.prog 184 (strip Qhh))))).down
def encIn [Fuel] (x : ValT) : Bool := encLF (fuel + 1) x
noncomputable def QKv : List DO := dT Tryz.f184 6
def QgN : Fg := ⟨[(1, none), (3, none), (4, some tI)], [(1, some Qaj), (3, none), (5, none), (8, none), (23, none)]⟩
noncomputable def QiC : TC := (.sq (.sq (.reg (rT Tryz.f184 3)) (.cd (.t 13) .sk (.fg ⟨[(1, none), (3, none)], [(1, some Qaj), (3, none), (5, none), (8, none), (23, none)]⟩ (.ex 0)))) (.sq (.bk 1 (.reg (rT Tryz.f184 4))) (.reg (rT Tryz.f184 5))))
noncomputable def Qwy : TC := (.sq (.reg (rT Tryz.f184 0)) (.sq (.reg (rT Tryz.f184 1)) (.sq (.sq (.reg (rT Tryz.f184 2)) (.bk 0 (.nw 3 5 (.lp 0 QgN QiC)))) (.sq (.dr QKv [(0, [1]), (1, [1]), (2, []), (3, [27, 5027, 10027, 15027]), (4, [3, 5, 8, 23]), (5, [3, 5, 8, 23]), (6, []), (7, [27, 31, 5031, 10031, 15031]), (8, [3, 5, 8, 23]), (9, [3, 5, 8, 23, 27, 31, 33, 5033, 10033, 15033]), (10, [27, 31, 33])] (.of [0, 1, 2, 4, 5, 6, 8, 3, 7, 9, 10])) .rt))))
def QFY : List (RV × Option Ty) := [((.t 2), some (.sl (.int .u8)))]
abbrev Qow : Sh := ⟨[(1, .ptr 1 0), (3, .ms 5), (4, .ty tI)], [(1, .box Qaj), (3, .no), (5, .arr 5 (.int .u8)), (8, .no), (23, .no)]⟩
def QnO (x4 : Int) (y1 : ValT) (y5 : List Int) : VS := Qow.st ((), (), x4, ()) (y1, (), y5, (), (), ())
abbrev Quj : Sh := ⟨[(1, .ptr 1 0), (3, .ms 5)], [(1, .box Qaj), (3, .no), (5, .arr 5 (.int .u8)), (8, .no), (23, .no)]⟩
def QdY (y1 : ValT) (y5 : List Int) : VS := Quj.st ((), (), ()) (y1, (), y5, (), (), ())
def QPc : VS → Option (Bool × List (Bool × Exit × VS)) := mkL Qow (fun x y => (decide (0 ≤ x.2.2.1 ∧ x.2.2.1 ≤ y.1.2.2.2.1.length ∧ y.2.2.1.length + (encL ((List.map Val.un y.1.2.2.2.1).drop x.2.2.1.toNat)).length ≤ 1000000000) && encIn y.1)) (fun x y => [(true, .exit 0, QdY (y.1) (y.2.2.1 ++ encL ((List.map Val.un y.1.2.2.2.1).drop x.2.2.1.toNat)))])
def Qlw : G := ⟨TYs, [5, 27], 34, EL [(184, Qhh), (211, QEu)], keeps, (Ls [QPc]), IL [], RL []⟩
def QBv (x4 : Int) (y1 : ValT) (y5 : List Int) : Option (Exit × VS) :=
 let a2 := List.map Val.un y1.2.2.2.1
 let a1 := lgt Qaj a2 (Int.toNat x4)
 br (ilt x4 (llen a2)) (br (cIx a2 x4) (br (encLF fuel a1) (br (cApp y5 (encT a1) 1) (some (.normal, QnO (iadd .i64 x4 1) y1 (y5 ++ (encT a1)))) none) none) none) (some (.exit 0, QdY y1 y5))
noncomputable def Qjm (x4 : Int) (y1 : ValT) (y5 : List Int) : Option (Exit × VS) := loopF (Qak Qlw QgN QiC) (QnO x4 y1 y5)
noncomputable def QmH (x4 : Int) (y1 : ValT) (y5 : List Int) : Option (Exit × VS) :=
 let a2 := List.map Val.un y1.2.2.2.1
 let a1 := lgt Qaj a2 (Int.toNat x4)
 br (ilt x4 (llen a2)) (br (cIx a2 x4) (br (encLF fuel a1) (br (cApp y5 (encT a1) 1) (Qjm (iadd .i64 x4 1) y1 (y5 ++ (encT a1))) none) none) none) (some (.exit 0, QdY y1 y5))
def QjO (x4 : Int) (y1 : ValT) (y5 : List Int) : Option (Exit × VS) := some (.exit 0, QdY (y1) (y5 ++ encL ((List.map Val.un y1.2.2.2.1).drop x4.toNat)))
theorem QK9 (x4 : Int) (y1 : ValT) (y5 : List Int) : Qak Qlw QgN QiC (QnO x4 y1 y5) = QBv x4 y1 y5 := by kernel_rfl
theorem Qvf (x4 : Int) (y1 : ValT) (y5 : List Int) : Qjm x4 y1 y5 = QmH x4 y1 y5 := (Qao _ _).trans (by
 rw [QK9]
 simp only [QBv, QmH, Qay, nxt_n, nxt_r, nxt_e, nxt_0]
 rfl)
def QHk (p0 : ValT) : Option (V × List VO) :=
 let a2 := List.map Val.un p0.2.2.2.1
 let a3 := (a2.drop (0 : Int).toNat)
 let a1 := (llen ((([] : List Int) ++ p0.2.1) ++ encL a3))
 let a4 := icv .u8 ((p0).1)
 br (cApp ([] : List Int) p0.2.1 1) (br (decide (0 ≤ (0 : Int) ∧ (0 : Int) ≤ p0.2.2.2.1.length ∧ (([] : List Int) ++ p0.2.1).length + (encL a3).length ≤ 1000000000) && encIn p0) (br (Qvy a1) (br (cApp ([a4]) (lenR a1) 1) (br (cApp (([a4]) ++ (lenR a1)) ((([] : List Int) ++ p0.2.1) ++ encL a3) 1) (some (.t (.sl (.int .u8)) ((([a4]) ++ (lenR a1)) ++ ((([] : List Int) ++ p0.2.1) ++ encL a3)), [])) none) none) none) none) none
theorem e_f184 (p0 : ValT) : runF Qlw Qwy QFY false [.t Qaj p0] [] = QHk p0 := by kernel_rfl
theorem QU3 : GOk Tryz.prog Qlw := Qal _ (gA (gC QN4 QMD (gC QVV QSa gN)))
theorem QNl (x4 : Int) (y1 : ValT) (y5 : List Int) (h : (decide (0 ≤ x4 ∧ x4 ≤ y1.2.2.2.1.length ∧ y5.length + (encL ((List.map Val.un y1.2.2.2.1).drop x4.toNat)).length ≤ 1000000000) && encIn y1) = true) : Qjm x4 y1 y5 = QjO x4 y1 y5 := by
 simp only [Bool.and_eq_true, decide_eq_true_eq] at h
 obtain ⟨⟨h0, h1, h2⟩, hc⟩ := h
 obtain ⟨k, rfl⟩ := Int.eq_ofNat_of_zero_le h0
 simp only [encIn, encLF, Bool.and_eq_true, decide_eq_true_eq] at hc
 obtain ⟨hc, hf⟩ := hc
 have hm := QxU hc
 have hl := (QcH hc).2.2.2.2.2.1
 rw [Int.toNat_natCast] at h2
 have hel := Qqc y1
 have hE : encL (List.map Val.un y1.2.2.2.1) = encVs y1.2.2.2.1 := by rw [encL, QcP]
 revert y5
 refine Qat (List.map Val.un y1.2.2.2.1) (fun k => ∀ y5 : List Int, y5.length + (encL ((List.map Val.un y1.2.2.2.1).drop k)).length ≤ 1000000000 → Qjm (k : Int) y1 y5 = QjO (k : Int) y1 y5) ?_ ?_ k (by rw [List.length_map]; omega)
 ·intro y5 _
  rw [Qvf]
  simp only [QmH, show ilt ((List.map Val.un y1.2.2.2.1).length : Int) (llen (List.map Val.un y1.2.2.2.1)) = false from decide_eq_false (by simp only [llen]; omega), Qaf]
  simp only [QjO, Int.toNat_natCast, List.drop_length, QhH, List.append_nil]
 ·intro k hk ih y5 hy
  rw [Qvf]
  have hk2 : k < y1.2.2.2.1.length := by rw [List.length_map] at hk; exact hk
  have hs := Qk6 (List.map Val.un y1.2.2.2.1) k hk
  rw [hE] at hs
  rw [List.drop_eq_getElem_cons hk, Qcp, List.length_append] at hy
  have hd : encLF fuel (List.map Val.un y1.2.2.2.1)[k] = true := by rw [encLF, hm k hk, decide_eq_true (by omega)]; rfl
  simp only [QmH, show ilt (k : Int) (llen (List.map Val.un y1.2.2.2.1)) = true from decide_eq_true (by simp only [llen]; omega), Qav, hk, decide_true, Qac, Int.toNat_natCast, add1 (show k < 4611686018427387904 by omega), QaA (y := Qaj) hk, hd]
  rw [cAppN (by omega) (by omega), Qac, ih _ (by rw [List.length_append]; omega)]
  simp only [QjO, Int.toNat_natCast, List.drop_eq_getElem_cons hk, Qcp, List.append_assoc]
theorem QIO : ∀ S l p, Qlw.L 0 (fgt QgN S) = some (true, l) → pickA l = some p → loopF (Qak Qlw QgN QiC) S = some p :=
 QaD (s := Qow) ⟨by decide, by decide⟩ (by kernel_rfl) fun x y hok p hp => by
 simp only [Qaq, Qan] at hp
 exact (QNl x.2.2.1 y.1 y.2.2.1 (by simpa using hok)).trans hp
theorem QTw : Qwy.lok Qlw := by
 repeat (first | exact trivial | exact QIO | refine ⟨?_, ?_⟩)
theorem s_f184 (x : ValT) (h : encLF (fuel + 1) x = true) : QHk x = some (.t (.sl (.int .u8)) (encT x), []) := by
 have hin : encIn x = true := h
 simp only [encLF, Bool.and_eq_true, decide_eq_true_eq] at h
 obtain ⟨h, hf⟩ := h
 have hel := Qqc x
 have hE : encL (List.map Val.un x.2.2.2.1) = encVs x.2.2.2.1 := by rw [encL, QcP]
 have hll := Qhu (x.2.1.length + (encVs x.2.2.2.1).length)
 simp only [QHk, hin, Bool.and_true, List.nil_append, Int.toNat_zero, List.drop_zero, hE]
 rw [cAppN (by omega) (by simp only [List.length_nil]; omega), Qac, decide_eq_true ⟨by omega, by omega, by omega⟩, Qac]
 have e1 : Qvy (llen (x.2.1 ++ encVs x.2.2.2.1)) = true := decide_eq_true (by simp only [llen, List.length_append]; omega)
 have e2 : lenR (llen (x.2.1 ++ encVs x.2.2.2.1)) = lenL (x.2.1.length + (encVs x.2.2.2.1).length) := by simp only [lenR, llen, List.length_append, Int.toNat_natCast]
 rw [e1, Qac, e2, cAppN (by omega) (by simp only [List.length_singleton]; omega), Qac, cAppN (by omega) (by simp only [List.length_append, List.length_singleton]; omega), Qac, Qqd]
 simp only [List.singleton_append, List.cons_append, List.nil_append]
theorem QS0 : Meets Tryz.prog 184 (runF Qlw Qwy QFY false) := mG Tryz.func184 (by kernel_rfl) Tryz.ntmps184 (by kernel_rfl) QU3 QTw
end
theorem Qlg : ∀ N : Nat, Meets Tryz.prog 184 (strip (@Qhh ⟨N⟩))
 | 0 => Qb8 fun x => by first | rfl | simp [encLF]
 | N + 1 => by
  letI : Fuel := ⟨N⟩
  haveI : Nonempty (PLift (Meets Tryz.prog 184 (strip Qhh))) := ⟨⟨Qlg N⟩⟩
  exact Qag QS0 fun x hok => (e_f184 x.1).trans (s_f184 x.1 hok)
def QEF : Ent := spec (.pr Qaj .nil) (fun x => (encOk x.1)) (fun x => (.t (.sl (.int .u8)) (encT x.1)))
theorem QSl : Meets Tryz.prog 184 (strip QEF) := Qb9 Qlg fun x hok => QqJ x.1 hok
def encE (x : ValT) : List Int × Int := if 4096 < (encT x).length then ([], 3) else (encT x, 0)
theorem QA3 {x : ValT} (h : okT 12 x = true) : igt (dpV x) 16 = false := by
 have := QsM (v := Val.of x) h
 exact decide_eq_false (by show ¬ ((depV (Val.of x) : Int) > 16); omega)
noncomputable def QwL : TC := (.sq (.reg (rT Tryz.f157 0)) (.sq (.sq (.reg (rT Tryz.f157 1)) (.cd (.t 7) (.sq (.reg (rT Tryz.f157 2)) .rt) .sk)) (.sq (.sq (.reg (rT Tryz.f157 3)) (.cd (.t 10) (.sq (.reg (rT Tryz.f157 4)) .rt) .sk)) (.sq (.reg (rT Tryz.f157 5)) (.sq (.sq (.reg (rT Tryz.f157 6)) (.cd (.t 15) (.sq (.reg (rT Tryz.f157 7)) .rt) .sk)) (.sq (.reg (rT Tryz.f157 8)) .rt))))))
def QGb : List (RV × Option Ty) := [((.t 2), some (.sl (.int .u8))), ((.t 3), some tI)]
def QAA : G := ⟨TYs, [], 17, EL [(182, QEH), (183, QEG), (184, QEF)], keeps, (fun _ _ => none), IL [], RL []⟩
def QHv (p0 : ValT) : Option (V × List VO) := br (frmOk p0) (br (!(frmV p0)) (some (.tu [(.t (.sl (.int .u8)) ([] : List Int)), (.t tI 1)], [])) (br (dpOk p0) (br (igt (dpV p0) 16) (some (.tu [(.t (.sl (.int .u8)) ([] : List Int)), (.t tI 3)], [])) (br (encOk p0) (br (igt (llen (encT p0)) 4096) (some (.tu [(.t (.sl (.int .u8)) ([] : List Int)), (.t tI 3)], [])) (some (.tu [(.t (.sl (.int .u8)) (encT p0)), (.t tI 0)], []))) none)) none)) none
theorem e_f157 (p0 : ValT) : runF QAA QwL QGb false [.t Qaj p0] [] = QHv p0 := by kernel_rfl
theorem QWg : Qai Tryz.prog 157 := .inr ⟨by decide, _, Tryz.func157, by kernel_rfl, by kernel_rfl⟩
theorem QVg : GOk Tryz.prog QAA := Qal _ (gA (gC QKe QSn (gC QKd QSm (gC QKc QSl gN))))
theorem QTJ : QwL.lok QAA := by repeat (first | exact trivial | refine ⟨?_, ?_⟩)
theorem s_f157 (x : ValT) (h : encOk x = true) : QHv x = some (.tu [.t (.sl (.int .u8)) (encE x).1, .t tI (encE x).2], []) := by
 have h' := h
 simp only [encOk, Bool.and_eq_true, decide_eq_true_eq] at h'
 obtain ⟨h1, h2⟩ := h'
 simp only [QHv, show frmOk x = true from h1, show dpOk x = true from h1, h, QA3 h1, frmV, Bool.not_true, Qac, Qaf]
 unfold encE
 refine QaB (fun g => ?_) (fun g => ?_)
 ·simp only [igt, llen, decide_eq_true_eq] at g
  rw [if_pos (by omega)]
 ·simp only [igt, llen, decide_eq_false_iff_not] at g
  rw [if_neg (by omega)]
def QES : Ent := spec (.pr Qaj .nil) (fun x => (encOk x.1)) (fun x => (.tu [(.t (.sl (.int .u8)) ((encE x.1).1)), (.t tI ((encE x.1).2))]))
theorem QSy : Meets Tryz.prog 157 (strip QES) := Qag (R := runF QAA QwL QGb false) (mG Tryz.func157 (by kernel_rfl) Tryz.ntmps157 (by kernel_rfl) QVg QTJ) fun x hok => (e_f157 x.1).trans (s_f157 x.1 hok)
def conV (x : ValT) : List Int := x.2.1 ++ encVs x.2.2.2.1
theorem QBd (x : ValT) : (conV x).length = x.2.1.length + (encVs x.2.2.2.1).length := List.length_append
theorem Qk4 (x : ValT) (h : encOk x = true) : ∃ N, encLF N x = true := ⟨12, h⟩
def eleV (b : List Int) (x : ValT) : List Int := b ++ encT x
theorem QRr (b : List Int) (x : ValT) : lenA (b ++ [icv .u8 x.1]) (llen (conV x)) ++ conV x = eleV b x := by
 simp only [lenA, eleV, Qqd, llen, Int.toNat_natCast, conV, List.length_append, List.append_assoc, List.singleton_append, List.cons_append, List.nil_append]
theorem QJ5 : Qai Tryz.prog 234 := .inr ⟨by decide, _, Tryz.func234, by kernel_rfl, by kernel_rfl⟩
def Qhd [Fuel] : Ent := spec (.pr Qaj .nil) (fun x => (encLF fuel x.1)) (fun x => (.t (.sl (.int .u8)) (conV x.1)))
theorem QNY : Qai Tryz.prog 234 := QJ5
section
variable [Fuel] [Nonempty (PLift (Meets Tryz.prog 234 (strip Qhd)))]
theorem QMx : Meets Tryz.prog 234 (strip Qhd) := (Classical.choice (inferInstance : Nonempty (PLift (Meets Tryz.prog 234 (strip Qhd))))).down
def Qqn [Fuel] (b : List Int) (x : ValT) : Bool := decide (b.length ≤ 500000000) && encLF fuel x
noncomputable def Qrx : TC := (.ad [(50000, 49000)] (.sq (.reg (rT Tryz.f221 0)) (.sq (.reg (rT Tryz.f221 1)) (.sq (.reg (rT Tryz.f221 2)) .rt))))
def Qzv : List (RV × Option Ty) := [((.t 4), none)]
def Qth : G := ⟨TYs, [], 19, EL [(234, Qhd), (235, Qxh)], (235 :: keeps), (fun _ _ => none), IL [], RL []⟩
def QxR (p0 : List Int) (p1 : ValT) : Option (V × List VO) :=
 let a1 := lenA (p0 ++ ([(icv .u8 p1.1)])) (llen (conV p1))
 br (encLF fuel p1) (br (cApp p0 ([(icv .u8 p1.1)]) 1) (br (QpO (p0 ++ ([(icv .u8 p1.1)])) (llen (conV p1))) (br (cApp a1 (conV p1) 1) (some (.ms 50001, [.no, .arr 5 (.int .u8) (a1 ++ (conV p1))])) none) none) none) none
theorem QWD (p0 : List Int) (p1 : ValT) : runF Qth Qrx Qzv true [.ms 50000, .t Qaj p1] [.arr 5 (.int .u8) p0] = QxR p0 p1 := by kernel_rfl
theorem QNZ : Qai Tryz.prog 221 := .inr ⟨by decide, _, Tryz.func221, by kernel_rfl, by kernel_rfl⟩
theorem QNK : GOk Tryz.prog Qth := Qal _ (gA (gC QNY QMx (gC QJ4 QIk gN)))
theorem QM5 : Qrx.lok Qth := by repeat (first | exact trivial | refine ⟨?_, ?_⟩)
theorem QRI (b : List Int) (x : ValT) (h : Qqn b x = true) : QxR b x = some (.ms 50001, [.no, .arr 5 (.int .u8) (eleV b x)]) := by
 simp only [Qqn, Bool.and_eq_true, decide_eq_true_eq] at h
 obtain ⟨h1, h2⟩ := h
 have h3 := h2
 simp only [encLF, Bool.and_eq_true, decide_eq_true_eq] at h3
 have hel := Qqc x
 have hcl := QBd x
 have hll := Qhu (conV x).length
 simp only [QxR, h2, Qac]
 rw [cAppN (by omega) (by simp only [List.length_singleton]; omega), Qac, show QpO (b ++ [icv .u8 x.1]) (llen (conV x)) = true from decide_eq_true (by simp only [llen, List.length_append, List.length_singleton]; omega), Qac, cAppN (by omega) (by simp only [lenA, llen, Int.toNat_natCast, List.length_append, List.length_singleton]; omega), Qac, QRr]
def Qzq : Ent := specS [.ms 50000, .ty Qaj] [.arr 5 (.int .u8)] (fun x y => (Qqn y.1 x.2.1)) (fun x y => (.ms 50001)) (fun x y => [.no, .arr 5 (.int .u8) (eleV y.1 x.2.1)])
theorem QMy : Meets Tryz.prog 221 (strip Qzq) := QaU (R := runF Qth Qrx Qzv true) (mG Tryz.func221 (by kernel_rfl) Tryz.ntmps221 (by kernel_rfl) QNK QM5) fun x y hok => (QWD y.1 x.2.1).trans (QRI y.1 x.2.1 hok)
def conIn [Fuel] (l : List ValT) : Bool := decide (l.length ≤ 100000 ∧ (encL l).length ≤ 100000000) && l.all (okT fuel)
def QgE : Fg := ⟨[(3, none), (12, some (.sl Qaj)), (13, some tI), (14, some tI)], [(3, none), (20, none), (5020, none), (10020, none), (15020, none)]⟩
noncomputable def Qit : TC := (.mv [(20, 3)] (.sq (.reg (rT Tryz.f234 5)) (.sq (.cd (.t 15) .sk (.fg ⟨[(3, none)], [(3, none), (20, none), (5020, none), (10020, none), (15020, none)]⟩ (.ex 0))) (.sq (.bk 1 (.sq (.reg (rT Tryz.f234 6)) (.reg (rT Tryz.f234 7)))) (.reg (rT Tryz.f234 8))))))
noncomputable def Qv9 : TC := (.sq (.reg (rT Tryz.f234 0)) (.sq (.sq (.reg (rT Tryz.f234 1)) (.cd (.t 8) (.sq (.reg (rT Tryz.f234 2)) .rt) .sk)) (.sq (.reg (rT Tryz.f234 3)) (.sq (.sq (.reg (rT Tryz.f234 4)) (.bk 0 (.nw 3 5 (.lp 0 QgE Qit)))) (.sq (.reg (rT Tryz.f234 9)) .rt)))))
def QFz : List (RV × Option Ty) := [((.t 2), some (.sl (.int .u8)))]
abbrev Qom : Sh := ⟨[(3, .ms 3), (12, .ty (.sl Qaj)), (13, .ty tI), (14, .ty tI)], [(3, .arr 5 (.int .u8)), (20, .no), (5020, .no), (10020, .no), (15020, .no)]⟩
def QnF (x12 : List ValT) (x13 x14 : Int) (y3 : List Int) : VS := Qom.st ((), x12, x13, x14, ()) (y3, (), (), (), (), ())
abbrev Qua : Sh := ⟨[(3, .ms 3)], [(3, .arr 5 (.int .u8)), (20, .no), (5020, .no), (10020, .no), (15020, .no)]⟩
def QdR (y3 : List Int) : VS := Qua.st ((), ()) (y3, (), (), (), (), ())
def QO3 : VS → Option (Bool × List (Bool × Exit × VS)) := mkL Qom (fun x y => (rngOk x.2.1 x.2.2.1 x.2.2.2.1 && conIn x.2.1 && decide (y.1.length + (encL (x.2.1.drop x.2.2.2.1.toNat)).length ≤ 200000000))) (fun x y => [(true, .exit 0, QdR (y.1 ++ encL (x.2.1.drop x.2.2.2.1.toNat)))])
def Qlp : G := ⟨TYs, [], 23, EL [(221, Qzq)], (221 :: keeps), (Ls [QO3]), IL [], RL []⟩
def QBm (x12 : List ValT) (x13 x14 : Int) (y3 : List Int) : Option (Exit × VS) :=
 let a1 := lgt Qaj x12 (Int.toNat x14)
 br (ilt x14 x13) (br (cIx x12 x14) (br (Qqn y3 a1) (some (.normal, QnF x12 x13 (iadd .i64 x14 1) (eleV y3 a1))) none) none) (some (.exit 0, QdR y3))
noncomputable def Qjf (x12 : List ValT) (x13 x14 : Int) (y3 : List Int) : Option (Exit × VS) := loopF (Qak Qlp QgE Qit) (QnF x12 x13 x14 y3)
noncomputable def QmB (x12 : List ValT) (x13 x14 : Int) (y3 : List Int) : Option (Exit × VS) :=
 let a1 := lgt Qaj x12 (Int.toNat x14)
 br (ilt x14 x13) (br (cIx x12 x14) (br (Qqn y3 a1) (Qjf x12 x13 (iadd .i64 x14 1) (eleV y3 a1)) none) none) (some (.exit 0, QdR y3))
def QjI (x12 : List ValT) (x13 x14 : Int) (y3 : List Int) : Option (Exit × VS) := some (.exit 0, QdR (y3 ++ encL (x12.drop x14.toNat)))
theorem QK0 (x12 : List ValT) (x13 x14 : Int) (y3 : List Int) : Qak Qlp QgE Qit (QnF x12 x13 x14 y3) = QBm x12 x13 x14 y3 := by kernel_rfl
theorem Qu8 (x12 : List ValT) (x13 x14 : Int) (y3 : List Int) : Qjf x12 x13 x14 y3 = QmB x12 x13 x14 y3 := (Qao _ _).trans (by
 rw [QK0]
 simp only [QBm, QmB, Qay, nxt_n, nxt_r, nxt_e, nxt_0]
 rfl)
def QGY (p0 : ValT) : Option (V × List VO) :=
 let a1 := List.map Val.un p0.2.2.2.1
 let a2 := (a1.drop (0 : Int).toNat)
 br (!p0.2.2.1) (some (.t (.sl (.int .u8)) p0.2.1, [])) (br (rngOk a1 (llen a1) (0 : Int) && conIn a1 && decide (([] : List Int).length + (encL a2).length ≤ 200000000)) (some (.t (.sl (.int .u8)) (([] : List Int) ++ encL a2), [])) none)
theorem e_f234 (p0 : ValT) : runF Qlp Qv9 QFz false [.t Qaj p0] [] = QGY p0 := by kernel_rfl
theorem QUE : GOk Tryz.prog Qlp := Qal _ (gA (gC QNZ QMy gN))
theorem QNc (x12 : List ValT) (x13 x14 : Int) (y3 : List Int) (h : (rngOk x12 x13 x14 && conIn x12 && decide (y3.length + (encL (x12.drop x14.toNat)).length ≤ 200000000)) = true) : Qjf x12 x13 x14 y3 = QjI x12 x13 x14 y3 := by
 simp only [Bool.and_eq_true, decide_eq_true_eq] at h
 obtain ⟨⟨h0, hc⟩, h2⟩ := h
 obtain ⟨rfl, h3, k, rfl, hk⟩ := rng_k h0
 clear h0
 rw [Int.toNat_natCast] at h2
 simp only [conIn, Bool.and_eq_true, List.all_eq_true, decide_eq_true_eq] at hc
 obtain ⟨⟨hc0, hc1⟩, hc2⟩ := hc
 revert y3
 refine Qat x12 (fun k => ∀ y3 : List Int, y3.length + (encL (x12.drop k)).length ≤ 200000000 → Qjf x12 (x12.length : Int) (k : Int) y3 = QjI x12 (x12.length : Int) (k : Int) y3) ?_ ?_ k hk
 ·intro y3 _
  rw [Qu8]
  simp only [QmB, Qar, Nat.lt_irrefl, decide_false, Qaf]
  simp only [QjI, Int.toNat_natCast, List.drop_length, QhH, List.append_nil]
 ·intro k hk ih y3 hy
  rw [Qu8]
  have hx := hc2 x12[k] (List.getElem_mem hk)
  have hs := Qk6 x12 k hk
  rw [List.drop_eq_getElem_cons hk, Qcp, List.length_append] at hy
  have hd : Qqn y3 x12[k] = true := by rw [Qqn, encLF, hx, decide_eq_true (show y3.length ≤ 500000000 by omega), decide_eq_true (show (encT x12[k]).length ≤ 100000000 by omega)]; rfl
  simp only [QmB, Qar, Qav, hk, decide_true, Qac, Int.toNat_natCast, add1 (show k < 4611686018427387904 by omega), QaA (y := Qaj) hk, hd, eleV]
  rw [ih _ (by rw [List.length_append]; omega)]
  simp only [QjI, Int.toNat_natCast, List.drop_eq_getElem_cons hk, Qcp, List.append_assoc]
theorem QIF : ∀ S l p, Qlp.L 0 (fgt QgE S) = some (true, l) → pickA l = some p → loopF (Qak Qlp QgE Qit) S = some p :=
 QaD (s := Qom) ⟨by decide, by decide⟩ (by kernel_rfl) fun x y hok p hp => by
 simp only [Qaq, Qan] at hp
 exact (QNc x.2.1 x.2.2.1 x.2.2.2.1 y.1 (by simpa using hok)).trans hp
theorem QS7 : Qv9.lok Qlp := by
 repeat (first | exact trivial | exact QIF | refine ⟨?_, ?_⟩)
theorem s_f234 (x : ValT) (h : encLF (fuel + 1) x = true) : QGY x = some (.t (.sl (.int .u8)) (conV x), []) := by
 simp only [encLF, Bool.and_eq_true, decide_eq_true_eq] at h
 obtain ⟨h, hf⟩ := h
 obtain ⟨h1, h2, h3, h4, h5, h6, h7⟩ := QcH h
 have hel := Qqc x
 have hE : encL (List.map Val.un x.2.2.2.1) = encVs x.2.2.2.1 := by rw [encL, QcP]
 have hu : conIn (List.map Val.un x.2.2.2.1) = true := by
  simp only [conIn, Bool.and_eq_true, decide_eq_true_eq, List.length_map, List.all_eq_true, List.mem_map, hE]
  refine ⟨⟨h6, by omega⟩, ?_⟩
  rintro y ⟨v, hv, rfl⟩
  rw [QuR]
  exact h7 v hv
 simp only [QGY, rng_0 (show (List.map Val.un x.2.2.2.1).length ≤ 100000 by rw [List.length_map]; exact h6), hu, Bool.and_self, Bool.true_and, Int.toNat_zero, List.drop_zero, hE, List.nil_append, List.length_nil]
 cases hq : x.2.2.1 with
 | true =>
  rw [Bool.not_true, Qaf, decide_eq_true (by omega), Qac]
  simp only [conV, h3 hq, List.nil_append]
 | false =>
  rw [Bool.not_false, Qac]
  simp only [conV, h4 hq, encVs, List.append_nil]
theorem QSW : Meets Tryz.prog 234 (runF Qlp Qv9 QFz false) := mG Tryz.func234 (by kernel_rfl) Tryz.ntmps234 (by kernel_rfl) QUE QS7
end
theorem Qgv : ∀ N : Nat, Meets Tryz.prog 234 (strip (@Qhd ⟨N⟩))
 | 0 => Qb8 fun x => by first | rfl | simp [encLF]
 | N + 1 => by
  letI : Fuel := ⟨N⟩
  haveI : Nonempty (PLift (Meets Tryz.prog 234 (strip Qhd))) := ⟨⟨Qgv N⟩⟩
  exact Qag QSW fun x hok => (e_f234 x.1).trans (s_f234 x.1 hok)
def QEk : Ent := spec (.pr Qaj .nil) (fun x => (encOk x.1)) (fun x => (.t (.sl (.int .u8)) (conV x.1)))
theorem QR0 : Meets Tryz.prog 234 (strip QEk) := Qb9 Qgv fun x hok => Qk4 x.1 hok
def eleN (x : ValT) : List Int := encT x
noncomputable def Qry : TC := (.sq (.reg (rT Tryz.f221 0)) (.sq (.reg (rT Tryz.f221 1)) (.sq (.reg (rT Tryz.f221 2)) .rt)))
def Qzw : List (RV × Option Ty) := [((.t 4), none)]
def Qti : G := ⟨TYs, [], 19, EL [(234, QEk), (235, Qxh)], (235 :: keeps), (fun _ _ => none), IL [], RL []⟩
def QxS (p1 : ValT) : Option (V × List VO) :=
 let a1 := (lenA (([] : List Int) ++ ([(icv .u8 p1.1)])) (llen (conV p1)))
 br (encOk p1) (br (cApp ([] : List Int) ([(icv .u8 p1.1)]) 1) (br (QpO (([] : List Int) ++ ([(icv .u8 p1.1)])) (llen (conV p1))) (br (cApp a1 (conV p1) 1) (some (.ms 50000, [.arr 5 (.int .u8) (a1 ++ (conV p1))])) none) none) none) none
theorem QWE (p1 : ValT) : runF Qti Qry Qzw true [.c (.slice none 0 0), .t Qaj p1] [] = QxS p1 := by kernel_rfl
theorem QN0 : Qai Tryz.prog 221 := .inr ⟨by decide, _, Tryz.func221, by kernel_rfl, by kernel_rfl⟩
theorem QNL : GOk Tryz.prog Qti := Qal _ (gA (gC QJ5 QR0 (gC QJ4 QIk gN)))
theorem QM6 : Qry.lok Qti := by repeat (first | exact trivial | refine ⟨?_, ?_⟩)
theorem QRJ (x : ValT) (h : encOk x = true) : QxS x = some (.ms 50000, [.arr 5 (.int .u8) (eleN x)]) := by
 have h3 := h
 simp only [encOk, Bool.and_eq_true, decide_eq_true_eq] at h3
 have hel := Qqc x
 have hcl := QBd x
 have hll := Qhu (conV x).length
 simp only [QxS, h, Qac]
 rw [cAppN (by omega) (by simp), Qac, show QpO ([] ++ [icv .u8 x.1]) (llen (conV x)) = true from decide_eq_true (by simp only [llen, List.length_append, List.length_singleton, List.length_nil]; omega), Qac, cAppN (by omega) (by simp only [lenA, llen, Int.toNat_natCast, List.length_append, List.length_singleton, List.length_nil]; omega), Qac, QRr]
 rfl
def Qzr : Ent := specB [.nl, .ty Qaj] [] (fun x y => (encOk x.2.1)) (fun x y => (.ms 50000)) (fun x y => [.arr 5 (.int .u8) (eleN x.2.1)])
theorem QMz : Meets Tryz.prog 221 (strip Qzr) := QcC (QaU (R := runF Qti Qry Qzw true) (mG Tryz.func221 (by kernel_rfl) Tryz.ntmps221 (by kernel_rfl) QNL QM6) fun x y hok => (QWE x.2.1).trans (QRJ x.2.1 hok))
noncomputable def Qws : TC := (.sq (.reg (rT Tryz.f201 0)) (.sq (.sq (.reg (rT Tryz.f201 1)) (.cd (.t 7) (.sq (.reg (rT Tryz.f201 2)) .rt) .sk)) (.sq (.sq (.reg (rT Tryz.f201 3)) (.cd (.t 10) (.sq (.reg (rT Tryz.f201 4)) .rt) .sk)) (.sq (.reg (rT Tryz.f201 5)) (.sq (.sq (.reg (rT Tryz.f201 6)) (.cd (.t 15) (.sq (.reg (rT Tryz.f201 7)) .rt) .sk)) (.sq (.reg (rT Tryz.f201 8)) .rt))))))
def QFS : List (RV × Option Ty) := [((.t 2), some (.sl (.int .u8))), ((.t 3), some tI)]
def QAp : G := ⟨TYs, [], 17, EL [(219, QEs), (220, QEr), (221, Qzr)], keeps, (fun _ _ => none), IL [], RL []⟩
def QHf (p0 : ValT) : Option (V × List VO) := br (frmOk p0) (br (!(frmV p0)) (some (.tu [(.t (.sl (.int .u8)) ([] : List Int)), (.t tI 1)], [])) (br (dpOk p0) (br (igt (dpV p0) 16) (some (.tu [(.t (.sl (.int .u8)) ([] : List Int)), (.t tI 3)], [])) (br (encOk p0) (br (igt (llen (eleN p0)) 4096) (some (.tu [(.t (.sl (.int .u8)) ([] : List Int)), (.t tI 3)], [])) (some (.tu [(.t (.sl (.int .u8)) (eleN p0)), (.t tI 0)], []))) none)) none)) none
theorem e_f201 (p0 : ValT) : runF QAp Qws QFS false [.t Qaj p0] [] = QHf p0 := by kernel_rfl
theorem QV2 : Qai Tryz.prog 201 := .inr ⟨by decide, _, Tryz.func201, by kernel_rfl, by kernel_rfl⟩
theorem QUX : GOk Tryz.prog QAp := Qal _ (gA (gC QJ8 QR8 (gC QJ7 QR7 (gC QN0 QMz gN))))
theorem QTq : Qws.lok QAp := by repeat (first | exact trivial | refine ⟨?_, ?_⟩)
theorem s_f201 (x : ValT) (h : encOk x = true) : QHf x = some (.tu [.t (.sl (.int .u8)) (encE x).1, .t tI (encE x).2], []) := by
 have h' := h
 simp only [encOk, Bool.and_eq_true, decide_eq_true_eq] at h'
 obtain ⟨h1, h2⟩ := h'
 simp only [QHf, show frmOk x = true from h1, show dpOk x = true from h1, h, QA3 h1, frmV, eleN, Bool.not_true, Qac, Qaf]
 unfold encE
 refine QaB (fun g => ?_) (fun g => ?_)
 ·simp only [igt, llen, decide_eq_true_eq] at g
  rw [if_pos (by omega)]
 ·simp only [igt, llen, decide_eq_false_iff_not] at g
  rw [if_neg (by omega)]
def QEB : Ent := spec (.pr Qaj .nil) (fun x => (encOk x.1)) (fun x => (.tu [(.t (.sl (.int .u8)) ((encE x.1).1)), (.t tI ((encE x.1).2))]))
theorem QSh : Meets Tryz.prog 201 (strip QEB) := Qag (R := runF QAp Qws QFS false) (mG Tryz.func201 (by kernel_rfl) Tryz.ntmps201 (by kernel_rfl) QUX QTq) fun x hok => (e_f201 x.1).trans (s_f201 x.1 hok)
def lstT (l : List ValT) : ValT := (48, (([] : List Int), (true, (List.map Val.of l, ()))))
noncomputable def Qwg : TC := (.sq (.reg (rT Tryz.f223 0)) (.sq (.reg (rT Tryz.f223 1)) .rt))
def QFG : List (RV × Option Ty) := [((.c 2 true 4), some Qaj)]
def QAi : G := ⟨TYs, [], 6, EL [(236, QEj)], keeps, (fun _ _ => none), IL [], RL []⟩
def QG4 (p0 : List ValT) : Option (V × List VO) := br (copOk p0) (some (.t Qaj (48, (([] : List Int), (true, ((List.map Val.of (copV p0)), ())))), [])) none
theorem e_f223 (p0 : List ValT) : runF QAi Qwg QFG false [.t (.sl Qaj) p0] [] = QG4 p0 := by kernel_rfl
theorem QyS : Qai Tryz.prog 223 := .inr ⟨by decide, _, Tryz.func223, by kernel_rfl, by kernel_rfl⟩
theorem QUL : GOk Tryz.prog QAi := Qal _ (gA (gC QJ3 QRZ gN))
theorem QTe : Qwg.lok QAi := by repeat (first | exact trivial | refine ⟨?_, ?_⟩)
theorem s_f223 (l : List ValT) (h : copOk l = true) : QG4 l = some (.t Qaj (lstT l), []) := by
 simp only [QG4, h, Qac]
 rfl
def QrL : Ent := spec (.pr (.sl Qaj) .nil) (fun x => (copOk x.1)) (fun x => (.t Qaj (lstT x.1)))
theorem Qx2 : Meets Tryz.prog 223 (strip QrL) := Qag (R := runF QAi Qwg QFG false) (mG Tryz.func223 (by kernel_rfl) Tryz.ntmps223 (by kernel_rfl) QUL QTe) fun x hok => (e_f223 x.1).trans (s_f223 x.1 hok)
noncomputable def Qwc : TC := (.sq (.reg (rT Tryz.f227 0)) (.sq (.reg (rT Tryz.f227 1)) .rt))
def QFC : List (RV × Option Ty) := [((.c 2 true 4), some Qaj)]
def QAf : G := ⟨TYs, [], 5, EL [(223, QrL)], keeps, (fun _ _ => none), IL [], RL []⟩
def QG1 (p0 : List ValT) : Option (V × List VO) := br (copOk p0) (some (.t Qaj (lstT p0), [])) none
theorem e_f227 (p0 : List ValT) : runF QAf Qwc QFC false [.t (.sl Qaj) p0] [] = QG1 p0 := by kernel_rfl
theorem QVR : Qai Tryz.prog 227 := .inr ⟨by decide, _, Tryz.func227, by kernel_rfl, by kernel_rfl⟩
theorem QUH : GOk Tryz.prog QAf := Qal _ (gA (gC QyS Qx2 gN))
theorem QTa : Qwc.lok QAf := by repeat (first | exact trivial | refine ⟨?_, ?_⟩)
theorem s_f227 (l : List ValT) (h : copOk l = true) : QG1 l = some (.t Qaj (lstT l), []) := by
 simp only [QG1, h, Qac]
def QEn : Ent := spec (.pr (.sl Qaj) .nil) (fun x => (copOk x.1)) (fun x => (.t Qaj (lstT x.1)))
theorem QR3 : Meets Tryz.prog 227 (strip QEn) := Qag (R := runF QAf Qwc QFC false) (mG Tryz.func227 (by kernel_rfl) Tryz.ntmps227 (by kernel_rfl) QUH QTa) fun x hok => (e_f227 x.1).trans (s_f227 x.1 hok)
noncomputable def Qww : TC := (.sq (.reg (rT Tryz.f186 0)) (.sq (.reg (rT Tryz.f186 1)) .rt))
def QFW : List (RV × Option Ty) := [((.c 2 true 4), some Qaj)]
def QAs : G := ⟨TYs, [], 6, EL [(212, QEt)], keeps, (fun _ _ => none), IL [], RL []⟩
def QHi (p0 : List ValT) : Option (V × List VO) := br (copOk p0) (some (.t Qaj (48, (([] : List Int), (true, ((List.map Val.of (copV p0)), ())))), [])) none
theorem e_f186 (p0 : List ValT) : runF QAs Qww QFW false [.t (.sl Qaj) p0] [] = QHi p0 := by kernel_rfl
theorem QKb : Qai Tryz.prog 186 := .inr ⟨by decide, _, Tryz.func186, by kernel_rfl, by kernel_rfl⟩
theorem QU1 : GOk Tryz.prog QAs := Qal _ (gA (gC QJ9 QR9 gN))
theorem QTu : Qww.lok QAs := by repeat (first | exact trivial | refine ⟨?_, ?_⟩)
theorem s_f186 (l : List ValT) (h : copOk l = true) : QHi l = some (.t Qaj (lstT l), []) := by
 simp only [QHi, h, Qac]
 rfl
def Qxk : Ent := spec (.pr (.sl Qaj) .nil) (fun x => (copOk x.1)) (fun x => (.t Qaj (lstT x.1)))
theorem QIn : Meets Tryz.prog 186 (strip Qxk) := Qag (R := runF QAs Qww QFW false) (mG Tryz.func186 (by kernel_rfl) Tryz.ntmps186 (by kernel_rfl) QU1 QTu) fun x hok => (e_f186 x.1).trans (s_f186 x.1 hok)
end
end Go.Proofs.YtckcgijklnloiaaGreat.K
