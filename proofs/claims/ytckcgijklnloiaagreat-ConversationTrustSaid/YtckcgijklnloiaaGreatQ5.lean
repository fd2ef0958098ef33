import Derived.Test.YtckcgijklnloiaaGreatQ4
set_option linter.unusedSimpArgs false
set_option linter.unusedVariables false
namespace Go.Proofs.YtckcgijklnloiaaGreat.K
open Go.RowKit
noncomputable section
def intT (n : Int) : ValT := (2, (intL n, (false, (([] : List Val), ()))))
def i64Ok (n : Int) : Bool := decide (-9223372036854775808 ≤ n ∧ n < 9223372036854775808)
def QgP : Fg := ⟨[(0, some tI), (2, none), (3, none), (4, some tI)], [(2, some Qak), (3, none), (16, none)]⟩
noncomputable def QiC : TC := (.sq (.sq (.reg (rT Tryz.f224 3)) (.cd (.t 6) .sk (.fg ⟨[(2, none), (3, none)], [(2, some Qak), (3, none), (16, none)]⟩ (.ex 0)))) (.sq (.bk 1 (.reg (rT Tryz.f224 4))) (.reg (rT Tryz.f224 5))))
def QgO : Fg := ⟨[(2, none), (3, some (.sl (.int .u8)))], [(2, some Qak), (3, none), (16, none)]⟩
noncomputable def QiB : TC := (.sq (.sq (.reg (rT Tryz.f224 6)) (.cd (.t 43) .sk (.fg ⟨[(2, none), (3, none)], [(2, some Qak), (3, none), (16, none)]⟩ (.ex 2)))) (.bk 3 (.reg (rT Tryz.f224 7))))
noncomputable def QwT : TC := (.sq (.reg (rT Tryz.f224 0)) (.sq (.reg (rT Tryz.f224 1)) (.sq (.sq (.reg (rT Tryz.f224 2)) (.bk 0 (.nw 3 5 (.lp 0 QgP QiC)))) (.sq (.bk 2 (.fz [3] (.lp 1 QgO QiB))) (.sq (.reg (rT Tryz.f224 8)) .rt)))))
def QGB : List (RV × Option Ty) := [((.c 2 true 4), some Qak)]
abbrev QoS : Sh := ⟨[(0, .ty tI), (2, .ptr 2 0), (3, .ms 3), (4, .ty tI)], [(2, .box Qak), (3, .arr 5 (.int .u8)), (16, .no)]⟩
def Qoc (x0 x4 : Int) (y2 : ValT) (y3 : List Int) : VS := QoS.st (x0, (), (), x4, ()) (y2, y3, (), ())
abbrev QuR : Sh := ⟨[(2, .ptr 2 0), (3, .ms 3)], [(2, .box Qak), (3, .arr 5 (.int .u8)), (16, .no)]⟩
def QdQ (y2 : ValT) (y3 : List Int) : VS := QuR.st ((), (), ()) (y2, y3, (), ())
abbrev QoR : Sh := ⟨[(2, .ptr 2 0), (3, .ty (.sl (.int .u8)))], [(2, .box Qak), (3, .no), (16, .no)]⟩
def Qob (x3 : List Int) (y2 : ValT) : VS := QoR.st ((), x3, ()) (y2, (), (), ())
abbrev QuQ : Sh := ⟨[(2, .ptr 2 0), (3, .ty (.sl (.int .u8)))], [(2, .box Qak), (3, .no), (16, .no)]⟩
def Qbn (x3 : List Int) (y2 : ValT) : VS := QuQ.st ((), x3, ()) (y2, (), (), ())
def QQq : VS → Option (Bool × List (Bool × Exit × VS)) := mkL QoS (fun x y => (i64Ok x.1 && decide (y.2.1.length ≤ 100 ∧ -8 ≤ x.2.2.2.1 ∧ x.2.2.2.1 ≤ 56 ∧ x.2.2.2.1 % 8 = 0))) (fun x y => [(true, .exit 0, QdQ (y.1) (y.2.1 ++ bytsN x.1 ((x.2.2.2.1 + 8) / 8).toNat))])
def QQp : VS → Option (Bool × List (Bool × Exit × VS)) := mkL QoR (fun x y => (decide (x.2.1.length ≤ 1000))) (fun x y => [(true, .exit 2, Qbn (trimB x.2.1) (y.1))])
def QfZ : G := ⟨TYs, [], 48, EL [], keeps, (Ls [QQq, QQp]), IL [], RL []⟩
def QCh (x0 x4 : Int) (y2 : ValT) (y3 : List Int) : Option (Exit × VS) :=
 let a1 := icv .u8 (ishr .u64 (icv .u64 x0) x4)
 br (ige x4 0) (br (decide ((0 : Int) ≤ x4)) (br (cApp y3 ([a1]) 1) (some (.normal, Qoc x0 (isub .i64 x4 8) y2 (y3 ++ ([a1])))) none) none) (some (.exit 0, QdQ y2 y3))
noncomputable def Qp3 (x0 x4 : Int) (y2 : ValT) (y3 : List Int) : Option (Exit × VS) := loopF (Qaj QfZ QgP QiC) (Qoc x0 x4 y2 y3)
noncomputable def QmV (x0 x4 : Int) (y2 : ValT) (y3 : List Int) : Option (Exit × VS) :=
 let a1 := icv .u8 (ishr .u64 (icv .u64 x0) x4)
 br (ige x4 0) (br (decide ((0 : Int) ≤ x4)) (br (cApp y3 ([a1]) 1) (Qp3 x0 (isub .i64 x4 8) y2 (y3 ++ ([a1]))) none) none) (some (.exit 0, QdQ y2 y3))
def Qqh (x0 x4 : Int) (y2 : ValT) (y3 : List Int) : Option (Exit × VS) := some (.exit 0, QdQ (y2) (y3 ++ bytsN x0 ((x4 + 8) / 8).toNat))
theorem QL4 (x0 x4 : Int) (y2 : ValT) (y3 : List Int) : Qaj QfZ QgP QiC (Qoc x0 x4 y2 y3) = QCh x0 x4 y2 y3 := by kernel_rfl
theorem QvP (x0 x4 : Int) (y2 : ValT) (y3 : List Int) : Qp3 x0 x4 y2 y3 = QmV x0 x4 y2 y3 := (Qao _ _).trans (by
 rw [QL4]
 simp only [QCh, QmV, QaA, nxt_n, nxt_r, nxt_e, nxt_0]
 rfl)
def Qlr (x3 : List Int) (y2 : ValT) : Option (Exit × VS) :=
 let a1 := (List.length x3 : Nat)
 br (cSl x3 1 (a1 : Int) (a1 : Int)) (some (.normal, Qob (lsl x3 1 (a1 : Int)) y2)) none
def Qlq (x3 : List Int) (y2 : ValT) : Option (Exit × VS) := br (cIx x3 0) (br (ieq (lgt (.int .u8) x3 (Int.toNat 0)) 255) (br (cIx x3 1) (br (ige (lgt (.int .u8) x3 (Int.toNat 1)) 128) (Qlr x3 y2) (some (.exit 2, Qbn x3 y2))) none) (some (.exit 2, Qbn x3 y2))) none
def QCg (x3 : List Int) (y2 : ValT) : Option (Exit × VS) := br (igt (llen x3) 1) (br (cIx x3 0) (br (ieq (lgt (.int .u8) x3 (Int.toNat 0)) 0) (br (cIx x3 1) (br (ilt (lgt (.int .u8) x3 (Int.toNat 1)) 128) (Qlr x3 y2) (Qlq x3 y2)) none) (Qlq x3 y2)) none) (some (.exit 2, Qbn x3 y2))
noncomputable def Qp2 (x3 : List Int) (y2 : ValT) : Option (Exit × VS) := loopF (Qaj QfZ QgO QiB) (Qob x3 y2)
noncomputable def Qdk (x3 : List Int) (y2 : ValT) : Option (Exit × VS) :=
 let a1 := (List.length x3 : Nat)
 br (cSl x3 1 (a1 : Int) (a1 : Int)) (Qp2 (lsl x3 1 (a1 : Int)) y2) none
noncomputable def Qdj (x3 : List Int) (y2 : ValT) : Option (Exit × VS) := br (cIx x3 0) (br (ieq (lgt (.int .u8) x3 (Int.toNat 0)) 255) (br (cIx x3 1) (br (ige (lgt (.int .u8) x3 (Int.toNat 1)) 128) (Qdk x3 y2) (some (.exit 2, Qbn x3 y2))) none) (some (.exit 2, Qbn x3 y2))) none
noncomputable def Qjf (x3 : List Int) (y2 : ValT) : Option (Exit × VS) := br (igt (llen x3) 1) (br (cIx x3 0) (br (ieq (lgt (.int .u8) x3 (Int.toNat 0)) 0) (br (cIx x3 1) (br (ilt (lgt (.int .u8) x3 (Int.toNat 1)) 128) (Qdk x3 y2) (Qdj x3 y2)) none) (Qdj x3 y2)) none) (some (.exit 2, Qbn x3 y2))
def QjS (x3 : List Int) (y2 : ValT) : Option (Exit × VS) := some (.exit 2, Qbn (trimB x3) (y2))
theorem QL3 (x3 : List Int) (y2 : ValT) : Qaj QfZ QgO QiB (Qob x3 y2) = QCg x3 y2 := by kernel_rfl
theorem Qp8 (x3 : List Int) (y2 : ValT) : Qp2 x3 y2 = Qjf x3 y2 := (Qao _ _).trans (by
 rw [QL3]
 simp only [QCg, Qlr, Qlq, Qjf, Qdk, Qdj, QaA, nxt_n, nxt_r, nxt_e, nxt_0]
 rfl)
def QHX (p0 : Int) : Option (V × List VO) := br (i64Ok p0 && decide (([] : List Int).length ≤ 100 ∧ -8 ≤ (56 : Int) ∧ (56 : Int) ≤ 56 ∧ (56 : Int) % 8 = 0)) (br (decide ((([] : List Int) ++ bytsN p0 (((56 : Int) + 8) / 8).toNat).length ≤ 1000)) (some (.t Qak (2, ((trimB (([] : List Int) ++ bytsN p0 (((56 : Int) + 8) / 8).toNat)), (false, (([] : List Val), ())))), [])) none) none
theorem e_f224 (p0 : Int) : runF QfZ QwT QGB false [.t tI p0] [] = QHX p0 := by kernel_rfl
theorem QK3 : Qai Tryz.prog 224 := .inr ⟨by decide, _, Tryz.func224, by kernel_rfl, by kernel_rfl⟩
theorem QWd : GOk Tryz.prog QfZ := Qal _ (fun p hp => by cases hp)
theorem QOm (x0 x4 : Int) (y2 : ValT) (y3 : List Int) (h : (i64Ok x0 && decide (y3.length ≤ 100 ∧ -8 ≤ x4 ∧ x4 ≤ 56 ∧ x4 % 8 = 0)) = true) : Qp3 x0 x4 y2 y3 = Qqh x0 x4 y2 y3 := by
 simp only [Bool.and_eq_true, decide_eq_true_eq] at h
 obtain ⟨h0, h1, h2, h3, h4⟩ := h
 obtain ⟨k, hk⟩ : ∃ k : Nat, x4 = 8 * (k : Int) - 8 := ⟨((x4 + 8) / 8).toNat, by omega⟩
 subst hk
 have hk8 : k ≤ 8 := by omega
 have h9 : y3.length + k ≤ 200 := by omega
 clear h1 h2 h3 h4
 induction k generalizing y3 with
 | zero =>
  rw [QvP]
  simp [QmV, Qqh, ige, Qaf, bytsN]
 | succ k ih =>
  rw [QvP]
  have e0 : (8 * ((k + 1 : Nat) : Int) - 8) = ((8 * k : Nat) : Int) := by omega
  rw [e0]
  simp only [QmV, show ige ((8 * k : Nat) : Int) 0 = true from decide_eq_true (by omega), Qad, show decide ((0 : Int) ≤ ((8 * k : Nat) : Int)) = true from decide_eq_true (by omega), QYd x0 k (by omega)]
  have e1 : isub .i64 ((8 * k : Nat) : Int) 8 = 8 * (k : Int) - 8 := by rw [Qco (by omega)]; omega
  rw [cAppN (by omega) (by simp only [List.length_singleton]; omega), Qad, e1, ih (y3 ++ [byt x0 k]) (by omega) (by simp only [List.length_append, List.length_singleton]; omega)]
  simp only [Qqh, show ((8 * (k : Int) - 8 + 8) / 8).toNat = k by omega, show ((((8 * k : Nat) : Int) + 8) / 8).toNat = k + 1 by omega, bytsN, List.append_assoc, List.singleton_append]
theorem QOl (x3 : List Int) (y2 : ValT) (h : (decide (x3.length ≤ 1000)) = true) : Qp2 x3 y2 = QjS x3 y2 := by
 simp only [decide_eq_true_eq] at h
 induction x3 with
 | nil =>
  rw [Qp8]
  simp [Qjf, Qdk, Qdj, QjS, igt, llen, Qaf, trimB]
 | cons x l ih =>
  cases l with
  | nil =>
   rw [Qp8]
   simp [Qjf, Qdk, Qdj, QjS, igt, llen, Qaf, trimB, trimL]
  | cons y r =>
   rw [Qp8]
   simp only [List.length_cons] at h
   have e1 : igt (llen (x :: y :: r)) 1 = true := by simp only [igt, llen, List.length_cons, decide_eq_true_eq]; omega
   have e2 : cIx (x :: y :: r) 0 = true := by simp only [cIx, List.length_cons, decide_eq_true_eq]; omega
   have e3 : cIx (x :: y :: r) 1 = true := by simp only [cIx, List.length_cons, decide_eq_true_eq]; omega
   have e4 : lgt (.int .u8) (x :: y :: r) (Int.toNat 0) = x := rfl
   have e5 : lgt (.int .u8) (x :: y :: r) (Int.toNat 1) = y := rfl
   have e6 : cSl (x :: y :: r) 1 ((List.length (x :: y :: r) : Nat) : Int) ((List.length (x :: y :: r) : Nat) : Int) = true := by simp only [cSl, List.length_cons, decide_eq_true_eq]; omega
   have e7 : lsl (x :: y :: r) 1 ((List.length (x :: y :: r) : Nat) : Int) = y :: r := by
    show List.take _ (y :: r) = _
    exact List.take_of_length_le (by simp only [List.length_cons]; omega)
   have ih' := ih (by simp only [List.length_cons]; omega)
   have hb : trimB (x :: y :: r) = bif trimC x y then trimB (y :: r) else x :: y :: r := rfl
   simp only [Qjf, Qdk, Qdj, e1, e2, e3, e4, e5, e6, e7, ih', Qad]
   simp only [QjS, hb, trimC, ieq, ilt, ige]
   cases x == 0 <;> cases decide (y < 128) <;> cases x == 255 <;> cases decide (y ≥ 128) <;> rfl
theorem QJD : ∀ S l p, QfZ.L 0 (fgt QgP S) = some (true, l) → pickA l = some p → loopF (Qaj QfZ QgP QiC) S = some p :=
 QaB (s := QoS) ⟨by decide, by decide⟩ (by kernel_rfl) fun x y hok p hp => by
 simp only [Qas, Qan] at hp
 exact (QOm x.1 x.2.2.2.1 y.1 y.2.1 (by simpa using hok)).trans hp
theorem QJC : ∀ S l p, QfZ.L 1 (fgt QgO S) = some (true, l) → pickA l = some p → loopF (Qaj QfZ QgO QiB) S = some p :=
 QaB (s := QoR) ⟨by decide, by decide⟩ (by kernel_rfl) fun x y hok p hp => by
 simp only [Qas, Qan] at hp
 exact (QOl x.2.1 y.1 (by simpa using hok)).trans hp
theorem QUB : QwT.lok QfZ := by
 repeat (first | exact trivial | exact QJD | exact QJC | refine ⟨?_, ?_⟩)
theorem s_f224 (n : Int) (h : i64Ok n = true) : QHX n = some (.t Qak (intT n), []) := by
 have h1 := h
 simp only [i64Ok, decide_eq_true_eq] at h1
 simp only [QHX, h, Bool.true_and, show ((56 + 8 : Int) / 8).toNat = 8 from rfl, List.nil_append, List.length_nil]
 rw [show (decide ((0 : Nat) ≤ 100 ∧ (-8 : Int) ≤ 56 ∧ (56 : Int) ≤ 56 ∧ (56 : Int) % 8 = 0)) = true from rfl, Qad, decide_eq_true (by rw [QqT]; omega), Qad, QKq h1]
 rfl
def QxX : Ent := spec (.pr tI .nil) (fun x => (i64Ok x.1)) (fun x => (.t Qak (intT x.1)))
theorem QJg : Meets Tryz.prog 224 (strip QxX) := Qag (R := runF QfZ QwT QGB false) (mG Tryz.func224 (by kernel_rfl) Tryz.ntmps224 (by kernel_rfl) QWd QUB) fun x hok => (e_f224 x.1).trans (s_f224 x.1 hok)
def QgV : Fg := ⟨[(2, none), (3, none), (4, some tI)], [(2, some Qak), (3, none), (7, none), (40, none), (42, none)]⟩
noncomputable def QiI : TC := (.mv [(40, 7)] (.sq (.sq (.reg (rT Tryz.f187 3)) (.cd (.t 35) .sk (.fg ⟨[(2, none), (3, none)], [(2, some Qak), (3, none), (7, none), (40, none), (42, none)]⟩ (.ex 0)))) (.sq (.bk 1 (.reg (rT Tryz.f187 4))) (.reg (rT Tryz.f187 5)))))
noncomputable def Qw9 : TC := (.sq (.reg (rT Tryz.f187 0)) (.sq (.reg (rT Tryz.f187 1)) (.sq (.sq (.reg (rT Tryz.f187 2)) (.bk 0 (.nw 3 5 (.lp 0 QgV QiI)))) (.sq (.reg (rT Tryz.f187 6)) .rt))))
def QGR : List (RV × Option Ty) := [((.c 2 true 4), some Qak)]
abbrev QoZ : Sh := ⟨[(2, .ptr 2 0), (3, .ms 7), (4, .ty tI)], [(2, .box Qak), (3, .no), (7, .arr 5 (.int .u8)), (40, .no), (42, .no)]⟩
def Qoi (x4 : Int) (y2 : ValT) (y7 : List Int) : VS := QoZ.st ((), (), x4, ()) (y2, (), y7, (), (), ())
abbrev QuX : Sh := ⟨[(2, .ptr 2 0), (3, .ms 7)], [(2, .box Qak), (3, .no), (7, .arr 5 (.int .u8)), (40, .no), (42, .no)]⟩
def Qbo (y2 : ValT) (y7 : List Int) : VS := QuX.st ((), (), ()) (y2, (), y7, (), (), ())
def QQw : VS → Option (Bool × List (Bool × Exit × VS)) := mkL QoZ (fun x y => (decide (-9223372036854775808 ≤ x.2.2.1 ∧ x.2.2.1 < 9223372036854775808 ∧ 1 ≤ y.2.2.1.length ∧ y.2.2.1.length ≤ 100))) (fun x y => [(true, .exit 0, Qbo (y.1) (growB 10 x.2.2.1 y.2.2.1))])
def QlM : G := ⟨TYs, [7, 40], 45, EL [], keeps, (Ls [QQw]), IL [], RL []⟩
def QhT (x4 : Int) (y2 : ValT) (y7 : List Int) : Option (Exit × VS) := br (cApp ([(icv .u8 x4)]) y7 1) (br (decide ((0 : Int) ≤ 8)) (some (.normal, Qoi (ishr .i64 x4 8) y2 (([(icv .u8 x4)]) ++ y7))) none) none
def Qls (x4 : Int) (y2 : ValT) (y7 : List Int) : Option (Exit × VS) := br (ieq x4 (-1)) (br (cIx y7 0) (br (cLd y7 (Int.toNat 0)) (br (ilt (lgt (.int .u8) y7 (Int.toNat 0)) 128) (QhT x4 y2 y7) (some (.exit 0, Qbo y2 y7))) none) none) (some (.exit 0, Qbo y2 y7))
def Qlt (x4 : Int) (y2 : ValT) (y7 : List Int) : Option (Exit × VS) := br (ieq x4 0) (br (cIx y7 0) (br (cLd y7 (Int.toNat 0)) (br (ige (lgt (.int .u8) y7 (Int.toNat 0)) 128) (QhT x4 y2 y7) (Qls x4 y2 y7)) none) none) (Qls x4 y2 y7)
def QCn (x4 : Int) (y2 : ValT) (y7 : List Int) : Option (Exit × VS) := br (ine x4 0) (br (ine x4 (-1)) (QhT x4 y2 y7) (Qlt x4 y2 y7)) (Qlt x4 y2 y7)
noncomputable def QeR (x4 : Int) (y2 : ValT) (y7 : List Int) : Option (Exit × VS) := loopF (Qaj QlM QgV QiI) (Qoi x4 y2 y7)
noncomputable def QeO (x4 : Int) (y2 : ValT) (y7 : List Int) : Option (Exit × VS) := br (cApp ([(icv .u8 x4)]) y7 1) (br (decide ((0 : Int) ≤ 8)) (QeR (ishr .i64 x4 8) y2 (([(icv .u8 x4)]) ++ y7)) none) none
noncomputable def Qhx (x4 : Int) (y2 : ValT) (y7 : List Int) : Option (Exit × VS) := br (ieq x4 (-1)) (br (cIx y7 0) (br (cLd y7 (Int.toNat 0)) (br (ilt (lgt (.int .u8) y7 (Int.toNat 0)) 128) (QeO x4 y2 y7) (some (.exit 0, Qbo y2 y7))) none) none) (some (.exit 0, Qbo y2 y7))
noncomputable def Qhy (x4 : Int) (y2 : ValT) (y7 : List Int) : Option (Exit × VS) := br (ieq x4 0) (br (cIx y7 0) (br (cLd y7 (Int.toNat 0)) (br (ige (lgt (.int .u8) y7 (Int.toNat 0)) 128) (QeO x4 y2 y7) (Qhx x4 y2 y7)) none) none) (Qhx x4 y2 y7)
noncomputable def QtD (x4 : Int) (y2 : ValT) (y7 : List Int) : Option (Exit × VS) := br (ine x4 0) (br (ine x4 (-1)) (QeO x4 y2 y7) (Qhy x4 y2 y7)) (Qhy x4 y2 y7)
def Qqi (x4 : Int) (y2 : ValT) (y7 : List Int) : Option (Exit × VS) := some (.exit 0, Qbo (y2) (growB 10 x4 y7))
theorem QMa (x4 : Int) (y2 : ValT) (y7 : List Int) : Qaj QlM QgV QiI (Qoi x4 y2 y7) = QCn x4 y2 y7 := by kernel_rfl
theorem QJ4 (x4 : Int) (y2 : ValT) (y7 : List Int) : QeR x4 y2 y7 = QtD x4 y2 y7 := (Qao _ _).trans (by
 rw [QMa]
 simp only [QCn, QhT, Qlt, Qls, QtD, QeO, Qhy, Qhx, QaA, nxt_n, nxt_r, nxt_e, nxt_0]
 rfl)
def QIb (p0 : Int) : Option (V × List VO) :=
 let a1 := ishr .i64 p0 8
 br (decide ((0 : Int) ≤ 8)) (br (decide (-9223372036854775808 ≤ a1 ∧ a1 < 9223372036854775808 ∧ 1 ≤ ([(icv .u8 p0)]).length ∧ ([(icv .u8 p0)]).length ≤ 100)) (some (.t Qak (2, ((growB 10 a1 ([(icv .u8 p0)])), (false, (([] : List Val), ())))), [])) none) none
theorem e_f187 (p0 : Int) : runF QlM Qw9 QGR false [.t tI p0] [] = QIb p0 := by kernel_rfl
theorem QK7 : Qai Tryz.prog 187 := .inr ⟨by decide, _, Tryz.func187, by kernel_rfl, by kernel_rfl⟩
theorem QWt : GOk Tryz.prog QlM := Qal _ (fun p hp => by cases hp)
theorem ishr8z (n : Int) : ishr .i64 n 8 = n / 256 := by
 have := QnG (kd := .i64) rfl n 1 (by omega)
 rw [show ((8 * 1 : Nat) : Int) = 8 from rfl] at this
 rw [this]
 rfl
theorem Qqo : ∀ (k : Nat) (x : Int) (b : List Int), -(256 ^ k : Int) ≤ x → x < 256 ^ k → ∀ f, growB (k + 2 + f) x b = growB (k + 2) x b
 | 0, x, b, h1, h2, f => by
  simp only [Int.pow_zero] at h1 h2
  have hx : x = -1 ∨ x = 0 := by omega
  have g : ∀ f, growB (f + 2) x b = bif growC x (b.headD 0) then (x % 256 :: b) else b := by
   intro f
   rw [show f + 2 = (f + 1) + 1 from rfl, growB, growB]
   rcases hx with rfl | rfl
   ·rw [show ((-1 : Int) % 256 :: b).headD 0 = 255 from rfl, show growC (-1 / 256) 255 = false from rfl]; rfl
   ·rw [show ((0 : Int) % 256 :: b).headD 0 = 0 from rfl, show growC (0 / 256) 0 = false from rfl]; rfl
  rw [show 0 + 2 + f = f + 2 by omega, g f]
  exact (g 0).symm
 | k + 1, x, b, h1, h2, f => by
  rw [show k + 1 + 2 + f = (k + 2 + f) + 1 by omega, growB, show k + 1 + 2 = (k + 2) + 1 from rfl, growB]
  have e : (256 : Int) ^ (k + 1) = 256 ^ k * 256 := by rw [Int.pow_succ]
  rw [e] at h1 h2
  rw [Qqo k (x / 256) (x % 256 :: b) (by omega) (by omega) f]
theorem Qzm (x : Int) (b : List Int) (h : -9223372036854775808 ≤ x ∧ x < 9223372036854775808) : growB 10 x b = bif growC x (b.headD 0) then growB 10 (x / 256) (x % 256 :: b) else b := by
 have := Qqo 8 x b (by omega) (by omega) 1
 rw [← this]
 rfl
theorem QOs (x4 : Int) (y2 : ValT) (y7 : List Int) (h : (decide (-9223372036854775808 ≤ x4 ∧ x4 < 9223372036854775808 ∧ 1 ≤ y7.length ∧ y7.length ≤ 100)) = true) : QeR x4 y2 y7 = Qqi x4 y2 y7 := by
 simp only [decide_eq_true_eq] at h
 obtain ⟨h1, h2, h3, h4⟩ := h
 have step : ∀ (x c : Int) (r : List Int), r.length ≤ 300 → QeR x y2 (c :: r) = bif growC x c then QeR (x / 256) y2 (x % 256 :: c :: r) else some (.exit 0, Qbo y2 (c :: r)) := by
  intro x c r hr
  rw [QJ4]
  have e1 : cIx (c :: r) 0 = true := by simp only [cIx, List.length_cons, decide_eq_true_eq]; omega
  have e2 : cLd (c :: r) (Int.toNat 0) = true := by simp only [cLd, List.length_cons, decide_eq_true_eq, Int.toNat_zero]; omega
  have e3 : lgt (.int .u8) (c :: r) (Int.toNat 0) = c := rfl
  have e4 : cApp [x % 256] (c :: r) 1 = true := cAppN (by omega) (by simp only [List.length_cons, List.length_nil]; omega)
  simp only [QtD, QeO, Qhy, Qhx, e1, e2, e3, e4, Qad, show decide ((0 : Int) ≤ 8) = true from rfl, ishr8z, icv8, List.singleton_append]
  simp only [growC, ine, ieq, ilt, ige]
  have q1 : (x != 0) = !(x == 0) := rfl
  have q2 : (x != -1) = !(x == -1) := rfl
  rw [q1, q2]
  by_cases hx : x = 0
  ·subst hx
   cases decide (c ≥ 128) <;> rfl
  ·by_cases hy : x = -1
   ·subst hy
    cases decide (c < 128) <;> rfl
   ·rw [show (x == 0) = false from beq_false_of_ne hx, show (x == -1) = false from beq_false_of_ne hy]
    rfl
 have lae : ∀ (x : Int) (y : List Int), Qqi x y2 y = some (.exit 0, Qbo y2 (growB 10 x y)) := fun _ _ => rfl
 have key : ∀ (k : Nat) (x : Int) (y : List Int), -(256 ^ k : Int) ≤ x → x < 256 ^ k → k ≤ 8 → 1 ≤ y.length → y.length + k ≤ 200 → -9223372036854775808 ≤ x → x < 9223372036854775808 → QeR x y2 y = Qqi x y2 y := by
  intro k
  induction k with
  | zero =>
   intro x y g1 g2 g3 g4 g5 g6 g7
   simp only [Int.pow_zero] at g1 g2
   have hx : x = -1 ∨ x = 0 := by omega
   obtain ⟨c, r, rfl⟩ : ∃ c r, y = c :: r := by
    cases y with
    | nil => simp at g4
    | cons c r => exact ⟨c, r, rfl⟩
   simp only [List.length_cons] at g5
   rw [step x c r (by omega), lae, Qzm x (c :: r) ⟨g6, g7⟩, List.headD_cons]
   cases growC x c with
   | false => rfl
   | true =>
    rw [cond_true, cond_true, step (x / 256) (x % 256) (c :: r) (by simp only [List.length_cons]; omega), Qzm (x / 256) (x % 256 :: c :: r) (by omega), List.headD_cons]
    have : growC (x / 256) (x % 256) = false := by rcases hx with rfl | rfl <;> rfl
    rw [this]
    rfl
  | succ k ih =>
   intro x y g1 g2 g3 g4 g5 g6 g7
   obtain ⟨c, r, rfl⟩ : ∃ c r, y = c :: r := by
    cases y with
    | nil => simp at g4
    | cons c r => exact ⟨c, r, rfl⟩
   have e : (256 : Int) ^ (k + 1) = 256 ^ k * 256 := by rw [Int.pow_succ]
   rw [e] at g1 g2
   simp only [List.length_cons] at g5
   rw [step x c r (by omega), lae, Qzm x (c :: r) ⟨g6, g7⟩, List.headD_cons]
   cases growC x c with
   | false => rfl
   | true =>
    rw [cond_true, cond_true, ih (x / 256) (x % 256 :: c :: r) (by omega) (by omega) (by omega) (by simp) (by simp only [List.length_cons]; omega) (by omega) (by omega), lae]
 exact key 8 x4 y7 (by omega) (by omega) (by omega) h3 (by omega) (by omega) (by omega)
theorem QJJ : ∀ S l p, QlM.L 0 (fgt QgV S) = some (true, l) → pickA l = some p → loopF (Qaj QlM QgV QiI) S = some p :=
 QaB (s := QoZ) ⟨by decide, by decide⟩ (by kernel_rfl) fun x y hok p hp => by
 simp only [Qas, Qan] at hp
 exact (QOs x.2.2.1 y.1 y.2.2.1 (by simpa using hok)).trans hp
theorem QUR : Qw9.lok QlM := by
 repeat (first | exact trivial | exact QJJ | refine ⟨?_, ?_⟩)
theorem s_f187 (n : Int) (h : i64Ok n = true) : QIb n = some (.t Qak (intT n), []) := by
 have h1 := h
 simp only [i64Ok, decide_eq_true_eq] at h1
 have e0 : icv .u8 n = byt n 0 := by
  rw [icv8]
  simp [byt]
 simp only [QIb, show decide ((0 : Int) ≤ 8) = true from rfl, Qad, ishr8z, e0]
 rw [decide_eq_true ⟨by omega, by omega, by simp, by simp⟩, Qad]
 have e1 := Qqo 7 (n / 256) [byt n 0] (by omega) (by omega) 1
 rw [show growB 10 (n / 256) [byt n 0] = growB 9 (n / 256) [byt n 0] from e1, QKr h1]
 rfl
def QxY : Ent := spec (.pr tI .nil) (fun x => (i64Ok x.1)) (fun x => (.t Qak (intT x.1)))
theorem QJh : Meets Tryz.prog 187 (strip QxY) := Qag (R := runF QlM Qw9 QGR false) (mG Tryz.func187 (by kernel_rfl) Tryz.ntmps187 (by kernel_rfl) QWt QUR) fun x hok => (e_f187 x.1).trans (s_f187 x.1 hok)
def txtT (s : ByteArray) : ValT := (12, (QaI s, (false, (([] : List Val), ()))))
noncomputable def QwV : TC := (.sq (.reg (rT Tryz.f222 0)) (.sq (.reg (rT Tryz.f222 1)) .rt))
def QGD : List (RV × Option Ty) := [((.c 2 true 4), some Qak)]
def QBa : G := ⟨TYs, [], 6, EL [(30120144, Qa5)], keeps, (fun _ _ => none), IL [], RL []⟩
def QHZ (p0 : ByteArray) : Option (V × List VO) := br (Qbe p0) (some (.t Qak (12, ((QaI p0), (false, (([] : List Val), ())))), [])) none
theorem e_f222 (p0 : ByteArray) : runF QBa QwV QGD false [.t .str p0] [] = QHZ p0 := by kernel_rfl
theorem QXn : Qai Tryz.prog 222 := .inr ⟨by decide, _, Tryz.func222, by kernel_rfl, by kernel_rfl⟩
theorem QWf : GOk Tryz.prog QBa := Qal _ (gA (gC Qbs Qbr gN))
theorem QUD : QwV.lok QBa := by repeat (first | exact trivial | refine ⟨?_, ?_⟩)
theorem s_f222 (s : ByteArray) (h : Qbe s = true) : QHZ s = some (.t Qak (txtT s), []) := by
 simp only [QHZ, h, Qad]
 rfl
def QFk : Ent := spec (.pr .str .nil) (fun x => (Qbe x.1)) (fun x => (.t Qak (txtT x.1)))
theorem QTv : Meets Tryz.prog 222 (strip QFk) := Qag (R := runF QBa QwV QGD false) (mG Tryz.func222 (by kernel_rfl) Tryz.ntmps222 (by kernel_rfl) QWf QUD) fun x hok => (e_f222 x.1).trans (s_f222 x.1 hok)
noncomputable def Qxb : TC := (.sq (.reg (rT Tryz.f185 0)) (.sq (.reg (rT Tryz.f185 1)) .rt))
def QGT : List (RV × Option Ty) := [((.c 2 true 4), some Qak)]
def QBk : G := ⟨TYs, [], 6, EL [(30120144, Qa5)], keeps, (fun _ _ => none), IL [], RL []⟩
def QId (p0 : ByteArray) : Option (V × List VO) := br (Qbe p0) (some (.t Qak (12, ((QaI p0), (false, (([] : List Val), ())))), [])) none
theorem e_f185 (p0 : ByteArray) : runF QBk Qxb QGT false [.t .str p0] [] = QId p0 := by kernel_rfl
theorem QXy : Qai Tryz.prog 185 := .inr ⟨by decide, _, Tryz.func185, by kernel_rfl, by kernel_rfl⟩
theorem QWv : GOk Tryz.prog QBk := Qal _ (gA (gC Qbs Qbr gN))
theorem QUT : Qxb.lok QBk := by repeat (first | exact trivial | refine ⟨?_, ?_⟩)
theorem s_f185 (s : ByteArray) (h : Qbe s = true) : QId s = some (.t Qak (txtT s), []) := by
 simp only [QId, h, Qad]
 rfl
def QFy : Ent := spec (.pr .str .nil) (fun x => (Qbe x.1)) (fun x => (.t Qak (txtT x.1)))
theorem QTJ : Meets Tryz.prog 185 (strip QFy) := Qag (R := runF QBk Qxb QGT false) (mG Tryz.func185 (by kernel_rfl) Tryz.ntmps185 (by kernel_rfl) QWv QUT) fun x hok => (e_f185 x.1).trans (s_f185 x.1 hok)
def boolT (b : Bool) : ValT := (1, ([bif b then 255 else 0], (false, (([] : List Val), ()))))
noncomputable def QwR : TC := (.sq (.reg (rT Tryz.f226 0)) (.sq (.sq (.reg (rT Tryz.f226 1)) (.cd (.t 3) (.sq (.reg (rT Tryz.f226 2)) .rt) .sk)) (.sq (.reg (rT Tryz.f226 3)) .rt)))
def QGz : List (RV × Option Ty) := [((.c 2 true 4), some Qak)]
def QA7 : G := ⟨TYs, [], 8, EL [], keeps, (fun _ _ => none), IL [], RL []⟩
def QSc (p0 : Bool) : Option (V × List VO) := br (p0) (some (.t Qak (1, ([255], (false, (([] : List Val), ())))), [])) (some (.t Qak (1, ([0], (false, (([] : List Val), ())))), []))
theorem e_f226 (p0 : Bool) : runF QA7 QwR QGz false [.t .bool p0] [] = QSc p0 := by kernel_rfl
theorem QXl : Qai Tryz.prog 226 := .inr ⟨by decide, _, Tryz.func226, by kernel_rfl, by kernel_rfl⟩
theorem QWb : GOk Tryz.prog QA7 := Qal _ (fun p hp => by cases hp)
theorem QUz : QwR.lok QA7 := by repeat (first | exact trivial | refine ⟨?_, ?_⟩)
theorem s_f226 (b : Bool) : QSc b = some (.t Qak (boolT b), []) := by cases b <;> rfl
def QFi : Ent := spec (.pr .bool .nil) (fun x => true) (fun x => (.t Qak (boolT x.1)))
theorem QTt : Meets Tryz.prog 226 (strip QFi) := Qag (R := runF QA7 QwR QGz false) (mG Tryz.func226 (by kernel_rfl) Tryz.ntmps226 (by kernel_rfl) QWb QUz) fun x _ => (e_f226 x.1).trans (s_f226 x.1)
noncomputable def Qw7 : TC := (.sq (.reg (rT Tryz.f189 0)) (.sq (.sq (.reg (rT Tryz.f189 1)) (.cd (.t 3) (.sq (.reg (rT Tryz.f189 2)) .rt) .sk)) (.sq (.reg (rT Tryz.f189 3)) .rt)))
def QGP : List (RV × Option Ty) := [((.c 2 true 4), some Qak)]
def QBh : G := ⟨TYs, [], 8, EL [], keeps, (fun _ _ => none), IL [], RL []⟩
def QSe (p0 : Bool) : Option (V × List VO) := br (p0) (some (.t Qak (1, ([255], (false, (([] : List Val), ())))), [])) (some (.t Qak (1, ([0], (false, (([] : List Val), ())))), []))
theorem e_f189 (p0 : Bool) : runF QBh Qw7 QGP false [.t .bool p0] [] = QSe p0 := by kernel_rfl
theorem QXw : Qai Tryz.prog 189 := .inr ⟨by decide, _, Tryz.func189, by kernel_rfl, by kernel_rfl⟩
theorem QWr : GOk Tryz.prog QBh := Qal _ (fun p hp => by cases hp)
theorem QUP : Qw7.lok QBh := by repeat (first | exact trivial | refine ⟨?_, ?_⟩)
theorem s_f189 (b : Bool) : QSe b = some (.t Qak (boolT b), []) := by cases b <;> rfl
def QFw : Ent := spec (.pr .bool .nil) (fun x => true) (fun x => (.t Qak (boolT x.1)))
theorem QTH : Meets Tryz.prog 189 (strip QFw) := Qag (R := runF QBh Qw7 QGP false) (mG Tryz.func189 (by kernel_rfl) Tryz.ntmps189 (by kernel_rfl) QWr QUP) fun x _ => (e_f189 x.1).trans (s_f189 x.1)
end
end Go.Proofs.YtckcgijklnloiaaGreat.K
set_option linter.unusedSectionVars false
namespace Go.Proofs.YtckcgijklnloiaaGreat.K
open Go.RowKit
noncomputable section
def okT (n : Nat) (x : ValT) : Bool := okV n (Val.of x)
theorem Qvx {n : Nat} {v : Val} : okT n v.un = okV n v := by rw [okT, Val.of_un]
theorem QcE {n : Nat} {x : ValT} (h : okT (n + 1) x = true) :
  (x.1 = 1 ∨ x.1 = 2 ∨ x.1 = 12 ∨ x.1 = 48) ∧ x.2.2.1 = (x.1 == 48) ∧ (x.2.2.1 = true → x.2.1 = []) ∧ (x.2.2.1 = false → x.2.2.2.1 = []) ∧ x.2.1.length ≤ 100000 ∧ x.2.2.2.1.length ≤ 100000 ∧ ∀ v ∈ x.2.2.2.1, okV n v = true := by
 obtain ⟨t, b, q, es, _⟩ := x
 exact QAx h
def copLF : Nat → List ValT → Bool
 | 0, _ => false
 | n + 1, l => decide (l.length ≤ 100000) && l.all (okT n)
theorem QPO {n : Nat} {es : List Val} (hl : es.length ≤ 100000) (h : ∀ v ∈ es, okV n v = true) : copLF (n + 1) (es.map Val.un) = true := by
 simp only [copLF, Bool.and_eq_true, decide_eq_true_eq, List.length_map, List.all_eq_true, List.mem_map]
 refine ⟨hl, ?_⟩
 rintro x ⟨v, hv, rfl⟩
 rw [Qvx]
 exact h v hv
theorem QB5 {n : Nat} {x : ValT} (h : okT n x = true) : copLF n (x.2.2.2.1.map Val.un) = true := by
 cases n with
 | zero => obtain ⟨t, b, q, es, _⟩ := x; cases h
 | succ n =>
  obtain ⟨_, _, _, _, _, h6, h7⟩ := QcE h
  exact QPO h6 h7
theorem QcN (es : List Val) : List.map Val.of (List.map Val.un es) = es := by
 rw [List.map_map]
 have : (Val.of ∘ Val.un) = id := funext Val.of_un
 rw [this, List.map_id]
def copV (l : List ValT) : List ValT := l
def copOk (l : List ValT) : Bool := copLF 12 l
theorem Qvz {n : Nat} {x : ValT} (h : okT n x = true) : x.2.1.length ≤ 100000 := by
 cases n with
 | zero => obtain ⟨t, b, q, es, _⟩ := x; cases h
 | succ n => exact (QcE h).2.2.2.2.1
theorem Qqu (l : List ValT) (h : copOk l = true) : ∃ N, copLF N l = true := ⟨12, h⟩
theorem QK0 : Qai Tryz.prog 236 := .inr ⟨by decide, _, Tryz.func236, by kernel_rfl, by kernel_rfl⟩
def Qhl [Fuel] : Ent := spec (.pr (.sl Qak) .nil) (fun x => (copLF fuel x.1)) (fun x => (.t (.sl Qak) (copV x.1)))
theorem QO6 : Qai Tryz.prog 236 := QK0
section
variable [Fuel] [Nonempty (PLift (Meets Tryz.prog 236 (strip Qhl)))]
theorem QNA : Meets Tryz.prog 236 (strip Qhl) := (Classical.choice (inferInstance : Nonempty (PLift (Meets Tryz.prog 236 (strip Qhl))))).down
def copIn [Fuel] (l : List ValT) : Bool := copLF (fuel + 1) l
noncomputable def QLp : List DO := dT Tryz.f236 5
def QgK : Fg := ⟨[(3, none), (6, some (.sl Qak)), (7, some tI), (8, some tI)], [(3, none), (23, none)]⟩
noncomputable def Qix : TC := (.sq (.reg (rT Tryz.f236 3)) (.sq (.cd (.t 9) .sk (.fg ⟨[(3, none)], [(3, none), (23, none)]⟩ (.ex 0))) (.sq (.bk 1 (.sq (.reg (rT Tryz.f236 4)) (.sq (.dr QLp [(0, [5]), (1, [5]), (2, []), (3, [5]), (4, [5]), (5, []), (6, [5]), (7, [5]), (8, [5]), (9, [5])] (.of [0, 1, 2, 3, 4, 5, 6, 7, 8, 9])) (.reg (rT Tryz.f236 6))))) (.reg (rT Tryz.f236 7)))))
noncomputable def QwL : TC := (.sq (.reg (rT Tryz.f236 0)) (.sq (.reg (rT Tryz.f236 1)) (.sq (.sq (.reg (rT Tryz.f236 2)) (.bk 0 (.nw 3 202 (.lp 0 QgK Qix)))) (.sq (.reg (rT Tryz.f236 8)) .rt))))
def QGt : List (RV × Option Ty) := [((.t 2), some (.sl Qak))]
abbrev QoN : Sh := ⟨[(3, .ms 3), (6, .ty (.sl Qak)), (7, .ty tI), (8, .ty tI)], [(3, .arr 202 Qak), (23, .no)]⟩
def Qn7 (x6 : List ValT) (x7 x8 : Int) (y3 : List ValT) : VS := QoN.st ((), x6, x7, x8, ()) (y3, (), ())
abbrev QuL : Sh := ⟨[(3, .ms 3)], [(3, .arr 202 Qak), (23, .no)]⟩
def QdL (y3 : List ValT) : VS := QuL.st ((), ()) (y3, (), ())
def QQl : VS → Option (Bool × List (Bool × Exit × VS)) := mkL QoN (fun x y => (rngOk x.2.1 x.2.2.1 x.2.2.2.1 && copIn x.2.1 && decide (y.1.length + x.2.1.length ≤ 200000 + x.2.2.2.1.toNat))) (fun x y => [(true, .exit 0, QdL (y.1 ++ x.2.1.drop x.2.2.2.1.toNat))])
def QlF : G := ⟨TYs, [], 26, EL [(236, Qhl), (238, QFc)], keeps, (Ls [QQl]), IL [], RL []⟩
def QCc (x6 : List ValT) (x7 x8 : Int) (y3 : List ValT) : Option (Exit × VS) :=
 let a2 := ((lgt Qak x6 (Int.toNat x8)).2)
 let a1 := ((lgt Qak x6 (Int.toNat x8)).1, ((clonB (a2.1)), ((a2.2).1, ((List.map Val.of (List.map Val.un (List.map Val.of (copV (List.map Val.un (((a2.2).2).1)))))), ()))))
 br (ilt x8 x7) (br (cIx x6 x8) (br (QB9 (a2.1)) (br (copLF fuel (List.map Val.un (((a2.2).2).1))) (br (cApp y3 ([a1]) 64) (some (.normal, Qn7 x6 x7 (iadd .i64 x8 1) (y3 ++ ([a1])))) none) none) none) none) (some (.exit 0, QdL y3))
noncomputable def Qjm (x6 : List ValT) (x7 x8 : Int) (y3 : List ValT) : Option (Exit × VS) := loopF (Qaj QlF QgK Qix) (Qn7 x6 x7 x8 y3)
noncomputable def QmS (x6 : List ValT) (x7 x8 : Int) (y3 : List ValT) : Option (Exit × VS) :=
 let a2 := ((lgt Qak x6 (Int.toNat x8)).2)
 let a1 := ((lgt Qak x6 (Int.toNat x8)).1, ((clonB (a2.1)), ((a2.2).1, ((List.map Val.of (List.map Val.un (List.map Val.of (copV (List.map Val.un (((a2.2).2).1)))))), ()))))
 br (ilt x8 x7) (br (cIx x6 x8) (br (QB9 (a2.1)) (br (copLF fuel (List.map Val.un (((a2.2).2).1))) (br (cApp y3 ([a1]) 64) (Qjm x6 x7 (iadd .i64 x8 1) (y3 ++ ([a1]))) none) none) none) none) (some (.exit 0, QdL y3))
def QjQ (x6 : List ValT) (x7 x8 : Int) (y3 : List ValT) : Option (Exit × VS) := some (.exit 0, QdL (y3 ++ x6.drop x8.toNat))
theorem QLZ (x6 : List ValT) (x7 x8 : Int) (y3 : List ValT) : Qaj QlF QgK Qix (Qn7 x6 x7 x8 y3) = QCc x6 x7 x8 y3 := by kernel_rfl
theorem QvL (x6 : List ValT) (x7 x8 : Int) (y3 : List ValT) : Qjm x6 x7 x8 y3 = QmS x6 x7 x8 y3 := (Qao _ _).trans (by
 rw [QLZ]
 simp only [QCc, QmS, QaA, nxt_n, nxt_r, nxt_e, nxt_0]
 rfl)
def QHQ (p0 : List ValT) : Option (V × List VO) := br (rngOk p0 (llen p0) (0 : Int) && copIn p0 && decide (([] : List ValT).length + p0.length ≤ 200000 + (0 : Int).toNat)) (some (.t (.sl Qak) (([] : List ValT) ++ p0.drop (0 : Int).toNat), [])) none
theorem e_f236 (p0 : List ValT) : runF QlF QwL QGt false [.t (.sl Qak) p0] [] = QHQ p0 := by kernel_rfl
theorem QV5 : GOk Tryz.prog QlF := Qal _ (gA (gC QO6 QNA (gC QXh QTn gN)))
theorem QOh (x6 : List ValT) (x7 x8 : Int) (y3 : List ValT) (h : (rngOk x6 x7 x8 && copIn x6 && decide (y3.length + x6.length ≤ 200000 + x8.toNat)) = true) : Qjm x6 x7 x8 y3 = QjQ x6 x7 x8 y3 := by
 simp only [Bool.and_eq_true, decide_eq_true_eq] at h
 obtain ⟨⟨h0, hc⟩, h2⟩ := h
 obtain ⟨rfl, h3, k, rfl, hk⟩ := rng_k h0
 clear h0
 rw [Int.toNat_natCast] at h2
 simp only [copIn, copLF, Bool.and_eq_true, List.all_eq_true] at hc
 revert y3
 refine Qau x6 (fun k => ∀ y3 : List ValT, y3.length + x6.length ≤ 200000 + k → Qjm x6 (x6.length : Int) (k : Int) y3 = QjQ x6 (x6.length : Int) (k : Int) y3) ?_ ?_ k hk
 ·intro y3 _
  rw [QvL]
  simp [QmS, QjQ, Qat, Qaf]
 ·intro k hk ih y3 hy
  rw [QvL]
  have hx := hc.2 x6[k] (List.getElem_mem hk)
  have e1 : QB9 x6[k].2.1 = true := decide_eq_true (by have := Qvz hx; omega)
  have e2 : copLF fuel (List.map Val.un x6[k].2.2.2.1) = true := QB5 hx
  simp only [QmS, Qat, Qax, hk, decide_true, Qad, Int.toNat_natCast, add1 (show k < 4611686018427387904 by omega), Qaz (y := Qak) hk, e1, e2, clonB, copV, QcN]
  rw [cAppN (by omega) (by simp only [List.length_singleton]; omega), Qad, ih _ (by simp only [List.length_append, List.length_singleton]; omega)]
  simp only [QjQ, Int.toNat_natCast, List.drop_eq_getElem_cons hk, List.append_assoc, List.singleton_append]
theorem QJy : ∀ S l p, QlF.L 0 (fgt QgK S) = some (true, l) → pickA l = some p → loopF (Qaj QlF QgK Qix) S = some p :=
 QaB (s := QoN) ⟨by decide, by decide⟩ (by kernel_rfl) fun x y hok p hp => by
 simp only [Qas, Qan] at hp
 exact (QOh x.2.1 x.2.2.1 x.2.2.2.1 y.1 (by simpa using hok)).trans hp
theorem QUt : QwL.lok QlF := by
 repeat (first | exact trivial | exact QJy | refine ⟨?_, ?_⟩)
theorem s_f236 (l : List ValT) (h : copLF (fuel + 1) l = true) : QHQ l = some (.t (.sl Qak) (copV l), []) := by
 have hl : l.length ≤ 100000 := by simp only [copLF, Bool.and_eq_true, decide_eq_true_eq] at h; exact h.1
 simp only [QHQ, rng_0 hl, show copIn l = true from h, Bool.true_and, List.length_nil, Int.toNat_zero, List.drop_zero, List.nil_append]
 rw [decide_eq_true (by omega), Qad]
 rfl
theorem QUk : Meets Tryz.prog 236 (runF QlF QwL QGt false) := mG Tryz.func236 (by kernel_rfl) Tryz.ntmps236 (by kernel_rfl) QV5 QUt
end
theorem Qjj : ∀ N : Nat, Meets Tryz.prog 236 (strip (@Qhl ⟨N⟩))
 | 0 => Qb8 fun x => by first | rfl | simp [copLF]
 | N + 1 => by
  letI : Fuel := ⟨N⟩
  haveI : Nonempty (PLift (Meets Tryz.prog 236 (strip Qhl))) := ⟨⟨Qjj N⟩⟩
  exact Qag QUk fun x hok => (e_f236 x.1).trans (s_f236 x.1 hok)
def QFd : Ent := spec (.pr (.sl Qak) .nil) (fun x => (copOk x.1)) (fun x => (.t (.sl Qak) (copV x.1)))
theorem QTo : Meets Tryz.prog 236 (strip QFd) := Qb9 Qjj fun x hok => Qqu x.1 hok
theorem Qlj (l : List ValT) (h : copOk l = true) : ∃ N, copLF N l = true := ⟨12, h⟩
theorem QK6 : Qai Tryz.prog 212 := .inr ⟨by decide, _, Tryz.func212, by kernel_rfl, by kernel_rfl⟩
def Qhp [Fuel] : Ent := spec (.pr (.sl Qak) .nil) (fun x => (copLF fuel x.1)) (fun x => (.t (.sl Qak) (copV x.1)))
theorem QPc : Qai Tryz.prog 212 := QK6
section
variable [Fuel] [Nonempty (PLift (Meets Tryz.prog 212 (strip Qhp)))]
theorem QNG : Meets Tryz.prog 212 (strip Qhp) := (Classical.choice (inferInstance : Nonempty (PLift (Meets Tryz.prog 212 (strip Qhp))))).down
def Qww [Fuel] (l : List ValT) : Bool := copLF (fuel + 1) l
def QgR : Fg := ⟨[(0, some (.sl Qak)), (3, none), (4, some tI)], [(3, none), (28, none)]⟩
noncomputable def QiE : TC := (.sq (.sq (.reg (rT Tryz.f212 3)) (.cd (.t 9) .sk (.fg ⟨[(3, none)], [(3, none), (28, none)]⟩ (.ex 0)))) (.sq (.bk 1 (.sq (.reg (rT Tryz.f212 4)) (.sq (.reg (rT Tryz.f212 5)) (.sq (.reg (rT Tryz.f212 6)) (.reg (rT Tryz.f212 7)))))) (.reg (rT Tryz.f212 8))))
noncomputable def QwY : TC := (.sq (.reg (rT Tryz.f212 0)) (.sq (.reg (rT Tryz.f212 1)) (.sq (.sq (.reg (rT Tryz.f212 2)) (.bk 0 (.nf 5 1 5 20501 (.nw 3 202 (.lp 0 QgR QiE))))) (.sq (.reg (rT Tryz.f212 9)) .rt))))
def QGG : List (RV × Option Ty) := [((.t 2), some (.sl Qak))]
abbrev QoU : Sh := ⟨[(0, .ty (.sl Qak)), (3, .ms 3), (4, .ty tI)], [(3, .arr 202 Qak), (28, .no)]⟩
def Qoe (x0 : List ValT) (x4 : Int) (y3 : List ValT) : VS := QoU.st (x0, (), x4, ()) (y3, (), ())
abbrev QuT : Sh := ⟨[(3, .ms 3)], [(3, .arr 202 Qak), (28, .no)]⟩
def QdS (y3 : List ValT) : VS := QuT.st ((), ()) (y3, (), ())
def QQs : VS → Option (Bool × List (Bool × Exit × VS)) := mkL QoU (fun x y => (idxOk x.1 x.2.2.1 && Qww x.1 && decide (y.1.length + x.1.length ≤ 200000 + x.2.2.1.toNat))) (fun x y => [(true, .exit 0, QdS (y.1 ++ x.1.drop x.2.2.1.toNat))])
def QlI : G := ⟨TYs, [16], 30, EL [(212, Qhp)], keeps, (Ls [QQs]), IL [], RL []⟩
def QCj (x0 : List ValT) (x4 : Int) (y3 : List ValT) : Option (Exit × VS) :=
 let a1 := lgt Qak x0 (Int.toNat x4)
 let a2 := (((a1.2).2).1, ((List.map Val.of (copV (List.map Val.un ((((a1.2).2).2).1)))), ()))
 br (ilt x4 (llen x0)) (br (cIx x0 x4) (br (cApp ([] : List Int) ((a1.2).1) 1) (br (copLF fuel (List.map Val.un ((((a1.2).2).2).1))) (br (cApp y3 ([(a1.1, ((([] : List Int) ++ ((a1.2).1)), a2))]) 64) (some (.normal, Qoe x0 (iadd .i64 x4 1) (y3 ++ ([(a1.1, ((([] : List Int) ++ ((a1.2).1)), a2))])))) none) none) none) none) (some (.exit 0, QdS y3))
noncomputable def Qjq (x0 : List ValT) (x4 : Int) (y3 : List ValT) : Option (Exit × VS) := loopF (Qaj QlI QgR QiE) (Qoe x0 x4 y3)
noncomputable def QmX (x0 : List ValT) (x4 : Int) (y3 : List ValT) : Option (Exit × VS) :=
 let a1 := lgt Qak x0 (Int.toNat x4)
 let a2 := (((a1.2).2).1, ((List.map Val.of (copV (List.map Val.un ((((a1.2).2).2).1)))), ()))
 br (ilt x4 (llen x0)) (br (cIx x0 x4) (br (cApp ([] : List Int) ((a1.2).1) 1) (br (copLF fuel (List.map Val.un ((((a1.2).2).2).1))) (br (cApp y3 ([(a1.1, ((([] : List Int) ++ ((a1.2).1)), a2))]) 64) (Qjq x0 (iadd .i64 x4 1) (y3 ++ ([(a1.1, ((([] : List Int) ++ ((a1.2).1)), a2))]))) none) none) none) none) (some (.exit 0, QdS y3))
def QjU (x0 : List ValT) (x4 : Int) (y3 : List ValT) : Option (Exit × VS) := some (.exit 0, QdS (y3 ++ x0.drop x4.toNat))
theorem QL6 (x0 : List ValT) (x4 : Int) (y3 : List ValT) : Qaj QlI QgR QiE (Qoe x0 x4 y3) = QCj x0 x4 y3 := by kernel_rfl
theorem QvR (x0 : List ValT) (x4 : Int) (y3 : List ValT) : Qjq x0 x4 y3 = QmX x0 x4 y3 := (Qao _ _).trans (by
 rw [QL6]
 simp only [QCj, QmX, QaA, nxt_n, nxt_r, nxt_e, nxt_0]
 rfl)
def QH2 (p0 : List ValT) : Option (V × List VO) := br (idxOk p0 (0 : Int) && Qww p0 && decide (([] : List ValT).length + p0.length ≤ 200000 + (0 : Int).toNat)) (some (.t (.sl Qak) (([] : List ValT) ++ p0.drop (0 : Int).toNat), [])) none
theorem e_f212 (p0 : List ValT) : runF QlI QwY QGG false [.t (.sl Qak) p0] [] = QH2 p0 := by kernel_rfl
theorem QWi : GOk Tryz.prog QlI := Qal _ (gA (gC QPc QNG gN))
theorem QOo (x0 : List ValT) (x4 : Int) (y3 : List ValT) (h : (idxOk x0 x4 && Qww x0 && decide (y3.length + x0.length ≤ 200000 + x4.toNat)) = true) : Qjq x0 x4 y3 = QjU x0 x4 y3 := by
 simp only [Bool.and_eq_true, decide_eq_true_eq, idxOk] at h
 obtain ⟨⟨⟨h0, h1, h3⟩, hc⟩, h2⟩ := h
 obtain ⟨k, rfl⟩ := Int.eq_ofNat_of_zero_le h0
 rw [Int.toNat_natCast] at h2
 simp only [Qww, copLF, Bool.and_eq_true, List.all_eq_true] at hc
 revert y3
 refine Qau x0 (fun k => ∀ y3 : List ValT, y3.length + x0.length ≤ 200000 + k → Qjq x0 (k : Int) y3 = QjU x0 (k : Int) y3) ?_ ?_ k (by omega)
 ·intro y3 _
  rw [QvR]
  simp [QmX, QjU, ilt, llen, Qaf]
 ·intro k hk ih y3 hy
  rw [QvR]
  have hx := hc.2 x0[k] (List.getElem_mem hk)
  have e2 : copLF fuel (List.map Val.un x0[k].2.2.2.1) = true := QB5 hx
  simp only [QmX, show ilt (k : Int) (llen x0) = true from decide_eq_true (by simp only [llen]; omega), Qax, hk, decide_true, Qad, Int.toNat_natCast, add1 (show k < 4611686018427387904 by omega), Qaz (y := Qak) hk, e2, copV, QcN]
  rw [cAppN (by omega) (by have := Qvz hx; simp only [List.length_nil]; omega), Qad, cAppN (by omega) (by simp only [List.length_singleton]; omega), Qad, ih _ (by simp only [List.length_append, List.length_singleton]; omega)]
  simp only [QjU, Int.toNat_natCast, List.drop_eq_getElem_cons hk, List.append_assoc, List.singleton_append, List.nil_append]
theorem QJF : ∀ S l p, QlI.L 0 (fgt QgR S) = some (true, l) → pickA l = some p → loopF (Qaj QlI QgR QiE) S = some p :=
 QaB (s := QoU) ⟨by decide, by decide⟩ (by kernel_rfl) fun x y hok p hp => by
 simp only [Qas, Qan] at hp
 exact (QOo x.1 x.2.2.1 y.1 (by simpa using hok)).trans hp
theorem QUG : QwY.lok QlI := by
 repeat (first | exact trivial | exact QJF | refine ⟨?_, ?_⟩)
theorem s_f212 (l : List ValT) (h : copLF (fuel + 1) l = true) : QH2 l = some (.t (.sl Qak) (copV l), []) := by
 have hl : l.length ≤ 100000 := by simp only [copLF, Bool.and_eq_true, decide_eq_true_eq] at h; exact h.1
 simp only [QH2, show idxOk l 0 = true from decide_eq_true (by omega), show Qww l = true from h, Bool.true_and, List.length_nil, Int.toNat_zero, List.drop_zero, List.nil_append]
 rw [decide_eq_true (by omega), Qad]
 rfl
theorem QUo : Meets Tryz.prog 212 (runF QlI QwY QGG false) := mG Tryz.func212 (by kernel_rfl) Tryz.ntmps212 (by kernel_rfl) QWi QUG
end
theorem QgC : ∀ N : Nat, Meets Tryz.prog 212 (strip (@Qhp ⟨N⟩))
 | 0 => Qb8 fun x => by first | rfl | simp [copLF]
 | N + 1 => by
  letI : Fuel := ⟨N⟩
  haveI : Nonempty (PLift (Meets Tryz.prog 212 (strip Qhp))) := ⟨⟨QgC N⟩⟩
  exact Qag QUo fun x hok => (e_f212 x.1).trans (s_f212 x.1 hok)
def QFn : Ent := spec (.pr (.sl Qak) .nil) (fun x => (copOk x.1)) (fun x => (.t (.sl Qak) (copV x.1)))
theorem QTy : Meets Tryz.prog 212 (strip QFn) := Qb9 QgC fun x hok => Qlj x.1 hok
end
end Go.Proofs.YtckcgijklnloiaaGreat.K
set_option linter.unusedSectionVars false
namespace Go.Proofs.YtckcgijklnloiaaGreat.K
open Go.RowKit
noncomputable section
theorem QyF {n : Nat} {x : ValT} (h : okT (n + 1) x = true) : ∀ k (hk : k < (List.map Val.un x.2.2.2.1).length), okT n (List.map Val.un x.2.2.2.1)[k] = true := by
 intro k hk
 rw [List.getElem_map, Qvx]
 exact (QcE h).2.2.2.2.2.2 _ (List.getElem_mem _)
def frmV (_x : ValT) : Bool := true
def frmOk (x : ValT) : Bool := okT 12 x
theorem Qqt (x : ValT) (h : frmOk x = true) : ∃ N, okT N x = true := ⟨12, h⟩
theorem Qli (x : ValT) (h : frmOk x = true) : ∃ N, okT N x = true := ⟨12, h⟩
theorem QK5 : Qai Tryz.prog 219 := .inr ⟨by decide, _, Tryz.func219, by kernel_rfl, by kernel_rfl⟩
def Qho [Fuel] : Ent := spec (.pr Qak .nil) (fun x => (okT fuel x.1)) (fun x => (.t .bool (frmV x.1)))
theorem QPb : Qai Tryz.prog 219 := QK5
section
variable [Fuel] [Nonempty (PLift (Meets Tryz.prog 219 (strip Qho)))]
theorem QNF : Meets Tryz.prog 219 (strip Qho) := (Classical.choice (inferInstance : Nonempty (PLift (Meets Tryz.prog 219 (strip Qho))))).down
def unfV (_x : ValT) : Bool := false
def unfOk [Fuel] (x : ValT) : Bool := okT fuel x
def QeL [Fuel] (l : List ValT) : Bool := decide (l.length ≤ 100000) && l.all (okT fuel)
noncomputable def QwO : TC := (.sq (.reg (rT Tryz.f233 0)) (.sq (.reg (rT Tryz.f233 1)) .rt))
def QGw : List (RV × Option Ty) := [((.t 2), some .bool)]
def QA4 : G := ⟨TYs, [], 6, EL [(219, Qho)], keeps, (fun _ _ => none), IL [], RL []⟩
def QHT (p0 : ValT) : Option (V × List VO) := br (okT fuel p0) (some (.t .bool (!(frmV p0)), [])) none
theorem e_f233 (p0 : ValT) : runF QA4 QwO QGw false [.t Qak p0] [] = QHT p0 := by kernel_rfl
theorem QXi : Qai Tryz.prog 233 := .inr ⟨by decide, _, Tryz.func233, by kernel_rfl, by kernel_rfl⟩
theorem QV8 : GOk Tryz.prog QA4 := Qal _ (gA (gC QPb QNF gN))
theorem QUw : QwO.lok QA4 := by repeat (first | exact trivial | refine ⟨?_, ?_⟩)
theorem s_f233 (x : ValT) (h : unfOk x = true) : QHT x = some (.t .bool (unfV x), []) := by
 simp only [QHT, show okT fuel x = true from h, Qad]
 rfl
def QFf : Ent := spec (.pr Qak .nil) (fun x => (unfOk x.1)) (fun x => (.t .bool (unfV x.1)))
theorem QTq : Meets Tryz.prog 233 (strip QFf) := Qag (R := runF QA4 QwO QGw false) (mG Tryz.func233 (by kernel_rfl) Tryz.ntmps233 (by kernel_rfl) QV8 QUw) fun x hok => (e_f233 x.1).trans (s_f233 x.1 hok)
def QKI (_l : List ValT) : Int := -1
def Qcp : Fg := ⟨[(0, some (.sl Qak)), (1, none), (7, some tI), (8, some tI)], []⟩
noncomputable def Qc6 : TC := (.sq (.reg (rT Tryz.f237 2)) (.sq (.cd (.t 9) .sk (.fg ⟨[], []⟩ (.ex 0))) (.sq (.bk 1 (.sq (.reg (rT Tryz.f237 3)) (.sq (.reg (rT Tryz.f237 4)) (.cd (.t 16) (.sq (.reg (rT Tryz.f237 5)) (.fg ⟨[(4, some tI)], []⟩ .rt)) .sk)))) (.reg (rT Tryz.f237 6)))))
noncomputable def Qh4 : TC := (.sq (.reg (rT Tryz.f237 0)) (.sq (.sq (.reg (rT Tryz.f237 1)) (.bk 0 (.lp 0 Qcp Qc6))) (.sq (.reg (rT Tryz.f237 7)) .rt)))
def Qps : List (RV × Option Ty) := [((.t 4), some tI)]
abbrev Qfn : Sh := ⟨[(0, .ty (.sl Qak)), (1, .cf 233), (7, .ty tI), (8, .ty tI)], []⟩
def Qfb (x0 : List ValT) (x7 x8 : Int) : VS := Qfn.st (x0, (), x7, x8, ()) ()
abbrev QkZ : Sh := ⟨[(4, .ty tI)], []⟩
def QbJ (x4 : Int) : VS := QkZ.st (x4, ()) ()
abbrev Qmc : Sh := ⟨[], []⟩
def QbY  : VS := Qmc.st () ()
def QwI : VS → Option (Bool × List (Bool × Exit × VS)) := mkL Qfn (fun x y => (rngOk x.1 x.2.2.1 x.2.2.2.1 && QeL x.1)) (fun x y => [((false), .ret, QbJ (x.2.2.2.1)), (true, .exit 0, QbY)])
def Qcc : G := ⟨TYs, [], 19, EL [(233, QFf)], keeps, (Ls [QwI]), IL [], RL []⟩
def Ql8 (x0 : List ValT) (x7 x8 : Int) : Option (Exit × VS) :=
 let a1 := lgt Qak x0 (Int.toNat x8)
 br (ilt x8 x7) (br (cIx x0 x8) (br (unfOk a1) (br (unfV a1) (some (.ret, QbJ x8)) (some (.normal, Qfb x0 x7 (iadd .i64 x8 1)))) none) none) (some (.exit 0, QbY))
noncomputable def Qdh (x0 : List ValT) (x7 x8 : Int) : Option (Exit × VS) := loopF (Qaj Qcc Qcp Qc6) (Qfb x0 x7 x8)
noncomputable def Qej (x0 : List ValT) (x7 x8 : Int) : Option (Exit × VS) :=
 let a1 := lgt Qak x0 (Int.toNat x8)
 br (ilt x8 x7) (br (cIx x0 x8) (br (unfOk a1) (br (unfV a1) (some (.ret, QbJ x8)) (Qdh x0 x7 (iadd .i64 x8 1))) none) none) (some (.exit 0, QbY))
def QfJ (x0 : List ValT) (x7 x8 : Int) : Option (Exit × VS) := br (false) (some (.ret, QbJ (x8))) <| some (.exit 0, QbY)
theorem Qud (x0 : List ValT) (x7 x8 : Int) : Qaj Qcc Qcp Qc6 (Qfb x0 x7 x8) = Ql8 x0 x7 x8 := by kernel_rfl
theorem QjL (x0 : List ValT) (x7 x8 : Int) : Qdh x0 x7 x8 = Qej x0 x7 x8 := (Qao _ _).trans (by
 rw [Qud]
 simp only [Ql8, Qej, QaA, nxt_n, nxt_r, nxt_e, nxt_0]
 rfl)
def Qk4 (p0 : List ValT) : Option (V × List VO) := br (rngOk p0 (llen p0) (0 : Int) && QeL p0) (br (false) (some (.t tI (0 : Int), [])) (some (.t tI (-1), []))) none
theorem QDB (p0 : List ValT) : runF Qcc Qh4 Qps false [.t (.sl Qak) p0, .c (.func (.func 233) ⟨[]⟩ ⟨[]⟩)] [] = Qk4 p0 := by kernel_rfl
theorem QzA : Qai Tryz.prog 237 := .inr ⟨by decide, _, Tryz.func237, by kernel_rfl, by kernel_rfl⟩
theorem Qzn : GOk Tryz.prog Qcc := Qal _ (gA (gC QXi QTq gN))
theorem Qwf (x0 : List ValT) (x7 x8 : Int) (h : (rngOk x0 x7 x8 && QeL x0) = true) : Qdh x0 x7 x8 = QfJ x0 x7 x8 := by
 simp only [Bool.and_eq_true] at h
 obtain ⟨h0, hc⟩ := h
 obtain ⟨rfl, h3, k, rfl, hk⟩ := rng_k h0
 clear h0
 simp only [QeL, Bool.and_eq_true, List.all_eq_true] at hc
 refine Qau x0 (fun k => Qdh x0 (x0.length : Int) (k : Int) = QfJ x0 (x0.length : Int) (k : Int)) ?_ ?_ k hk
 ·rw [QjL]
  simp [Qej, QfJ, Qat, Qaf]
 ·intro k hk ih
  rw [QjL]
  have hx := hc.2 x0[k] (List.getElem_mem hk)
  simp only [Qej, Qat, Qax, hk, decide_true, Qad, Int.toNat_natCast, add1 (show k < 4611686018427387904 by omega), Qaz (y := Qak) hk, show unfOk x0[k] = true from hx, unfV, Qaf, ih]
  rfl
theorem QtO : ∀ S l p, Qcc.L 0 (fgt Qcp S) = some (true, l) → pickA l = some p → loopF (Qaj Qcc Qcp Qc6) S = some p :=
 QaB (s := Qfn) ⟨by decide, by decide⟩ (by kernel_rfl) fun x y hok p hp => by
 simp only [Qas, Qan] at hp
 exact (Qwf x.1 x.2.2.1 x.2.2.2.1 (by simpa using hok)).trans hp
theorem Qy7 : Qh4.lok Qcc := by
 repeat (first | exact trivial | exact QtO | refine ⟨?_, ?_⟩)
theorem QCX (l : List ValT) (h : QeL l = true) : Qk4 l = some (.t tI (QKI l), []) := by
 have hl : l.length ≤ 100000 := by simp only [QeL, Bool.and_eq_true, decide_eq_true_eq] at h; exact h.1
 simp only [Qk4, rng_0 hl, h, Bool.true_and, Qad, Qaf]
 rfl
def Qoy : Ent := specH [.ty (.sl Qak), .cf 233] [] (fun x d => (QeL x.1)) (fun x d => (.t tI (QKI x.1)))
theorem QyK : Meets Tryz.prog 237 (strip Qoy) := (QaP (R := runF Qcc Qh4 Qps false) (mG Tryz.func237 (by kernel_rfl) Tryz.ntmps237 (by kernel_rfl) Qzn Qy7) fun x d hok => (QDB x.1).trans (QCX x.1 hok))
def QMU (_l : List ValT) : Bool := false
noncomputable def Qh5 : TC := (.sq (.reg (rT Tryz.f232 0)) (.sq (.reg (rT Tryz.f232 1)) .rt))
def Qpt : List (RV × Option Ty) := [((.t 4), some .bool)]
def QhJ : G := ⟨TYs, [], 9, EL [(237, Qoy)], keeps, (fun _ _ => none), IL [], RL []⟩
def Qk5 (p0 : List ValT) : Option (V × List VO) := br (QeL p0) (some (.t .bool (ige (QKI p0) 0), [])) none
theorem QDC (p0 : List ValT) : runF QhJ Qh5 Qpt false [.t (.sl Qak) p0, .c (.func (.func 233) ⟨[]⟩ ⟨[]⟩)] [] = Qk5 p0 := by kernel_rfl
theorem QzB : Qai Tryz.prog 232 := .inr ⟨by decide, _, Tryz.func232, by kernel_rfl, by kernel_rfl⟩
theorem Qzo : GOk Tryz.prog QhJ := Qal _ (gA (gC QzA QyK gN))
theorem Qy8 : Qh5.lok QhJ := by repeat (first | exact trivial | refine ⟨?_, ?_⟩)
theorem QCY (l : List ValT) (h : QeL l = true) : Qk5 l = some (.t .bool (QMU l), []) := by
 simp only [Qk5, h, Qad]
 rfl
def Qoz : Ent := specH [.ty (.sl Qak), .cf 233] [] (fun x d => (QeL x.1)) (fun x d => (.t .bool (QMU x.1)))
theorem QyL : Meets Tryz.prog 232 (strip Qoz) := (QaP (R := runF QhJ Qh5 Qpt false) (mG Tryz.func232 (by kernel_rfl) Tryz.ntmps232 (by kernel_rfl) Qzo Qy8) fun x d hok => (QDC x.1).trans (QCY x.1 hok))
noncomputable def QwX : TC := (.sq (.reg (rT Tryz.f219 0)) (.sq (.sq (.reg (rT Tryz.f219 1)) (.cd (.t 36) (.sq (.reg (rT Tryz.f219 2)) .rt) .sk)) (.sq (.reg (rT Tryz.f219 3)) .rt)))
def QGF : List (RV × Option Ty) := [((.t 2), some .bool)]
def QBb : G := ⟨TYs, [], 41, EL [(231, QFg), (232, Qoz)], keeps, (fun _ _ => none), IL [], RL []⟩
def Qtc (p0 : ValT) : Option (V × List VO) :=
 let a1 := List.map Val.un p0.2.2.2.1
 br (QeL a1) (some (.t .bool (!(QMU a1)), [])) none
def QpE (p0 : ValT) : Option (V × List VO) := br (!p0.2.2.1) (br (igt (llen (List.map Val.un p0.2.2.2.1)) 0) (some (.t .bool false, [])) (Qtc p0)) (Qtc p0)
def QH1 (p0 : ValT) : Option (V × List VO) := br (!(tagB p0.1)) (some (.t .bool false, [])) (br (bneq p0.2.2.1 (ine (iband .i64 p0.1 32) 0)) (some (.t .bool false, [])) (br (p0.2.2.1) (br (igt (llen p0.2.1) 0) (some (.t .bool false, [])) (QpE p0)) (QpE p0)))
theorem e_f219 (p0 : ValT) : runF QBb QwX QGF false [.t Qak p0] [] = QH1 p0 := by kernel_rfl
theorem QWh : GOk Tryz.prog QBb := Qal _ (gA (gC QXj QTr (gC QzB QyL gN)))
theorem QUF : QwX.lok QBb := by repeat (first | exact trivial | refine ⟨?_, ?_⟩)
theorem s_f219 (x : ValT) (h : okT (fuel + 1) x = true) : QH1 x = some (.t .bool (frmV x), []) := by
 obtain ⟨h1, h2, h3, h4, h5, h6, h7⟩ := QcE h
 have hu : QeL (List.map Val.un x.2.2.2.1) = true := by
  simp only [QeL, Bool.and_eq_true, decide_eq_true_eq, List.length_map, List.all_eq_true, List.mem_map]
  refine ⟨h6, ?_⟩
  rintro y ⟨v, hv, rfl⟩
  rw [Qvx]
  exact h7 v hv
 have ht : tagB x.1 = true := by rcases h1 with e | e | e | e <;> rw [e] <;> rfl
 have hn : bneq x.2.2.1 (ine (iband .i64 x.1 32) 0) = false := by rw [h2]; rcases h1 with e | e | e | e <;> rw [e] <;> rfl
 simp only [QH1, QpE, Qtc, ht, hn, hu, Bool.not_true, Qad, Qaf]
 cases hq : x.2.2.1 with
 | true =>
  rw [h3 hq]
  rfl
 | false =>
  rw [h4 hq]
  rfl
theorem QUn : Meets Tryz.prog 219 (runF QBb QwX QGF false) := mG Tryz.func219 (by kernel_rfl) Tryz.ntmps219 (by kernel_rfl) QWh QUF
end
theorem Qji : ∀ N : Nat, Meets Tryz.prog 219 (strip (@Qho ⟨N⟩))
 | 0 => Qb8 fun x => by first | rfl | simp [okT]
 | N + 1 => by
  letI : Fuel := ⟨N⟩
  haveI : Nonempty (PLift (Meets Tryz.prog 219 (strip Qho))) := ⟨⟨Qji N⟩⟩
  exact Qag QUn fun x hok => (e_f219 x.1).trans (s_f219 x.1 hok)
def QFm : Ent := spec (.pr Qak .nil) (fun x => (frmOk x.1)) (fun x => (.t .bool (frmV x.1)))
theorem QTx : Meets Tryz.prog 219 (strip QFm) := Qb9 Qji fun x hok => Qqt x.1 hok
theorem QLb : Qai Tryz.prog 182 := .inr ⟨by decide, _, Tryz.func182, by kernel_rfl, by kernel_rfl⟩
def Qhs [Fuel] : Ent := spec (.pr Qak .nil) (fun x => (okT fuel x.1)) (fun x => (.t .bool (frmV x.1)))
theorem QPf : Qai Tryz.prog 182 := QLb
section
variable [Fuel] [Nonempty (PLift (Meets Tryz.prog 182 (strip Qhs)))]
theorem QNJ : Meets Tryz.prog 182 (strip Qhs) := (Classical.choice (inferInstance : Nonempty (PLift (Meets Tryz.prog 182 (strip Qhs))))).down
def frmIn [Fuel] (x : ValT) : Bool := okT (fuel + 1) x
def QgY : Fg := ⟨[(1, none), (3, some tI)], [(1, some Qak)]⟩
noncomputable def QiL : TC := (.sq (.sq (.reg (rT Tryz.f182 4)) (.cd (.t 43) .sk (.fg ⟨[], []⟩ (.ex 0)))) (.sq (.bk 1 (.sq (.reg (rT Tryz.f182 5)) (.cd (.t 52) (.sq (.reg (rT Tryz.f182 6)) (.fg ⟨[(2, some .bool)], []⟩ .rt)) .sk))) (.reg (rT Tryz.f182 7))))
noncomputable def Qxe : TC := (.sq (.reg (rT Tryz.f182 0)) (.sq (.sq (.reg (rT Tryz.f182 1)) (.cd (.t 38) (.sq (.reg (rT Tryz.f182 2)) .rt) .sk)) (.sq (.sq (.reg (rT Tryz.f182 3)) (.bk 0 (.lp 0 QgY QiL))) (.sq (.reg (rT Tryz.f182 8)) .rt))))
def QGW : List (RV × Option Ty) := [((.t 2), some .bool)]
abbrev Qo2 : Sh := ⟨[(1, .ptr 1 0), (3, .ty tI)], [(1, .box Qak)]⟩
def Qol (x3 : Int) (y1 : ValT) : VS := Qo2.st ((), x3, ()) (y1, ())
abbrev QsE : Sh := ⟨[(2, .ty .bool)], []⟩
def Qda (x2 : Bool) : VS := QsE.st (x2, ()) ()
abbrev Qu0 : Sh := ⟨[], []⟩
def QdY  : VS := Qu0.st () ()
def QQz : VS → Option (Bool × List (Bool × Exit × VS)) := mkL Qo2 (fun x y => (decide (0 ≤ x.2.1 ∧ x.2.1 ≤ y.1.2.2.2.1.length) && frmIn y.1)) (fun x y => [((false), .ret, Qda (false)), (true, .exit 0, QdY)])
def QlP : G := ⟨TYs, [], 53, EL [(182, Qhs), (210, QFp)], keeps, (Ls [QQz]), IL [], RL []⟩
def QCq (x3 : Int) (y1 : ValT) : Option (Exit × VS) :=
 let a1 := List.map Val.un y1.2.2.2.1
 let a2 := lgt Qak a1 (Int.toNat x3)
 br (ilt x3 (llen a1)) (br (cIx a1 x3) (br (okT fuel a2) (br (!(frmV a2)) (some (.ret, Qda false)) (some (.normal, Qol (iadd .i64 x3 1) y1))) none) none) (some (.exit 0, QdY))
noncomputable def Qjx (x3 : Int) (y1 : ValT) : Option (Exit × VS) := loopF (Qaj QlP QgY QiL) (Qol x3 y1)
noncomputable def Qm2 (x3 : Int) (y1 : ValT) : Option (Exit × VS) :=
 let a1 := List.map Val.un y1.2.2.2.1
 let a2 := lgt Qak a1 (Int.toNat x3)
 br (ilt x3 (llen a1)) (br (cIx a1 x3) (br (okT fuel a2) (br (!(frmV a2)) (some (.ret, Qda false)) (Qjx (iadd .i64 x3 1) y1)) none) none) (some (.exit 0, QdY))
def Qqj (x3 : Int) (y1 : ValT) : Option (Exit × VS) := br (false) (some (.ret, Qda (false))) <| some (.exit 0, QdY)
theorem QMd (x3 : Int) (y1 : ValT) : Qaj QlP QgY QiL (Qol x3 y1) = QCq x3 y1 := by kernel_rfl
theorem QvX (x3 : Int) (y1 : ValT) : Qjx x3 y1 = Qm2 x3 y1 := (Qao _ _).trans (by
 rw [QMd]
 simp only [QCq, Qm2, QaA, nxt_n, nxt_r, nxt_e, nxt_0]
 rfl)
def Qte (p0 : ValT) : Option (V × List VO) := br (decide (0 ≤ (0 : Int) ∧ (0 : Int) ≤ p0.2.2.2.1.length) && frmIn p0) (br (false) (some (.t .bool (false), [])) (some (.t .bool true, []))) none
def Qtf (p0 : ValT) : Option (V × List VO) := br (!p0.2.2.1) (br (igt (llen (List.map Val.un p0.2.2.2.1)) 0) (some (.t .bool false, [])) (Qte p0)) (Qte p0)
def QIg (p0 : ValT) : Option (V × List VO) := br (!(tagR p0.1)) (some (.t .bool false, [])) (br (cNz 32) (br (cNz 2) (br (bneq p0.2.2.1 (ieq (irem (iquo .i64 p0.1 32) 2) 1)) (some (.t .bool false, [])) (br (p0.2.2.1) (br (igt (llen p0.2.1) 0) (some (.t .bool false, [])) (Qtf p0)) (Qtf p0))) none) none)
theorem e_f182 (p0 : ValT) : runF QlP Qxe QGW false [.t Qak p0] [] = QIg p0 := by kernel_rfl
theorem QWy : GOk Tryz.prog QlP := Qal _ (gA (gC QPf QNJ (gC QXp QTA gN)))
theorem QOv (x3 : Int) (y1 : ValT) (h : (decide (0 ≤ x3 ∧ x3 ≤ y1.2.2.2.1.length) && frmIn y1) = true) : Qjx x3 y1 = Qqj x3 y1 := by
 simp only [Bool.and_eq_true, decide_eq_true_eq] at h
 obtain ⟨⟨h0, h1⟩, hc⟩ := h
 obtain ⟨k, rfl⟩ := Int.eq_ofNat_of_zero_le h0
 have hm := QyF hc
 have hl := (QcE hc).2.2.2.2.2.1
 refine Qau (List.map Val.un y1.2.2.2.1) (fun k => Qjx (k : Int) y1 = Qqj (k : Int) y1) ?_ ?_ k (by rw [List.length_map]; omega)
 ·rw [QvX]
  simp [Qm2, Qqj, ilt, llen, Qaf]
 ·intro k hk ih
  rw [QvX]
  have hk2 : k < y1.2.2.2.1.length := by rw [List.length_map] at hk; exact hk
  simp only [Qm2, show ilt (k : Int) (llen (List.map Val.un y1.2.2.2.1)) = true from decide_eq_true (by simp only [llen]; omega), Qax, hk, decide_true, Qad, Int.toNat_natCast, add1 (show k < 4611686018427387904 by omega), Qaz (y := Qak) hk, hm k hk, frmV, Bool.not_true, Qaf, ih]
  rfl
theorem QJM : ∀ S l p, QlP.L 0 (fgt QgY S) = some (true, l) → pickA l = some p → loopF (Qaj QlP QgY QiL) S = some p :=
 QaB (s := Qo2) ⟨by decide, by decide⟩ (by kernel_rfl) fun x y hok p hp => by
 simp only [Qas, Qan] at hp
 exact (QOv x.2.1 y.1 (by simpa using hok)).trans hp
theorem QUW : Qxe.lok QlP := by
 repeat (first | exact trivial | exact QJM | refine ⟨?_, ?_⟩)
theorem s_f182 (x : ValT) (h : okT (fuel + 1) x = true) : QIg x = some (.t .bool (frmV x), []) := by
 obtain ⟨h1, h2, h3, h4, h5, h6, h7⟩ := QcE h
 have ht : tagR x.1 = true := by rcases h1 with e | e | e | e <;> rw [e] <;> rfl
 have hn : bneq x.2.2.1 (ieq (irem (iquo .i64 x.1 32) 2) 1) = false := by rw [h2]; rcases h1 with e | e | e | e <;> rw [e] <;> rfl
 have hd : decide ((0 : Int) ≤ 0 ∧ (0 : Int) ≤ x.2.2.2.1.length) = true := decide_eq_true (by omega)
 simp only [QIg, Qtf, Qte, ht, hn, hd, show frmIn x = true from h, Bool.and_self, show cNz 32 = true from rfl, show cNz 2 = true from rfl, Bool.not_true, Qad, Qaf]
 cases hq : x.2.2.1 with
 | true =>
  rw [h3 hq]
  rfl
 | false =>
  rw [h4 hq]
  rfl
theorem QUr : Meets Tryz.prog 182 (runF QlP Qxe QGW false) := mG Tryz.func182 (by kernel_rfl) Tryz.ntmps182 (by kernel_rfl) QWy QUW
end
theorem QgB : ∀ N : Nat, Meets Tryz.prog 182 (strip (@Qhs ⟨N⟩))
 | 0 => Qb8 fun x => by first | rfl | simp [okT]
 | N + 1 => by
  letI : Fuel := ⟨N⟩
  haveI : Nonempty (PLift (Meets Tryz.prog 182 (strip Qhs))) := ⟨⟨QgB N⟩⟩
  exact Qag QUr fun x hok => (e_f182 x.1).trans (s_f182 x.1 hok)
def QFB : Ent := spec (.pr Qak .nil) (fun x => (frmOk x.1)) (fun x => (.t .bool (frmV x.1)))
theorem QTM : Meets Tryz.prog 182 (strip QFB) := Qb9 QgB fun x hok => Qli x.1 hok
def dpV (x : ValT) : Int := (depV (Val.of x) : Int)
def depLF (n : Nat) (x : ValT) : Bool := okT n x && decide (n ≤ 100)
def dpOk (x : ValT) : Bool := okT 12 x
theorem Qrb (x : ValT) (h : dpOk x = true) : ∃ N, depLF N x = true := ⟨12, by rw [depLF, show okT 12 x = true from h]; rfl⟩
theorem Qmj (x : ValT) (h : dpOk x = true) : ∃ N, depLF N x = true := ⟨12, by rw [depLF, show okT 12 x = true from h]; rfl⟩
def depL (l : List ValT) : Nat := depVs (l.map Val.of)
theorem QB2 : depL [] = 0 := rfl
theorem Qwt (x : ValT) (l : List ValT) : depL (x :: l) = max (depV (Val.of x)) (depL l) := rfl
theorem Qt8 (x : ValT) : depV (Val.of x) = depVs x.2.2.2.1 + 1 := rfl
theorem QKs (a b : Nat) : imx (a : Int) (b : Int) = ((max a b : Nat) : Int) := by
 unfold imx
 split <;> omega
theorem QK4 : Qai Tryz.prog 220 := .inr ⟨by decide, _, Tryz.func220, by kernel_rfl, by kernel_rfl⟩
def Qhn [Fuel] : Ent := spec (.pr Qak .nil) (fun x => (depLF fuel x.1)) (fun x => (.t tI (dpV x.1)))
theorem QPa : Qai Tryz.prog 220 := QK4
section
variable [Fuel] [Nonempty (PLift (Meets Tryz.prog 220 (strip Qhn)))]
theorem QNE : Meets Tryz.prog 220 (strip Qhn) := (Classical.choice (inferInstance : Nonempty (PLift (Meets Tryz.prog 220 (strip Qhn))))).down
def depIn [Fuel] (l : List ValT) : Bool := decide (l.length ≤ 100000 ∧ fuel + 1 ≤ 100) && l.all (okT fuel)
def QgQ : Fg := ⟨[(3, some tI), (7, some (.sl Qak)), (8, some tI), (9, some tI)], []⟩
noncomputable def QiD : TC := (.sq (.reg (rT Tryz.f220 3)) (.sq (.cd (.t 10) .sk (.fg ⟨[(3, some tI)], []⟩ (.ex 0))) (.sq (.bk 1 (.sq (.reg (rT Tryz.f220 4)) (.reg (rT Tryz.f220 5)))) (.reg (rT Tryz.f220 6)))))
noncomputable def QwW : TC := (.sq (.reg (rT Tryz.f220 0)) (.sq (.reg (rT Tryz.f220 1)) (.sq (.sq (.reg (rT Tryz.f220 2)) (.bk 0 (.lp 0 QgQ QiD))) (.sq (.reg (rT Tryz.f220 7)) .rt))))
def QGE : List (RV × Option Ty) := [((.t 2), some tI)]
abbrev QoT : Sh := ⟨[(3, .ty tI), (7, .ty (.sl Qak)), (8, .ty tI), (9, .ty tI)], []⟩
def Qod (x3 : Int) (x7 : List ValT) (x8 x9 : Int) : VS := QoT.st (x3, x7, x8, x9, ()) ()
abbrev QuS : Sh := ⟨[(3, .ty tI)], []⟩
def QdR (x3 : Int) : VS := QuS.st (x3, ()) ()
def QQr : VS → Option (Bool × List (Bool × Exit × VS)) := mkL QoT (fun x y => (rngOk x.2.1 x.2.2.1 x.2.2.2.1 && depIn x.2.1 && decide (0 ≤ x.1 ∧ x.1 ≤ 100))) (fun x y => [(true, .exit 0, QdR ((max x.1.toNat (depL (x.2.1.drop x.2.2.2.1.toNat)) : Nat) : Int))])
def QlH : G := ⟨TYs, [], 20, EL [(220, Qhn)], keeps, (Ls [QQr]), IL [], RL []⟩
def QCi (x3 : Int) (x7 : List ValT) (x8 x9 : Int) : Option (Exit × VS) :=
 let a1 := lgt Qak x7 (Int.toNat x9)
 br (ilt x9 x8) (br (cIx x7 x9) (br (depLF fuel a1) (some (.normal, Qod (imx x3 (dpV a1)) x7 x8 (iadd .i64 x9 1))) none) none) (some (.exit 0, QdR x3))
noncomputable def Qjp (x3 : Int) (x7 : List ValT) (x8 x9 : Int) : Option (Exit × VS) := loopF (Qaj QlH QgQ QiD) (Qod x3 x7 x8 x9)
noncomputable def QmW (x3 : Int) (x7 : List ValT) (x8 x9 : Int) : Option (Exit × VS) :=
 let a1 := lgt Qak x7 (Int.toNat x9)
 br (ilt x9 x8) (br (cIx x7 x9) (br (depLF fuel a1) (Qjp (imx x3 (dpV a1)) x7 x8 (iadd .i64 x9 1)) none) none) (some (.exit 0, QdR x3))
def QjT (x3 : Int) (x7 : List ValT) (x8 x9 : Int) : Option (Exit × VS) := some (.exit 0, QdR ((max x3.toNat (depL (x7.drop x9.toNat)) : Nat) : Int))
theorem QL5 (x3 : Int) (x7 : List ValT) (x8 x9 : Int) : Qaj QlH QgQ QiD (Qod x3 x7 x8 x9) = QCi x3 x7 x8 x9 := by kernel_rfl
theorem QvQ (x3 : Int) (x7 : List ValT) (x8 x9 : Int) : Qjp x3 x7 x8 x9 = QmW x3 x7 x8 x9 := (Qao _ _).trans (by
 rw [QL5]
 simp only [QCi, QmW, QaA, nxt_n, nxt_r, nxt_e, nxt_0]
 rfl)
def QH0 (p0 : ValT) : Option (V × List VO) :=
 let a1 := List.map Val.un p0.2.2.2.1
 br (rngOk a1 (llen a1) (0 : Int) && depIn a1 && decide (0 ≤ (0 : Int) ∧ (0 : Int) ≤ 100)) (some (.t tI (iadd .i64 ((max (0 : Int).toNat (depL (a1.drop (0 : Int).toNat)) : Nat) : Int) 1), [])) none
theorem e_f220 (p0 : ValT) : runF QlH QwW QGE false [.t Qak p0] [] = QH0 p0 := by kernel_rfl
theorem QWg : GOk Tryz.prog QlH := Qal _ (gA (gC QPa QNE gN))
theorem QOn (x3 : Int) (x7 : List ValT) (x8 x9 : Int) (h : (rngOk x7 x8 x9 && depIn x7 && decide (0 ≤ x3 ∧ x3 ≤ 100)) = true) : Qjp x3 x7 x8 x9 = QjT x3 x7 x8 x9 := by
 simp only [Bool.and_eq_true, decide_eq_true_eq] at h
 obtain ⟨⟨h0, hc⟩, h1, h2⟩ := h
 obtain ⟨rfl, h3, k, rfl, hk⟩ := rng_k h0
 clear h0
 obtain ⟨m, rfl⟩ := Int.eq_ofNat_of_zero_le h1
 clear h1 h2
 simp only [depIn, Bool.and_eq_true, List.all_eq_true, decide_eq_true_eq] at hc
 obtain ⟨⟨hc0, hc1⟩, hc2⟩ := hc
 revert m
 refine Qau x7 (fun k => ∀ m : Nat, Qjp (m : Int) x7 (x7.length : Int) (k : Int) = QjT (m : Int) x7 (x7.length : Int) (k : Int)) ?_ ?_ k hk
 ·intro m
  rw [QvQ]
  simp [QmW, QjT, Qat, Qaf, QB2]
 ·intro k hk ih m
  rw [QvQ]
  have hx := hc2 x7[k] (List.getElem_mem hk)
  have hd : depLF fuel x7[k] = true := by rw [depLF, hx, decide_eq_true (by omega)]; rfl
  simp only [QmW, Qat, Qax, hk, decide_true, Qad, Int.toNat_natCast, add1 (show k < 4611686018427387904 by omega), Qaz (y := Qak) hk, hd, dpV, QKs, ih]
  simp only [QjT, Int.toNat_natCast, List.drop_eq_getElem_cons hk, Qwt, Nat.max_assoc]
theorem QJE : ∀ S l p, QlH.L 0 (fgt QgQ S) = some (true, l) → pickA l = some p → loopF (Qaj QlH QgQ QiD) S = some p :=
 QaB (s := QoT) ⟨by decide, by decide⟩ (by kernel_rfl) fun x y hok p hp => by
 simp only [Qas, Qan] at hp
 exact (QOn x.1 x.2.1 x.2.2.1 x.2.2.2.1 (by simpa using hok)).trans hp
theorem QUE : QwW.lok QlH := by
 repeat (first | exact trivial | exact QJE | refine ⟨?_, ?_⟩)
theorem s_f220 (x : ValT) (h : depLF (fuel + 1) x = true) : QH0 x = some (.t tI (dpV x), []) := by
 simp only [depLF, Bool.and_eq_true, decide_eq_true_eq] at h
 obtain ⟨h, hf⟩ := h
 obtain ⟨h1, h2, h3, h4, h5, h6, h7⟩ := QcE h
 have hu : depIn (List.map Val.un x.2.2.2.1) = true := by
  simp only [depIn, Bool.and_eq_true, decide_eq_true_eq, List.length_map, List.all_eq_true, List.mem_map]
  refine ⟨⟨h6, hf⟩, ?_⟩
  rintro y ⟨v, hv, rfl⟩
  rw [Qvx]
  exact h7 v hv
 have hd := Qtn (v := Val.of x) h
 rw [Qt8] at hd
 simp only [QH0, rng_0 (show (List.map Val.un x.2.2.2.1).length ≤ 100000 by rw [List.length_map]; exact h6), hu, Bool.and_self, show decide ((0 : Int) ≤ 0 ∧ (0 : Int) ≤ 100) = true from rfl, Qad, Int.toNat_zero, List.drop_zero, depL, QcN, Nat.zero_max]
 rw [Qbi (by omega)]
 simp only [dpV, Qt8]
 congr 2
theorem QUm : Meets Tryz.prog 220 (runF QlH QwW QGE false) := mG Tryz.func220 (by kernel_rfl) Tryz.ntmps220 (by kernel_rfl) QWg QUE
end
theorem Qly : ∀ N : Nat, Meets Tryz.prog 220 (strip (@Qhn ⟨N⟩))
 | 0 => Qb8 fun x => by first | rfl | simp [depLF]
 | N + 1 => by
  letI : Fuel := ⟨N⟩
  haveI : Nonempty (PLift (Meets Tryz.prog 220 (strip Qhn))) := ⟨⟨Qly N⟩⟩
  exact Qag QUm fun x hok => (e_f220 x.1).trans (s_f220 x.1 hok)
def QFl : Ent := spec (.pr Qak .nil) (fun x => (dpOk x.1)) (fun x => (.t tI (dpV x.1)))
theorem QTw : Meets Tryz.prog 220 (strip QFl) := Qb9 Qly fun x hok => Qrb x.1 hok
theorem QLa : Qai Tryz.prog 183 := .inr ⟨by decide, _, Tryz.func183, by kernel_rfl, by kernel_rfl⟩
def Qhr [Fuel] : Ent := spec (.pr Qak .nil) (fun x => (depLF fuel x.1)) (fun x => (.t tI (dpV x.1)))
theorem QPe : Qai Tryz.prog 183 := QLa
section
variable [Fuel] [Nonempty (PLift (Meets Tryz.prog 183 (strip Qhr)))]
theorem QNI : Meets Tryz.prog 183 (strip Qhr) := (Classical.choice (inferInstance : Nonempty (PLift (Meets Tryz.prog 183 (strip Qhr))))).down
def Qwu [Fuel] (x : ValT) : Bool := depLF (fuel + 1) x
def QgX : Fg := ⟨[(1, none), (3, some tI), (4, some tI)], [(1, some Qak)]⟩
noncomputable def QiK : TC := (.sq (.sq (.reg (rT Tryz.f183 3)) (.cd (.t 9) .sk (.fg ⟨[(3, some tI)], []⟩ (.ex 0)))) (.sq (.bk 1 (.reg (rT Tryz.f183 4))) (.reg (rT Tryz.f183 5))))
noncomputable def Qxd : TC := (.sq (.reg (rT Tryz.f183 0)) (.sq (.reg (rT Tryz.f183 1)) (.sq (.sq (.reg (rT Tryz.f183 2)) (.bk 0 (.lp 0 QgX QiK))) (.sq (.reg (rT Tryz.f183 6)) .rt))))
def QGV : List (RV × Option Ty) := [((.t 2), some tI)]
abbrev Qo1 : Sh := ⟨[(1, .ptr 1 0), (3, .ty tI), (4, .ty tI)], [(1, .box Qak)]⟩
def Qok (x3 x4 : Int) (y1 : ValT) : VS := Qo1.st ((), x3, x4, ()) (y1, ())
abbrev QuZ : Sh := ⟨[(3, .ty tI)], []⟩
def QdX (x3 : Int) : VS := QuZ.st (x3, ()) ()
def QQy : VS → Option (Bool × List (Bool × Exit × VS)) := mkL Qo1 (fun x y => (decide (0 ≤ x.2.2.1 ∧ x.2.2.1 ≤ y.1.2.2.2.1.length ∧ 0 ≤ x.2.1 ∧ x.2.1 ≤ 100) && Qwu y.1)) (fun x y => [(true, .exit 0, QdX ((max x.2.1.toNat (depL ((List.map Val.un y.1.2.2.2.1).drop x.2.2.1.toNat)) : Nat) : Int))])
def QlO : G := ⟨TYs, [], 22, EL [(183, Qhr)], keeps, (Ls [QQy]), IL [], RL []⟩
def QCp (x3 x4 : Int) (y1 : ValT) : Option (Exit × VS) :=
 let a1 := List.map Val.un y1.2.2.2.1
 let a2 := lgt Qak a1 (Int.toNat x4)
 br (ilt x4 (llen a1)) (br (cIx a1 x4) (br (depLF fuel a2) (some (.normal, Qok (imx x3 (dpV a2)) (iadd .i64 x4 1) y1)) none) none) (some (.exit 0, QdX x3))
noncomputable def Qjw (x3 x4 : Int) (y1 : ValT) : Option (Exit × VS) := loopF (Qaj QlO QgX QiK) (Qok x3 x4 y1)
noncomputable def Qm1 (x3 x4 : Int) (y1 : ValT) : Option (Exit × VS) :=
 let a1 := List.map Val.un y1.2.2.2.1
 let a2 := lgt Qak a1 (Int.toNat x4)
 br (ilt x4 (llen a1)) (br (cIx a1 x4) (br (depLF fuel a2) (Qjw (imx x3 (dpV a2)) (iadd .i64 x4 1) y1) none) none) (some (.exit 0, QdX x3))
def QjY (x3 x4 : Int) (y1 : ValT) : Option (Exit × VS) := some (.exit 0, QdX ((max x3.toNat (depL ((List.map Val.un y1.2.2.2.1).drop x4.toNat)) : Nat) : Int))
theorem QMc (x3 x4 : Int) (y1 : ValT) : Qaj QlO QgX QiK (Qok x3 x4 y1) = QCp x3 x4 y1 := by kernel_rfl
theorem QvW (x3 x4 : Int) (y1 : ValT) : Qjw x3 x4 y1 = Qm1 x3 x4 y1 := (Qao _ _).trans (by
 rw [QMc]
 simp only [QCp, Qm1, QaA, nxt_n, nxt_r, nxt_e, nxt_0]
 rfl)
def QIf (p0 : ValT) : Option (V × List VO) := br (decide (0 ≤ (0 : Int) ∧ (0 : Int) ≤ p0.2.2.2.1.length ∧ 0 ≤ (0 : Int) ∧ (0 : Int) ≤ 100) && Qwu p0) (some (.t tI (iadd .i64 ((max (0 : Int).toNat (depL ((List.map Val.un p0.2.2.2.1).drop (0 : Int).toNat)) : Nat) : Int) 1), [])) none
theorem e_f183 (p0 : ValT) : runF QlO Qxd QGV false [.t Qak p0] [] = QIf p0 := by kernel_rfl
theorem QWx : GOk Tryz.prog QlO := Qal _ (gA (gC QPe QNI gN))
theorem QOu (x3 x4 : Int) (y1 : ValT) (h : (decide (0 ≤ x4 ∧ x4 ≤ y1.2.2.2.1.length ∧ 0 ≤ x3 ∧ x3 ≤ 100) && Qwu y1) = true) : Qjw x3 x4 y1 = QjY x3 x4 y1 := by
 simp only [Bool.and_eq_true, decide_eq_true_eq] at h
 obtain ⟨⟨h0, h1, h2, h3⟩, hc⟩ := h
 obtain ⟨k, rfl⟩ := Int.eq_ofNat_of_zero_le h0
 obtain ⟨m, rfl⟩ := Int.eq_ofNat_of_zero_le h2
 clear h2 h3
 simp only [Qwu, depLF, Bool.and_eq_true, decide_eq_true_eq] at hc
 obtain ⟨hc, hf⟩ := hc
 have hm := QyF hc
 have hl := (QcE hc).2.2.2.2.2.1
 revert m
 refine Qau (List.map Val.un y1.2.2.2.1) (fun k => ∀ m : Nat, Qjw (m : Int) (k : Int) y1 = QjY (m : Int) (k : Int) y1) ?_ ?_ k (by rw [List.length_map]; omega)
 ·intro m
  rw [QvW]
  simp only [Qm1, show ilt ((List.map Val.un y1.2.2.2.1).length : Int) (llen (List.map Val.un y1.2.2.2.1)) = false from decide_eq_false (by simp only [llen]; omega), Qaf]
  simp only [QjY, Int.toNat_natCast, List.drop_length, QB2, Nat.max_zero]
 ·intro k hk ih m
  rw [QvW]
  have hk2 : k < y1.2.2.2.1.length := by rw [List.length_map] at hk; exact hk
  have hd : depLF fuel (List.map Val.un y1.2.2.2.1)[k] = true := by rw [depLF, hm k hk, decide_eq_true (by omega)]; rfl
  simp only [Qm1, show ilt (k : Int) (llen (List.map Val.un y1.2.2.2.1)) = true from decide_eq_true (by simp only [llen]; omega), Qax, hk, decide_true, Qad, Int.toNat_natCast, add1 (show k < 4611686018427387904 by omega), Qaz (y := Qak) hk, hd, dpV, QKs, ih]
  simp only [QjY, Int.toNat_natCast, List.drop_eq_getElem_cons hk, Qwt, Nat.max_assoc]
theorem QJL : ∀ S l p, QlO.L 0 (fgt QgX S) = some (true, l) → pickA l = some p → loopF (Qaj QlO QgX QiK) S = some p :=
 QaB (s := Qo1) ⟨by decide, by decide⟩ (by kernel_rfl) fun x y hok p hp => by
 simp only [Qas, Qan] at hp
 exact (QOu x.2.1 x.2.2.1 y.1 (by simpa using hok)).trans hp
theorem QUV : Qxd.lok QlO := by
 repeat (first | exact trivial | exact QJL | refine ⟨?_, ?_⟩)
theorem s_f183 (x : ValT) (h : depLF (fuel + 1) x = true) : QIf x = some (.t tI (dpV x), []) := by
 have hin : Qwu x = true := h
 simp only [depLF, Bool.and_eq_true, decide_eq_true_eq] at h
 obtain ⟨h, hf⟩ := h
 have hd := Qtn (v := Val.of x) h
 rw [Qt8] at hd
 have hdd : decide ((0 : Int) ≤ 0 ∧ (0 : Int) ≤ x.2.2.2.1.length ∧ (0 : Int) ≤ 0 ∧ (0 : Int) ≤ 100) = true := decide_eq_true (by omega)
 simp only [QIf, hin, hdd, Bool.and_self, Qad, Int.toNat_zero, List.drop_zero, depL, QcN, Nat.zero_max]
 rw [Qbi (by omega)]
 simp only [dpV, Qt8]
 congr 2
theorem QUq : Meets Tryz.prog 183 (runF QlO Qxd QGV false) := mG Tryz.func183 (by kernel_rfl) Tryz.ntmps183 (by kernel_rfl) QWx QUV
end
theorem Qh0 : ∀ N : Nat, Meets Tryz.prog 183 (strip (@Qhr ⟨N⟩))
 | 0 => Qb8 fun x => by first | rfl | simp [depLF]
 | N + 1 => by
  letI : Fuel := ⟨N⟩
  haveI : Nonempty (PLift (Meets Tryz.prog 183 (strip Qhr))) := ⟨⟨Qh0 N⟩⟩
  exact Qag QUq fun x hok => (e_f183 x.1).trans (s_f183 x.1 hok)
def QFA : Ent := spec (.pr Qak .nil) (fun x => (dpOk x.1)) (fun x => (.t tI (dpV x.1)))
theorem QTL : Meets Tryz.prog 183 (strip QFA) := Qb9 Qh0 fun x hok => Qmj x.1 hok
end
end Go.Proofs.YtckcgijklnloiaaGreat.K
set_option linter.unusedSectionVars false
namespace Go.Proofs.YtckcgijklnloiaaGreat.K
open Go.RowKit
noncomputable section
def encT (x : ValT) : List Int := encV (Val.of x)
def encL (l : List ValT) : List Int := encVs (l.map Val.of)
theorem QhR : encL [] = [] := rfl
theorem Qcq (x : ValT) (l : List ValT) : encL (x :: l) = encT x ++ encL l := rfl
theorem QqD (x : ValT) : encT x = icv .u8 x.1 :: (lenL (x.2.1.length + (encVs x.2.2.2.1).length) ++ (x.2.1 ++ encVs x.2.2.2.1)) := rfl
theorem QqC (x : ValT) : x.2.1.length + (encVs x.2.2.2.1).length ≤ (encT x).length := QO5 x.1 x.2.1 x.2.2.1 x.2.2.2.1
theorem Qlm : ∀ (l : List ValT) (k : Nat) (hk : k < l.length), (encL (l.take k)).length + (encT l[k]).length ≤ (encL l).length
 | [], k, hk => by simp at hk
 | x :: l, 0, _ => by
  rw [List.take_zero, QhR, Qcq, List.length_append]
  simp
 | x :: l, k + 1, hk => by
  simp only [List.length_cons] at hk
  have := Qlm l k (by omega)
  simp only [List.take_succ_cons, Qcq, List.length_append, List.getElem_cons_succ]
  omega
theorem QhE (n : Nat) : (lenL n).length ≤ 9 := by
 unfold lenL
 split
 ·simp
 ·rw [List.length_cons, Qt7]
  have := Qt9 8 n
  omega
def encLF (n : Nat) (x : ValT) : Bool := okT n x && decide ((encT x).length ≤ 100000000)
def encOk (x : ValT) : Bool := okT 12 x && decide ((encT x).length ≤ 100000000)
theorem Qra (x : ValT) (h : encOk x = true) : ∃ N, encLF N x = true := ⟨12, h⟩
theorem QK9 : Qai Tryz.prog 184 := .inr ⟨by decide, _, Tryz.func184, by kernel_rfl, by kernel_rfl⟩
def Qhq [Fuel] : Ent := spec (.pr Qak .nil) (fun x => (encLF fuel x.1)) (fun x => (.t (.sl (.int .u8)) (encT x.1)))
theorem QPd : Qai Tryz.prog 184 := QK9
section
variable [Fuel] [Nonempty (PLift (Meets Tryz.prog 184 (strip Qhq)))]
theorem QNH : Meets Tryz.prog 184 (strip Qhq) := (Classical.choice (inferInstance : Nonempty (PLift (Meets Tryz.prog 184 (strip Qhq))))).down
def encIn [Fuel] (x : ValT) : Bool := encLF (fuel + 1) x
noncomputable def QLt : List DO := dT Tryz.f184 6
def QgW : Fg := ⟨[(1, none), (3, none), (4, some tI)], [(1, some Qak), (3, none), (5, none), (8, none), (23, none)]⟩
noncomputable def QiJ : TC := (.sq (.sq (.reg (rT Tryz.f184 3)) (.cd (.t 13) .sk (.fg ⟨[(1, none), (3, none)], [(1, some Qak), (3, none), (5, none), (8, none), (23, none)]⟩ (.ex 0)))) (.sq (.bk 1 (.reg (rT Tryz.f184 4))) (.reg (rT Tryz.f184 5))))
noncomputable def Qxc : TC := (.sq (.reg (rT Tryz.f184 0)) (.sq (.reg (rT Tryz.f184 1)) (.sq (.sq (.reg (rT Tryz.f184 2)) (.bk 0 (.nw 3 5 (.lp 0 QgW QiJ)))) (.sq (.dr QLt [(0, [1]), (1, [1]), (2, []), (3, [27, 5027, 10027, 15027]), (4, [3, 5, 8, 23]), (5, [3, 5, 8, 23]), (6, []), (7, [27, 31, 5031, 10031, 15031]), (8, [3, 5, 8, 23]), (9, [3, 5, 8, 23, 27, 31, 33, 5033, 10033, 15033]), (10, [27, 31, 33])] (.of [0, 1, 2, 4, 5, 6, 8, 3, 7, 9, 10])) .rt))))
def QGU : List (RV × Option Ty) := [((.t 2), some (.sl (.int .u8)))]
abbrev Qo0 : Sh := ⟨[(1, .ptr 1 0), (3, .ms 5), (4, .ty tI)], [(1, .box Qak), (3, .no), (5, .arr 5 (.int .u8)), (8, .no), (23, .no)]⟩
def Qoj (x4 : Int) (y1 : ValT) (y5 : List Int) : VS := Qo0.st ((), (), x4, ()) (y1, (), y5, (), (), ())
abbrev QuY : Sh := ⟨[(1, .ptr 1 0), (3, .ms 5)], [(1, .box Qak), (3, .no), (5, .arr 5 (.int .u8)), (8, .no), (23, .no)]⟩
def QdW (y1 : ValT) (y5 : List Int) : VS := QuY.st ((), (), ()) (y1, (), y5, (), (), ())
def QQx : VS → Option (Bool × List (Bool × Exit × VS)) := mkL Qo0 (fun x y => (decide (0 ≤ x.2.2.1 ∧ x.2.2.1 ≤ y.1.2.2.2.1.length ∧ y.2.2.1.length + (encL ((List.map Val.un y.1.2.2.2.1).drop x.2.2.1.toNat)).length ≤ 1000000000) && encIn y.1)) (fun x y => [(true, .exit 0, QdW (y.1) (y.2.2.1 ++ encL ((List.map Val.un y.1.2.2.2.1).drop x.2.2.1.toNat)))])
def QlN : G := ⟨TYs, [5, 27], 34, EL [(184, Qhq), (211, QFo)], keeps, (Ls [QQx]), IL [], RL []⟩
def QCo (x4 : Int) (y1 : ValT) (y5 : List Int) : Option (Exit × VS) :=
 let a2 := List.map Val.un y1.2.2.2.1
 let a1 := lgt Qak a2 (Int.toNat x4)
 br (ilt x4 (llen a2)) (br (cIx a2 x4) (br (encLF fuel a1) (br (cApp y5 (encT a1) 1) (some (.normal, Qoj (iadd .i64 x4 1) y1 (y5 ++ (encT a1)))) none) none) none) (some (.exit 0, QdW y1 y5))
noncomputable def Qjv (x4 : Int) (y1 : ValT) (y5 : List Int) : Option (Exit × VS) := loopF (Qaj QlN QgW QiJ) (Qoj x4 y1 y5)
noncomputable def Qm0 (x4 : Int) (y1 : ValT) (y5 : List Int) : Option (Exit × VS) :=
 let a2 := List.map Val.un y1.2.2.2.1
 let a1 := lgt Qak a2 (Int.toNat x4)
 br (ilt x4 (llen a2)) (br (cIx a2 x4) (br (encLF fuel a1) (br (cApp y5 (encT a1) 1) (Qjv (iadd .i64 x4 1) y1 (y5 ++ (encT a1))) none) none) none) (some (.exit 0, QdW y1 y5))
def QjX (x4 : Int) (y1 : ValT) (y5 : List Int) : Option (Exit × VS) := some (.exit 0, QdW (y1) (y5 ++ encL ((List.map Val.un y1.2.2.2.1).drop x4.toNat)))
theorem QMb (x4 : Int) (y1 : ValT) (y5 : List Int) : Qaj QlN QgW QiJ (Qoj x4 y1 y5) = QCo x4 y1 y5 := by kernel_rfl
theorem QvV (x4 : Int) (y1 : ValT) (y5 : List Int) : Qjv x4 y1 y5 = Qm0 x4 y1 y5 := (Qao _ _).trans (by
 rw [QMb]
 simp only [QCo, Qm0, QaA, nxt_n, nxt_r, nxt_e, nxt_0]
 rfl)
def QIe (p0 : ValT) : Option (V × List VO) :=
 let a2 := List.map Val.un p0.2.2.2.1
 let a3 := (a2.drop (0 : Int).toNat)
 let a1 := (llen ((([] : List Int) ++ p0.2.1) ++ encL a3))
 let a4 := icv .u8 ((p0).1)
 br (cApp ([] : List Int) p0.2.1 1) (br (decide (0 ≤ (0 : Int) ∧ (0 : Int) ≤ p0.2.2.2.1.length ∧ (([] : List Int) ++ p0.2.1).length + (encL a3).length ≤ 1000000000) && encIn p0) (br (Qwe a1) (br (cApp ([a4]) (lenR a1) 1) (br (cApp (([a4]) ++ (lenR a1)) ((([] : List Int) ++ p0.2.1) ++ encL a3) 1) (some (.t (.sl (.int .u8)) ((([a4]) ++ (lenR a1)) ++ ((([] : List Int) ++ p0.2.1) ++ encL a3)), [])) none) none) none) none) none
theorem e_f184 (p0 : ValT) : runF QlN Qxc QGU false [.t Qak p0] [] = QIe p0 := by kernel_rfl
theorem QWw : GOk Tryz.prog QlN := Qal _ (gA (gC QPd QNH (gC QXo QTz gN)))
theorem QOt (x4 : Int) (y1 : ValT) (y5 : List Int) (h : (decide (0 ≤ x4 ∧ x4 ≤ y1.2.2.2.1.length ∧ y5.length + (encL ((List.map Val.un y1.2.2.2.1).drop x4.toNat)).length ≤ 1000000000) && encIn y1) = true) : Qjv x4 y1 y5 = QjX x4 y1 y5 := by
 simp only [Bool.and_eq_true, decide_eq_true_eq] at h
 obtain ⟨⟨h0, h1, h2⟩, hc⟩ := h
 obtain ⟨k, rfl⟩ := Int.eq_ofNat_of_zero_le h0
 simp only [encIn, encLF, Bool.and_eq_true, decide_eq_true_eq] at hc
 obtain ⟨hc, hf⟩ := hc
 have hm := QyF hc
 have hl := (QcE hc).2.2.2.2.2.1
 rw [Int.toNat_natCast] at h2
 have hel := QqC y1
 have hE : encL (List.map Val.un y1.2.2.2.1) = encVs y1.2.2.2.1 := by rw [encL, QcN]
 revert y5
 refine Qau (List.map Val.un y1.2.2.2.1) (fun k => ∀ y5 : List Int, y5.length + (encL ((List.map Val.un y1.2.2.2.1).drop k)).length ≤ 1000000000 → Qjv (k : Int) y1 y5 = QjX (k : Int) y1 y5) ?_ ?_ k (by rw [List.length_map]; omega)
 ·intro y5 _
  rw [QvV]
  simp only [Qm0, show ilt ((List.map Val.un y1.2.2.2.1).length : Int) (llen (List.map Val.un y1.2.2.2.1)) = false from decide_eq_false (by simp only [llen]; omega), Qaf]
  simp only [QjX, Int.toNat_natCast, List.drop_length, QhR, List.append_nil]
 ·intro k hk ih y5 hy
  rw [QvV]
  have hk2 : k < y1.2.2.2.1.length := by rw [List.length_map] at hk; exact hk
  have hs := Qlm (List.map Val.un y1.2.2.2.1) k hk
  rw [hE] at hs
  rw [List.drop_eq_getElem_cons hk, Qcq, List.length_append] at hy
  have hd : encLF fuel (List.map Val.un y1.2.2.2.1)[k] = true := by rw [encLF, hm k hk, decide_eq_true (by omega)]; rfl
  simp only [Qm0, show ilt (k : Int) (llen (List.map Val.un y1.2.2.2.1)) = true from decide_eq_true (by simp only [llen]; omega), Qax, hk, decide_true, Qad, Int.toNat_natCast, add1 (show k < 4611686018427387904 by omega), Qaz (y := Qak) hk, hd]
  rw [cAppN (by omega) (by omega), Qad, ih _ (by rw [List.length_append]; omega)]
  simp only [QjX, Int.toNat_natCast, List.drop_eq_getElem_cons hk, Qcq, List.append_assoc]
theorem QJK : ∀ S l p, QlN.L 0 (fgt QgW S) = some (true, l) → pickA l = some p → loopF (Qaj QlN QgW QiJ) S = some p :=
 QaB (s := Qo0) ⟨by decide, by decide⟩ (by kernel_rfl) fun x y hok p hp => by
 simp only [Qas, Qan] at hp
 exact (QOt x.2.2.1 y.1 y.2.2.1 (by simpa using hok)).trans hp
theorem QUU : Qxc.lok QlN := by
 repeat (first | exact trivial | exact QJK | refine ⟨?_, ?_⟩)
theorem s_f184 (x : ValT) (h : encLF (fuel + 1) x = true) : QIe x = some (.t (.sl (.int .u8)) (encT x), []) := by
 have hin : encIn x = true := h
 simp only [encLF, Bool.and_eq_true, decide_eq_true_eq] at h
 obtain ⟨h, hf⟩ := h
 have hel := QqC x
 have hE : encL (List.map Val.un x.2.2.2.1) = encVs x.2.2.2.1 := by rw [encL, QcN]
 have hll := QhE (x.2.1.length + (encVs x.2.2.2.1).length)
 simp only [QIe, hin, Bool.and_true, List.nil_append, Int.toNat_zero, List.drop_zero, hE]
 rw [cAppN (by omega) (by simp only [List.length_nil]; omega), Qad, decide_eq_true ⟨by omega, by omega, by omega⟩, Qad]
 have e1 : Qwe (llen (x.2.1 ++ encVs x.2.2.2.1)) = true := decide_eq_true (by simp only [llen, List.length_append]; omega)
 have e2 : lenR (llen (x.2.1 ++ encVs x.2.2.2.1)) = lenL (x.2.1.length + (encVs x.2.2.2.1).length) := by simp only [lenR, llen, List.length_append, Int.toNat_natCast]
 rw [e1, Qad, e2, cAppN (by omega) (by simp only [List.length_singleton]; omega), Qad, cAppN (by omega) (by simp only [List.length_append, List.length_singleton]; omega), Qad, QqD]
 simp only [List.singleton_append, List.cons_append, List.nil_append]
theorem QUp : Meets Tryz.prog 184 (runF QlN Qxc QGU false) := mG Tryz.func184 (by kernel_rfl) Tryz.ntmps184 (by kernel_rfl) QWw QUU
end
theorem Qlx : ∀ N : Nat, Meets Tryz.prog 184 (strip (@Qhq ⟨N⟩))
 | 0 => Qb8 fun x => by first | rfl | simp [encLF]
 | N + 1 => by
  letI : Fuel := ⟨N⟩
  haveI : Nonempty (PLift (Meets Tryz.prog 184 (strip Qhq))) := ⟨⟨Qlx N⟩⟩
  exact Qag QUp fun x hok => (e_f184 x.1).trans (s_f184 x.1 hok)
def QFz : Ent := spec (.pr Qak .nil) (fun x => (encOk x.1)) (fun x => (.t (.sl (.int .u8)) (encT x.1)))
theorem QTK : Meets Tryz.prog 184 (strip QFz) := Qb9 Qlx fun x hok => Qra x.1 hok
def encE (x : ValT) : List Int × Int := if 4096 < (encT x).length then ([], 3) else (encT x, 0)
theorem QBX {x : ValT} (h : okT 12 x = true) : igt (dpV x) 16 = false := by
 have := Qtn (v := Val.of x) h
 exact decide_eq_false (by show ¬ ((depV (Val.of x) : Int) > 16); omega)
noncomputable def Qxp : TC := (.sq (.reg (rT Tryz.f157 0)) (.sq (.sq (.reg (rT Tryz.f157 1)) (.cd (.t 7) (.sq (.reg (rT Tryz.f157 2)) .rt) .sk)) (.sq (.sq (.reg (rT Tryz.f157 3)) (.cd (.t 10) (.sq (.reg (rT Tryz.f157 4)) .rt) .sk)) (.sq (.reg (rT Tryz.f157 5)) (.sq (.sq (.reg (rT Tryz.f157 6)) (.cd (.t 15) (.sq (.reg (rT Tryz.f157 7)) .rt) .sk)) (.sq (.reg (rT Tryz.f157 8)) .rt))))))
def QG7 : List (RV × Option Ty) := [((.t 2), some (.sl (.int .u8))), ((.t 3), some tI)]
def QBr : G := ⟨TYs, [], 17, EL [(182, QFB), (183, QFA), (184, QFz)], keeps, (fun _ _ => none), IL [], RL []⟩
def QIp (p0 : ValT) : Option (V × List VO) := br (frmOk p0) (br (!(frmV p0)) (some (.tu [(.t (.sl (.int .u8)) ([] : List Int)), (.t tI 1)], [])) (br (dpOk p0) (br (igt (dpV p0) 16) (some (.tu [(.t (.sl (.int .u8)) ([] : List Int)), (.t tI 3)], [])) (br (encOk p0) (br (igt (llen (encT p0)) 4096) (some (.tu [(.t (.sl (.int .u8)) ([] : List Int)), (.t tI 3)], [])) (some (.tu [(.t (.sl (.int .u8)) (encT p0)), (.t tI 0)], []))) none)) none)) none
theorem e_f157 (p0 : ValT) : runF QBr Qxp QG7 false [.t Qak p0] [] = QIp p0 := by kernel_rfl
theorem QXJ : Qai Tryz.prog 157 := .inr ⟨by decide, _, Tryz.func157, by kernel_rfl, by kernel_rfl⟩
theorem QWJ : GOk Tryz.prog QBr := Qal _ (gA (gC QLb QTM (gC QLa QTL (gC QK9 QTK gN))))
theorem QU7 : Qxp.lok QBr := by repeat (first | exact trivial | refine ⟨?_, ?_⟩)
theorem s_f157 (x : ValT) (h : encOk x = true) : QIp x = some (.tu [.t (.sl (.int .u8)) (encE x).1, .t tI (encE x).2], []) := by
 have h' := h
 simp only [encOk, Bool.and_eq_true, decide_eq_true_eq] at h'
 obtain ⟨h1, h2⟩ := h'
 simp only [QIp, show frmOk x = true from h1, show dpOk x = true from h1, h, QBX h1, frmV, Bool.not_true, Qad, Qaf]
 unfold encE
 refine QaE (fun g => ?_) (fun g => ?_)
 ·simp only [igt, llen, decide_eq_true_eq] at g
  rw [if_pos (by omega)]
 ·simp only [igt, llen, decide_eq_false_iff_not] at g
  rw [if_neg (by omega)]
def QFM : Ent := spec (.pr Qak .nil) (fun x => (encOk x.1)) (fun x => (.tu [(.t (.sl (.int .u8)) ((encE x.1).1)), (.t tI ((encE x.1).2))]))
theorem QTX : Meets Tryz.prog 157 (strip QFM) := Qag (R := runF QBr Qxp QG7 false) (mG Tryz.func157 (by kernel_rfl) Tryz.ntmps157 (by kernel_rfl) QWJ QU7) fun x hok => (e_f157 x.1).trans (s_f157 x.1 hok)
def conV (x : ValT) : List Int := x.2.1 ++ encVs x.2.2.2.1
theorem QB6 (x : ValT) : (conV x).length = x.2.1.length + (encVs x.2.2.2.1).length := List.length_append
theorem Qlk (x : ValT) (h : encOk x = true) : ∃ N, encLF N x = true := ⟨12, h⟩
def eleV (b : List Int) (x : ValT) : List Int := b ++ encT x
theorem QSQ (b : List Int) (x : ValT) : lenA (b ++ [icv .u8 x.1]) (llen (conV x)) ++ conV x = eleV b x := by
 simp only [lenA, eleV, QqD, llen, Int.toNat_natCast, conV, List.length_append, List.append_assoc, List.singleton_append, List.cons_append, List.nil_append]
theorem QK2 : Qai Tryz.prog 234 := .inr ⟨by decide, _, Tryz.func234, by kernel_rfl, by kernel_rfl⟩
def Qhm [Fuel] : Ent := spec (.pr Qak .nil) (fun x => (encLF fuel x.1)) (fun x => (.t (.sl (.int .u8)) (conV x.1)))
theorem QO7 : Qai Tryz.prog 234 := QK2
section
variable [Fuel] [Nonempty (PLift (Meets Tryz.prog 234 (strip Qhm)))]
theorem QNB : Meets Tryz.prog 234 (strip Qhm) := (Classical.choice (inferInstance : Nonempty (PLift (Meets Tryz.prog 234 (strip Qhm))))).down
def QqN [Fuel] (b : List Int) (x : ValT) : Bool := decide (b.length ≤ 500000000) && encLF fuel x
noncomputable def QrZ : TC := (.ad [(50000, 49000)] (.sq (.reg (rT Tryz.f221 0)) (.sq (.reg (rT Tryz.f221 1)) (.sq (.reg (rT Tryz.f221 2)) .rt))))
def QAj : List (RV × Option Ty) := [((.t 4), none)]
def QtX : G := ⟨TYs, [], 19, EL [(234, Qhm), (235, QxW)], (235 :: keeps), (fun _ _ => none), IL [], RL []⟩
def QyB (p0 : List Int) (p1 : ValT) : Option (V × List VO) :=
 let a1 := lenA (p0 ++ ([(icv .u8 p1.1)])) (llen (conV p1))
 br (encLF fuel p1) (br (cApp p0 ([(icv .u8 p1.1)]) 1) (br (Qqf (p0 ++ ([(icv .u8 p1.1)])) (llen (conV p1))) (br (cApp a1 (conV p1) 1) (some (.ms 50001, [.no, .arr 5 (.int .u8) (a1 ++ (conV p1))])) none) none) none) none
theorem QX6 (p0 : List Int) (p1 : ValT) : runF QtX QrZ QAj true [.ms 50000, .t Qak p1] [.arr 5 (.int .u8) p0] = QyB p0 p1 := by kernel_rfl
theorem QO8 : Qai Tryz.prog 221 := .inr ⟨by decide, _, Tryz.func221, by kernel_rfl, by kernel_rfl⟩
theorem QOT : GOk Tryz.prog QtX := Qal _ (gA (gC QO7 QNB (gC QK1 QJf gN)))
theorem QOd : QrZ.lok QtX := by repeat (first | exact trivial | refine ⟨?_, ?_⟩)
theorem QS7 (b : List Int) (x : ValT) (h : QqN b x = true) : QyB b x = some (.ms 50001, [.no, .arr 5 (.int .u8) (eleV b x)]) := by
 simp only [QqN, Bool.and_eq_true, decide_eq_true_eq] at h
 obtain ⟨h1, h2⟩ := h
 have h3 := h2
 simp only [encLF, Bool.and_eq_true, decide_eq_true_eq] at h3
 have hel := QqC x
 have hcl := QB6 x
 have hll := QhE (conV x).length
 simp only [QyB, h2, Qad]
 rw [cAppN (by omega) (by simp only [List.length_singleton]; omega), Qad, show Qqf (b ++ [icv .u8 x.1]) (llen (conV x)) = true from decide_eq_true (by simp only [llen, List.length_append, List.length_singleton]; omega), Qad, cAppN (by omega) (by simp only [lenA, llen, Int.toNat_natCast, List.length_append, List.length_singleton]; omega), Qad, QSQ]
def QAb : Ent := specS [.ms 50000, .ty Qak] [.arr 5 (.int .u8)] (fun x y => (QqN y.1 x.2.1)) (fun x y => (.ms 50001)) (fun x y => [.no, .arr 5 (.int .u8) (eleV y.1 x.2.1)])
theorem QNC : Meets Tryz.prog 221 (strip QAb) := QaU (R := runF QtX QrZ QAj true) (mG Tryz.func221 (by kernel_rfl) Tryz.ntmps221 (by kernel_rfl) QOT QOd) fun x y hok => (QX6 y.1 x.2.1).trans (QS7 y.1 x.2.1 hok)
def conIn [Fuel] (l : List ValT) : Bool := decide (l.length ≤ 100000 ∧ (encL l).length ≤ 100000000) && l.all (okT fuel)
def QgN : Fg := ⟨[(3, none), (12, some (.sl Qak)), (13, some tI), (14, some tI)], [(3, none), (20, none), (5020, none), (10020, none), (15020, none)]⟩
noncomputable def QiA : TC := (.mv [(20, 3)] (.sq (.reg (rT Tryz.f234 5)) (.sq (.cd (.t 15) .sk (.fg ⟨[(3, none)], [(3, none), (20, none), (5020, none), (10020, none), (15020, none)]⟩ (.ex 0))) (.sq (.bk 1 (.sq (.reg (rT Tryz.f234 6)) (.reg (rT Tryz.f234 7)))) (.reg (rT Tryz.f234 8))))))
noncomputable def QwN : TC := (.sq (.reg (rT Tryz.f234 0)) (.sq (.sq (.reg (rT Tryz.f234 1)) (.cd (.t 8) (.sq (.reg (rT Tryz.f234 2)) .rt) .sk)) (.sq (.reg (rT Tryz.f234 3)) (.sq (.sq (.reg (rT Tryz.f234 4)) (.bk 0 (.nw 3 5 (.lp 0 QgN QiA)))) (.sq (.reg (rT Tryz.f234 9)) .rt)))))
def QGv : List (RV × Option Ty) := [((.t 2), some (.sl (.int .u8)))]
abbrev QoQ : Sh := ⟨[(3, .ms 3), (12, .ty (.sl Qak)), (13, .ty tI), (14, .ty tI)], [(3, .arr 5 (.int .u8)), (20, .no), (5020, .no), (10020, .no), (15020, .no)]⟩
def Qoa (x12 : List ValT) (x13 x14 : Int) (y3 : List Int) : VS := QoQ.st ((), x12, x13, x14, ()) (y3, (), (), (), (), ())
abbrev QuO : Sh := ⟨[(3, .ms 3)], [(3, .arr 5 (.int .u8)), (20, .no), (5020, .no), (10020, .no), (15020, .no)]⟩
def QdO (y3 : List Int) : VS := QuO.st ((), ()) (y3, (), (), (), (), ())
def QQo : VS → Option (Bool × List (Bool × Exit × VS)) := mkL QoQ (fun x y => (rngOk x.2.1 x.2.2.1 x.2.2.2.1 && conIn x.2.1 && decide (y.1.length + (encL (x.2.1.drop x.2.2.2.1.toNat)).length ≤ 200000000))) (fun x y => [(true, .exit 0, QdO (y.1 ++ encL (x.2.1.drop x.2.2.2.1.toNat)))])
def QlG : G := ⟨TYs, [], 23, EL [(221, QAb)], (221 :: keeps), (Ls [QQo]), IL [], RL []⟩
def QCf (x12 : List ValT) (x13 x14 : Int) (y3 : List Int) : Option (Exit × VS) :=
 let a1 := lgt Qak x12 (Int.toNat x14)
 br (ilt x14 x13) (br (cIx x12 x14) (br (QqN y3 a1) (some (.normal, Qoa x12 x13 (iadd .i64 x14 1) (eleV y3 a1))) none) none) (some (.exit 0, QdO y3))
noncomputable def Qjo (x12 : List ValT) (x13 x14 : Int) (y3 : List Int) : Option (Exit × VS) := loopF (Qaj QlG QgN QiA) (Qoa x12 x13 x14 y3)
noncomputable def QmU (x12 : List ValT) (x13 x14 : Int) (y3 : List Int) : Option (Exit × VS) :=
 let a1 := lgt Qak x12 (Int.toNat x14)
 br (ilt x14 x13) (br (cIx x12 x14) (br (QqN y3 a1) (Qjo x12 x13 (iadd .i64 x14 1) (eleV y3 a1)) none) none) (some (.exit 0, QdO y3))
def QjR (x12 : List ValT) (x13 x14 : Int) (y3 : List Int) : Option (Exit × VS) := some (.exit 0, QdO (y3 ++ encL (x12.drop x14.toNat)))
theorem QL2 (x12 : List ValT) (x13 x14 : Int) (y3 : List Int) : Qaj QlG QgN QiA (Qoa x12 x13 x14 y3) = QCf x12 x13 x14 y3 := by kernel_rfl
theorem QvO (x12 : List ValT) (x13 x14 : Int) (y3 : List Int) : Qjo x12 x13 x14 y3 = QmU x12 x13 x14 y3 := (Qao _ _).trans (by
 rw [QL2]
 simp only [QCf, QmU, QaA, nxt_n, nxt_r, nxt_e, nxt_0]
 rfl)
def QHS (p0 : ValT) : Option (V × List VO) :=
 let a1 := List.map Val.un p0.2.2.2.1
 let a2 := (a1.drop (0 : Int).toNat)
 br (!p0.2.2.1) (some (.t (.sl (.int .u8)) p0.2.1, [])) (br (rngOk a1 (llen a1) (0 : Int) && conIn a1 && decide (([] : List Int).length + (encL a2).length ≤ 200000000)) (some (.t (.sl (.int .u8)) (([] : List Int) ++ encL a2), [])) none)
theorem e_f234 (p0 : ValT) : runF QlG QwN QGv false [.t Qak p0] [] = QHS p0 := by kernel_rfl
theorem QV7 : GOk Tryz.prog QlG := Qal _ (gA (gC QO8 QNC gN))
theorem QOk (x12 : List ValT) (x13 x14 : Int) (y3 : List Int) (h : (rngOk x12 x13 x14 && conIn x12 && decide (y3.length + (encL (x12.drop x14.toNat)).length ≤ 200000000)) = true) : Qjo x12 x13 x14 y3 = QjR x12 x13 x14 y3 := by
 simp only [Bool.and_eq_true, decide_eq_true_eq] at h
 obtain ⟨⟨h0, hc⟩, h2⟩ := h
 obtain ⟨rfl, h3, k, rfl, hk⟩ := rng_k h0
 clear h0
 rw [Int.toNat_natCast] at h2
 simp only [conIn, Bool.and_eq_true, List.all_eq_true, decide_eq_true_eq] at hc
 obtain ⟨⟨hc0, hc1⟩, hc2⟩ := hc
 revert y3
 refine Qau x12 (fun k => ∀ y3 : List Int, y3.length + (encL (x12.drop k)).length ≤ 200000000 → Qjo x12 (x12.length : Int) (k : Int) y3 = QjR x12 (x12.length : Int) (k : Int) y3) ?_ ?_ k hk
 ·intro y3 _
  rw [QvO]
  simp only [QmU, Qat, Nat.lt_irrefl, decide_false, Qaf]
  simp only [QjR, Int.toNat_natCast, List.drop_length, QhR, List.append_nil]
 ·intro k hk ih y3 hy
  rw [QvO]
  have hx := hc2 x12[k] (List.getElem_mem hk)
  have hs := Qlm x12 k hk
  rw [List.drop_eq_getElem_cons hk, Qcq, List.length_append] at hy
  have hd : QqN y3 x12[k] = true := by rw [QqN, encLF, hx, decide_eq_true (show y3.length ≤ 500000000 by omega), decide_eq_true (show (encT x12[k]).length ≤ 100000000 by omega)]; rfl
  simp only [QmU, Qat, Qax, hk, decide_true, Qad, Int.toNat_natCast, add1 (show k < 4611686018427387904 by omega), Qaz (y := Qak) hk, hd, eleV]
  rw [ih _ (by rw [List.length_append]; omega)]
  simp only [QjR, Int.toNat_natCast, List.drop_eq_getElem_cons hk, Qcq, List.append_assoc]
theorem QJB : ∀ S l p, QlG.L 0 (fgt QgN S) = some (true, l) → pickA l = some p → loopF (Qaj QlG QgN QiA) S = some p :=
 QaB (s := QoQ) ⟨by decide, by decide⟩ (by kernel_rfl) fun x y hok p hp => by
 simp only [Qas, Qan] at hp
 exact (QOk x.2.1 x.2.2.1 x.2.2.2.1 y.1 (by simpa using hok)).trans hp
theorem QUv : QwN.lok QlG := by
 repeat (first | exact trivial | exact QJB | refine ⟨?_, ?_⟩)
theorem s_f234 (x : ValT) (h : encLF (fuel + 1) x = true) : QHS x = some (.t (.sl (.int .u8)) (conV x), []) := by
 simp only [encLF, Bool.and_eq_true, decide_eq_true_eq] at h
 obtain ⟨h, hf⟩ := h
 obtain ⟨h1, h2, h3, h4, h5, h6, h7⟩ := QcE h
 have hel := QqC x
 have hE : encL (List.map Val.un x.2.2.2.1) = encVs x.2.2.2.1 := by rw [encL, QcN]
 have hu : conIn (List.map Val.un x.2.2.2.1) = true := by
  simp only [conIn, Bool.and_eq_true, decide_eq_true_eq, List.length_map, List.all_eq_true, List.mem_map, hE]
  refine ⟨⟨h6, by omega⟩, ?_⟩
  rintro y ⟨v, hv, rfl⟩
  rw [Qvx]
  exact h7 v hv
 simp only [QHS, rng_0 (show (List.map Val.un x.2.2.2.1).length ≤ 100000 by rw [List.length_map]; exact h6), hu, Bool.and_self, Bool.true_and, Int.toNat_zero, List.drop_zero, hE, List.nil_append, List.length_nil]
 cases hq : x.2.2.1 with
 | true =>
  rw [Bool.not_true, Qaf, decide_eq_true (by omega), Qad]
  simp only [conV, h3 hq, List.nil_append]
 | false =>
  rw [Bool.not_false, Qad]
  simp only [conV, h4 hq, encVs, List.append_nil]
theorem QUl : Meets Tryz.prog 234 (runF QlG QwN QGv false) := mG Tryz.func234 (by kernel_rfl) Tryz.ntmps234 (by kernel_rfl) QV7 QUv
end
theorem QgD : ∀ N : Nat, Meets Tryz.prog 234 (strip (@Qhm ⟨N⟩))
 | 0 => Qb8 fun x => by first | rfl | simp [encLF]
 | N + 1 => by
  letI : Fuel := ⟨N⟩
  haveI : Nonempty (PLift (Meets Tryz.prog 234 (strip Qhm))) := ⟨⟨QgD N⟩⟩
  exact Qag QUl fun x hok => (e_f234 x.1).trans (s_f234 x.1 hok)
def QFe : Ent := spec (.pr Qak .nil) (fun x => (encOk x.1)) (fun x => (.t (.sl (.int .u8)) (conV x.1)))
theorem QTp : Meets Tryz.prog 234 (strip QFe) := Qb9 QgD fun x hok => Qlk x.1 hok
def eleN (x : ValT) : List Int := encT x
noncomputable def Qr0 : TC := (.sq (.reg (rT Tryz.f221 0)) (.sq (.reg (rT Tryz.f221 1)) (.sq (.reg (rT Tryz.f221 2)) .rt)))
def QAk : List (RV × Option Ty) := [((.t 4), none)]
def QtY : G := ⟨TYs, [], 19, EL [(234, QFe), (235, QxW)], (235 :: keeps), (fun _ _ => none), IL [], RL []⟩
def QyC (p1 : ValT) : Option (V × List VO) :=
 let a1 := (lenA (([] : List Int) ++ ([(icv .u8 p1.1)])) (llen (conV p1)))
 br (encOk p1) (br (cApp ([] : List Int) ([(icv .u8 p1.1)]) 1) (br (Qqf (([] : List Int) ++ ([(icv .u8 p1.1)])) (llen (conV p1))) (br (cApp a1 (conV p1) 1) (some (.ms 50000, [.arr 5 (.int .u8) (a1 ++ (conV p1))])) none) none) none) none
theorem QX7 (p1 : ValT) : runF QtY Qr0 QAk true [.c (.slice none 0 0), .t Qak p1] [] = QyC p1 := by kernel_rfl
theorem QO9 : Qai Tryz.prog 221 := .inr ⟨by decide, _, Tryz.func221, by kernel_rfl, by kernel_rfl⟩
theorem QOU : GOk Tryz.prog QtY := Qal _ (gA (gC QK2 QTp (gC QK1 QJf gN)))
theorem QOe : Qr0.lok QtY := by repeat (first | exact trivial | refine ⟨?_, ?_⟩)
theorem QS8 (x : ValT) (h : encOk x = true) : QyC x = some (.ms 50000, [.arr 5 (.int .u8) (eleN x)]) := by
 have h3 := h
 simp only [encOk, Bool.and_eq_true, decide_eq_true_eq] at h3
 have hel := QqC x
 have hcl := QB6 x
 have hll := QhE (conV x).length
 simp only [QyC, h, Qad]
 rw [cAppN (by omega) (by simp), Qad, show Qqf ([] ++ [icv .u8 x.1]) (llen (conV x)) = true from decide_eq_true (by simp only [llen, List.length_append, List.length_singleton, List.length_nil]; omega), Qad, cAppN (by omega) (by simp only [lenA, llen, Int.toNat_natCast, List.length_append, List.length_singleton, List.length_nil]; omega), Qad, QSQ]
 rfl
def QAc : Ent := specB [.nl, .ty Qak] [] (fun x y => (encOk x.2.1)) (fun x y => (.ms 50000)) (fun x y => [.arr 5 (.int .u8) (eleN x.2.1)])
theorem QND : Meets Tryz.prog 221 (strip QAc) := QcA (QaU (R := runF QtY Qr0 QAk true) (mG Tryz.func221 (by kernel_rfl) Tryz.ntmps221 (by kernel_rfl) QOU QOe) fun x y hok => (QX7 x.2.1).trans (QS8 x.2.1 hok))
noncomputable def Qw6 : TC := (.sq (.reg (rT Tryz.f201 0)) (.sq (.sq (.reg (rT Tryz.f201 1)) (.cd (.t 7) (.sq (.reg (rT Tryz.f201 2)) .rt) .sk)) (.sq (.sq (.reg (rT Tryz.f201 3)) (.cd (.t 10) (.sq (.reg (rT Tryz.f201 4)) .rt) .sk)) (.sq (.reg (rT Tryz.f201 5)) (.sq (.sq (.reg (rT Tryz.f201 6)) (.cd (.t 15) (.sq (.reg (rT Tryz.f201 7)) .rt) .sk)) (.sq (.reg (rT Tryz.f201 8)) .rt))))))
def QGO : List (RV × Option Ty) := [((.t 2), some (.sl (.int .u8))), ((.t 3), some tI)]
def QBg : G := ⟨TYs, [], 17, EL [(219, QFm), (220, QFl), (221, QAc)], keeps, (fun _ _ => none), IL [], RL []⟩
def QH9 (p0 : ValT) : Option (V × List VO) := br (frmOk p0) (br (!(frmV p0)) (some (.tu [(.t (.sl (.int .u8)) ([] : List Int)), (.t tI 1)], [])) (br (dpOk p0) (br (igt (dpV p0) 16) (some (.tu [(.t (.sl (.int .u8)) ([] : List Int)), (.t tI 3)], [])) (br (encOk p0) (br (igt (llen (eleN p0)) 4096) (some (.tu [(.t (.sl (.int .u8)) ([] : List Int)), (.t tI 3)], [])) (some (.tu [(.t (.sl (.int .u8)) (eleN p0)), (.t tI 0)], []))) none)) none)) none
theorem e_f201 (p0 : ValT) : runF QBg Qw6 QGO false [.t Qak p0] [] = QH9 p0 := by kernel_rfl
theorem QXv : Qai Tryz.prog 201 := .inr ⟨by decide, _, Tryz.func201, by kernel_rfl, by kernel_rfl⟩
theorem QWq : GOk Tryz.prog QBg := Qal _ (gA (gC QK5 QTx (gC QK4 QTw (gC QO9 QND gN))))
theorem QUO : Qw6.lok QBg := by repeat (first | exact trivial | refine ⟨?_, ?_⟩)
theorem s_f201 (x : ValT) (h : encOk x = true) : QH9 x = some (.tu [.t (.sl (.int .u8)) (encE x).1, .t tI (encE x).2], []) := by
 have h' := h
 simp only [encOk, Bool.and_eq_true, decide_eq_true_eq] at h'
 obtain ⟨h1, h2⟩ := h'
 simp only [QH9, show frmOk x = true from h1, show dpOk x = true from h1, h, QBX h1, frmV, eleN, Bool.not_true, Qad, Qaf]
 unfold encE
 refine QaE (fun g => ?_) (fun g => ?_)
 ·simp only [igt, llen, decide_eq_true_eq] at g
  rw [if_pos (by omega)]
 ·simp only [igt, llen, decide_eq_false_iff_not] at g
  rw [if_neg (by omega)]
def QFv : Ent := spec (.pr Qak .nil) (fun x => (encOk x.1)) (fun x => (.tu [(.t (.sl (.int .u8)) ((encE x.1).1)), (.t tI ((encE x.1).2))]))
theorem QTG : Meets Tryz.prog 201 (strip QFv) := Qag (R := runF QBg Qw6 QGO false) (mG Tryz.func201 (by kernel_rfl) Tryz.ntmps201 (by kernel_rfl) QWq QUO) fun x hok => (e_f201 x.1).trans (s_f201 x.1 hok)
def lstT (l : List ValT) : ValT := (48, (([] : List Int), (true, (List.map Val.of l, ()))))
noncomputable def QwU : TC := (.sq (.reg (rT Tryz.f223 0)) (.sq (.reg (rT Tryz.f223 1)) .rt))
def QGC : List (RV × Option Ty) := [((.c 2 true 4), some Qak)]
def QA9 : G := ⟨TYs, [], 6, EL [(236, QFd)], keeps, (fun _ _ => none), IL [], RL []⟩
def QHY (p0 : List ValT) : Option (V × List VO) := br (copOk p0) (some (.t Qak (48, (([] : List Int), (true, ((List.map Val.of (copV p0)), ())))), [])) none
theorem e_f223 (p0 : List ValT) : runF QA9 QwU QGC false [.t (.sl Qak) p0] [] = QHY p0 := by kernel_rfl
theorem QzC : Qai Tryz.prog 223 := .inr ⟨by decide, _, Tryz.func223, by kernel_rfl, by kernel_rfl⟩
theorem QWe : GOk Tryz.prog QA9 := Qal _ (gA (gC QK0 QTo gN))
theorem QUC : QwU.lok QA9 := by repeat (first | exact trivial | refine ⟨?_, ?_⟩)
theorem s_f223 (l : List ValT) (h : copOk l = true) : QHY l = some (.t Qak (lstT l), []) := by
 simp only [QHY, h, Qad]
 rfl
def Qsg : Ent := spec (.pr (.sl Qak) .nil) (fun x => (copOk x.1)) (fun x => (.t Qak (lstT x.1)))
theorem QyM : Meets Tryz.prog 223 (strip Qsg) := Qag (R := runF QA9 QwU QGC false) (mG Tryz.func223 (by kernel_rfl) Tryz.ntmps223 (by kernel_rfl) QWe QUC) fun x hok => (e_f223 x.1).trans (s_f223 x.1 hok)
noncomputable def QwQ : TC := (.sq (.reg (rT Tryz.f227 0)) (.sq (.reg (rT Tryz.f227 1)) .rt))
def QGy : List (RV × Option Ty) := [((.c 2 true 4), some Qak)]
def QA6 : G := ⟨TYs, [], 5, EL [(223, Qsg)], keeps, (fun _ _ => none), IL [], RL []⟩
def QHV (p0 : List ValT) : Option (V × List VO) := br (copOk p0) (some (.t Qak (lstT p0), [])) none
theorem e_f227 (p0 : List ValT) : runF QA6 QwQ QGy false [.t (.sl Qak) p0] [] = QHV p0 := by kernel_rfl
theorem QXk : Qai Tryz.prog 227 := .inr ⟨by decide, _, Tryz.func227, by kernel_rfl, by kernel_rfl⟩
theorem QWa : GOk Tryz.prog QA6 := Qal _ (gA (gC QzC QyM gN))
theorem QUy : QwQ.lok QA6 := by repeat (first | exact trivial | refine ⟨?_, ?_⟩)
theorem s_f227 (l : List ValT) (h : copOk l = true) : QHV l = some (.t Qak (lstT l), []) := by
 simp only [QHV, h, Qad]
def QFh : Ent := spec (.pr (.sl Qak) .nil) (fun x => (copOk x.1)) (fun x => (.t Qak (lstT x.1)))
theorem QTs : Meets Tryz.prog 227 (strip QFh) := Qag (R := runF QA6 QwQ QGy false) (mG Tryz.func227 (by kernel_rfl) Tryz.ntmps227 (by kernel_rfl) QWa QUy) fun x hok => (e_f227 x.1).trans (s_f227 x.1 hok)
noncomputable def Qxa : TC := (.sq (.reg (rT Tryz.f186 0)) (.sq (.reg (rT Tryz.f186 1)) .rt))
def QGS : List (RV × Option Ty) := [((.c 2 true 4), some Qak)]
def QBj : G := ⟨TYs, [], 6, EL [(212, QFn)], keeps, (fun _ _ => none), IL [], RL []⟩
def QIc (p0 : List ValT) : Option (V × List VO) := br (copOk p0) (some (.t Qak (48, (([] : List Int), (true, ((List.map Val.of (copV p0)), ())))), [])) none
theorem e_f186 (p0 : List ValT) : runF QBj Qxa QGS false [.t (.sl Qak) p0] [] = QIc p0 := by kernel_rfl
theorem QK8 : Qai Tryz.prog 186 := .inr ⟨by decide, _, Tryz.func186, by kernel_rfl, by kernel_rfl⟩
theorem QWu : GOk Tryz.prog QBj := Qal _ (gA (gC QK6 QTy gN))
theorem QUS : Qxa.lok QBj := by repeat (first | exact trivial | refine ⟨?_, ?_⟩)
theorem s_f186 (l : List ValT) (h : copOk l = true) : QIc l = some (.t Qak (lstT l), []) := by
 simp only [QIc, h, Qad]
 rfl
def QxZ : Ent := spec (.pr (.sl Qak) .nil) (fun x => (copOk x.1)) (fun x => (.t Qak (lstT x.1)))
theorem QJi : Meets Tryz.prog 186 (strip QxZ) := Qag (R := runF QBj Qxa QGS false) (mG Tryz.func186 (by kernel_rfl) Tryz.ntmps186 (by kernel_rfl) QWu QUS) fun x hok => (e_f186 x.1).trans (s_f186 x.1 hok)
end
end Go.Proofs.YtckcgijklnloiaaGreat.K
