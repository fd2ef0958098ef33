import Derived.Test.YtckcgijklnloiaaGreatQ4
set_option linter.unusedSimpArgs false
set_option linter.unusedVariables false
namespace Go.Proofs.YtckcgijklnloiaaGreat.K
open Go.RowKit
noncomputable section
def intT (n : Int) : ValT := (2, (intL n, (false, (([] : List Val), ()))))
def i64Ok (n : Int) : Bool := decide (-9223372036854775808 ≤ n ∧ n < 9223372036854775808)
def Qg4 : Fg := ⟨[(0, some tI), (2, none), (3, none), (4, some tI)], [(2, some Qak), (3, none), (16, none)]⟩
noncomputable def QiW : TC := (.sq (.sq (.reg (rT Tryz.f224 3)) (.cd (.t 6) .sk (.fg ⟨[(2, none), (3, none)], [(2, some Qak), (3, none), (16, none)]⟩ (.ex 0)))) (.sq (.bk 1 (.reg (rT Tryz.f224 4))) (.reg (rT Tryz.f224 5))))
def Qg3 : Fg := ⟨[(2, none), (3, some (.sl (.int .u8)))], [(2, some Qak), (3, none), (16, none)]⟩
noncomputable def QiV : TC := (.sq (.sq (.reg (rT Tryz.f224 6)) (.cd (.t 43) .sk (.fg ⟨[(2, none), (3, none)], [(2, some Qak), (3, none), (16, none)]⟩ (.ex 2)))) (.bk 3 (.reg (rT Tryz.f224 7))))
noncomputable def Qx9 : TC := (.sq (.reg (rT Tryz.f224 0)) (.sq (.reg (rT Tryz.f224 1)) (.sq (.sq (.reg (rT Tryz.f224 2)) (.bk 0 (.nw 3 5 (.lp 0 Qg4 QiW)))) (.sq (.bk 2 (.fz [3] (.lp 1 Qg3 QiV))) (.sq (.reg (rT Tryz.f224 8)) .rt)))))
def QIc : List (RV × Option Ty) := [((.c 2 true 4), some Qak)]
abbrev QpD : Sh := ⟨[(0, .ty tI), (2, .ptr 2 0), (3, .ms 3), (4, .ty tI)], [(2, .box Qak), (3, .arr 5 (.int .u8)), (16, .no)]⟩
def QoW (x0 x4 : Int) (y2 : ValT) (y3 : List Int) : VS := QpD.st (x0, (), (), x4, ()) (y2, y3, (), ())
abbrev Qv1 : Sh := ⟨[(2, .ptr 2 0), (3, .ms 3)], [(2, .box Qak), (3, .arr 5 (.int .u8)), (16, .no)]⟩
def Qd3 (y2 : ValT) (y3 : List Int) : VS := Qv1.st ((), (), ()) (y2, y3, (), ())
abbrev QpC : Sh := ⟨[(2, .ptr 2 0), (3, .ty (.sl (.int .u8)))], [(2, .box Qak), (3, .no), (16, .no)]⟩
def QoV (x3 : List Int) (y2 : ValT) : VS := QpC.st ((), x3, ()) (y2, (), (), ())
abbrev Qv0 : Sh := ⟨[(2, .ptr 2 0), (3, .ty (.sl (.int .u8)))], [(2, .box Qak), (3, .no), (16, .no)]⟩
def Qbo (x3 : List Int) (y2 : ValT) : VS := Qv0.st ((), x3, ()) (y2, (), (), ())
def QSt : VS → Option (Bool × List (Bool × Exit × VS)) := mkL QpD (fun x y => (i64Ok x.1 && decide (y.2.1.length ≤ 100 ∧ -8 ≤ x.2.2.2.1 ∧ x.2.2.2.1 ≤ 56 ∧ x.2.2.2.1 % 8 = 0))) (fun x y => [(true, .exit 0, Qd3 (y.1) (y.2.1 ++ bytsN x.1 ((x.2.2.2.1 + 8) / 8).toNat))])
def QSs : VS → Option (Bool × List (Bool × Exit × VS)) := mkL QpC (fun x y => (decide (x.2.1.length ≤ 1000))) (fun x y => [(true, .exit 2, Qbo (trimB x.2.1) (y.1))])
def Qge : G := ⟨TYs, [], 48, EL [], keeps, (Ls [QSt, QSs]), IL [], RL []⟩
def QDN (x0 x4 : Int) (y2 : ValT) (y3 : List Int) : Option (Exit × VS) :=
 let a1 := icv .u8 (ishr .u64 (icv .u64 x0) x4)
 br (ige x4 0) (br (decide ((0 : Int) ≤ x4)) (br (cApp y3 ([a1]) 1) (some (.normal, QoW x0 (isub .i64 x4 8) y2 (y3 ++ ([a1])))) none) none) (some (.exit 0, Qd3 y2 y3))
noncomputable def QqS (x0 x4 : Int) (y2 : ValT) (y3 : List Int) : Option (Exit × VS) := loopF (Qaj Qge Qg4 QiW) (QoW x0 x4 y2 y3)
noncomputable def QnB (x0 x4 : Int) (y2 : ValT) (y3 : List Int) : Option (Exit × VS) :=
 let a1 := icv .u8 (ishr .u64 (icv .u64 x0) x4)
 br (ige x4 0) (br (decide ((0 : Int) ≤ x4)) (br (cApp y3 ([a1]) 1) (QqS x0 (isub .i64 x4 8) y2 (y3 ++ ([a1]))) none) none) (some (.exit 0, Qd3 y2 y3))
def Qq7 (x0 x4 : Int) (y2 : ValT) (y3 : List Int) : Option (Exit × VS) := some (.exit 0, Qd3 (y2) (y3 ++ bytsN x0 ((x4 + 8) / 8).toNat))
theorem QNV (x0 x4 : Int) (y2 : ValT) (y3 : List Int) : Qaj Qge Qg4 QiW (QoW x0 x4 y2 y3) = QDN x0 x4 y2 y3 := by kernel_rfl
theorem Qw1 (x0 x4 : Int) (y2 : ValT) (y3 : List Int) : QqS x0 x4 y2 y3 = QnB x0 x4 y2 y3 := (Qan _ _).trans (by
 rw [QNV]
 simp only [QDN, QnB, Qay, nxt_n, nxt_r, nxt_e, nxt_0]
 rfl)
def QlT (x3 : List Int) (y2 : ValT) : Option (Exit × VS) :=
 let a1 := (List.length x3 : Nat)
 br (cSl x3 1 (a1 : Int) (a1 : Int)) (some (.normal, QoV (lsl x3 1 (a1 : Int)) y2)) none
def QlS (x3 : List Int) (y2 : ValT) : Option (Exit × VS) := br (cIx x3 0) (br (ieq (lgt (.int .u8) x3 (Int.toNat 0)) 255) (br (cIx x3 1) (br (ige (lgt (.int .u8) x3 (Int.toNat 1)) 128) (QlT x3 y2) (some (.exit 2, Qbo x3 y2))) none) (some (.exit 2, Qbo x3 y2))) none
def QDM (x3 : List Int) (y2 : ValT) : Option (Exit × VS) := br (igt (llen x3) 1) (br (cIx x3 0) (br (ieq (lgt (.int .u8) x3 (Int.toNat 0)) 0) (br (cIx x3 1) (br (ilt (lgt (.int .u8) x3 (Int.toNat 1)) 128) (QlT x3 y2) (QlS x3 y2)) none) (QlS x3 y2)) none) (some (.exit 2, Qbo x3 y2))
noncomputable def QqR (x3 : List Int) (y2 : ValT) : Option (Exit × VS) := loopF (Qaj Qge Qg3 QiV) (QoV x3 y2)
noncomputable def Qdv (x3 : List Int) (y2 : ValT) : Option (Exit × VS) :=
 let a1 := (List.length x3 : Nat)
 br (cSl x3 1 (a1 : Int) (a1 : Int)) (QqR (lsl x3 1 (a1 : Int)) y2) none
noncomputable def Qdu (x3 : List Int) (y2 : ValT) : Option (Exit × VS) := br (cIx x3 0) (br (ieq (lgt (.int .u8) x3 (Int.toNat 0)) 255) (br (cIx x3 1) (br (ige (lgt (.int .u8) x3 (Int.toNat 1)) 128) (Qdv x3 y2) (some (.exit 2, Qbo x3 y2))) none) (some (.exit 2, Qbo x3 y2))) none
noncomputable def Qjz (x3 : List Int) (y2 : ValT) : Option (Exit × VS) := br (igt (llen x3) 1) (br (cIx x3 0) (br (ieq (lgt (.int .u8) x3 (Int.toNat 0)) 0) (br (cIx x3 1) (br (ilt (lgt (.int .u8) x3 (Int.toNat 1)) 128) (Qdv x3 y2) (Qdu x3 y2)) none) (Qdu x3 y2)) none) (some (.exit 2, Qbo x3 y2))
def Qkh (x3 : List Int) (y2 : ValT) : Option (Exit × VS) := some (.exit 2, Qbo (trimB x3) (y2))
theorem QNU (x3 : List Int) (y2 : ValT) : Qaj Qge Qg3 QiV (QoV x3 y2) = QDM x3 y2 := by kernel_rfl
theorem QqX (x3 : List Int) (y2 : ValT) : QqR x3 y2 = Qjz x3 y2 := (Qan _ _).trans (by
 rw [QNU]
 simp only [QDM, QlT, QlS, Qjz, Qdv, Qdu, Qay, nxt_n, nxt_r, nxt_e, nxt_0]
 rfl)
def QJH (p0 : Int) : Option (V × List VO) := br (i64Ok p0 && decide (([] : List Int).length ≤ 100 ∧ -8 ≤ (56 : Int) ∧ (56 : Int) ≤ 56 ∧ (56 : Int) % 8 = 0)) (br (decide ((([] : List Int) ++ bytsN p0 (((56 : Int) + 8) / 8).toNat).length ≤ 1000)) (some (.t Qak (2, ((trimB (([] : List Int) ++ bytsN p0 (((56 : Int) + 8) / 8).toNat)), (false, (([] : List Val), ())))), [])) none) none
theorem e_f224 (p0 : Int) : runF Qge Qx9 QIc false [.t tI p0] [] = QJH p0 := by kernel_rfl
theorem QMV : Qai Tryz.prog 224 := .inr ⟨by decide, _, Tryz.func224, by kernel_rfl, by kernel_rfl⟩
theorem QYA : GOk Tryz.prog Qge := Qal _ (fun p hp => by cases hp)
theorem QQm (x0 x4 : Int) (y2 : ValT) (y3 : List Int) (h : (i64Ok x0 && decide (y3.length ≤ 100 ∧ -8 ≤ x4 ∧ x4 ≤ 56 ∧ x4 % 8 = 0)) = true) : QqS x0 x4 y2 y3 = Qq7 x0 x4 y2 y3 := by
 simp only [Bool.and_eq_true, decide_eq_true_eq] at h
 obtain ⟨h0, h1, h2, h3, h4⟩ := h
 obtain ⟨k, hk⟩ : ∃ k : Nat, x4 = 8 * (k : Int) - 8 := ⟨((x4 + 8) / 8).toNat, by omega⟩
 subst hk
 have hk8 : k ≤ 8 := by omega
 have h9 : y3.length + k ≤ 200 := by omega
 clear h1 h2 h3 h4
 induction k generalizing y3 with
 | zero =>
  rw [Qw1]
  simp [QnB, Qq7, ige, Qaf, bytsN]
 | succ k ih =>
  rw [Qw1]
  have e0 : (8 * ((k + 1 : Nat) : Int) - 8) = ((8 * k : Nat) : Int) := by omega
  rw [e0]
  simp only [QnB, show ige ((8 * k : Nat) : Int) 0 = true from decide_eq_true (by omega), Qad, show decide ((0 : Int) ≤ ((8 * k : Nat) : Int)) = true from decide_eq_true (by omega), Q0L x0 k (by omega)]
  have e1 : isub .i64 ((8 * k : Nat) : Int) 8 = 8 * (k : Int) - 8 := by rw [Qb3 (by omega)]; omega
  rw [cAppN (by omega) (by simp only [List.length_singleton]; omega), Qad, e1, ih (y3 ++ [byt x0 k]) (by omega) (by simp only [List.length_append, List.length_singleton]; omega)]
  simp only [Qq7, show ((8 * (k : Int) - 8 + 8) / 8).toNat = k by omega, show ((((8 * k : Nat) : Int) + 8) / 8).toNat = k + 1 by omega, bytsN, List.append_assoc, List.singleton_append]
theorem QQl (x3 : List Int) (y2 : ValT) (h : (decide (x3.length ≤ 1000)) = true) : QqR x3 y2 = Qkh x3 y2 := by
 simp only [decide_eq_true_eq] at h
 induction x3 with
 | nil =>
  rw [QqX]
  simp [Qjz, Qdv, Qdu, Qkh, igt, llen, Qaf, trimB]
 | cons x l ih =>
  cases l with
  | nil =>
   rw [QqX]
   simp [Qjz, Qdv, Qdu, Qkh, igt, llen, Qaf, trimB, trimL]
  | cons y r =>
   rw [QqX]
   simp only [List.length_cons] at h
   have e1 : igt (llen (x :: y :: r)) 1 = true := by simp only [igt, llen, List.length_cons, decide_eq_true_eq]; omega
   have e2 : cIx (x :: y :: r) 0 = true := by simp only [cIx, List.length_cons, decide_eq_true_eq]; omega
   have e3 : cIx (x :: y :: r) 1 = true := by simp only [cIx, List.length_cons, decide_eq_true_eq]; omega
   have e4 : lgt (.int .u8) (x :: y :: r) (Int.toNat 0) = x := rfl
   have e5 : lgt (.int .u8) (x :: y :: r) (Int.toNat 1) = y := rfl
   have e6 : cSl (x :: y :: r) 1 ((List.length (x :: y :: r) : Nat) : Int) ((List.length (x :: y :: r) : Nat) : Int) = true := by simp only [cSl, List.length_cons, decide_eq_true_eq]; omega
   have e7 : lsl (x :: y :: r) 1 ((List.length (x :: y :: r) : Nat) : Int) = y :: r := by
    show List.take _ (y :: r) = _
    exact List.take_of_length_le (by simp only [List.length_cons]; omega)
   have ih' := ih (by simp only [List.length_cons]; omega)
   have hb : trimB (x :: y :: r) = bif trimC x y then trimB (y :: r) else x :: y :: r := rfl
   simp only [Qjz, Qdv, Qdu, e1, e2, e3, e4, e5, e6, e7, ih', Qad]
   simp only [Qkh, hb, trimC, ieq, ilt, ige]
   cases x == 0 <;> cases decide (y < 128) <;> cases x == 255 <;> cases decide (y ≥ 128) <;> rfl
theorem QLt : ∀ S l p, Qge.L 0 (fgt Qg4 S) = some (true, l) → pickA l = some p → loopF (Qaj Qge Qg4 QiW) S = some p :=
 QaB (s := QpD) ⟨by decide, by decide⟩ (by kernel_rfl) fun x y hok p hp => by
 simp only [Qao, Qam] at hp
 exact (QQm x.1 x.2.2.2.1 y.1 y.2.1 (by simpa using hok)).trans hp
theorem QLs : ∀ S l p, Qge.L 1 (fgt Qg3 S) = some (true, l) → pickA l = some p → loopF (Qaj Qge Qg3 QiV) S = some p :=
 QaB (s := QpC) ⟨by decide, by decide⟩ (by kernel_rfl) fun x y hok p hp => by
 simp only [Qao, Qam] at hp
 exact (QQl x.2.1 y.1 (by simpa using hok)).trans hp
theorem QWP : Qx9.lok Qge := by
 repeat (first | exact trivial | exact QLt | exact QLs | refine ⟨?_, ?_⟩)
theorem s_f224 (n : Int) (h : i64Ok n = true) : QJH n = some (.t Qak (intT n), []) := by
 have h1 := h
 simp only [i64Ok, decide_eq_true_eq] at h1
 simp only [QJH, h, Bool.true_and, show ((56 + 8 : Int) / 8).toNat = 8 from rfl, List.nil_append, List.length_nil]
 rw [show (decide ((0 : Nat) ≤ 100 ∧ (-8 : Int) ≤ 56 ∧ (56 : Int) ≤ 56 ∧ (56 : Int) % 8 = 0)) = true from rfl, Qad, decide_eq_true (by rw [QrJ]; omega), Qad, QMk h1]
 rfl
def Qzj : Ent := spec (.pr tI .nil) (fun x => (i64Ok x.1)) (fun x => (.t Qak (intT x.1)))
theorem QK5 : Meets Tryz.prog 224 (strip Qzj) := Qah (R := runF Qge Qx9 QIc false) (mG Tryz.func224 (by kernel_rfl) Tryz.ntmps224 (by kernel_rfl) QYA QWP) fun x hok => (e_f224 x.1).trans (s_f224 x.1 hok)
def Qha : Fg := ⟨[(2, none), (3, none), (4, some tI)], [(2, some Qak), (3, none), (7, none), (40, none), (42, none)]⟩
noncomputable def Qi2 : TC := (.mv [(40, 7)] (.sq (.sq (.reg (rT Tryz.f187 3)) (.cd (.t 35) .sk (.fg ⟨[(2, none), (3, none)], [(2, some Qak), (3, none), (7, none), (40, none), (42, none)]⟩ (.ex 0)))) (.sq (.bk 1 (.reg (rT Tryz.f187 4))) (.reg (rT Tryz.f187 5)))))
noncomputable def Qyp : TC := (.sq (.reg (rT Tryz.f187 0)) (.sq (.reg (rT Tryz.f187 1)) (.sq (.sq (.reg (rT Tryz.f187 2)) (.bk 0 (.nw 3 5 (.lp 0 Qha Qi2)))) (.sq (.reg (rT Tryz.f187 6)) .rt))))
def QIs : List (RV × Option Ty) := [((.c 2 true 4), some Qak)]
abbrev QpK : Sh := ⟨[(2, .ptr 2 0), (3, .ms 7), (4, .ty tI)], [(2, .box Qak), (3, .no), (7, .arr 5 (.int .u8)), (40, .no), (42, .no)]⟩
def Qo2 (x4 : Int) (y2 : ValT) (y7 : List Int) : VS := QpK.st ((), (), x4, ()) (y2, (), y7, (), (), ())
abbrev Qv7 : Sh := ⟨[(2, .ptr 2 0), (3, .ms 7)], [(2, .box Qak), (3, .no), (7, .arr 5 (.int .u8)), (40, .no), (42, .no)]⟩
def Qbp (y2 : ValT) (y7 : List Int) : VS := Qv7.st ((), (), ()) (y2, (), y7, (), (), ())
def QSz : VS → Option (Bool × List (Bool × Exit × VS)) := mkL QpK (fun x y => (decide (-9223372036854775808 ≤ x.2.2.1 ∧ x.2.2.1 < 9223372036854775808 ∧ 1 ≤ y.2.2.1.length ∧ y.2.2.1.length ≤ 100))) (fun x y => [(true, .exit 0, Qbp (y.1) (growB 10 x.2.2.1 y.2.2.1))])
def Qmi : G := ⟨TYs, [7, 40], 45, EL [], keeps, (Ls [QSz]), IL [], RL []⟩
def Qib (x4 : Int) (y2 : ValT) (y7 : List Int) : Option (Exit × VS) := br (cApp ([(icv .u8 x4)]) y7 1) (br (decide ((0 : Int) ≤ 8)) (some (.normal, Qo2 (ishr .i64 x4 8) y2 (([(icv .u8 x4)]) ++ y7))) none) none
def QlU (x4 : Int) (y2 : ValT) (y7 : List Int) : Option (Exit × VS) := br (ieq x4 (-1)) (br (cIx y7 0) (br (cLd y7 (Int.toNat 0)) (br (ilt (lgt (.int .u8) y7 (Int.toNat 0)) 128) (Qib x4 y2 y7) (some (.exit 0, Qbp y2 y7))) none) none) (some (.exit 0, Qbp y2 y7))
def QlV (x4 : Int) (y2 : ValT) (y7 : List Int) : Option (Exit × VS) := br (ieq x4 0) (br (cIx y7 0) (br (cLd y7 (Int.toNat 0)) (br (ige (lgt (.int .u8) y7 (Int.toNat 0)) 128) (Qib x4 y2 y7) (QlU x4 y2 y7)) none) none) (QlU x4 y2 y7)
def QDT (x4 : Int) (y2 : ValT) (y7 : List Int) : Option (Exit × VS) := br (ine x4 0) (br (ine x4 (-1)) (Qib x4 y2 y7) (QlV x4 y2 y7)) (QlV x4 y2 y7)
noncomputable def Qe8 (x4 : Int) (y2 : ValT) (y7 : List Int) : Option (Exit × VS) := loopF (Qaj Qmi Qha Qi2) (Qo2 x4 y2 y7)
noncomputable def Qe5 (x4 : Int) (y2 : ValT) (y7 : List Int) : Option (Exit × VS) := br (cApp ([(icv .u8 x4)]) y7 1) (br (decide ((0 : Int) ≤ 8)) (Qe8 (ishr .i64 x4 8) y2 (([(icv .u8 x4)]) ++ y7)) none) none
noncomputable def QhN (x4 : Int) (y2 : ValT) (y7 : List Int) : Option (Exit × VS) := br (ieq x4 (-1)) (br (cIx y7 0) (br (cLd y7 (Int.toNat 0)) (br (ilt (lgt (.int .u8) y7 (Int.toNat 0)) 128) (Qe5 x4 y2 y7) (some (.exit 0, Qbp y2 y7))) none) none) (some (.exit 0, Qbp y2 y7))
noncomputable def QhO (x4 : Int) (y2 : ValT) (y7 : List Int) : Option (Exit × VS) := br (ieq x4 0) (br (cIx y7 0) (br (cLd y7 (Int.toNat 0)) (br (ige (lgt (.int .u8) y7 (Int.toNat 0)) 128) (Qe5 x4 y2 y7) (QhN x4 y2 y7)) none) none) (QhN x4 y2 y7)
noncomputable def QuF (x4 : Int) (y2 : ValT) (y7 : List Int) : Option (Exit × VS) := br (ine x4 0) (br (ine x4 (-1)) (Qe5 x4 y2 y7) (QhO x4 y2 y7)) (QhO x4 y2 y7)
def Qq8 (x4 : Int) (y2 : ValT) (y7 : List Int) : Option (Exit × VS) := some (.exit 0, Qbp (y2) (growB 10 x4 y7))
theorem QN1 (x4 : Int) (y2 : ValT) (y7 : List Int) : Qaj Qmi Qha Qi2 (Qo2 x4 y2 y7) = QDT x4 y2 y7 := by kernel_rfl
theorem QLX (x4 : Int) (y2 : ValT) (y7 : List Int) : Qe8 x4 y2 y7 = QuF x4 y2 y7 := (Qan _ _).trans (by
 rw [QN1]
 simp only [QDT, Qib, QlV, QlU, QuF, Qe5, QhO, QhN, Qay, nxt_n, nxt_r, nxt_e, nxt_0]
 rfl)
def QJV (p0 : Int) : Option (V × List VO) :=
 let a1 := ishr .i64 p0 8
 br (decide ((0 : Int) ≤ 8)) (br (decide (-9223372036854775808 ≤ a1 ∧ a1 < 9223372036854775808 ∧ 1 ≤ ([(icv .u8 p0)]).length ∧ ([(icv .u8 p0)]).length ≤ 100)) (some (.t Qak (2, ((growB 10 a1 ([(icv .u8 p0)])), (false, (([] : List Val), ())))), [])) none) none
theorem e_f187 (p0 : Int) : runF Qmi Qyp QIs false [.t tI p0] [] = QJV p0 := by kernel_rfl
theorem QMZ : Qai Tryz.prog 187 := .inr ⟨by decide, _, Tryz.func187, by kernel_rfl, by kernel_rfl⟩
theorem QYQ : GOk Tryz.prog Qmi := Qal _ (fun p hp => by cases hp)
theorem ishr8z (n : Int) : ishr .i64 n 8 = n / 256 := by
 have := Qop (kd := .i64) rfl n 1 (by omega)
 rw [show ((8 * 1 : Nat) : Int) = 8 from rfl] at this
 rw [this]
 rfl
theorem Qre : ∀ (k : Nat) (x : Int) (b : List Int), -(256 ^ k : Int) ≤ x → x < 256 ^ k → ∀ f, growB (k + 2 + f) x b = growB (k + 2) x b
 | 0, x, b, h1, h2, f => by
  simp only [Int.pow_zero] at h1 h2
  have hx : x = -1 ∨ x = 0 := by omega
  have g : ∀ f, growB (f + 2) x b = bif growC x (b.headD 0) then (x % 256 :: b) else b := by
   intro f
   rw [show f + 2 = (f + 1) + 1 from rfl, growB, growB]
   rcases hx with rfl | rfl
   ·rw [show ((-1 : Int) % 256 :: b).headD 0 = 255 from rfl, show growC (-1 / 256) 255 = false from rfl]; rfl
   ·rw [show ((0 : Int) % 256 :: b).headD 0 = 0 from rfl, show growC (0 / 256) 0 = false from rfl]; rfl
  rw [show 0 + 2 + f = f + 2 by omega, g f]
  exact (g 0).symm
 | k + 1, x, b, h1, h2, f => by
  rw [show k + 1 + 2 + f = (k + 2 + f) + 1 by omega, growB, show k + 1 + 2 = (k + 2) + 1 from rfl, growB]
  have e : (256 : Int) ^ (k + 1) = 256 ^ k * 256 := by rw [Int.pow_succ]
  rw [e] at h1 h2
  rw [Qre k (x / 256) (x % 256 :: b) (by omega) (by omega) f]
theorem QAN (x : Int) (b : List Int) (h : -9223372036854775808 ≤ x ∧ x < 9223372036854775808) : growB 10 x b = bif growC x (b.headD 0) then growB 10 (x / 256) (x % 256 :: b) else b := by
 have := Qre 8 x b (by omega) (by omega) 1
 rw [← this]
 rfl
theorem QQs (x4 : Int) (y2 : ValT) (y7 : List Int) (h : (decide (-9223372036854775808 ≤ x4 ∧ x4 < 9223372036854775808 ∧ 1 ≤ y7.length ∧ y7.length ≤ 100)) = true) : Qe8 x4 y2 y7 = Qq8 x4 y2 y7 := by
 simp only [decide_eq_true_eq] at h
 obtain ⟨h1, h2, h3, h4⟩ := h
 have step : ∀ (x c : Int) (r : List Int), r.length ≤ 300 → Qe8 x y2 (c :: r) = bif growC x c then Qe8 (x / 256) y2 (x % 256 :: c :: r) else some (.exit 0, Qbp y2 (c :: r)) := by
  intro x c r hr
  rw [QLX]
  have e1 : cIx (c :: r) 0 = true := by simp only [cIx, List.length_cons, decide_eq_true_eq]; omega
  have e2 : cLd (c :: r) (Int.toNat 0) = true := by simp only [cLd, List.length_cons, decide_eq_true_eq, Int.toNat_zero]; omega
  have e3 : lgt (.int .u8) (c :: r) (Int.toNat 0) = c := rfl
  have e4 : cApp [x % 256] (c :: r) 1 = true := cAppN (by omega) (by simp only [List.length_cons, List.length_nil]; omega)
  simp only [QuF, Qe5, QhO, QhN, e1, e2, e3, e4, Qad, show decide ((0 : Int) ≤ 8) = true from rfl, ishr8z, icv8, List.singleton_append]
  simp only [growC, ine, ieq, ilt, ige]
  have q1 : (x != 0) = !(x == 0) := rfl
  have q2 : (x != -1) = !(x == -1) := rfl
  rw [q1, q2]
  by_cases hx : x = 0
  ·subst hx
   cases decide (c ≥ 128) <;> rfl
  ·by_cases hy : x = -1
   ·subst hy
    cases decide (c < 128) <;> rfl
   ·rw [show (x == 0) = false from beq_false_of_ne hx, show (x == -1) = false from beq_false_of_ne hy]
    rfl
 have lae : ∀ (x : Int) (y : List Int), Qq8 x y2 y = some (.exit 0, Qbp y2 (growB 10 x y)) := fun _ _ => rfl
 have key : ∀ (k : Nat) (x : Int) (y : List Int), -(256 ^ k : Int) ≤ x → x < 256 ^ k → k ≤ 8 → 1 ≤ y.length → y.length + k ≤ 200 → -9223372036854775808 ≤ x → x < 9223372036854775808 → Qe8 x y2 y = Qq8 x y2 y := by
  intro k
  induction k with
  | zero =>
   intro x y g1 g2 g3 g4 g5 g6 g7
   simp only [Int.pow_zero] at g1 g2
   have hx : x = -1 ∨ x = 0 := by omega
   obtain ⟨c, r, rfl⟩ : ∃ c r, y = c :: r := by
    cases y with
    | nil => simp at g4
    | cons c r => exact ⟨c, r, rfl⟩
   simp only [List.length_cons] at g5
   rw [step x c r (by omega), lae, QAN x (c :: r) ⟨g6, g7⟩, List.headD_cons]
   cases growC x c with
   | false => rfl
   | true =>
    rw [cond_true, cond_true, step (x / 256) (x % 256) (c :: r) (by simp only [List.length_cons]; omega), QAN (x / 256) (x % 256 :: c :: r) (by omega), List.headD_cons]
    have : growC (x / 256) (x % 256) = false := by rcases hx with rfl | rfl <;> rfl
    rw [this]
    rfl
  | succ k ih =>
   intro x y g1 g2 g3 g4 g5 g6 g7
   obtain ⟨c, r, rfl⟩ : ∃ c r, y = c :: r := by
    cases y with
    | nil => simp at g4
    | cons c r => exact ⟨c, r, rfl⟩
   have e : (256 : Int) ^ (k + 1) = 256 ^ k * 256 := by rw [Int.pow_succ]
   rw [e] at g1 g2
   simp only [List.length_cons] at g5
   rw [step x c r (by omega), lae, QAN x (c :: r) ⟨g6, g7⟩, List.headD_cons]
   cases growC x c with
   | false => rfl
   | true =>
    rw [cond_true, cond_true, ih (x / 256) (x % 256 :: c :: r) (by omega) (by omega) (by omega) (by simp) (by simp only [List.length_cons]; omega) (by omega) (by omega), lae]
 exact key 8 x4 y7 (by omega) (by omega) (by omega) h3 (by omega) (by omega) (by omega)
theorem QLz : ∀ S l p, Qmi.L 0 (fgt Qha S) = some (true, l) → pickA l = some p → loopF (Qaj Qmi Qha Qi2) S = some p :=
 QaB (s := QpK) ⟨by decide, by decide⟩ (by kernel_rfl) fun x y hok p hp => by
 simp only [Qao, Qam] at hp
 exact (QQs x.2.2.1 y.1 y.2.2.1 (by simpa using hok)).trans hp
theorem QW5 : Qyp.lok Qmi := by
 repeat (first | exact trivial | exact QLz | refine ⟨?_, ?_⟩)
theorem s_f187 (n : Int) (h : i64Ok n = true) : QJV n = some (.t Qak (intT n), []) := by
 have h1 := h
 simp only [i64Ok, decide_eq_true_eq] at h1
 have e0 : icv .u8 n = byt n 0 := by
  rw [icv8]
  simp [byt]
 simp only [QJV, show decide ((0 : Int) ≤ 8) = true from rfl, Qad, ishr8z, e0]
 rw [decide_eq_true ⟨by omega, by omega, by simp, by simp⟩, Qad]
 have e1 := Qre 7 (n / 256) [byt n 0] (by omega) (by omega) 1
 rw [show growB 10 (n / 256) [byt n 0] = growB 9 (n / 256) [byt n 0] from e1, QMl h1]
 rfl
def Qzk : Ent := spec (.pr tI .nil) (fun x => (i64Ok x.1)) (fun x => (.t Qak (intT x.1)))
theorem QK6 : Meets Tryz.prog 187 (strip Qzk) := Qah (R := runF Qmi Qyp QIs false) (mG Tryz.func187 (by kernel_rfl) Tryz.ntmps187 (by kernel_rfl) QYQ QW5) fun x hok => (e_f187 x.1).trans (s_f187 x.1 hok)
def txtT (s : ByteArray) : ValT := (12, (QaG s, (false, (([] : List Val), ()))))
noncomputable def Qyb : TC := (.sq (.reg (rT Tryz.f222 0)) (.sq (.reg (rT Tryz.f222 1)) .rt))
def QIe : List (RV × Option Ty) := [((.c 2 true 4), some Qak)]
def QCF : G := ⟨TYs, [], 6, EL [(30120144, Qa6)], keeps, (fun _ _ => none), IL [], RL []⟩
def QJJ (p0 : ByteArray) : Option (V × List VO) := br (Qbh p0) (some (.t Qak (12, ((QaG p0), (false, (([] : List Val), ())))), [])) none
theorem e_f222 (p0 : ByteArray) : runF QCF Qyb QIe false [.t .str p0] [] = QJJ p0 := by kernel_rfl
theorem QZR : Qai Tryz.prog 222 := .inr ⟨by decide, _, Tryz.func222, by kernel_rfl, by kernel_rfl⟩
theorem QYC : GOk Tryz.prog QCF := Qal _ (gA (gC Qbt Qbs gN))
theorem QWR : Qyb.lok QCF := by repeat (first | exact trivial | refine ⟨?_, ?_⟩)
theorem s_f222 (s : ByteArray) (h : Qbh s = true) : QJJ s = some (.t Qak (txtT s), []) := by
 simp only [QJJ, h, Qad]
 rfl
def QGS : Ent := spec (.pr .str .nil) (fun x => (Qbh x.1)) (fun x => (.t Qak (txtT x.1)))
theorem QVF : Meets Tryz.prog 222 (strip QGS) := Qah (R := runF QCF Qyb QIe false) (mG Tryz.func222 (by kernel_rfl) Tryz.ntmps222 (by kernel_rfl) QYC QWR) fun x hok => (e_f222 x.1).trans (s_f222 x.1 hok)
noncomputable def Qyr : TC := (.sq (.reg (rT Tryz.f185 0)) (.sq (.reg (rT Tryz.f185 1)) .rt))
def QIu : List (RV × Option Ty) := [((.c 2 true 4), some Qak)]
def QCP : G := ⟨TYs, [], 6, EL [(30120144, Qa6)], keeps, (fun _ _ => none), IL [], RL []⟩
def QJX (p0 : ByteArray) : Option (V × List VO) := br (Qbh p0) (some (.t Qak (12, ((QaG p0), (false, (([] : List Val), ())))), [])) none
theorem e_f185 (p0 : ByteArray) : runF QCP Qyr QIu false [.t .str p0] [] = QJX p0 := by kernel_rfl
theorem QZ2 : Qai Tryz.prog 185 := .inr ⟨by decide, _, Tryz.func185, by kernel_rfl, by kernel_rfl⟩
theorem QYS : GOk Tryz.prog QCP := Qal _ (gA (gC Qbt Qbs gN))
theorem QW7 : Qyr.lok QCP := by repeat (first | exact trivial | refine ⟨?_, ?_⟩)
theorem s_f185 (s : ByteArray) (h : Qbh s = true) : QJX s = some (.t Qak (txtT s), []) := by
 simp only [QJX, h, Qad]
 rfl
def QG6 : Ent := spec (.pr .str .nil) (fun x => (Qbh x.1)) (fun x => (.t Qak (txtT x.1)))
theorem QVT : Meets Tryz.prog 185 (strip QG6) := Qah (R := runF QCP Qyr QIu false) (mG Tryz.func185 (by kernel_rfl) Tryz.ntmps185 (by kernel_rfl) QYS QW7) fun x hok => (e_f185 x.1).trans (s_f185 x.1 hok)
def boolT (b : Bool) : ValT := (1, ([bif b then 255 else 0], (false, (([] : List Val), ()))))
noncomputable def Qx7 : TC := (.sq (.reg (rT Tryz.f226 0)) (.sq (.sq (.reg (rT Tryz.f226 1)) (.cd (.t 3) (.sq (.reg (rT Tryz.f226 2)) .rt) .sk)) (.sq (.reg (rT Tryz.f226 3)) .rt)))
def QIa : List (RV × Option Ty) := [((.c 2 true 4), some Qak)]
def QCC : G := ⟨TYs, [], 8, EL [], keeps, (fun _ _ => none), IL [], RL []⟩
def QUl (p0 : Bool) : Option (V × List VO) := br (p0) (some (.t Qak (1, ([255], (false, (([] : List Val), ())))), [])) (some (.t Qak (1, ([0], (false, (([] : List Val), ())))), []))
theorem e_f226 (p0 : Bool) : runF QCC Qx7 QIa false [.t .bool p0] [] = QUl p0 := by kernel_rfl
theorem QZP : Qai Tryz.prog 226 := .inr ⟨by decide, _, Tryz.func226, by kernel_rfl, by kernel_rfl⟩
theorem QYy : GOk Tryz.prog QCC := Qal _ (fun p hp => by cases hp)
theorem QWN : Qx7.lok QCC := by repeat (first | exact trivial | refine ⟨?_, ?_⟩)
theorem s_f226 (b : Bool) : QUl b = some (.t Qak (boolT b), []) := by cases b <;> rfl
def QGQ : Ent := spec (.pr .bool .nil) (fun x => true) (fun x => (.t Qak (boolT x.1)))
theorem QVD : Meets Tryz.prog 226 (strip QGQ) := Qah (R := runF QCC Qx7 QIa false) (mG Tryz.func226 (by kernel_rfl) Tryz.ntmps226 (by kernel_rfl) QYy QWN) fun x _ => (e_f226 x.1).trans (s_f226 x.1)
noncomputable def Qyn : TC := (.sq (.reg (rT Tryz.f189 0)) (.sq (.sq (.reg (rT Tryz.f189 1)) (.cd (.t 3) (.sq (.reg (rT Tryz.f189 2)) .rt) .sk)) (.sq (.reg (rT Tryz.f189 3)) .rt)))
def QIq : List (RV × Option Ty) := [((.c 2 true 4), some Qak)]
def QCM : G := ⟨TYs, [], 8, EL [], keeps, (fun _ _ => none), IL [], RL []⟩
def QUn (p0 : Bool) : Option (V × List VO) := br (p0) (some (.t Qak (1, ([255], (false, (([] : List Val), ())))), [])) (some (.t Qak (1, ([0], (false, (([] : List Val), ())))), []))
theorem e_f189 (p0 : Bool) : runF QCM Qyn QIq false [.t .bool p0] [] = QUn p0 := by kernel_rfl
theorem QZ0 : Qai Tryz.prog 189 := .inr ⟨by decide, _, Tryz.func189, by kernel_rfl, by kernel_rfl⟩
theorem QYO : GOk Tryz.prog QCM := Qal _ (fun p hp => by cases hp)
theorem QW3 : Qyn.lok QCM := by repeat (first | exact trivial | refine ⟨?_, ?_⟩)
theorem s_f189 (b : Bool) : QUn b = some (.t Qak (boolT b), []) := by cases b <;> rfl
def QG4 : Ent := spec (.pr .bool .nil) (fun x => true) (fun x => (.t Qak (boolT x.1)))
theorem QVR : Meets Tryz.prog 189 (strip QG4) := Qah (R := runF QCM Qyn QIq false) (mG Tryz.func189 (by kernel_rfl) Tryz.ntmps189 (by kernel_rfl) QYO QW3) fun x _ => (e_f189 x.1).trans (s_f189 x.1)
end
end Go.Proofs.YtckcgijklnloiaaGreat.K
set_option linter.unusedSectionVars false
namespace Go.Proofs.YtckcgijklnloiaaGreat.K
open Go.RowKit
noncomputable section
def okT (n : Nat) (x : ValT) : Bool := okV n (Val.of x)
theorem QwJ {n : Nat} {v : Val} : okT n v.un = okV n v := by rw [okT, Val.of_un]
theorem QcL {n : Nat} {x : ValT} (h : okT (n + 1) x = true) :
  (x.1 = 1 ∨ x.1 = 2 ∨ x.1 = 12 ∨ x.1 = 48) ∧ x.2.2.1 = (x.1 == 48) ∧ (x.2.2.1 = true → x.2.1 = []) ∧ (x.2.2.1 = false → x.2.2.2.1 = []) ∧ x.2.1.length ≤ 100000 ∧ x.2.2.2.1.length ≤ 100000 ∧ ∀ v ∈ x.2.2.2.1, okV n v = true := by
 obtain ⟨t, b, q, es, _⟩ := x
 exact QBX h
def copLF : Nat → List ValT → Bool
 | 0, _ => false
 | n + 1, l => decide (l.length ≤ 100000) && l.all (okT n)
theorem QRR {n : Nat} {es : List Val} (hl : es.length ≤ 100000) (h : ∀ v ∈ es, okV n v = true) : copLF (n + 1) (es.map Val.un) = true := by
 simp only [copLF, Bool.and_eq_true, decide_eq_true_eq, List.length_map, List.all_eq_true, List.mem_map]
 refine ⟨hl, ?_⟩
 rintro x ⟨v, hv, rfl⟩
 rw [QwJ]
 exact h v hv
theorem QDB {n : Nat} {x : ValT} (h : okT n x = true) : copLF n (x.2.2.2.1.map Val.un) = true := by
 cases n with
 | zero => obtain ⟨t, b, q, es, _⟩ := x; cases h
 | succ n =>
  obtain ⟨_, _, _, _, _, h6, h7⟩ := QcL h
  exact QRR h6 h7
theorem QcU (es : List Val) : List.map Val.of (List.map Val.un es) = es := by
 rw [List.map_map]
 have : (Val.of ∘ Val.un) = id := funext Val.of_un
 rw [this, List.map_id]
def copV (l : List ValT) : List ValT := l
def copOk (l : List ValT) : Bool := copLF 12 l
theorem QwL {n : Nat} {x : ValT} (h : okT n x = true) : x.2.1.length ≤ 100000 := by
 cases n with
 | zero => obtain ⟨t, b, q, es, _⟩ := x; cases h
 | succ n => exact (QcL h).2.2.2.2.1
theorem Qrk (l : List ValT) (h : copOk l = true) : ∃ N, copLF N l = true := ⟨12, h⟩
theorem QMS : Qai Tryz.prog 236 := .inr ⟨by decide, _, Tryz.func236, by kernel_rfl, by kernel_rfl⟩
def QhB [Fuel] : Ent := spec (.pr (.sl Qak) .nil) (fun x => (copLF fuel x.1)) (fun x => (.t (.sl Qak) (copV x.1)))
theorem QQ7 : Qai Tryz.prog 236 := QMS
section
variable [Fuel] [Nonempty (PLift (Meets Tryz.prog 236 (strip QhB)))]
theorem QPy : Meets Tryz.prog 236 (strip QhB) := (Classical.choice (inferInstance : Nonempty (PLift (Meets Tryz.prog 236 (strip QhB))))).down
def copIn [Fuel] (l : List ValT) : Bool := copLF (fuel + 1) l
noncomputable def QNh : List DO := dT Tryz.f236 5
def QgZ : Fg := ⟨[(3, none), (6, some (.sl Qak)), (7, some tI), (8, some tI)], [(3, none), (23, none)]⟩
noncomputable def QiR : TC := (.sq (.reg (rT Tryz.f236 3)) (.sq (.cd (.t 9) .sk (.fg ⟨[(3, none)], [(3, none), (23, none)]⟩ (.ex 0))) (.sq (.bk 1 (.sq (.reg (rT Tryz.f236 4)) (.sq (.dr QNh [(0, [5]), (1, [5]), (2, []), (3, [5]), (4, [5]), (5, []), (6, [5]), (7, [5]), (8, [5]), (9, [5])] (.of [0, 1, 2, 3, 4, 5, 6, 7, 8, 9])) (.reg (rT Tryz.f236 6))))) (.reg (rT Tryz.f236 7)))))
noncomputable def Qx1 : TC := (.sq (.reg (rT Tryz.f236 0)) (.sq (.reg (rT Tryz.f236 1)) (.sq (.sq (.reg (rT Tryz.f236 2)) (.bk 0 (.nw 3 202 (.lp 0 QgZ QiR)))) (.sq (.reg (rT Tryz.f236 8)) .rt))))
def QH4 : List (RV × Option Ty) := [((.t 2), some (.sl Qak))]
abbrev Qpy : Sh := ⟨[(3, .ms 3), (6, .ty (.sl Qak)), (7, .ty tI), (8, .ty tI)], [(3, .arr 202 Qak), (23, .no)]⟩
def QoR (x6 : List ValT) (x7 x8 : Int) (y3 : List ValT) : VS := Qpy.st ((), x6, x7, x8, ()) (y3, (), ())
abbrev QvV : Sh := ⟨[(3, .ms 3)], [(3, .arr 202 Qak), (23, .no)]⟩
def QdY (y3 : List ValT) : VS := QvV.st ((), ()) (y3, (), ())
def QSo : VS → Option (Bool × List (Bool × Exit × VS)) := mkL Qpy (fun x y => (rngOk x.2.1 x.2.2.1 x.2.2.2.1 && copIn x.2.1 && decide (y.1.length + x.2.1.length ≤ 200000 + x.2.2.2.1.toNat))) (fun x y => [(true, .exit 0, QdY (y.1 ++ x.2.1.drop x.2.2.2.1.toNat))])
def Qmb : G := ⟨TYs, [], 26, EL [(236, QhB), (238, QGK)], keeps, (Ls [QSo]), IL [], RL []⟩
def QDI (x6 : List ValT) (x7 x8 : Int) (y3 : List ValT) : Option (Exit × VS) :=
 let a2 := ((lgt Qak x6 (Int.toNat x8)).2)
 let a1 := ((lgt Qak x6 (Int.toNat x8)).1, ((clonB (a2.1)), ((a2.2).1, ((List.map Val.of (List.map Val.un (List.map Val.of (copV (List.map Val.un (((a2.2).2).1)))))), ()))))
 br (ilt x8 x7) (br (cIx x6 x8) (br (QDF (a2.1)) (br (copLF fuel (List.map Val.un (((a2.2).2).1))) (br (cApp y3 ([a1]) 64) (some (.normal, QoR x6 x7 (iadd .i64 x8 1) (y3 ++ ([a1])))) none) none) none) none) (some (.exit 0, QdY y3))
noncomputable def QjI (x6 : List ValT) (x7 x8 : Int) (y3 : List ValT) : Option (Exit × VS) := loopF (Qaj Qmb QgZ QiR) (QoR x6 x7 x8 y3)
noncomputable def Qny (x6 : List ValT) (x7 x8 : Int) (y3 : List ValT) : Option (Exit × VS) :=
 let a2 := ((lgt Qak x6 (Int.toNat x8)).2)
 let a1 := ((lgt Qak x6 (Int.toNat x8)).1, ((clonB (a2.1)), ((a2.2).1, ((List.map Val.of (List.map Val.un (List.map Val.of (copV (List.map Val.un (((a2.2).2).1)))))), ()))))
 br (ilt x8 x7) (br (cIx x6 x8) (br (QDF (a2.1)) (br (copLF fuel (List.map Val.un (((a2.2).2).1))) (br (cApp y3 ([a1]) 64) (QjI x6 x7 (iadd .i64 x8 1) (y3 ++ ([a1]))) none) none) none) none) (some (.exit 0, QdY y3))
def Qkf (x6 : List ValT) (x7 x8 : Int) (y3 : List ValT) : Option (Exit × VS) := some (.exit 0, QdY (y3 ++ x6.drop x8.toNat))
theorem QNQ (x6 : List ValT) (x7 x8 : Int) (y3 : List ValT) : Qaj Qmb QgZ QiR (QoR x6 x7 x8 y3) = QDI x6 x7 x8 y3 := by kernel_rfl
theorem QwX (x6 : List ValT) (x7 x8 : Int) (y3 : List ValT) : QjI x6 x7 x8 y3 = Qny x6 x7 x8 y3 := (Qan _ _).trans (by
 rw [QNQ]
 simp only [QDI, Qny, Qay, nxt_n, nxt_r, nxt_e, nxt_0]
 rfl)
def QJA (p0 : List ValT) : Option (V × List VO) := br (rngOk p0 (llen p0) (0 : Int) && copIn p0 && decide (([] : List ValT).length + p0.length ≤ 200000 + (0 : Int).toNat)) (some (.t (.sl Qak) (([] : List ValT) ++ p0.drop (0 : Int).toNat), [])) none
theorem e_f236 (p0 : List ValT) : runF Qmb Qx1 QH4 false [.t (.sl Qak) p0] [] = QJA p0 := by kernel_rfl
theorem QYs : GOk Tryz.prog Qmb := Qal _ (gA (gC QQ7 QPy (gC QZL QVx gN)))
theorem QQh (x6 : List ValT) (x7 x8 : Int) (y3 : List ValT) (h : (rngOk x6 x7 x8 && copIn x6 && decide (y3.length + x6.length ≤ 200000 + x8.toNat)) = true) : QjI x6 x7 x8 y3 = Qkf x6 x7 x8 y3 := by
 simp only [Bool.and_eq_true, decide_eq_true_eq] at h
 obtain ⟨⟨h0, hc⟩, h2⟩ := h
 obtain ⟨rfl, h3, k, rfl, hk⟩ := rng_k h0
 clear h0
 rw [Int.toNat_natCast] at h2
 simp only [copIn, copLF, Bool.and_eq_true, List.all_eq_true] at hc
 revert y3
 refine Qar x6 (fun k => ∀ y3 : List ValT, y3.length + x6.length ≤ 200000 + k → QjI x6 (x6.length : Int) (k : Int) y3 = Qkf x6 (x6.length : Int) (k : Int) y3) ?_ ?_ k hk
 ·intro y3 _
  rw [QwX]
  simp [Qny, Qkf, Qas, Qaf]
 ·intro k hk ih y3 hy
  rw [QwX]
  have hx := hc.2 x6[k] (List.getElem_mem hk)
  have e1 : QDF x6[k].2.1 = true := decide_eq_true (by have := QwL hx; omega)
  have e2 : copLF fuel (List.map Val.un x6[k].2.2.2.1) = true := QDB hx
  simp only [Qny, Qas, Qaw, hk, decide_true, Qad, Int.toNat_natCast, add1 (show k < 4611686018427387904 by omega), QaA (y := Qak) hk, e1, e2, clonB, copV, QcU]
  rw [cAppN (by omega) (by simp only [List.length_singleton]; omega), Qad, ih _ (by simp only [List.length_append, List.length_singleton]; omega)]
  simp only [Qkf, Int.toNat_natCast, List.drop_eq_getElem_cons hk, List.append_assoc, List.singleton_append]
theorem QLo : ∀ S l p, Qmb.L 0 (fgt QgZ S) = some (true, l) → pickA l = some p → loopF (Qaj Qmb QgZ QiR) S = some p :=
 QaB (s := Qpy) ⟨by decide, by decide⟩ (by kernel_rfl) fun x y hok p hp => by
 simp only [Qao, Qam] at hp
 exact (QQh x.2.1 x.2.2.1 x.2.2.2.1 y.1 (by simpa using hok)).trans hp
theorem QWH : Qx1.lok Qmb := by
 repeat (first | exact trivial | exact QLo | refine ⟨?_, ?_⟩)
theorem s_f236 (l : List ValT) (h : copLF (fuel + 1) l = true) : QJA l = some (.t (.sl Qak) (copV l), []) := by
 have hl : l.length ≤ 100000 := by simp only [copLF, Bool.and_eq_true, decide_eq_true_eq] at h; exact h.1
 simp only [QJA, rng_0 hl, show copIn l = true from h, Bool.true_and, List.length_nil, Int.toNat_zero, List.drop_zero, List.nil_append]
 rw [decide_eq_true (by omega), Qad]
 rfl
theorem QWy : Meets Tryz.prog 236 (runF Qmb Qx1 QH4 false) := mG Tryz.func236 (by kernel_rfl) Tryz.ntmps236 (by kernel_rfl) QYs QWH
end
theorem QjD : ∀ N : Nat, Meets Tryz.prog 236 (strip (@QhB ⟨N⟩))
 | 0 => Qb9 fun x => by first | rfl | simp [copLF]
 | N + 1 => by
  letI : Fuel := ⟨N⟩
  haveI : Nonempty (PLift (Meets Tryz.prog 236 (strip QhB))) := ⟨⟨QjD N⟩⟩
  exact Qah QWy fun x hok => (e_f236 x.1).trans (s_f236 x.1 hok)
def QGL : Ent := spec (.pr (.sl Qak) .nil) (fun x => (copOk x.1)) (fun x => (.t (.sl Qak) (copV x.1)))
theorem QVy : Meets Tryz.prog 236 (strip QGL) := Qca QjD fun x hok => Qrk x.1 hok
theorem QlM (l : List ValT) (h : copOk l = true) : ∃ N, copLF N l = true := ⟨12, h⟩
theorem QMY : Qai Tryz.prog 212 := .inr ⟨by decide, _, Tryz.func212, by kernel_rfl, by kernel_rfl⟩
def QhF [Fuel] : Ent := spec (.pr (.sl Qak) .nil) (fun x => (copLF fuel x.1)) (fun x => (.t (.sl Qak) (copV x.1)))
theorem QRd : Qai Tryz.prog 212 := QMY
section
variable [Fuel] [Nonempty (PLift (Meets Tryz.prog 212 (strip QhF)))]
theorem QPE : Meets Tryz.prog 212 (strip QhF) := (Classical.choice (inferInstance : Nonempty (PLift (Meets Tryz.prog 212 (strip QhF))))).down
def QxN [Fuel] (l : List ValT) : Bool := copLF (fuel + 1) l
def Qg6 : Fg := ⟨[(0, some (.sl Qak)), (3, none), (4, some tI)], [(3, none), (28, none)]⟩
noncomputable def QiY : TC := (.sq (.sq (.reg (rT Tryz.f212 3)) (.cd (.t 9) .sk (.fg ⟨[(3, none)], [(3, none), (28, none)]⟩ (.ex 0)))) (.sq (.bk 1 (.sq (.reg (rT Tryz.f212 4)) (.sq (.reg (rT Tryz.f212 5)) (.sq (.reg (rT Tryz.f212 6)) (.reg (rT Tryz.f212 7)))))) (.reg (rT Tryz.f212 8))))
noncomputable def Qye : TC := (.sq (.reg (rT Tryz.f212 0)) (.sq (.reg (rT Tryz.f212 1)) (.sq (.sq (.reg (rT Tryz.f212 2)) (.bk 0 (.nf 5 1 5 20501 (.nw 3 202 (.lp 0 Qg6 QiY))))) (.sq (.reg (rT Tryz.f212 9)) .rt))))
def QIh : List (RV × Option Ty) := [((.t 2), some (.sl Qak))]
abbrev QpF : Sh := ⟨[(0, .ty (.sl Qak)), (3, .ms 3), (4, .ty tI)], [(3, .arr 202 Qak), (28, .no)]⟩
def QoY (x0 : List ValT) (x4 : Int) (y3 : List ValT) : VS := QpF.st (x0, (), x4, ()) (y3, (), ())
abbrev Qv3 : Sh := ⟨[(3, .ms 3)], [(3, .arr 202 Qak), (28, .no)]⟩
def Qd5 (y3 : List ValT) : VS := Qv3.st ((), ()) (y3, (), ())
def QSv : VS → Option (Bool × List (Bool × Exit × VS)) := mkL QpF (fun x y => (idxOk x.1 x.2.2.1 && QxN x.1 && decide (y.1.length + x.1.length ≤ 200000 + x.2.2.1.toNat))) (fun x y => [(true, .exit 0, Qd5 (y.1 ++ x.1.drop x.2.2.1.toNat))])
def Qme : G := ⟨TYs, [16], 30, EL [(212, QhF)], keeps, (Ls [QSv]), IL [], RL []⟩
def QDP (x0 : List ValT) (x4 : Int) (y3 : List ValT) : Option (Exit × VS) :=
 let a1 := lgt Qak x0 (Int.toNat x4)
 let a2 := (((a1.2).2).1, ((List.map Val.of (copV (List.map Val.un ((((a1.2).2).2).1)))), ()))
 br (ilt x4 (llen x0)) (br (cIx x0 x4) (br (cApp ([] : List Int) ((a1.2).1) 1) (br (copLF fuel (List.map Val.un ((((a1.2).2).2).1))) (br (cApp y3 ([(a1.1, ((([] : List Int) ++ ((a1.2).1)), a2))]) 64) (some (.normal, QoY x0 (iadd .i64 x4 1) (y3 ++ ([(a1.1, ((([] : List Int) ++ ((a1.2).1)), a2))])))) none) none) none) none) (some (.exit 0, Qd5 y3))
noncomputable def QjN (x0 : List ValT) (x4 : Int) (y3 : List ValT) : Option (Exit × VS) := loopF (Qaj Qme Qg6 QiY) (QoY x0 x4 y3)
noncomputable def QnD (x0 : List ValT) (x4 : Int) (y3 : List ValT) : Option (Exit × VS) :=
 let a1 := lgt Qak x0 (Int.toNat x4)
 let a2 := (((a1.2).2).1, ((List.map Val.of (copV (List.map Val.un ((((a1.2).2).2).1)))), ()))
 br (ilt x4 (llen x0)) (br (cIx x0 x4) (br (cApp ([] : List Int) ((a1.2).1) 1) (br (copLF fuel (List.map Val.un ((((a1.2).2).2).1))) (br (cApp y3 ([(a1.1, ((([] : List Int) ++ ((a1.2).1)), a2))]) 64) (QjN x0 (iadd .i64 x4 1) (y3 ++ ([(a1.1, ((([] : List Int) ++ ((a1.2).1)), a2))]))) none) none) none) none) (some (.exit 0, Qd5 y3))
def Qkk (x0 : List ValT) (x4 : Int) (y3 : List ValT) : Option (Exit × VS) := some (.exit 0, Qd5 (y3 ++ x0.drop x4.toNat))
theorem QNX (x0 : List ValT) (x4 : Int) (y3 : List ValT) : Qaj Qme Qg6 QiY (QoY x0 x4 y3) = QDP x0 x4 y3 := by kernel_rfl
theorem Qw3 (x0 : List ValT) (x4 : Int) (y3 : List ValT) : QjN x0 x4 y3 = QnD x0 x4 y3 := (Qan _ _).trans (by
 rw [QNX]
 simp only [QDP, QnD, Qay, nxt_n, nxt_r, nxt_e, nxt_0]
 rfl)
def QJM (p0 : List ValT) : Option (V × List VO) := br (idxOk p0 (0 : Int) && QxN p0 && decide (([] : List ValT).length + p0.length ≤ 200000 + (0 : Int).toNat)) (some (.t (.sl Qak) (([] : List ValT) ++ p0.drop (0 : Int).toNat), [])) none
theorem e_f212 (p0 : List ValT) : runF Qme Qye QIh false [.t (.sl Qak) p0] [] = QJM p0 := by kernel_rfl
theorem QYF : GOk Tryz.prog Qme := Qal _ (gA (gC QRd QPE gN))
theorem QQo (x0 : List ValT) (x4 : Int) (y3 : List ValT) (h : (idxOk x0 x4 && QxN x0 && decide (y3.length + x0.length ≤ 200000 + x4.toNat)) = true) : QjN x0 x4 y3 = Qkk x0 x4 y3 := by
 simp only [Bool.and_eq_true, decide_eq_true_eq, idxOk] at h
 obtain ⟨⟨⟨h0, h1, h3⟩, hc⟩, h2⟩ := h
 obtain ⟨k, rfl⟩ := Int.eq_ofNat_of_zero_le h0
 rw [Int.toNat_natCast] at h2
 simp only [QxN, copLF, Bool.and_eq_true, List.all_eq_true] at hc
 revert y3
 refine Qar x0 (fun k => ∀ y3 : List ValT, y3.length + x0.length ≤ 200000 + k → QjN x0 (k : Int) y3 = Qkk x0 (k : Int) y3) ?_ ?_ k (by omega)
 ·intro y3 _
  rw [Qw3]
  simp [QnD, Qkk, ilt, llen, Qaf]
 ·intro k hk ih y3 hy
  rw [Qw3]
  have hx := hc.2 x0[k] (List.getElem_mem hk)
  have e2 : copLF fuel (List.map Val.un x0[k].2.2.2.1) = true := QDB hx
  simp only [QnD, show ilt (k : Int) (llen x0) = true from decide_eq_true (by simp only [llen]; omega), Qaw, hk, decide_true, Qad, Int.toNat_natCast, add1 (show k < 4611686018427387904 by omega), QaA (y := Qak) hk, e2, copV, QcU]
  rw [cAppN (by omega) (by have := QwL hx; simp only [List.length_nil]; omega), Qad, cAppN (by omega) (by simp only [List.length_singleton]; omega), Qad, ih _ (by simp only [List.length_append, List.length_singleton]; omega)]
  simp only [Qkk, Int.toNat_natCast, List.drop_eq_getElem_cons hk, List.append_assoc, List.singleton_append, List.nil_append]
theorem QLv : ∀ S l p, Qme.L 0 (fgt Qg6 S) = some (true, l) → pickA l = some p → loopF (Qaj Qme Qg6 QiY) S = some p :=
 QaB (s := QpF) ⟨by decide, by decide⟩ (by kernel_rfl) fun x y hok p hp => by
 simp only [Qao, Qam] at hp
 exact (QQo x.1 x.2.2.1 y.1 (by simpa using hok)).trans hp
theorem QWU : Qye.lok Qme := by
 repeat (first | exact trivial | exact QLv | refine ⟨?_, ?_⟩)
theorem s_f212 (l : List ValT) (h : copLF (fuel + 1) l = true) : QJM l = some (.t (.sl Qak) (copV l), []) := by
 have hl : l.length ≤ 100000 := by simp only [copLF, Bool.and_eq_true, decide_eq_true_eq] at h; exact h.1
 simp only [QJM, show idxOk l 0 = true from decide_eq_true (by omega), show QxN l = true from h, Bool.true_and, List.length_nil, Int.toNat_zero, List.drop_zero, List.nil_append]
 rw [decide_eq_true (by omega), Qad]
 rfl
theorem QWC : Meets Tryz.prog 212 (runF Qme Qye QIh false) := mG Tryz.func212 (by kernel_rfl) Tryz.ntmps212 (by kernel_rfl) QYF QWU
end
theorem QgR : ∀ N : Nat, Meets Tryz.prog 212 (strip (@QhF ⟨N⟩))
 | 0 => Qb9 fun x => by first | rfl | simp [copLF]
 | N + 1 => by
  letI : Fuel := ⟨N⟩
  haveI : Nonempty (PLift (Meets Tryz.prog 212 (strip QhF))) := ⟨⟨QgR N⟩⟩
  exact Qah QWC fun x hok => (e_f212 x.1).trans (s_f212 x.1 hok)
def QGV : Ent := spec (.pr (.sl Qak) .nil) (fun x => (copOk x.1)) (fun x => (.t (.sl Qak) (copV x.1)))
theorem QVI : Meets Tryz.prog 212 (strip QGV) := Qca QgR fun x hok => QlM x.1 hok
end
end Go.Proofs.YtckcgijklnloiaaGreat.K
set_option linter.unusedSectionVars false
namespace Go.Proofs.YtckcgijklnloiaaGreat.K
open Go.RowKit
noncomputable section
theorem Qz3 {n : Nat} {x : ValT} (h : okT (n + 1) x = true) : ∀ k (hk : k < (List.map Val.un x.2.2.2.1).length), okT n (List.map Val.un x.2.2.2.1)[k] = true := by
 intro k hk
 rw [List.getElem_map, QwJ]
 exact (QcL h).2.2.2.2.2.2 _ (List.getElem_mem _)
def frmV (_x : ValT) : Bool := true
def frmOk (x : ValT) : Bool := okT 12 x
theorem Qrj (x : ValT) (h : frmOk x = true) : ∃ N, okT N x = true := ⟨12, h⟩
theorem QlL (x : ValT) (h : frmOk x = true) : ∃ N, okT N x = true := ⟨12, h⟩
theorem QMX : Qai Tryz.prog 219 := .inr ⟨by decide, _, Tryz.func219, by kernel_rfl, by kernel_rfl⟩
def QhE [Fuel] : Ent := spec (.pr Qak .nil) (fun x => (okT fuel x.1)) (fun x => (.t .bool (frmV x.1)))
theorem QRc : Qai Tryz.prog 219 := QMX
section
variable [Fuel] [Nonempty (PLift (Meets Tryz.prog 219 (strip QhE)))]
theorem QPD : Meets Tryz.prog 219 (strip QhE) := (Classical.choice (inferInstance : Nonempty (PLift (Meets Tryz.prog 219 (strip QhE))))).down
def unfV (_x : ValT) : Bool := false
def unfOk [Fuel] (x : ValT) : Bool := okT fuel x
def Qe2 [Fuel] (l : List ValT) : Bool := decide (l.length ≤ 100000) && l.all (okT fuel)
noncomputable def Qx4 : TC := (.sq (.reg (rT Tryz.f233 0)) (.sq (.reg (rT Tryz.f233 1)) .rt))
def QH7 : List (RV × Option Ty) := [((.t 2), some .bool)]
def QCz : G := ⟨TYs, [], 6, EL [(219, QhE)], keeps, (fun _ _ => none), IL [], RL []⟩
def QJD (p0 : ValT) : Option (V × List VO) := br (okT fuel p0) (some (.t .bool (!(frmV p0)), [])) none
theorem e_f233 (p0 : ValT) : runF QCz Qx4 QH7 false [.t Qak p0] [] = QJD p0 := by kernel_rfl
theorem QZM : Qai Tryz.prog 233 := .inr ⟨by decide, _, Tryz.func233, by kernel_rfl, by kernel_rfl⟩
theorem QYv : GOk Tryz.prog QCz := Qal _ (gA (gC QRc QPD gN))
theorem QWK : Qx4.lok QCz := by repeat (first | exact trivial | refine ⟨?_, ?_⟩)
theorem s_f233 (x : ValT) (h : unfOk x = true) : QJD x = some (.t .bool (unfV x), []) := by
 simp only [QJD, show okT fuel x = true from h, Qad]
 rfl
def QGN : Ent := spec (.pr Qak .nil) (fun x => (unfOk x.1)) (fun x => (.t .bool (unfV x.1)))
theorem QVA : Meets Tryz.prog 233 (strip QGN) := Qah (R := runF QCz Qx4 QH7 false) (mG Tryz.func233 (by kernel_rfl) Tryz.ntmps233 (by kernel_rfl) QYv QWK) fun x hok => (e_f233 x.1).trans (s_f233 x.1 hok)
def QMz (_l : List ValT) : Int := -1
def Qcr : Fg := ⟨[(0, some (.sl Qak)), (1, none), (7, some tI), (8, some tI)], []⟩
noncomputable def Qde : TC := (.sq (.reg (rT Tryz.f237 2)) (.sq (.cd (.t 9) .sk (.fg ⟨[], []⟩ (.ex 0))) (.sq (.bk 1 (.sq (.reg (rT Tryz.f237 3)) (.sq (.reg (rT Tryz.f237 4)) (.cd (.t 16) (.sq (.reg (rT Tryz.f237 5)) (.fg ⟨[(4, some tI)], []⟩ .rt)) .sk)))) (.reg (rT Tryz.f237 6)))))
noncomputable def Qin : TC := (.sq (.reg (rT Tryz.f237 0)) (.sq (.sq (.reg (rT Tryz.f237 1)) (.bk 0 (.lp 0 Qcr Qde))) (.sq (.reg (rT Tryz.f237 7)) .rt)))
def Qqg : List (RV × Option Ty) := [((.t 4), some tI)]
abbrev QfE : Sh := ⟨[(0, .ty (.sl Qak)), (1, .cf 233), (7, .ty tI), (8, .ty tI)], []⟩
def Qft (x0 : List ValT) (x7 x8 : Int) : VS := QfE.st (x0, (), x7, x8, ()) ()
abbrev Qls : Sh := ⟨[(4, .ty tI)], []⟩
def QbF (x4 : Int) : VS := Qls.st (x4, ()) ()
abbrev QmL : Sh := ⟨[], []⟩
def QbU  : VS := QmL.st () ()
def QxY : VS → Option (Bool × List (Bool × Exit × VS)) := mkL QfE (fun x y => (rngOk x.1 x.2.2.1 x.2.2.2.1 && Qe2 x.1)) (fun x y => [((false), .ret, QbF (x.2.2.2.1)), (true, .exit 0, QbU)])
def Qcd : G := ⟨TYs, [], 19, EL [(233, QGN)], keeps, (Ls [QxY]), IL [], RL []⟩
def QmG (x0 : List ValT) (x7 x8 : Int) : Option (Exit × VS) :=
 let a1 := lgt Qak x0 (Int.toNat x8)
 br (ilt x8 x7) (br (cIx x0 x8) (br (unfOk a1) (br (unfV a1) (some (.ret, QbF x8)) (some (.normal, Qft x0 x7 (iadd .i64 x8 1)))) none) none) (some (.exit 0, QbU))
noncomputable def Qds (x0 : List ValT) (x7 x8 : Int) : Option (Exit × VS) := loopF (Qaj Qcd Qcr Qde) (Qft x0 x7 x8)
noncomputable def Qez (x0 : List ValT) (x7 x8 : Int) : Option (Exit × VS) :=
 let a1 := lgt Qak x0 (Int.toNat x8)
 br (ilt x8 x7) (br (cIx x0 x8) (br (unfOk a1) (br (unfV a1) (some (.ret, QbF x8)) (Qds x0 x7 (iadd .i64 x8 1))) none) none) (some (.exit 0, QbU))
def Qf0 (x0 : List ValT) (x7 x8 : Int) : Option (Exit × VS) := br (false) (some (.ret, QbF (x8))) <| some (.exit 0, QbU)
theorem Qvh (x0 : List ValT) (x7 x8 : Int) : Qaj Qcd Qcr Qde (Qft x0 x7 x8) = QmG x0 x7 x8 := by kernel_rfl
theorem Qka (x0 : List ValT) (x7 x8 : Int) : Qds x0 x7 x8 = Qez x0 x7 x8 := (Qan _ _).trans (by
 rw [Qvh]
 simp only [QmG, Qez, Qay, nxt_n, nxt_r, nxt_e, nxt_0]
 rfl)
def Qlx (p0 : List ValT) : Option (V × List VO) := br (rngOk p0 (llen p0) (0 : Int) && Qe2 p0) (br (false) (some (.t tI (0 : Int), [])) (some (.t tI (-1), []))) none
theorem QE9 (p0 : List ValT) : runF Qcd Qin Qqg false [.t (.sl Qak) p0, .c (.func (.func 233) ⟨[]⟩ ⟨[]⟩)] [] = Qlx p0 := by kernel_rfl
theorem QA1 : Qai Tryz.prog 237 := .inr ⟨by decide, _, Tryz.func237, by kernel_rfl, by kernel_rfl⟩
theorem QAO : GOk Tryz.prog Qcd := Qal _ (gA (gC QZM QVA gN))
theorem Qxu (x0 : List ValT) (x7 x8 : Int) (h : (rngOk x0 x7 x8 && Qe2 x0) = true) : Qds x0 x7 x8 = Qf0 x0 x7 x8 := by
 simp only [Bool.and_eq_true] at h
 obtain ⟨h0, hc⟩ := h
 obtain ⟨rfl, h3, k, rfl, hk⟩ := rng_k h0
 clear h0
 simp only [Qe2, Bool.and_eq_true, List.all_eq_true] at hc
 refine Qar x0 (fun k => Qds x0 (x0.length : Int) (k : Int) = Qf0 x0 (x0.length : Int) (k : Int)) ?_ ?_ k hk
 ·rw [Qka]
  simp [Qez, Qf0, Qas, Qaf]
 ·intro k hk ih
  rw [Qka]
  have hx := hc.2 x0[k] (List.getElem_mem hk)
  simp only [Qez, Qas, Qaw, hk, decide_true, Qad, Int.toNat_natCast, add1 (show k < 4611686018427387904 by omega), QaA (y := Qak) hk, show unfOk x0[k] = true from hx, unfV, Qaf, ih]
  rfl
theorem QuR : ∀ S l p, Qcd.L 0 (fgt Qcr S) = some (true, l) → pickA l = some p → loopF (Qaj Qcd Qcr Qde) S = some p :=
 QaB (s := QfE) ⟨by decide, by decide⟩ (by kernel_rfl) fun x y hok p hp => by
 simp only [Qao, Qam] at hp
 exact (Qxu x.1 x.2.2.1 x.2.2.2.1 (by simpa using hok)).trans hp
theorem QAy : Qin.lok Qcd := by
 repeat (first | exact trivial | exact QuR | refine ⟨?_, ?_⟩)
theorem QEw (l : List ValT) (h : Qe2 l = true) : Qlx l = some (.t tI (QMz l), []) := by
 have hl : l.length ≤ 100000 := by simp only [Qe2, Bool.and_eq_true, decide_eq_true_eq] at h; exact h.1
 simp only [Qlx, rng_0 hl, h, Bool.true_and, Qad, Qaf]
 rfl
def Qpk : Ent := specH [.ty (.sl Qak), .cf 233] [] (fun x d => (Qe2 x.1)) (fun x d => (.t tI (QMz x.1)))
theorem Qz9 : Meets Tryz.prog 237 (strip Qpk) := (QaP (R := runF Qcd Qin Qqg false) (mG Tryz.func237 (by kernel_rfl) Tryz.ntmps237 (by kernel_rfl) QAO QAy) fun x d hok => (QE9 x.1).trans (QEw x.1 hok))
def QOQ (_l : List ValT) : Bool := false
noncomputable def Qio : TC := (.sq (.reg (rT Tryz.f232 0)) (.sq (.reg (rT Tryz.f232 1)) .rt))
def Qqh : List (RV × Option Ty) := [((.t 4), some .bool)]
def Qh0 : G := ⟨TYs, [], 9, EL [(237, Qpk)], keeps, (fun _ _ => none), IL [], RL []⟩
def Qly (p0 : List ValT) : Option (V × List VO) := br (Qe2 p0) (some (.t .bool (ige (QMz p0) 0), [])) none
theorem QFa (p0 : List ValT) : runF Qh0 Qio Qqh false [.t (.sl Qak) p0, .c (.func (.func 233) ⟨[]⟩ ⟨[]⟩)] [] = Qly p0 := by kernel_rfl
theorem QA2 : Qai Tryz.prog 232 := .inr ⟨by decide, _, Tryz.func232, by kernel_rfl, by kernel_rfl⟩
theorem QAP : GOk Tryz.prog Qh0 := Qal _ (gA (gC QA1 Qz9 gN))
theorem QAz : Qio.lok Qh0 := by repeat (first | exact trivial | refine ⟨?_, ?_⟩)
theorem QEx (l : List ValT) (h : Qe2 l = true) : Qly l = some (.t .bool (QOQ l), []) := by
 simp only [Qly, h, Qad]
 rfl
def Qpl : Ent := specH [.ty (.sl Qak), .cf 233] [] (fun x d => (Qe2 x.1)) (fun x d => (.t .bool (QOQ x.1)))
theorem QAa : Meets Tryz.prog 232 (strip Qpl) := (QaP (R := runF Qh0 Qio Qqh false) (mG Tryz.func232 (by kernel_rfl) Tryz.ntmps232 (by kernel_rfl) QAP QAz) fun x d hok => (QFa x.1).trans (QEx x.1 hok))
noncomputable def Qyd : TC := (.sq (.reg (rT Tryz.f219 0)) (.sq (.sq (.reg (rT Tryz.f219 1)) (.cd (.t 36) (.sq (.reg (rT Tryz.f219 2)) .rt) .sk)) (.sq (.reg (rT Tryz.f219 3)) .rt)))
def QIg : List (RV × Option Ty) := [((.t 2), some .bool)]
def QCG : G := ⟨TYs, [], 41, EL [(231, QGO), (232, Qpl)], keeps, (fun _ _ => none), IL [], RL []⟩
def Quc (p0 : ValT) : Option (V × List VO) :=
 let a1 := List.map Val.un p0.2.2.2.1
 br (Qe2 a1) (some (.t .bool (!(QOQ a1)), [])) none
def Qqs (p0 : ValT) : Option (V × List VO) := br (!p0.2.2.1) (br (igt (llen (List.map Val.un p0.2.2.2.1)) 0) (some (.t .bool false, [])) (Quc p0)) (Quc p0)
def QJL (p0 : ValT) : Option (V × List VO) := br (!(tagB p0.1)) (some (.t .bool false, [])) (br (bneq p0.2.2.1 (ine (iband .i64 p0.1 32) 0)) (some (.t .bool false, [])) (br (p0.2.2.1) (br (igt (llen p0.2.1) 0) (some (.t .bool false, [])) (Qqs p0)) (Qqs p0)))
theorem e_f219 (p0 : ValT) : runF QCG Qyd QIg false [.t Qak p0] [] = QJL p0 := by kernel_rfl
theorem QYE : GOk Tryz.prog QCG := Qal _ (gA (gC QZN QVB (gC QA2 QAa gN)))
theorem QWT : Qyd.lok QCG := by repeat (first | exact trivial | refine ⟨?_, ?_⟩)
theorem s_f219 (x : ValT) (h : okT (fuel + 1) x = true) : QJL x = some (.t .bool (frmV x), []) := by
 obtain ⟨h1, h2, h3, h4, h5, h6, h7⟩ := QcL h
 have hu : Qe2 (List.map Val.un x.2.2.2.1) = true := by
  simp only [Qe2, Bool.and_eq_true, decide_eq_true_eq, List.length_map, List.all_eq_true, List.mem_map]
  refine ⟨h6, ?_⟩
  rintro y ⟨v, hv, rfl⟩
  rw [QwJ]
  exact h7 v hv
 have ht : tagB x.1 = true := by rcases h1 with e | e | e | e <;> rw [e] <;> rfl
 have hn : bneq x.2.2.1 (ine (iband .i64 x.1 32) 0) = false := by rw [h2]; rcases h1 with e | e | e | e <;> rw [e] <;> rfl
 simp only [QJL, Qqs, Quc, ht, hn, hu, Bool.not_true, Qad, Qaf]
 cases hq : x.2.2.1 with
 | true =>
  rw [h3 hq]
  rfl
 | false =>
  rw [h4 hq]
  rfl
theorem QWB : Meets Tryz.prog 219 (runF QCG Qyd QIg false) := mG Tryz.func219 (by kernel_rfl) Tryz.ntmps219 (by kernel_rfl) QYE QWT
end
theorem QjC : ∀ N : Nat, Meets Tryz.prog 219 (strip (@QhE ⟨N⟩))
 | 0 => Qb9 fun x => by first | rfl | simp [okT]
 | N + 1 => by
  letI : Fuel := ⟨N⟩
  haveI : Nonempty (PLift (Meets Tryz.prog 219 (strip QhE))) := ⟨⟨QjC N⟩⟩
  exact Qah QWB fun x hok => (e_f219 x.1).trans (s_f219 x.1 hok)
def QGU : Ent := spec (.pr Qak .nil) (fun x => (frmOk x.1)) (fun x => (.t .bool (frmV x.1)))
theorem QVH : Meets Tryz.prog 219 (strip QGU) := Qca QjC fun x hok => Qrj x.1 hok
theorem QM3 : Qai Tryz.prog 182 := .inr ⟨by decide, _, Tryz.func182, by kernel_rfl, by kernel_rfl⟩
def QhI [Fuel] : Ent := spec (.pr Qak .nil) (fun x => (okT fuel x.1)) (fun x => (.t .bool (frmV x.1)))
theorem QRg : Qai Tryz.prog 182 := QM3
section
variable [Fuel] [Nonempty (PLift (Meets Tryz.prog 182 (strip QhI)))]
theorem QPH : Meets Tryz.prog 182 (strip QhI) := (Classical.choice (inferInstance : Nonempty (PLift (Meets Tryz.prog 182 (strip QhI))))).down
def frmIn [Fuel] (x : ValT) : Bool := okT (fuel + 1) x
def Qhd : Fg := ⟨[(1, none), (3, some tI)], [(1, some Qak)]⟩
noncomputable def Qi5 : TC := (.sq (.sq (.reg (rT Tryz.f182 4)) (.cd (.t 43) .sk (.fg ⟨[], []⟩ (.ex 0)))) (.sq (.bk 1 (.sq (.reg (rT Tryz.f182 5)) (.cd (.t 52) (.sq (.reg (rT Tryz.f182 6)) (.fg ⟨[(2, some .bool)], []⟩ .rt)) .sk))) (.reg (rT Tryz.f182 7))))
noncomputable def Qyu : TC := (.sq (.reg (rT Tryz.f182 0)) (.sq (.sq (.reg (rT Tryz.f182 1)) (.cd (.t 38) (.sq (.reg (rT Tryz.f182 2)) .rt) .sk)) (.sq (.sq (.reg (rT Tryz.f182 3)) (.bk 0 (.lp 0 Qhd Qi5))) (.sq (.reg (rT Tryz.f182 8)) .rt))))
def QIx : List (RV × Option Ty) := [((.t 2), some .bool)]
abbrev QpN : Sh := ⟨[(1, .ptr 1 0), (3, .ty tI)], [(1, .box Qak)]⟩
def Qo5 (x3 : Int) (y1 : ValT) : VS := QpN.st ((), x3, ()) (y1, ())
abbrev QtD : Sh := ⟨[(2, .ty .bool)], []⟩
def Qdi (x2 : Bool) : VS := QtD.st (x2, ()) ()
abbrev Qwa : Sh := ⟨[], []⟩
def Qeb  : VS := Qwa.st () ()
def QSC : VS → Option (Bool × List (Bool × Exit × VS)) := mkL QpN (fun x y => (decide (0 ≤ x.2.1 ∧ x.2.1 ≤ y.1.2.2.2.1.length) && frmIn y.1)) (fun x y => [((false), .ret, Qdi (false)), (true, .exit 0, Qeb)])
def Qml : G := ⟨TYs, [], 53, EL [(182, QhI), (210, QGX)], keeps, (Ls [QSC]), IL [], RL []⟩
def QDW (x3 : Int) (y1 : ValT) : Option (Exit × VS) :=
 let a1 := List.map Val.un y1.2.2.2.1
 let a2 := lgt Qak a1 (Int.toNat x3)
 br (ilt x3 (llen a1)) (br (cIx a1 x3) (br (okT fuel a2) (br (!(frmV a2)) (some (.ret, Qdi false)) (some (.normal, Qo5 (iadd .i64 x3 1) y1))) none) none) (some (.exit 0, Qeb))
noncomputable def QjU (x3 : Int) (y1 : ValT) : Option (Exit × VS) := loopF (Qaj Qml Qhd Qi5) (Qo5 x3 y1)
noncomputable def QnI (x3 : Int) (y1 : ValT) : Option (Exit × VS) :=
 let a1 := List.map Val.un y1.2.2.2.1
 let a2 := lgt Qak a1 (Int.toNat x3)
 br (ilt x3 (llen a1)) (br (cIx a1 x3) (br (okT fuel a2) (br (!(frmV a2)) (some (.ret, Qdi false)) (QjU (iadd .i64 x3 1) y1)) none) none) (some (.exit 0, Qeb))
def Qq9 (x3 : Int) (y1 : ValT) : Option (Exit × VS) := br (false) (some (.ret, Qdi (false))) <| some (.exit 0, Qeb)
theorem QN4 (x3 : Int) (y1 : ValT) : Qaj Qml Qhd Qi5 (Qo5 x3 y1) = QDW x3 y1 := by kernel_rfl
theorem Qw9 (x3 : Int) (y1 : ValT) : QjU x3 y1 = QnI x3 y1 := (Qan _ _).trans (by
 rw [QN4]
 simp only [QDW, QnI, Qay, nxt_n, nxt_r, nxt_e, nxt_0]
 rfl)
def Que (p0 : ValT) : Option (V × List VO) := br (decide (0 ≤ (0 : Int) ∧ (0 : Int) ≤ p0.2.2.2.1.length) && frmIn p0) (br (false) (some (.t .bool (false), [])) (some (.t .bool true, []))) none
def Quf (p0 : ValT) : Option (V × List VO) := br (!p0.2.2.1) (br (igt (llen (List.map Val.un p0.2.2.2.1)) 0) (some (.t .bool false, [])) (Que p0)) (Que p0)
def QJ0 (p0 : ValT) : Option (V × List VO) := br (!(tagR p0.1)) (some (.t .bool false, [])) (br (cNz 32) (br (cNz 2) (br (bneq p0.2.2.1 (ieq (irem (iquo .i64 p0.1 32) 2) 1)) (some (.t .bool false, [])) (br (p0.2.2.1) (br (igt (llen p0.2.1) 0) (some (.t .bool false, [])) (Quf p0)) (Quf p0))) none) none)
theorem e_f182 (p0 : ValT) : runF Qml Qyu QIx false [.t Qak p0] [] = QJ0 p0 := by kernel_rfl
theorem QYV : GOk Tryz.prog Qml := Qal _ (gA (gC QRg QPH (gC QZT QVK gN)))
theorem QQv (x3 : Int) (y1 : ValT) (h : (decide (0 ≤ x3 ∧ x3 ≤ y1.2.2.2.1.length) && frmIn y1) = true) : QjU x3 y1 = Qq9 x3 y1 := by
 simp only [Bool.and_eq_true, decide_eq_true_eq] at h
 obtain ⟨⟨h0, h1⟩, hc⟩ := h
 obtain ⟨k, rfl⟩ := Int.eq_ofNat_of_zero_le h0
 have hm := Qz3 hc
 have hl := (QcL hc).2.2.2.2.2.1
 refine Qar (List.map Val.un y1.2.2.2.1) (fun k => QjU (k : Int) y1 = Qq9 (k : Int) y1) ?_ ?_ k (by rw [List.length_map]; omega)
 ·rw [Qw9]
  simp [QnI, Qq9, ilt, llen, Qaf]
 ·intro k hk ih
  rw [Qw9]
  have hk2 : k < y1.2.2.2.1.length := by rw [List.length_map] at hk; exact hk
  simp only [QnI, show ilt (k : Int) (llen (List.map Val.un y1.2.2.2.1)) = true from decide_eq_true (by simp only [llen]; omega), Qaw, hk, decide_true, Qad, Int.toNat_natCast, add1 (show k < 4611686018427387904 by omega), QaA (y := Qak) hk, hm k hk, frmV, Bool.not_true, Qaf, ih]
  rfl
theorem QLC : ∀ S l p, Qml.L 0 (fgt Qhd S) = some (true, l) → pickA l = some p → loopF (Qaj Qml Qhd Qi5) S = some p :=
 QaB (s := QpN) ⟨by decide, by decide⟩ (by kernel_rfl) fun x y hok p hp => by
 simp only [Qao, Qam] at hp
 exact (QQv x.2.1 y.1 (by simpa using hok)).trans hp
theorem QXa : Qyu.lok Qml := by
 repeat (first | exact trivial | exact QLC | refine ⟨?_, ?_⟩)
theorem s_f182 (x : ValT) (h : okT (fuel + 1) x = true) : QJ0 x = some (.t .bool (frmV x), []) := by
 obtain ⟨h1, h2, h3, h4, h5, h6, h7⟩ := QcL h
 have ht : tagR x.1 = true := by rcases h1 with e | e | e | e <;> rw [e] <;> rfl
 have hn : bneq x.2.2.1 (ieq (irem (iquo .i64 x.1 32) 2) 1) = false := by rw [h2]; rcases h1 with e | e | e | e <;> rw [e] <;> rfl
 have hd : decide ((0 : Int) ≤ 0 ∧ (0 : Int) ≤ x.2.2.2.1.length) = true := decide_eq_true (by omega)
 simp only [QJ0, Quf, Que, ht, hn, hd, show frmIn x = true from h, Bool.and_self, show cNz 32 = true from rfl, show cNz 2 = true from rfl, Bool.not_true, Qad, Qaf]
 cases hq : x.2.2.1 with
 | true =>
  rw [h3 hq]
  rfl
 | false =>
  rw [h4 hq]
  rfl
theorem QWF : Meets Tryz.prog 182 (runF Qml Qyu QIx false) := mG Tryz.func182 (by kernel_rfl) Tryz.ntmps182 (by kernel_rfl) QYV QXa
end
theorem QgQ : ∀ N : Nat, Meets Tryz.prog 182 (strip (@QhI ⟨N⟩))
 | 0 => Qb9 fun x => by first | rfl | simp [okT]
 | N + 1 => by
  letI : Fuel := ⟨N⟩
  haveI : Nonempty (PLift (Meets Tryz.prog 182 (strip QhI))) := ⟨⟨QgQ N⟩⟩
  exact Qah QWF fun x hok => (e_f182 x.1).trans (s_f182 x.1 hok)
def QG9 : Ent := spec (.pr Qak .nil) (fun x => (frmOk x.1)) (fun x => (.t .bool (frmV x.1)))
theorem QVW : Meets Tryz.prog 182 (strip QG9) := Qca QgQ fun x hok => QlL x.1 hok
def dpV (x : ValT) : Int := (depV (Val.of x) : Int)
def depLF (n : Nat) (x : ValT) : Bool := okT n x && decide (n ≤ 100)
def dpOk (x : ValT) : Bool := okT 12 x
theorem Qr2 (x : ValT) (h : dpOk x = true) : ∃ N, depLF N x = true := ⟨12, by rw [depLF, show okT 12 x = true from h]; rfl⟩
theorem QmS (x : ValT) (h : dpOk x = true) : ∃ N, depLF N x = true := ⟨12, by rw [depLF, show okT 12 x = true from h]; rfl⟩
def depL (l : List ValT) : Nat := depVs (l.map Val.of)
theorem QDy : depL [] = 0 := rfl
theorem QxK (x : ValT) (l : List ValT) : depL (x :: l) = max (depV (Val.of x)) (depL l) := rfl
theorem Qvc (x : ValT) : depV (Val.of x) = depVs x.2.2.2.1 + 1 := rfl
theorem QMm (a b : Nat) : imx (a : Int) (b : Int) = ((max a b : Nat) : Int) := by
 unfold imx
 split <;> omega
theorem QMW : Qai Tryz.prog 220 := .inr ⟨by decide, _, Tryz.func220, by kernel_rfl, by kernel_rfl⟩
def QhD [Fuel] : Ent := spec (.pr Qak .nil) (fun x => (depLF fuel x.1)) (fun x => (.t tI (dpV x.1)))
theorem QRb : Qai Tryz.prog 220 := QMW
section
variable [Fuel] [Nonempty (PLift (Meets Tryz.prog 220 (strip QhD)))]
theorem QPC : Meets Tryz.prog 220 (strip QhD) := (Classical.choice (inferInstance : Nonempty (PLift (Meets Tryz.prog 220 (strip QhD))))).down
def depIn [Fuel] (l : List ValT) : Bool := decide (l.length ≤ 100000 ∧ fuel + 1 ≤ 100) && l.all (okT fuel)
def Qg5 : Fg := ⟨[(3, some tI), (7, some (.sl Qak)), (8, some tI), (9, some tI)], []⟩
noncomputable def QiX : TC := (.sq (.reg (rT Tryz.f220 3)) (.sq (.cd (.t 10) .sk (.fg ⟨[(3, some tI)], []⟩ (.ex 0))) (.sq (.bk 1 (.sq (.reg (rT Tryz.f220 4)) (.reg (rT Tryz.f220 5)))) (.reg (rT Tryz.f220 6)))))
noncomputable def Qyc : TC := (.sq (.reg (rT Tryz.f220 0)) (.sq (.reg (rT Tryz.f220 1)) (.sq (.sq (.reg (rT Tryz.f220 2)) (.bk 0 (.lp 0 Qg5 QiX))) (.sq (.reg (rT Tryz.f220 7)) .rt))))
def QIf : List (RV × Option Ty) := [((.t 2), some tI)]
abbrev QpE : Sh := ⟨[(3, .ty tI), (7, .ty (.sl Qak)), (8, .ty tI), (9, .ty tI)], []⟩
def QoX (x3 : Int) (x7 : List ValT) (x8 x9 : Int) : VS := QpE.st (x3, x7, x8, x9, ()) ()
abbrev Qv2 : Sh := ⟨[(3, .ty tI)], []⟩
def Qd4 (x3 : Int) : VS := Qv2.st (x3, ()) ()
def QSu : VS → Option (Bool × List (Bool × Exit × VS)) := mkL QpE (fun x y => (rngOk x.2.1 x.2.2.1 x.2.2.2.1 && depIn x.2.1 && decide (0 ≤ x.1 ∧ x.1 ≤ 100))) (fun x y => [(true, .exit 0, Qd4 ((max x.1.toNat (depL (x.2.1.drop x.2.2.2.1.toNat)) : Nat) : Int))])
def Qmd : G := ⟨TYs, [], 20, EL [(220, QhD)], keeps, (Ls [QSu]), IL [], RL []⟩
def QDO (x3 : Int) (x7 : List ValT) (x8 x9 : Int) : Option (Exit × VS) :=
 let a1 := lgt Qak x7 (Int.toNat x9)
 br (ilt x9 x8) (br (cIx x7 x9) (br (depLF fuel a1) (some (.normal, QoX (imx x3 (dpV a1)) x7 x8 (iadd .i64 x9 1))) none) none) (some (.exit 0, Qd4 x3))
noncomputable def QjL (x3 : Int) (x7 : List ValT) (x8 x9 : Int) : Option (Exit × VS) := loopF (Qaj Qmd Qg5 QiX) (QoX x3 x7 x8 x9)
noncomputable def QnC (x3 : Int) (x7 : List ValT) (x8 x9 : Int) : Option (Exit × VS) :=
 let a1 := lgt Qak x7 (Int.toNat x9)
 br (ilt x9 x8) (br (cIx x7 x9) (br (depLF fuel a1) (QjL (imx x3 (dpV a1)) x7 x8 (iadd .i64 x9 1)) none) none) (some (.exit 0, Qd4 x3))
def Qki (x3 : Int) (x7 : List ValT) (x8 x9 : Int) : Option (Exit × VS) := some (.exit 0, Qd4 ((max x3.toNat (depL (x7.drop x9.toNat)) : Nat) : Int))
theorem QNW (x3 : Int) (x7 : List ValT) (x8 x9 : Int) : Qaj Qmd Qg5 QiX (QoX x3 x7 x8 x9) = QDO x3 x7 x8 x9 := by kernel_rfl
theorem Qw2 (x3 : Int) (x7 : List ValT) (x8 x9 : Int) : QjL x3 x7 x8 x9 = QnC x3 x7 x8 x9 := (Qan _ _).trans (by
 rw [QNW]
 simp only [QDO, QnC, Qay, nxt_n, nxt_r, nxt_e, nxt_0]
 rfl)
def QJK (p0 : ValT) : Option (V × List VO) :=
 let a1 := List.map Val.un p0.2.2.2.1
 br (rngOk a1 (llen a1) (0 : Int) && depIn a1 && decide (0 ≤ (0 : Int) ∧ (0 : Int) ≤ 100)) (some (.t tI (iadd .i64 ((max (0 : Int).toNat (depL (a1.drop (0 : Int).toNat)) : Nat) : Int) 1), [])) none
theorem e_f220 (p0 : ValT) : runF Qmd Qyc QIf false [.t Qak p0] [] = QJK p0 := by kernel_rfl
theorem QYD : GOk Tryz.prog Qmd := Qal _ (gA (gC QRb QPC gN))
theorem QQn (x3 : Int) (x7 : List ValT) (x8 x9 : Int) (h : (rngOk x7 x8 x9 && depIn x7 && decide (0 ≤ x3 ∧ x3 ≤ 100)) = true) : QjL x3 x7 x8 x9 = Qki x3 x7 x8 x9 := by
 simp only [Bool.and_eq_true, decide_eq_true_eq] at h
 obtain ⟨⟨h0, hc⟩, h1, h2⟩ := h
 obtain ⟨rfl, h3, k, rfl, hk⟩ := rng_k h0
 clear h0
 obtain ⟨m, rfl⟩ := Int.eq_ofNat_of_zero_le h1
 clear h1 h2
 simp only [depIn, Bool.and_eq_true, List.all_eq_true, decide_eq_true_eq] at hc
 obtain ⟨⟨hc0, hc1⟩, hc2⟩ := hc
 revert m
 refine Qar x7 (fun k => ∀ m : Nat, QjL (m : Int) x7 (x7.length : Int) (k : Int) = Qki (m : Int) x7 (x7.length : Int) (k : Int)) ?_ ?_ k hk
 ·intro m
  rw [Qw2]
  simp [QnC, Qki, Qas, Qaf, QDy]
 ·intro k hk ih m
  rw [Qw2]
  have hx := hc2 x7[k] (List.getElem_mem hk)
  have hd : depLF fuel x7[k] = true := by rw [depLF, hx, decide_eq_true (by omega)]; rfl
  simp only [QnC, Qas, Qaw, hk, decide_true, Qad, Int.toNat_natCast, add1 (show k < 4611686018427387904 by omega), QaA (y := Qak) hk, hd, dpV, QMm, ih]
  simp only [Qki, Int.toNat_natCast, List.drop_eq_getElem_cons hk, QxK, Nat.max_assoc]
theorem QLu : ∀ S l p, Qmd.L 0 (fgt Qg5 S) = some (true, l) → pickA l = some p → loopF (Qaj Qmd Qg5 QiX) S = some p :=
 QaB (s := QpE) ⟨by decide, by decide⟩ (by kernel_rfl) fun x y hok p hp => by
 simp only [Qao, Qam] at hp
 exact (QQn x.1 x.2.1 x.2.2.1 x.2.2.2.1 (by simpa using hok)).trans hp
theorem QWS : Qyc.lok Qmd := by
 repeat (first | exact trivial | exact QLu | refine ⟨?_, ?_⟩)
theorem s_f220 (x : ValT) (h : depLF (fuel + 1) x = true) : QJK x = some (.t tI (dpV x), []) := by
 simp only [depLF, Bool.and_eq_true, decide_eq_true_eq] at h
 obtain ⟨h, hf⟩ := h
 obtain ⟨h1, h2, h3, h4, h5, h6, h7⟩ := QcL h
 have hu : depIn (List.map Val.un x.2.2.2.1) = true := by
  simp only [depIn, Bool.and_eq_true, decide_eq_true_eq, List.length_map, List.all_eq_true, List.mem_map]
  refine ⟨⟨h6, hf⟩, ?_⟩
  rintro y ⟨v, hv, rfl⟩
  rw [QwJ]
  exact h7 v hv
 have hd := Qun (v := Val.of x) h
 rw [Qvc] at hd
 simp only [QJK, rng_0 (show (List.map Val.un x.2.2.2.1).length ≤ 100000 by rw [List.length_map]; exact h6), hu, Bool.and_self, show decide ((0 : Int) ≤ 0 ∧ (0 : Int) ≤ 100) = true from rfl, Qad, Int.toNat_zero, List.drop_zero, depL, QcU, Nat.zero_max]
 rw [Qbg (by omega)]
 simp only [dpV, Qvc]
 congr 2
theorem QWA : Meets Tryz.prog 220 (runF Qmd Qyc QIf false) := mG Tryz.func220 (by kernel_rfl) Tryz.ntmps220 (by kernel_rfl) QYD QWS
end
theorem Ql4 : ∀ N : Nat, Meets Tryz.prog 220 (strip (@QhD ⟨N⟩))
 | 0 => Qb9 fun x => by first | rfl | simp [depLF]
 | N + 1 => by
  letI : Fuel := ⟨N⟩
  haveI : Nonempty (PLift (Meets Tryz.prog 220 (strip QhD))) := ⟨⟨Ql4 N⟩⟩
  exact Qah QWA fun x hok => (e_f220 x.1).trans (s_f220 x.1 hok)
def QGT : Ent := spec (.pr Qak .nil) (fun x => (dpOk x.1)) (fun x => (.t tI (dpV x.1)))
theorem QVG : Meets Tryz.prog 220 (strip QGT) := Qca Ql4 fun x hok => Qr2 x.1 hok
theorem QM2 : Qai Tryz.prog 183 := .inr ⟨by decide, _, Tryz.func183, by kernel_rfl, by kernel_rfl⟩
def QhH [Fuel] : Ent := spec (.pr Qak .nil) (fun x => (depLF fuel x.1)) (fun x => (.t tI (dpV x.1)))
theorem QRf : Qai Tryz.prog 183 := QM2
section
variable [Fuel] [Nonempty (PLift (Meets Tryz.prog 183 (strip QhH)))]
theorem QPG : Meets Tryz.prog 183 (strip QhH) := (Classical.choice (inferInstance : Nonempty (PLift (Meets Tryz.prog 183 (strip QhH))))).down
def QxL [Fuel] (x : ValT) : Bool := depLF (fuel + 1) x
def Qhc : Fg := ⟨[(1, none), (3, some tI), (4, some tI)], [(1, some Qak)]⟩
noncomputable def Qi4 : TC := (.sq (.sq (.reg (rT Tryz.f183 3)) (.cd (.t 9) .sk (.fg ⟨[(3, some tI)], []⟩ (.ex 0)))) (.sq (.bk 1 (.reg (rT Tryz.f183 4))) (.reg (rT Tryz.f183 5))))
noncomputable def Qyt : TC := (.sq (.reg (rT Tryz.f183 0)) (.sq (.reg (rT Tryz.f183 1)) (.sq (.sq (.reg (rT Tryz.f183 2)) (.bk 0 (.lp 0 Qhc Qi4))) (.sq (.reg (rT Tryz.f183 6)) .rt))))
def QIw : List (RV × Option Ty) := [((.t 2), some tI)]
abbrev QpM : Sh := ⟨[(1, .ptr 1 0), (3, .ty tI), (4, .ty tI)], [(1, .box Qak)]⟩
def Qo4 (x3 x4 : Int) (y1 : ValT) : VS := QpM.st ((), x3, x4, ()) (y1, ())
abbrev Qv9 : Sh := ⟨[(3, .ty tI)], []⟩
def Qea (x3 : Int) : VS := Qv9.st (x3, ()) ()
def QSB : VS → Option (Bool × List (Bool × Exit × VS)) := mkL QpM (fun x y => (decide (0 ≤ x.2.2.1 ∧ x.2.2.1 ≤ y.1.2.2.2.1.length ∧ 0 ≤ x.2.1 ∧ x.2.1 ≤ 100) && QxL y.1)) (fun x y => [(true, .exit 0, Qea ((max x.2.1.toNat (depL ((List.map Val.un y.1.2.2.2.1).drop x.2.2.1.toNat)) : Nat) : Int))])
def Qmk : G := ⟨TYs, [], 22, EL [(183, QhH)], keeps, (Ls [QSB]), IL [], RL []⟩
def QDV (x3 x4 : Int) (y1 : ValT) : Option (Exit × VS) :=
 let a1 := List.map Val.un y1.2.2.2.1
 let a2 := lgt Qak a1 (Int.toNat x4)
 br (ilt x4 (llen a1)) (br (cIx a1 x4) (br (depLF fuel a2) (some (.normal, Qo4 (imx x3 (dpV a2)) (iadd .i64 x4 1) y1)) none) none) (some (.exit 0, Qea x3))
noncomputable def QjT (x3 x4 : Int) (y1 : ValT) : Option (Exit × VS) := loopF (Qaj Qmk Qhc Qi4) (Qo4 x3 x4 y1)
noncomputable def QnH (x3 x4 : Int) (y1 : ValT) : Option (Exit × VS) :=
 let a1 := List.map Val.un y1.2.2.2.1
 let a2 := lgt Qak a1 (Int.toNat x4)
 br (ilt x4 (llen a1)) (br (cIx a1 x4) (br (depLF fuel a2) (QjT (imx x3 (dpV a2)) (iadd .i64 x4 1) y1) none) none) (some (.exit 0, Qea x3))
def Qko (x3 x4 : Int) (y1 : ValT) : Option (Exit × VS) := some (.exit 0, Qea ((max x3.toNat (depL ((List.map Val.un y1.2.2.2.1).drop x4.toNat)) : Nat) : Int))
theorem QN3 (x3 x4 : Int) (y1 : ValT) : Qaj Qmk Qhc Qi4 (Qo4 x3 x4 y1) = QDV x3 x4 y1 := by kernel_rfl
theorem Qw8 (x3 x4 : Int) (y1 : ValT) : QjT x3 x4 y1 = QnH x3 x4 y1 := (Qan _ _).trans (by
 rw [QN3]
 simp only [QDV, QnH, Qay, nxt_n, nxt_r, nxt_e, nxt_0]
 rfl)
def QJZ (p0 : ValT) : Option (V × List VO) := br (decide (0 ≤ (0 : Int) ∧ (0 : Int) ≤ p0.2.2.2.1.length ∧ 0 ≤ (0 : Int) ∧ (0 : Int) ≤ 100) && QxL p0) (some (.t tI (iadd .i64 ((max (0 : Int).toNat (depL ((List.map Val.un p0.2.2.2.1).drop (0 : Int).toNat)) : Nat) : Int) 1), [])) none
theorem e_f183 (p0 : ValT) : runF Qmk Qyt QIw false [.t Qak p0] [] = QJZ p0 := by kernel_rfl
theorem QYU : GOk Tryz.prog Qmk := Qal _ (gA (gC QRf QPG gN))
theorem QQu (x3 x4 : Int) (y1 : ValT) (h : (decide (0 ≤ x4 ∧ x4 ≤ y1.2.2.2.1.length ∧ 0 ≤ x3 ∧ x3 ≤ 100) && QxL y1) = true) : QjT x3 x4 y1 = Qko x3 x4 y1 := by
 simp only [Bool.and_eq_true, decide_eq_true_eq] at h
 obtain ⟨⟨h0, h1, h2, h3⟩, hc⟩ := h
 obtain ⟨k, rfl⟩ := Int.eq_ofNat_of_zero_le h0
 obtain ⟨m, rfl⟩ := Int.eq_ofNat_of_zero_le h2
 clear h2 h3
 simp only [QxL, depLF, Bool.and_eq_true, decide_eq_true_eq] at hc
 obtain ⟨hc, hf⟩ := hc
 have hm := Qz3 hc
 have hl := (QcL hc).2.2.2.2.2.1
 revert m
 refine Qar (List.map Val.un y1.2.2.2.1) (fun k => ∀ m : Nat, QjT (m : Int) (k : Int) y1 = Qko (m : Int) (k : Int) y1) ?_ ?_ k (by rw [List.length_map]; omega)
 ·intro m
  rw [Qw8]
  simp only [QnH, show ilt ((List.map Val.un y1.2.2.2.1).length : Int) (llen (List.map Val.un y1.2.2.2.1)) = false from decide_eq_false (by simp only [llen]; omega), Qaf]
  simp only [Qko, Int.toNat_natCast, List.drop_length, QDy, Nat.max_zero]
 ·intro k hk ih m
  rw [Qw8]
  have hk2 : k < y1.2.2.2.1.length := by rw [List.length_map] at hk; exact hk
  have hd : depLF fuel (List.map Val.un y1.2.2.2.1)[k] = true := by rw [depLF, hm k hk, decide_eq_true (by omega)]; rfl
  simp only [QnH, show ilt (k : Int) (llen (List.map Val.un y1.2.2.2.1)) = true from decide_eq_true (by simp only [llen]; omega), Qaw, hk, decide_true, Qad, Int.toNat_natCast, add1 (show k < 4611686018427387904 by omega), QaA (y := Qak) hk, hd, dpV, QMm, ih]
  simp only [Qko, Int.toNat_natCast, List.drop_eq_getElem_cons hk, QxK, Nat.max_assoc]
theorem QLB : ∀ S l p, Qmk.L 0 (fgt Qhc S) = some (true, l) → pickA l = some p → loopF (Qaj Qmk Qhc Qi4) S = some p :=
 QaB (s := QpM) ⟨by decide, by decide⟩ (by kernel_rfl) fun x y hok p hp => by
 simp only [Qao, Qam] at hp
 exact (QQu x.2.1 x.2.2.1 y.1 (by simpa using hok)).trans hp
theorem QW9 : Qyt.lok Qmk := by
 repeat (first | exact trivial | exact QLB | refine ⟨?_, ?_⟩)
theorem s_f183 (x : ValT) (h : depLF (fuel + 1) x = true) : QJZ x = some (.t tI (dpV x), []) := by
 have hin : QxL x = true := h
 simp only [depLF, Bool.and_eq_true, decide_eq_true_eq] at h
 obtain ⟨h, hf⟩ := h
 have hd := Qun (v := Val.of x) h
 rw [Qvc] at hd
 have hdd : decide ((0 : Int) ≤ 0 ∧ (0 : Int) ≤ x.2.2.2.1.length ∧ (0 : Int) ≤ 0 ∧ (0 : Int) ≤ 100) = true := decide_eq_true (by omega)
 simp only [QJZ, hin, hdd, Bool.and_self, Qad, Int.toNat_zero, List.drop_zero, depL, QcU, Nat.zero_max]
 rw [Qbg (by omega)]
 simp only [dpV, Qvc]
 congr 2
theorem QWE : Meets Tryz.prog 183 (runF Qmk Qyt QIw false) := mG Tryz.func183 (by kernel_rfl) Tryz.ntmps183 (by kernel_rfl) QYU QW9
end
theorem Qii : ∀ N : Nat, Meets Tryz.prog 183 (strip (@QhH ⟨N⟩))
 | 0 => Qb9 fun x => by first | rfl | simp [depLF]
 | N + 1 => by
  letI : Fuel := ⟨N⟩
  haveI : Nonempty (PLift (Meets Tryz.prog 183 (strip QhH))) := ⟨⟨Qii N⟩⟩
  exact Qah QWE fun x hok => (e_f183 x.1).trans (s_f183 x.1 hok)
def QG8 : Ent := spec (.pr Qak .nil) (fun x => (dpOk x.1)) (fun x => (.t tI (dpV x.1)))
theorem QVV : Meets Tryz.prog 183 (strip QG8) := Qca Qii fun x hok => QmS x.1 hok
end
end Go.Proofs.YtckcgijklnloiaaGreat.K
set_option linter.unusedSectionVars false
namespace Go.Proofs.YtckcgijklnloiaaGreat.K
open Go.RowKit
noncomputable section
def encT (x : ValT) : List Int := encV (Val.of x)
def encL (l : List ValT) : List Int := encVs (l.map Val.of)
theorem Qh8 : encL [] = [] := rfl
theorem Qct (x : ValT) (l : List ValT) : encL (x :: l) = encT x ++ encL l := rfl
theorem Qrt (x : ValT) : encT x = icv .u8 x.1 :: (lenL (x.2.1.length + (encVs x.2.2.2.1).length) ++ (x.2.1 ++ encVs x.2.2.2.1)) := rfl
theorem Qrs (x : ValT) : x.2.1.length + (encVs x.2.2.2.1).length ≤ (encT x).length := QQ6 x.1 x.2.1 x.2.2.1 x.2.2.2.1
theorem QlP : ∀ (l : List ValT) (k : Nat) (hk : k < l.length), (encL (l.take k)).length + (encT l[k]).length ≤ (encL l).length
 | [], k, hk => by simp at hk
 | x :: l, 0, _ => by
  rw [List.take_zero, Qh8, Qct, List.length_append]
  simp
 | x :: l, k + 1, hk => by
  simp only [List.length_cons] at hk
  have := QlP l k (by omega)
  simp only [List.take_succ_cons, Qct, List.length_append, List.getElem_cons_succ]
  omega
theorem QhW (n : Nat) : (lenL n).length ≤ 9 := by
 unfold lenL
 split
 ·simp
 ·rw [List.length_cons, Qvb]
  have := Qvd 8 n
  omega
def encLF (n : Nat) (x : ValT) : Bool := okT n x && decide ((encT x).length ≤ 100000000)
def encOk (x : ValT) : Bool := okT 12 x && decide ((encT x).length ≤ 100000000)
theorem Qr1 (x : ValT) (h : encOk x = true) : ∃ N, encLF N x = true := ⟨12, h⟩
theorem QM1 : Qai Tryz.prog 184 := .inr ⟨by decide, _, Tryz.func184, by kernel_rfl, by kernel_rfl⟩
def QhG [Fuel] : Ent := spec (.pr Qak .nil) (fun x => (encLF fuel x.1)) (fun x => (.t (.sl (.int .u8)) (encT x.1)))
theorem QRe : Qai Tryz.prog 184 := QM1
section
variable [Fuel] [Nonempty (PLift (Meets Tryz.prog 184 (strip QhG)))]
theorem QPF : Meets Tryz.prog 184 (strip QhG) := (Classical.choice (inferInstance : Nonempty (PLift (Meets Tryz.prog 184 (strip QhG))))).down
def encIn [Fuel] (x : ValT) : Bool := encLF (fuel + 1) x
noncomputable def QNl : List DO := dT Tryz.f184 6
def Qhb : Fg := ⟨[(1, none), (3, none), (4, some tI)], [(1, some Qak), (3, none), (5, none), (8, none), (23, none)]⟩
noncomputable def Qi3 : TC := (.sq (.sq (.reg (rT Tryz.f184 3)) (.cd (.t 13) .sk (.fg ⟨[(1, none), (3, none)], [(1, some Qak), (3, none), (5, none), (8, none), (23, none)]⟩ (.ex 0)))) (.sq (.bk 1 (.reg (rT Tryz.f184 4))) (.reg (rT Tryz.f184 5))))
noncomputable def Qys : TC := (.sq (.reg (rT Tryz.f184 0)) (.sq (.reg (rT Tryz.f184 1)) (.sq (.sq (.reg (rT Tryz.f184 2)) (.bk 0 (.nw 3 5 (.lp 0 Qhb Qi3)))) (.sq (.dr QNl [(0, [1]), (1, [1]), (2, []), (3, [27, 5027, 10027, 15027]), (4, [3, 5, 8, 23]), (5, [3, 5, 8, 23]), (6, []), (7, [27, 31, 5031, 10031, 15031]), (8, [3, 5, 8, 23]), (9, [3, 5, 8, 23, 27, 31, 33, 5033, 10033, 15033]), (10, [27, 31, 33])] (.of [0, 1, 2, 4, 5, 6, 8, 3, 7, 9, 10])) .rt))))
def QIv : List (RV × Option Ty) := [((.t 2), some (.sl (.int .u8)))]
abbrev QpL : Sh := ⟨[(1, .ptr 1 0), (3, .ms 5), (4, .ty tI)], [(1, .box Qak), (3, .no), (5, .arr 5 (.int .u8)), (8, .no), (23, .no)]⟩
def Qo3 (x4 : Int) (y1 : ValT) (y5 : List Int) : VS := QpL.st ((), (), x4, ()) (y1, (), y5, (), (), ())
abbrev Qv8 : Sh := ⟨[(1, .ptr 1 0), (3, .ms 5)], [(1, .box Qak), (3, .no), (5, .arr 5 (.int .u8)), (8, .no), (23, .no)]⟩
def Qd9 (y1 : ValT) (y5 : List Int) : VS := Qv8.st ((), (), ()) (y1, (), y5, (), (), ())
def QSA : VS → Option (Bool × List (Bool × Exit × VS)) := mkL QpL (fun x y => (decide (0 ≤ x.2.2.1 ∧ x.2.2.1 ≤ y.1.2.2.2.1.length ∧ y.2.2.1.length + (encL ((List.map Val.un y.1.2.2.2.1).drop x.2.2.1.toNat)).length ≤ 1000000000) && encIn y.1)) (fun x y => [(true, .exit 0, Qd9 (y.1) (y.2.2.1 ++ encL ((List.map Val.un y.1.2.2.2.1).drop x.2.2.1.toNat)))])
def Qmj : G := ⟨TYs, [5, 27], 34, EL [(184, QhG), (211, QGW)], keeps, (Ls [QSA]), IL [], RL []⟩
def QDU (x4 : Int) (y1 : ValT) (y5 : List Int) : Option (Exit × VS) :=
 let a2 := List.map Val.un y1.2.2.2.1
 let a1 := lgt Qak a2 (Int.toNat x4)
 br (ilt x4 (llen a2)) (br (cIx a2 x4) (br (encLF fuel a1) (br (cApp y5 (encT a1) 1) (some (.normal, Qo3 (iadd .i64 x4 1) y1 (y5 ++ (encT a1)))) none) none) none) (some (.exit 0, Qd9 y1 y5))
noncomputable def QjS (x4 : Int) (y1 : ValT) (y5 : List Int) : Option (Exit × VS) := loopF (Qaj Qmj Qhb Qi3) (Qo3 x4 y1 y5)
noncomputable def QnG (x4 : Int) (y1 : ValT) (y5 : List Int) : Option (Exit × VS) :=
 let a2 := List.map Val.un y1.2.2.2.1
 let a1 := lgt Qak a2 (Int.toNat x4)
 br (ilt x4 (llen a2)) (br (cIx a2 x4) (br (encLF fuel a1) (br (cApp y5 (encT a1) 1) (QjS (iadd .i64 x4 1) y1 (y5 ++ (encT a1))) none) none) none) (some (.exit 0, Qd9 y1 y5))
def Qkn (x4 : Int) (y1 : ValT) (y5 : List Int) : Option (Exit × VS) := some (.exit 0, Qd9 (y1) (y5 ++ encL ((List.map Val.un y1.2.2.2.1).drop x4.toNat)))
theorem QN2 (x4 : Int) (y1 : ValT) (y5 : List Int) : Qaj Qmj Qhb Qi3 (Qo3 x4 y1 y5) = QDU x4 y1 y5 := by kernel_rfl
theorem Qw7 (x4 : Int) (y1 : ValT) (y5 : List Int) : QjS x4 y1 y5 = QnG x4 y1 y5 := (Qan _ _).trans (by
 rw [QN2]
 simp only [QDU, QnG, Qay, nxt_n, nxt_r, nxt_e, nxt_0]
 rfl)
def QJY (p0 : ValT) : Option (V × List VO) :=
 let a2 := List.map Val.un p0.2.2.2.1
 let a3 := (a2.drop (0 : Int).toNat)
 let a1 := (llen ((([] : List Int) ++ p0.2.1) ++ encL a3))
 let a4 := icv .u8 ((p0).1)
 br (cApp ([] : List Int) p0.2.1 1) (br (decide (0 ≤ (0 : Int) ∧ (0 : Int) ≤ p0.2.2.2.1.length ∧ (([] : List Int) ++ p0.2.1).length + (encL a3).length ≤ 1000000000) && encIn p0) (br (Qxt a1) (br (cApp ([a4]) (lenR a1) 1) (br (cApp (([a4]) ++ (lenR a1)) ((([] : List Int) ++ p0.2.1) ++ encL a3) 1) (some (.t (.sl (.int .u8)) ((([a4]) ++ (lenR a1)) ++ ((([] : List Int) ++ p0.2.1) ++ encL a3)), [])) none) none) none) none) none
theorem e_f184 (p0 : ValT) : runF Qmj Qys QIv false [.t Qak p0] [] = QJY p0 := by kernel_rfl
theorem QYT : GOk Tryz.prog Qmj := Qal _ (gA (gC QRe QPF (gC QZS QVJ gN)))
theorem QQt (x4 : Int) (y1 : ValT) (y5 : List Int) (h : (decide (0 ≤ x4 ∧ x4 ≤ y1.2.2.2.1.length ∧ y5.length + (encL ((List.map Val.un y1.2.2.2.1).drop x4.toNat)).length ≤ 1000000000) && encIn y1) = true) : QjS x4 y1 y5 = Qkn x4 y1 y5 := by
 simp only [Bool.and_eq_true, decide_eq_true_eq] at h
 obtain ⟨⟨h0, h1, h2⟩, hc⟩ := h
 obtain ⟨k, rfl⟩ := Int.eq_ofNat_of_zero_le h0
 simp only [encIn, encLF, Bool.and_eq_true, decide_eq_true_eq] at hc
 obtain ⟨hc, hf⟩ := hc
 have hm := Qz3 hc
 have hl := (QcL hc).2.2.2.2.2.1
 rw [Int.toNat_natCast] at h2
 have hel := Qrs y1
 have hE : encL (List.map Val.un y1.2.2.2.1) = encVs y1.2.2.2.1 := by rw [encL, QcU]
 revert y5
 refine Qar (List.map Val.un y1.2.2.2.1) (fun k => ∀ y5 : List Int, y5.length + (encL ((List.map Val.un y1.2.2.2.1).drop k)).length ≤ 1000000000 → QjS (k : Int) y1 y5 = Qkn (k : Int) y1 y5) ?_ ?_ k (by rw [List.length_map]; omega)
 ·intro y5 _
  rw [Qw7]
  simp only [QnG, show ilt ((List.map Val.un y1.2.2.2.1).length : Int) (llen (List.map Val.un y1.2.2.2.1)) = false from decide_eq_false (by simp only [llen]; omega), Qaf]
  simp only [Qkn, Int.toNat_natCast, List.drop_length, Qh8, List.append_nil]
 ·intro k hk ih y5 hy
  rw [Qw7]
  have hk2 : k < y1.2.2.2.1.length := by rw [List.length_map] at hk; exact hk
  have hs := QlP (List.map Val.un y1.2.2.2.1) k hk
  rw [hE] at hs
  rw [List.drop_eq_getElem_cons hk, Qct, List.length_append] at hy
  have hd : encLF fuel (List.map Val.un y1.2.2.2.1)[k] = true := by rw [encLF, hm k hk, decide_eq_true (by omega)]; rfl
  simp only [QnG, show ilt (k : Int) (llen (List.map Val.un y1.2.2.2.1)) = true from decide_eq_true (by simp only [llen]; omega), Qaw, hk, decide_true, Qad, Int.toNat_natCast, add1 (show k < 4611686018427387904 by omega), QaA (y := Qak) hk, hd]
  rw [cAppN (by omega) (by omega), Qad, ih _ (by rw [List.length_append]; omega)]
  simp only [Qkn, Int.toNat_natCast, List.drop_eq_getElem_cons hk, Qct, List.append_assoc]
theorem QLA : ∀ S l p, Qmj.L 0 (fgt Qhb S) = some (true, l) → pickA l = some p → loopF (Qaj Qmj Qhb Qi3) S = some p :=
 QaB (s := QpL) ⟨by decide, by decide⟩ (by kernel_rfl) fun x y hok p hp => by
 simp only [Qao, Qam] at hp
 exact (QQt x.2.2.1 y.1 y.2.2.1 (by simpa using hok)).trans hp
theorem QW8 : Qys.lok Qmj := by
 repeat (first | exact trivial | exact QLA | refine ⟨?_, ?_⟩)
theorem s_f184 (x : ValT) (h : encLF (fuel + 1) x = true) : QJY x = some (.t (.sl (.int .u8)) (encT x), []) := by
 have hin : encIn x = true := h
 simp only [encLF, Bool.and_eq_true, decide_eq_true_eq] at h
 obtain ⟨h, hf⟩ := h
 have hel := Qrs x
 have hE : encL (List.map Val.un x.2.2.2.1) = encVs x.2.2.2.1 := by rw [encL, QcU]
 have hll := QhW (x.2.1.length + (encVs x.2.2.2.1).length)
 simp only [QJY, hin, Bool.and_true, List.nil_append, Int.toNat_zero, List.drop_zero, hE]
 rw [cAppN (by omega) (by simp only [List.length_nil]; omega), Qad, decide_eq_true ⟨by omega, by omega, by omega⟩, Qad]
 have e1 : Qxt (llen (x.2.1 ++ encVs x.2.2.2.1)) = true := decide_eq_true (by simp only [llen, List.length_append]; omega)
 have e2 : lenR (llen (x.2.1 ++ encVs x.2.2.2.1)) = lenL (x.2.1.length + (encVs x.2.2.2.1).length) := by simp only [lenR, llen, List.length_append, Int.toNat_natCast]
 rw [e1, Qad, e2, cAppN (by omega) (by simp only [List.length_singleton]; omega), Qad, cAppN (by omega) (by simp only [List.length_append, List.length_singleton]; omega), Qad, Qrt]
 simp only [List.singleton_append, List.cons_append, List.nil_append]
theorem QWD : Meets Tryz.prog 184 (runF Qmj Qys QIv false) := mG Tryz.func184 (by kernel_rfl) Tryz.ntmps184 (by kernel_rfl) QYT QW8
end
theorem Ql3 : ∀ N : Nat, Meets Tryz.prog 184 (strip (@QhG ⟨N⟩))
 | 0 => Qb9 fun x => by first | rfl | simp [encLF]
 | N + 1 => by
  letI : Fuel := ⟨N⟩
  haveI : Nonempty (PLift (Meets Tryz.prog 184 (strip QhG))) := ⟨⟨Ql3 N⟩⟩
  exact Qah QWD fun x hok => (e_f184 x.1).trans (s_f184 x.1 hok)
def QG7 : Ent := spec (.pr Qak .nil) (fun x => (encOk x.1)) (fun x => (.t (.sl (.int .u8)) (encT x.1)))
theorem QVU : Meets Tryz.prog 184 (strip QG7) := Qca Ql3 fun x hok => Qr1 x.1 hok
def encE (x : ValT) : List Int × Int := if 4096 < (encT x).length then ([], 3) else (encT x, 0)
theorem QDt {x : ValT} (h : okT 12 x = true) : igt (dpV x) 16 = false := by
 have := Qun (v := Val.of x) h
 exact decide_eq_false (by show ¬ ((depV (Val.of x) : Int) > 16); omega)
noncomputable def QyH : TC := (.sq (.reg (rT Tryz.f157 0)) (.sq (.sq (.reg (rT Tryz.f157 1)) (.cd (.t 7) (.sq (.reg (rT Tryz.f157 2)) .rt) .sk)) (.sq (.sq (.reg (rT Tryz.f157 3)) (.cd (.t 10) (.sq (.reg (rT Tryz.f157 4)) .rt) .sk)) (.sq (.reg (rT Tryz.f157 5)) (.sq (.sq (.reg (rT Tryz.f157 6)) (.cd (.t 15) (.sq (.reg (rT Tryz.f157 7)) .rt) .sk)) (.sq (.reg (rT Tryz.f157 8)) .rt))))))
def QIK : List (RV × Option Ty) := [((.t 2), some (.sl (.int .u8))), ((.t 3), some tI)]
def QCY : G := ⟨TYs, [], 17, EL [(182, QG9), (183, QG8), (184, QG7)], keeps, (fun _ _ => none), IL [], RL []⟩
def QJ9 (p0 : ValT) : Option (V × List VO) := br (frmOk p0) (br (!(frmV p0)) (some (.tu [(.t (.sl (.int .u8)) ([] : List Int)), (.t tI 1)], [])) (br (dpOk p0) (br (igt (dpV p0) 16) (some (.tu [(.t (.sl (.int .u8)) ([] : List Int)), (.t tI 3)], [])) (br (encOk p0) (br (igt (llen (encT p0)) 4096) (some (.tu [(.t (.sl (.int .u8)) ([] : List Int)), (.t tI 3)], [])) (some (.tu [(.t (.sl (.int .u8)) (encT p0)), (.t tI 0)], []))) none)) none)) none
theorem e_f157 (p0 : ValT) : runF QCY QyH QIK false [.t Qak p0] [] = QJ9 p0 := by kernel_rfl
theorem Q0f : Qai Tryz.prog 157 := .inr ⟨by decide, _, Tryz.func157, by kernel_rfl, by kernel_rfl⟩
theorem QY8 : GOk Tryz.prog QCY := Qal _ (gA (gC QM3 QVW (gC QM2 QVV (gC QM1 QVU gN))))
theorem QXn : QyH.lok QCY := by repeat (first | exact trivial | refine ⟨?_, ?_⟩)
theorem s_f157 (x : ValT) (h : encOk x = true) : QJ9 x = some (.tu [.t (.sl (.int .u8)) (encE x).1, .t tI (encE x).2], []) := by
 have h' := h
 simp only [encOk, Bool.and_eq_true, decide_eq_true_eq] at h'
 obtain ⟨h1, h2⟩ := h'
 simp only [QJ9, show frmOk x = true from h1, show dpOk x = true from h1, h, QDt h1, frmV, Bool.not_true, Qad, Qaf]
 unfold encE
 refine QaD (fun g => ?_) (fun g => ?_)
 ·simp only [igt, llen, decide_eq_true_eq] at g
  rw [if_pos (by omega)]
 ·simp only [igt, llen, decide_eq_false_iff_not] at g
  rw [if_neg (by omega)]
def QHm : Ent := spec (.pr Qak .nil) (fun x => (encOk x.1)) (fun x => (.tu [(.t (.sl (.int .u8)) ((encE x.1).1)), (.t tI ((encE x.1).2))]))
theorem QV9 : Meets Tryz.prog 157 (strip QHm) := Qah (R := runF QCY QyH QIK false) (mG Tryz.func157 (by kernel_rfl) Tryz.ntmps157 (by kernel_rfl) QY8 QXn) fun x hok => (e_f157 x.1).trans (s_f157 x.1 hok)
def conV (x : ValT) : List Int := x.2.1 ++ encVs x.2.2.2.1
theorem QDC (x : ValT) : (conV x).length = x.2.1.length + (encVs x.2.2.2.1).length := List.length_append
theorem QlN (x : ValT) (h : encOk x = true) : ∃ N, encLF N x = true := ⟨12, h⟩
def eleV (b : List Int) (x : ValT) : List Int := b ++ encT x
theorem QU1 (b : List Int) (x : ValT) : lenA (b ++ [icv .u8 x.1]) (llen (conV x)) ++ conV x = eleV b x := by
 simp only [lenA, eleV, Qrt, llen, Int.toNat_natCast, conV, List.length_append, List.append_assoc, List.singleton_append, List.cons_append, List.nil_append]
theorem QMU : Qai Tryz.prog 234 := .inr ⟨by decide, _, Tryz.func234, by kernel_rfl, by kernel_rfl⟩
def QhC [Fuel] : Ent := spec (.pr Qak .nil) (fun x => (encLF fuel x.1)) (fun x => (.t (.sl (.int .u8)) (conV x.1)))
theorem QQ8 : Qai Tryz.prog 234 := QMU
section
variable [Fuel] [Nonempty (PLift (Meets Tryz.prog 234 (strip QhC)))]
theorem QPz : Meets Tryz.prog 234 (strip QhC) := (Classical.choice (inferInstance : Nonempty (PLift (Meets Tryz.prog 234 (strip QhC))))).down
def QrD [Fuel] (b : List Int) (x : ValT) : Bool := decide (b.length ≤ 500000000) && encLF fuel x
noncomputable def QsT : TC := (.ad [(50000, 49000)] (.sq (.reg (rT Tryz.f221 0)) (.sq (.reg (rT Tryz.f221 1)) (.sq (.reg (rT Tryz.f221 2)) .rt))))
def QBJ : List (RV × Option Ty) := [((.t 4), none)]
def Qu0 : G := ⟨TYs, [], 19, EL [(234, QhC), (235, Qzi)], (235 :: keeps), (fun _ _ => none), IL [], RL []⟩
def Qz0 (p0 : List Int) (p1 : ValT) : Option (V × List VO) :=
 let a1 := lenA (p0 ++ ([(icv .u8 p1.1)])) (llen (conV p1))
 br (encLF fuel p1) (br (cApp p0 ([(icv .u8 p1.1)]) 1) (br (Qq4 (p0 ++ ([(icv .u8 p1.1)])) (llen (conV p1))) (br (cApp a1 (conV p1) 1) (some (.ms 50001, [.no, .arr 5 (.int .u8) (a1 ++ (conV p1))])) none) none) none) none
theorem Q0E (p0 : List Int) (p1 : ValT) : runF Qu0 QsT QBJ true [.ms 50000, .t Qak p1] [.arr 5 (.int .u8) p0] = Qz0 p0 p1 := by kernel_rfl
theorem QQ9 : Qai Tryz.prog 221 := .inr ⟨by decide, _, Tryz.func221, by kernel_rfl, by kernel_rfl⟩
theorem QQU : GOk Tryz.prog Qu0 := Qal _ (gA (gC QQ8 QPz (gC QMT QK4 gN)))
theorem QQd : QsT.lok Qu0 := by repeat (first | exact trivial | refine ⟨?_, ?_⟩)
theorem QVh (b : List Int) (x : ValT) (h : QrD b x = true) : Qz0 b x = some (.ms 50001, [.no, .arr 5 (.int .u8) (eleV b x)]) := by
 simp only [QrD, Bool.and_eq_true, decide_eq_true_eq] at h
 obtain ⟨h1, h2⟩ := h
 have h3 := h2
 simp only [encLF, Bool.and_eq_true, decide_eq_true_eq] at h3
 have hel := Qrs x
 have hcl := QDC x
 have hll := QhW (conV x).length
 simp only [Qz0, h2, Qad]
 rw [cAppN (by omega) (by simp only [List.length_singleton]; omega), Qad, show Qq4 (b ++ [icv .u8 x.1]) (llen (conV x)) = true from decide_eq_true (by simp only [llen, List.length_append, List.length_singleton]; omega), Qad, cAppN (by omega) (by simp only [lenA, llen, Int.toNat_natCast, List.length_append, List.length_singleton]; omega), Qad, QU1]
def QBF : Ent := specS [.ms 50000, .ty Qak] [.arr 5 (.int .u8)] (fun x y => (QrD y.1 x.2.1)) (fun x y => (.ms 50001)) (fun x y => [.no, .arr 5 (.int .u8) (eleV y.1 x.2.1)])
theorem QPA : Meets Tryz.prog 221 (strip QBF) := QaV (R := runF Qu0 QsT QBJ true) (mG Tryz.func221 (by kernel_rfl) Tryz.ntmps221 (by kernel_rfl) QQU QQd) fun x y hok => (Q0E y.1 x.2.1).trans (QVh y.1 x.2.1 hok)
def conIn [Fuel] (l : List ValT) : Bool := decide (l.length ≤ 100000 ∧ (encL l).length ≤ 100000000) && l.all (okT fuel)
def Qg2 : Fg := ⟨[(3, none), (12, some (.sl Qak)), (13, some tI), (14, some tI)], [(3, none), (20, none), (5020, none), (10020, none), (15020, none)]⟩
noncomputable def QiU : TC := (.mv [(20, 3)] (.sq (.reg (rT Tryz.f234 5)) (.sq (.cd (.t 15) .sk (.fg ⟨[(3, none)], [(3, none), (20, none), (5020, none), (10020, none), (15020, none)]⟩ (.ex 0))) (.sq (.bk 1 (.sq (.reg (rT Tryz.f234 6)) (.reg (rT Tryz.f234 7)))) (.reg (rT Tryz.f234 8))))))
noncomputable def Qx3 : TC := (.sq (.reg (rT Tryz.f234 0)) (.sq (.sq (.reg (rT Tryz.f234 1)) (.cd (.t 8) (.sq (.reg (rT Tryz.f234 2)) .rt) .sk)) (.sq (.reg (rT Tryz.f234 3)) (.sq (.sq (.reg (rT Tryz.f234 4)) (.bk 0 (.nw 3 5 (.lp 0 Qg2 QiU)))) (.sq (.reg (rT Tryz.f234 9)) .rt)))))
def QH6 : List (RV × Option Ty) := [((.t 2), some (.sl (.int .u8)))]
abbrev QpB : Sh := ⟨[(3, .ms 3), (12, .ty (.sl Qak)), (13, .ty tI), (14, .ty tI)], [(3, .arr 5 (.int .u8)), (20, .no), (5020, .no), (10020, .no), (15020, .no)]⟩
def QoU (x12 : List ValT) (x13 x14 : Int) (y3 : List Int) : VS := QpB.st ((), x12, x13, x14, ()) (y3, (), (), (), (), ())
abbrev QvY : Sh := ⟨[(3, .ms 3)], [(3, .arr 5 (.int .u8)), (20, .no), (5020, .no), (10020, .no), (15020, .no)]⟩
def Qd1 (y3 : List Int) : VS := QvY.st ((), ()) (y3, (), (), (), (), ())
def QSr : VS → Option (Bool × List (Bool × Exit × VS)) := mkL QpB (fun x y => (rngOk x.2.1 x.2.2.1 x.2.2.2.1 && conIn x.2.1 && decide (y.1.length + (encL (x.2.1.drop x.2.2.2.1.toNat)).length ≤ 200000000))) (fun x y => [(true, .exit 0, Qd1 (y.1 ++ encL (x.2.1.drop x.2.2.2.1.toNat)))])
def Qmc : G := ⟨TYs, [], 23, EL [(221, QBF)], (221 :: keeps), (Ls [QSr]), IL [], RL []⟩
def QDL (x12 : List ValT) (x13 x14 : Int) (y3 : List Int) : Option (Exit × VS) :=
 let a1 := lgt Qak x12 (Int.toNat x14)
 br (ilt x14 x13) (br (cIx x12 x14) (br (QrD y3 a1) (some (.normal, QoU x12 x13 (iadd .i64 x14 1) (eleV y3 a1))) none) none) (some (.exit 0, Qd1 y3))
noncomputable def QjK (x12 : List ValT) (x13 x14 : Int) (y3 : List Int) : Option (Exit × VS) := loopF (Qaj Qmc Qg2 QiU) (QoU x12 x13 x14 y3)
noncomputable def QnA (x12 : List ValT) (x13 x14 : Int) (y3 : List Int) : Option (Exit × VS) :=
 let a1 := lgt Qak x12 (Int.toNat x14)
 br (ilt x14 x13) (br (cIx x12 x14) (br (QrD y3 a1) (QjK x12 x13 (iadd .i64 x14 1) (eleV y3 a1)) none) none) (some (.exit 0, Qd1 y3))
def Qkg (x12 : List ValT) (x13 x14 : Int) (y3 : List Int) : Option (Exit × VS) := some (.exit 0, Qd1 (y3 ++ encL (x12.drop x14.toNat)))
theorem QNT (x12 : List ValT) (x13 x14 : Int) (y3 : List Int) : Qaj Qmc Qg2 QiU (QoU x12 x13 x14 y3) = QDL x12 x13 x14 y3 := by kernel_rfl
theorem Qw0 (x12 : List ValT) (x13 x14 : Int) (y3 : List Int) : QjK x12 x13 x14 y3 = QnA x12 x13 x14 y3 := (Qan _ _).trans (by
 rw [QNT]
 simp only [QDL, QnA, Qay, nxt_n, nxt_r, nxt_e, nxt_0]
 rfl)
def QJC (p0 : ValT) : Option (V × List VO) :=
 let a1 := List.map Val.un p0.2.2.2.1
 let a2 := (a1.drop (0 : Int).toNat)
 br (!p0.2.2.1) (some (.t (.sl (.int .u8)) p0.2.1, [])) (br (rngOk a1 (llen a1) (0 : Int) && conIn a1 && decide (([] : List Int).length + (encL a2).length ≤ 200000000)) (some (.t (.sl (.int .u8)) (([] : List Int) ++ encL a2), [])) none)
theorem e_f234 (p0 : ValT) : runF Qmc Qx3 QH6 false [.t Qak p0] [] = QJC p0 := by kernel_rfl
theorem QYu : GOk Tryz.prog Qmc := Qal _ (gA (gC QQ9 QPA gN))
theorem QQk (x12 : List ValT) (x13 x14 : Int) (y3 : List Int) (h : (rngOk x12 x13 x14 && conIn x12 && decide (y3.length + (encL (x12.drop x14.toNat)).length ≤ 200000000)) = true) : QjK x12 x13 x14 y3 = Qkg x12 x13 x14 y3 := by
 simp only [Bool.and_eq_true, decide_eq_true_eq] at h
 obtain ⟨⟨h0, hc⟩, h2⟩ := h
 obtain ⟨rfl, h3, k, rfl, hk⟩ := rng_k h0
 clear h0
 rw [Int.toNat_natCast] at h2
 simp only [conIn, Bool.and_eq_true, List.all_eq_true, decide_eq_true_eq] at hc
 obtain ⟨⟨hc0, hc1⟩, hc2⟩ := hc
 revert y3
 refine Qar x12 (fun k => ∀ y3 : List Int, y3.length + (encL (x12.drop k)).length ≤ 200000000 → QjK x12 (x12.length : Int) (k : Int) y3 = Qkg x12 (x12.length : Int) (k : Int) y3) ?_ ?_ k hk
 ·intro y3 _
  rw [Qw0]
  simp only [QnA, Qas, Nat.lt_irrefl, decide_false, Qaf]
  simp only [Qkg, Int.toNat_natCast, List.drop_length, Qh8, List.append_nil]
 ·intro k hk ih y3 hy
  rw [Qw0]
  have hx := hc2 x12[k] (List.getElem_mem hk)
  have hs := QlP x12 k hk
  rw [List.drop_eq_getElem_cons hk, Qct, List.length_append] at hy
  have hd : QrD y3 x12[k] = true := by rw [QrD, encLF, hx, decide_eq_true (show y3.length ≤ 500000000 by omega), decide_eq_true (show (encT x12[k]).length ≤ 100000000 by omega)]; rfl
  simp only [QnA, Qas, Qaw, hk, decide_true, Qad, Int.toNat_natCast, add1 (show k < 4611686018427387904 by omega), QaA (y := Qak) hk, hd, eleV]
  rw [ih _ (by rw [List.length_append]; omega)]
  simp only [Qkg, Int.toNat_natCast, List.drop_eq_getElem_cons hk, Qct, List.append_assoc]
theorem QLr : ∀ S l p, Qmc.L 0 (fgt Qg2 S) = some (true, l) → pickA l = some p → loopF (Qaj Qmc Qg2 QiU) S = some p :=
 QaB (s := QpB) ⟨by decide, by decide⟩ (by kernel_rfl) fun x y hok p hp => by
 simp only [Qao, Qam] at hp
 exact (QQk x.2.1 x.2.2.1 x.2.2.2.1 y.1 (by simpa using hok)).trans hp
theorem QWJ : Qx3.lok Qmc := by
 repeat (first | exact trivial | exact QLr | refine ⟨?_, ?_⟩)
theorem s_f234 (x : ValT) (h : encLF (fuel + 1) x = true) : QJC x = some (.t (.sl (.int .u8)) (conV x), []) := by
 simp only [encLF, Bool.and_eq_true, decide_eq_true_eq] at h
 obtain ⟨h, hf⟩ := h
 obtain ⟨h1, h2, h3, h4, h5, h6, h7⟩ := QcL h
 have hel := Qrs x
 have hE : encL (List.map Val.un x.2.2.2.1) = encVs x.2.2.2.1 := by rw [encL, QcU]
 have hu : conIn (List.map Val.un x.2.2.2.1) = true := by
  simp only [conIn, Bool.and_eq_true, decide_eq_true_eq, List.length_map, List.all_eq_true, List.mem_map, hE]
  refine ⟨⟨h6, by omega⟩, ?_⟩
  rintro y ⟨v, hv, rfl⟩
  rw [QwJ]
  exact h7 v hv
 simp only [QJC, rng_0 (show (List.map Val.un x.2.2.2.1).length ≤ 100000 by rw [List.length_map]; exact h6), hu, Bool.and_self, Bool.true_and, Int.toNat_zero, List.drop_zero, hE, List.nil_append, List.length_nil]
 cases hq : x.2.2.1 with
 | true =>
  rw [Bool.not_true, Qaf, decide_eq_true (by omega), Qad]
  simp only [conV, h3 hq, List.nil_append]
 | false =>
  rw [Bool.not_false, Qad]
  simp only [conV, h4 hq, encVs, List.append_nil]
theorem QWz : Meets Tryz.prog 234 (runF Qmc Qx3 QH6 false) := mG Tryz.func234 (by kernel_rfl) Tryz.ntmps234 (by kernel_rfl) QYu QWJ
end
theorem QgS : ∀ N : Nat, Meets Tryz.prog 234 (strip (@QhC ⟨N⟩))
 | 0 => Qb9 fun x => by first | rfl | simp [encLF]
 | N + 1 => by
  letI : Fuel := ⟨N⟩
  haveI : Nonempty (PLift (Meets Tryz.prog 234 (strip QhC))) := ⟨⟨QgS N⟩⟩
  exact Qah QWz fun x hok => (e_f234 x.1).trans (s_f234 x.1 hok)
def QGM : Ent := spec (.pr Qak .nil) (fun x => (encOk x.1)) (fun x => (.t (.sl (.int .u8)) (conV x.1)))
theorem QVz : Meets Tryz.prog 234 (strip QGM) := Qca QgS fun x hok => QlN x.1 hok
def eleN (x : ValT) : List Int := encT x
noncomputable def QsU : TC := (.sq (.reg (rT Tryz.f221 0)) (.sq (.reg (rT Tryz.f221 1)) (.sq (.reg (rT Tryz.f221 2)) .rt)))
def QBK : List (RV × Option Ty) := [((.t 4), none)]
def Qu1 : G := ⟨TYs, [], 19, EL [(234, QGM), (235, Qzi)], (235 :: keeps), (fun _ _ => none), IL [], RL []⟩
def Qz1 (p1 : ValT) : Option (V × List VO) :=
 let a1 := (lenA (([] : List Int) ++ ([(icv .u8 p1.1)])) (llen (conV p1)))
 br (encOk p1) (br (cApp ([] : List Int) ([(icv .u8 p1.1)]) 1) (br (Qq4 (([] : List Int) ++ ([(icv .u8 p1.1)])) (llen (conV p1))) (br (cApp a1 (conV p1) 1) (some (.ms 50000, [.arr 5 (.int .u8) (a1 ++ (conV p1))])) none) none) none) none
theorem Q0F (p1 : ValT) : runF Qu1 QsU QBK true [.c (.slice none 0 0), .t Qak p1] [] = Qz1 p1 := by kernel_rfl
theorem QRa : Qai Tryz.prog 221 := .inr ⟨by decide, _, Tryz.func221, by kernel_rfl, by kernel_rfl⟩
theorem QQV : GOk Tryz.prog Qu1 := Qal _ (gA (gC QMU QVz (gC QMT QK4 gN)))
theorem QQe : QsU.lok Qu1 := by repeat (first | exact trivial | refine ⟨?_, ?_⟩)
theorem QVi (x : ValT) (h : encOk x = true) : Qz1 x = some (.ms 50000, [.arr 5 (.int .u8) (eleN x)]) := by
 have h3 := h
 simp only [encOk, Bool.and_eq_true, decide_eq_true_eq] at h3
 have hel := Qrs x
 have hcl := QDC x
 have hll := QhW (conV x).length
 simp only [Qz1, h, Qad]
 rw [cAppN (by omega) (by simp), Qad, show Qq4 ([] ++ [icv .u8 x.1]) (llen (conV x)) = true from decide_eq_true (by simp only [llen, List.length_append, List.length_singleton, List.length_nil]; omega), Qad, cAppN (by omega) (by simp only [lenA, llen, Int.toNat_natCast, List.length_append, List.length_singleton, List.length_nil]; omega), Qad, QU1]
 rfl
def QBG : Ent := specB [.nl, .ty Qak] [] (fun x y => (encOk x.2.1)) (fun x y => (.ms 50000)) (fun x y => [.arr 5 (.int .u8) (eleN x.2.1)])
theorem QPB : Meets Tryz.prog 221 (strip QBG) := QcF (QaV (R := runF Qu1 QsU QBK true) (mG Tryz.func221 (by kernel_rfl) Tryz.ntmps221 (by kernel_rfl) QQV QQe) fun x y hok => (Q0F x.2.1).trans (QVi x.2.1 hok))
noncomputable def Qym : TC := (.sq (.reg (rT Tryz.f201 0)) (.sq (.sq (.reg (rT Tryz.f201 1)) (.cd (.t 7) (.sq (.reg (rT Tryz.f201 2)) .rt) .sk)) (.sq (.sq (.reg (rT Tryz.f201 3)) (.cd (.t 10) (.sq (.reg (rT Tryz.f201 4)) .rt) .sk)) (.sq (.reg (rT Tryz.f201 5)) (.sq (.sq (.reg (rT Tryz.f201 6)) (.cd (.t 15) (.sq (.reg (rT Tryz.f201 7)) .rt) .sk)) (.sq (.reg (rT Tryz.f201 8)) .rt))))))
def QIp : List (RV × Option Ty) := [((.t 2), some (.sl (.int .u8))), ((.t 3), some tI)]
def QCL : G := ⟨TYs, [], 17, EL [(219, QGU), (220, QGT), (221, QBG)], keeps, (fun _ _ => none), IL [], RL []⟩
def QJT (p0 : ValT) : Option (V × List VO) := br (frmOk p0) (br (!(frmV p0)) (some (.tu [(.t (.sl (.int .u8)) ([] : List Int)), (.t tI 1)], [])) (br (dpOk p0) (br (igt (dpV p0) 16) (some (.tu [(.t (.sl (.int .u8)) ([] : List Int)), (.t tI 3)], [])) (br (encOk p0) (br (igt (llen (eleN p0)) 4096) (some (.tu [(.t (.sl (.int .u8)) ([] : List Int)), (.t tI 3)], [])) (some (.tu [(.t (.sl (.int .u8)) (eleN p0)), (.t tI 0)], []))) none)) none)) none
theorem e_f201 (p0 : ValT) : runF QCL Qym QIp false [.t Qak p0] [] = QJT p0 := by kernel_rfl
theorem QZZ : Qai Tryz.prog 201 := .inr ⟨by decide, _, Tryz.func201, by kernel_rfl, by kernel_rfl⟩
theorem QYN : GOk Tryz.prog QCL := Qal _ (gA (gC QMX QVH (gC QMW QVG (gC QRa QPB gN))))
theorem QW2 : Qym.lok QCL := by repeat (first | exact trivial | refine ⟨?_, ?_⟩)
theorem s_f201 (x : ValT) (h : encOk x = true) : QJT x = some (.tu [.t (.sl (.int .u8)) (encE x).1, .t tI (encE x).2], []) := by
 have h' := h
 simp only [encOk, Bool.and_eq_true, decide_eq_true_eq] at h'
 obtain ⟨h1, h2⟩ := h'
 simp only [QJT, show frmOk x = true from h1, show dpOk x = true from h1, h, QDt h1, frmV, eleN, Bool.not_true, Qad, Qaf]
 unfold encE
 refine QaD (fun g => ?_) (fun g => ?_)
 ·simp only [igt, llen, decide_eq_true_eq] at g
  rw [if_pos (by omega)]
 ·simp only [igt, llen, decide_eq_false_iff_not] at g
  rw [if_neg (by omega)]
def QG3 : Ent := spec (.pr Qak .nil) (fun x => (encOk x.1)) (fun x => (.tu [(.t (.sl (.int .u8)) ((encE x.1).1)), (.t tI ((encE x.1).2))]))
theorem QVQ : Meets Tryz.prog 201 (strip QG3) := Qah (R := runF QCL Qym QIp false) (mG Tryz.func201 (by kernel_rfl) Tryz.ntmps201 (by kernel_rfl) QYN QW2) fun x hok => (e_f201 x.1).trans (s_f201 x.1 hok)
def lstT (l : List ValT) : ValT := (48, (([] : List Int), (true, (List.map Val.of l, ()))))
noncomputable def Qya : TC := (.sq (.reg (rT Tryz.f223 0)) (.sq (.reg (rT Tryz.f223 1)) .rt))
def QId : List (RV × Option Ty) := [((.c 2 true 4), some Qak)]
def QCE : G := ⟨TYs, [], 6, EL [(236, QGL)], keeps, (fun _ _ => none), IL [], RL []⟩
def QJI (p0 : List ValT) : Option (V × List VO) := br (copOk p0) (some (.t Qak (48, (([] : List Int), (true, ((List.map Val.of (copV p0)), ())))), [])) none
theorem e_f223 (p0 : List ValT) : runF QCE Qya QId false [.t (.sl Qak) p0] [] = QJI p0 := by kernel_rfl
theorem QA3 : Qai Tryz.prog 223 := .inr ⟨by decide, _, Tryz.func223, by kernel_rfl, by kernel_rfl⟩
theorem QYB : GOk Tryz.prog QCE := Qal _ (gA (gC QMS QVy gN))
theorem QWQ : Qya.lok QCE := by repeat (first | exact trivial | refine ⟨?_, ?_⟩)
theorem s_f223 (l : List ValT) (h : copOk l = true) : QJI l = some (.t Qak (lstT l), []) := by
 simp only [QJI, h, Qad]
 rfl
def Qs9 : Ent := spec (.pr (.sl Qak) .nil) (fun x => (copOk x.1)) (fun x => (.t Qak (lstT x.1)))
theorem QAb : Meets Tryz.prog 223 (strip Qs9) := Qah (R := runF QCE Qya QId false) (mG Tryz.func223 (by kernel_rfl) Tryz.ntmps223 (by kernel_rfl) QYB QWQ) fun x hok => (e_f223 x.1).trans (s_f223 x.1 hok)
noncomputable def Qx6 : TC := (.sq (.reg (rT Tryz.f227 0)) (.sq (.reg (rT Tryz.f227 1)) .rt))
def QH9 : List (RV × Option Ty) := [((.c 2 true 4), some Qak)]
def QCB : G := ⟨TYs, [], 5, EL [(223, Qs9)], keeps, (fun _ _ => none), IL [], RL []⟩
def QJF (p0 : List ValT) : Option (V × List VO) := br (copOk p0) (some (.t Qak (lstT p0), [])) none
theorem e_f227 (p0 : List ValT) : runF QCB Qx6 QH9 false [.t (.sl Qak) p0] [] = QJF p0 := by kernel_rfl
theorem QZO : Qai Tryz.prog 227 := .inr ⟨by decide, _, Tryz.func227, by kernel_rfl, by kernel_rfl⟩
theorem QYx : GOk Tryz.prog QCB := Qal _ (gA (gC QA3 QAb gN))
theorem QWM : Qx6.lok QCB := by repeat (first | exact trivial | refine ⟨?_, ?_⟩)
theorem s_f227 (l : List ValT) (h : copOk l = true) : QJF l = some (.t Qak (lstT l), []) := by
 simp only [QJF, h, Qad]
def QGP : Ent := spec (.pr (.sl Qak) .nil) (fun x => (copOk x.1)) (fun x => (.t Qak (lstT x.1)))
theorem QVC : Meets Tryz.prog 227 (strip QGP) := Qah (R := runF QCB Qx6 QH9 false) (mG Tryz.func227 (by kernel_rfl) Tryz.ntmps227 (by kernel_rfl) QYx QWM) fun x hok => (e_f227 x.1).trans (s_f227 x.1 hok)
noncomputable def Qyq : TC := (.sq (.reg (rT Tryz.f186 0)) (.sq (.reg (rT Tryz.f186 1)) .rt))
def QIt : List (RV × Option Ty) := [((.c 2 true 4), some Qak)]
def QCO : G := ⟨TYs, [], 6, EL [(212, QGV)], keeps, (fun _ _ => none), IL [], RL []⟩
def QJW (p0 : List ValT) : Option (V × List VO) := br (copOk p0) (some (.t Qak (48, (([] : List Int), (true, ((List.map Val.of (copV p0)), ())))), [])) none
theorem e_f186 (p0 : List ValT) : runF QCO Qyq QIt false [.t (.sl Qak) p0] [] = QJW p0 := by kernel_rfl
theorem QM0 : Qai Tryz.prog 186 := .inr ⟨by decide, _, Tryz.func186, by kernel_rfl, by kernel_rfl⟩
theorem QYR : GOk Tryz.prog QCO := Qal _ (gA (gC QMY QVI gN))
theorem QW6 : Qyq.lok QCO := by repeat (first | exact trivial | refine ⟨?_, ?_⟩)
theorem s_f186 (l : List ValT) (h : copOk l = true) : QJW l = some (.t Qak (lstT l), []) := by
 simp only [QJW, h, Qad]
 rfl
def Qzl : Ent := spec (.pr (.sl Qak) .nil) (fun x => (copOk x.1)) (fun x => (.t Qak (lstT x.1)))
theorem QK7 : Meets Tryz.prog 186 (strip Qzl) := Qah (R := runF QCO Qyq QIt false) (mG Tryz.func186 (by kernel_rfl) Tryz.ntmps186 (by kernel_rfl) QYR QW6) fun x hok => (e_f186 x.1).trans (s_f186 x.1 hok)
end
end Go.Proofs.YtckcgijklnloiaaGreat.K
