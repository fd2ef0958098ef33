import Derived.Test.YtkngeegkjhipeaaGreatN1
set_option linter.unusedSimpArgs false
set_option linter.unusedVariables false
namespace Go.Proofs.YtkngeegkjhipeaaGreat.K
open Go.RowKit
noncomputable section
def intT (n : Int) : ValT := (2, (intL n, (false, (([] : List Val), ()))))
def i64Ok (n : Int) : Bool := decide (-9223372036854775808 ≤ n ∧ n < 9223372036854775808)
def Qgg : Fg := ⟨[(0, some tI), (2, none), (3, none), (4, some tI)], [(2, some Qak), (3, none), (16, none)]⟩
noncomputable def QhO : TC := (.sq (.sq (.reg (rT Tryz.f162 3)) (.cd (.t 6) .sk (.fg ⟨[(2, none), (3, none)], [(2, some Qak), (3, none), (16, none)]⟩ (.ex 0)))) (.sq (.bk 1 (.reg (rT Tryz.f162 4))) (.reg (rT Tryz.f162 5))))
def Qgf : Fg := ⟨[(2, none), (3, some (.sl (.int .u8)))], [(2, some Qak), (3, none), (16, none)]⟩
noncomputable def QhN : TC := (.sq (.sq (.reg (rT Tryz.f162 6)) (.cd (.t 43) .sk (.fg ⟨[(2, none), (3, none)], [(2, some Qak), (3, none), (16, none)]⟩ (.ex 2)))) (.bk 3 (.reg (rT Tryz.f162 7))))
noncomputable def Qwa : TC := (.sq (.reg (rT Tryz.f162 0)) (.sq (.reg (rT Tryz.f162 1)) (.sq (.sq (.reg (rT Tryz.f162 2)) (.bk 0 (.nw 3 5 (.lp 0 Qgg QhO)))) (.sq (.bk 2 (.fz [3] (.lp 1 Qgf QhN))) (.sq (.reg (rT Tryz.f162 8)) .rt)))))
def QFe : List (RV × Option Ty) := [((.c 2 true 4), some Qak)]
abbrev Qn5 : Sh := ⟨[(0, .ty tI), (2, .ptr 2 0), (3, .ms 3), (4, .ty tI)], [(2, .box Qak), (3, .arr 5 (.int .u8)), (16, .no)]⟩
def QnC (x0 x4 : Int) (y2 : ValT) (y3 : List Int) : VS := Qn5.st (x0, (), (), x4, ()) (y2, y3, (), ())
abbrev Qt3 : Sh := ⟨[(2, .ptr 2 0), (3, .ms 3)], [(2, .box Qak), (3, .arr 5 (.int .u8)), (16, .no)]⟩
def QdJ (y2 : ValT) (y3 : List Int) : VS := Qt3.st ((), (), ()) (y2, y3, (), ())
abbrev Qn4 : Sh := ⟨[(2, .ptr 2 0), (3, .ty (.sl (.int .u8)))], [(2, .box Qak), (3, .no), (16, .no)]⟩
def QnB (x3 : List Int) (y2 : ValT) : VS := Qn4.st ((), x3, ()) (y2, (), (), ())
abbrev Qt2 : Sh := ⟨[(2, .ptr 2 0), (3, .ty (.sl (.int .u8)))], [(2, .box Qak), (3, .no), (16, .no)]⟩
def Qbb (x3 : List Int) (y2 : ValT) : VS := Qt2.st ((), x3, ()) (y2, (), (), ())
def QOz : VS → Option (Bool × List (Bool × Exit × VS)) := mkL Qn5 (fun x y => (i64Ok x.1 && decide (y.2.1.length ≤ 100 ∧ -8 ≤ x.2.2.2.1 ∧ x.2.2.2.1 ≤ 56 ∧ x.2.2.2.1 % 8 = 0))) (fun x y => [(true, .exit 0, QdJ (y.1) (y.2.1 ++ bytsN x.1 ((x.2.2.2.1 + 8) / 8).toNat))])
def QOy : VS → Option (Bool × List (Bool × Exit × VS)) := mkL Qn4 (fun x y => (decide (x.2.1.length ≤ 1000))) (fun x y => [(true, .exit 2, Qbb (trimB x.2.1) (y.1))])
def QfG : G := ⟨TYs, [], 48, EL [], keeps, (Ls [QOz, QOy]), IL [], RL []⟩
def QBr (x0 x4 : Int) (y2 : ValT) (y3 : List Int) : Option (Exit × VS) :=
 let a1 := icv .u8 (ishr .u64 (icv .u64 x0) x4)
 br (ige x4 0) (br (decide ((0 : Int) ≤ x4)) (br (cApp y3 ([a1]) 1) (some (.normal, QnC x0 (isub .i64 x4 8) y2 (y3 ++ ([a1])))) none) none) (some (.exit 0, QdJ y2 y3))
noncomputable def QoQ (x0 x4 : Int) (y2 : ValT) (y3 : List Int) : Option (Exit × VS) := loopF (Qaj QfG Qgg QhO) (QnC x0 x4 y2 y3)
noncomputable def QlY (x0 x4 : Int) (y2 : ValT) (y3 : List Int) : Option (Exit × VS) :=
 let a1 := icv .u8 (ishr .u64 (icv .u64 x0) x4)
 br (ige x4 0) (br (decide ((0 : Int) ≤ x4)) (br (cApp y3 ([a1]) 1) (QoQ x0 (isub .i64 x4 8) y2 (y3 ++ ([a1]))) none) none) (some (.exit 0, QdJ y2 y3))
def QoZ (x0 x4 : Int) (y2 : ValT) (y3 : List Int) : Option (Exit × VS) := some (.exit 0, QdJ (y2) (y3 ++ bytsN x0 ((x4 + 8) / 8).toNat))
theorem QJP (x0 x4 : Int) (y2 : ValT) (y3 : List Int) : Qaj QfG Qgg QhO (QnC x0 x4 y2 y3) = QBr x0 x4 y2 y3 := by kernel_rfl
theorem Qu5 (x0 x4 : Int) (y2 : ValT) (y3 : List Int) : QoQ x0 x4 y2 y3 = QlY x0 x4 y2 y3 := (Qap _ _).trans (by
 rw [QJP]
 simp only [QBr, QlY, QaB, nxt_n, nxt_r, nxt_e, nxt_0]
 rfl)
def Qks (x3 : List Int) (y2 : ValT) : Option (Exit × VS) :=
 let a1 := (List.length x3 : Nat)
 br (cSl x3 1 (a1 : Int) (a1 : Int)) (some (.normal, QnB (lsl x3 1 (a1 : Int)) y2)) none
def Qkr (x3 : List Int) (y2 : ValT) : Option (Exit × VS) := br (cIx x3 0) (br (ieq (lgt (.int .u8) x3 (Int.toNat 0)) 255) (br (cIx x3 1) (br (ige (lgt (.int .u8) x3 (Int.toNat 1)) 128) (Qks x3 y2) (some (.exit 2, Qbb x3 y2))) none) (some (.exit 2, Qbb x3 y2))) none
def QBq (x3 : List Int) (y2 : ValT) : Option (Exit × VS) := br (igt (llen x3) 1) (br (cIx x3 0) (br (ieq (lgt (.int .u8) x3 (Int.toNat 0)) 0) (br (cIx x3 1) (br (ilt (lgt (.int .u8) x3 (Int.toNat 1)) 128) (Qks x3 y2) (Qkr x3 y2)) none) (Qkr x3 y2)) none) (some (.exit 2, Qbb x3 y2))
noncomputable def QoP (x3 : List Int) (y2 : ValT) : Option (Exit × VS) := loopF (Qaj QfG Qgf QhN) (QnB x3 y2)
noncomputable def Qc0 (x3 : List Int) (y2 : ValT) : Option (Exit × VS) :=
 let a1 := (List.length x3 : Nat)
 br (cSl x3 1 (a1 : Int) (a1 : Int)) (QoP (lsl x3 1 (a1 : Int)) y2) none
noncomputable def QcZ (x3 : List Int) (y2 : ValT) : Option (Exit × VS) := br (cIx x3 0) (br (ieq (lgt (.int .u8) x3 (Int.toNat 0)) 255) (br (cIx x3 1) (br (ige (lgt (.int .u8) x3 (Int.toNat 1)) 128) (Qc0 x3 y2) (some (.exit 2, Qbb x3 y2))) none) (some (.exit 2, Qbb x3 y2))) none
noncomputable def Qie (x3 : List Int) (y2 : ValT) : Option (Exit × VS) := br (igt (llen x3) 1) (br (cIx x3 0) (br (ieq (lgt (.int .u8) x3 (Int.toNat 0)) 0) (br (cIx x3 1) (br (ilt (lgt (.int .u8) x3 (Int.toNat 1)) 128) (Qc0 x3 y2) (QcZ x3 y2)) none) (QcZ x3 y2)) none) (some (.exit 2, Qbb x3 y2))
def QiO (x3 : List Int) (y2 : ValT) : Option (Exit × VS) := some (.exit 2, Qbb (trimB x3) (y2))
theorem QJO (x3 : List Int) (y2 : ValT) : Qaj QfG Qgf QhN (QnB x3 y2) = QBq x3 y2 := by kernel_rfl
theorem QoW (x3 : List Int) (y2 : ValT) : QoP x3 y2 = Qie x3 y2 := (Qap _ _).trans (by
 rw [QJO]
 simp only [QBq, Qks, Qkr, Qie, Qc0, QcZ, QaB, nxt_n, nxt_r, nxt_e, nxt_0]
 rfl)
def QGh (p0 : Int) : Option (V × List VO) := br (i64Ok p0 && decide (([] : List Int).length ≤ 100 ∧ -8 ≤ (56 : Int) ∧ (56 : Int) ≤ 56 ∧ (56 : Int) % 8 = 0)) (br (decide ((([] : List Int) ++ bytsN p0 (((56 : Int) + 8) / 8).toNat).length ≤ 1000)) (some (.t Qak (2, ((trimB (([] : List Int) ++ bytsN p0 (((56 : Int) + 8) / 8).toNat)), (false, (([] : List Val), ())))), [])) none) none
theorem e_f162 (p0 : Int) : runF QfG Qwa QFe false [.t tI p0] [] = QGh p0 := by kernel_rfl
theorem QI2 : Qai Tryz.prog 162 := .inr ⟨by decide, _, Tryz.func162, by kernel_rfl, by kernel_rfl⟩
theorem QUx : GOk Tryz.prog QfG := Qal _ (fun p hp => by cases hp)
theorem QMl (x0 x4 : Int) (y2 : ValT) (y3 : List Int) (h : (i64Ok x0 && decide (y3.length ≤ 100 ∧ -8 ≤ x4 ∧ x4 ≤ 56 ∧ x4 % 8 = 0)) = true) : QoQ x0 x4 y2 y3 = QoZ x0 x4 y2 y3 := by
 simp only [Bool.and_eq_true, decide_eq_true_eq] at h
 obtain ⟨h0, h1, h2, h3, h4⟩ := h
 obtain ⟨k, hk⟩ : ∃ k : Nat, x4 = 8 * (k : Int) - 8 := ⟨((x4 + 8) / 8).toNat, by omega⟩
 subst hk
 have hk8 : k ≤ 8 := by omega
 have h9 : y3.length + k ≤ 200 := by omega
 clear h1 h2 h3 h4
 induction k generalizing y3 with
 | zero =>
  rw [Qu5]
  simp [QlY, QoZ, ige, Qaf, bytsN]
 | succ k ih =>
  rw [Qu5]
  have e0 : (8 * ((k + 1 : Nat) : Int) - 8) = ((8 * k : Nat) : Int) := by omega
  rw [e0]
  simp only [QlY, show ige ((8 * k : Nat) : Int) 0 = true from decide_eq_true (by omega), Qac, show decide ((0 : Int) ≤ ((8 * k : Nat) : Int)) = true from decide_eq_true (by omega), QVS x0 k (by omega)]
  have e1 : isub .i64 ((8 * k : Nat) : Int) 8 = 8 * (k : Int) - 8 := by rw [QbE (by omega)]; omega
  rw [cAppN (by omega) (by simp only [List.length_singleton]; omega), Qac, e1, ih (y3 ++ [byt x0 k]) (by omega) (by simp only [List.length_append, List.length_singleton]; omega)]
  simp only [QoZ, show ((8 * (k : Int) - 8 + 8) / 8).toNat = k by omega, show ((((8 * k : Nat) : Int) + 8) / 8).toNat = k + 1 by omega, bytsN, List.append_assoc, List.singleton_append]
theorem QMk (x3 : List Int) (y2 : ValT) (h : (decide (x3.length ≤ 1000)) = true) : QoP x3 y2 = QiO x3 y2 := by
 simp only [decide_eq_true_eq] at h
 induction x3 with
 | nil =>
  rw [QoW]
  simp [Qie, Qc0, QcZ, QiO, igt, llen, Qaf, trimB]
 | cons x l ih =>
  cases l with
  | nil =>
   rw [QoW]
   simp [Qie, Qc0, QcZ, QiO, igt, llen, Qaf, trimB, trimL]
  | cons y r =>
   rw [QoW]
   simp only [List.length_cons] at h
   have e1 : igt (llen (x :: y :: r)) 1 = true := by simp only [igt, llen, List.length_cons, decide_eq_true_eq]; omega
   have e2 : cIx (x :: y :: r) 0 = true := by simp only [cIx, List.length_cons, decide_eq_true_eq]; omega
   have e3 : cIx (x :: y :: r) 1 = true := by simp only [cIx, List.length_cons, decide_eq_true_eq]; omega
   have e4 : lgt (.int .u8) (x :: y :: r) (Int.toNat 0) = x := rfl
   have e5 : lgt (.int .u8) (x :: y :: r) (Int.toNat 1) = y := rfl
   have e6 : cSl (x :: y :: r) 1 ((List.length (x :: y :: r) : Nat) : Int) ((List.length (x :: y :: r) : Nat) : Int) = true := by simp only [cSl, List.length_cons, decide_eq_true_eq]; omega
   have e7 : lsl (x :: y :: r) 1 ((List.length (x :: y :: r) : Nat) : Int) = y :: r := by
    show List.take _ (y :: r) = _
    exact List.take_of_length_le (by simp only [List.length_cons]; omega)
   have ih' := ih (by simp only [List.length_cons]; omega)
   have hb : trimB (x :: y :: r) = bif trimC x y then trimB (y :: r) else x :: y :: r := rfl
   simp only [Qie, Qc0, QcZ, e1, e2, e3, e4, e5, e6, e7, ih', Qac]
   simp only [QiO, hb, trimC, ieq, ilt, ige]
   cases x == 0 <;> cases decide (y < 128) <;> cases x == 255 <;> cases decide (y ≥ 128) <;> rfl
theorem QHF : ∀ S l p, QfG.L 0 (fgt Qgg S) = some (true, l) → pickA l = some p → loopF (Qaj QfG Qgg QhO) S = some p :=
 QaD (s := Qn5) ⟨by decide, by decide⟩ (by kernel_rfl) fun x y hok p hp => by
 simp only [Qar, Qao] at hp
 exact (QMl x.1 x.2.2.2.1 y.1 y.2.1 (by simpa using hok)).trans hp
theorem QHE : ∀ S l p, QfG.L 1 (fgt Qgf S) = some (true, l) → pickA l = some p → loopF (Qaj QfG Qgf QhN) S = some p :=
 QaD (s := Qn4) ⟨by decide, by decide⟩ (by kernel_rfl) fun x y hok p hp => by
 simp only [Qar, Qao] at hp
 exact (QMk x.2.1 y.1 (by simpa using hok)).trans hp
theorem QS6 : Qwa.lok QfG := by
 repeat (first | exact trivial | exact QHF | exact QHE | refine ⟨?_, ?_⟩)
theorem s_f162 (n : Int) (h : i64Ok n = true) : QGh n = some (.t Qak (intT n), []) := by
 have h1 := h
 simp only [i64Ok, decide_eq_true_eq] at h1
 simp only [QGh, h, Bool.true_and, show ((56 + 8 : Int) / 8).toNat = 8 from rfl, List.nil_append, List.length_nil]
 rw [show (decide ((0 : Nat) ≤ 100 ∧ (-8 : Int) ≤ 56 ∧ (56 : Int) ≤ 56 ∧ (56 : Int) % 8 = 0)) = true from rfl, Qac, decide_eq_true (by rw [Qpr]; omega), Qac, QIj h1]
 rfl
def QwS : Ent := spec (.pr tI .nil) (fun x => (i64Ok x.1)) (fun x => (.t Qak (intT x.1)))
theorem QHi : Meets Tryz.prog 162 (strip QwS) := Qag (R := runF QfG Qwa QFe false) (mG Tryz.func162 (by kernel_rfl) Tryz.ntmps162 (by kernel_rfl) QUx QS6) fun x hok => (e_f162 x.1).trans (s_f162 x.1 hok)
def Qgi : Fg := ⟨[(2, none), (3, none), (4, some tI)], [(2, some Qak), (3, none), (7, none), (40, none), (42, none)]⟩
noncomputable def QhQ : TC := (.mv [(40, 7)] (.sq (.sq (.reg (rT Tryz.f154 3)) (.cd (.t 35) .sk (.fg ⟨[(2, none), (3, none)], [(2, some Qak), (3, none), (7, none), (40, none), (42, none)]⟩ (.ex 0)))) (.sq (.bk 1 (.reg (rT Tryz.f154 4))) (.reg (rT Tryz.f154 5)))))
noncomputable def Qwh : TC := (.sq (.reg (rT Tryz.f154 0)) (.sq (.reg (rT Tryz.f154 1)) (.sq (.sq (.reg (rT Tryz.f154 2)) (.bk 0 (.nw 3 5 (.lp 0 Qgi QhQ)))) (.sq (.reg (rT Tryz.f154 6)) .rt))))
def QFl : List (RV × Option Ty) := [((.c 2 true 4), some Qak)]
abbrev Qn7 : Sh := ⟨[(2, .ptr 2 0), (3, .ms 7), (4, .ty tI)], [(2, .box Qak), (3, .no), (7, .arr 5 (.int .u8)), (40, .no), (42, .no)]⟩
def QnE (x4 : Int) (y2 : ValT) (y7 : List Int) : VS := Qn7.st ((), (), x4, ()) (y2, (), y7, (), (), ())
abbrev Qt5 : Sh := ⟨[(2, .ptr 2 0), (3, .ms 7)], [(2, .box Qak), (3, .no), (7, .arr 5 (.int .u8)), (40, .no), (42, .no)]⟩
def Qbc (y2 : ValT) (y7 : List Int) : VS := Qt5.st ((), (), ()) (y2, (), y7, (), (), ())
def QOB : VS → Option (Bool × List (Bool × Exit × VS)) := mkL Qn7 (fun x y => (decide (-9223372036854775808 ≤ x.2.2.1 ∧ x.2.2.1 < 9223372036854775808 ∧ 1 ≤ y.2.2.1.length ∧ y.2.2.1.length ≤ 100))) (fun x y => [(true, .exit 0, Qbc (y.1) (growB 10 x.2.2.1 y.2.2.1))])
def QkU : G := ⟨TYs, [7, 40], 45, EL [], keeps, (Ls [QOB]), IL [], RL []⟩
def Qg3 (x4 : Int) (y2 : ValT) (y7 : List Int) : Option (Exit × VS) := br (cApp ([(icv .u8 x4)]) y7 1) (br (decide ((0 : Int) ≤ 8)) (some (.normal, QnE (ishr .i64 x4 8) y2 (([(icv .u8 x4)]) ++ y7))) none) none
def Qkt (x4 : Int) (y2 : ValT) (y7 : List Int) : Option (Exit × VS) := br (ieq x4 (-1)) (br (cIx y7 0) (br (cLd y7 (Int.toNat 0)) (br (ilt (lgt (.int .u8) y7 (Int.toNat 0)) 128) (Qg3 x4 y2 y7) (some (.exit 0, Qbc y2 y7))) none) none) (some (.exit 0, Qbc y2 y7))
def Qku (x4 : Int) (y2 : ValT) (y7 : List Int) : Option (Exit × VS) := br (ieq x4 0) (br (cIx y7 0) (br (cLd y7 (Int.toNat 0)) (br (ige (lgt (.int .u8) y7 (Int.toNat 0)) 128) (Qg3 x4 y2 y7) (Qkt x4 y2 y7)) none) none) (Qkt x4 y2 y7)
def QBt (x4 : Int) (y2 : ValT) (y7 : List Int) : Option (Exit × VS) := br (ine x4 0) (br (ine x4 (-1)) (Qg3 x4 y2 y7) (Qku x4 y2 y7)) (Qku x4 y2 y7)
noncomputable def Qet (x4 : Int) (y2 : ValT) (y7 : List Int) : Option (Exit × VS) := loopF (Qaj QkU Qgi QhQ) (QnE x4 y2 y7)
noncomputable def Qes (x4 : Int) (y2 : ValT) (y7 : List Int) : Option (Exit × VS) := br (cApp ([(icv .u8 x4)]) y7 1) (br (decide ((0 : Int) ≤ 8)) (Qet (ishr .i64 x4 8) y2 (([(icv .u8 x4)]) ++ y7)) none) none
noncomputable def QgN (x4 : Int) (y2 : ValT) (y7 : List Int) : Option (Exit × VS) := br (ieq x4 (-1)) (br (cIx y7 0) (br (cLd y7 (Int.toNat 0)) (br (ilt (lgt (.int .u8) y7 (Int.toNat 0)) 128) (Qes x4 y2 y7) (some (.exit 0, Qbc y2 y7))) none) none) (some (.exit 0, Qbc y2 y7))
noncomputable def QgO (x4 : Int) (y2 : ValT) (y7 : List Int) : Option (Exit × VS) := br (ieq x4 0) (br (cIx y7 0) (br (cLd y7 (Int.toNat 0)) (br (ige (lgt (.int .u8) y7 (Int.toNat 0)) 128) (Qes x4 y2 y7) (QgN x4 y2 y7)) none) none) (QgN x4 y2 y7)
noncomputable def Qsw (x4 : Int) (y2 : ValT) (y7 : List Int) : Option (Exit × VS) := br (ine x4 0) (br (ine x4 (-1)) (Qes x4 y2 y7) (QgO x4 y2 y7)) (QgO x4 y2 y7)
def Qo0 (x4 : Int) (y2 : ValT) (y7 : List Int) : Option (Exit × VS) := some (.exit 0, Qbc (y2) (growB 10 x4 y7))
theorem QJR (x4 : Int) (y2 : ValT) (y7 : List Int) : Qaj QkU Qgi QhQ (QnE x4 y2 y7) = QBt x4 y2 y7 := by kernel_rfl
theorem QHV (x4 : Int) (y2 : ValT) (y7 : List Int) : Qet x4 y2 y7 = Qsw x4 y2 y7 := (Qap _ _).trans (by
 rw [QJR]
 simp only [QBt, Qg3, Qku, Qkt, Qsw, Qes, QgO, QgN, QaB, nxt_n, nxt_r, nxt_e, nxt_0]
 rfl)
def QGn (p0 : Int) : Option (V × List VO) :=
 let a1 := ishr .i64 p0 8
 br (decide ((0 : Int) ≤ 8)) (br (decide (-9223372036854775808 ≤ a1 ∧ a1 < 9223372036854775808 ∧ 1 ≤ ([(icv .u8 p0)]).length ∧ ([(icv .u8 p0)]).length ≤ 100)) (some (.t Qak (2, ((growB 10 a1 ([(icv .u8 p0)])), (false, (([] : List Val), ())))), [])) none) none
theorem e_f154 (p0 : Int) : runF QkU Qwh QFl false [.t tI p0] [] = QGn p0 := by kernel_rfl
theorem QI5 : Qai Tryz.prog 154 := .inr ⟨by decide, _, Tryz.func154, by kernel_rfl, by kernel_rfl⟩
theorem QUE : GOk Tryz.prog QkU := Qal _ (fun p hp => by cases hp)
theorem ishr8z (n : Int) : ishr .i64 n 8 = n / 256 := by
 have := Qm3 (kd := .i64) rfl n 1 (by omega)
 rw [show ((8 * 1 : Nat) : Int) = 8 from rfl] at this
 rw [this]
 rfl
theorem Qo5 : ∀ (k : Nat) (x : Int) (b : List Int), -(256 ^ k : Int) ≤ x → x < 256 ^ k → ∀ f, growB (k + 2 + f) x b = growB (k + 2) x b
 | 0, x, b, h1, h2, f => by
  simp only [Int.pow_zero] at h1 h2
  have hx : x = -1 ∨ x = 0 := by omega
  have g : ∀ f, growB (f + 2) x b = bif growC x (b.headD 0) then (x % 256 :: b) else b := by
   intro f
   rw [show f + 2 = (f + 1) + 1 from rfl, growB, growB]
   rcases hx with rfl | rfl
   ·rw [show ((-1 : Int) % 256 :: b).headD 0 = 255 from rfl, show growC (-1 / 256) 255 = false from rfl]; rfl
   ·rw [show ((0 : Int) % 256 :: b).headD 0 = 0 from rfl, show growC (0 / 256) 0 = false from rfl]; rfl
  rw [show 0 + 2 + f = f + 2 by omega, g f]
  exact (g 0).symm
 | k + 1, x, b, h1, h2, f => by
  rw [show k + 1 + 2 + f = (k + 2 + f) + 1 by omega, growB, show k + 1 + 2 = (k + 2) + 1 from rfl, growB]
  have e : (256 : Int) ^ (k + 1) = 256 ^ k * 256 := by rw [Int.pow_succ]
  rw [e] at h1 h2
  rw [Qo5 k (x / 256) (x % 256 :: b) (by omega) (by omega) f]
theorem Qyw (x : Int) (b : List Int) (h : -9223372036854775808 ≤ x ∧ x < 9223372036854775808) : growB 10 x b = bif growC x (b.headD 0) then growB 10 (x / 256) (x % 256 :: b) else b := by
 have := Qo5 8 x b (by omega) (by omega) 1
 rw [← this]
 rfl
theorem QMn (x4 : Int) (y2 : ValT) (y7 : List Int) (h : (decide (-9223372036854775808 ≤ x4 ∧ x4 < 9223372036854775808 ∧ 1 ≤ y7.length ∧ y7.length ≤ 100)) = true) : Qet x4 y2 y7 = Qo0 x4 y2 y7 := by
 simp only [decide_eq_true_eq] at h
 obtain ⟨h1, h2, h3, h4⟩ := h
 have step : ∀ (x c : Int) (r : List Int), r.length ≤ 300 → Qet x y2 (c :: r) = bif growC x c then Qet (x / 256) y2 (x % 256 :: c :: r) else some (.exit 0, Qbc y2 (c :: r)) := by
  intro x c r hr
  rw [QHV]
  have e1 : cIx (c :: r) 0 = true := by simp only [cIx, List.length_cons, decide_eq_true_eq]; omega
  have e2 : cLd (c :: r) (Int.toNat 0) = true := by simp only [cLd, List.length_cons, decide_eq_true_eq, Int.toNat_zero]; omega
  have e3 : lgt (.int .u8) (c :: r) (Int.toNat 0) = c := rfl
  have e4 : cApp [x % 256] (c :: r) 1 = true := cAppN (by omega) (by simp only [List.length_cons, List.length_nil]; omega)
  simp only [Qsw, Qes, QgO, QgN, e1, e2, e3, e4, Qac, show decide ((0 : Int) ≤ 8) = true from rfl, ishr8z, icv8, List.singleton_append]
  simp only [growC, ine, ieq, ilt, ige]
  have q1 : (x != 0) = !(x == 0) := rfl
  have q2 : (x != -1) = !(x == -1) := rfl
  rw [q1, q2]
  by_cases hx : x = 0
  ·subst hx
   cases decide (c ≥ 128) <;> rfl
  ·by_cases hy : x = -1
   ·subst hy
    cases decide (c < 128) <;> rfl
   ·rw [show (x == 0) = false from beq_false_of_ne hx, show (x == -1) = false from beq_false_of_ne hy]
    rfl
 have lae : ∀ (x : Int) (y : List Int), Qo0 x y2 y = some (.exit 0, Qbc y2 (growB 10 x y)) := fun _ _ => rfl
 have key : ∀ (k : Nat) (x : Int) (y : List Int), -(256 ^ k : Int) ≤ x → x < 256 ^ k → k ≤ 8 → 1 ≤ y.length → y.length + k ≤ 200 → -9223372036854775808 ≤ x → x < 9223372036854775808 → Qet x y2 y = Qo0 x y2 y := by
  intro k
  induction k with
  | zero =>
   intro x y g1 g2 g3 g4 g5 g6 g7
   simp only [Int.pow_zero] at g1 g2
   have hx : x = -1 ∨ x = 0 := by omega
   obtain ⟨c, r, rfl⟩ : ∃ c r, y = c :: r := by
    cases y with
    | nil => simp at g4
    | cons c r => exact ⟨c, r, rfl⟩
   simp only [List.length_cons] at g5
   rw [step x c r (by omega), lae, Qyw x (c :: r) ⟨g6, g7⟩, List.headD_cons]
   cases growC x c with
   | false => rfl
   | true =>
    rw [cond_true, cond_true, step (x / 256) (x % 256) (c :: r) (by simp only [List.length_cons]; omega), Qyw (x / 256) (x % 256 :: c :: r) (by omega), List.headD_cons]
    have : growC (x / 256) (x % 256) = false := by rcases hx with rfl | rfl <;> rfl
    rw [this]
    rfl
  | succ k ih =>
   intro x y g1 g2 g3 g4 g5 g6 g7
   obtain ⟨c, r, rfl⟩ : ∃ c r, y = c :: r := by
    cases y with
    | nil => simp at g4
    | cons c r => exact ⟨c, r, rfl⟩
   have e : (256 : Int) ^ (k + 1) = 256 ^ k * 256 := by rw [Int.pow_succ]
   rw [e] at g1 g2
   simp only [List.length_cons] at g5
   rw [step x c r (by omega), lae, Qyw x (c :: r) ⟨g6, g7⟩, List.headD_cons]
   cases growC x c with
   | false => rfl
   | true =>
    rw [cond_true, cond_true, ih (x / 256) (x % 256 :: c :: r) (by omega) (by omega) (by omega) (by simp) (by simp only [List.length_cons]; omega) (by omega) (by omega), lae]
 exact key 8 x4 y7 (by omega) (by omega) (by omega) h3 (by omega) (by omega) (by omega)
theorem QHH : ∀ S l p, QkU.L 0 (fgt Qgi S) = some (true, l) → pickA l = some p → loopF (Qaj QkU Qgi QhQ) S = some p :=
 QaD (s := Qn7) ⟨by decide, by decide⟩ (by kernel_rfl) fun x y hok p hp => by
 simp only [Qar, Qao] at hp
 exact (QMn x.2.2.1 y.1 y.2.2.1 (by simpa using hok)).trans hp
theorem QTd : Qwh.lok QkU := by
 repeat (first | exact trivial | exact QHH | refine ⟨?_, ?_⟩)
theorem s_f154 (n : Int) (h : i64Ok n = true) : QGn n = some (.t Qak (intT n), []) := by
 have h1 := h
 simp only [i64Ok, decide_eq_true_eq] at h1
 have e0 : icv .u8 n = byt n 0 := by
  rw [icv8]
  simp [byt]
 simp only [QGn, show decide ((0 : Int) ≤ 8) = true from rfl, Qac, ishr8z, e0]
 rw [decide_eq_true ⟨by omega, by omega, by simp, by simp⟩, Qac]
 have e1 := Qo5 7 (n / 256) [byt n 0] (by omega) (by omega) 1
 rw [show growB 10 (n / 256) [byt n 0] = growB 9 (n / 256) [byt n 0] from e1, QIk h1]
 rfl
def QwT : Ent := spec (.pr tI .nil) (fun x => (i64Ok x.1)) (fun x => (.t Qak (intT x.1)))
theorem QHj : Meets Tryz.prog 154 (strip QwT) := Qag (R := runF QkU Qwh QFl false) (mG Tryz.func154 (by kernel_rfl) Tryz.ntmps154 (by kernel_rfl) QUE QTd) fun x hok => (e_f154 x.1).trans (s_f154 x.1 hok)
def txtT (s : ByteArray) : ValT := (12, (QaG s, (false, (([] : List Val), ()))))
noncomputable def Qwc : TC := (.sq (.reg (rT Tryz.f160 0)) (.sq (.reg (rT Tryz.f160 1)) .rt))
def QFg : List (RV × Option Ty) := [((.c 2 true 4), some Qak)]
def QAw : G := ⟨TYs, [], 6, EL [(22760144, QaX)], keeps, (fun _ _ => none), IL [], RL []⟩
def QGj (p0 : ByteArray) : Option (V × List VO) := br (Qa6 p0) (some (.t Qak (12, ((QaG p0), (false, (([] : List Val), ())))), [])) none
theorem e_f160 (p0 : ByteArray) : runF QAw Qwc QFg false [.t .str p0] [] = QGj p0 := by kernel_rfl
theorem QVl : Qai Tryz.prog 160 := .inr ⟨by decide, _, Tryz.func160, by kernel_rfl, by kernel_rfl⟩
theorem QUz : GOk Tryz.prog QAw := Qal _ (gA (gC Qbj Qbg gN))
theorem QS8 : Qwc.lok QAw := by repeat (first | exact trivial | refine ⟨?_, ?_⟩)
theorem s_f160 (s : ByteArray) (h : Qa6 s = true) : QGj s = some (.t Qak (txtT s), []) := by
 simp only [QGj, h, Qac]
 rfl
def QEm : Ent := spec (.pr .str .nil) (fun x => (Qa6 x.1)) (fun x => (.t Qak (txtT x.1)))
theorem QSh : Meets Tryz.prog 160 (strip QEm) := Qag (R := runF QAw Qwc QFg false) (mG Tryz.func160 (by kernel_rfl) Tryz.ntmps160 (by kernel_rfl) QUz QS8) fun x hok => (e_f160 x.1).trans (s_f160 x.1 hok)
noncomputable def Qwj : TC := (.sq (.reg (rT Tryz.f152 0)) (.sq (.reg (rT Tryz.f152 1)) .rt))
def QFn : List (RV × Option Ty) := [((.c 2 true 4), some Qak)]
def QAB : G := ⟨TYs, [], 6, EL [(22760144, QaX)], keeps, (fun _ _ => none), IL [], RL []⟩
def QGp (p0 : ByteArray) : Option (V × List VO) := br (Qa6 p0) (some (.t Qak (12, ((QaG p0), (false, (([] : List Val), ())))), [])) none
theorem e_f152 (p0 : ByteArray) : runF QAB Qwj QFn false [.t .str p0] [] = QGp p0 := by kernel_rfl
theorem QVo : Qai Tryz.prog 152 := .inr ⟨by decide, _, Tryz.func152, by kernel_rfl, by kernel_rfl⟩
theorem QUG : GOk Tryz.prog QAB := Qal _ (gA (gC Qbj Qbg gN))
theorem QTf : Qwj.lok QAB := by repeat (first | exact trivial | refine ⟨?_, ?_⟩)
theorem s_f152 (s : ByteArray) (h : Qa6 s = true) : QGp s = some (.t Qak (txtT s), []) := by
 simp only [QGp, h, Qac]
 rfl
def QEs : Ent := spec (.pr .str .nil) (fun x => (Qa6 x.1)) (fun x => (.t Qak (txtT x.1)))
theorem QSm : Meets Tryz.prog 152 (strip QEs) := Qag (R := runF QAB Qwj QFn false) (mG Tryz.func152 (by kernel_rfl) Tryz.ntmps152 (by kernel_rfl) QUG QTf) fun x hok => (e_f152 x.1).trans (s_f152 x.1 hok)
def boolT (b : Bool) : ValT := (1, ([bif b then 255 else 0], (false, (([] : List Val), ()))))
noncomputable def Qv8 : TC := (.sq (.reg (rT Tryz.f164 0)) (.sq (.sq (.reg (rT Tryz.f164 1)) (.cd (.t 3) (.sq (.reg (rT Tryz.f164 2)) .rt) .sk)) (.sq (.reg (rT Tryz.f164 3)) .rt)))
def QFc : List (RV × Option Ty) := [((.c 2 true 4), some Qak)]
def QAt : G := ⟨TYs, [], 8, EL [], keeps, (fun _ _ => none), IL [], RL []⟩
def QQT (p0 : Bool) : Option (V × List VO) := br (p0) (some (.t Qak (1, ([255], (false, (([] : List Val), ())))), [])) (some (.t Qak (1, ([0], (false, (([] : List Val), ())))), []))
theorem e_f164 (p0 : Bool) : runF QAt Qv8 QFc false [.t .bool p0] [] = QQT p0 := by kernel_rfl
theorem QVj : Qai Tryz.prog 164 := .inr ⟨by decide, _, Tryz.func164, by kernel_rfl, by kernel_rfl⟩
theorem QUv : GOk Tryz.prog QAt := Qal _ (fun p hp => by cases hp)
theorem QS4 : Qv8.lok QAt := by repeat (first | exact trivial | refine ⟨?_, ?_⟩)
theorem s_f164 (b : Bool) : QQT b = some (.t Qak (boolT b), []) := by cases b <;> rfl
def QEk : Ent := spec (.pr .bool .nil) (fun x => true) (fun x => (.t Qak (boolT x.1)))
theorem QSf : Meets Tryz.prog 164 (strip QEk) := Qag (R := runF QAt Qv8 QFc false) (mG Tryz.func164 (by kernel_rfl) Tryz.ntmps164 (by kernel_rfl) QUv QS4) fun x _ => (e_f164 x.1).trans (s_f164 x.1)
noncomputable def Qwf : TC := (.sq (.reg (rT Tryz.f156 0)) (.sq (.sq (.reg (rT Tryz.f156 1)) (.cd (.t 3) (.sq (.reg (rT Tryz.f156 2)) .rt) .sk)) (.sq (.reg (rT Tryz.f156 3)) .rt)))
def QFj : List (RV × Option Ty) := [((.c 2 true 4), some Qak)]
def QAy : G := ⟨TYs, [], 8, EL [], keeps, (fun _ _ => none), IL [], RL []⟩
def QQU (p0 : Bool) : Option (V × List VO) := br (p0) (some (.t Qak (1, ([255], (false, (([] : List Val), ())))), [])) (some (.t Qak (1, ([0], (false, (([] : List Val), ())))), []))
theorem e_f156 (p0 : Bool) : runF QAy Qwf QFj false [.t .bool p0] [] = QQU p0 := by kernel_rfl
theorem QVm : Qai Tryz.prog 156 := .inr ⟨by decide, _, Tryz.func156, by kernel_rfl, by kernel_rfl⟩
theorem QUC : GOk Tryz.prog QAy := Qal _ (fun p hp => by cases hp)
theorem QTb : Qwf.lok QAy := by repeat (first | exact trivial | refine ⟨?_, ?_⟩)
theorem s_f156 (b : Bool) : QQU b = some (.t Qak (boolT b), []) := by cases b <;> rfl
def QEq : Ent := spec (.pr .bool .nil) (fun x => true) (fun x => (.t Qak (boolT x.1)))
theorem QSk : Meets Tryz.prog 156 (strip QEq) := Qag (R := runF QAy Qwf QFj false) (mG Tryz.func156 (by kernel_rfl) Tryz.ntmps156 (by kernel_rfl) QUC QTb) fun x _ => (e_f156 x.1).trans (s_f156 x.1)
end
end Go.Proofs.YtkngeegkjhipeaaGreat.K
