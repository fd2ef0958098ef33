import Derived.Test.YtckcgijklnloiaaGreatQ4
set_option linter.unusedSimpArgs false
set_option linter.unusedVariables false
namespace Go.Proofs.YtckcgijklnloiaaGreat.K
open Go.RowKit
noncomputable section
def intT (n : Int) : ValT := (2, (intL n, (false, (([] : List Val), ()))))
def i64Ok (n : Int) : Bool := decide (-9223372036854775808 ≤ n ∧ n < 9223372036854775808)
def QgC : Fg := ⟨[(0, some tI), (2, none), (3, none), (4, some tI)], [(2, some Qaj), (3, none), (16, none)]⟩
noncomputable def Qio : TC := (.sq (.sq (.reg (rT Tryz.f224 3)) (.cd (.t 6) .sk (.fg ⟨[(2, none), (3, none)], [(2, some Qaj), (3, none), (16, none)]⟩ (.ex 0)))) (.sq (.bk 1 (.reg (rT Tryz.f224 4))) (.reg (rT Tryz.f224 5))))
def QgB : Fg := ⟨[(2, none), (3, some (.sl (.int .u8)))], [(2, some Qaj), (3, none), (16, none)]⟩
noncomputable def Qin : TC := (.sq (.sq (.reg (rT Tryz.f224 6)) (.cd (.t 43) .sk (.fg ⟨[(2, none), (3, none)], [(2, some Qaj), (3, none), (16, none)]⟩ (.ex 2)))) (.bk 3 (.reg (rT Tryz.f224 7))))
noncomputable def QvU : TC := (.sq (.reg (rT Tryz.f224 0)) (.sq (.reg (rT Tryz.f224 1)) (.sq (.sq (.reg (rT Tryz.f224 2)) (.bk 0 (.nw 3 5 (.lp 0 QgC Qio)))) (.sq (.bk 2 (.fz [3] (.lp 1 QgB Qin))) (.sq (.reg (rT Tryz.f224 8)) .rt)))))
def QFc : List (RV × Option Ty) := [((.c 2 true 4), some Qaj)]
abbrev Qn8 : Sh := ⟨[(0, .ty tI), (2, .ptr 2 0), (3, .ms 3), (4, .ty tI)], [(2, .box Qaj), (3, .arr 5 (.int .u8)), (16, .no)]⟩
def Qnt (x0 x4 : Int) (y2 : ValT) (y3 : List Int) : VS := Qn8.st (x0, (), (), x4, ()) (y2, y3, (), ())
abbrev QtQ : Sh := ⟨[(2, .ptr 2 0), (3, .ms 3)], [(2, .box Qaj), (3, .arr 5 (.int .u8)), (16, .no)]⟩
def QdK (y2 : ValT) (y3 : List Int) : VS := QtQ.st ((), (), ()) (y2, y3, (), ())
abbrev Qn7 : Sh := ⟨[(2, .ptr 2 0), (3, .ty (.sl (.int .u8)))], [(2, .box Qaj), (3, .no), (16, .no)]⟩
def Qns (x3 : List Int) (y2 : ValT) : VS := Qn7.st ((), x3, ()) (y2, (), (), ())
abbrev QtP : Sh := ⟨[(2, .ptr 2 0), (3, .ty (.sl (.int .u8)))], [(2, .box Qaj), (3, .no), (16, .no)]⟩
def Qbj (x3 : List Int) (y2 : ValT) : VS := QtP.st ((), x3, ()) (y2, (), (), ())
def QOv : VS → Option (Bool × List (Bool × Exit × VS)) := mkL Qn8 (fun x y => (i64Ok x.1 && decide (y.2.1.length ≤ 100 ∧ -8 ≤ x.2.2.2.1 ∧ x.2.2.2.1 ≤ 56 ∧ x.2.2.2.1 % 8 = 0))) (fun x y => [(true, .exit 0, QdK (y.1) (y.2.1 ++ bytsN x.1 ((x.2.2.2.1 + 8) / 8).toNat))])
def QOu : VS → Option (Bool × List (Bool × Exit × VS)) := mkL Qn7 (fun x y => (decide (x.2.1.length ≤ 1000))) (fun x y => [(true, .exit 2, Qbj (trimB x.2.1) (y.1))])
def QfO : G := ⟨TYs, [], 48, EL [], keeps, (Ls [QOv, QOu]), IL [], RL []⟩
def QA4 (x0 x4 : Int) (y2 : ValT) (y3 : List Int) : Option (Exit × VS) :=
 let a1 := icv .u8 (ishr .u64 (icv .u64 x0) x4)
 br (ige x4 0) (br (decide ((0 : Int) ≤ x4)) (br (cApp y3 ([a1]) 1) (some (.normal, Qnt x0 (isub .i64 x4 8) y2 (y3 ++ ([a1])))) none) none) (some (.exit 0, QdK y2 y3))
noncomputable def Qpj (x0 x4 : Int) (y2 : ValT) (y3 : List Int) : Option (Exit × VS) := loopF (Qak QfO QgC Qio) (Qnt x0 x4 y2 y3)
noncomputable def Qmo (x0 x4 : Int) (y2 : ValT) (y3 : List Int) : Option (Exit × VS) :=
 let a1 := icv .u8 (ishr .u64 (icv .u64 x0) x4)
 br (ige x4 0) (br (decide ((0 : Int) ≤ x4)) (br (cApp y3 ([a1]) 1) (Qpj x0 (isub .i64 x4 8) y2 (y3 ++ ([a1]))) none) none) (some (.exit 0, QdK y2 y3))
def Qpx (x0 x4 : Int) (y2 : ValT) (y3 : List Int) : Option (Exit × VS) := some (.exit 0, QdK (y2) (y3 ++ bytsN x0 ((x4 + 8) / 8).toNat))
theorem QKv (x0 x4 : Int) (y2 : ValT) (y3 : List Int) : Qak QfO QgC Qio (Qnt x0 x4 y2 y3) = QA4 x0 x4 y2 y3 := by kernel_rfl
theorem QuO (x0 x4 : Int) (y2 : ValT) (y3 : List Int) : Qpj x0 x4 y2 y3 = Qmo x0 x4 y2 y3 := (Qan _ _).trans (by
 rw [QKv]
 simp only [QA4, Qmo, Qax, nxt_n, nxt_r, nxt_e, nxt_0]
 rfl)
def Qk1 (x3 : List Int) (y2 : ValT) : Option (Exit × VS) :=
 let a1 := (List.length x3 : Nat)
 br (cSl x3 1 (a1 : Int) (a1 : Int)) (some (.normal, Qns (lsl x3 1 (a1 : Int)) y2)) none
def Qk0 (x3 : List Int) (y2 : ValT) : Option (Exit × VS) := br (cIx x3 0) (br (ieq (lgt (.int .u8) x3 (Int.toNat 0)) 255) (br (cIx x3 1) (br (ige (lgt (.int .u8) x3 (Int.toNat 1)) 128) (Qk1 x3 y2) (some (.exit 2, Qbj x3 y2))) none) (some (.exit 2, Qbj x3 y2))) none
def QA3 (x3 : List Int) (y2 : ValT) : Option (Exit × VS) := br (igt (llen x3) 1) (br (cIx x3 0) (br (ieq (lgt (.int .u8) x3 (Int.toNat 0)) 0) (br (cIx x3 1) (br (ilt (lgt (.int .u8) x3 (Int.toNat 1)) 128) (Qk1 x3 y2) (Qk0 x3 y2)) none) (Qk0 x3 y2)) none) (some (.exit 2, Qbj x3 y2))
noncomputable def Qpi (x3 : List Int) (y2 : ValT) : Option (Exit × VS) := loopF (Qak QfO QgB Qin) (Qns x3 y2)
noncomputable def Qdg (x3 : List Int) (y2 : ValT) : Option (Exit × VS) :=
 let a1 := (List.length x3 : Nat)
 br (cSl x3 1 (a1 : Int) (a1 : Int)) (Qpi (lsl x3 1 (a1 : Int)) y2) none
noncomputable def Qdf (x3 : List Int) (y2 : ValT) : Option (Exit × VS) := br (cIx x3 0) (br (ieq (lgt (.int .u8) x3 (Int.toNat 0)) 255) (br (cIx x3 1) (br (ige (lgt (.int .u8) x3 (Int.toNat 1)) 128) (Qdg x3 y2) (some (.exit 2, Qbj x3 y2))) none) (some (.exit 2, Qbj x3 y2))) none
noncomputable def Qi0 (x3 : List Int) (y2 : ValT) : Option (Exit × VS) := br (igt (llen x3) 1) (br (cIx x3 0) (br (ieq (lgt (.int .u8) x3 (Int.toNat 0)) 0) (br (cIx x3 1) (br (ilt (lgt (.int .u8) x3 (Int.toNat 1)) 128) (Qdg x3 y2) (Qdf x3 y2)) none) (Qdf x3 y2)) none) (some (.exit 2, Qbj x3 y2))
def QjC (x3 : List Int) (y2 : ValT) : Option (Exit × VS) := some (.exit 2, Qbj (trimB x3) (y2))
theorem QKu (x3 : List Int) (y2 : ValT) : Qak QfO QgB Qin (Qns x3 y2) = QA3 x3 y2 := by kernel_rfl
theorem Qpo (x3 : List Int) (y2 : ValT) : Qpi x3 y2 = Qi0 x3 y2 := (Qan _ _).trans (by
 rw [QKu]
 simp only [QA3, Qk1, Qk0, Qi0, Qdg, Qdf, Qax, nxt_n, nxt_r, nxt_e, nxt_0]
 rfl)
def QGz (p0 : Int) : Option (V × List VO) := br (i64Ok p0 && decide (([] : List Int).length ≤ 100 ∧ -8 ≤ (56 : Int) ∧ (56 : Int) ≤ 56 ∧ (56 : Int) % 8 = 0)) (br (decide ((([] : List Int) ++ bytsN p0 (((56 : Int) + 8) / 8).toNat).length ≤ 1000)) (some (.t Qaj (2, ((trimB (([] : List Int) ++ bytsN p0 (((56 : Int) + 8) / 8).toNat)), (false, (([] : List Val), ())))), [])) none) none
theorem e_f224 (p0 : Int) : runF QfO QvU QFc false [.t tI p0] [] = QGz p0 := by kernel_rfl
theorem QJz : Qah Tryz.prog 224 := .inr ⟨by decide, _, Tryz.func224, by kernel_rfl, by kernel_rfl⟩
theorem QT3 : GOk Tryz.prog QfO := Qal _ (fun p hp => by cases hp)
theorem QME (x0 x4 : Int) (y2 : ValT) (y3 : List Int) (h : (i64Ok x0 && decide (y3.length ≤ 100 ∧ -8 ≤ x4 ∧ x4 ≤ 56 ∧ x4 % 8 = 0)) = true) : Qpj x0 x4 y2 y3 = Qpx x0 x4 y2 y3 := by
 simp only [Bool.and_eq_true, decide_eq_true_eq] at h
 obtain ⟨h0, h1, h2, h3, h4⟩ := h
 obtain ⟨k, hk⟩ : ∃ k : Nat, x4 = 8 * (k : Int) - 8 := ⟨((x4 + 8) / 8).toNat, by omega⟩
 subst hk
 have hk8 : k ≤ 8 := by omega
 have h9 : y3.length + k ≤ 200 := by omega
 clear h1 h2 h3 h4
 induction k generalizing y3 with
 | zero =>
  rw [QuO]
  simp [Qmo, Qpx, ige, Qaf, bytsN]
 | succ k ih =>
  rw [QuO]
  have e0 : (8 * ((k + 1 : Nat) : Int) - 8) = ((8 * k : Nat) : Int) := by omega
  rw [e0]
  simp only [Qmo, show ige ((8 * k : Nat) : Int) 0 = true from decide_eq_true (by omega), Qac, show decide ((0 : Int) ≤ ((8 * k : Nat) : Int)) = true from decide_eq_true (by omega), QV2 x0 k (by omega)]
  have e1 : isub .i64 ((8 * k : Nat) : Int) 8 = 8 * (k : Int) - 8 := by rw [Qch (by omega)]; omega
  rw [cAppN (by omega) (by simp only [List.length_singleton]; omega), Qac, e1, ih (y3 ++ [byt x0 k]) (by omega) (by simp only [List.length_append, List.length_singleton]; omega)]
  simp only [Qpx, show ((8 * (k : Int) - 8 + 8) / 8).toNat = k by omega, show ((((8 * k : Nat) : Int) + 8) / 8).toNat = k + 1 by omega, bytsN, List.append_assoc, List.singleton_append]
theorem QMD (x3 : List Int) (y2 : ValT) (h : (decide (x3.length ≤ 1000)) = true) : Qpi x3 y2 = QjC x3 y2 := by
 simp only [decide_eq_true_eq] at h
 induction x3 with
 | nil =>
  rw [Qpo]
  simp [Qi0, Qdg, Qdf, QjC, igt, llen, Qaf, trimB]
 | cons x l ih =>
  cases l with
  | nil =>
   rw [Qpo]
   simp [Qi0, Qdg, Qdf, QjC, igt, llen, Qaf, trimB, trimL]
  | cons y r =>
   rw [Qpo]
   simp only [List.length_cons] at h
   have e1 : igt (llen (x :: y :: r)) 1 = true := by simp only [igt, llen, List.length_cons, decide_eq_true_eq]; omega
   have e2 : cIx (x :: y :: r) 0 = true := by simp only [cIx, List.length_cons, decide_eq_true_eq]; omega
   have e3 : cIx (x :: y :: r) 1 = true := by simp only [cIx, List.length_cons, decide_eq_true_eq]; omega
   have e4 : lgt (.int .u8) (x :: y :: r) (Int.toNat 0) = x := rfl
   have e5 : lgt (.int .u8) (x :: y :: r) (Int.toNat 1) = y := rfl
   have e6 : cSl (x :: y :: r) 1 ((List.length (x :: y :: r) : Nat) : Int) ((List.length (x :: y :: r) : Nat) : Int) = true := by simp only [cSl, List.length_cons, decide_eq_true_eq]; omega
   have e7 : lsl (x :: y :: r) 1 ((List.length (x :: y :: r) : Nat) : Int) = y :: r := by
    show List.take _ (y :: r) = _
    exact List.take_of_length_le (by simp only [List.length_cons]; omega)
   have ih' := ih (by simp only [List.length_cons]; omega)
   have hb : trimB (x :: y :: r) = bif trimC x y then trimB (y :: r) else x :: y :: r := rfl
   simp only [Qi0, Qdg, Qdf, e1, e2, e3, e4, e5, e6, e7, ih', Qac]
   simp only [QjC, hb, trimC, ieq, ilt, ige]
   cases x == 0 <;> cases decide (y < 128) <;> cases x == 255 <;> cases decide (y ≥ 128) <;> rfl
theorem QIb : ∀ S l p, QfO.L 0 (fgt QgC S) = some (true, l) → pickA l = some p → loopF (Qak QfO QgC Qio) S = some p :=
 QaD (s := Qn8) ⟨by decide, by decide⟩ (by kernel_rfl) fun x y hok p hp => by
 simp only [Qap, Qam] at hp
 exact (QME x.1 x.2.2.2.1 y.1 y.2.1 (by simpa using hok)).trans hp
theorem QIa : ∀ S l p, QfO.L 1 (fgt QgB S) = some (true, l) → pickA l = some p → loopF (Qak QfO QgB Qin) S = some p :=
 QaD (s := Qn7) ⟨by decide, by decide⟩ (by kernel_rfl) fun x y hok p hp => by
 simp only [Qap, Qam] at hp
 exact (QMD x.2.1 y.1 (by simpa using hok)).trans hp
theorem QSw : QvU.lok QfO := by
 repeat (first | exact trivial | exact QIb | exact QIa | refine ⟨?_, ?_⟩)
theorem s_f224 (n : Int) (h : i64Ok n = true) : QGz n = some (.t Qaj (intT n), []) := by
 have h1 := h
 simp only [i64Ok, decide_eq_true_eq] at h1
 simp only [QGz, h, Bool.true_and, show ((56 + 8 : Int) / 8).toNat = 8 from rfl, List.nil_append, List.length_nil]
 rw [show (decide ((0 : Nat) ≤ 100 ∧ (-8 : Int) ≤ 56 ∧ (56 : Int) ≤ 56 ∧ (56 : Int) % 8 = 0)) = true from rfl, Qac, decide_eq_true (by rw [Qp9]; omega), Qac, QIY h1]
 rfl
def QwX : Ent := spec (.pr tI .nil) (fun x => (i64Ok x.1)) (fun x => (.t Qaj (intT x.1)))
theorem QHR : Meets Tryz.prog 224 (strip QwX) := Qag (R := runF QfO QvU QFc false) (mG Tryz.func224 (by kernel_rfl) Tryz.ntmps224 (by kernel_rfl) QT3 QSw) fun x hok => (e_f224 x.1).trans (s_f224 x.1 hok)
def QgI : Fg := ⟨[(2, none), (3, none), (4, some tI)], [(2, some Qaj), (3, none), (7, none), (40, none), (42, none)]⟩
noncomputable def Qiu : TC := (.mv [(40, 7)] (.sq (.sq (.reg (rT Tryz.f187 3)) (.cd (.t 35) .sk (.fg ⟨[(2, none), (3, none)], [(2, some Qaj), (3, none), (7, none), (40, none), (42, none)]⟩ (.ex 0)))) (.sq (.bk 1 (.reg (rT Tryz.f187 4))) (.reg (rT Tryz.f187 5)))))
noncomputable def Qwa : TC := (.sq (.reg (rT Tryz.f187 0)) (.sq (.reg (rT Tryz.f187 1)) (.sq (.sq (.reg (rT Tryz.f187 2)) (.bk 0 (.nw 3 5 (.lp 0 QgI Qiu)))) (.sq (.reg (rT Tryz.f187 6)) .rt))))
def QFs : List (RV × Option Ty) := [((.c 2 true 4), some Qaj)]
abbrev Qof : Sh := ⟨[(2, .ptr 2 0), (3, .ms 7), (4, .ty tI)], [(2, .box Qaj), (3, .no), (7, .arr 5 (.int .u8)), (40, .no), (42, .no)]⟩
def Qnz (x4 : Int) (y2 : ValT) (y7 : List Int) : VS := Qof.st ((), (), x4, ()) (y2, (), y7, (), (), ())
abbrev QtW : Sh := ⟨[(2, .ptr 2 0), (3, .ms 7)], [(2, .box Qaj), (3, .no), (7, .arr 5 (.int .u8)), (40, .no), (42, .no)]⟩
def Qbk (y2 : ValT) (y7 : List Int) : VS := QtW.st ((), (), ()) (y2, (), y7, (), (), ())
def QOB : VS → Option (Bool × List (Bool × Exit × VS)) := mkL Qof (fun x y => (decide (-9223372036854775808 ≤ x.2.2.1 ∧ x.2.2.1 < 9223372036854775808 ∧ 1 ≤ y.2.2.1.length ∧ y.2.2.1.length ≤ 100))) (fun x y => [(true, .exit 0, Qbk (y.1) (growB 10 x.2.2.1 y.2.2.1))])
def Qlm : G := ⟨TYs, [7, 40], 45, EL [], keeps, (Ls [QOB]), IL [], RL []⟩
def QhD (x4 : Int) (y2 : ValT) (y7 : List Int) : Option (Exit × VS) := br (cApp ([(icv .u8 x4)]) y7 1) (br (decide ((0 : Int) ≤ 8)) (some (.normal, Qnz (ishr .i64 x4 8) y2 (([(icv .u8 x4)]) ++ y7))) none) none
def Qk2 (x4 : Int) (y2 : ValT) (y7 : List Int) : Option (Exit × VS) := br (ieq x4 (-1)) (br (cIx y7 0) (br (cLd y7 (Int.toNat 0)) (br (ilt (lgt (.int .u8) y7 (Int.toNat 0)) 128) (QhD x4 y2 y7) (some (.exit 0, Qbk y2 y7))) none) none) (some (.exit 0, Qbk y2 y7))
def Qk3 (x4 : Int) (y2 : ValT) (y7 : List Int) : Option (Exit × VS) := br (ieq x4 0) (br (cIx y7 0) (br (cLd y7 (Int.toNat 0)) (br (ige (lgt (.int .u8) y7 (Int.toNat 0)) 128) (QhD x4 y2 y7) (Qk2 x4 y2 y7)) none) none) (Qk2 x4 y2 y7)
def QBa (x4 : Int) (y2 : ValT) (y7 : List Int) : Option (Exit × VS) := br (ine x4 0) (br (ine x4 (-1)) (QhD x4 y2 y7) (Qk3 x4 y2 y7)) (Qk3 x4 y2 y7)
noncomputable def QeN (x4 : Int) (y2 : ValT) (y7 : List Int) : Option (Exit × VS) := loopF (Qak Qlm QgI Qiu) (Qnz x4 y2 y7)
noncomputable def QeK (x4 : Int) (y2 : ValT) (y7 : List Int) : Option (Exit × VS) := br (cApp ([(icv .u8 x4)]) y7 1) (br (decide ((0 : Int) ≤ 8)) (QeN (ishr .i64 x4 8) y2 (([(icv .u8 x4)]) ++ y7)) none) none
noncomputable def Qhj (x4 : Int) (y2 : ValT) (y7 : List Int) : Option (Exit × VS) := br (ieq x4 (-1)) (br (cIx y7 0) (br (cLd y7 (Int.toNat 0)) (br (ilt (lgt (.int .u8) y7 (Int.toNat 0)) 128) (QeK x4 y2 y7) (some (.exit 0, Qbk y2 y7))) none) none) (some (.exit 0, Qbk y2 y7))
noncomputable def Qhk (x4 : Int) (y2 : ValT) (y7 : List Int) : Option (Exit × VS) := br (ieq x4 0) (br (cIx y7 0) (br (cLd y7 (Int.toNat 0)) (br (ige (lgt (.int .u8) y7 (Int.toNat 0)) 128) (QeK x4 y2 y7) (Qhj x4 y2 y7)) none) none) (Qhj x4 y2 y7)
noncomputable def QsC (x4 : Int) (y2 : ValT) (y7 : List Int) : Option (Exit × VS) := br (ine x4 0) (br (ine x4 (-1)) (QeK x4 y2 y7) (Qhk x4 y2 y7)) (Qhk x4 y2 y7)
def Qpy (x4 : Int) (y2 : ValT) (y7 : List Int) : Option (Exit × VS) := some (.exit 0, Qbk (y2) (growB 10 x4 y7))
theorem QKB (x4 : Int) (y2 : ValT) (y7 : List Int) : Qak Qlm QgI Qiu (Qnz x4 y2 y7) = QBa x4 y2 y7 := by kernel_rfl
theorem QIC (x4 : Int) (y2 : ValT) (y7 : List Int) : QeN x4 y2 y7 = QsC x4 y2 y7 := (Qan _ _).trans (by
 rw [QKB]
 simp only [QBa, QhD, Qk3, Qk2, QsC, QeK, Qhk, Qhj, Qax, nxt_n, nxt_r, nxt_e, nxt_0]
 rfl)
def QGN (p0 : Int) : Option (V × List VO) :=
 let a1 := ishr .i64 p0 8
 br (decide ((0 : Int) ≤ 8)) (br (decide (-9223372036854775808 ≤ a1 ∧ a1 < 9223372036854775808 ∧ 1 ≤ ([(icv .u8 p0)]).length ∧ ([(icv .u8 p0)]).length ≤ 100)) (some (.t Qaj (2, ((growB 10 a1 ([(icv .u8 p0)])), (false, (([] : List Val), ())))), [])) none) none
theorem e_f187 (p0 : Int) : runF Qlm Qwa QFs false [.t tI p0] [] = QGN p0 := by kernel_rfl
theorem QJD : Qah Tryz.prog 187 := .inr ⟨by decide, _, Tryz.func187, by kernel_rfl, by kernel_rfl⟩
theorem QUj : GOk Tryz.prog Qlm := Qal _ (fun p hp => by cases hp)
theorem ishr8z (n : Int) : ishr .i64 n 8 = n / 256 := by
 have := QmZ (kd := .i64) rfl n 1 (by omega)
 rw [show ((8 * 1 : Nat) : Int) = 8 from rfl] at this
 rw [this]
 rfl
theorem QpE : ∀ (k : Nat) (x : Int) (b : List Int), -(256 ^ k : Int) ≤ x → x < 256 ^ k → ∀ f, growB (k + 2 + f) x b = growB (k + 2) x b
 | 0, x, b, h1, h2, f => by
  simp only [Int.pow_zero] at h1 h2
  have hx : x = -1 ∨ x = 0 := by omega
  have g : ∀ f, growB (f + 2) x b = bif growC x (b.headD 0) then (x % 256 :: b) else b := by
   intro f
   rw [show f + 2 = (f + 1) + 1 from rfl, growB, growB]
   rcases hx with rfl | rfl
   ·rw [show ((-1 : Int) % 256 :: b).headD 0 = 255 from rfl, show growC (-1 / 256) 255 = false from rfl]; rfl
   ·rw [show ((0 : Int) % 256 :: b).headD 0 = 0 from rfl, show growC (0 / 256) 0 = false from rfl]; rfl
  rw [show 0 + 2 + f = f + 2 by omega, g f]
  exact (g 0).symm
 | k + 1, x, b, h1, h2, f => by
  rw [show k + 1 + 2 + f = (k + 2 + f) + 1 by omega, growB, show k + 1 + 2 = (k + 2) + 1 from rfl, growB]
  have e : (256 : Int) ^ (k + 1) = 256 ^ k * 256 := by rw [Int.pow_succ]
  rw [e] at h1 h2
  rw [QpE k (x / 256) (x % 256 :: b) (by omega) (by omega) f]
theorem Qyi (x : Int) (b : List Int) (h : -9223372036854775808 ≤ x ∧ x < 9223372036854775808) : growB 10 x b = bif growC x (b.headD 0) then growB 10 (x / 256) (x % 256 :: b) else b := by
 have := QpE 8 x b (by omega) (by omega) 1
 rw [← this]
 rfl
theorem QMK (x4 : Int) (y2 : ValT) (y7 : List Int) (h : (decide (-9223372036854775808 ≤ x4 ∧ x4 < 9223372036854775808 ∧ 1 ≤ y7.length ∧ y7.length ≤ 100)) = true) : QeN x4 y2 y7 = Qpy x4 y2 y7 := by
 simp only [decide_eq_true_eq] at h
 obtain ⟨h1, h2, h3, h4⟩ := h
 have step : ∀ (x c : Int) (r : List Int), r.length ≤ 300 → QeN x y2 (c :: r) = bif growC x c then QeN (x / 256) y2 (x % 256 :: c :: r) else some (.exit 0, Qbk y2 (c :: r)) := by
  intro x c r hr
  rw [QIC]
  have e1 : cIx (c :: r) 0 = true := by simp only [cIx, List.length_cons, decide_eq_true_eq]; omega
  have e2 : cLd (c :: r) (Int.toNat 0) = true := by simp only [cLd, List.length_cons, decide_eq_true_eq, Int.toNat_zero]; omega
  have e3 : lgt (.int .u8) (c :: r) (Int.toNat 0) = c := rfl
  have e4 : cApp [x % 256] (c :: r) 1 = true := cAppN (by omega) (by simp only [List.length_cons, List.length_nil]; omega)
  simp only [QsC, QeK, Qhk, Qhj, e1, e2, e3, e4, Qac, show decide ((0 : Int) ≤ 8) = true from rfl, ishr8z, icv8, List.singleton_append]
  simp only [growC, ine, ieq, ilt, ige]
  have q1 : (x != 0) = !(x == 0) := rfl
  have q2 : (x != -1) = !(x == -1) := rfl
  rw [q1, q2]
  by_cases hx : x = 0
  ·subst hx
   cases decide (c ≥ 128) <;> rfl
  ·by_cases hy : x = -1
   ·subst hy
    cases decide (c < 128) <;> rfl
   ·rw [show (x == 0) = false from beq_false_of_ne hx, show (x == -1) = false from beq_false_of_ne hy]
    rfl
 have lae : ∀ (x : Int) (y : List Int), Qpy x y2 y = some (.exit 0, Qbk y2 (growB 10 x y)) := fun _ _ => rfl
 have key : ∀ (k : Nat) (x : Int) (y : List Int), -(256 ^ k : Int) ≤ x → x < 256 ^ k → k ≤ 8 → 1 ≤ y.length → y.length + k ≤ 200 → -9223372036854775808 ≤ x → x < 9223372036854775808 → QeN x y2 y = Qpy x y2 y := by
  intro k
  induction k with
  | zero =>
   intro x y g1 g2 g3 g4 g5 g6 g7
   simp only [Int.pow_zero] at g1 g2
   have hx : x = -1 ∨ x = 0 := by omega
   obtain ⟨c, r, rfl⟩ : ∃ c r, y = c :: r := by
    cases y with
    | nil => simp at g4
    | cons c r => exact ⟨c, r, rfl⟩
   simp only [List.length_cons] at g5
   rw [step x c r (by omega), lae, Qyi x (c :: r) ⟨g6, g7⟩, List.headD_cons]
   cases growC x c with
   | false => rfl
   | true =>
    rw [cond_true, cond_true, step (x / 256) (x % 256) (c :: r) (by simp only [List.length_cons]; omega), Qyi (x / 256) (x % 256 :: c :: r) (by omega), List.headD_cons]
    have : growC (x / 256) (x % 256) = false := by rcases hx with rfl | rfl <;> rfl
    rw [this]
    rfl
  | succ k ih =>
   intro x y g1 g2 g3 g4 g5 g6 g7
   obtain ⟨c, r, rfl⟩ : ∃ c r, y = c :: r := by
    cases y with
    | nil => simp at g4
    | cons c r => exact ⟨c, r, rfl⟩
   have e : (256 : Int) ^ (k + 1) = 256 ^ k * 256 := by rw [Int.pow_succ]
   rw [e] at g1 g2
   simp only [List.length_cons] at g5
   rw [step x c r (by omega), lae, Qyi x (c :: r) ⟨g6, g7⟩, List.headD_cons]
   cases growC x c with
   | false => rfl
   | true =>
    rw [cond_true, cond_true, ih (x / 256) (x % 256 :: c :: r) (by omega) (by omega) (by omega) (by simp) (by simp only [List.length_cons]; omega) (by omega) (by omega), lae]
 exact key 8 x4 y7 (by omega) (by omega) (by omega) h3 (by omega) (by omega) (by omega)
theorem QIh : ∀ S l p, Qlm.L 0 (fgt QgI S) = some (true, l) → pickA l = some p → loopF (Qak Qlm QgI Qiu) S = some p :=
 QaD (s := Qof) ⟨by decide, by decide⟩ (by kernel_rfl) fun x y hok p hp => by
 simp only [Qap, Qam] at hp
 exact (QMK x.2.2.1 y.1 y.2.2.1 (by simpa using hok)).trans hp
theorem QSM : Qwa.lok Qlm := by
 repeat (first | exact trivial | exact QIh | refine ⟨?_, ?_⟩)
theorem s_f187 (n : Int) (h : i64Ok n = true) : QGN n = some (.t Qaj (intT n), []) := by
 have h1 := h
 simp only [i64Ok, decide_eq_true_eq] at h1
 have e0 : icv .u8 n = byt n 0 := by
  rw [icv8]
  simp [byt]
 simp only [QGN, show decide ((0 : Int) ≤ 8) = true from rfl, Qac, ishr8z, e0]
 rw [decide_eq_true ⟨by omega, by omega, by simp, by simp⟩, Qac]
 have e1 := QpE 7 (n / 256) [byt n 0] (by omega) (by omega) 1
 rw [show growB 10 (n / 256) [byt n 0] = growB 9 (n / 256) [byt n 0] from e1, QIZ h1]
 rfl
def QwY : Ent := spec (.pr tI .nil) (fun x => (i64Ok x.1)) (fun x => (.t Qaj (intT x.1)))
theorem QHS : Meets Tryz.prog 187 (strip QwY) := Qag (R := runF Qlm Qwa QFs false) (mG Tryz.func187 (by kernel_rfl) Tryz.ntmps187 (by kernel_rfl) QUj QSM) fun x hok => (e_f187 x.1).trans (s_f187 x.1 hok)
def txtT (s : ByteArray) : ValT := (12, (QaI s, (false, (([] : List Val), ()))))
noncomputable def QvW : TC := (.sq (.reg (rT Tryz.f222 0)) (.sq (.reg (rT Tryz.f222 1)) .rt))
def QFe : List (RV × Option Ty) := [((.c 2 true 4), some Qaj)]
def QzZ : G := ⟨TYs, [], 6, EL [(30120144, Qa2)], keeps, (fun _ _ => none), IL [], RL []⟩
def QGB (p0 : ByteArray) : Option (V × List VO) := br (Qbd p0) (some (.t Qaj (12, ((QaI p0), (false, (([] : List Val), ())))), [])) none
theorem e_f222 (p0 : ByteArray) : runF QzZ QvW QFe false [.t .str p0] [] = QGB p0 := by kernel_rfl
theorem QVd : Qah Tryz.prog 222 := .inr ⟨by decide, _, Tryz.func222, by kernel_rfl, by kernel_rfl⟩
theorem QT5 : GOk Tryz.prog QzZ := Qal _ (gA (gC Qbo Qbn gN))
theorem QSy : QvW.lok QzZ := by repeat (first | exact trivial | refine ⟨?_, ?_⟩)
theorem s_f222 (s : ByteArray) (h : Qbd s = true) : QGB s = some (.t Qaj (txtT s), []) := by
 simp only [QGB, h, Qac]
 rfl
def QDY : Ent := spec (.pr .str .nil) (fun x => (Qbd x.1)) (fun x => (.t Qaj (txtT x.1)))
theorem QRq : Meets Tryz.prog 222 (strip QDY) := Qag (R := runF QzZ QvW QFe false) (mG Tryz.func222 (by kernel_rfl) Tryz.ntmps222 (by kernel_rfl) QT5 QSy) fun x hok => (e_f222 x.1).trans (s_f222 x.1 hok)
noncomputable def Qwc : TC := (.sq (.reg (rT Tryz.f185 0)) (.sq (.reg (rT Tryz.f185 1)) .rt))
def QFu : List (RV × Option Ty) := [((.c 2 true 4), some Qaj)]
def Qz9 : G := ⟨TYs, [], 6, EL [(30120144, Qa2)], keeps, (fun _ _ => none), IL [], RL []⟩
def QGP (p0 : ByteArray) : Option (V × List VO) := br (Qbd p0) (some (.t Qaj (12, ((QaI p0), (false, (([] : List Val), ())))), [])) none
theorem e_f185 (p0 : ByteArray) : runF Qz9 Qwc QFu false [.t .str p0] [] = QGP p0 := by kernel_rfl
theorem QVo : Qah Tryz.prog 185 := .inr ⟨by decide, _, Tryz.func185, by kernel_rfl, by kernel_rfl⟩
theorem QUl : GOk Tryz.prog Qz9 := Qal _ (gA (gC Qbo Qbn gN))
theorem QSO : Qwc.lok Qz9 := by repeat (first | exact trivial | refine ⟨?_, ?_⟩)
theorem s_f185 (s : ByteArray) (h : Qbd s = true) : QGP s = some (.t Qaj (txtT s), []) := by
 simp only [QGP, h, Qac]
 rfl
def QEc : Ent := spec (.pr .str .nil) (fun x => (Qbd x.1)) (fun x => (.t Qaj (txtT x.1)))
theorem QRE : Meets Tryz.prog 185 (strip QEc) := Qag (R := runF Qz9 Qwc QFu false) (mG Tryz.func185 (by kernel_rfl) Tryz.ntmps185 (by kernel_rfl) QUl QSO) fun x hok => (e_f185 x.1).trans (s_f185 x.1 hok)
def boolT (b : Bool) : ValT := (1, ([bif b then 255 else 0], (false, (([] : List Val), ()))))
noncomputable def QvS : TC := (.sq (.reg (rT Tryz.f226 0)) (.sq (.sq (.reg (rT Tryz.f226 1)) (.cd (.t 3) (.sq (.reg (rT Tryz.f226 2)) .rt) .sk)) (.sq (.reg (rT Tryz.f226 3)) .rt)))
def QFa : List (RV × Option Ty) := [((.c 2 true 4), some Qaj)]
def QzW : G := ⟨TYs, [], 8, EL [], keeps, (fun _ _ => none), IL [], RL []⟩
def QQd (p0 : Bool) : Option (V × List VO) := br (p0) (some (.t Qaj (1, ([255], (false, (([] : List Val), ())))), [])) (some (.t Qaj (1, ([0], (false, (([] : List Val), ())))), []))
theorem e_f226 (p0 : Bool) : runF QzW QvS QFa false [.t .bool p0] [] = QQd p0 := by kernel_rfl
theorem QVb : Qah Tryz.prog 226 := .inr ⟨by decide, _, Tryz.func226, by kernel_rfl, by kernel_rfl⟩
theorem QT1 : GOk Tryz.prog QzW := Qal _ (fun p hp => by cases hp)
theorem QSu : QvS.lok QzW := by repeat (first | exact trivial | refine ⟨?_, ?_⟩)
theorem s_f226 (b : Bool) : QQd b = some (.t Qaj (boolT b), []) := by cases b <;> rfl
def QDW : Ent := spec (.pr .bool .nil) (fun x => true) (fun x => (.t Qaj (boolT x.1)))
theorem QRo : Meets Tryz.prog 226 (strip QDW) := Qag (R := runF QzW QvS QFa false) (mG Tryz.func226 (by kernel_rfl) Tryz.ntmps226 (by kernel_rfl) QT1 QSu) fun x _ => (e_f226 x.1).trans (s_f226 x.1)
noncomputable def Qv8 : TC := (.sq (.reg (rT Tryz.f189 0)) (.sq (.sq (.reg (rT Tryz.f189 1)) (.cd (.t 3) (.sq (.reg (rT Tryz.f189 2)) .rt) .sk)) (.sq (.reg (rT Tryz.f189 3)) .rt)))
def QFq : List (RV × Option Ty) := [((.c 2 true 4), some Qaj)]
def Qz6 : G := ⟨TYs, [], 8, EL [], keeps, (fun _ _ => none), IL [], RL []⟩
def QQf (p0 : Bool) : Option (V × List VO) := br (p0) (some (.t Qaj (1, ([255], (false, (([] : List Val), ())))), [])) (some (.t Qaj (1, ([0], (false, (([] : List Val), ())))), []))
theorem e_f189 (p0 : Bool) : runF Qz6 Qv8 QFq false [.t .bool p0] [] = QQf p0 := by kernel_rfl
theorem QVm : Qah Tryz.prog 189 := .inr ⟨by decide, _, Tryz.func189, by kernel_rfl, by kernel_rfl⟩
theorem QUh : GOk Tryz.prog Qz6 := Qal _ (fun p hp => by cases hp)
theorem QSK : Qv8.lok Qz6 := by repeat (first | exact trivial | refine ⟨?_, ?_⟩)
theorem s_f189 (b : Bool) : QQf b = some (.t Qaj (boolT b), []) := by cases b <;> rfl
def QEa : Ent := spec (.pr .bool .nil) (fun x => true) (fun x => (.t Qaj (boolT x.1)))
theorem QRC : Meets Tryz.prog 189 (strip QEa) := Qag (R := runF Qz6 Qv8 QFq false) (mG Tryz.func189 (by kernel_rfl) Tryz.ntmps189 (by kernel_rfl) QUh QSK) fun x _ => (e_f189 x.1).trans (s_f189 x.1)
end
end Go.Proofs.YtckcgijklnloiaaGreat.K
set_option linter.unusedSectionVars false
namespace Go.Proofs.YtckcgijklnloiaaGreat.K
open Go.RowKit
noncomputable section
def okT (n : Nat) (x : ValT) : Bool := okV n (Val.of x)
theorem Quw {n : Nat} {v : Val} : okT n v.un = okV n v := by rw [okT, Val.of_un]
theorem QcC {n : Nat} {x : ValT} (h : okT (n + 1) x = true) :
  (x.1 = 1 ∨ x.1 = 2 ∨ x.1 = 12 ∨ x.1 = 48) ∧ x.2.2.1 = (x.1 == 48) ∧ (x.2.2.1 = true → x.2.1 = []) ∧ (x.2.2.1 = false → x.2.2.2.1 = []) ∧ x.2.1.length ≤ 100000 ∧ x.2.2.2.1.length ≤ 100000 ∧ ∀ v ∈ x.2.2.2.1, okV n v = true := by
 obtain ⟨t, b, q, es, _⟩ := x
 exact Qzq h
def copLF : Nat → List ValT → Bool
 | 0, _ => false
 | n + 1, l => decide (l.length ≤ 100000) && l.all (okT n)
theorem QN2 {n : Nat} {es : List Val} (hl : es.length ≤ 100000) (h : ∀ v ∈ es, okV n v = true) : copLF (n + 1) (es.map Val.un) = true := by
 simp only [copLF, Bool.and_eq_true, decide_eq_true_eq, List.length_map, List.all_eq_true, List.mem_map]
 refine ⟨hl, ?_⟩
 rintro x ⟨v, hv, rfl⟩
 rw [Quw]
 exact h v hv
theorem QAT {n : Nat} {x : ValT} (h : okT n x = true) : copLF n (x.2.2.2.1.map Val.un) = true := by
 cases n with
 | zero => obtain ⟨t, b, q, es, _⟩ := x; cases h
 | succ n =>
  obtain ⟨_, _, _, _, _, h6, h7⟩ := QcC h
  exact QN2 h6 h7
theorem QcJ (es : List Val) : List.map Val.of (List.map Val.un es) = es := by
 rw [List.map_map]
 have : (Val.of ∘ Val.un) = id := funext Val.of_un
 rw [this, List.map_id]
def copV (l : List ValT) : List ValT := l
def copOk (l : List ValT) : Bool := copLF 12 l
theorem Quy {n : Nat} {x : ValT} (h : okT n x = true) : x.2.1.length ≤ 100000 := by
 cases n with
 | zero => obtain ⟨t, b, q, es, _⟩ := x; cases h
 | succ n => exact (QcC h).2.2.2.2.1
theorem QpK (l : List ValT) (h : copOk l = true) : ∃ N, copLF N l = true := ⟨12, h⟩
theorem QJw : Qah Tryz.prog 236 := .inr ⟨by decide, _, Tryz.func236, by kernel_rfl, by kernel_rfl⟩
def Qg7 [Fuel] : Ent := spec (.pr (.sl Qaj) .nil) (fun x => (copLF fuel x.1)) (fun x => (.t (.sl Qaj) (copV x.1)))
theorem QNo : Qah Tryz.prog 236 := QJw
section
variable [Fuel] [Nonempty (PLift (Meets Tryz.prog 236 (strip Qg7)))]
theorem QLY : Meets Tryz.prog 236 (strip Qg7) := (Classical.choice (inferInstance : Nonempty (PLift (Meets Tryz.prog 236 (strip Qg7))))).down
def copIn [Fuel] (l : List ValT) : Bool := copLF (fuel + 1) l
noncomputable def QJU : List DO := dT Tryz.f236 5
def Qgx : Fg := ⟨[(3, none), (6, some (.sl Qaj)), (7, some tI), (8, some tI)], [(3, none), (23, none)]⟩
noncomputable def Qij : TC := (.sq (.reg (rT Tryz.f236 3)) (.sq (.cd (.t 9) .sk (.fg ⟨[(3, none)], [(3, none), (23, none)]⟩ (.ex 0))) (.sq (.bk 1 (.sq (.reg (rT Tryz.f236 4)) (.sq (.dr QJU [(0, [5]), (1, [5]), (2, []), (3, [5]), (4, [5]), (5, []), (6, [5]), (7, [5]), (8, [5]), (9, [5])] (.of [0, 1, 2, 3, 4, 5, 6, 7, 8, 9])) (.reg (rT Tryz.f236 6))))) (.reg (rT Tryz.f236 7)))))
noncomputable def QvM : TC := (.sq (.reg (rT Tryz.f236 0)) (.sq (.reg (rT Tryz.f236 1)) (.sq (.sq (.reg (rT Tryz.f236 2)) (.bk 0 (.nw 3 202 (.lp 0 Qgx Qij)))) (.sq (.reg (rT Tryz.f236 8)) .rt))))
def QE4 : List (RV × Option Ty) := [((.t 2), some (.sl Qaj))]
abbrev Qn3 : Sh := ⟨[(3, .ms 3), (6, .ty (.sl Qaj)), (7, .ty tI), (8, .ty tI)], [(3, .arr 202 Qaj), (23, .no)]⟩
def Qno (x6 : List ValT) (x7 x8 : Int) (y3 : List ValT) : VS := Qn3.st ((), x6, x7, x8, ()) (y3, (), ())
abbrev QtK : Sh := ⟨[(3, .ms 3)], [(3, .arr 202 Qaj), (23, .no)]⟩
def QdF (y3 : List ValT) : VS := QtK.st ((), ()) (y3, (), ())
def QOq : VS → Option (Bool × List (Bool × Exit × VS)) := mkL Qn3 (fun x y => (rngOk x.2.1 x.2.2.1 x.2.2.2.1 && copIn x.2.1 && decide (y.1.length + x.2.1.length ≤ 200000 + x.2.2.2.1.toNat))) (fun x y => [(true, .exit 0, QdF (y.1 ++ x.2.1.drop x.2.2.2.1.toNat))])
def Qlf : G := ⟨TYs, [], 26, EL [(236, Qg7), (238, QDQ)], keeps, (Ls [QOq]), IL [], RL []⟩
def QAZ (x6 : List ValT) (x7 x8 : Int) (y3 : List ValT) : Option (Exit × VS) :=
 let a2 := ((lgt Qaj x6 (Int.toNat x8)).2)
 let a1 := ((lgt Qaj x6 (Int.toNat x8)).1, ((clonB (a2.1)), ((a2.2).1, ((List.map Val.of (List.map Val.un (List.map Val.of (copV (List.map Val.un (((a2.2).2).1)))))), ()))))
 br (ilt x8 x7) (br (cIx x6 x8) (br (QAX (a2.1)) (br (copLF fuel (List.map Val.un (((a2.2).2).1))) (br (cApp y3 ([a1]) 64) (some (.normal, Qno x6 x7 (iadd .i64 x8 1) (y3 ++ ([a1])))) none) none) none) none) (some (.exit 0, QdF y3))
noncomputable def Qi7 (x6 : List ValT) (x7 x8 : Int) (y3 : List ValT) : Option (Exit × VS) := loopF (Qak Qlf Qgx Qij) (Qno x6 x7 x8 y3)
noncomputable def Qml (x6 : List ValT) (x7 x8 : Int) (y3 : List ValT) : Option (Exit × VS) :=
 let a2 := ((lgt Qaj x6 (Int.toNat x8)).2)
 let a1 := ((lgt Qaj x6 (Int.toNat x8)).1, ((clonB (a2.1)), ((a2.2).1, ((List.map Val.of (List.map Val.un (List.map Val.of (copV (List.map Val.un (((a2.2).2).1)))))), ()))))
 br (ilt x8 x7) (br (cIx x6 x8) (br (QAX (a2.1)) (br (copLF fuel (List.map Val.un (((a2.2).2).1))) (br (cApp y3 ([a1]) 64) (Qi7 x6 x7 (iadd .i64 x8 1) (y3 ++ ([a1]))) none) none) none) none) (some (.exit 0, QdF y3))
def QjA (x6 : List ValT) (x7 x8 : Int) (y3 : List ValT) : Option (Exit × VS) := some (.exit 0, QdF (y3 ++ x6.drop x8.toNat))
theorem QKq (x6 : List ValT) (x7 x8 : Int) (y3 : List ValT) : Qak Qlf Qgx Qij (Qno x6 x7 x8 y3) = QAZ x6 x7 x8 y3 := by kernel_rfl
theorem QuK (x6 : List ValT) (x7 x8 : Int) (y3 : List ValT) : Qi7 x6 x7 x8 y3 = Qml x6 x7 x8 y3 := (Qan _ _).trans (by
 rw [QKq]
 simp only [QAZ, Qml, Qax, nxt_n, nxt_r, nxt_e, nxt_0]
 rfl)
def QGs (p0 : List ValT) : Option (V × List VO) := br (rngOk p0 (llen p0) (0 : Int) && copIn p0 && decide (([] : List ValT).length + p0.length ≤ 200000 + (0 : Int).toNat)) (some (.t (.sl Qaj) (([] : List ValT) ++ p0.drop (0 : Int).toNat), [])) none
theorem e_f236 (p0 : List ValT) : runF Qlf QvM QE4 false [.t (.sl Qaj) p0] [] = QGs p0 := by kernel_rfl
theorem QTV : GOk Tryz.prog Qlf := Qal _ (gA (gC QNo QLY (gC QU7 QRi gN)))
theorem QMz (x6 : List ValT) (x7 x8 : Int) (y3 : List ValT) (h : (rngOk x6 x7 x8 && copIn x6 && decide (y3.length + x6.length ≤ 200000 + x8.toNat)) = true) : Qi7 x6 x7 x8 y3 = QjA x6 x7 x8 y3 := by
 simp only [Bool.and_eq_true, decide_eq_true_eq] at h
 obtain ⟨⟨h0, hc⟩, h2⟩ := h
 obtain ⟨rfl, h3, k, rfl, hk⟩ := rng_k h0
 clear h0
 rw [Int.toNat_natCast] at h2
 simp only [copIn, copLF, Bool.and_eq_true, List.all_eq_true] at hc
 revert y3
 refine Qat x6 (fun k => ∀ y3 : List ValT, y3.length + x6.length ≤ 200000 + k → Qi7 x6 (x6.length : Int) (k : Int) y3 = QjA x6 (x6.length : Int) (k : Int) y3) ?_ ?_ k hk
 ·intro y3 _
  rw [QuK]
  simp [Qml, QjA, Qar, Qaf]
 ·intro k hk ih y3 hy
  rw [QuK]
  have hx := hc.2 x6[k] (List.getElem_mem hk)
  have e1 : QAX x6[k].2.1 = true := decide_eq_true (by have := Quy hx; omega)
  have e2 : copLF fuel (List.map Val.un x6[k].2.2.2.1) = true := QAT hx
  simp only [Qml, Qar, Qau, hk, decide_true, Qac, Int.toNat_natCast, add1 (show k < 4611686018427387904 by omega), Qay (y := Qaj) hk, e1, e2, clonB, copV, QcJ]
  rw [cAppN (by omega) (by simp only [List.length_singleton]; omega), Qac, ih _ (by simp only [List.length_append, List.length_singleton]; omega)]
  simp only [QjA, Int.toNat_natCast, List.drop_eq_getElem_cons hk, List.append_assoc, List.singleton_append]
theorem QH6 : ∀ S l p, Qlf.L 0 (fgt Qgx S) = some (true, l) → pickA l = some p → loopF (Qak Qlf Qgx Qij) S = some p :=
 QaD (s := Qn3) ⟨by decide, by decide⟩ (by kernel_rfl) fun x y hok p hp => by
 simp only [Qap, Qam] at hp
 exact (QMz x.2.1 x.2.2.1 x.2.2.2.1 y.1 (by simpa using hok)).trans hp
theorem QSo : QvM.lok Qlf := by
 repeat (first | exact trivial | exact QH6 | refine ⟨?_, ?_⟩)
theorem s_f236 (l : List ValT) (h : copLF (fuel + 1) l = true) : QGs l = some (.t (.sl Qaj) (copV l), []) := by
 have hl : l.length ≤ 100000 := by simp only [copLF, Bool.and_eq_true, decide_eq_true_eq] at h; exact h.1
 simp only [QGs, rng_0 hl, show copIn l = true from h, Bool.true_and, List.length_nil, Int.toNat_zero, List.drop_zero, List.nil_append]
 rw [decide_eq_true (by omega), Qac]
 rfl
theorem QSf : Meets Tryz.prog 236 (runF Qlf QvM QE4 false) := mG Tryz.func236 (by kernel_rfl) Tryz.ntmps236 (by kernel_rfl) QTV QSo
end
theorem Qi4 : ∀ N : Nat, Meets Tryz.prog 236 (strip (@Qg7 ⟨N⟩))
 | 0 => Qb1 fun x => by first | rfl | simp [copLF]
 | N + 1 => by
  letI : Fuel := ⟨N⟩
  haveI : Nonempty (PLift (Meets Tryz.prog 236 (strip Qg7))) := ⟨⟨Qi4 N⟩⟩
  exact Qag QSf fun x hok => (e_f236 x.1).trans (s_f236 x.1 hok)
def QDR : Ent := spec (.pr (.sl Qaj) .nil) (fun x => (copOk x.1)) (fun x => (.t (.sl Qaj) (copV x.1)))
theorem QRj : Meets Tryz.prog 236 (strip QDR) := Qb2 Qi4 fun x hok => QpK x.1 hok
theorem QkU (l : List ValT) (h : copOk l = true) : ∃ N, copLF N l = true := ⟨12, h⟩
theorem QJC : Qah Tryz.prog 212 := .inr ⟨by decide, _, Tryz.func212, by kernel_rfl, by kernel_rfl⟩
def Qhb [Fuel] : Ent := spec (.pr (.sl Qaj) .nil) (fun x => (copLF fuel x.1)) (fun x => (.t (.sl Qaj) (copV x.1)))
theorem QNu : Qah Tryz.prog 212 := QJC
section
variable [Fuel] [Nonempty (PLift (Meets Tryz.prog 212 (strip Qhb)))]
theorem QL4 : Meets Tryz.prog 212 (strip Qhb) := (Classical.choice (inferInstance : Nonempty (PLift (Meets Tryz.prog 212 (strip Qhb))))).down
def Qvw [Fuel] (l : List ValT) : Bool := copLF (fuel + 1) l
def QgE : Fg := ⟨[(0, some (.sl Qaj)), (3, none), (4, some tI)], [(3, none), (28, none)]⟩
noncomputable def Qiq : TC := (.sq (.sq (.reg (rT Tryz.f212 3)) (.cd (.t 9) .sk (.fg ⟨[(3, none)], [(3, none), (28, none)]⟩ (.ex 0)))) (.sq (.bk 1 (.sq (.reg (rT Tryz.f212 4)) (.sq (.reg (rT Tryz.f212 5)) (.sq (.reg (rT Tryz.f212 6)) (.reg (rT Tryz.f212 7)))))) (.reg (rT Tryz.f212 8))))
noncomputable def QvZ : TC := (.sq (.reg (rT Tryz.f212 0)) (.sq (.reg (rT Tryz.f212 1)) (.sq (.sq (.reg (rT Tryz.f212 2)) (.bk 0 (.nf 5 1 5 20501 (.nw 3 202 (.lp 0 QgE Qiq))))) (.sq (.reg (rT Tryz.f212 9)) .rt))))
def QFh : List (RV × Option Ty) := [((.t 2), some (.sl Qaj))]
abbrev Qoa : Sh := ⟨[(0, .ty (.sl Qaj)), (3, .ms 3), (4, .ty tI)], [(3, .arr 202 Qaj), (28, .no)]⟩
def Qnv (x0 : List ValT) (x4 : Int) (y3 : List ValT) : VS := Qoa.st (x0, (), x4, ()) (y3, (), ())
abbrev QtS : Sh := ⟨[(3, .ms 3)], [(3, .arr 202 Qaj), (28, .no)]⟩
def QdM (y3 : List ValT) : VS := QtS.st ((), ()) (y3, (), ())
def QOx : VS → Option (Bool × List (Bool × Exit × VS)) := mkL Qoa (fun x y => (idxOk x.1 x.2.2.1 && Qvw x.1 && decide (y.1.length + x.1.length ≤ 200000 + x.2.2.1.toNat))) (fun x y => [(true, .exit 0, QdM (y.1 ++ x.1.drop x.2.2.1.toNat))])
def Qli : G := ⟨TYs, [16], 30, EL [(212, Qhb)], keeps, (Ls [QOx]), IL [], RL []⟩
def QA6 (x0 : List ValT) (x4 : Int) (y3 : List ValT) : Option (Exit × VS) :=
 let a1 := lgt Qaj x0 (Int.toNat x4)
 let a2 := (((a1.2).2).1, ((List.map Val.of (copV (List.map Val.un ((((a1.2).2).2).1)))), ()))
 br (ilt x4 (llen x0)) (br (cIx x0 x4) (br (cApp ([] : List Int) ((a1.2).1) 1) (br (copLF fuel (List.map Val.un ((((a1.2).2).2).1))) (br (cApp y3 ([(a1.1, ((([] : List Int) ++ ((a1.2).1)), a2))]) 64) (some (.normal, Qnv x0 (iadd .i64 x4 1) (y3 ++ ([(a1.1, ((([] : List Int) ++ ((a1.2).1)), a2))])))) none) none) none) none) (some (.exit 0, QdM y3))
noncomputable def Qjb (x0 : List ValT) (x4 : Int) (y3 : List ValT) : Option (Exit × VS) := loopF (Qak Qli QgE Qiq) (Qnv x0 x4 y3)
noncomputable def Qmq (x0 : List ValT) (x4 : Int) (y3 : List ValT) : Option (Exit × VS) :=
 let a1 := lgt Qaj x0 (Int.toNat x4)
 let a2 := (((a1.2).2).1, ((List.map Val.of (copV (List.map Val.un ((((a1.2).2).2).1)))), ()))
 br (ilt x4 (llen x0)) (br (cIx x0 x4) (br (cApp ([] : List Int) ((a1.2).1) 1) (br (copLF fuel (List.map Val.un ((((a1.2).2).2).1))) (br (cApp y3 ([(a1.1, ((([] : List Int) ++ ((a1.2).1)), a2))]) 64) (Qjb x0 (iadd .i64 x4 1) (y3 ++ ([(a1.1, ((([] : List Int) ++ ((a1.2).1)), a2))]))) none) none) none) none) (some (.exit 0, QdM y3))
def QjE (x0 : List ValT) (x4 : Int) (y3 : List ValT) : Option (Exit × VS) := some (.exit 0, QdM (y3 ++ x0.drop x4.toNat))
theorem QKx (x0 : List ValT) (x4 : Int) (y3 : List ValT) : Qak Qli QgE Qiq (Qnv x0 x4 y3) = QA6 x0 x4 y3 := by kernel_rfl
theorem QuQ (x0 : List ValT) (x4 : Int) (y3 : List ValT) : Qjb x0 x4 y3 = Qmq x0 x4 y3 := (Qan _ _).trans (by
 rw [QKx]
 simp only [QA6, Qmq, Qax, nxt_n, nxt_r, nxt_e, nxt_0]
 rfl)
def QGE (p0 : List ValT) : Option (V × List VO) := br (idxOk p0 (0 : Int) && Qvw p0 && decide (([] : List ValT).length + p0.length ≤ 200000 + (0 : Int).toNat)) (some (.t (.sl Qaj) (([] : List ValT) ++ p0.drop (0 : Int).toNat), [])) none
theorem e_f212 (p0 : List ValT) : runF Qli QvZ QFh false [.t (.sl Qaj) p0] [] = QGE p0 := by kernel_rfl
theorem QT8 : GOk Tryz.prog Qli := Qal _ (gA (gC QNu QL4 gN))
theorem QMG (x0 : List ValT) (x4 : Int) (y3 : List ValT) (h : (idxOk x0 x4 && Qvw x0 && decide (y3.length + x0.length ≤ 200000 + x4.toNat)) = true) : Qjb x0 x4 y3 = QjE x0 x4 y3 := by
 simp only [Bool.and_eq_true, decide_eq_true_eq, idxOk] at h
 obtain ⟨⟨⟨h0, h1, h3⟩, hc⟩, h2⟩ := h
 obtain ⟨k, rfl⟩ := Int.eq_ofNat_of_zero_le h0
 rw [Int.toNat_natCast] at h2
 simp only [Qvw, copLF, Bool.and_eq_true, List.all_eq_true] at hc
 revert y3
 refine Qat x0 (fun k => ∀ y3 : List ValT, y3.length + x0.length ≤ 200000 + k → Qjb x0 (k : Int) y3 = QjE x0 (k : Int) y3) ?_ ?_ k (by omega)
 ·intro y3 _
  rw [QuQ]
  simp [Qmq, QjE, ilt, llen, Qaf]
 ·intro k hk ih y3 hy
  rw [QuQ]
  have hx := hc.2 x0[k] (List.getElem_mem hk)
  have e2 : copLF fuel (List.map Val.un x0[k].2.2.2.1) = true := QAT hx
  simp only [Qmq, show ilt (k : Int) (llen x0) = true from decide_eq_true (by simp only [llen]; omega), Qau, hk, decide_true, Qac, Int.toNat_natCast, add1 (show k < 4611686018427387904 by omega), Qay (y := Qaj) hk, e2, copV, QcJ]
  rw [cAppN (by omega) (by have := Quy hx; simp only [List.length_nil]; omega), Qac, cAppN (by omega) (by simp only [List.length_singleton]; omega), Qac, ih _ (by simp only [List.length_append, List.length_singleton]; omega)]
  simp only [QjE, Int.toNat_natCast, List.drop_eq_getElem_cons hk, List.append_assoc, List.singleton_append, List.nil_append]
theorem QId : ∀ S l p, Qli.L 0 (fgt QgE S) = some (true, l) → pickA l = some p → loopF (Qak Qli QgE Qiq) S = some p :=
 QaD (s := Qoa) ⟨by decide, by decide⟩ (by kernel_rfl) fun x y hok p hp => by
 simp only [Qap, Qam] at hp
 exact (QMG x.1 x.2.2.1 y.1 (by simpa using hok)).trans hp
theorem QSB : QvZ.lok Qli := by
 repeat (first | exact trivial | exact QId | refine ⟨?_, ?_⟩)
theorem s_f212 (l : List ValT) (h : copLF (fuel + 1) l = true) : QGE l = some (.t (.sl Qaj) (copV l), []) := by
 have hl : l.length ≤ 100000 := by simp only [copLF, Bool.and_eq_true, decide_eq_true_eq] at h; exact h.1
 simp only [QGE, show idxOk l 0 = true from decide_eq_true (by omega), show Qvw l = true from h, Bool.true_and, List.length_nil, Int.toNat_zero, List.drop_zero, List.nil_append]
 rw [decide_eq_true (by omega), Qac]
 rfl
theorem QSj : Meets Tryz.prog 212 (runF Qli QvZ QFh false) := mG Tryz.func212 (by kernel_rfl) Tryz.ntmps212 (by kernel_rfl) QT8 QSB
end
theorem Qgq : ∀ N : Nat, Meets Tryz.prog 212 (strip (@Qhb ⟨N⟩))
 | 0 => Qb1 fun x => by first | rfl | simp [copLF]
 | N + 1 => by
  letI : Fuel := ⟨N⟩
  haveI : Nonempty (PLift (Meets Tryz.prog 212 (strip Qhb))) := ⟨⟨Qgq N⟩⟩
  exact Qag QSj fun x hok => (e_f212 x.1).trans (s_f212 x.1 hok)
def QD1 : Ent := spec (.pr (.sl Qaj) .nil) (fun x => (copOk x.1)) (fun x => (.t (.sl Qaj) (copV x.1)))
theorem QRt : Meets Tryz.prog 212 (strip QD1) := Qb2 Qgq fun x hok => QkU x.1 hok
end
end Go.Proofs.YtckcgijklnloiaaGreat.K
set_option linter.unusedSectionVars false
namespace Go.Proofs.YtckcgijklnloiaaGreat.K
open Go.RowKit
noncomputable section
theorem Qxy {n : Nat} {x : ValT} (h : okT (n + 1) x = true) : ∀ k (hk : k < (List.map Val.un x.2.2.2.1).length), okT n (List.map Val.un x.2.2.2.1)[k] = true := by
 intro k hk
 rw [List.getElem_map, Quw]
 exact (QcC h).2.2.2.2.2.2 _ (List.getElem_mem _)
def frmV (_x : ValT) : Bool := true
def frmOk (x : ValT) : Bool := okT 12 x
theorem QpJ (x : ValT) (h : frmOk x = true) : ∃ N, okT N x = true := ⟨12, h⟩
theorem QkT (x : ValT) (h : frmOk x = true) : ∃ N, okT N x = true := ⟨12, h⟩
theorem QJB : Qah Tryz.prog 219 := .inr ⟨by decide, _, Tryz.func219, by kernel_rfl, by kernel_rfl⟩
def Qha [Fuel] : Ent := spec (.pr Qaj .nil) (fun x => (okT fuel x.1)) (fun x => (.t .bool (frmV x.1)))
theorem QNt : Qah Tryz.prog 219 := QJB
section
variable [Fuel] [Nonempty (PLift (Meets Tryz.prog 219 (strip Qha)))]
theorem QL3 : Meets Tryz.prog 219 (strip Qha) := (Classical.choice (inferInstance : Nonempty (PLift (Meets Tryz.prog 219 (strip Qha))))).down
def unfV (_x : ValT) : Bool := false
def unfOk [Fuel] (x : ValT) : Bool := okT fuel x
def QeG [Fuel] (l : List ValT) : Bool := decide (l.length ≤ 100000) && l.all (okT fuel)
noncomputable def QvP : TC := (.sq (.reg (rT Tryz.f233 0)) (.sq (.reg (rT Tryz.f233 1)) .rt))
def QE7 : List (RV × Option Ty) := [((.t 2), some .bool)]
def QzT : G := ⟨TYs, [], 6, EL [(219, Qha)], keeps, (fun _ _ => none), IL [], RL []⟩
def QGv (p0 : ValT) : Option (V × List VO) := br (okT fuel p0) (some (.t .bool (!(frmV p0)), [])) none
theorem e_f233 (p0 : ValT) : runF QzT QvP QE7 false [.t Qaj p0] [] = QGv p0 := by kernel_rfl
theorem QU8 : Qah Tryz.prog 233 := .inr ⟨by decide, _, Tryz.func233, by kernel_rfl, by kernel_rfl⟩
theorem QTY : GOk Tryz.prog QzT := Qal _ (gA (gC QNt QL3 gN))
theorem QSr : QvP.lok QzT := by repeat (first | exact trivial | refine ⟨?_, ?_⟩)
theorem s_f233 (x : ValT) (h : unfOk x = true) : QGv x = some (.t .bool (unfV x), []) := by
 simp only [QGv, show okT fuel x = true from h, Qac]
 rfl
def QDT : Ent := spec (.pr Qaj .nil) (fun x => (unfOk x.1)) (fun x => (.t .bool (unfV x.1)))
theorem QRl : Meets Tryz.prog 233 (strip QDT) := Qag (R := runF QzT QvP QE7 false) (mG Tryz.func233 (by kernel_rfl) Tryz.ntmps233 (by kernel_rfl) QTY QSr) fun x hok => (e_f233 x.1).trans (s_f233 x.1 hok)
def QJd (_l : List ValT) : Int := -1
def Qci : Fg := ⟨[(0, some (.sl Qaj)), (1, none), (7, some tI), (8, some tI)], []⟩
noncomputable def Qc2 : TC := (.sq (.reg (rT Tryz.f237 2)) (.sq (.cd (.t 9) .sk (.fg ⟨[], []⟩ (.ex 0))) (.sq (.bk 1 (.sq (.reg (rT Tryz.f237 3)) (.sq (.reg (rT Tryz.f237 4)) (.cd (.t 16) (.sq (.reg (rT Tryz.f237 5)) (.fg ⟨[(4, some tI)], []⟩ .rt)) .sk)))) (.reg (rT Tryz.f237 6)))))
noncomputable def QhP : TC := (.sq (.reg (rT Tryz.f237 0)) (.sq (.sq (.reg (rT Tryz.f237 1)) (.bk 0 (.lp 0 Qci Qc2))) (.sq (.reg (rT Tryz.f237 7)) .rt)))
def QoI : List (RV × Option Ty) := [((.t 4), some tI)]
abbrev Qfe : Sh := ⟨[(0, .ty (.sl Qaj)), (1, .cf 233), (7, .ty tI), (8, .ty tI)], []⟩
def Qe5 (x0 : List ValT) (x7 x8 : Int) : VS := Qfe.st (x0, (), x7, x8, ()) ()
abbrev QkA : Sh := ⟨[(4, .ty tI)], []⟩
def QbA (x4 : Int) : VS := QkA.st (x4, ()) ()
abbrev QlK : Sh := ⟨[], []⟩
def QbQ  : VS := QlK.st () ()
def QvI : VS → Option (Bool × List (Bool × Exit × VS)) := mkL Qfe (fun x y => (rngOk x.1 x.2.2.1 x.2.2.2.1 && QeG x.1)) (fun x y => [((false), .ret, QbA (x.2.2.2.1)), (true, .exit 0, QbQ)])
def Qb5 : G := ⟨TYs, [], 19, EL [(233, QDT)], keeps, (Ls [QvI]), IL [], RL []⟩
def QlH (x0 : List ValT) (x7 x8 : Int) : Option (Exit × VS) :=
 let a1 := lgt Qaj x0 (Int.toNat x8)
 br (ilt x8 x7) (br (cIx x0 x8) (br (unfOk a1) (br (unfV a1) (some (.ret, QbA x8)) (some (.normal, Qe5 x0 x7 (iadd .i64 x8 1)))) none) none) (some (.exit 0, QbQ))
noncomputable def Qdd (x0 : List ValT) (x7 x8 : Int) : Option (Exit × VS) := loopF (Qak Qb5 Qci Qc2) (Qe5 x0 x7 x8)
noncomputable def Qed (x0 : List ValT) (x7 x8 : Int) : Option (Exit × VS) :=
 let a1 := lgt Qaj x0 (Int.toNat x8)
 br (ilt x8 x7) (br (cIx x0 x8) (br (unfOk a1) (br (unfV a1) (some (.ret, QbA x8)) (Qdd x0 x7 (iadd .i64 x8 1))) none) none) (some (.exit 0, QbQ))
def Qfy (x0 : List ValT) (x7 x8 : Int) : Option (Exit × VS) := br (false) (some (.ret, QbA (x8))) <| some (.exit 0, QbQ)
theorem Qtd (x0 : List ValT) (x7 x8 : Int) : Qak Qb5 Qci Qc2 (Qe5 x0 x7 x8) = QlH x0 x7 x8 := by kernel_rfl
theorem Qjw (x0 : List ValT) (x7 x8 : Int) : Qdd x0 x7 x8 = Qed x0 x7 x8 := (Qan _ _).trans (by
 rw [Qtd]
 simp only [QlH, Qed, Qax, nxt_n, nxt_r, nxt_e, nxt_0]
 rfl)
def QkF (p0 : List ValT) : Option (V × List VO) := br (rngOk p0 (llen p0) (0 : Int) && QeG p0) (br (false) (some (.t tI (0 : Int), [])) (some (.t tI (-1), []))) none
theorem QCq (p0 : List ValT) : runF Qb5 QhP QoI false [.t (.sl Qaj) p0, .c (.func (.func 233) ⟨[]⟩ ⟨[]⟩)] [] = QkF p0 := by kernel_rfl
theorem Qyw : Qah Tryz.prog 237 := .inr ⟨by decide, _, Tryz.func237, by kernel_rfl, by kernel_rfl⟩
theorem Qyj : GOk Tryz.prog Qb5 := Qal _ (gA (gC QU8 QRl gN))
theorem Qvf (x0 : List ValT) (x7 x8 : Int) (h : (rngOk x0 x7 x8 && QeG x0) = true) : Qdd x0 x7 x8 = Qfy x0 x7 x8 := by
 simp only [Bool.and_eq_true] at h
 obtain ⟨h0, hc⟩ := h
 obtain ⟨rfl, h3, k, rfl, hk⟩ := rng_k h0
 clear h0
 simp only [QeG, Bool.and_eq_true, List.all_eq_true] at hc
 refine Qat x0 (fun k => Qdd x0 (x0.length : Int) (k : Int) = Qfy x0 (x0.length : Int) (k : Int)) ?_ ?_ k hk
 ·rw [Qjw]
  simp [Qed, Qfy, Qar, Qaf]
 ·intro k hk ih
  rw [Qjw]
  have hx := hc.2 x0[k] (List.getElem_mem hk)
  simp only [Qed, Qar, Qau, hk, decide_true, Qac, Int.toNat_natCast, add1 (show k < 4611686018427387904 by omega), Qay (y := Qaj) hk, show unfOk x0[k] = true from hx, unfV, Qaf, ih]
  rfl
theorem QsN : ∀ S l p, Qb5.L 0 (fgt Qci S) = some (true, l) → pickA l = some p → loopF (Qak Qb5 Qci Qc2) S = some p :=
 QaD (s := Qfe) ⟨by decide, by decide⟩ (by kernel_rfl) fun x y hok p hp => by
 simp only [Qap, Qam] at hp
 exact (Qvf x.1 x.2.2.1 x.2.2.2.1 (by simpa using hok)).trans hp
theorem Qx2 : QhP.lok Qb5 := by
 repeat (first | exact trivial | exact QsN | refine ⟨?_, ?_⟩)
theorem QBM (l : List ValT) (h : QeG l = true) : QkF l = some (.t tI (QJd l), []) := by
 have hl : l.length ≤ 100000 := by simp only [QeG, Bool.and_eq_true, decide_eq_true_eq] at h; exact h.1
 simp only [QkF, rng_0 hl, h, Bool.true_and, Qac, Qaf]
 rfl
def QnP : Ent := specH [.ty (.sl Qaj), .cf 233] [] (fun x d => (QeG x.1)) (fun x d => (.t tI (QJd x.1)))
theorem QxF : Meets Tryz.prog 237 (strip QnP) := (QaO (R := runF Qb5 QhP QoI false) (mG Tryz.func237 (by kernel_rfl) Tryz.ntmps237 (by kernel_rfl) Qyj Qx2) fun x d hok => (QCq x.1).trans (QBM x.1 hok))
def QLf (_l : List ValT) : Bool := false
noncomputable def QhQ : TC := (.sq (.reg (rT Tryz.f232 0)) (.sq (.reg (rT Tryz.f232 1)) .rt))
def QoJ : List (RV × Option Ty) := [((.t 4), some .bool)]
def Qht : G := ⟨TYs, [], 9, EL [(237, QnP)], keeps, (fun _ _ => none), IL [], RL []⟩
def QkG (p0 : List ValT) : Option (V × List VO) := br (QeG p0) (some (.t .bool (ige (QJd p0) 0), [])) none
theorem QCr (p0 : List ValT) : runF Qht QhQ QoJ false [.t (.sl Qaj) p0, .c (.func (.func 233) ⟨[]⟩ ⟨[]⟩)] [] = QkG p0 := by kernel_rfl
theorem Qyx : Qah Tryz.prog 232 := .inr ⟨by decide, _, Tryz.func232, by kernel_rfl, by kernel_rfl⟩
theorem Qyk : GOk Tryz.prog Qht := Qal _ (gA (gC Qyw QxF gN))
theorem Qx3 : QhQ.lok Qht := by repeat (first | exact trivial | refine ⟨?_, ?_⟩)
theorem QBN (l : List ValT) (h : QeG l = true) : QkG l = some (.t .bool (QLf l), []) := by
 simp only [QkG, h, Qac]
 rfl
def QnQ : Ent := specH [.ty (.sl Qaj), .cf 233] [] (fun x d => (QeG x.1)) (fun x d => (.t .bool (QLf x.1)))
theorem QxG : Meets Tryz.prog 232 (strip QnQ) := (QaO (R := runF Qht QhQ QoJ false) (mG Tryz.func232 (by kernel_rfl) Tryz.ntmps232 (by kernel_rfl) Qyk Qx3) fun x d hok => (QCr x.1).trans (QBN x.1 hok))
noncomputable def QvY : TC := (.sq (.reg (rT Tryz.f219 0)) (.sq (.sq (.reg (rT Tryz.f219 1)) (.cd (.t 36) (.sq (.reg (rT Tryz.f219 2)) .rt) .sk)) (.sq (.reg (rT Tryz.f219 3)) .rt)))
def QFg : List (RV × Option Ty) := [((.t 2), some .bool)]
def Qz0 : G := ⟨TYs, [], 41, EL [(231, QDU), (232, QnQ)], keeps, (fun _ _ => none), IL [], RL []⟩
def Qsh (p0 : ValT) : Option (V × List VO) :=
 let a1 := List.map Val.un p0.2.2.2.1
 br (QeG a1) (some (.t .bool (!(QLf a1)), [])) none
def QoU (p0 : ValT) : Option (V × List VO) := br (!p0.2.2.1) (br (igt (llen (List.map Val.un p0.2.2.2.1)) 0) (some (.t .bool false, [])) (Qsh p0)) (Qsh p0)
def QGD (p0 : ValT) : Option (V × List VO) := br (!(tagB p0.1)) (some (.t .bool false, [])) (br (bneq p0.2.2.1 (ine (iband .i64 p0.1 32) 0)) (some (.t .bool false, [])) (br (p0.2.2.1) (br (igt (llen p0.2.1) 0) (some (.t .bool false, [])) (QoU p0)) (QoU p0)))
theorem e_f219 (p0 : ValT) : runF Qz0 QvY QFg false [.t Qaj p0] [] = QGD p0 := by kernel_rfl
theorem QT7 : GOk Tryz.prog Qz0 := Qal _ (gA (gC QU9 QRm (gC Qyx QxG gN)))
theorem QSA : QvY.lok Qz0 := by repeat (first | exact trivial | refine ⟨?_, ?_⟩)
theorem s_f219 (x : ValT) (h : okT (fuel + 1) x = true) : QGD x = some (.t .bool (frmV x), []) := by
 obtain ⟨h1, h2, h3, h4, h5, h6, h7⟩ := QcC h
 have hu : QeG (List.map Val.un x.2.2.2.1) = true := by
  simp only [QeG, Bool.and_eq_true, decide_eq_true_eq, List.length_map, List.all_eq_true, List.mem_map]
  refine ⟨h6, ?_⟩
  rintro y ⟨v, hv, rfl⟩
  rw [Quw]
  exact h7 v hv
 have ht : tagB x.1 = true := by rcases h1 with e | e | e | e <;> rw [e] <;> rfl
 have hn : bneq x.2.2.1 (ine (iband .i64 x.1 32) 0) = false := by rw [h2]; rcases h1 with e | e | e | e <;> rw [e] <;> rfl
 simp only [QGD, QoU, Qsh, ht, hn, hu, Bool.not_true, Qac, Qaf]
 cases hq : x.2.2.1 with
 | true =>
  rw [h3 hq]
  rfl
 | false =>
  rw [h4 hq]
  rfl
theorem QSi : Meets Tryz.prog 219 (runF Qz0 QvY QFg false) := mG Tryz.func219 (by kernel_rfl) Tryz.ntmps219 (by kernel_rfl) QT7 QSA
end
theorem Qi3 : ∀ N : Nat, Meets Tryz.prog 219 (strip (@Qha ⟨N⟩))
 | 0 => Qb1 fun x => by first | rfl | simp [okT]
 | N + 1 => by
  letI : Fuel := ⟨N⟩
  haveI : Nonempty (PLift (Meets Tryz.prog 219 (strip Qha))) := ⟨⟨Qi3 N⟩⟩
  exact Qag QSi fun x hok => (e_f219 x.1).trans (s_f219 x.1 hok)
def QD0 : Ent := spec (.pr Qaj .nil) (fun x => (frmOk x.1)) (fun x => (.t .bool (frmV x.1)))
theorem QRs : Meets Tryz.prog 219 (strip QD0) := Qb2 Qi3 fun x hok => QpJ x.1 hok
theorem QJH : Qah Tryz.prog 182 := .inr ⟨by decide, _, Tryz.func182, by kernel_rfl, by kernel_rfl⟩
def Qhe [Fuel] : Ent := spec (.pr Qaj .nil) (fun x => (okT fuel x.1)) (fun x => (.t .bool (frmV x.1)))
theorem QNx : Qah Tryz.prog 182 := QJH
section
variable [Fuel] [Nonempty (PLift (Meets Tryz.prog 182 (strip Qhe)))]
theorem QL7 : Meets Tryz.prog 182 (strip Qhe) := (Classical.choice (inferInstance : Nonempty (PLift (Meets Tryz.prog 182 (strip Qhe))))).down
def frmIn [Fuel] (x : ValT) : Bool := okT (fuel + 1) x
def QgL : Fg := ⟨[(1, none), (3, some tI)], [(1, some Qaj)]⟩
noncomputable def Qix : TC := (.sq (.sq (.reg (rT Tryz.f182 4)) (.cd (.t 43) .sk (.fg ⟨[], []⟩ (.ex 0)))) (.sq (.bk 1 (.sq (.reg (rT Tryz.f182 5)) (.cd (.t 52) (.sq (.reg (rT Tryz.f182 6)) (.fg ⟨[(2, some .bool)], []⟩ .rt)) .sk))) (.reg (rT Tryz.f182 7))))
noncomputable def Qwf : TC := (.sq (.reg (rT Tryz.f182 0)) (.sq (.sq (.reg (rT Tryz.f182 1)) (.cd (.t 38) (.sq (.reg (rT Tryz.f182 2)) .rt) .sk)) (.sq (.sq (.reg (rT Tryz.f182 3)) (.bk 0 (.lp 0 QgL Qix))) (.sq (.reg (rT Tryz.f182 8)) .rt))))
def QFx : List (RV × Option Ty) := [((.t 2), some .bool)]
abbrev Qoi : Sh := ⟨[(1, .ptr 1 0), (3, .ty tI)], [(1, .box Qaj)]⟩
def QnC (x3 : Int) (y1 : ValT) : VS := Qoi.st ((), x3, ()) (y1, ())
abbrev QrK : Sh := ⟨[(2, .ty .bool)], []⟩
def Qc6 (x2 : Bool) : VS := QrK.st (x2, ()) ()
abbrev QtZ : Sh := ⟨[], []⟩
def QdS  : VS := QtZ.st () ()
def QOE : VS → Option (Bool × List (Bool × Exit × VS)) := mkL Qoi (fun x y => (decide (0 ≤ x.2.1 ∧ x.2.1 ≤ y.1.2.2.2.1.length) && frmIn y.1)) (fun x y => [((false), .ret, Qc6 (false)), (true, .exit 0, QdS)])
def Qlp : G := ⟨TYs, [], 53, EL [(182, Qhe), (210, QD3)], keeps, (Ls [QOE]), IL [], RL []⟩
def QBd (x3 : Int) (y1 : ValT) : Option (Exit × VS) :=
 let a1 := List.map Val.un y1.2.2.2.1
 let a2 := lgt Qaj a1 (Int.toNat x3)
 br (ilt x3 (llen a1)) (br (cIx a1 x3) (br (okT fuel a2) (br (!(frmV a2)) (some (.ret, Qc6 false)) (some (.normal, QnC (iadd .i64 x3 1) y1))) none) none) (some (.exit 0, QdS))
noncomputable def Qji (x3 : Int) (y1 : ValT) : Option (Exit × VS) := loopF (Qak Qlp QgL Qix) (QnC x3 y1)
noncomputable def Qmv (x3 : Int) (y1 : ValT) : Option (Exit × VS) :=
 let a1 := List.map Val.un y1.2.2.2.1
 let a2 := lgt Qaj a1 (Int.toNat x3)
 br (ilt x3 (llen a1)) (br (cIx a1 x3) (br (okT fuel a2) (br (!(frmV a2)) (some (.ret, Qc6 false)) (Qji (iadd .i64 x3 1) y1)) none) none) (some (.exit 0, QdS))
def Qpz (x3 : Int) (y1 : ValT) : Option (Exit × VS) := br (false) (some (.ret, Qc6 (false))) <| some (.exit 0, QdS)
theorem QKE (x3 : Int) (y1 : ValT) : Qak Qlp QgL Qix (QnC x3 y1) = QBd x3 y1 := by kernel_rfl
theorem QuW (x3 : Int) (y1 : ValT) : Qji x3 y1 = Qmv x3 y1 := (Qan _ _).trans (by
 rw [QKE]
 simp only [QBd, Qmv, Qax, nxt_n, nxt_r, nxt_e, nxt_0]
 rfl)
def Qsj (p0 : ValT) : Option (V × List VO) := br (decide (0 ≤ (0 : Int) ∧ (0 : Int) ≤ p0.2.2.2.1.length) && frmIn p0) (br (false) (some (.t .bool (false), [])) (some (.t .bool true, []))) none
def Qsk (p0 : ValT) : Option (V × List VO) := br (!p0.2.2.1) (br (igt (llen (List.map Val.un p0.2.2.2.1)) 0) (some (.t .bool false, [])) (Qsj p0)) (Qsj p0)
def QGS (p0 : ValT) : Option (V × List VO) := br (!(tagR p0.1)) (some (.t .bool false, [])) (br (cNz 32) (br (cNz 2) (br (bneq p0.2.2.1 (ieq (irem (iquo .i64 p0.1 32) 2) 1)) (some (.t .bool false, [])) (br (p0.2.2.1) (br (igt (llen p0.2.1) 0) (some (.t .bool false, [])) (Qsk p0)) (Qsk p0))) none) none)
theorem e_f182 (p0 : ValT) : runF Qlp Qwf QFx false [.t Qaj p0] [] = QGS p0 := by kernel_rfl
theorem QUo : GOk Tryz.prog Qlp := Qal _ (gA (gC QNx QL7 (gC QVf QRv gN)))
theorem QMN (x3 : Int) (y1 : ValT) (h : (decide (0 ≤ x3 ∧ x3 ≤ y1.2.2.2.1.length) && frmIn y1) = true) : Qji x3 y1 = Qpz x3 y1 := by
 simp only [Bool.and_eq_true, decide_eq_true_eq] at h
 obtain ⟨⟨h0, h1⟩, hc⟩ := h
 obtain ⟨k, rfl⟩ := Int.eq_ofNat_of_zero_le h0
 have hm := Qxy hc
 have hl := (QcC hc).2.2.2.2.2.1
 refine Qat (List.map Val.un y1.2.2.2.1) (fun k => Qji (k : Int) y1 = Qpz (k : Int) y1) ?_ ?_ k (by rw [List.length_map]; omega)
 ·rw [QuW]
  simp [Qmv, Qpz, ilt, llen, Qaf]
 ·intro k hk ih
  rw [QuW]
  have hk2 : k < y1.2.2.2.1.length := by rw [List.length_map] at hk; exact hk
  simp only [Qmv, show ilt (k : Int) (llen (List.map Val.un y1.2.2.2.1)) = true from decide_eq_true (by simp only [llen]; omega), Qau, hk, decide_true, Qac, Int.toNat_natCast, add1 (show k < 4611686018427387904 by omega), Qay (y := Qaj) hk, hm k hk, frmV, Bool.not_true, Qaf, ih]
  rfl
theorem QIk : ∀ S l p, Qlp.L 0 (fgt QgL S) = some (true, l) → pickA l = some p → loopF (Qak Qlp QgL Qix) S = some p :=
 QaD (s := Qoi) ⟨by decide, by decide⟩ (by kernel_rfl) fun x y hok p hp => by
 simp only [Qap, Qam] at hp
 exact (QMN x.2.1 y.1 (by simpa using hok)).trans hp
theorem QSR : Qwf.lok Qlp := by
 repeat (first | exact trivial | exact QIk | refine ⟨?_, ?_⟩)
theorem s_f182 (x : ValT) (h : okT (fuel + 1) x = true) : QGS x = some (.t .bool (frmV x), []) := by
 obtain ⟨h1, h2, h3, h4, h5, h6, h7⟩ := QcC h
 have ht : tagR x.1 = true := by rcases h1 with e | e | e | e <;> rw [e] <;> rfl
 have hn : bneq x.2.2.1 (ieq (irem (iquo .i64 x.1 32) 2) 1) = false := by rw [h2]; rcases h1 with e | e | e | e <;> rw [e] <;> rfl
 have hd : decide ((0 : Int) ≤ 0 ∧ (0 : Int) ≤ x.2.2.2.1.length) = true := decide_eq_true (by omega)
 simp only [QGS, Qsk, Qsj, ht, hn, hd, show frmIn x = true from h, Bool.and_self, show cNz 32 = true from rfl, show cNz 2 = true from rfl, Bool.not_true, Qac, Qaf]
 cases hq : x.2.2.1 with
 | true =>
  rw [h3 hq]
  rfl
 | false =>
  rw [h4 hq]
  rfl
theorem QSm : Meets Tryz.prog 182 (runF Qlp Qwf QFx false) := mG Tryz.func182 (by kernel_rfl) Tryz.ntmps182 (by kernel_rfl) QUo QSR
end
theorem Qgp : ∀ N : Nat, Meets Tryz.prog 182 (strip (@Qhe ⟨N⟩))
 | 0 => Qb1 fun x => by first | rfl | simp [okT]
 | N + 1 => by
  letI : Fuel := ⟨N⟩
  haveI : Nonempty (PLift (Meets Tryz.prog 182 (strip Qhe))) := ⟨⟨Qgp N⟩⟩
  exact Qag QSm fun x hok => (e_f182 x.1).trans (s_f182 x.1 hok)
def QEf : Ent := spec (.pr Qaj .nil) (fun x => (frmOk x.1)) (fun x => (.t .bool (frmV x.1)))
theorem QRH : Meets Tryz.prog 182 (strip QEf) := Qb2 Qgp fun x hok => QkT x.1 hok
def dpV (x : ValT) : Int := (depV (Val.of x) : Int)
def depLF (n : Nat) (x : ValT) : Bool := okT n x && decide (n ≤ 100)
def dpOk (x : ValT) : Bool := okT 12 x
theorem Qqt (x : ValT) (h : dpOk x = true) : ∃ N, depLF N x = true := ⟨12, by rw [depLF, show okT 12 x = true from h]; rfl⟩
theorem QlR (x : ValT) (h : dpOk x = true) : ∃ N, depLF N x = true := ⟨12, by rw [depLF, show okT 12 x = true from h]; rfl⟩
def depL (l : List ValT) : Nat := depVs (l.map Val.of)
theorem QAQ : depL [] = 0 := rfl
theorem Qvt (x : ValT) (l : List ValT) : depL (x :: l) = max (depV (Val.of x)) (depL l) := rfl
theorem Qs8 (x : ValT) : depV (Val.of x) = depVs x.2.2.2.1 + 1 := rfl
theorem QI0 (a b : Nat) : imx (a : Int) (b : Int) = ((max a b : Nat) : Int) := by
 unfold imx
 split <;> omega
theorem QJA : Qah Tryz.prog 220 := .inr ⟨by decide, _, Tryz.func220, by kernel_rfl, by kernel_rfl⟩
def Qg9 [Fuel] : Ent := spec (.pr Qaj .nil) (fun x => (depLF fuel x.1)) (fun x => (.t tI (dpV x.1)))
theorem QNs : Qah Tryz.prog 220 := QJA
section
variable [Fuel] [Nonempty (PLift (Meets Tryz.prog 220 (strip Qg9)))]
theorem QL2 : Meets Tryz.prog 220 (strip Qg9) := (Classical.choice (inferInstance : Nonempty (PLift (Meets Tryz.prog 220 (strip Qg9))))).down
def depIn [Fuel] (l : List ValT) : Bool := decide (l.length ≤ 100000 ∧ fuel + 1 ≤ 100) && l.all (okT fuel)
def QgD : Fg := ⟨[(3, some tI), (7, some (.sl Qaj)), (8, some tI), (9, some tI)], []⟩
noncomputable def Qip : TC := (.sq (.reg (rT Tryz.f220 3)) (.sq (.cd (.t 10) .sk (.fg ⟨[(3, some tI)], []⟩ (.ex 0))) (.sq (.bk 1 (.sq (.reg (rT Tryz.f220 4)) (.reg (rT Tryz.f220 5)))) (.reg (rT Tryz.f220 6)))))
noncomputable def QvX : TC := (.sq (.reg (rT Tryz.f220 0)) (.sq (.reg (rT Tryz.f220 1)) (.sq (.sq (.reg (rT Tryz.f220 2)) (.bk 0 (.lp 0 QgD Qip))) (.sq (.reg (rT Tryz.f220 7)) .rt))))
def QFf : List (RV × Option Ty) := [((.t 2), some tI)]
abbrev Qn9 : Sh := ⟨[(3, .ty tI), (7, .ty (.sl Qaj)), (8, .ty tI), (9, .ty tI)], []⟩
def Qnu (x3 : Int) (x7 : List ValT) (x8 x9 : Int) : VS := Qn9.st (x3, x7, x8, x9, ()) ()
abbrev QtR : Sh := ⟨[(3, .ty tI)], []⟩
def QdL (x3 : Int) : VS := QtR.st (x3, ()) ()
def QOw : VS → Option (Bool × List (Bool × Exit × VS)) := mkL Qn9 (fun x y => (rngOk x.2.1 x.2.2.1 x.2.2.2.1 && depIn x.2.1 && decide (0 ≤ x.1 ∧ x.1 ≤ 100))) (fun x y => [(true, .exit 0, QdL ((max x.1.toNat (depL (x.2.1.drop x.2.2.2.1.toNat)) : Nat) : Int))])
def Qlh : G := ⟨TYs, [], 20, EL [(220, Qg9)], keeps, (Ls [QOw]), IL [], RL []⟩
def QA5 (x3 : Int) (x7 : List ValT) (x8 x9 : Int) : Option (Exit × VS) :=
 let a1 := lgt Qaj x7 (Int.toNat x9)
 br (ilt x9 x8) (br (cIx x7 x9) (br (depLF fuel a1) (some (.normal, Qnu (imx x3 (dpV a1)) x7 x8 (iadd .i64 x9 1))) none) none) (some (.exit 0, QdL x3))
noncomputable def Qja (x3 : Int) (x7 : List ValT) (x8 x9 : Int) : Option (Exit × VS) := loopF (Qak Qlh QgD Qip) (Qnu x3 x7 x8 x9)
noncomputable def Qmp (x3 : Int) (x7 : List ValT) (x8 x9 : Int) : Option (Exit × VS) :=
 let a1 := lgt Qaj x7 (Int.toNat x9)
 br (ilt x9 x8) (br (cIx x7 x9) (br (depLF fuel a1) (Qja (imx x3 (dpV a1)) x7 x8 (iadd .i64 x9 1)) none) none) (some (.exit 0, QdL x3))
def QjD (x3 : Int) (x7 : List ValT) (x8 x9 : Int) : Option (Exit × VS) := some (.exit 0, QdL ((max x3.toNat (depL (x7.drop x9.toNat)) : Nat) : Int))
theorem QKw (x3 : Int) (x7 : List ValT) (x8 x9 : Int) : Qak Qlh QgD Qip (Qnu x3 x7 x8 x9) = QA5 x3 x7 x8 x9 := by kernel_rfl
theorem QuP (x3 : Int) (x7 : List ValT) (x8 x9 : Int) : Qja x3 x7 x8 x9 = Qmp x3 x7 x8 x9 := (Qan _ _).trans (by
 rw [QKw]
 simp only [QA5, Qmp, Qax, nxt_n, nxt_r, nxt_e, nxt_0]
 rfl)
def QGC (p0 : ValT) : Option (V × List VO) :=
 let a1 := List.map Val.un p0.2.2.2.1
 br (rngOk a1 (llen a1) (0 : Int) && depIn a1 && decide (0 ≤ (0 : Int) ∧ (0 : Int) ≤ 100)) (some (.t tI (iadd .i64 ((max (0 : Int).toNat (depL (a1.drop (0 : Int).toNat)) : Nat) : Int) 1), [])) none
theorem e_f220 (p0 : ValT) : runF Qlh QvX QFf false [.t Qaj p0] [] = QGC p0 := by kernel_rfl
theorem QT6 : GOk Tryz.prog Qlh := Qal _ (gA (gC QNs QL2 gN))
theorem QMF (x3 : Int) (x7 : List ValT) (x8 x9 : Int) (h : (rngOk x7 x8 x9 && depIn x7 && decide (0 ≤ x3 ∧ x3 ≤ 100)) = true) : Qja x3 x7 x8 x9 = QjD x3 x7 x8 x9 := by
 simp only [Bool.and_eq_true, decide_eq_true_eq] at h
 obtain ⟨⟨h0, hc⟩, h1, h2⟩ := h
 obtain ⟨rfl, h3, k, rfl, hk⟩ := rng_k h0
 clear h0
 obtain ⟨m, rfl⟩ := Int.eq_ofNat_of_zero_le h1
 clear h1 h2
 simp only [depIn, Bool.and_eq_true, List.all_eq_true, decide_eq_true_eq] at hc
 obtain ⟨⟨hc0, hc1⟩, hc2⟩ := hc
 revert m
 refine Qat x7 (fun k => ∀ m : Nat, Qja (m : Int) x7 (x7.length : Int) (k : Int) = QjD (m : Int) x7 (x7.length : Int) (k : Int)) ?_ ?_ k hk
 ·intro m
  rw [QuP]
  simp [Qmp, QjD, Qar, Qaf, QAQ]
 ·intro k hk ih m
  rw [QuP]
  have hx := hc2 x7[k] (List.getElem_mem hk)
  have hd : depLF fuel x7[k] = true := by rw [depLF, hx, decide_eq_true (by omega)]; rfl
  simp only [Qmp, Qar, Qau, hk, decide_true, Qac, Int.toNat_natCast, add1 (show k < 4611686018427387904 by omega), Qay (y := Qaj) hk, hd, dpV, QI0, ih]
  simp only [QjD, Int.toNat_natCast, List.drop_eq_getElem_cons hk, Qvt, Nat.max_assoc]
theorem QIc : ∀ S l p, Qlh.L 0 (fgt QgD S) = some (true, l) → pickA l = some p → loopF (Qak Qlh QgD Qip) S = some p :=
 QaD (s := Qn9) ⟨by decide, by decide⟩ (by kernel_rfl) fun x y hok p hp => by
 simp only [Qap, Qam] at hp
 exact (QMF x.1 x.2.1 x.2.2.1 x.2.2.2.1 (by simpa using hok)).trans hp
theorem QSz : QvX.lok Qlh := by
 repeat (first | exact trivial | exact QIc | refine ⟨?_, ?_⟩)
theorem s_f220 (x : ValT) (h : depLF (fuel + 1) x = true) : QGC x = some (.t tI (dpV x), []) := by
 simp only [depLF, Bool.and_eq_true, decide_eq_true_eq] at h
 obtain ⟨h, hf⟩ := h
 obtain ⟨h1, h2, h3, h4, h5, h6, h7⟩ := QcC h
 have hu : depIn (List.map Val.un x.2.2.2.1) = true := by
  simp only [depIn, Bool.and_eq_true, decide_eq_true_eq, List.length_map, List.all_eq_true, List.mem_map]
  refine ⟨⟨h6, hf⟩, ?_⟩
  rintro y ⟨v, hv, rfl⟩
  rw [Quw]
  exact h7 v hv
 have hd := Qss (v := Val.of x) h
 rw [Qs8] at hd
 simp only [QGC, rng_0 (show (List.map Val.un x.2.2.2.1).length ≤ 100000 by rw [List.length_map]; exact h6), hu, Bool.and_self, show decide ((0 : Int) ≤ 0 ∧ (0 : Int) ≤ 100) = true from rfl, Qac, Int.toNat_zero, List.drop_zero, depL, QcJ, Nat.zero_max]
 rw [Qbc (by omega)]
 simp only [dpV, Qs8]
 congr 2
theorem QSh : Meets Tryz.prog 220 (runF Qlh QvX QFf false) := mG Tryz.func220 (by kernel_rfl) Tryz.ntmps220 (by kernel_rfl) QT6 QSz
end
theorem Qk8 : ∀ N : Nat, Meets Tryz.prog 220 (strip (@Qg9 ⟨N⟩))
 | 0 => Qb1 fun x => by first | rfl | simp [depLF]
 | N + 1 => by
  letI : Fuel := ⟨N⟩
  haveI : Nonempty (PLift (Meets Tryz.prog 220 (strip Qg9))) := ⟨⟨Qk8 N⟩⟩
  exact Qag QSh fun x hok => (e_f220 x.1).trans (s_f220 x.1 hok)
def QDZ : Ent := spec (.pr Qaj .nil) (fun x => (dpOk x.1)) (fun x => (.t tI (dpV x.1)))
theorem QRr : Meets Tryz.prog 220 (strip QDZ) := Qb2 Qk8 fun x hok => Qqt x.1 hok
theorem QJG : Qah Tryz.prog 183 := .inr ⟨by decide, _, Tryz.func183, by kernel_rfl, by kernel_rfl⟩
def Qhd [Fuel] : Ent := spec (.pr Qaj .nil) (fun x => (depLF fuel x.1)) (fun x => (.t tI (dpV x.1)))
theorem QNw : Qah Tryz.prog 183 := QJG
section
variable [Fuel] [Nonempty (PLift (Meets Tryz.prog 183 (strip Qhd)))]
theorem QL6 : Meets Tryz.prog 183 (strip Qhd) := (Classical.choice (inferInstance : Nonempty (PLift (Meets Tryz.prog 183 (strip Qhd))))).down
def Qvu [Fuel] (x : ValT) : Bool := depLF (fuel + 1) x
def QgK : Fg := ⟨[(1, none), (3, some tI), (4, some tI)], [(1, some Qaj)]⟩
noncomputable def Qiw : TC := (.sq (.sq (.reg (rT Tryz.f183 3)) (.cd (.t 9) .sk (.fg ⟨[(3, some tI)], []⟩ (.ex 0)))) (.sq (.bk 1 (.reg (rT Tryz.f183 4))) (.reg (rT Tryz.f183 5))))
noncomputable def Qwe : TC := (.sq (.reg (rT Tryz.f183 0)) (.sq (.reg (rT Tryz.f183 1)) (.sq (.sq (.reg (rT Tryz.f183 2)) (.bk 0 (.lp 0 QgK Qiw))) (.sq (.reg (rT Tryz.f183 6)) .rt))))
def QFw : List (RV × Option Ty) := [((.t 2), some tI)]
abbrev Qoh : Sh := ⟨[(1, .ptr 1 0), (3, .ty tI), (4, .ty tI)], [(1, .box Qaj)]⟩
def QnB (x3 x4 : Int) (y1 : ValT) : VS := Qoh.st ((), x3, x4, ()) (y1, ())
abbrev QtY : Sh := ⟨[(3, .ty tI)], []⟩
def QdR (x3 : Int) : VS := QtY.st (x3, ()) ()
def QOD : VS → Option (Bool × List (Bool × Exit × VS)) := mkL Qoh (fun x y => (decide (0 ≤ x.2.2.1 ∧ x.2.2.1 ≤ y.1.2.2.2.1.length ∧ 0 ≤ x.2.1 ∧ x.2.1 ≤ 100) && Qvu y.1)) (fun x y => [(true, .exit 0, QdR ((max x.2.1.toNat (depL ((List.map Val.un y.1.2.2.2.1).drop x.2.2.1.toNat)) : Nat) : Int))])
def Qlo : G := ⟨TYs, [], 22, EL [(183, Qhd)], keeps, (Ls [QOD]), IL [], RL []⟩
def QBc (x3 x4 : Int) (y1 : ValT) : Option (Exit × VS) :=
 let a1 := List.map Val.un y1.2.2.2.1
 let a2 := lgt Qaj a1 (Int.toNat x4)
 br (ilt x4 (llen a1)) (br (cIx a1 x4) (br (depLF fuel a2) (some (.normal, QnB (imx x3 (dpV a2)) (iadd .i64 x4 1) y1)) none) none) (some (.exit 0, QdR x3))
noncomputable def Qjh (x3 x4 : Int) (y1 : ValT) : Option (Exit × VS) := loopF (Qak Qlo QgK Qiw) (QnB x3 x4 y1)
noncomputable def Qmu (x3 x4 : Int) (y1 : ValT) : Option (Exit × VS) :=
 let a1 := List.map Val.un y1.2.2.2.1
 let a2 := lgt Qaj a1 (Int.toNat x4)
 br (ilt x4 (llen a1)) (br (cIx a1 x4) (br (depLF fuel a2) (Qjh (imx x3 (dpV a2)) (iadd .i64 x4 1) y1) none) none) (some (.exit 0, QdR x3))
def QjI (x3 x4 : Int) (y1 : ValT) : Option (Exit × VS) := some (.exit 0, QdR ((max x3.toNat (depL ((List.map Val.un y1.2.2.2.1).drop x4.toNat)) : Nat) : Int))
theorem QKD (x3 x4 : Int) (y1 : ValT) : Qak Qlo QgK Qiw (QnB x3 x4 y1) = QBc x3 x4 y1 := by kernel_rfl
theorem QuV (x3 x4 : Int) (y1 : ValT) : Qjh x3 x4 y1 = Qmu x3 x4 y1 := (Qan _ _).trans (by
 rw [QKD]
 simp only [QBc, Qmu, Qax, nxt_n, nxt_r, nxt_e, nxt_0]
 rfl)
def QGR (p0 : ValT) : Option (V × List VO) := br (decide (0 ≤ (0 : Int) ∧ (0 : Int) ≤ p0.2.2.2.1.length ∧ 0 ≤ (0 : Int) ∧ (0 : Int) ≤ 100) && Qvu p0) (some (.t tI (iadd .i64 ((max (0 : Int).toNat (depL ((List.map Val.un p0.2.2.2.1).drop (0 : Int).toNat)) : Nat) : Int) 1), [])) none
theorem e_f183 (p0 : ValT) : runF Qlo Qwe QFw false [.t Qaj p0] [] = QGR p0 := by kernel_rfl
theorem QUn : GOk Tryz.prog Qlo := Qal _ (gA (gC QNw QL6 gN))
theorem QMM (x3 x4 : Int) (y1 : ValT) (h : (decide (0 ≤ x4 ∧ x4 ≤ y1.2.2.2.1.length ∧ 0 ≤ x3 ∧ x3 ≤ 100) && Qvu y1) = true) : Qjh x3 x4 y1 = QjI x3 x4 y1 := by
 simp only [Bool.and_eq_true, decide_eq_true_eq] at h
 obtain ⟨⟨h0, h1, h2, h3⟩, hc⟩ := h
 obtain ⟨k, rfl⟩ := Int.eq_ofNat_of_zero_le h0
 obtain ⟨m, rfl⟩ := Int.eq_ofNat_of_zero_le h2
 clear h2 h3
 simp only [Qvu, depLF, Bool.and_eq_true, decide_eq_true_eq] at hc
 obtain ⟨hc, hf⟩ := hc
 have hm := Qxy hc
 have hl := (QcC hc).2.2.2.2.2.1
 revert m
 refine Qat (List.map Val.un y1.2.2.2.1) (fun k => ∀ m : Nat, Qjh (m : Int) (k : Int) y1 = QjI (m : Int) (k : Int) y1) ?_ ?_ k (by rw [List.length_map]; omega)
 ·intro m
  rw [QuV]
  simp only [Qmu, show ilt ((List.map Val.un y1.2.2.2.1).length : Int) (llen (List.map Val.un y1.2.2.2.1)) = false from decide_eq_false (by simp only [llen]; omega), Qaf]
  simp only [QjI, Int.toNat_natCast, List.drop_length, QAQ, Nat.max_zero]
 ·intro k hk ih m
  rw [QuV]
  have hk2 : k < y1.2.2.2.1.length := by rw [List.length_map] at hk; exact hk
  have hd : depLF fuel (List.map Val.un y1.2.2.2.1)[k] = true := by rw [depLF, hm k hk, decide_eq_true (by omega)]; rfl
  simp only [Qmu, show ilt (k : Int) (llen (List.map Val.un y1.2.2.2.1)) = true from decide_eq_true (by simp only [llen]; omega), Qau, hk, decide_true, Qac, Int.toNat_natCast, add1 (show k < 4611686018427387904 by omega), Qay (y := Qaj) hk, hd, dpV, QI0, ih]
  simp only [QjI, Int.toNat_natCast, List.drop_eq_getElem_cons hk, Qvt, Nat.max_assoc]
theorem QIj : ∀ S l p, Qlo.L 0 (fgt QgK S) = some (true, l) → pickA l = some p → loopF (Qak Qlo QgK Qiw) S = some p :=
 QaD (s := Qoh) ⟨by decide, by decide⟩ (by kernel_rfl) fun x y hok p hp => by
 simp only [Qap, Qam] at hp
 exact (QMM x.2.1 x.2.2.1 y.1 (by simpa using hok)).trans hp
theorem QSQ : Qwe.lok Qlo := by
 repeat (first | exact trivial | exact QIj | refine ⟨?_, ?_⟩)
theorem s_f183 (x : ValT) (h : depLF (fuel + 1) x = true) : QGR x = some (.t tI (dpV x), []) := by
 have hin : Qvu x = true := h
 simp only [depLF, Bool.and_eq_true, decide_eq_true_eq] at h
 obtain ⟨h, hf⟩ := h
 have hd := Qss (v := Val.of x) h
 rw [Qs8] at hd
 have hdd : decide ((0 : Int) ≤ 0 ∧ (0 : Int) ≤ x.2.2.2.1.length ∧ (0 : Int) ≤ 0 ∧ (0 : Int) ≤ 100) = true := decide_eq_true (by omega)
 simp only [QGR, hin, hdd, Bool.and_self, Qac, Int.toNat_zero, List.drop_zero, depL, QcJ, Nat.zero_max]
 rw [Qbc (by omega)]
 simp only [dpV, Qs8]
 congr 2
theorem QSl : Meets Tryz.prog 183 (runF Qlo Qwe QFw false) := mG Tryz.func183 (by kernel_rfl) Tryz.ntmps183 (by kernel_rfl) QUn QSQ
end
theorem QhK : ∀ N : Nat, Meets Tryz.prog 183 (strip (@Qhd ⟨N⟩))
 | 0 => Qb1 fun x => by first | rfl | simp [depLF]
 | N + 1 => by
  letI : Fuel := ⟨N⟩
  haveI : Nonempty (PLift (Meets Tryz.prog 183 (strip Qhd))) := ⟨⟨QhK N⟩⟩
  exact Qag QSl fun x hok => (e_f183 x.1).trans (s_f183 x.1 hok)
def QEe : Ent := spec (.pr Qaj .nil) (fun x => (dpOk x.1)) (fun x => (.t tI (dpV x.1)))
theorem QRG : Meets Tryz.prog 183 (strip QEe) := Qb2 QhK fun x hok => QlR x.1 hok
end
end Go.Proofs.YtckcgijklnloiaaGreat.K
set_option linter.unusedSectionVars false
namespace Go.Proofs.YtckcgijklnloiaaGreat.K
open Go.RowKit
noncomputable section
def encT (x : ValT) : List Int := encV (Val.of x)
def encL (l : List ValT) : List Int := encVs (l.map Val.of)
theorem QhB : encL [] = [] := rfl
theorem Qck (x : ValT) (l : List ValT) : encL (x :: l) = encT x ++ encL l := rfl
theorem QpT (x : ValT) : encT x = icv .u8 x.1 :: (lenL (x.2.1.length + (encVs x.2.2.2.1).length) ++ (x.2.1 ++ encVs x.2.2.2.1)) := rfl
theorem QpS (x : ValT) : x.2.1.length + (encVs x.2.2.2.1).length ≤ (encT x).length := QNn x.1 x.2.1 x.2.2.1 x.2.2.2.1
theorem QkX : ∀ (l : List ValT) (k : Nat) (hk : k < l.length), (encL (l.take k)).length + (encT l[k]).length ≤ (encL l).length
 | [], k, hk => by simp at hk
 | x :: l, 0, _ => by
  rw [List.take_zero, QhB, Qck, List.length_append]
  simp
 | x :: l, k + 1, hk => by
  simp only [List.length_cons] at hk
  have := QkX l k (by omega)
  simp only [List.take_succ_cons, Qck, List.length_append, List.getElem_cons_succ]
  omega
theorem Qhp (n : Nat) : (lenL n).length ≤ 9 := by
 unfold lenL
 split
 ·simp
 ·rw [List.length_cons, Qs7]
  have := Qs9 8 n
  omega
def encLF (n : Nat) (x : ValT) : Bool := okT n x && decide ((encT x).length ≤ 100000000)
def encOk (x : ValT) : Bool := okT 12 x && decide ((encT x).length ≤ 100000000)
theorem Qqs (x : ValT) (h : encOk x = true) : ∃ N, encLF N x = true := ⟨12, h⟩
theorem QJF : Qah Tryz.prog 184 := .inr ⟨by decide, _, Tryz.func184, by kernel_rfl, by kernel_rfl⟩
def Qhc [Fuel] : Ent := spec (.pr Qaj .nil) (fun x => (encLF fuel x.1)) (fun x => (.t (.sl (.int .u8)) (encT x.1)))
theorem QNv : Qah Tryz.prog 184 := QJF
section
variable [Fuel] [Nonempty (PLift (Meets Tryz.prog 184 (strip Qhc)))]
theorem QL5 : Meets Tryz.prog 184 (strip Qhc) := (Classical.choice (inferInstance : Nonempty (PLift (Meets Tryz.prog 184 (strip Qhc))))).down
def encIn [Fuel] (x : ValT) : Bool := encLF (fuel + 1) x
noncomputable def QJY : List DO := dT Tryz.f184 6
def QgJ : Fg := ⟨[(1, none), (3, none), (4, some tI)], [(1, some Qaj), (3, none), (5, none), (8, none), (23, none)]⟩
noncomputable def Qiv : TC := (.sq (.sq (.reg (rT Tryz.f184 3)) (.cd (.t 13) .sk (.fg ⟨[(1, none), (3, none)], [(1, some Qaj), (3, none), (5, none), (8, none), (23, none)]⟩ (.ex 0)))) (.sq (.bk 1 (.reg (rT Tryz.f184 4))) (.reg (rT Tryz.f184 5))))
noncomputable def Qwd : TC := (.sq (.reg (rT Tryz.f184 0)) (.sq (.reg (rT Tryz.f184 1)) (.sq (.sq (.reg (rT Tryz.f184 2)) (.bk 0 (.nw 3 5 (.lp 0 QgJ Qiv)))) (.sq (.dr QJY [(0, [1]), (1, [1]), (2, []), (3, [27, 5027, 10027, 15027]), (4, [3, 5, 8, 23]), (5, [3, 5, 8, 23]), (6, []), (7, [27, 31, 5031, 10031, 15031]), (8, [3, 5, 8, 23]), (9, [3, 5, 8, 23, 27, 31, 33, 5033, 10033, 15033]), (10, [27, 31, 33])] (.of [0, 1, 2, 4, 5, 6, 8, 3, 7, 9, 10])) .rt))))
def QFv : List (RV × Option Ty) := [((.t 2), some (.sl (.int .u8)))]
abbrev Qog : Sh := ⟨[(1, .ptr 1 0), (3, .ms 5), (4, .ty tI)], [(1, .box Qaj), (3, .no), (5, .arr 5 (.int .u8)), (8, .no), (23, .no)]⟩
def QnA (x4 : Int) (y1 : ValT) (y5 : List Int) : VS := Qog.st ((), (), x4, ()) (y1, (), y5, (), (), ())
abbrev QtX : Sh := ⟨[(1, .ptr 1 0), (3, .ms 5)], [(1, .box Qaj), (3, .no), (5, .arr 5 (.int .u8)), (8, .no), (23, .no)]⟩
def QdQ (y1 : ValT) (y5 : List Int) : VS := QtX.st ((), (), ()) (y1, (), y5, (), (), ())
def QOC : VS → Option (Bool × List (Bool × Exit × VS)) := mkL Qog (fun x y => (decide (0 ≤ x.2.2.1 ∧ x.2.2.1 ≤ y.1.2.2.2.1.length ∧ y.2.2.1.length + (encL ((List.map Val.un y.1.2.2.2.1).drop x.2.2.1.toNat)).length ≤ 1000000000) && encIn y.1)) (fun x y => [(true, .exit 0, QdQ (y.1) (y.2.2.1 ++ encL ((List.map Val.un y.1.2.2.2.1).drop x.2.2.1.toNat)))])
def Qln : G := ⟨TYs, [5, 27], 34, EL [(184, Qhc), (211, QD2)], keeps, (Ls [QOC]), IL [], RL []⟩
def QBb (x4 : Int) (y1 : ValT) (y5 : List Int) : Option (Exit × VS) :=
 let a2 := List.map Val.un y1.2.2.2.1
 let a1 := lgt Qaj a2 (Int.toNat x4)
 br (ilt x4 (llen a2)) (br (cIx a2 x4) (br (encLF fuel a1) (br (cApp y5 (encT a1) 1) (some (.normal, QnA (iadd .i64 x4 1) y1 (y5 ++ (encT a1)))) none) none) none) (some (.exit 0, QdQ y1 y5))
noncomputable def Qjg (x4 : Int) (y1 : ValT) (y5 : List Int) : Option (Exit × VS) := loopF (Qak Qln QgJ Qiv) (QnA x4 y1 y5)
noncomputable def Qmt (x4 : Int) (y1 : ValT) (y5 : List Int) : Option (Exit × VS) :=
 let a2 := List.map Val.un y1.2.2.2.1
 let a1 := lgt Qaj a2 (Int.toNat x4)
 br (ilt x4 (llen a2)) (br (cIx a2 x4) (br (encLF fuel a1) (br (cApp y5 (encT a1) 1) (Qjg (iadd .i64 x4 1) y1 (y5 ++ (encT a1))) none) none) none) (some (.exit 0, QdQ y1 y5))
def QjH (x4 : Int) (y1 : ValT) (y5 : List Int) : Option (Exit × VS) := some (.exit 0, QdQ (y1) (y5 ++ encL ((List.map Val.un y1.2.2.2.1).drop x4.toNat)))
theorem QKC (x4 : Int) (y1 : ValT) (y5 : List Int) : Qak Qln QgJ Qiv (QnA x4 y1 y5) = QBb x4 y1 y5 := by kernel_rfl
theorem QuU (x4 : Int) (y1 : ValT) (y5 : List Int) : Qjg x4 y1 y5 = Qmt x4 y1 y5 := (Qan _ _).trans (by
 rw [QKC]
 simp only [QBb, Qmt, Qax, nxt_n, nxt_r, nxt_e, nxt_0]
 rfl)
def QGQ (p0 : ValT) : Option (V × List VO) :=
 let a2 := List.map Val.un p0.2.2.2.1
 let a3 := (a2.drop (0 : Int).toNat)
 let a1 := (llen ((([] : List Int) ++ p0.2.1) ++ encL a3))
 let a4 := icv .u8 ((p0).1)
 br (cApp ([] : List Int) p0.2.1 1) (br (decide (0 ≤ (0 : Int) ∧ (0 : Int) ≤ p0.2.2.2.1.length ∧ (([] : List Int) ++ p0.2.1).length + (encL a3).length ≤ 1000000000) && encIn p0) (br (Qvd a1) (br (cApp ([a4]) (lenR a1) 1) (br (cApp (([a4]) ++ (lenR a1)) ((([] : List Int) ++ p0.2.1) ++ encL a3) 1) (some (.t (.sl (.int .u8)) ((([a4]) ++ (lenR a1)) ++ ((([] : List Int) ++ p0.2.1) ++ encL a3)), [])) none) none) none) none) none
theorem e_f184 (p0 : ValT) : runF Qln Qwd QFv false [.t Qaj p0] [] = QGQ p0 := by kernel_rfl
theorem QUm : GOk Tryz.prog Qln := Qal _ (gA (gC QNv QL5 (gC QVe QRu gN)))
theorem QML (x4 : Int) (y1 : ValT) (y5 : List Int) (h : (decide (0 ≤ x4 ∧ x4 ≤ y1.2.2.2.1.length ∧ y5.length + (encL ((List.map Val.un y1.2.2.2.1).drop x4.toNat)).length ≤ 1000000000) && encIn y1) = true) : Qjg x4 y1 y5 = QjH x4 y1 y5 := by
 simp only [Bool.and_eq_true, decide_eq_true_eq] at h
 obtain ⟨⟨h0, h1, h2⟩, hc⟩ := h
 obtain ⟨k, rfl⟩ := Int.eq_ofNat_of_zero_le h0
 simp only [encIn, encLF, Bool.and_eq_true, decide_eq_true_eq] at hc
 obtain ⟨hc, hf⟩ := hc
 have hm := Qxy hc
 have hl := (QcC hc).2.2.2.2.2.1
 rw [Int.toNat_natCast] at h2
 have hel := QpS y1
 have hE : encL (List.map Val.un y1.2.2.2.1) = encVs y1.2.2.2.1 := by rw [encL, QcJ]
 revert y5
 refine Qat (List.map Val.un y1.2.2.2.1) (fun k => ∀ y5 : List Int, y5.length + (encL ((List.map Val.un y1.2.2.2.1).drop k)).length ≤ 1000000000 → Qjg (k : Int) y1 y5 = QjH (k : Int) y1 y5) ?_ ?_ k (by rw [List.length_map]; omega)
 ·intro y5 _
  rw [QuU]
  simp only [Qmt, show ilt ((List.map Val.un y1.2.2.2.1).length : Int) (llen (List.map Val.un y1.2.2.2.1)) = false from decide_eq_false (by simp only [llen]; omega), Qaf]
  simp only [QjH, Int.toNat_natCast, List.drop_length, QhB, List.append_nil]
 ·intro k hk ih y5 hy
  rw [QuU]
  have hk2 : k < y1.2.2.2.1.length := by rw [List.length_map] at hk; exact hk
  have hs := QkX (List.map Val.un y1.2.2.2.1) k hk
  rw [hE] at hs
  rw [List.drop_eq_getElem_cons hk, Qck, List.length_append] at hy
  have hd : encLF fuel (List.map Val.un y1.2.2.2.1)[k] = true := by rw [encLF, hm k hk, decide_eq_true (by omega)]; rfl
  simp only [Qmt, show ilt (k : Int) (llen (List.map Val.un y1.2.2.2.1)) = true from decide_eq_true (by simp only [llen]; omega), Qau, hk, decide_true, Qac, Int.toNat_natCast, add1 (show k < 4611686018427387904 by omega), Qay (y := Qaj) hk, hd]
  rw [cAppN (by omega) (by omega), Qac, ih _ (by rw [List.length_append]; omega)]
  simp only [QjH, Int.toNat_natCast, List.drop_eq_getElem_cons hk, Qck, List.append_assoc]
theorem QIi : ∀ S l p, Qln.L 0 (fgt QgJ S) = some (true, l) → pickA l = some p → loopF (Qak Qln QgJ Qiv) S = some p :=
 QaD (s := Qog) ⟨by decide, by decide⟩ (by kernel_rfl) fun x y hok p hp => by
 simp only [Qap, Qam] at hp
 exact (QML x.2.2.1 y.1 y.2.2.1 (by simpa using hok)).trans hp
theorem QSP : Qwd.lok Qln := by
 repeat (first | exact trivial | exact QIi | refine ⟨?_, ?_⟩)
theorem s_f184 (x : ValT) (h : encLF (fuel + 1) x = true) : QGQ x = some (.t (.sl (.int .u8)) (encT x), []) := by
 have hin : encIn x = true := h
 simp only [encLF, Bool.and_eq_true, decide_eq_true_eq] at h
 obtain ⟨h, hf⟩ := h
 have hel := QpS x
 have hE : encL (List.map Val.un x.2.2.2.1) = encVs x.2.2.2.1 := by rw [encL, QcJ]
 have hll := Qhp (x.2.1.length + (encVs x.2.2.2.1).length)
 simp only [QGQ, hin, Bool.and_true, List.nil_append, Int.toNat_zero, List.drop_zero, hE]
 rw [cAppN (by omega) (by simp only [List.length_nil]; omega), Qac, decide_eq_true ⟨by omega, by omega, by omega⟩, Qac]
 have e1 : Qvd (llen (x.2.1 ++ encVs x.2.2.2.1)) = true := decide_eq_true (by simp only [llen, List.length_append]; omega)
 have e2 : lenR (llen (x.2.1 ++ encVs x.2.2.2.1)) = lenL (x.2.1.length + (encVs x.2.2.2.1).length) := by simp only [lenR, llen, List.length_append, Int.toNat_natCast]
 rw [e1, Qac, e2, cAppN (by omega) (by simp only [List.length_singleton]; omega), Qac, cAppN (by omega) (by simp only [List.length_append, List.length_singleton]; omega), Qac, QpT]
 simp only [List.singleton_append, List.cons_append, List.nil_append]
theorem QSk : Meets Tryz.prog 184 (runF Qln Qwd QFv false) := mG Tryz.func184 (by kernel_rfl) Tryz.ntmps184 (by kernel_rfl) QUm QSP
end
theorem Qk7 : ∀ N : Nat, Meets Tryz.prog 184 (strip (@Qhc ⟨N⟩))
 | 0 => Qb1 fun x => by first | rfl | simp [encLF]
 | N + 1 => by
  letI : Fuel := ⟨N⟩
  haveI : Nonempty (PLift (Meets Tryz.prog 184 (strip Qhc))) := ⟨⟨Qk7 N⟩⟩
  exact Qag QSk fun x hok => (e_f184 x.1).trans (s_f184 x.1 hok)
def QEd : Ent := spec (.pr Qaj .nil) (fun x => (encOk x.1)) (fun x => (.t (.sl (.int .u8)) (encT x.1)))
theorem QRF : Meets Tryz.prog 184 (strip QEd) := Qb2 Qk7 fun x hok => Qqs x.1 hok
def encE (x : ValT) : List Int × Int := if 4096 < (encT x).length then ([], 3) else (encT x, 0)
theorem QAL {x : ValT} (h : okT 12 x = true) : igt (dpV x) 16 = false := by
 have := Qss (v := Val.of x) h
 exact decide_eq_false (by show ¬ ((depV (Val.of x) : Int) > 16); omega)
noncomputable def Qwq : TC := (.sq (.reg (rT Tryz.f157 0)) (.sq (.sq (.reg (rT Tryz.f157 1)) (.cd (.t 7) (.sq (.reg (rT Tryz.f157 2)) .rt) .sk)) (.sq (.sq (.reg (rT Tryz.f157 3)) (.cd (.t 10) (.sq (.reg (rT Tryz.f157 4)) .rt) .sk)) (.sq (.reg (rT Tryz.f157 5)) (.sq (.sq (.reg (rT Tryz.f157 6)) (.cd (.t 15) (.sq (.reg (rT Tryz.f157 7)) .rt) .sk)) (.sq (.reg (rT Tryz.f157 8)) .rt))))))
def QFI : List (RV × Option Ty) := [((.t 2), some (.sl (.int .u8))), ((.t 3), some tI)]
def QAg : G := ⟨TYs, [], 17, EL [(182, QEf), (183, QEe), (184, QEd)], keeps, (fun _ _ => none), IL [], RL []⟩
def QG1 (p0 : ValT) : Option (V × List VO) := br (frmOk p0) (br (!(frmV p0)) (some (.tu [(.t (.sl (.int .u8)) ([] : List Int)), (.t tI 1)], [])) (br (dpOk p0) (br (igt (dpV p0) 16) (some (.tu [(.t (.sl (.int .u8)) ([] : List Int)), (.t tI 3)], [])) (br (encOk p0) (br (igt (llen (encT p0)) 4096) (some (.tu [(.t (.sl (.int .u8)) ([] : List Int)), (.t tI 3)], [])) (some (.tu [(.t (.sl (.int .u8)) (encT p0)), (.t tI 0)], []))) none)) none)) none
theorem e_f157 (p0 : ValT) : runF QAg Qwq QFI false [.t Qaj p0] [] = QG1 p0 := by kernel_rfl
theorem QVz : Qah Tryz.prog 157 := .inr ⟨by decide, _, Tryz.func157, by kernel_rfl, by kernel_rfl⟩
theorem QUz : GOk Tryz.prog QAg := Qal _ (gA (gC QJH QRH (gC QJG QRG (gC QJF QRF gN))))
theorem QS2 : Qwq.lok QAg := by repeat (first | exact trivial | refine ⟨?_, ?_⟩)
theorem s_f157 (x : ValT) (h : encOk x = true) : QG1 x = some (.tu [.t (.sl (.int .u8)) (encE x).1, .t tI (encE x).2], []) := by
 have h' := h
 simp only [encOk, Bool.and_eq_true, decide_eq_true_eq] at h'
 obtain ⟨h1, h2⟩ := h'
 simp only [QG1, show frmOk x = true from h1, show dpOk x = true from h1, h, QAL h1, frmV, Bool.not_true, Qac, Qaf]
 unfold encE
 refine QaB (fun g => ?_) (fun g => ?_)
 ·simp only [igt, llen, decide_eq_true_eq] at g
  rw [if_pos (by omega)]
 ·simp only [igt, llen, decide_eq_false_iff_not] at g
  rw [if_neg (by omega)]
def QEr : Ent := spec (.pr Qaj .nil) (fun x => (encOk x.1)) (fun x => (.tu [(.t (.sl (.int .u8)) ((encE x.1).1)), (.t tI ((encE x.1).2))]))
theorem QRS : Meets Tryz.prog 157 (strip QEr) := Qag (R := runF QAg Qwq QFI false) (mG Tryz.func157 (by kernel_rfl) Tryz.ntmps157 (by kernel_rfl) QUz QS2) fun x hok => (e_f157 x.1).trans (s_f157 x.1 hok)
def conV (x : ValT) : List Int := x.2.1 ++ encVs x.2.2.2.1
theorem QAU (x : ValT) : (conV x).length = x.2.1.length + (encVs x.2.2.2.1).length := List.length_append
theorem QkV (x : ValT) (h : encOk x = true) : ∃ N, encLF N x = true := ⟨12, h⟩
def eleV (b : List Int) (x : ValT) : List Int := b ++ encT x
theorem QQJ (b : List Int) (x : ValT) : lenA (b ++ [icv .u8 x.1]) (llen (conV x)) ++ conV x = eleV b x := by
 simp only [lenA, eleV, QpT, llen, Int.toNat_natCast, conV, List.length_append, List.append_assoc, List.singleton_append, List.cons_append, List.nil_append]
theorem QJy : Qah Tryz.prog 234 := .inr ⟨by decide, _, Tryz.func234, by kernel_rfl, by kernel_rfl⟩
def Qg8 [Fuel] : Ent := spec (.pr Qaj .nil) (fun x => (encLF fuel x.1)) (fun x => (.t (.sl (.int .u8)) (conV x.1)))
theorem QNp : Qah Tryz.prog 234 := QJy
section
variable [Fuel] [Nonempty (PLift (Meets Tryz.prog 234 (strip Qg8)))]
theorem QLZ : Meets Tryz.prog 234 (strip Qg8) := (Classical.choice (inferInstance : Nonempty (PLift (Meets Tryz.prog 234 (strip Qg8))))).down
def Qp3 [Fuel] (b : List Int) (x : ValT) : Bool := decide (b.length ≤ 500000000) && encLF fuel x
noncomputable def Qrg : TC := (.ad [(50000, 49000)] (.sq (.reg (rT Tryz.f221 0)) (.sq (.reg (rT Tryz.f221 1)) (.sq (.reg (rT Tryz.f221 2)) .rt))))
def Qzd : List (RV × Option Ty) := [((.t 4), none)]
def QsW : G := ⟨TYs, [], 19, EL [(234, Qg8), (235, QwW)], (235 :: keeps), (fun _ _ => none), IL [], RL []⟩
def Qxv (p0 : List Int) (p1 : ValT) : Option (V × List VO) :=
 let a1 := lenA (p0 ++ ([(icv .u8 p1.1)])) (llen (conV p1))
 br (encLF fuel p1) (br (cApp p0 ([(icv .u8 p1.1)]) 1) (br (Qpv (p0 ++ ([(icv .u8 p1.1)])) (llen (conV p1))) (br (cApp a1 (conV p1) 1) (some (.ms 50001, [.no, .arr 5 (.int .u8) (a1 ++ (conV p1))])) none) none) none) none
theorem QVW (p0 : List Int) (p1 : ValT) : runF QsW Qrg Qzd true [.ms 50000, .t Qaj p1] [.arr 5 (.int .u8) p0] = Qxv p0 p1 := by kernel_rfl
theorem QNq : Qah Tryz.prog 221 := .inr ⟨by decide, _, Tryz.func221, by kernel_rfl, by kernel_rfl⟩
theorem QNb : GOk Tryz.prog QsW := Qal _ (gA (gC QNp QLZ (gC QJx QHQ gN)))
theorem QMv : Qrg.lok QsW := by repeat (first | exact trivial | refine ⟨?_, ?_⟩)
theorem QQ1 (b : List Int) (x : ValT) (h : Qp3 b x = true) : Qxv b x = some (.ms 50001, [.no, .arr 5 (.int .u8) (eleV b x)]) := by
 simp only [Qp3, Bool.and_eq_true, decide_eq_true_eq] at h
 obtain ⟨h1, h2⟩ := h
 have h3 := h2
 simp only [encLF, Bool.and_eq_true, decide_eq_true_eq] at h3
 have hel := QpS x
 have hcl := QAU x
 have hll := Qhp (conV x).length
 simp only [Qxv, h2, Qac]
 rw [cAppN (by omega) (by simp only [List.length_singleton]; omega), Qac, show Qpv (b ++ [icv .u8 x.1]) (llen (conV x)) = true from decide_eq_true (by simp only [llen, List.length_append, List.length_singleton]; omega), Qac, cAppN (by omega) (by simp only [lenA, llen, Int.toNat_natCast, List.length_append, List.length_singleton]; omega), Qac, QQJ]
def Qy8 : Ent := specS [.ms 50000, .ty Qaj] [.arr 5 (.int .u8)] (fun x y => (Qp3 y.1 x.2.1)) (fun x y => (.ms 50001)) (fun x y => [.no, .arr 5 (.int .u8) (eleV y.1 x.2.1)])
theorem QL0 : Meets Tryz.prog 221 (strip Qy8) := QaR (R := runF QsW Qrg Qzd true) (mG Tryz.func221 (by kernel_rfl) Tryz.ntmps221 (by kernel_rfl) QNb QMv) fun x y hok => (QVW y.1 x.2.1).trans (QQ1 y.1 x.2.1 hok)
def conIn [Fuel] (l : List ValT) : Bool := decide (l.length ≤ 100000 ∧ (encL l).length ≤ 100000000) && l.all (okT fuel)
def QgA : Fg := ⟨[(3, none), (12, some (.sl Qaj)), (13, some tI), (14, some tI)], [(3, none), (20, none), (5020, none), (10020, none), (15020, none)]⟩
noncomputable def Qim : TC := (.mv [(20, 3)] (.sq (.reg (rT Tryz.f234 5)) (.sq (.cd (.t 15) .sk (.fg ⟨[(3, none)], [(3, none), (20, none), (5020, none), (10020, none), (15020, none)]⟩ (.ex 0))) (.sq (.bk 1 (.sq (.reg (rT Tryz.f234 6)) (.reg (rT Tryz.f234 7)))) (.reg (rT Tryz.f234 8))))))
noncomputable def QvO : TC := (.sq (.reg (rT Tryz.f234 0)) (.sq (.sq (.reg (rT Tryz.f234 1)) (.cd (.t 8) (.sq (.reg (rT Tryz.f234 2)) .rt) .sk)) (.sq (.reg (rT Tryz.f234 3)) (.sq (.sq (.reg (rT Tryz.f234 4)) (.bk 0 (.nw 3 5 (.lp 0 QgA Qim)))) (.sq (.reg (rT Tryz.f234 9)) .rt)))))
def QE6 : List (RV × Option Ty) := [((.t 2), some (.sl (.int .u8)))]
abbrev Qn6 : Sh := ⟨[(3, .ms 3), (12, .ty (.sl Qaj)), (13, .ty tI), (14, .ty tI)], [(3, .arr 5 (.int .u8)), (20, .no), (5020, .no), (10020, .no), (15020, .no)]⟩
def Qnr (x12 : List ValT) (x13 x14 : Int) (y3 : List Int) : VS := Qn6.st ((), x12, x13, x14, ()) (y3, (), (), (), (), ())
abbrev QtN : Sh := ⟨[(3, .ms 3)], [(3, .arr 5 (.int .u8)), (20, .no), (5020, .no), (10020, .no), (15020, .no)]⟩
def QdI (y3 : List Int) : VS := QtN.st ((), ()) (y3, (), (), (), (), ())
def QOt : VS → Option (Bool × List (Bool × Exit × VS)) := mkL Qn6 (fun x y => (rngOk x.2.1 x.2.2.1 x.2.2.2.1 && conIn x.2.1 && decide (y.1.length + (encL (x.2.1.drop x.2.2.2.1.toNat)).length ≤ 200000000))) (fun x y => [(true, .exit 0, QdI (y.1 ++ encL (x.2.1.drop x.2.2.2.1.toNat)))])
def Qlg : G := ⟨TYs, [], 23, EL [(221, Qy8)], (221 :: keeps), (Ls [QOt]), IL [], RL []⟩
def QA2 (x12 : List ValT) (x13 x14 : Int) (y3 : List Int) : Option (Exit × VS) :=
 let a1 := lgt Qaj x12 (Int.toNat x14)
 br (ilt x14 x13) (br (cIx x12 x14) (br (Qp3 y3 a1) (some (.normal, Qnr x12 x13 (iadd .i64 x14 1) (eleV y3 a1))) none) none) (some (.exit 0, QdI y3))
noncomputable def Qi9 (x12 : List ValT) (x13 x14 : Int) (y3 : List Int) : Option (Exit × VS) := loopF (Qak Qlg QgA Qim) (Qnr x12 x13 x14 y3)
noncomputable def Qmn (x12 : List ValT) (x13 x14 : Int) (y3 : List Int) : Option (Exit × VS) :=
 let a1 := lgt Qaj x12 (Int.toNat x14)
 br (ilt x14 x13) (br (cIx x12 x14) (br (Qp3 y3 a1) (Qi9 x12 x13 (iadd .i64 x14 1) (eleV y3 a1)) none) none) (some (.exit 0, QdI y3))
def QjB (x12 : List ValT) (x13 x14 : Int) (y3 : List Int) : Option (Exit × VS) := some (.exit 0, QdI (y3 ++ encL (x12.drop x14.toNat)))
theorem QKt (x12 : List ValT) (x13 x14 : Int) (y3 : List Int) : Qak Qlg QgA Qim (Qnr x12 x13 x14 y3) = QA2 x12 x13 x14 y3 := by kernel_rfl
theorem QuN (x12 : List ValT) (x13 x14 : Int) (y3 : List Int) : Qi9 x12 x13 x14 y3 = Qmn x12 x13 x14 y3 := (Qan _ _).trans (by
 rw [QKt]
 simp only [QA2, Qmn, Qax, nxt_n, nxt_r, nxt_e, nxt_0]
 rfl)
def QGu (p0 : ValT) : Option (V × List VO) :=
 let a1 := List.map Val.un p0.2.2.2.1
 let a2 := (a1.drop (0 : Int).toNat)
 br (!p0.2.2.1) (some (.t (.sl (.int .u8)) p0.2.1, [])) (br (rngOk a1 (llen a1) (0 : Int) && conIn a1 && decide (([] : List Int).length + (encL a2).length ≤ 200000000)) (some (.t (.sl (.int .u8)) (([] : List Int) ++ encL a2), [])) none)
theorem e_f234 (p0 : ValT) : runF Qlg QvO QE6 false [.t Qaj p0] [] = QGu p0 := by kernel_rfl
theorem QTX : GOk Tryz.prog Qlg := Qal _ (gA (gC QNq QL0 gN))
theorem QMC (x12 : List ValT) (x13 x14 : Int) (y3 : List Int) (h : (rngOk x12 x13 x14 && conIn x12 && decide (y3.length + (encL (x12.drop x14.toNat)).length ≤ 200000000)) = true) : Qi9 x12 x13 x14 y3 = QjB x12 x13 x14 y3 := by
 simp only [Bool.and_eq_true, decide_eq_true_eq] at h
 obtain ⟨⟨h0, hc⟩, h2⟩ := h
 obtain ⟨rfl, h3, k, rfl, hk⟩ := rng_k h0
 clear h0
 rw [Int.toNat_natCast] at h2
 simp only [conIn, Bool.and_eq_true, List.all_eq_true, decide_eq_true_eq] at hc
 obtain ⟨⟨hc0, hc1⟩, hc2⟩ := hc
 revert y3
 refine Qat x12 (fun k => ∀ y3 : List Int, y3.length + (encL (x12.drop k)).length ≤ 200000000 → Qi9 x12 (x12.length : Int) (k : Int) y3 = QjB x12 (x12.length : Int) (k : Int) y3) ?_ ?_ k hk
 ·intro y3 _
  rw [QuN]
  simp only [Qmn, Qar, Nat.lt_irrefl, decide_false, Qaf]
  simp only [QjB, Int.toNat_natCast, List.drop_length, QhB, List.append_nil]
 ·intro k hk ih y3 hy
  rw [QuN]
  have hx := hc2 x12[k] (List.getElem_mem hk)
  have hs := QkX x12 k hk
  rw [List.drop_eq_getElem_cons hk, Qck, List.length_append] at hy
  have hd : Qp3 y3 x12[k] = true := by rw [Qp3, encLF, hx, decide_eq_true (show y3.length ≤ 500000000 by omega), decide_eq_true (show (encT x12[k]).length ≤ 100000000 by omega)]; rfl
  simp only [Qmn, Qar, Qau, hk, decide_true, Qac, Int.toNat_natCast, add1 (show k < 4611686018427387904 by omega), Qay (y := Qaj) hk, hd, eleV]
  rw [ih _ (by rw [List.length_append]; omega)]
  simp only [QjB, Int.toNat_natCast, List.drop_eq_getElem_cons hk, Qck, List.append_assoc]
theorem QH9 : ∀ S l p, Qlg.L 0 (fgt QgA S) = some (true, l) → pickA l = some p → loopF (Qak Qlg QgA Qim) S = some p :=
 QaD (s := Qn6) ⟨by decide, by decide⟩ (by kernel_rfl) fun x y hok p hp => by
 simp only [Qap, Qam] at hp
 exact (QMC x.2.1 x.2.2.1 x.2.2.2.1 y.1 (by simpa using hok)).trans hp
theorem QSq : QvO.lok Qlg := by
 repeat (first | exact trivial | exact QH9 | refine ⟨?_, ?_⟩)
theorem s_f234 (x : ValT) (h : encLF (fuel + 1) x = true) : QGu x = some (.t (.sl (.int .u8)) (conV x), []) := by
 simp only [encLF, Bool.and_eq_true, decide_eq_true_eq] at h
 obtain ⟨h, hf⟩ := h
 obtain ⟨h1, h2, h3, h4, h5, h6, h7⟩ := QcC h
 have hel := QpS x
 have hE : encL (List.map Val.un x.2.2.2.1) = encVs x.2.2.2.1 := by rw [encL, QcJ]
 have hu : conIn (List.map Val.un x.2.2.2.1) = true := by
  simp only [conIn, Bool.and_eq_true, decide_eq_true_eq, List.length_map, List.all_eq_true, List.mem_map, hE]
  refine ⟨⟨h6, by omega⟩, ?_⟩
  rintro y ⟨v, hv, rfl⟩
  rw [Quw]
  exact h7 v hv
 simp only [QGu, rng_0 (show (List.map Val.un x.2.2.2.1).length ≤ 100000 by rw [List.length_map]; exact h6), hu, Bool.and_self, Bool.true_and, Int.toNat_zero, List.drop_zero, hE, List.nil_append, List.length_nil]
 cases hq : x.2.2.1 with
 | true =>
  rw [Bool.not_true, Qaf, decide_eq_true (by omega), Qac]
  simp only [conV, h3 hq, List.nil_append]
 | false =>
  rw [Bool.not_false, Qac]
  simp only [conV, h4 hq, encVs, List.append_nil]
theorem QSg : Meets Tryz.prog 234 (runF Qlg QvO QE6 false) := mG Tryz.func234 (by kernel_rfl) Tryz.ntmps234 (by kernel_rfl) QTX QSq
end
theorem Qgr : ∀ N : Nat, Meets Tryz.prog 234 (strip (@Qg8 ⟨N⟩))
 | 0 => Qb1 fun x => by first | rfl | simp [encLF]
 | N + 1 => by
  letI : Fuel := ⟨N⟩
  haveI : Nonempty (PLift (Meets Tryz.prog 234 (strip Qg8))) := ⟨⟨Qgr N⟩⟩
  exact Qag QSg fun x hok => (e_f234 x.1).trans (s_f234 x.1 hok)
def QDS : Ent := spec (.pr Qaj .nil) (fun x => (encOk x.1)) (fun x => (.t (.sl (.int .u8)) (conV x.1)))
theorem QRk : Meets Tryz.prog 234 (strip QDS) := Qb2 Qgr fun x hok => QkV x.1 hok
def eleN (x : ValT) : List Int := encT x
noncomputable def Qrh : TC := (.sq (.reg (rT Tryz.f221 0)) (.sq (.reg (rT Tryz.f221 1)) (.sq (.reg (rT Tryz.f221 2)) .rt)))
def Qze : List (RV × Option Ty) := [((.t 4), none)]
def QsX : G := ⟨TYs, [], 19, EL [(234, QDS), (235, QwW)], (235 :: keeps), (fun _ _ => none), IL [], RL []⟩
def Qxw (p1 : ValT) : Option (V × List VO) :=
 let a1 := (lenA (([] : List Int) ++ ([(icv .u8 p1.1)])) (llen (conV p1)))
 br (encOk p1) (br (cApp ([] : List Int) ([(icv .u8 p1.1)]) 1) (br (Qpv (([] : List Int) ++ ([(icv .u8 p1.1)])) (llen (conV p1))) (br (cApp a1 (conV p1) 1) (some (.ms 50000, [.arr 5 (.int .u8) (a1 ++ (conV p1))])) none) none) none) none
theorem QVX (p1 : ValT) : runF QsX Qrh Qze true [.c (.slice none 0 0), .t Qaj p1] [] = Qxw p1 := by kernel_rfl
theorem QNr : Qah Tryz.prog 221 := .inr ⟨by decide, _, Tryz.func221, by kernel_rfl, by kernel_rfl⟩
theorem QNc : GOk Tryz.prog QsX := Qal _ (gA (gC QJy QRk (gC QJx QHQ gN)))
theorem QMw : Qrh.lok QsX := by repeat (first | exact trivial | refine ⟨?_, ?_⟩)
theorem QQ2 (x : ValT) (h : encOk x = true) : Qxw x = some (.ms 50000, [.arr 5 (.int .u8) (eleN x)]) := by
 have h3 := h
 simp only [encOk, Bool.and_eq_true, decide_eq_true_eq] at h3
 have hel := QpS x
 have hcl := QAU x
 have hll := Qhp (conV x).length
 simp only [Qxw, h, Qac]
 rw [cAppN (by omega) (by simp), Qac, show Qpv ([] ++ [icv .u8 x.1]) (llen (conV x)) = true from decide_eq_true (by simp only [llen, List.length_append, List.length_singleton, List.length_nil]; omega), Qac, cAppN (by omega) (by simp only [lenA, llen, Int.toNat_natCast, List.length_append, List.length_singleton, List.length_nil]; omega), Qac, QQJ]
 rfl
def Qy9 : Ent := specB [.nl, .ty Qaj] [] (fun x y => (encOk x.2.1)) (fun x y => (.ms 50000)) (fun x y => [.arr 5 (.int .u8) (eleN x.2.1)])
theorem QL1 : Meets Tryz.prog 221 (strip Qy9) := Qcw (QaR (R := runF QsX Qrh Qze true) (mG Tryz.func221 (by kernel_rfl) Tryz.ntmps221 (by kernel_rfl) QNc QMw) fun x y hok => (QVX x.2.1).trans (QQ2 x.2.1 hok))
noncomputable def Qv7 : TC := (.sq (.reg (rT Tryz.f201 0)) (.sq (.sq (.reg (rT Tryz.f201 1)) (.cd (.t 7) (.sq (.reg (rT Tryz.f201 2)) .rt) .sk)) (.sq (.sq (.reg (rT Tryz.f201 3)) (.cd (.t 10) (.sq (.reg (rT Tryz.f201 4)) .rt) .sk)) (.sq (.reg (rT Tryz.f201 5)) (.sq (.sq (.reg (rT Tryz.f201 6)) (.cd (.t 15) (.sq (.reg (rT Tryz.f201 7)) .rt) .sk)) (.sq (.reg (rT Tryz.f201 8)) .rt))))))
def QFp : List (RV × Option Ty) := [((.t 2), some (.sl (.int .u8))), ((.t 3), some tI)]
def Qz5 : G := ⟨TYs, [], 17, EL [(219, QD0), (220, QDZ), (221, Qy9)], keeps, (fun _ _ => none), IL [], RL []⟩
def QGL (p0 : ValT) : Option (V × List VO) := br (frmOk p0) (br (!(frmV p0)) (some (.tu [(.t (.sl (.int .u8)) ([] : List Int)), (.t tI 1)], [])) (br (dpOk p0) (br (igt (dpV p0) 16) (some (.tu [(.t (.sl (.int .u8)) ([] : List Int)), (.t tI 3)], [])) (br (encOk p0) (br (igt (llen (eleN p0)) 4096) (some (.tu [(.t (.sl (.int .u8)) ([] : List Int)), (.t tI 3)], [])) (some (.tu [(.t (.sl (.int .u8)) (eleN p0)), (.t tI 0)], []))) none)) none)) none
theorem e_f201 (p0 : ValT) : runF Qz5 Qv7 QFp false [.t Qaj p0] [] = QGL p0 := by kernel_rfl
theorem QVl : Qah Tryz.prog 201 := .inr ⟨by decide, _, Tryz.func201, by kernel_rfl, by kernel_rfl⟩
theorem QUg : GOk Tryz.prog Qz5 := Qal _ (gA (gC QJB QRs (gC QJA QRr (gC QNr QL1 gN))))
theorem QSJ : Qv7.lok Qz5 := by repeat (first | exact trivial | refine ⟨?_, ?_⟩)
theorem s_f201 (x : ValT) (h : encOk x = true) : QGL x = some (.tu [.t (.sl (.int .u8)) (encE x).1, .t tI (encE x).2], []) := by
 have h' := h
 simp only [encOk, Bool.and_eq_true, decide_eq_true_eq] at h'
 obtain ⟨h1, h2⟩ := h'
 simp only [QGL, show frmOk x = true from h1, show dpOk x = true from h1, h, QAL h1, frmV, eleN, Bool.not_true, Qac, Qaf]
 unfold encE
 refine QaB (fun g => ?_) (fun g => ?_)
 ·simp only [igt, llen, decide_eq_true_eq] at g
  rw [if_pos (by omega)]
 ·simp only [igt, llen, decide_eq_false_iff_not] at g
  rw [if_neg (by omega)]
def QD9 : Ent := spec (.pr Qaj .nil) (fun x => (encOk x.1)) (fun x => (.tu [(.t (.sl (.int .u8)) ((encE x.1).1)), (.t tI ((encE x.1).2))]))
theorem QRB : Meets Tryz.prog 201 (strip QD9) := Qag (R := runF Qz5 Qv7 QFp false) (mG Tryz.func201 (by kernel_rfl) Tryz.ntmps201 (by kernel_rfl) QUg QSJ) fun x hok => (e_f201 x.1).trans (s_f201 x.1 hok)
def lstT (l : List ValT) : ValT := (48, (([] : List Int), (true, (List.map Val.of l, ()))))
noncomputable def QvV : TC := (.sq (.reg (rT Tryz.f223 0)) (.sq (.reg (rT Tryz.f223 1)) .rt))
def QFd : List (RV × Option Ty) := [((.c 2 true 4), some Qaj)]
def QzY : G := ⟨TYs, [], 6, EL [(236, QDR)], keeps, (fun _ _ => none), IL [], RL []⟩
def QGA (p0 : List ValT) : Option (V × List VO) := br (copOk p0) (some (.t Qaj (48, (([] : List Int), (true, ((List.map Val.of (copV p0)), ())))), [])) none
theorem e_f223 (p0 : List ValT) : runF QzY QvV QFd false [.t (.sl Qaj) p0] [] = QGA p0 := by kernel_rfl
theorem Qyy : Qah Tryz.prog 223 := .inr ⟨by decide, _, Tryz.func223, by kernel_rfl, by kernel_rfl⟩
theorem QT4 : GOk Tryz.prog QzY := Qal _ (gA (gC QJw QRj gN))
theorem QSx : QvV.lok QzY := by repeat (first | exact trivial | refine ⟨?_, ?_⟩)
theorem s_f223 (l : List ValT) (h : copOk l = true) : QGA l = some (.t Qaj (lstT l), []) := by
 simp only [QGA, h, Qac]
 rfl
def Qrs : Ent := spec (.pr (.sl Qaj) .nil) (fun x => (copOk x.1)) (fun x => (.t Qaj (lstT x.1)))
theorem QxH : Meets Tryz.prog 223 (strip Qrs) := Qag (R := runF QzY QvV QFd false) (mG Tryz.func223 (by kernel_rfl) Tryz.ntmps223 (by kernel_rfl) QT4 QSx) fun x hok => (e_f223 x.1).trans (s_f223 x.1 hok)
noncomputable def QvR : TC := (.sq (.reg (rT Tryz.f227 0)) (.sq (.reg (rT Tryz.f227 1)) .rt))
def QE9 : List (RV × Option Ty) := [((.c 2 true 4), some Qaj)]
def QzV : G := ⟨TYs, [], 5, EL [(223, Qrs)], keeps, (fun _ _ => none), IL [], RL []⟩
def QGx (p0 : List ValT) : Option (V × List VO) := br (copOk p0) (some (.t Qaj (lstT p0), [])) none
theorem e_f227 (p0 : List ValT) : runF QzV QvR QE9 false [.t (.sl Qaj) p0] [] = QGx p0 := by kernel_rfl
theorem QVa : Qah Tryz.prog 227 := .inr ⟨by decide, _, Tryz.func227, by kernel_rfl, by kernel_rfl⟩
theorem QT0 : GOk Tryz.prog QzV := Qal _ (gA (gC Qyy QxH gN))
theorem QSt : QvR.lok QzV := by repeat (first | exact trivial | refine ⟨?_, ?_⟩)
theorem s_f227 (l : List ValT) (h : copOk l = true) : QGx l = some (.t Qaj (lstT l), []) := by
 simp only [QGx, h, Qac]
def QDV : Ent := spec (.pr (.sl Qaj) .nil) (fun x => (copOk x.1)) (fun x => (.t Qaj (lstT x.1)))
theorem QRn : Meets Tryz.prog 227 (strip QDV) := Qag (R := runF QzV QvR QE9 false) (mG Tryz.func227 (by kernel_rfl) Tryz.ntmps227 (by kernel_rfl) QT0 QSt) fun x hok => (e_f227 x.1).trans (s_f227 x.1 hok)
noncomputable def Qwb : TC := (.sq (.reg (rT Tryz.f186 0)) (.sq (.reg (rT Tryz.f186 1)) .rt))
def QFt : List (RV × Option Ty) := [((.c 2 true 4), some Qaj)]
def Qz8 : G := ⟨TYs, [], 6, EL [(212, QD1)], keeps, (fun _ _ => none), IL [], RL []⟩
def QGO (p0 : List ValT) : Option (V × List VO) := br (copOk p0) (some (.t Qaj (48, (([] : List Int), (true, ((List.map Val.of (copV p0)), ())))), [])) none
theorem e_f186 (p0 : List ValT) : runF Qz8 Qwb QFt false [.t (.sl Qaj) p0] [] = QGO p0 := by kernel_rfl
theorem QJE : Qah Tryz.prog 186 := .inr ⟨by decide, _, Tryz.func186, by kernel_rfl, by kernel_rfl⟩
theorem QUk : GOk Tryz.prog Qz8 := Qal _ (gA (gC QJC QRt gN))
theorem QSN : Qwb.lok Qz8 := by repeat (first | exact trivial | refine ⟨?_, ?_⟩)
theorem s_f186 (l : List ValT) (h : copOk l = true) : QGO l = some (.t Qaj (lstT l), []) := by
 simp only [QGO, h, Qac]
 rfl
def QwZ : Ent := spec (.pr (.sl Qaj) .nil) (fun x => (copOk x.1)) (fun x => (.t Qaj (lstT x.1)))
theorem QHT : Meets Tryz.prog 186 (strip QwZ) := Qag (R := runF Qz8 Qwb QFt false) (mG Tryz.func186 (by kernel_rfl) Tryz.ntmps186 (by kernel_rfl) QUk QSN) fun x hok => (e_f186 x.1).trans (s_f186 x.1 hok)
end
end Go.Proofs.YtckcgijklnloiaaGreat.K
