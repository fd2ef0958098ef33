import Derived.Test.YtkngeegkjhipeaaGreatN15
set_option linter.unusedSimpArgs false
set_option linter.unusedVariables false
namespace Go.Proofs.YtkngeegkjhipeaaGreat.K
open Go.RowKit
noncomputable section
def sameO (a b : List Keep) : Bool := a == b
def Qhq (a b : List Keep) : Bool := decide (a.length ≤ 100000 ∧ b.length ≤ 100000)
noncomputable def QNz : List DO := dT Tryz.f18 5
def QjB : Fg := ⟨[(0, some (.sl Qah)), (1, some (.sl Qah)), (5, some tI)], []⟩
noncomputable def QlG : TC := (.sq (.sq (.reg (rT Tryz.f18 4)) (.cd (.t 14) .sk (.fg ⟨[], []⟩ (.ex 0)))) (.sq (.bk 1 (.sq (.dr QNz [(0, []), (1, []), (2, []), (3, []), (4, []), (5, []), (6, []), (7, []), (8, [])] (.of [0, 1, 2, 3, 4, 5, 6, 7, 8])) (.cd (.t 25) (.sq (.reg (rT Tryz.f18 6)) (.fg ⟨[(4, some .bool)], []⟩ .rt)) .sk))) (.reg (rT Tryz.f18 7))))
noncomputable def QDJ : TC := (.sq (.reg (rT Tryz.f18 0)) (.sq (.sq (.reg (rT Tryz.f18 1)) (.cd (.t 10) (.sq (.reg (rT Tryz.f18 2)) .rt) .sk)) (.sq (.sq (.reg (rT Tryz.f18 3)) (.bk 0 (.lp 0 QjB QlG))) (.sq (.reg (rT Tryz.f18 8)) .rt))))
def QQI : List (RV × Option Ty) := [((.t 4), some .bool)]
abbrev Qrs : Sh := ⟨[(0, .ty (.sl Qah)), (1, .ty (.sl Qah)), (5, .ty tI)], []⟩
def QqP (x0 x1 : List Keep) (x5 : Int) : VS := Qrs.st (x0, x1, x5, ()) ()
abbrev QtU : Sh := ⟨[(4, .ty .bool)], []⟩
def QdC (x4 : Bool) : VS := QtU.st (x4, ()) ()
abbrev QxE : Sh := ⟨[], []⟩
def Qe6  : VS := QxE.st () ()
def QWw : VS → Option (Bool × List (Bool × Exit × VS)) := mkL Qrs (fun x y => (decide (0 ≤ x.2.2.1 ∧ x.2.2.1 ≤ x.1.length ∧ x.1.length = x.2.1.length ∧ x.1.length ≤ 100000))) (fun x y => [((!(x.1.drop x.2.2.1.toNat == x.2.1.drop x.2.2.1.toNat)), .ret, QdC (false)), (true, .exit 0, Qe6)])
def g_f18 : G := ⟨TYs, [], 26, EL [], keeps, (Ls [QWw]), IL [], RL []⟩
def QKz (x0 x1 : List Keep) (x5 : Int) : Option (Exit × VS) :=
 let a1 := Int.toNat x5
 br (ilt x5 (llen x0)) (br (cIx x0 x5) (br (cIx x1 x5) (br (!(and (ieq ((lgt Qah x0 a1).1) ((lgt Qah x1 a1).1)) (and (ieq (((lgt Qah x0 a1).2).1) (((lgt Qah x1 a1).2).1)) true))) (some (.ret, QdC false)) (some (.normal, QqP x0 x1 (iadd .i64 x5 1)))) none) none) (some (.exit 0, Qe6))
noncomputable def Qmx (x0 x1 : List Keep) (x5 : Int) : Option (Exit × VS) := loopF (Qaj g_f18 QjB QlG) (QqP x0 x1 x5)
noncomputable def Qsu (x0 x1 : List Keep) (x5 : Int) : Option (Exit × VS) :=
 let a1 := Int.toNat x5
 br (ilt x5 (llen x0)) (br (cIx x0 x5) (br (cIx x1 x5) (br (!(and (ieq ((lgt Qah x0 a1).1) ((lgt Qah x1 a1).1)) (and (ieq (((lgt Qah x0 a1).2).1) (((lgt Qah x1 a1).2).1)) true))) (some (.ret, QdC false)) (Qmx x0 x1 (iadd .i64 x5 1))) none) none) (some (.exit 0, Qe6))
def QmZ (x0 x1 : List Keep) (x5 : Int) : Option (Exit × VS) := br (!(x0.drop x5.toNat == x1.drop x5.toNat)) (some (.ret, QdC (false))) <| some (.exit 0, Qe6)
theorem QOl (x0 x1 : List Keep) (x5 : Int) : Qaj g_f18 QjB QlG (QqP x0 x1 x5) = QKz x0 x1 x5 := by kernel_rfl
theorem QAb (x0 x1 : List Keep) (x5 : Int) : Qmx x0 x1 x5 = Qsu x0 x1 x5 := (Qap _ _).trans (by
 rw [QOl]
 simp only [QKz, Qsu, QaB, nxt_n, nxt_r, nxt_e, nxt_0]
 rfl)
def r_f18 (p0 p1 : List Keep) : Option (V × List VO) := br (ine (llen p0) (llen p1)) (some (.t .bool false, [])) (br (decide (0 ≤ (0 : Int) ∧ (0 : Int) ≤ p0.length ∧ p0.length = p1.length ∧ p0.length ≤ 100000)) (br (!(p0.drop (0 : Int).toNat == p1.drop (0 : Int).toNat)) (some (.t .bool (false), [])) (some (.t .bool true, []))) none)
theorem e_f18 (p0 p1 : List Keep) : runF g_f18 QDJ QQI false [.t (.sl Qah) p0, .t (.sl Qah) p1] [] = r_f18 p0 p1 := by kernel_rfl
theorem en_f18 : Qai Tryz.prog 18 := .inr ⟨by decide, _, Tryz.func18, by kernel_rfl, by kernel_rfl⟩
theorem gk_f18 : GOk Tryz.prog g_f18 := Qal _ (fun p hp => by cases hp)
theorem QUg (x0 x1 : List Keep) (x5 : Int) (h : (decide (0 ≤ x5 ∧ x5 ≤ x0.length ∧ x0.length = x1.length ∧ x0.length ≤ 100000)) = true) : Qmx x0 x1 x5 = QmZ x0 x1 x5 := by
 simp only [decide_eq_true_eq] at h
 obtain ⟨h0, h1, h2, h3⟩ := h
 obtain ⟨k, rfl⟩ := Int.eq_ofNat_of_zero_le h0
 refine Qas x0 (fun k => Qmx x0 x1 (k : Int) = QmZ x0 x1 (k : Int)) ?_ ?_ k (by omega)
 ·rw [QAb]
  simp only [Qsu, QmZ, show ilt (x0.length : Int) (llen x0) = false from decide_eq_false (by simp only [llen]; omega), Qaf, Int.toNat_natCast, List.drop_length]
  rw [h2, List.drop_length]
  rfl
 ·intro k hk ih
  rw [QAb]
  have hk2 : k < x1.length := by omega
  have hq : (and (ieq x0[k].1 x1[k].1) (and (ieq x0[k].2.1 x1[k].2.1) true)) = (x0[k] == x1[k]) := rfl
  simp only [Qsu, show ilt (k : Int) (llen x0) = true from decide_eq_true (by simp only [llen]; omega), Qaw, hk, hk2, decide_true, Qac, Int.toNat_natCast, add1 (show k < 4611686018427387904 by omega), QaE (y := Qah) hk, QaE (y := Qah) hk2, ih]
  rw [hq]
  simp only [QmZ, Int.toNat_natCast, List.drop_eq_getElem_cons hk, List.drop_eq_getElem_cons hk2, List.cons_beq_cons]
  cases x0[k] == x1[k] <;> rfl
theorem QL7 : ∀ S l p, g_f18.L 0 (fgt QjB S) = some (true, l) → pickA l = some p → loopF (Qaj g_f18 QjB QlG) S = some p :=
 QaD (s := Qrs) ⟨by decide, by decide⟩ (by kernel_rfl) fun x y hok p hp => by
 simp only [Qar, Qao] at hp
 exact (QUg x.1 x.2.1 x.2.2.1 (by simpa using hok)).trans hp
theorem lk_f18 : QDJ.lok g_f18 := by
 repeat (first | exact trivial | exact QL7 | refine ⟨?_, ?_⟩)
theorem s_f18 (a b : List Keep) (h : Qhq a b = true) : r_f18 a b = some (.t .bool (sameO a b), []) := by
 simp only [Qhq, decide_eq_true_eq] at h
 unfold sameO
 by_cases hl : a.length = b.length
 ·simp only [r_f18, show ine (llen a) (llen b) = false by simp only [ine, llen, hl]; simp, Qaf, show decide ((0 : Int) ≤ 0 ∧ (0 : Int) ≤ a.length ∧ a.length = b.length ∧ a.length ≤ 100000) = true from decide_eq_true (by omega), Qac, Int.toNat_zero, List.drop_zero]
  cases a == b <;> rfl
 ·have : (a == b) = false := beq_eq_false_iff_ne.2 fun e => hl (by rw [e])
  simp only [r_f18, show ine (llen a) (llen b) = true by simp only [ine, llen, bne_iff_ne]; omega, Qac, this]
def QPy : Ent := spec (.pr (.sl Qah) (.pr (.sl Qah) .nil)) (fun x => (Qhq x.1 x.2.1)) (fun x => (.t .bool (sameO x.1 x.2.1)))
theorem ms_f18 : Meets Tryz.prog 18 (strip QPy) := Qag (R := runF g_f18 QDJ QQI false) (mG Tryz.func18 (by kernel_rfl) Tryz.ntmps18 (by kernel_rfl) gk_f18 lk_f18) fun x hok => (e_f18 x.1 x.2.1).trans (s_f18 x.1 x.2.1 hok)
theorem brN {β : Type} {p q : Bool} {X : Option β} : br p (br q X none) none = br (p && q) X none := by cases p <;> rfl
def QaW (c : Int) : Int := bif ine (Qay c).2 0 then 0 else strF (Qay c).1.2.2.2.2.1
noncomputable def QDb : TC := (.sq (.reg (rT Tryz.f58 0)) (.sq (.reg (rT Tryz.f58 1)) (.sq (.sq (.reg (rT Tryz.f58 2)) (.cd (.t 11) (.sq (.reg (rT Tryz.f58 3)) .rt) .sk)) (.sq (.reg (rT Tryz.f58 4)) .rt))))
def QQa : List (RV × Option Ty) := [((.t 2), some tI)]
def g_f58 : G := ⟨TYs, [], 15, EL [(26, QpW), (88, QD0)], keeps, (fun _ _ => none), IL [], RL []⟩
def r_f58 (p0 : Int) : Option (V × List VO) := br (ine ((Qay p0).2) 0) (some (.t tI 0, [])) (some (.t tI (strF (((((((Qay p0).1).2).2).2).2).1)), []))
theorem e_f58 (p0 : Int) : runF g_f58 QDb QQa false [.t tI p0] [] = r_f58 p0 := by kernel_rfl
theorem en_f58 : Qai Tryz.prog 58 := .inr ⟨by decide, _, Tryz.func58, by kernel_rfl, by kernel_rfl⟩
theorem gk_f58 : GOk Tryz.prog g_f58 := Qal _ (gA (gC QvH QuW (gC QRq QQ4 gN)))
theorem lk_f58 : QDb.lok g_f58 := by repeat (first | exact trivial | refine ⟨?_, ?_⟩)
theorem s_f58 (c : Int) : r_f58 c = some (.t tI (QaW c), []) := by
 simp only [r_f58]
 unfold QaW
 cases ine (Qay c).2 0 <;> rfl
def QPg : Ent := spec (.pr tI .nil) (fun x => true) (fun x => (.t tI (QaW x.1)))
theorem ms_f58 : Meets Tryz.prog 58 (strip QPg) := Qag (R := runF g_f58 QDb QQa false) (mG Tryz.func58 (by kernel_rfl) Tryz.ntmps58 (by kernel_rfl) gk_f58 lk_f58) fun x _ => (e_f58 x.1).trans (s_f58 x.1)
def insK (x : Int) (l : List Int) : Nat → Nat
 | 0 => 0
 | k + 1 => if ilt (QaW (l.getD k 0)) (QaW x) = true then insK x l k else k + 1
theorem Qyt (x : Int) (l : List Int) : ∀ k, insK x l k ≤ k
 | 0 => Nat.le_refl _
 | k + 1 => by
  unfold insK
  split
  ·exact Nat.le_succ_of_le (Qyt x l k)
  ·exact Nat.le_refl _
def insS (l : List Int) (x : Int) : List Int := (l.take (insK x l l.length) ++ [x]) ++ l.drop (insK x l l.length)
theorem QAj (l : List Int) (x : Int) : (insS l x).length = l.length + 1 := by
 have := Qyt x l l.length
 simp only [insS, List.length_append, List.length_take, List.length_drop, List.length_singleton]
 omega
def sortS (l : List Int) : List Int := l.foldl insS []
def lenS (l : List Int) : Bool := decide (l.length ≤ 1000)
noncomputable def QNt : List DO := dT Tryz.f36 5
noncomputable def QNs : List DO := dT Tryz.f36 7
def Qjr : Fg := ⟨[(0, some (.sl tI)), (3, none), (4, some tI), (5, some tI)], [(3, none), (32, none), (36, none), (42, none), (46, none)]⟩
noncomputable def Qlw : TC := (.sq (.sq (.dr QNt [(0, []), (1, []), (2, []), (3, [3, 32, 36, 42, 46]), (4, []), (5, []), (6, [3, 32, 36, 42, 46]), (7, [3, 32, 36, 42, 46]), (8, []), (9, []), (10, []), (11, []), (12, []), (13, []), (14, []), (15, [])] (.of [0, 1, 2, 3, 4, 5, 6, 7, 8, 9, 10, 11, 12, 13, 14, 15])) (.cd (.t 29) .sk (.fg ⟨[(0, some (.sl tI)), (3, none), (4, some tI), (5, some tI)], [(3, none), (32, none), (36, none), (42, none), (46, none)]⟩ (.ex 2)))) (.bk 3 (.reg (rT Tryz.f36 6))))
def Qjq : Fg := ⟨[(0, some (.sl tI)), (3, none), (4, some tI)], [(3, none), (32, none), (36, none), (42, none), (46, none)]⟩
noncomputable def Qlv : TC := (.mv [(32, 3)] (.sq (.sq (.reg (rT Tryz.f36 3)) (.cd (.t 9) .sk (.fg ⟨[(3, none)], [(3, none), (32, none), (36, none), (42, none), (46, none)]⟩ (.ex 0)))) (.sq (.bk 1 (.sq (.reg (rT Tryz.f36 4)) (.sq (.bk 2 (.lp 0 Qjr Qlw)) (.dr QNs [(0, [32, 5032, 10032, 15032]), (1, [3, 32, 36, 42, 46]), (2, []), (3, [3, 32, 36, 42, 46]), (4, [3, 32, 36, 42, 46, 5036, 10036, 15036]), (5, []), (6, []), (7, []), (8, []), (9, []), (10, [32, 36, 42, 5042, 10042, 15042]), (11, [3, 32, 36, 42, 46]), (12, []), (13, [3, 32, 36, 42, 46]), (14, [3, 32, 36, 42, 46, 5046, 10046, 15046]), (15, [32, 36, 42, 46])] (.one 2 (.one 5 (.one 6 (.one 7 (.one 8 (.one 9 (.one 12 (.alt 0 (.one 1 (.one 3 (.alt 4 (.alt 10 (.of [11, 13, 14, 15]) (.one 11 (.alt 10 (.of [13, 14, 15]) (.of [13, 10, 14, 15])))) (.one 11 (.alt 4 (.alt 10 (.of [13, 14, 15]) (.of [13, 10, 14, 15])) (.of [13, 4, 10, 14, 15])))))) (.alt 1 (.alt 0 (.one 3 (.alt 4 (.alt 10 (.of [11, 13, 14, 15]) (.one 11 (.alt 10 (.of [13, 14, 15]) (.of [13, 10, 14, 15])))) (.one 11 (.alt 4 (.alt 10 (.of [13, 14, 15]) (.of [13, 10, 14, 15])) (.of [13, 4, 10, 14, 15]))))) (.alt 3 (.alt 0 (.alt 4 (.alt 10 (.of [11, 13, 14, 15]) (.one 11 (.alt 10 (.of [13, 14, 15]) (.of [13, 10, 14, 15])))) (.one 11 (.alt 4 (.alt 10 (.of [13, 14, 15]) (.of [13, 10, 14, 15])) (.of [13, 4, 10, 14, 15])))) (.one 11 (.alt 0 (.alt 4 (.alt 10 (.of [13, 14, 15]) (.of [13, 10, 14, 15])) (.of [13, 4, 10, 14, 15])) (.of [13, 0, 4, 10, 14, 15])))) (.one 11 (.alt 0 (.one 3 (.alt 4 (.alt 10 (.of [13, 14, 15]) (.of [13, 10, 14, 15])) (.of [13, 4, 10, 14, 15]))) (.alt 3 (.alt 0 (.alt 4 (.alt 10 (.of [13, 14, 15]) (.of [13, 10, 14, 15])) (.of [13, 4, 10, 14, 15])) (.of [13, 0, 4, 10, 14, 15])) (.one 13 (.alt 0 (.of [3, 4, 10, 14, 15]) (.of [3, 0, 4, 10, 14, 15])))))))) (.one 11 (.alt 0 (.one 1 (.one 3 (.alt 4 (.alt 10 (.of [13, 14, 15]) (.of [13, 10, 14, 15])) (.of [13, 4, 10, 14, 15])))) (.alt 1 (.alt 0 (.one 3 (.alt 4 (.alt 10 (.of [13, 14, 15]) (.of [13, 10, 14, 15])) (.of [13, 4, 10, 14, 15]))) (.alt 3 (.alt 0 (.alt 4 (.alt 10 (.of [13, 14, 15]) (.of [13, 10, 14, 15])) (.of [13, 4, 10, 14, 15])) (.of [13, 0, 4, 10, 14, 15])) (.one 13 (.alt 0 (.of [3, 4, 10, 14, 15]) (.of [3, 0, 4, 10, 14, 15]))))) (.one 13 (.alt 0 (.of [1, 3, 4, 10, 14, 15]) (.one 1 (.alt 0 (.of [3, 4, 10, 14, 15]) (.of [3, 0, 4, 10, 14, 15]))))))))))))))))))))) (.reg (rT Tryz.f36 8)))))
noncomputable def QDt : TC := (.sq (.reg (rT Tryz.f36 0)) (.sq (.reg (rT Tryz.f36 1)) (.sq (.sq (.reg (rT Tryz.f36 2)) (.bk 0 (.nw 3 3 (.lp 1 Qjq Qlv)))) (.sq (.reg (rT Tryz.f36 9)) .rt))))
def QQs : List (RV × Option Ty) := [((.t 2), none)]
abbrev Qri : Sh := ⟨[(0, .ty (.sl tI)), (3, .ms 3), (4, .ty tI), (5, .ty tI)], [(3, .arr 3 tI), (32, .no), (36, .no), (42, .no), (46, .no)]⟩
def QqI (x0 : List Int) (x4 x5 : Int) (y3 : List Int) : VS := Qri.st (x0, (), x4, x5, ()) (y3, (), (), (), (), ())
abbrev Qxu : Sh := ⟨[(0, .ty (.sl tI)), (3, .ms 3), (4, .ty tI), (5, .ty tI)], [(3, .arr 3 tI), (32, .no), (36, .no), (42, .no), (46, .no)]⟩
def Qch (x0 : List Int) (x4 x5 : Int) (y3 : List Int) : VS := Qxu.st (x0, (), x4, x5, ()) (y3, (), (), (), (), ())
abbrev Qrh : Sh := ⟨[(0, .ty (.sl tI)), (3, .ms 3), (4, .ty tI)], [(3, .arr 3 tI), (32, .no), (36, .no), (42, .no), (46, .no)]⟩
def QqH (x0 : List Int) (x4 : Int) (y3 : List Int) : VS := Qrh.st (x0, (), x4, ()) (y3, (), (), (), (), ())
abbrev Qxt : Sh := ⟨[(3, .ms 3)], [(3, .arr 3 tI), (32, .no), (36, .no), (42, .no), (46, .no)]⟩
def QeW (y3 : List Int) : VS := Qxt.st ((), ()) (y3, (), (), (), (), ())
def QWm : VS → Option (Bool × List (Bool × Exit × VS)) := mkL Qri (fun x y => (decide (0 ≤ x.2.2.2.1 ∧ x.2.2.2.1 ≤ y.1.length ∧ y.1.length ≤ 1000) && cIx x.1 x.2.2.1)) (fun x y => [(true, .exit 2, Qch (x.1) (x.2.2.1) ((insK (lgt tI x.1 x.2.2.1.toNat) y.1 x.2.2.2.1.toNat : Nat) : Int) (y.1))])
def QWl : VS → Option (Bool × List (Bool × Exit × VS)) := mkL Qrh (fun x y => (decide (0 ≤ x.2.2.1 ∧ x.2.2.1 ≤ x.1.length ∧ x.1.length ≤ 1000 ∧ y.1.length ≤ x.2.2.1.toNat))) (fun x y => [(true, .exit 0, QeW ((x.1.drop x.2.2.1.toNat).foldl insS y.1))])
def g_f36 : G := ⟨TYs, [32], 48, EL [(58, QPg)], keeps, (Ls [QWm, QWl]), IL [], RL []⟩
def QKp (x0 : List Int) (x4 x5 : Int) (y3 : List Int) : Option (Exit × VS) :=
 let a1 := isub .i64 x5 1
 br (igt x5 0) (br (cIx y3 a1) (br (cLd y3 (Int.toNat a1)) (br (cIx x0 x4) (br (ilt (QaW (lgt tI y3 (Int.toNat a1))) (QaW (lgt tI x0 (Int.toNat x4)))) (some (.normal, QqI x0 x4 a1 y3)) (some (.exit 2, Qch x0 x4 x5 y3))) none) none) none) (some (.exit 2, Qch x0 x4 x5 y3))
noncomputable def Qmq (x0 : List Int) (x4 x5 : Int) (y3 : List Int) : Option (Exit × VS) := loopF (Qaj g_f36 Qjr Qlw) (QqI x0 x4 x5 y3)
noncomputable def Qsm (x0 : List Int) (x4 x5 : Int) (y3 : List Int) : Option (Exit × VS) :=
 let a1 := isub .i64 x5 1
 br (igt x5 0) (br (cIx y3 a1) (br (cLd y3 (Int.toNat a1)) (br (cIx x0 x4) (br (ilt (QaW (lgt tI y3 (Int.toNat a1))) (QaW (lgt tI x0 (Int.toNat x4)))) (Qmq x0 x4 a1 y3) (some (.exit 2, Qch x0 x4 x5 y3))) none) none) none) (some (.exit 2, Qch x0 x4 x5 y3))
def QmT (x0 : List Int) (x4 x5 : Int) (y3 : List Int) : Option (Exit × VS) := some (.exit 2, Qch (x0) (x4) ((insK (lgt tI x0 x4.toNat) y3 x5.toNat : Nat) : Int) (y3))
theorem QOb (x0 : List Int) (x4 x5 : Int) (y3 : List Int) : Qaj g_f36 Qjr Qlw (QqI x0 x4 x5 y3) = QKp x0 x4 x5 y3 := by kernel_rfl
theorem Qz1 (x0 : List Int) (x4 x5 : Int) (y3 : List Int) : Qmq x0 x4 x5 y3 = Qsm x0 x4 x5 y3 := (Qap _ _).trans (by
 rw [QOb]
 simp only [QKp, Qsm, QaB, nxt_n, nxt_r, nxt_e, nxt_0]
 rfl)
def QjQ (x0 : List Int) (x4 : Int) (y3 : List Int) : Option (Exit × VS) :=
 let a1 := ((insK (lgt tI x0 x4.toNat) y3 (llen y3).toNat : Nat) : Int)
 let a2 := (wnL tI (y3) (Int.toNat a1) (Int.toNat ((List.length (y3) : Nat) : Int) - Int.toNat a1))
 let a3 := wnL tI (y3) (Int.toNat 0) (Int.toNat a1 - Int.toNat 0)
 let a4 := lgt tI (x0) (Int.toNat (x4))
 br (cApp ((([] : List Int) ++ a3) ++ ([a4])) a2 8) (some (.normal, QqH (x0) (iadd .i64 (x4) 1) (((([] : List Int) ++ a3) ++ ([a4])) ++ a2))) none
def QjR (x0 : List Int) (x4 : Int) (y3 : List Int) : Option (Exit × VS) :=
 let a1 := ((insK (lgt tI x0 x4.toNat) y3 (llen y3).toNat : Nat) : Int)
 br (cApp (([] : List Int) ++ (wnL tI (y3) (Int.toNat 0) (Int.toNat a1 - Int.toNat 0))) ([(lgt tI (x0) (Int.toNat (x4)))]) 8) (br (cWn (y3) a1 ((List.length (y3) : Nat) : Int)) (QjQ x0 x4 y3) none) none
def QjO (x0 : List Int) (x4 : Int) (y3 : List Int) : Option (Exit × VS) := br (cApp (([] : List Int) ++ (wnL tI (y3) (Int.toNat 0) (Int.toNat ((insK (lgt tI x0 x4.toNat) y3 (llen y3).toNat : Nat) : Int) - Int.toNat 0))) ([(lgt tI (x0) (Int.toNat (x4)))]) 8) (QjQ x0 x4 y3) none
def QjP (x0 : List Int) (x4 : Int) (y3 : List Int) : Option (Exit × VS) := frk (QjR x0 x4 y3) (br (cWn (y3) ((insK (lgt tI x0 x4.toNat) y3 (llen y3).toNat : Nat) : Int) ((List.length (y3) : Nat) : Int)) (QjO x0 x4 y3) none)
def QjM (x0 : List Int) (x4 : Int) (y3 : List Int) : Option (Exit × VS) := br (cApp ([] : List Int) (wnL tI (y3) (Int.toNat 0) (Int.toNat ((insK (lgt tI x0 x4.toNat) y3 (llen y3).toNat : Nat) : Int) - Int.toNat 0)) 8) (QjO x0 x4 y3) none
def QjN (x0 : List Int) (x4 : Int) (y3 : List Int) : Option (Exit × VS) := br (cWn (y3) ((insK (lgt tI x0 x4.toNat) y3 (llen y3).toNat : Nat) : Int) ((List.length (y3) : Nat) : Int)) (QjM x0 x4 y3) none
def Qgv (x0 : List Int) (x4 : Int) (y3 : List Int) : Option (Exit × VS) := frk (br (cApp ([] : List Int) (wnL tI (y3) (Int.toNat 0) (Int.toNat ((insK (lgt tI x0 x4.toNat) y3 (llen y3).toNat : Nat) : Int) - Int.toNat 0)) 8) (QjP x0 x4 y3) none) (QjN x0 x4 y3)
def QjS (x0 : List Int) (x4 : Int) (y3 : List Int) : Option (Exit × VS) := frk (br (cApp ([] : List Int) (wnL tI (y3) (Int.toNat 0) (Int.toNat ((insK (lgt tI x0 x4.toNat) y3 (llen y3).toNat : Nat) : Int) - Int.toNat 0)) 8) (frk (QjR x0 x4 y3) (QjP x0 x4 y3)) none) (Qgv x0 x4 y3)
def QjT (x0 : List Int) (x4 : Int) (y3 : List Int) : Option (Exit × VS) := br (cWn (y3) 0 ((insK (lgt tI x0 x4.toNat) y3 (llen y3).toNat : Nat) : Int)) (QjS x0 x4 y3) none
def Qg2 (x0 : List Int) (x4 : Int) (y3 : List Int) : Option (Exit × VS) := frk (Qgv x0 x4 y3) (QjN x0 x4 y3)
def Qg0 (x0 : List Int) (x4 : Int) (y3 : List Int) : Option (Exit × VS) := br (cWn (y3) 0 ((insK (lgt tI x0 x4.toNat) y3 (llen y3).toNat : Nat) : Int)) (Qgv x0 x4 y3) none
def Qew (x0 : List Int) (x4 : Int) (y3 : List Int) : Option (Exit × VS) := br (cWn (y3) 0 ((insK (lgt tI x0 x4.toNat) y3 (llen y3).toNat : Nat) : Int)) (QjM x0 x4 y3) none
def QgZ (x0 : List Int) (x4 : Int) (y3 : List Int) : Option (Exit × VS) := frk (Qew x0 x4 y3) (Qew x0 x4 y3)
def Qg1 (x0 : List Int) (x4 : Int) (y3 : List Int) : Option (Exit × VS) :=
 let a1 := ((insK (lgt tI x0 x4.toNat) y3 (llen y3).toNat : Nat) : Int)
 frk (Qg0 x0 x4 y3) (frk (br (cWn (y3) 0 a1) (Qg2 x0 x4 y3) none) (br (cWn (y3) a1 ((List.length (y3) : Nat) : Int)) (QgZ x0 x4 y3) none))
def QyY (x0 : List Int) (x4 : Int) (y3 : List Int) : Option (Exit × VS) :=
 let a1 := ((insK (lgt tI x0 x4.toNat) y3 (llen y3).toNat : Nat) : Int)
 br (ilt x4 (llen x0)) (br (decide (0 ≤ (llen y3) ∧ (llen y3) ≤ y3.length ∧ y3.length ≤ 1000) && cIx x0 x4) (br (cIx (x0) (x4)) (frk (QjT x0 x4 y3) (frk (frk (QjT x0 x4 y3) (frk (br (cWn (y3) 0 a1) (frk (QjS x0 x4 y3) (Qg2 x0 x4 y3)) none) (Qg1 x0 x4 y3))) (frk (Qg0 x0 x4 y3) (frk (Qg1 x0 x4 y3) (br (cWn (y3) a1 ((List.length (y3) : Nat) : Int)) (frk (Qew x0 x4 y3) (QgZ x0 x4 y3)) none))))) none) none) (some (.exit 0, QeW y3))
noncomputable def Qmp (x0 : List Int) (x4 : Int) (y3 : List Int) : Option (Exit × VS) := loopF (Qaj g_f36 Qjq Qlv) (QqH x0 x4 y3)
noncomputable def Qeo (x0 : List Int) (x4 : Int) (y3 : List Int) : Option (Exit × VS) :=
 let a1 := ((insK (lgt tI x0 x4.toNat) y3 (llen y3).toNat : Nat) : Int)
 let a2 := (wnL tI (y3) (Int.toNat a1) (Int.toNat ((List.length (y3) : Nat) : Int) - Int.toNat a1))
 let a3 := wnL tI (y3) (Int.toNat 0) (Int.toNat a1 - Int.toNat 0)
 let a4 := lgt tI (x0) (Int.toNat (x4))
 br (cApp ((([] : List Int) ++ a3) ++ ([a4])) a2 8) (Qmp (x0) (iadd .i64 (x4) 1) (((([] : List Int) ++ a3) ++ ([a4])) ++ a2)) none
noncomputable def Qep (x0 : List Int) (x4 : Int) (y3 : List Int) : Option (Exit × VS) :=
 let a1 := ((insK (lgt tI x0 x4.toNat) y3 (llen y3).toNat : Nat) : Int)
 br (cApp (([] : List Int) ++ (wnL tI (y3) (Int.toNat 0) (Int.toNat a1 - Int.toNat 0))) ([(lgt tI (x0) (Int.toNat (x4)))]) 8) (br (cWn (y3) a1 ((List.length (y3) : Nat) : Int)) (Qeo x0 x4 y3) none) none
noncomputable def Qem (x0 : List Int) (x4 : Int) (y3 : List Int) : Option (Exit × VS) := br (cApp (([] : List Int) ++ (wnL tI (y3) (Int.toNat 0) (Int.toNat ((insK (lgt tI x0 x4.toNat) y3 (llen y3).toNat : Nat) : Int) - Int.toNat 0))) ([(lgt tI (x0) (Int.toNat (x4)))]) 8) (Qeo x0 x4 y3) none
noncomputable def Qen (x0 : List Int) (x4 : Int) (y3 : List Int) : Option (Exit × VS) := frk (Qep x0 x4 y3) (br (cWn (y3) ((insK (lgt tI x0 x4.toNat) y3 (llen y3).toNat : Nat) : Int) ((List.length (y3) : Nat) : Int)) (Qem x0 x4 y3) none)
noncomputable def Qek (x0 : List Int) (x4 : Int) (y3 : List Int) : Option (Exit × VS) := br (cApp ([] : List Int) (wnL tI (y3) (Int.toNat 0) (Int.toNat ((insK (lgt tI x0 x4.toNat) y3 (llen y3).toNat : Nat) : Int) - Int.toNat 0)) 8) (Qem x0 x4 y3) none
noncomputable def Qel (x0 : List Int) (x4 : Int) (y3 : List Int) : Option (Exit × VS) := br (cWn (y3) ((insK (lgt tI x0 x4.toNat) y3 (llen y3).toNat : Nat) : Int) ((List.length (y3) : Nat) : Int)) (Qek x0 x4 y3) none
noncomputable def Qc6 (x0 : List Int) (x4 : Int) (y3 : List Int) : Option (Exit × VS) := frk (br (cApp ([] : List Int) (wnL tI (y3) (Int.toNat 0) (Int.toNat ((insK (lgt tI x0 x4.toNat) y3 (llen y3).toNat : Nat) : Int) - Int.toNat 0)) 8) (Qen x0 x4 y3) none) (Qel x0 x4 y3)
noncomputable def Qeq (x0 : List Int) (x4 : Int) (y3 : List Int) : Option (Exit × VS) := frk (br (cApp ([] : List Int) (wnL tI (y3) (Int.toNat 0) (Int.toNat ((insK (lgt tI x0 x4.toNat) y3 (llen y3).toNat : Nat) : Int) - Int.toNat 0)) 8) (frk (Qep x0 x4 y3) (Qen x0 x4 y3)) none) (Qc6 x0 x4 y3)
noncomputable def Qer (x0 : List Int) (x4 : Int) (y3 : List Int) : Option (Exit × VS) := br (cWn (y3) 0 ((insK (lgt tI x0 x4.toNat) y3 (llen y3).toNat : Nat) : Int)) (Qeq x0 x4 y3) none
noncomputable def QcY (x0 : List Int) (x4 : Int) (y3 : List Int) : Option (Exit × VS) := frk (Qc6 x0 x4 y3) (Qel x0 x4 y3)
noncomputable def QcW (x0 : List Int) (x4 : Int) (y3 : List Int) : Option (Exit × VS) := br (cWn (y3) 0 ((insK (lgt tI x0 x4.toNat) y3 (llen y3).toNat : Nat) : Int)) (Qc6 x0 x4 y3) none
noncomputable def Qcm (x0 : List Int) (x4 : Int) (y3 : List Int) : Option (Exit × VS) := br (cWn (y3) 0 ((insK (lgt tI x0 x4.toNat) y3 (llen y3).toNat : Nat) : Int)) (Qek x0 x4 y3) none
noncomputable def QcV (x0 : List Int) (x4 : Int) (y3 : List Int) : Option (Exit × VS) := frk (Qcm x0 x4 y3) (Qcm x0 x4 y3)
noncomputable def QcX (x0 : List Int) (x4 : Int) (y3 : List Int) : Option (Exit × VS) :=
 let a1 := ((insK (lgt tI x0 x4.toNat) y3 (llen y3).toNat : Nat) : Int)
 frk (QcW x0 x4 y3) (frk (br (cWn (y3) 0 a1) (QcY x0 x4 y3) none) (br (cWn (y3) a1 ((List.length (y3) : Nat) : Int)) (QcV x0 x4 y3) none))
noncomputable def QoD (x0 : List Int) (x4 : Int) (y3 : List Int) : Option (Exit × VS) :=
 let a1 := ((insK (lgt tI x0 x4.toNat) y3 (llen y3).toNat : Nat) : Int)
 br (ilt x4 (llen x0)) (br (decide (0 ≤ (llen y3) ∧ (llen y3) ≤ y3.length ∧ y3.length ≤ 1000) && cIx x0 x4) (br (cIx (x0) (x4)) (frk (Qer x0 x4 y3) (frk (frk (Qer x0 x4 y3) (frk (br (cWn (y3) 0 a1) (frk (Qeq x0 x4 y3) (QcY x0 x4 y3)) none) (QcX x0 x4 y3))) (frk (QcW x0 x4 y3) (frk (QcX x0 x4 y3) (br (cWn (y3) a1 ((List.length (y3) : Nat) : Int)) (frk (Qcm x0 x4 y3) (QcV x0 x4 y3)) none))))) none) none) (some (.exit 0, QeW y3))
def QmS (x0 : List Int) (x4 : Int) (y3 : List Int) : Option (Exit × VS) := some (.exit 0, QeW ((x0.drop x4.toNat).foldl insS y3))
theorem QOa (x0 : List Int) (x4 : Int) (y3 : List Int) : Qaj g_f36 Qjq Qlv (QqH x0 x4 y3) = QyY x0 x4 y3 := by kernel_rfl
theorem Qz0 (x0 : List Int) (x4 : Int) (y3 : List Int) : Qmp x0 x4 y3 = QoD x0 x4 y3 := (Qap _ _).trans (by
 rw [QOa]
 first
 |(simp only [QyY, QjT, QjS, QjR, QjQ, QjP, QjO, Qgv, QjN, QjM, Qg2, Qg1, Qg0, QgZ, Qew, Qbp, QoD, Qer, Qeq, Qep, Qeo, Qen, Qem, Qc6, Qel, Qek, QcY, QcX, QcW, QcV, Qcm, Qbp, QaB, nxt_n, nxt_r, nxt_e, nxt_0]
   rfl)
 |(simp only [QyY, QjT, QjS, QjR, QjQ, QjP, QjO, Qgv, QjN, QjM, Qg2, Qg1, Qg0, QgZ, Qew, Qbp, QoD, Qer, Qeq, Qep, Qeo, Qen, Qem, Qc6, Qel, Qek, QcY, QcX, QcW, QcV, Qcm, Qbp]
   try generalize (cApp ((([] : List Int) ++ (wnL tI (y3) (Int.toNat 0) (Int.toNat (((insK (lgt tI x0 x4.toNat) y3 (llen y3).toNat : Nat) : Int)) - Int.toNat 0))) ++ ([(lgt tI (x0) (Int.toNat (x4)))])) (wnL tI (y3) (Int.toNat (((insK (lgt tI x0 x4.toNat) y3 (llen y3).toNat : Nat) : Int))) (Int.toNat ((List.length (y3) : Nat) : Int) - Int.toNat (((insK (lgt tI x0 x4.toNat) y3 (llen y3).toNat : Nat) : Int)))) 8) = cq0
   try generalize (cWn (y3) (((insK (lgt tI x0 x4.toNat) y3 (llen y3).toNat : Nat) : Int)) ((List.length (y3) : Nat) : Int)) = cq1
   try generalize (cApp (([] : List Int) ++ (wnL tI (y3) (Int.toNat 0) (Int.toNat (((insK (lgt tI x0 x4.toNat) y3 (llen y3).toNat : Nat) : Int)) - Int.toNat 0))) ([(lgt tI (x0) (Int.toNat (x4)))]) 8) = cq2
   try generalize (cApp ([] : List Int) (wnL tI (y3) (Int.toNat 0) (Int.toNat (((insK (lgt tI x0 x4.toNat) y3 (llen y3).toNat : Nat) : Int)) - Int.toNat 0)) 8) = cq3
   try generalize (cWn (y3) 0 (((insK (lgt tI x0 x4.toNat) y3 (llen y3).toNat : Nat) : Int))) = cq4
   try generalize (cIx (x0) (x4)) = cq5
   try generalize ((decide (0 ≤ (llen y3) ∧ (llen y3) ≤ y3.length ∧ y3.length ≤ 1000) && cIx x0 x4)) = cq6
   simp only [brN, Qbp, Bool.and_assoc, Bool.and_comm, Bool.and_left_comm, Bool.and_self, Bool.and_self_left, QaB, nxt_n, nxt_r, nxt_e, nxt_0]
   try rfl))
def r_f36 (p0 : List Int) : Option (V × List VO) := br (decide (0 ≤ (0 : Int) ∧ (0 : Int) ≤ p0.length ∧ p0.length ≤ 1000 ∧ ([] : List Int).length ≤ (0 : Int).toNat)) (some (.ms 50000, [.arr 3 tI ((p0.drop (0 : Int).toNat).foldl insS ([] : List Int))])) none
theorem e_f36 (p0 : List Int) : runF g_f36 QDt QQs true [.t (.sl tI) p0] [] = r_f36 p0 := by kernel_rfl
theorem en_f36 : Qai Tryz.prog 36 := .inr ⟨by decide, _, Tryz.func36, by kernel_rfl, by kernel_rfl⟩
theorem gk_f36 : GOk Tryz.prog g_f36 := Qal _ (gA (gC en_f58 ms_f58 gN))
theorem QT6 (x0 : List Int) (x4 x5 : Int) (y3 : List Int) (h : (decide (0 ≤ x5 ∧ x5 ≤ y3.length ∧ y3.length ≤ 1000) && cIx x0 x4) = true) : Qmq x0 x4 x5 y3 = QmT x0 x4 x5 y3 := by
 obtain ⟨h, hc⟩ := Bool.and_eq_true_iff.1 h
 obtain ⟨h0, h1, h2⟩ := of_decide_eq_true h
 obtain ⟨k, rfl⟩ := Int.eq_ofNat_of_zero_le h0
 have key : ∀ k : Nat, k ≤ y3.length → Qmq x0 x4 (k : Int) y3 = QmT x0 x4 (k : Int) y3 := by
  intro k
  induction k with
  | zero =>
   intro _
   rw [Qz1]
   simp only [Qsm, QmT, show igt ((0 : Nat) : Int) 0 = false from rfl, Qaf, Int.toNat_natCast]
   rfl
  | succ k ih =>
   intro hk
   rw [Qz1]
   have e1 : isub .i64 ((k + 1 : Nat) : Int) 1 = (k : Int) := by rw [QbE (by omega)]; omega
   have e2 : cLd y3 k = true := decide_eq_true (by omega)
   simp only [Qsm, show igt ((k + 1 : Nat) : Int) 0 = true from decide_eq_true (by omega), Qac, e1, Qaw, show k < y3.length by omega, decide_true, Int.toNat_natCast, e2, hc, ih (by omega)]
   simp only [QmT, Int.toNat_natCast]
   rw [show insK (lgt tI x0 x4.toNat) y3 (k + 1) = if ilt (QaW (y3.getD k 0)) (QaW (lgt tI x0 x4.toNat)) = true then insK (lgt tI x0 x4.toNat) y3 k else k + 1 from rfl]
   show br (ilt (QaW (y3.getD k 0)) (QaW (lgt tI x0 x4.toNat))) _ _ = _
   cases ilt (QaW (y3.getD k 0)) (QaW (lgt tI x0 x4.toNat)) <;> rfl
 exact key k (by omega)
theorem QT5 (x0 : List Int) (x4 : Int) (y3 : List Int) (h : (decide (0 ≤ x4 ∧ x4 ≤ x0.length ∧ x0.length ≤ 1000 ∧ y3.length ≤ x4.toNat)) = true) : Qmp x0 x4 y3 = QmS x0 x4 y3 := by
 simp only [decide_eq_true_eq] at h
 obtain ⟨h0, h1, h2, h3⟩ := h
 obtain ⟨k, rfl⟩ := Int.eq_ofNat_of_zero_le h0
 rw [Int.toNat_natCast] at h3
 revert y3
 refine Qas x0 (fun k => ∀ y3 : List Int, y3.length ≤ k → Qmp x0 (k : Int) y3 = QmS x0 (k : Int) y3) ?_ ?_ k (by omega)
 ·intro y3 _
  rw [Qz0]
  simp only [QoD, Qer, Qeq, Qep, Qeo, Qen, Qem, Qc6, Qel, Qek, QcY, QcX, QcW, QcV, Qcm, Qbp, QmS, show ilt (x0.length : Int) (llen x0) = false from decide_eq_false (by simp only [llen]; omega), Qaf, Int.toNat_natCast, List.drop_length, List.foldl_nil]
 ·intro k hk ih y3 hy
  rw [Qz0]
  have hle := Qyt x0[k] y3 y3.length
  obtain ⟨q, hq⟩ : ∃ q, q = insK x0[k] y3 y3.length := ⟨_, rfl⟩
  rw [← hq] at hle
  have c0 : decide ((0 : Int) ≤ (y3.length : Nat) ∧ ((y3.length : Nat) : Int) ≤ y3.length ∧ y3.length ≤ 1000) = true := decide_eq_true (by omega)
  have c1 : cWn y3 0 (q : Int) = true := decide_eq_true (by omega)
  have c2 : cWn y3 (q : Int) (y3.length : Nat) = true := decide_eq_true (by omega)
  have w1 : wnL tI y3 0 (q - 0) = y3.take q := by rw [Qs6 (by omega), List.drop_zero, Nat.sub_zero]
  have w2 : wnL tI y3 q (y3.length - q) = y3.drop q := by rw [Qs6 (by omega), List.take_of_length_le (by rw [List.length_drop]; omega)]
  have a1 : cApp ([] : List Int) (y3.take q) 8 = true := cAppN (by omega) (by simp only [List.length_nil, List.length_take]; omega)
  have a2 : cApp (y3.take q) [x0[k]] 8 = true := cAppN (by omega) (by simp only [List.length_singleton, List.length_take]; omega)
  have a3 : cApp (y3.take q ++ [x0[k]]) (y3.drop q) 8 = true := cAppN (by omega) (by simp only [List.length_append, List.length_singleton, List.length_take, List.length_drop]; omega)
  simp only [QoD, Qer, Qeq, Qep, Qeo, Qen, Qem, Qc6, Qel, Qek, QcY, QcX, QcW, QcV, Qcm, Qbp, show ilt (k : Int) (llen x0) = true from decide_eq_true (by simp only [llen]; omega), Qaw, hk, decide_true, Bool.and_true, Qac, Int.toNat_natCast, Int.toNat_zero, add1 (show k < 4611686018427387904 by omega), QaE (y := tI) hk, llen, c0, ← hq, c1, c2, w1, w2, List.nil_append, a1, a2, a3, Qbp]
  have e := ih (insS y3 x0[k]) (by rw [QAj]; omega)
  simp only [insS, ← hq] at e
  rw [e]
  simp only [QmS, Int.toNat_natCast, List.drop_eq_getElem_cons hk, List.foldl_cons, insS, ← hq]
theorem QLX : ∀ S l p, g_f36.L 0 (fgt Qjr S) = some (true, l) → pickA l = some p → loopF (Qaj g_f36 Qjr Qlw) S = some p :=
 QaD (s := Qri) ⟨by decide, by decide⟩ (by kernel_rfl) fun x y hok p hp => by
 simp only [Qar, Qao] at hp
 exact (QT6 x.1 x.2.2.1 x.2.2.2.1 y.1 (by simpa using hok)).trans hp
theorem QLW : ∀ S l p, g_f36.L 1 (fgt Qjq S) = some (true, l) → pickA l = some p → loopF (Qaj g_f36 Qjq Qlv) S = some p :=
 QaD (s := Qrh) ⟨by decide, by decide⟩ (by kernel_rfl) fun x y hok p hp => by
 simp only [Qar, Qao] at hp
 exact (QT5 x.1 x.2.2.1 y.1 (by simpa using hok)).trans hp
theorem lk_f36 : QDt.lok g_f36 := by
 repeat (first | exact trivial | exact QLX | exact QLW | refine ⟨?_, ?_⟩)
theorem s_f36 (l : List Int) (h : lenS l = true) : r_f36 l = some (.ms 50000, [.arr 3 tI (sortS l)]) := by
 simp only [lenS, decide_eq_true_eq] at h
 refine Eq.trans (congrArg (fun b => br b _ _) (decide_eq_true ⟨Int.le_refl _, by omega, h, by simp⟩)) ?_
 rfl
def QPr : Ent := specO (.pr (.sl tI) .nil) (fun x => (lenS x.1)) (fun x => (.ms 50000)) (fun x => [.arr 3 tI (sortS x.1)])
theorem ms_f36 : Meets Tryz.prog 36 (strip QPr) := QoM (R := runF g_f36 QDt QQs true) (mG Tryz.func36 (by kernel_rfl) Tryz.ntmps36 (by kernel_rfl) gk_f36 lk_f36) fun x hok => (e_f36 x.1).trans (s_f36 x.1 hok)
end
end Go.Proofs.YtkngeegkjhipeaaGreat.K
