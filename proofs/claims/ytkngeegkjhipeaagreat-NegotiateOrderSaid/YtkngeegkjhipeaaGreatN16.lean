import Derived.Test.YtkngeegkjhipeaaGreatN15
set_option linter.unusedSimpArgs false
set_option linter.unusedVariables false
namespace Go.Proofs.YtkngeegkjhipeaaGreat.K
open Go.RowKit
noncomputable section
def sameO (a b : List Keep) : Bool := a == b
def QmP (a b : List Keep) : Bool := decide (a.length ≤ 100000 ∧ b.length ≤ 100000)
noncomputable def QKd : List DO := dT Tryz.f18 5
def QiM : Fg := ⟨[(0, some (.sl Qan)), (1, some (.sl Qan)), (5, some tI)], []⟩
noncomputable def Qkv : TC := (.sq (.sq (.reg (rT Tryz.f18 4)) (.cd (.t 14) .sk (.fg ⟨[], []⟩ (.ex 0)))) (.sq (.bk 1 (.sq (.dr QKd [(0, []), (1, []), (2, []), (3, []), (4, []), (5, []), (6, []), (7, []), (8, [])] (.of [0, 1, 2, 3, 4, 5, 6, 7, 8])) (.cd (.t 25) (.sq (.reg (rT Tryz.f18 6)) (.fg ⟨[(4, some .bool)], []⟩ .rt)) .sk))) (.reg (rT Tryz.f18 7))))
noncomputable def QAU : TC := (.sq (.reg (rT Tryz.f18 0)) (.sq (.sq (.reg (rT Tryz.f18 1)) (.cd (.t 10) (.sq (.reg (rT Tryz.f18 2)) .rt) .sk)) (.sq (.sq (.reg (rT Tryz.f18 3)) (.bk 0 (.lp 0 QiM Qkv))) (.sq (.reg (rT Tryz.f18 8)) .rt))))
def QMW : List (RV × Option Ty) := [((.t 4), some .bool)]
abbrev QpB : Sh := ⟨[(0, .ty (.sl Qan)), (1, .ty (.sl Qan)), (5, .ty tI)], []⟩
def Qpa (x0 x1 : List Keep) (x5 : Int) : VS := QpB.st (x0, x1, x5, ()) ()
abbrev QrF : Sh := ⟨[(4, .ty .bool)], []⟩
def Qdd (x4 : Bool) : VS := QrF.st (x4, ()) ()
abbrev Qvf : Sh := ⟨[], []⟩
def Qev  : VS := Qvf.st () ()
def QSp : VS → Option (Bool × List (Bool × Exit × VS)) := mkL QpB (fun x y => (decide (0 ≤ x.2.2.1 ∧ x.2.2.1 ≤ x.1.length ∧ x.1.length = x.2.1.length ∧ x.1.length ≤ 100000))) (fun x y => [((!(x.1.drop x.2.2.1.toNat == x.2.1.drop x.2.2.1.toNat)), .ret, Qdd (false)), (true, .exit 0, Qev)])
def g_f18 : G := ⟨TYs, [], 26, EL [], keeps, (Ls [QSp]), IL [], RL []⟩
def QHs (x0 x1 : List Keep) (x5 : Int) : Option (Exit × VS) :=
 let a1 := Int.toNat x5
 br (ilt x5 (llen x0)) (br (cIx x0 x5) (br (cIx x1 x5) (br (!(and (ieq ((lgt Qan x0 a1).1) ((lgt Qan x1 a1).1)) (and (ieq (((lgt Qan x0 a1).2).1) (((lgt Qan x1 a1).2).1)) true))) (some (.ret, Qdd false)) (some (.normal, Qpa x0 x1 (iadd .i64 x5 1)))) none) none) (some (.exit 0, Qev))
noncomputable def Qla (x0 x1 : List Keep) (x5 : Int) : Option (Exit × VS) := loopF (Qaj g_f18 QiM Qkv) (Qpa x0 x1 x5)
noncomputable def Qqt (x0 x1 : List Keep) (x5 : Int) : Option (Exit × VS) :=
 let a1 := Int.toNat x5
 br (ilt x5 (llen x0)) (br (cIx x0 x5) (br (cIx x1 x5) (br (!(and (ieq ((lgt Qan x0 a1).1) ((lgt Qan x1 a1).1)) (and (ieq (((lgt Qan x0 a1).2).1) (((lgt Qan x1 a1).2).1)) true))) (some (.ret, Qdd false)) (Qla x0 x1 (iadd .i64 x5 1))) none) none) (some (.exit 0, Qev))
def Qlp (x0 x1 : List Keep) (x5 : Int) : Option (Exit × VS) := br (!(x0.drop x5.toNat == x1.drop x5.toNat)) (some (.ret, Qdd (false))) <| some (.exit 0, Qev)
theorem QKM (x0 x1 : List Keep) (x5 : Int) : Qaj g_f18 QiM Qkv (Qpa x0 x1 x5) = QHs x0 x1 x5 := by kernel_rfl
theorem Qxt (x0 x1 : List Keep) (x5 : Int) : Qla x0 x1 x5 = Qqt x0 x1 x5 := (Qaq _ _).trans (by
 rw [QKM]
 simp only [QHs, Qqt, QaE, nxt_n, nxt_r, nxt_e, nxt_0]
 rfl)
def r_f18 (p0 p1 : List Keep) : Option (V × List VO) := br (ine (llen p0) (llen p1)) (some (.t .bool false, [])) (br (decide (0 ≤ (0 : Int) ∧ (0 : Int) ≤ p0.length ∧ p0.length = p1.length ∧ p0.length ≤ 100000)) (br (!(p0.drop (0 : Int).toNat == p1.drop (0 : Int).toNat)) (some (.t .bool (false), [])) (some (.t .bool true, []))) none)
theorem e_f18 (p0 p1 : List Keep) : runF g_f18 QAU QMW false [.t (.sl Qan) p0, .t (.sl Qan) p1] [] = r_f18 p0 p1 := by kernel_rfl
theorem en_f18 : Qag Tryz.prog 18 := .inr ⟨by decide, _, Tryz.func18, by kernel_rfl, by kernel_rfl⟩
theorem gk_f18 : GOk Tryz.prog g_f18 := Qao _ (fun p hp => by cases hp)
theorem QQh (x0 x1 : List Keep) (x5 : Int) (h : (decide (0 ≤ x5 ∧ x5 ≤ x0.length ∧ x0.length = x1.length ∧ x0.length ≤ 100000)) = true) : Qla x0 x1 x5 = Qlp x0 x1 x5 := by
 simp only [decide_eq_true_eq] at h
 obtain ⟨h0, h1, h2, h3⟩ := h
 obtain ⟨k, rfl⟩ := Int.eq_ofNat_of_zero_le h0
 refine Qav x0 (fun k => Qla x0 x1 (k : Int) = Qlp x0 x1 (k : Int)) ?_ ?_ k (by omega)
 ·rw [Qxt]
  simp only [Qqt, Qlp, show ilt (x0.length : Int) (llen x0) = false from decide_eq_false (by simp only [llen]; omega), Qae, Int.toNat_natCast, List.drop_length]
  rw [h2, List.drop_length]
  rfl
 ·intro k hk ih
  rw [Qxt]
  have hk2 : k < x1.length := by omega
  have hq : (and (ieq x0[k].1 x1[k].1) (and (ieq x0[k].2.1 x1[k].2.1) true)) = (x0[k] == x1[k]) := rfl
  simp only [Qqt, show ilt (k : Int) (llen x0) = true from decide_eq_true (by simp only [llen]; omega), Qay, hk, hk2, decide_true, Qac, Int.toNat_natCast, add1 (show k < 4611686018427387904 by omega), QaG (y := Qan) hk, QaG (y := Qan) hk2, ih]
  rw [hq]
  simp only [Qlp, Int.toNat_natCast, List.drop_eq_getElem_cons hk, List.drop_eq_getElem_cons hk2, List.cons_beq_cons]
  cases x0[k] == x1[k] <;> rfl
theorem QIT : ∀ S l p, g_f18.L 0 (fgt QiM S) = some (true, l) → pickA l = some p → loopF (Qaj g_f18 QiM Qkv) S = some p :=
 QaF (s := QpB) ⟨by decide, by decide⟩ (by kernel_rfl) fun x y hok p hp => by
 simp only [Qar, Qap] at hp
 exact (QQh x.1 x.2.1 x.2.2.1 (by simpa using hok)).trans hp
theorem lk_f18 : QAU.lok g_f18 := by
 repeat (first | exact trivial | exact QIT | refine ⟨?_, ?_⟩)
theorem s_f18 (a b : List Keep) (h : QmP a b = true) : r_f18 a b = some (.t .bool (sameO a b), []) := by
 simp only [QmP, decide_eq_true_eq] at h
 unfold sameO
 by_cases hl : a.length = b.length
 ·simp only [r_f18, show ine (llen a) (llen b) = false by simp only [ine, llen, hl]; simp, Qae, show decide ((0 : Int) ≤ 0 ∧ (0 : Int) ≤ a.length ∧ a.length = b.length ∧ a.length ≤ 100000) = true from decide_eq_true (by omega), Qac, Int.toNat_zero, List.drop_zero]
  cases a == b <;> rfl
 ·have : (a == b) = false := beq_eq_false_iff_ne.2 fun e => hl (by rw [e])
  simp only [r_f18, show ine (llen a) (llen b) = true by simp only [ine, llen, bne_iff_ne]; omega, Qac, this]
def QLW : Ent := spec (.pr (.sl Qan) (.pr (.sl Qan) .nil)) (fun x => (QmP x.1 x.2.1)) (fun x => (.t .bool (sameO x.1 x.2.1)))
theorem ms_f18 : Meets Tryz.prog 18 (strip QLW) := Qaf (R := runF g_f18 QAU QMW false) (mG Tryz.func18 (by kernel_rfl) Tryz.ntmps18 (by kernel_rfl) gk_f18 lk_f18) fun x hok => (e_f18 x.1 x.2.1).trans (s_f18 x.1 x.2.1 hok)
theorem brN {β : Type} {p q : Bool} {X : Option β} : br p (br q X none) none = br (p && q) X none := by cases p <;> rfl
def QaU (c : Int) : Int := bif ine (QaC c).2 0 then 0 else strF (QaC c).1.2.2.2.2.1
noncomputable def QAs : TC := (.sq (.reg (rT Tryz.f58 0)) (.sq (.reg (rT Tryz.f58 1)) (.sq (.sq (.reg (rT Tryz.f58 2)) (.cd (.t 11) (.sq (.reg (rT Tryz.f58 3)) .rt) .sk)) (.sq (.reg (rT Tryz.f58 4)) .rt))))
def QMu : List (RV × Option Ty) := [((.t 2), some tI)]
def g_f58 : G := ⟨TYs, [], 15, EL [(26, QLU), (88, QBa)], keeps, (fun _ _ => none), IL [], RL []⟩
def r_f58 (p0 : Int) : Option (V × List VO) := br (ine ((QaC p0).2) 0) (some (.t tI 0, [])) (some (.t tI (strF (((((((QaC p0).1).2).2).2).2).1)), []))
theorem e_f58 (p0 : Int) : runF g_f58 QAs QMu false [.t tI p0] [] = r_f58 p0 := by kernel_rfl
theorem en_f58 : Qag Tryz.prog 58 := .inr ⟨by decide, _, Tryz.func58, by kernel_rfl, by kernel_rfl⟩
theorem gk_f58 : GOk Tryz.prog g_f58 := Qao _ (gA (gC en_f26 ms_f26 (gC QNA QNh gN)))
theorem lk_f58 : QAs.lok g_f58 := by repeat (first | exact trivial | refine ⟨?_, ?_⟩)
theorem s_f58 (c : Int) : r_f58 c = some (.t tI (QaU c), []) := by
 simp only [r_f58]
 unfold QaU
 cases ine (QaC c).2 0 <;> rfl
def QLD : Ent := spec (.pr tI .nil) (fun x => true) (fun x => (.t tI (QaU x.1)))
theorem ms_f58 : Meets Tryz.prog 58 (strip QLD) := Qaf (R := runF g_f58 QAs QMu false) (mG Tryz.func58 (by kernel_rfl) Tryz.ntmps58 (by kernel_rfl) gk_f58 lk_f58) fun x _ => (e_f58 x.1).trans (s_f58 x.1)
def insK (x : Int) (l : List Int) : Nat → Nat
 | 0 => 0
 | k + 1 => if ilt (QaU (l.getD k 0)) (QaU x) = true then insK x l k else k + 1
theorem Qv1 (x : Int) (l : List Int) : ∀ k, insK x l k ≤ k
 | 0 => Nat.le_refl _
 | k + 1 => by
  unfold insK
  split
  ·exact Nat.le_succ_of_le (Qv1 x l k)
  ·exact Nat.le_refl _
def insS (l : List Int) (x : Int) : List Int := (l.take (insK x l l.length) ++ [x]) ++ l.drop (insK x l l.length)
theorem QxA (l : List Int) (x : Int) : (insS l x).length = l.length + 1 := by
 have := Qv1 x l l.length
 simp only [insS, List.length_append, List.length_take, List.length_drop, List.length_singleton]
 omega
def sortS (l : List Int) : List Int := l.foldl insS []
def lenS (l : List Int) : Bool := decide (l.length ≤ 1000)
noncomputable def QJ9 : List DO := dT Tryz.f36 5
noncomputable def QJ8 : List DO := dT Tryz.f36 7
def QiF : Fg := ⟨[(0, some (.sl tI)), (3, none), (4, some tI), (5, some tI)], [(3, none), (32, none), (36, none), (42, none), (46, none)]⟩
noncomputable def Qko : TC := (.sq (.sq (.dr QJ9 [(0, []), (1, []), (2, []), (3, [3, 32, 36, 42, 46]), (4, []), (5, []), (6, [3, 32, 36, 42, 46]), (7, [3, 32, 36, 42, 46]), (8, []), (9, []), (10, []), (11, []), (12, []), (13, []), (14, []), (15, [])] (.of [0, 1, 2, 3, 4, 5, 6, 7, 8, 9, 10, 11, 12, 13, 14, 15])) (.cd (.t 29) .sk (.fg ⟨[(0, some (.sl tI)), (3, none), (4, some tI), (5, some tI)], [(3, none), (32, none), (36, none), (42, none), (46, none)]⟩ (.ex 2)))) (.bk 3 (.reg (rT Tryz.f36 6))))
def QiE : Fg := ⟨[(0, some (.sl tI)), (3, none), (4, some tI)], [(3, none), (32, none), (36, none), (42, none), (46, none)]⟩
noncomputable def Qkn : TC := (.mv [(32, 3)] (.sq (.sq (.reg (rT Tryz.f36 3)) (.cd (.t 9) .sk (.fg ⟨[(3, none)], [(3, none), (32, none), (36, none), (42, none), (46, none)]⟩ (.ex 0)))) (.sq (.bk 1 (.sq (.reg (rT Tryz.f36 4)) (.sq (.bk 2 (.lp 0 QiF Qko)) (.dr QJ8 [(0, [32, 5032, 10032, 15032]), (1, [3, 32, 36, 42, 46]), (2, []), (3, [3, 32, 36, 42, 46]), (4, [3, 32, 36, 42, 46, 5036, 10036, 15036]), (5, []), (6, []), (7, []), (8, []), (9, []), (10, [32, 36, 42, 5042, 10042, 15042]), (11, [3, 32, 36, 42, 46]), (12, []), (13, [3, 32, 36, 42, 46]), (14, [3, 32, 36, 42, 46, 5046, 10046, 15046]), (15, [32, 36, 42, 46])] (.one 2 (.one 5 (.one 6 (.one 7 (.one 8 (.one 9 (.one 12 (.alt 0 (.one 1 (.one 3 (.alt 4 (.alt 10 (.of [11, 13, 14, 15]) (.one 11 (.alt 10 (.of [13, 14, 15]) (.of [13, 10, 14, 15])))) (.one 11 (.alt 4 (.alt 10 (.of [13, 14, 15]) (.of [13, 10, 14, 15])) (.of [13, 4, 10, 14, 15])))))) (.alt 1 (.alt 0 (.one 3 (.alt 4 (.alt 10 (.of [11, 13, 14, 15]) (.one 11 (.alt 10 (.of [13, 14, 15]) (.of [13, 10, 14, 15])))) (.one 11 (.alt 4 (.alt 10 (.of [13, 14, 15]) (.of [13, 10, 14, 15])) (.of [13, 4, 10, 14, 15]))))) (.alt 3 (.alt 0 (.alt 4 (.alt 10 (.of [11, 13, 14, 15]) (.one 11 (.alt 10 (.of [13, 14, 15]) (.of [13, 10, 14, 15])))) (.one 11 (.alt 4 (.alt 10 (.of [13, 14, 15]) (.of [13, 10, 14, 15])) (.of [13, 4, 10, 14, 15])))) (.one 11 (.alt 0 (.alt 4 (.alt 10 (.of [13, 14, 15]) (.of [13, 10, 14, 15])) (.of [13, 4, 10, 14, 15])) (.of [13, 0, 4, 10, 14, 15])))) (.one 11 (.alt 0 (.one 3 (.alt 4 (.alt 10 (.of [13, 14, 15]) (.of [13, 10, 14, 15])) (.of [13, 4, 10, 14, 15]))) (.alt 3 (.alt 0 (.alt 4 (.alt 10 (.of [13, 14, 15]) (.of [13, 10, 14, 15])) (.of [13, 4, 10, 14, 15])) (.of [13, 0, 4, 10, 14, 15])) (.one 13 (.alt 0 (.of [3, 4, 10, 14, 15]) (.of [3, 0, 4, 10, 14, 15])))))))) (.one 11 (.alt 0 (.one 1 (.one 3 (.alt 4 (.alt 10 (.of [13, 14, 15]) (.of [13, 10, 14, 15])) (.of [13, 4, 10, 14, 15])))) (.alt 1 (.alt 0 (.one 3 (.alt 4 (.alt 10 (.of [13, 14, 15]) (.of [13, 10, 14, 15])) (.of [13, 4, 10, 14, 15]))) (.alt 3 (.alt 0 (.alt 4 (.alt 10 (.of [13, 14, 15]) (.of [13, 10, 14, 15])) (.of [13, 4, 10, 14, 15])) (.of [13, 0, 4, 10, 14, 15])) (.one 13 (.alt 0 (.of [3, 4, 10, 14, 15]) (.of [3, 0, 4, 10, 14, 15]))))) (.one 13 (.alt 0 (.of [1, 3, 4, 10, 14, 15]) (.one 1 (.alt 0 (.of [3, 4, 10, 14, 15]) (.of [3, 0, 4, 10, 14, 15]))))))))))))))))))))) (.reg (rT Tryz.f36 8)))))
noncomputable def QAI : TC := (.sq (.reg (rT Tryz.f36 0)) (.sq (.reg (rT Tryz.f36 1)) (.sq (.sq (.reg (rT Tryz.f36 2)) (.bk 0 (.nw 3 3 (.lp 1 QiE Qkn)))) (.sq (.reg (rT Tryz.f36 9)) .rt))))
def QMK : List (RV × Option Ty) := [((.t 2), none)]
abbrev Qpu : Sh := ⟨[(0, .ty (.sl tI)), (3, .ms 3), (4, .ty tI), (5, .ty tI)], [(3, .arr 3 tI), (32, .no), (36, .no), (42, .no), (46, .no)]⟩
def Qo5 (x0 : List Int) (x4 x5 : Int) (y3 : List Int) : VS := Qpu.st (x0, (), x4, x5, ()) (y3, (), (), (), (), ())
abbrev Qu8 : Sh := ⟨[(0, .ty (.sl tI)), (3, .ms 3), (4, .ty tI), (5, .ty tI)], [(3, .arr 3 tI), (32, .no), (36, .no), (42, .no), (46, .no)]⟩
def Qb4 (x0 : List Int) (x4 x5 : Int) (y3 : List Int) : VS := Qu8.st (x0, (), x4, x5, ()) (y3, (), (), (), (), ())
abbrev Qpt : Sh := ⟨[(0, .ty (.sl tI)), (3, .ms 3), (4, .ty tI)], [(3, .arr 3 tI), (32, .no), (36, .no), (42, .no), (46, .no)]⟩
def Qo4 (x0 : List Int) (x4 : Int) (y3 : List Int) : VS := Qpt.st (x0, (), x4, ()) (y3, (), (), (), (), ())
abbrev Qu7 : Sh := ⟨[(3, .ms 3)], [(3, .arr 3 tI), (32, .no), (36, .no), (42, .no), (46, .no)]⟩
def Qeo (y3 : List Int) : VS := Qu7.st ((), ()) (y3, (), (), (), (), ())
def QSi : VS → Option (Bool × List (Bool × Exit × VS)) := mkL Qpu (fun x y => (decide (0 ≤ x.2.2.2.1 ∧ x.2.2.2.1 ≤ y.1.length ∧ y.1.length ≤ 1000) && cIx x.1 x.2.2.1)) (fun x y => [(true, .exit 2, Qb4 (x.1) (x.2.2.1) ((insK (lgt tI x.1 x.2.2.1.toNat) y.1 x.2.2.2.1.toNat : Nat) : Int) (y.1))])
def QSh : VS → Option (Bool × List (Bool × Exit × VS)) := mkL Qpt (fun x y => (decide (0 ≤ x.2.2.1 ∧ x.2.2.1 ≤ x.1.length ∧ x.1.length ≤ 1000 ∧ y.1.length ≤ x.2.2.1.toNat))) (fun x y => [(true, .exit 0, Qeo ((x.1.drop x.2.2.1.toNat).foldl insS y.1))])
def g_f36 : G := ⟨TYs, [32], 48, EL [(58, QLD)], keeps, (Ls [QSi, QSh]), IL [], RL []⟩
def QHl (x0 : List Int) (x4 x5 : Int) (y3 : List Int) : Option (Exit × VS) :=
 let a1 := isub .i64 x5 1
 br (igt x5 0) (br (cIx y3 a1) (br (cLd y3 (Int.toNat a1)) (br (cIx x0 x4) (br (ilt (QaU (lgt tI y3 (Int.toNat a1))) (QaU (lgt tI x0 (Int.toNat x4)))) (some (.normal, Qo5 x0 x4 a1 y3)) (some (.exit 2, Qb4 x0 x4 x5 y3))) none) none) none) (some (.exit 2, Qb4 x0 x4 x5 y3))
noncomputable def Qk6 (x0 : List Int) (x4 x5 : Int) (y3 : List Int) : Option (Exit × VS) := loopF (Qaj g_f36 QiF Qko) (Qo5 x0 x4 x5 y3)
noncomputable def Qqn (x0 : List Int) (x4 x5 : Int) (y3 : List Int) : Option (Exit × VS) :=
 let a1 := isub .i64 x5 1
 br (igt x5 0) (br (cIx y3 a1) (br (cLd y3 (Int.toNat a1)) (br (cIx x0 x4) (br (ilt (QaU (lgt tI y3 (Int.toNat a1))) (QaU (lgt tI x0 (Int.toNat x4)))) (Qk6 x0 x4 a1 y3) (some (.exit 2, Qb4 x0 x4 x5 y3))) none) none) none) (some (.exit 2, Qb4 x0 x4 x5 y3))
def Qlm (x0 : List Int) (x4 x5 : Int) (y3 : List Int) : Option (Exit × VS) := some (.exit 2, Qb4 (x0) (x4) ((insK (lgt tI x0 x4.toNat) y3 x5.toNat : Nat) : Int) (y3))
theorem QKF (x0 : List Int) (x4 x5 : Int) (y3 : List Int) : Qaj g_f36 QiF Qko (Qo5 x0 x4 x5 y3) = QHl x0 x4 x5 y3 := by kernel_rfl
theorem Qxm (x0 : List Int) (x4 x5 : Int) (y3 : List Int) : Qk6 x0 x4 x5 y3 = Qqn x0 x4 x5 y3 := (Qaq _ _).trans (by
 rw [QKF]
 simp only [QHl, Qqn, QaE, nxt_n, nxt_r, nxt_e, nxt_0]
 rfl)
def QiY (x0 : List Int) (x4 : Int) (y3 : List Int) : Option (Exit × VS) :=
 let a1 := ((insK (lgt tI x0 x4.toNat) y3 (llen y3).toNat : Nat) : Int)
 let a2 := (wnL tI (y3) (Int.toNat a1) (Int.toNat ((List.length (y3) : Nat) : Int) - Int.toNat a1))
 let a3 := wnL tI (y3) (Int.toNat 0) (Int.toNat a1 - Int.toNat 0)
 let a4 := lgt tI (x0) (Int.toNat (x4))
 br (cApp ((([] : List Int) ++ a3) ++ ([a4])) a2 8) (some (.normal, Qo4 (x0) (iadd .i64 (x4) 1) (((([] : List Int) ++ a3) ++ ([a4])) ++ a2))) none
def QiZ (x0 : List Int) (x4 : Int) (y3 : List Int) : Option (Exit × VS) :=
 let a1 := ((insK (lgt tI x0 x4.toNat) y3 (llen y3).toNat : Nat) : Int)
 br (cApp (([] : List Int) ++ (wnL tI (y3) (Int.toNat 0) (Int.toNat a1 - Int.toNat 0))) ([(lgt tI (x0) (Int.toNat (x4)))]) 8) (br (cWn (y3) a1 ((List.length (y3) : Nat) : Int)) (QiY x0 x4 y3) none) none
def QiW (x0 : List Int) (x4 : Int) (y3 : List Int) : Option (Exit × VS) := br (cApp (([] : List Int) ++ (wnL tI (y3) (Int.toNat 0) (Int.toNat ((insK (lgt tI x0 x4.toNat) y3 (llen y3).toNat : Nat) : Int) - Int.toNat 0))) ([(lgt tI (x0) (Int.toNat (x4)))]) 8) (QiY x0 x4 y3) none
def QiX (x0 : List Int) (x4 : Int) (y3 : List Int) : Option (Exit × VS) := frk (QiZ x0 x4 y3) (br (cWn (y3) ((insK (lgt tI x0 x4.toNat) y3 (llen y3).toNat : Nat) : Int) ((List.length (y3) : Nat) : Int)) (QiW x0 x4 y3) none)
def QiU (x0 : List Int) (x4 : Int) (y3 : List Int) : Option (Exit × VS) := br (cApp ([] : List Int) (wnL tI (y3) (Int.toNat 0) (Int.toNat ((insK (lgt tI x0 x4.toNat) y3 (llen y3).toNat : Nat) : Int) - Int.toNat 0)) 8) (QiW x0 x4 y3) none
def QiV (x0 : List Int) (x4 : Int) (y3 : List Int) : Option (Exit × VS) := br (cWn (y3) ((insK (lgt tI x0 x4.toNat) y3 (llen y3).toNat : Nat) : Int) ((List.length (y3) : Nat) : Int)) (QiU x0 x4 y3) none
def QfU (x0 : List Int) (x4 : Int) (y3 : List Int) : Option (Exit × VS) := frk (br (cApp ([] : List Int) (wnL tI (y3) (Int.toNat 0) (Int.toNat ((insK (lgt tI x0 x4.toNat) y3 (llen y3).toNat : Nat) : Int) - Int.toNat 0)) 8) (QiX x0 x4 y3) none) (QiV x0 x4 y3)
def Qi0 (x0 : List Int) (x4 : Int) (y3 : List Int) : Option (Exit × VS) := frk (br (cApp ([] : List Int) (wnL tI (y3) (Int.toNat 0) (Int.toNat ((insK (lgt tI x0 x4.toNat) y3 (llen y3).toNat : Nat) : Int) - Int.toNat 0)) 8) (frk (QiZ x0 x4 y3) (QiX x0 x4 y3)) none) (QfU x0 x4 y3)
def Qi1 (x0 : List Int) (x4 : Int) (y3 : List Int) : Option (Exit × VS) := br (cWn (y3) 0 ((insK (lgt tI x0 x4.toNat) y3 (llen y3).toNat : Nat) : Int)) (Qi0 x0 x4 y3) none
def Qgt (x0 : List Int) (x4 : Int) (y3 : List Int) : Option (Exit × VS) := frk (QfU x0 x4 y3) (QiV x0 x4 y3)
def Qgr (x0 : List Int) (x4 : Int) (y3 : List Int) : Option (Exit × VS) := br (cWn (y3) 0 ((insK (lgt tI x0 x4.toNat) y3 (llen y3).toNat : Nat) : Int)) (QfU x0 x4 y3) none
def Qd7 (x0 : List Int) (x4 : Int) (y3 : List Int) : Option (Exit × VS) := br (cWn (y3) 0 ((insK (lgt tI x0 x4.toNat) y3 (llen y3).toNat : Nat) : Int)) (QiU x0 x4 y3) none
def Qgq (x0 : List Int) (x4 : Int) (y3 : List Int) : Option (Exit × VS) := frk (Qd7 x0 x4 y3) (Qd7 x0 x4 y3)
def Qgs (x0 : List Int) (x4 : Int) (y3 : List Int) : Option (Exit × VS) :=
 let a1 := ((insK (lgt tI x0 x4.toNat) y3 (llen y3).toNat : Nat) : Int)
 frk (Qgr x0 x4 y3) (frk (br (cWn (y3) 0 a1) (Qgt x0 x4 y3) none) (br (cWn (y3) a1 ((List.length (y3) : Nat) : Int)) (Qgq x0 x4 y3) none))
def Qwv (x0 : List Int) (x4 : Int) (y3 : List Int) : Option (Exit × VS) :=
 let a1 := ((insK (lgt tI x0 x4.toNat) y3 (llen y3).toNat : Nat) : Int)
 br (ilt x4 (llen x0)) (br (decide (0 ≤ (llen y3) ∧ (llen y3) ≤ y3.length ∧ y3.length ≤ 1000) && cIx x0 x4) (br (cIx (x0) (x4)) (frk (Qi1 x0 x4 y3) (frk (frk (Qi1 x0 x4 y3) (frk (br (cWn (y3) 0 a1) (frk (Qi0 x0 x4 y3) (Qgt x0 x4 y3)) none) (Qgs x0 x4 y3))) (frk (Qgr x0 x4 y3) (frk (Qgs x0 x4 y3) (br (cWn (y3) a1 ((List.length (y3) : Nat) : Int)) (frk (Qd7 x0 x4 y3) (Qgq x0 x4 y3)) none))))) none) none) (some (.exit 0, Qeo y3))
noncomputable def Qk5 (x0 : List Int) (x4 : Int) (y3 : List Int) : Option (Exit × VS) := loopF (Qaj g_f36 QiE Qkn) (Qo4 x0 x4 y3)
noncomputable def QdZ (x0 : List Int) (x4 : Int) (y3 : List Int) : Option (Exit × VS) :=
 let a1 := ((insK (lgt tI x0 x4.toNat) y3 (llen y3).toNat : Nat) : Int)
 let a2 := (wnL tI (y3) (Int.toNat a1) (Int.toNat ((List.length (y3) : Nat) : Int) - Int.toNat a1))
 let a3 := wnL tI (y3) (Int.toNat 0) (Int.toNat a1 - Int.toNat 0)
 let a4 := lgt tI (x0) (Int.toNat (x4))
 br (cApp ((([] : List Int) ++ a3) ++ ([a4])) a2 8) (Qk5 (x0) (iadd .i64 (x4) 1) (((([] : List Int) ++ a3) ++ ([a4])) ++ a2)) none
noncomputable def Qd0 (x0 : List Int) (x4 : Int) (y3 : List Int) : Option (Exit × VS) :=
 let a1 := ((insK (lgt tI x0 x4.toNat) y3 (llen y3).toNat : Nat) : Int)
 br (cApp (([] : List Int) ++ (wnL tI (y3) (Int.toNat 0) (Int.toNat a1 - Int.toNat 0))) ([(lgt tI (x0) (Int.toNat (x4)))]) 8) (br (cWn (y3) a1 ((List.length (y3) : Nat) : Int)) (QdZ x0 x4 y3) none) none
noncomputable def QdX (x0 : List Int) (x4 : Int) (y3 : List Int) : Option (Exit × VS) := br (cApp (([] : List Int) ++ (wnL tI (y3) (Int.toNat 0) (Int.toNat ((insK (lgt tI x0 x4.toNat) y3 (llen y3).toNat : Nat) : Int) - Int.toNat 0))) ([(lgt tI (x0) (Int.toNat (x4)))]) 8) (QdZ x0 x4 y3) none
noncomputable def QdY (x0 : List Int) (x4 : Int) (y3 : List Int) : Option (Exit × VS) := frk (Qd0 x0 x4 y3) (br (cWn (y3) ((insK (lgt tI x0 x4.toNat) y3 (llen y3).toNat : Nat) : Int) ((List.length (y3) : Nat) : Int)) (QdX x0 x4 y3) none)
noncomputable def QdV (x0 : List Int) (x4 : Int) (y3 : List Int) : Option (Exit × VS) := br (cApp ([] : List Int) (wnL tI (y3) (Int.toNat 0) (Int.toNat ((insK (lgt tI x0 x4.toNat) y3 (llen y3).toNat : Nat) : Int) - Int.toNat 0)) 8) (QdX x0 x4 y3) none
noncomputable def QdW (x0 : List Int) (x4 : Int) (y3 : List Int) : Option (Exit × VS) := br (cWn (y3) ((insK (lgt tI x0 x4.toNat) y3 (llen y3).toNat : Nat) : Int) ((List.length (y3) : Nat) : Int)) (QdV x0 x4 y3) none
noncomputable def QcR (x0 : List Int) (x4 : Int) (y3 : List Int) : Option (Exit × VS) := frk (br (cApp ([] : List Int) (wnL tI (y3) (Int.toNat 0) (Int.toNat ((insK (lgt tI x0 x4.toNat) y3 (llen y3).toNat : Nat) : Int) - Int.toNat 0)) 8) (QdY x0 x4 y3) none) (QdW x0 x4 y3)
noncomputable def Qd1 (x0 : List Int) (x4 : Int) (y3 : List Int) : Option (Exit × VS) := frk (br (cApp ([] : List Int) (wnL tI (y3) (Int.toNat 0) (Int.toNat ((insK (lgt tI x0 x4.toNat) y3 (llen y3).toNat : Nat) : Int) - Int.toNat 0)) 8) (frk (Qd0 x0 x4 y3) (QdY x0 x4 y3)) none) (QcR x0 x4 y3)
noncomputable def Qd2 (x0 : List Int) (x4 : Int) (y3 : List Int) : Option (Exit × VS) := br (cWn (y3) 0 ((insK (lgt tI x0 x4.toNat) y3 (llen y3).toNat : Nat) : Int)) (Qd1 x0 x4 y3) none
noncomputable def QcK (x0 : List Int) (x4 : Int) (y3 : List Int) : Option (Exit × VS) := frk (QcR x0 x4 y3) (QdW x0 x4 y3)
noncomputable def QcI (x0 : List Int) (x4 : Int) (y3 : List Int) : Option (Exit × VS) := br (cWn (y3) 0 ((insK (lgt tI x0 x4.toNat) y3 (llen y3).toNat : Nat) : Int)) (QcR x0 x4 y3) none
noncomputable def Qb9 (x0 : List Int) (x4 : Int) (y3 : List Int) : Option (Exit × VS) := br (cWn (y3) 0 ((insK (lgt tI x0 x4.toNat) y3 (llen y3).toNat : Nat) : Int)) (QdV x0 x4 y3) none
noncomputable def QcH (x0 : List Int) (x4 : Int) (y3 : List Int) : Option (Exit × VS) := frk (Qb9 x0 x4 y3) (Qb9 x0 x4 y3)
noncomputable def QcJ (x0 : List Int) (x4 : Int) (y3 : List Int) : Option (Exit × VS) :=
 let a1 := ((insK (lgt tI x0 x4.toNat) y3 (llen y3).toNat : Nat) : Int)
 frk (QcI x0 x4 y3) (frk (br (cWn (y3) 0 a1) (QcK x0 x4 y3) none) (br (cWn (y3) a1 ((List.length (y3) : Nat) : Int)) (QcH x0 x4 y3) none))
noncomputable def Qm7 (x0 : List Int) (x4 : Int) (y3 : List Int) : Option (Exit × VS) :=
 let a1 := ((insK (lgt tI x0 x4.toNat) y3 (llen y3).toNat : Nat) : Int)
 br (ilt x4 (llen x0)) (br (decide (0 ≤ (llen y3) ∧ (llen y3) ≤ y3.length ∧ y3.length ≤ 1000) && cIx x0 x4) (br (cIx (x0) (x4)) (frk (Qd2 x0 x4 y3) (frk (frk (Qd2 x0 x4 y3) (frk (br (cWn (y3) 0 a1) (frk (Qd1 x0 x4 y3) (QcK x0 x4 y3)) none) (QcJ x0 x4 y3))) (frk (QcI x0 x4 y3) (frk (QcJ x0 x4 y3) (br (cWn (y3) a1 ((List.length (y3) : Nat) : Int)) (frk (Qb9 x0 x4 y3) (QcH x0 x4 y3)) none))))) none) none) (some (.exit 0, Qeo y3))
def Qll (x0 : List Int) (x4 : Int) (y3 : List Int) : Option (Exit × VS) := some (.exit 0, Qeo ((x0.drop x4.toNat).foldl insS y3))
theorem QKE (x0 : List Int) (x4 : Int) (y3 : List Int) : Qaj g_f36 QiE Qkn (Qo4 x0 x4 y3) = Qwv x0 x4 y3 := by kernel_rfl
theorem Qxl (x0 : List Int) (x4 : Int) (y3 : List Int) : Qk5 x0 x4 y3 = Qm7 x0 x4 y3 := (Qaq _ _).trans (by
 rw [QKE]
 first
 |(simp only [Qwv, Qi1, Qi0, QiZ, QiY, QiX, QiW, QfU, QiV, QiU, Qgt, Qgs, Qgr, Qgq, Qd7, Qbw, Qm7, Qd2, Qd1, Qd0, QdZ, QdY, QdX, QcR, QdW, QdV, QcK, QcJ, QcI, QcH, Qb9, Qbw, QaE, nxt_n, nxt_r, nxt_e, nxt_0]
   rfl)
 |(simp only [Qwv, Qi1, Qi0, QiZ, QiY, QiX, QiW, QfU, QiV, QiU, Qgt, Qgs, Qgr, Qgq, Qd7, Qbw, Qm7, Qd2, Qd1, Qd0, QdZ, QdY, QdX, QcR, QdW, QdV, QcK, QcJ, QcI, QcH, Qb9, Qbw]
   try generalize (cApp ((([] : List Int) ++ (wnL tI (y3) (Int.toNat 0) (Int.toNat (((insK (lgt tI x0 x4.toNat) y3 (llen y3).toNat : Nat) : Int)) - Int.toNat 0))) ++ ([(lgt tI (x0) (Int.toNat (x4)))])) (wnL tI (y3) (Int.toNat (((insK (lgt tI x0 x4.toNat) y3 (llen y3).toNat : Nat) : Int))) (Int.toNat ((List.length (y3) : Nat) : Int) - Int.toNat (((insK (lgt tI x0 x4.toNat) y3 (llen y3).toNat : Nat) : Int)))) 8) = cq0
   try generalize (cWn (y3) (((insK (lgt tI x0 x4.toNat) y3 (llen y3).toNat : Nat) : Int)) ((List.length (y3) : Nat) : Int)) = cq1
   try generalize (cApp (([] : List Int) ++ (wnL tI (y3) (Int.toNat 0) (Int.toNat (((insK (lgt tI x0 x4.toNat) y3 (llen y3).toNat : Nat) : Int)) - Int.toNat 0))) ([(lgt tI (x0) (Int.toNat (x4)))]) 8) = cq2
   try generalize (cApp ([] : List Int) (wnL tI (y3) (Int.toNat 0) (Int.toNat (((insK (lgt tI x0 x4.toNat) y3 (llen y3).toNat : Nat) : Int)) - Int.toNat 0)) 8) = cq3
   try generalize (cWn (y3) 0 (((insK (lgt tI x0 x4.toNat) y3 (llen y3).toNat : Nat) : Int))) = cq4
   try generalize (cIx (x0) (x4)) = cq5
   try generalize ((decide (0 ≤ (llen y3) ∧ (llen y3) ≤ y3.length ∧ y3.length ≤ 1000) && cIx x0 x4)) = cq6
   simp only [brN, Qbw, Bool.and_assoc, Bool.and_comm, Bool.and_left_comm, Bool.and_self, Bool.and_self_left, QaE, nxt_n, nxt_r, nxt_e, nxt_0]
   try rfl))
def r_f36 (p0 : List Int) : Option (V × List VO) := br (decide (0 ≤ (0 : Int) ∧ (0 : Int) ≤ p0.length ∧ p0.length ≤ 1000 ∧ ([] : List Int).length ≤ (0 : Int).toNat)) (some (.ms 50000, [.arr 3 tI ((p0.drop (0 : Int).toNat).foldl insS ([] : List Int))])) none
theorem e_f36 (p0 : List Int) : runF g_f36 QAI QMK true [.t (.sl tI) p0] [] = r_f36 p0 := by kernel_rfl
theorem en_f36 : Qag Tryz.prog 36 := .inr ⟨by decide, _, Tryz.func36, by kernel_rfl, by kernel_rfl⟩
theorem gk_f36 : GOk Tryz.prog g_f36 := Qao _ (gA (gC en_f58 ms_f58 gN))
theorem QQa (x0 : List Int) (x4 x5 : Int) (y3 : List Int) (h : (decide (0 ≤ x5 ∧ x5 ≤ y3.length ∧ y3.length ≤ 1000) && cIx x0 x4) = true) : Qk6 x0 x4 x5 y3 = Qlm x0 x4 x5 y3 := by
 obtain ⟨h, hc⟩ := Bool.and_eq_true_iff.1 h
 obtain ⟨h0, h1, h2⟩ := of_decide_eq_true h
 obtain ⟨k, rfl⟩ := Int.eq_ofNat_of_zero_le h0
 have key : ∀ k : Nat, k ≤ y3.length → Qk6 x0 x4 (k : Int) y3 = Qlm x0 x4 (k : Int) y3 := by
  intro k
  induction k with
  | zero =>
   intro _
   rw [Qxm]
   simp only [Qqn, Qlm, show igt ((0 : Nat) : Int) 0 = false from rfl, Qae, Int.toNat_natCast]
   rfl
  | succ k ih =>
   intro hk
   rw [Qxm]
   have e1 : isub .i64 ((k + 1 : Nat) : Int) 1 = (k : Int) := by rw [QbF (by omega)]; omega
   have e2 : cLd y3 k = true := decide_eq_true (by omega)
   simp only [Qqn, show igt ((k + 1 : Nat) : Int) 0 = true from decide_eq_true (by omega), Qac, e1, Qay, show k < y3.length by omega, decide_true, Int.toNat_natCast, e2, hc, ih (by omega)]
   simp only [Qlm, Int.toNat_natCast]
   rw [show insK (lgt tI x0 x4.toNat) y3 (k + 1) = if ilt (QaU (y3.getD k 0)) (QaU (lgt tI x0 x4.toNat)) = true then insK (lgt tI x0 x4.toNat) y3 k else k + 1 from rfl]
   show br (ilt (QaU (y3.getD k 0)) (QaU (lgt tI x0 x4.toNat))) _ _ = _
   cases ilt (QaU (y3.getD k 0)) (QaU (lgt tI x0 x4.toNat)) <;> rfl
 exact key k (by omega)
theorem QP9 (x0 : List Int) (x4 : Int) (y3 : List Int) (h : (decide (0 ≤ x4 ∧ x4 ≤ x0.length ∧ x0.length ≤ 1000 ∧ y3.length ≤ x4.toNat)) = true) : Qk5 x0 x4 y3 = Qll x0 x4 y3 := by
 simp only [decide_eq_true_eq] at h
 obtain ⟨h0, h1, h2, h3⟩ := h
 obtain ⟨k, rfl⟩ := Int.eq_ofNat_of_zero_le h0
 rw [Int.toNat_natCast] at h3
 revert y3
 refine Qav x0 (fun k => ∀ y3 : List Int, y3.length ≤ k → Qk5 x0 (k : Int) y3 = Qll x0 (k : Int) y3) ?_ ?_ k (by omega)
 ·intro y3 _
  rw [Qxl]
  simp only [Qm7, Qd2, Qd1, Qd0, QdZ, QdY, QdX, QcR, QdW, QdV, QcK, QcJ, QcI, QcH, Qb9, Qbw, Qll, show ilt (x0.length : Int) (llen x0) = false from decide_eq_false (by simp only [llen]; omega), Qae, Int.toNat_natCast, List.drop_length, List.foldl_nil]
 ·intro k hk ih y3 hy
  rw [Qxl]
  have hle := Qv1 x0[k] y3 y3.length
  obtain ⟨q, hq⟩ : ∃ q, q = insK x0[k] y3 y3.length := ⟨_, rfl⟩
  rw [← hq] at hle
  have c0 : decide ((0 : Int) ≤ (y3.length : Nat) ∧ ((y3.length : Nat) : Int) ≤ y3.length ∧ y3.length ≤ 1000) = true := decide_eq_true (by omega)
  have c1 : cWn y3 0 (q : Int) = true := decide_eq_true (by omega)
  have c2 : cWn y3 (q : Int) (y3.length : Nat) = true := decide_eq_true (by omega)
  have w1 : wnL tI y3 0 (q - 0) = y3.take q := by rw [Qq3 (by omega), List.drop_zero, Nat.sub_zero]
  have w2 : wnL tI y3 q (y3.length - q) = y3.drop q := by rw [Qq3 (by omega), List.take_of_length_le (by rw [List.length_drop]; omega)]
  have a1 : cApp ([] : List Int) (y3.take q) 8 = true := cAppN (by omega) (by simp only [List.length_nil, List.length_take]; omega)
  have a2 : cApp (y3.take q) [x0[k]] 8 = true := cAppN (by omega) (by simp only [List.length_singleton, List.length_take]; omega)
  have a3 : cApp (y3.take q ++ [x0[k]]) (y3.drop q) 8 = true := cAppN (by omega) (by simp only [List.length_append, List.length_singleton, List.length_take, List.length_drop]; omega)
  simp only [Qm7, Qd2, Qd1, Qd0, QdZ, QdY, QdX, QcR, QdW, QdV, QcK, QcJ, QcI, QcH, Qb9, Qbw, show ilt (k : Int) (llen x0) = true from decide_eq_true (by simp only [llen]; omega), Qay, hk, decide_true, Bool.and_true, Qac, Int.toNat_natCast, Int.toNat_zero, add1 (show k < 4611686018427387904 by omega), QaG (y := tI) hk, llen, c0, ← hq, c1, c2, w1, w2, List.nil_append, a1, a2, a3, Qbw]
  have e := ih (insS y3 x0[k]) (by rw [QxA]; omega)
  simp only [insS, ← hq] at e
  rw [e]
  simp only [Qll, Int.toNat_natCast, List.drop_eq_getElem_cons hk, List.foldl_cons, insS, ← hq]
theorem QIM : ∀ S l p, g_f36.L 0 (fgt QiF S) = some (true, l) → pickA l = some p → loopF (Qaj g_f36 QiF Qko) S = some p :=
 QaF (s := Qpu) ⟨by decide, by decide⟩ (by kernel_rfl) fun x y hok p hp => by
 simp only [Qar, Qap] at hp
 exact (QQa x.1 x.2.2.1 x.2.2.2.1 y.1 (by simpa using hok)).trans hp
theorem QIL : ∀ S l p, g_f36.L 1 (fgt QiE S) = some (true, l) → pickA l = some p → loopF (Qaj g_f36 QiE Qkn) S = some p :=
 QaF (s := Qpt) ⟨by decide, by decide⟩ (by kernel_rfl) fun x y hok p hp => by
 simp only [Qar, Qap] at hp
 exact (QP9 x.1 x.2.2.1 y.1 (by simpa using hok)).trans hp
theorem lk_f36 : QAI.lok g_f36 := by
 repeat (first | exact trivial | exact QIM | exact QIL | refine ⟨?_, ?_⟩)
theorem s_f36 (l : List Int) (h : lenS l = true) : r_f36 l = some (.ms 50000, [.arr 3 tI (sortS l)]) := by
 simp only [lenS, decide_eq_true_eq] at h
 refine Eq.trans (congrArg (fun b => br b _ _) (decide_eq_true ⟨Int.le_refl _, by omega, h, by simp⟩)) ?_
 rfl
def QLO : Ent := specO (.pr (.sl tI) .nil) (fun x => (lenS x.1)) (fun x => (.ms 50000)) (fun x => [.arr 3 tI (sortS x.1)])
theorem ms_f36 : Meets Tryz.prog 36 (strip QLO) := QgY (R := runF g_f36 QAI QMK true) (mG Tryz.func36 (by kernel_rfl) Tryz.ntmps36 (by kernel_rfl) gk_f36 lk_f36) fun x hok => (e_f36 x.1).trans (s_f36 x.1 hok)
end
end Go.Proofs.YtkngeegkjhipeaaGreat.K
