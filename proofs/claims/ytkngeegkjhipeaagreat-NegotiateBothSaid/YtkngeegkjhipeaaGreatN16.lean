import Derived.Test.YtkngeegkjhipeaaGreatN15
set_option linter.unusedSimpArgs false
set_option linter.unusedVariables false
namespace Go.Proofs.YtkngeegkjhipeaaGreat.K
open Go.RowKit
noncomputable section
-- loop 0: (x0 : (List Keep)) (x1 : (List Keep)) (x5 : Int); out: ('ret',) (x4 : Bool); ('exit', 0)
theorem brN {β : Type} {p q : Bool} {X : Option β} : br p (br q X none) none = br (p && q) X none := by cases p <;> rfl
def QaX (c : Int) : Int := bif ine (Qay c).2 0 then 0 else strF (Qay c).1.2.2.2.2.1
noncomputable def QzT : TC := (.sq (.reg (rT Tryz.f58 0)) (.sq (.reg (rT Tryz.f58 1)) (.sq (.sq (.reg (rT Tryz.f58 2)) (.cd (.t 11) (.sq (.reg (rT Tryz.f58 3)) .rt) .sk)) (.sq (.reg (rT Tryz.f58 4)) .rt))))
def QLL : List (RV × Option Ty) := [((.t 2), some tI)]
def g_f58 : G := ⟨TYs, [], 15, EL [(26, QAG), (88, QAy)], keeps, (fun _ _ => none), IL [], RL []⟩
def r_f58 (p0 : Int) : Option (V × List VO) := br (ine ((Qay p0).2) 0) (some (.t tI 0, [])) (some (.t tI (strF (((((((Qay p0).1).2).2).2).2).1)), []))
theorem e_f58 (p0 : Int) : runF g_f58 QzT QLL false [.t tI p0] [] = r_f58 p0 := by kernel_rfl
theorem en_f58 : Qag Tryz.prog 58 := .inr ⟨by decide, _, Tryz.func58, by kernel_rfl, by kernel_rfl⟩
theorem gk_f58 : GOk Tryz.prog g_f58 := Qal _ (gA (gC QMT QMB (gC QMN QMu gN)))
theorem lk_f58 : QzT.lok g_f58 := by repeat (first | exact trivial | refine ⟨?_, ?_⟩)
theorem s_f58 (c : Int) : r_f58 c = some (.t tI (QaX c), []) := by
 simp only [r_f58]
 unfold QaX
 cases ine (Qay c).2 0 <;> rfl
def QKY : Ent := spec (.pr tI .nil) (fun x => true) (fun x => (.t tI (QaX x.1)))
theorem ms_f58 : Meets Tryz.prog 58 (strip QKY) := Qaf (R := runF g_f58 QzT QLL false) (mG Tryz.func58 (by kernel_rfl) Tryz.ntmps58 (by kernel_rfl) gk_f58 lk_f58) fun x _ => (e_f58 x.1).trans (s_f58 x.1)
def insK (x : Int) (l : List Int) : Nat → Nat
 | 0 => 0
 | k + 1 => if ilt (QaX (l.getD k 0)) (QaX x) = true then insK x l k else k + 1
theorem Qvv (x : Int) (l : List Int) : ∀ k, insK x l k ≤ k
 | 0 => Nat.le_refl _
 | k + 1 => by
  unfold insK
  split
  ·exact Nat.le_succ_of_le (Qvv x l k)
  ·exact Nat.le_refl _
def insS (l : List Int) (x : Int) : List Int := (l.take (insK x l l.length) ++ [x]) ++ l.drop (insK x l l.length)
theorem Qw2 (l : List Int) (x : Int) : (insS l x).length = l.length + 1 := by
 have := Qvv x l l.length
 simp only [insS, List.length_append, List.length_take, List.length_drop, List.length_singleton]
 omega
def sortS (l : List Int) : List Int := l.foldl insS []
def lenS (l : List Int) : Bool := decide (l.length ≤ 1000)
noncomputable def QJw : List DO := dT Tryz.f36 5
noncomputable def QJv : List DO := dT Tryz.f36 7
def Qiy : Fg := ⟨[(0, some (.sl tI)), (3, none), (4, some tI), (5, some tI)], [(3, none), (32, none), (36, none), (42, none), (46, none)]⟩
noncomputable def Qkh : TC := (.sq (.sq (.dr QJw [(0, []), (1, []), (2, []), (3, [3, 32, 36, 42, 46]), (4, []), (5, []), (6, [3, 32, 36, 42, 46]), (7, [3, 32, 36, 42, 46]), (8, []), (9, []), (10, []), (11, []), (12, []), (13, []), (14, []), (15, [])] (.of [0, 1, 2, 3, 4, 5, 6, 7, 8, 9, 10, 11, 12, 13, 14, 15])) (.cd (.t 29) .sk (.fg ⟨[(0, some (.sl tI)), (3, none), (4, some tI), (5, some tI)], [(3, none), (32, none), (36, none), (42, none), (46, none)]⟩ (.ex 2)))) (.bk 3 (.reg (rT Tryz.f36 6))))
def Qix : Fg := ⟨[(0, some (.sl tI)), (3, none), (4, some tI)], [(3, none), (32, none), (36, none), (42, none), (46, none)]⟩
noncomputable def Qkg : TC := (.mv [(32, 3)] (.sq (.sq (.reg (rT Tryz.f36 3)) (.cd (.t 9) .sk (.fg ⟨[(3, none)], [(3, none), (32, none), (36, none), (42, none), (46, none)]⟩ (.ex 0)))) (.sq (.bk 1 (.sq (.reg (rT Tryz.f36 4)) (.sq (.bk 2 (.lp 0 Qiy Qkh)) (.dr QJv [(0, [32, 5032, 10032, 15032]), (1, [3, 32, 36, 42, 46]), (2, []), (3, [3, 32, 36, 42, 46]), (4, [3, 32, 36, 42, 46, 5036, 10036, 15036]), (5, []), (6, []), (7, []), (8, []), (9, []), (10, [32, 36, 42, 5042, 10042, 15042]), (11, [3, 32, 36, 42, 46]), (12, []), (13, [3, 32, 36, 42, 46]), (14, [3, 32, 36, 42, 46, 5046, 10046, 15046]), (15, [32, 36, 42, 46])] (.one 2 (.one 5 (.one 6 (.one 7 (.one 8 (.one 9 (.one 12 (.alt 0 (.one 1 (.one 3 (.alt 4 (.alt 10 (.of [11, 13, 14, 15]) (.one 11 (.alt 10 (.of [13, 14, 15]) (.of [13, 10, 14, 15])))) (.one 11 (.alt 4 (.alt 10 (.of [13, 14, 15]) (.of [13, 10, 14, 15])) (.of [13, 4, 10, 14, 15])))))) (.alt 1 (.alt 0 (.one 3 (.alt 4 (.alt 10 (.of [11, 13, 14, 15]) (.one 11 (.alt 10 (.of [13, 14, 15]) (.of [13, 10, 14, 15])))) (.one 11 (.alt 4 (.alt 10 (.of [13, 14, 15]) (.of [13, 10, 14, 15])) (.of [13, 4, 10, 14, 15]))))) (.alt 3 (.alt 0 (.alt 4 (.alt 10 (.of [11, 13, 14, 15]) (.one 11 (.alt 10 (.of [13, 14, 15]) (.of [13, 10, 14, 15])))) (.one 11 (.alt 4 (.alt 10 (.of [13, 14, 15]) (.of [13, 10, 14, 15])) (.of [13, 4, 10, 14, 15])))) (.one 11 (.alt 0 (.alt 4 (.alt 10 (.of [13, 14, 15]) (.of [13, 10, 14, 15])) (.of [13, 4, 10, 14, 15])) (.of [13, 0, 4, 10, 14, 15])))) (.one 11 (.alt 0 (.one 3 (.alt 4 (.alt 10 (.of [13, 14, 15]) (.of [13, 10, 14, 15])) (.of [13, 4, 10, 14, 15]))) (.alt 3 (.alt 0 (.alt 4 (.alt 10 (.of [13, 14, 15]) (.of [13, 10, 14, 15])) (.of [13, 4, 10, 14, 15])) (.of [13, 0, 4, 10, 14, 15])) (.one 13 (.alt 0 (.of [3, 4, 10, 14, 15]) (.of [3, 0, 4, 10, 14, 15])))))))) (.one 11 (.alt 0 (.one 1 (.one 3 (.alt 4 (.alt 10 (.of [13, 14, 15]) (.of [13, 10, 14, 15])) (.of [13, 4, 10, 14, 15])))) (.alt 1 (.alt 0 (.one 3 (.alt 4 (.alt 10 (.of [13, 14, 15]) (.of [13, 10, 14, 15])) (.of [13, 4, 10, 14, 15]))) (.alt 3 (.alt 0 (.alt 4 (.alt 10 (.of [13, 14, 15]) (.of [13, 10, 14, 15])) (.of [13, 4, 10, 14, 15])) (.of [13, 0, 4, 10, 14, 15])) (.one 13 (.alt 0 (.of [3, 4, 10, 14, 15]) (.of [3, 0, 4, 10, 14, 15]))))) (.one 13 (.alt 0 (.of [1, 3, 4, 10, 14, 15]) (.one 1 (.alt 0 (.of [3, 4, 10, 14, 15]) (.of [3, 0, 4, 10, 14, 15]))))))))))))))))))))) (.reg (rT Tryz.f36 8)))))
noncomputable def Qz8 : TC := (.sq (.reg (rT Tryz.f36 0)) (.sq (.reg (rT Tryz.f36 1)) (.sq (.sq (.reg (rT Tryz.f36 2)) (.bk 0 (.nw 3 3 (.lp 1 Qix Qkg)))) (.sq (.reg (rT Tryz.f36 9)) .rt))))
def QL0 : List (RV × Option Ty) := [((.t 2), none)]
abbrev Qpe : Sh := ⟨[(0, .ty (.sl tI)), (3, .ms 3), (4, .ty tI), (5, .ty tI)], [(3, .arr 3 tI), (32, .no), (36, .no), (42, .no), (46, .no)]⟩
def QoR (x0 : List Int) (x4 x5 : Int) (y3 : List Int) : VS := Qpe.st (x0, (), x4, x5, ()) (y3, (), (), (), (), ())
abbrev QuD : Sh := ⟨[(0, .ty (.sl tI)), (3, .ms 3), (4, .ty tI), (5, .ty tI)], [(3, .arr 3 tI), (32, .no), (36, .no), (42, .no), (46, .no)]⟩
def Qb3 (x0 : List Int) (x4 x5 : Int) (y3 : List Int) : VS := QuD.st (x0, (), x4, x5, ()) (y3, (), (), (), (), ())
abbrev Qpd : Sh := ⟨[(0, .ty (.sl tI)), (3, .ms 3), (4, .ty tI)], [(3, .arr 3 tI), (32, .no), (36, .no), (42, .no), (46, .no)]⟩
def QoQ (x0 : List Int) (x4 : Int) (y3 : List Int) : VS := Qpd.st (x0, (), x4, ()) (y3, (), (), (), (), ())
abbrev QuC : Sh := ⟨[(3, .ms 3)], [(3, .arr 3 tI), (32, .no), (36, .no), (42, .no), (46, .no)]⟩
def Qer (y3 : List Int) : VS := QuC.st ((), ()) (y3, (), (), (), (), ())
def QRp : VS → Option (Bool × List (Bool × Exit × VS)) := mkL Qpe (fun x y => (decide (0 ≤ x.2.2.2.1 ∧ x.2.2.2.1 ≤ y.1.length ∧ y.1.length ≤ 1000) && cIx x.1 x.2.2.1)) (fun x y => [(true, .exit 2, Qb3 (x.1) (x.2.2.1) ((insK (lgt tI x.1 x.2.2.1.toNat) y.1 x.2.2.2.1.toNat : Nat) : Int) (y.1))])
def QRo : VS → Option (Bool × List (Bool × Exit × VS)) := mkL Qpd (fun x y => (decide (0 ≤ x.2.2.1 ∧ x.2.2.1 ≤ x.1.length ∧ x.1.length ≤ 1000 ∧ y.1.length ≤ x.2.2.1.toNat))) (fun x y => [(true, .exit 0, Qer ((x.1.drop x.2.2.1.toNat).foldl insS y.1))])
def g_f36 : G := ⟨TYs, [32], 48, EL [(58, QKY)], keeps, (Ls [QRp, QRo]), IL [], RL []⟩
def QGJ (x0 : List Int) (x4 x5 : Int) (y3 : List Int) : Option (Exit × VS) :=
 let a1 := isub .i64 x5 1
 br (igt x5 0) (br (cIx y3 a1) (br (cLd y3 (Int.toNat a1)) (br (cIx x0 x4) (br (ilt (QaX (lgt tI y3 (Int.toNat a1))) (QaX (lgt tI x0 (Int.toNat x4)))) (some (.normal, QoR x0 x4 a1 y3)) (some (.exit 2, Qb3 x0 x4 x5 y3))) none) none) none) (some (.exit 2, Qb3 x0 x4 x5 y3))
noncomputable def QkY (x0 : List Int) (x4 x5 : Int) (y3 : List Int) : Option (Exit × VS) := loopF (Qai g_f36 Qiy Qkh) (QoR x0 x4 x5 y3)
noncomputable def Qp5 (x0 : List Int) (x4 x5 : Int) (y3 : List Int) : Option (Exit × VS) :=
 let a1 := isub .i64 x5 1
 br (igt x5 0) (br (cIx y3 a1) (br (cLd y3 (Int.toNat a1)) (br (cIx x0 x4) (br (ilt (QaX (lgt tI y3 (Int.toNat a1))) (QaX (lgt tI x0 (Int.toNat x4)))) (QkY x0 x4 a1 y3) (some (.exit 2, Qb3 x0 x4 x5 y3))) none) none) none) (some (.exit 2, Qb3 x0 x4 x5 y3))
def Qle (x0 : List Int) (x4 x5 : Int) (y3 : List Int) : Option (Exit × VS) := some (.exit 2, Qb3 (x0) (x4) ((insK (lgt tI x0 x4.toNat) y3 x5.toNat : Nat) : Int) (y3))
theorem QJ1 (x0 : List Int) (x4 x5 : Int) (y3 : List Int) : Qai g_f36 Qiy Qkh (QoR x0 x4 x5 y3) = QGJ x0 x4 x5 y3 := by kernel_rfl
theorem QwP (x0 : List Int) (x4 x5 : Int) (y3 : List Int) : QkY x0 x4 x5 y3 = Qp5 x0 x4 x5 y3 := (Qap _ _).trans (by
 rw [QJ1]
 simp only [QGJ, Qp5, QaE, nxt_n, nxt_r, nxt_e, nxt_0]
 rfl)
def QiQ (x0 : List Int) (x4 : Int) (y3 : List Int) : Option (Exit × VS) :=
 let a1 := ((insK (lgt tI x0 x4.toNat) y3 (llen y3).toNat : Nat) : Int)
 let a2 := (wnL tI (y3) (Int.toNat a1) (Int.toNat ((List.length (y3) : Nat) : Int) - Int.toNat a1))
 let a3 := wnL tI (y3) (Int.toNat 0) (Int.toNat a1 - Int.toNat 0)
 let a4 := lgt tI (x0) (Int.toNat (x4))
 br (cApp ((([] : List Int) ++ a3) ++ ([a4])) a2 8) (some (.normal, QoQ (x0) (iadd .i64 (x4) 1) (((([] : List Int) ++ a3) ++ ([a4])) ++ a2))) none
def QiR (x0 : List Int) (x4 : Int) (y3 : List Int) : Option (Exit × VS) :=
 let a1 := ((insK (lgt tI x0 x4.toNat) y3 (llen y3).toNat : Nat) : Int)
 br (cApp (([] : List Int) ++ (wnL tI (y3) (Int.toNat 0) (Int.toNat a1 - Int.toNat 0))) ([(lgt tI (x0) (Int.toNat (x4)))]) 8) (br (cWn (y3) a1 ((List.length (y3) : Nat) : Int)) (QiQ x0 x4 y3) none) none
def QiO (x0 : List Int) (x4 : Int) (y3 : List Int) : Option (Exit × VS) := br (cApp (([] : List Int) ++ (wnL tI (y3) (Int.toNat 0) (Int.toNat ((insK (lgt tI x0 x4.toNat) y3 (llen y3).toNat : Nat) : Int) - Int.toNat 0))) ([(lgt tI (x0) (Int.toNat (x4)))]) 8) (QiQ x0 x4 y3) none
def QiP (x0 : List Int) (x4 : Int) (y3 : List Int) : Option (Exit × VS) := frk (QiR x0 x4 y3) (br (cWn (y3) ((insK (lgt tI x0 x4.toNat) y3 (llen y3).toNat : Nat) : Int) ((List.length (y3) : Nat) : Int)) (QiO x0 x4 y3) none)
def QiM (x0 : List Int) (x4 : Int) (y3 : List Int) : Option (Exit × VS) := br (cApp ([] : List Int) (wnL tI (y3) (Int.toNat 0) (Int.toNat ((insK (lgt tI x0 x4.toNat) y3 (llen y3).toNat : Nat) : Int) - Int.toNat 0)) 8) (QiO x0 x4 y3) none
def QiN (x0 : List Int) (x4 : Int) (y3 : List Int) : Option (Exit × VS) := br (cWn (y3) ((insK (lgt tI x0 x4.toNat) y3 (llen y3).toNat : Nat) : Int) ((List.length (y3) : Nat) : Int)) (QiM x0 x4 y3) none
def QfW (x0 : List Int) (x4 : Int) (y3 : List Int) : Option (Exit × VS) := frk (br (cApp ([] : List Int) (wnL tI (y3) (Int.toNat 0) (Int.toNat ((insK (lgt tI x0 x4.toNat) y3 (llen y3).toNat : Nat) : Int) - Int.toNat 0)) 8) (QiP x0 x4 y3) none) (QiN x0 x4 y3)
def QiS (x0 : List Int) (x4 : Int) (y3 : List Int) : Option (Exit × VS) := frk (br (cApp ([] : List Int) (wnL tI (y3) (Int.toNat 0) (Int.toNat ((insK (lgt tI x0 x4.toNat) y3 (llen y3).toNat : Nat) : Int) - Int.toNat 0)) 8) (frk (QiR x0 x4 y3) (QiP x0 x4 y3)) none) (QfW x0 x4 y3)
def QiT (x0 : List Int) (x4 : Int) (y3 : List Int) : Option (Exit × VS) := br (cWn (y3) 0 ((insK (lgt tI x0 x4.toNat) y3 (llen y3).toNat : Nat) : Int)) (QiS x0 x4 y3) none
def Qgt (x0 : List Int) (x4 : Int) (y3 : List Int) : Option (Exit × VS) := frk (QfW x0 x4 y3) (QiN x0 x4 y3)
def Qgr (x0 : List Int) (x4 : Int) (y3 : List Int) : Option (Exit × VS) := br (cWn (y3) 0 ((insK (lgt tI x0 x4.toNat) y3 (llen y3).toNat : Nat) : Int)) (QfW x0 x4 y3) none
def Qea (x0 : List Int) (x4 : Int) (y3 : List Int) : Option (Exit × VS) := br (cWn (y3) 0 ((insK (lgt tI x0 x4.toNat) y3 (llen y3).toNat : Nat) : Int)) (QiM x0 x4 y3) none
def Qgq (x0 : List Int) (x4 : Int) (y3 : List Int) : Option (Exit × VS) := frk (Qea x0 x4 y3) (Qea x0 x4 y3)
def Qgs (x0 : List Int) (x4 : Int) (y3 : List Int) : Option (Exit × VS) :=
 let a1 := ((insK (lgt tI x0 x4.toNat) y3 (llen y3).toNat : Nat) : Int)
 frk (Qgr x0 x4 y3) (frk (br (cWn (y3) 0 a1) (Qgt x0 x4 y3) none) (br (cWn (y3) a1 ((List.length (y3) : Nat) : Int)) (Qgq x0 x4 y3) none))
def QvZ (x0 : List Int) (x4 : Int) (y3 : List Int) : Option (Exit × VS) :=
 let a1 := ((insK (lgt tI x0 x4.toNat) y3 (llen y3).toNat : Nat) : Int)
 br (ilt x4 (llen x0)) (br (decide (0 ≤ (llen y3) ∧ (llen y3) ≤ y3.length ∧ y3.length ≤ 1000) && cIx x0 x4) (br (cIx (x0) (x4)) (frk (QiT x0 x4 y3) (frk (frk (QiT x0 x4 y3) (frk (br (cWn (y3) 0 a1) (frk (QiS x0 x4 y3) (Qgt x0 x4 y3)) none) (Qgs x0 x4 y3))) (frk (Qgr x0 x4 y3) (frk (Qgs x0 x4 y3) (br (cWn (y3) a1 ((List.length (y3) : Nat) : Int)) (frk (Qea x0 x4 y3) (Qgq x0 x4 y3)) none))))) none) none) (some (.exit 0, Qer y3))
noncomputable def QkX (x0 : List Int) (x4 : Int) (y3 : List Int) : Option (Exit × VS) := loopF (Qai g_f36 Qix Qkg) (QoQ x0 x4 y3)
noncomputable def Qd2 (x0 : List Int) (x4 : Int) (y3 : List Int) : Option (Exit × VS) :=
 let a1 := ((insK (lgt tI x0 x4.toNat) y3 (llen y3).toNat : Nat) : Int)
 let a2 := (wnL tI (y3) (Int.toNat a1) (Int.toNat ((List.length (y3) : Nat) : Int) - Int.toNat a1))
 let a3 := wnL tI (y3) (Int.toNat 0) (Int.toNat a1 - Int.toNat 0)
 let a4 := lgt tI (x0) (Int.toNat (x4))
 br (cApp ((([] : List Int) ++ a3) ++ ([a4])) a2 8) (QkX (x0) (iadd .i64 (x4) 1) (((([] : List Int) ++ a3) ++ ([a4])) ++ a2)) none
noncomputable def Qd3 (x0 : List Int) (x4 : Int) (y3 : List Int) : Option (Exit × VS) :=
 let a1 := ((insK (lgt tI x0 x4.toNat) y3 (llen y3).toNat : Nat) : Int)
 br (cApp (([] : List Int) ++ (wnL tI (y3) (Int.toNat 0) (Int.toNat a1 - Int.toNat 0))) ([(lgt tI (x0) (Int.toNat (x4)))]) 8) (br (cWn (y3) a1 ((List.length (y3) : Nat) : Int)) (Qd2 x0 x4 y3) none) none
noncomputable def Qd0 (x0 : List Int) (x4 : Int) (y3 : List Int) : Option (Exit × VS) := br (cApp (([] : List Int) ++ (wnL tI (y3) (Int.toNat 0) (Int.toNat ((insK (lgt tI x0 x4.toNat) y3 (llen y3).toNat : Nat) : Int) - Int.toNat 0))) ([(lgt tI (x0) (Int.toNat (x4)))]) 8) (Qd2 x0 x4 y3) none
noncomputable def Qd1 (x0 : List Int) (x4 : Int) (y3 : List Int) : Option (Exit × VS) := frk (Qd3 x0 x4 y3) (br (cWn (y3) ((insK (lgt tI x0 x4.toNat) y3 (llen y3).toNat : Nat) : Int) ((List.length (y3) : Nat) : Int)) (Qd0 x0 x4 y3) none)
noncomputable def QdY (x0 : List Int) (x4 : Int) (y3 : List Int) : Option (Exit × VS) := br (cApp ([] : List Int) (wnL tI (y3) (Int.toNat 0) (Int.toNat ((insK (lgt tI x0 x4.toNat) y3 (llen y3).toNat : Nat) : Int) - Int.toNat 0)) 8) (Qd0 x0 x4 y3) none
noncomputable def QdZ (x0 : List Int) (x4 : Int) (y3 : List Int) : Option (Exit × VS) := br (cWn (y3) ((insK (lgt tI x0 x4.toNat) y3 (llen y3).toNat : Nat) : Int) ((List.length (y3) : Nat) : Int)) (QdY x0 x4 y3) none
noncomputable def QcU (x0 : List Int) (x4 : Int) (y3 : List Int) : Option (Exit × VS) := frk (br (cApp ([] : List Int) (wnL tI (y3) (Int.toNat 0) (Int.toNat ((insK (lgt tI x0 x4.toNat) y3 (llen y3).toNat : Nat) : Int) - Int.toNat 0)) 8) (Qd1 x0 x4 y3) none) (QdZ x0 x4 y3)
noncomputable def Qd4 (x0 : List Int) (x4 : Int) (y3 : List Int) : Option (Exit × VS) := frk (br (cApp ([] : List Int) (wnL tI (y3) (Int.toNat 0) (Int.toNat ((insK (lgt tI x0 x4.toNat) y3 (llen y3).toNat : Nat) : Int) - Int.toNat 0)) 8) (frk (Qd3 x0 x4 y3) (Qd1 x0 x4 y3)) none) (QcU x0 x4 y3)
noncomputable def Qd5 (x0 : List Int) (x4 : Int) (y3 : List Int) : Option (Exit × VS) := br (cWn (y3) 0 ((insK (lgt tI x0 x4.toNat) y3 (llen y3).toNat : Nat) : Int)) (Qd4 x0 x4 y3) none
noncomputable def QcN (x0 : List Int) (x4 : Int) (y3 : List Int) : Option (Exit × VS) := frk (QcU x0 x4 y3) (QdZ x0 x4 y3)
noncomputable def QcL (x0 : List Int) (x4 : Int) (y3 : List Int) : Option (Exit × VS) := br (cWn (y3) 0 ((insK (lgt tI x0 x4.toNat) y3 (llen y3).toNat : Nat) : Int)) (QcU x0 x4 y3) none
noncomputable def Qb9 (x0 : List Int) (x4 : Int) (y3 : List Int) : Option (Exit × VS) := br (cWn (y3) 0 ((insK (lgt tI x0 x4.toNat) y3 (llen y3).toNat : Nat) : Int)) (QdY x0 x4 y3) none
noncomputable def QcK (x0 : List Int) (x4 : Int) (y3 : List Int) : Option (Exit × VS) := frk (Qb9 x0 x4 y3) (Qb9 x0 x4 y3)
noncomputable def QcM (x0 : List Int) (x4 : Int) (y3 : List Int) : Option (Exit × VS) :=
 let a1 := ((insK (lgt tI x0 x4.toNat) y3 (llen y3).toNat : Nat) : Int)
 frk (QcL x0 x4 y3) (frk (br (cWn (y3) 0 a1) (QcN x0 x4 y3) none) (br (cWn (y3) a1 ((List.length (y3) : Nat) : Int)) (QcK x0 x4 y3) none))
noncomputable def QmX (x0 : List Int) (x4 : Int) (y3 : List Int) : Option (Exit × VS) :=
 let a1 := ((insK (lgt tI x0 x4.toNat) y3 (llen y3).toNat : Nat) : Int)
 br (ilt x4 (llen x0)) (br (decide (0 ≤ (llen y3) ∧ (llen y3) ≤ y3.length ∧ y3.length ≤ 1000) && cIx x0 x4) (br (cIx (x0) (x4)) (frk (Qd5 x0 x4 y3) (frk (frk (Qd5 x0 x4 y3) (frk (br (cWn (y3) 0 a1) (frk (Qd4 x0 x4 y3) (QcN x0 x4 y3)) none) (QcM x0 x4 y3))) (frk (QcL x0 x4 y3) (frk (QcM x0 x4 y3) (br (cWn (y3) a1 ((List.length (y3) : Nat) : Int)) (frk (Qb9 x0 x4 y3) (QcK x0 x4 y3)) none))))) none) none) (some (.exit 0, Qer y3))
def Qld (x0 : List Int) (x4 : Int) (y3 : List Int) : Option (Exit × VS) := some (.exit 0, Qer ((x0.drop x4.toNat).foldl insS y3))
theorem QJ0 (x0 : List Int) (x4 : Int) (y3 : List Int) : Qai g_f36 Qix Qkg (QoQ x0 x4 y3) = QvZ x0 x4 y3 := by kernel_rfl
theorem QwO (x0 : List Int) (x4 : Int) (y3 : List Int) : QkX x0 x4 y3 = QmX x0 x4 y3 := (Qap _ _).trans (by
 rw [QJ0]
 first
 |(simp only [QvZ, QiT, QiS, QiR, QiQ, QiP, QiO, QfW, QiN, QiM, Qgt, Qgs, Qgr, Qgq, Qea, QbW, QmX, Qd5, Qd4, Qd3, Qd2, Qd1, Qd0, QcU, QdZ, QdY, QcN, QcM, QcL, QcK, Qb9, QbW, QaE, nxt_n, nxt_r, nxt_e, nxt_0]
   rfl)
 |(simp only [QvZ, QiT, QiS, QiR, QiQ, QiP, QiO, QfW, QiN, QiM, Qgt, Qgs, Qgr, Qgq, Qea, QbW, QmX, Qd5, Qd4, Qd3, Qd2, Qd1, Qd0, QcU, QdZ, QdY, QcN, QcM, QcL, QcK, Qb9, QbW]
   try generalize (cApp ((([] : List Int) ++ (wnL tI (y3) (Int.toNat 0) (Int.toNat (((insK (lgt tI x0 x4.toNat) y3 (llen y3).toNat : Nat) : Int)) - Int.toNat 0))) ++ ([(lgt tI (x0) (Int.toNat (x4)))])) (wnL tI (y3) (Int.toNat (((insK (lgt tI x0 x4.toNat) y3 (llen y3).toNat : Nat) : Int))) (Int.toNat ((List.length (y3) : Nat) : Int) - Int.toNat (((insK (lgt tI x0 x4.toNat) y3 (llen y3).toNat : Nat) : Int)))) 8) = cq0
   try generalize (cWn (y3) (((insK (lgt tI x0 x4.toNat) y3 (llen y3).toNat : Nat) : Int)) ((List.length (y3) : Nat) : Int)) = cq1
   try generalize (cApp (([] : List Int) ++ (wnL tI (y3) (Int.toNat 0) (Int.toNat (((insK (lgt tI x0 x4.toNat) y3 (llen y3).toNat : Nat) : Int)) - Int.toNat 0))) ([(lgt tI (x0) (Int.toNat (x4)))]) 8) = cq2
   try generalize (cApp ([] : List Int) (wnL tI (y3) (Int.toNat 0) (Int.toNat (((insK (lgt tI x0 x4.toNat) y3 (llen y3).toNat : Nat) : Int)) - Int.toNat 0)) 8) = cq3
   try generalize (cWn (y3) 0 (((insK (lgt tI x0 x4.toNat) y3 (llen y3).toNat : Nat) : Int))) = cq4
   try generalize (cIx (x0) (x4)) = cq5
   try generalize ((decide (0 ≤ (llen y3) ∧ (llen y3) ≤ y3.length ∧ y3.length ≤ 1000) && cIx x0 x4)) = cq6
   simp only [brN, QbW, Bool.and_assoc, Bool.and_comm, Bool.and_left_comm, Bool.and_self, Bool.and_self_left, QaE, nxt_n, nxt_r, nxt_e, nxt_0]
   try rfl))
def r_f36 (p0 : List Int) : Option (V × List VO) := br (decide (0 ≤ (0 : Int) ∧ (0 : Int) ≤ p0.length ∧ p0.length ≤ 1000 ∧ ([] : List Int).length ≤ (0 : Int).toNat)) (some (.ms 50000, [.arr 3 tI ((p0.drop (0 : Int).toNat).foldl insS ([] : List Int))])) none
theorem e_f36 (p0 : List Int) : runF g_f36 Qz8 QL0 true [.t (.sl tI) p0] [] = r_f36 p0 := by kernel_rfl
theorem en_f36 : Qag Tryz.prog 36 := .inr ⟨by decide, _, Tryz.func36, by kernel_rfl, by kernel_rfl⟩
theorem gk_f36 : GOk Tryz.prog g_f36 := Qal _ (gA (gC en_f58 ms_f58 gN))
theorem QPj (x0 : List Int) (x4 x5 : Int) (y3 : List Int) (h : (decide (0 ≤ x5 ∧ x5 ≤ y3.length ∧ y3.length ≤ 1000) && cIx x0 x4) = true) : QkY x0 x4 x5 y3 = Qle x0 x4 x5 y3 := by
 obtain ⟨h, hc⟩ := Bool.and_eq_true_iff.1 h
 obtain ⟨h0, h1, h2⟩ := of_decide_eq_true h
 obtain ⟨k, rfl⟩ := Int.eq_ofNat_of_zero_le h0
 have key : ∀ k : Nat, k ≤ y3.length → QkY x0 x4 (k : Int) y3 = Qle x0 x4 (k : Int) y3 := by
  intro k
  induction k with
  | zero =>
   intro _
   rw [QwP]
   simp only [Qp5, Qle, show igt ((0 : Nat) : Int) 0 = false from rfl, Qae, Int.toNat_natCast]
   rfl
  | succ k ih =>
   intro hk
   rw [QwP]
   have e1 : isub .i64 ((k + 1 : Nat) : Int) 1 = (k : Int) := by rw [QbD (by omega)]; omega
   have e2 : cLd y3 k = true := decide_eq_true (by omega)
   simp only [Qp5, show igt ((k + 1 : Nat) : Int) 0 = true from decide_eq_true (by omega), Qac, e1, QaA, show k < y3.length by omega, decide_true, Int.toNat_natCast, e2, hc, ih (by omega)]
   simp only [Qle, Int.toNat_natCast]
   rw [show insK (lgt tI x0 x4.toNat) y3 (k + 1) = if ilt (QaX (y3.getD k 0)) (QaX (lgt tI x0 x4.toNat)) = true then insK (lgt tI x0 x4.toNat) y3 k else k + 1 from rfl]
   show br (ilt (QaX (y3.getD k 0)) (QaX (lgt tI x0 x4.toNat))) _ _ = _
   cases ilt (QaX (y3.getD k 0)) (QaX (lgt tI x0 x4.toNat)) <;> rfl
 exact key k (by omega)
theorem QPi (x0 : List Int) (x4 : Int) (y3 : List Int) (h : (decide (0 ≤ x4 ∧ x4 ≤ x0.length ∧ x0.length ≤ 1000 ∧ y3.length ≤ x4.toNat)) = true) : QkX x0 x4 y3 = Qld x0 x4 y3 := by
 simp only [decide_eq_true_eq] at h
 obtain ⟨h0, h1, h2, h3⟩ := h
 obtain ⟨k, rfl⟩ := Int.eq_ofNat_of_zero_le h0
 rw [Int.toNat_natCast] at h3
 revert y3
 refine Qav x0 (fun k => ∀ y3 : List Int, y3.length ≤ k → QkX x0 (k : Int) y3 = Qld x0 (k : Int) y3) ?_ ?_ k (by omega)
 ·intro y3 _
  rw [QwO]
  simp only [QmX, Qd5, Qd4, Qd3, Qd2, Qd1, Qd0, QcU, QdZ, QdY, QcN, QcM, QcL, QcK, Qb9, QbW, Qld, show ilt (x0.length : Int) (llen x0) = false from decide_eq_false (by simp only [llen]; omega), Qae, Int.toNat_natCast, List.drop_length, List.foldl_nil]
 ·intro k hk ih y3 hy
  rw [QwO]
  have hle := Qvv x0[k] y3 y3.length
  obtain ⟨q, hq⟩ : ∃ q, q = insK x0[k] y3 y3.length := ⟨_, rfl⟩
  rw [← hq] at hle
  have c0 : decide ((0 : Int) ≤ (y3.length : Nat) ∧ ((y3.length : Nat) : Int) ≤ y3.length ∧ y3.length ≤ 1000) = true := decide_eq_true (by omega)
  have c1 : cWn y3 0 (q : Int) = true := decide_eq_true (by omega)
  have c2 : cWn y3 (q : Int) (y3.length : Nat) = true := decide_eq_true (by omega)
  have w1 : wnL tI y3 0 (q - 0) = y3.take q := by rw [QqK (by omega), List.drop_zero, Nat.sub_zero]
  have w2 : wnL tI y3 q (y3.length - q) = y3.drop q := by rw [QqK (by omega), List.take_of_length_le (by rw [List.length_drop]; omega)]
  have a1 : cApp ([] : List Int) (y3.take q) 8 = true := cAppN (by omega) (by simp only [List.length_nil, List.length_take]; omega)
  have a2 : cApp (y3.take q) [x0[k]] 8 = true := cAppN (by omega) (by simp only [List.length_singleton, List.length_take]; omega)
  have a3 : cApp (y3.take q ++ [x0[k]]) (y3.drop q) 8 = true := cAppN (by omega) (by simp only [List.length_append, List.length_singleton, List.length_take, List.length_drop]; omega)
  simp only [QmX, Qd5, Qd4, Qd3, Qd2, Qd1, Qd0, QcU, QdZ, QdY, QcN, QcM, QcL, QcK, Qb9, QbW, show ilt (k : Int) (llen x0) = true from decide_eq_true (by simp only [llen]; omega), QaA, hk, decide_true, Bool.and_true, Qac, Int.toNat_natCast, Int.toNat_zero, add1 (show k < 4611686018427387904 by omega), QaF (y := tI) hk, llen, c0, ← hq, c1, c2, w1, w2, List.nil_append, a1, a2, a3, QbW]
  have e := ih (insS y3 x0[k]) (by rw [Qw2]; omega)
  simp only [insS, ← hq] at e
  rw [e]
  simp only [Qld, Int.toNat_natCast, List.drop_eq_getElem_cons hk, List.foldl_cons, insS, ← hq]
theorem QH9 : ∀ S l p, g_f36.L 0 (fgt Qiy S) = some (true, l) → pickA l = some p → loopF (Qai g_f36 Qiy Qkh) S = some p :=
 QaG (s := Qpe) ⟨by decide, by decide⟩ (by kernel_rfl) fun x y hok p hp => by
 simp only [Qas, Qao] at hp
 exact (QPj x.1 x.2.2.1 x.2.2.2.1 y.1 (by simpa using hok)).trans hp
theorem QH8 : ∀ S l p, g_f36.L 1 (fgt Qix S) = some (true, l) → pickA l = some p → loopF (Qai g_f36 Qix Qkg) S = some p :=
 QaG (s := Qpd) ⟨by decide, by decide⟩ (by kernel_rfl) fun x y hok p hp => by
 simp only [Qas, Qao] at hp
 exact (QPi x.1 x.2.2.1 y.1 (by simpa using hok)).trans hp
theorem lk_f36 : Qz8.lok g_f36 := by
 repeat (first | exact trivial | exact QH9 | exact QH8 | refine ⟨?_, ?_⟩)
theorem s_f36 (l : List Int) (h : lenS l = true) : r_f36 l = some (.ms 50000, [.arr 3 tI (sortS l)]) := by
 simp only [lenS, decide_eq_true_eq] at h
 refine Eq.trans (congrArg (fun b => br b _ _) (decide_eq_true ⟨Int.le_refl _, by omega, h, by simp⟩)) ?_
 rfl
def QK8 : Ent := specO (.pr (.sl tI) .nil) (fun x => (lenS x.1)) (fun x => (.ms 50000)) (fun x => [.arr 3 tI (sortS x.1)])
theorem ms_f36 : Meets Tryz.prog 36 (strip QK8) := Qm5 (R := runF g_f36 Qz8 QL0 true) (mG Tryz.func36 (by kernel_rfl) Tryz.ntmps36 (by kernel_rfl) gk_f36 lk_f36) fun x hok => (e_f36 x.1).trans (s_f36 x.1 hok)
end
end Go.Proofs.YtkngeegkjhipeaaGreat.K
