import Derived.Test.YtkngeegkjhipeaaGreatN15
set_option linter.unusedSimpArgs false
set_option linter.unusedVariables false
namespace Go.Proofs.YtkngeegkjhipeaaGreat.K
open Go.RowKit
noncomputable section
-- loop 0: (x0 : (List Keep)) (x1 : (List Keep)) (x5 : Int); out: ('ret',) (x4 : Bool); ('exit', 0)
theorem brN {β : Type} {p q : Bool} {X : Option β} : br p (br q X none) none = br (p && q) X none := by cases p <;> rfl
def QaW (c : Int) : Int := bif ine (QaA c).2 0 then 0 else strF (QaA c).1.2.2.2.2.1
noncomputable def QzP : TC := (.sq (.reg (rT Tryz.f58 0)) (.sq (.reg (rT Tryz.f58 1)) (.sq (.sq (.reg (rT Tryz.f58 2)) (.cd (.t 11) (.sq (.reg (rT Tryz.f58 3)) .rt) .sk)) (.sq (.reg (rT Tryz.f58 4)) .rt))))
def QLO : List (RV × Option Ty) := [((.t 2), some tI)]
def g_f58 : G := ⟨TYs, [], 15, EL [(26, QLe), (88, QAv)], keeps, (fun _ _ => none), IL [], RL []⟩
def r_f58 (p0 : Int) : Option (V × List VO) := br (ine ((QaA p0).2) 0) (some (.t tI 0, [])) (some (.t tI (strF (((((((QaA p0).1).2).2).2).2).1)), []))
theorem e_f58 (p0 : Int) : runF g_f58 QzP QLO false [.t tI p0] [] = r_f58 p0 := by kernel_rfl
theorem en_f58 : Qag Tryz.prog 58 := .inr ⟨by decide, _, Tryz.func58, by kernel_rfl, by kernel_rfl⟩
theorem gk_f58 : GOk Tryz.prog g_f58 := Qan _ (gA (gC en_f26 ms_f26 (gC QMP QMy gN)))
theorem lk_f58 : QzP.lok g_f58 := by repeat (first | exact trivial | refine ⟨?_, ?_⟩)
theorem s_f58 (c : Int) : r_f58 c = some (.t tI (QaW c), []) := by
 simp only [r_f58]
 unfold QaW
 cases ine (QaA c).2 0 <;> rfl
def QKX : Ent := spec (.pr tI .nil) (fun x => true) (fun x => (.t tI (QaW x.1)))
theorem ms_f58 : Meets Tryz.prog 58 (strip QKX) := Qaf (R := runF g_f58 QzP QLO false) (mG Tryz.func58 (by kernel_rfl) Tryz.ntmps58 (by kernel_rfl) gk_f58 lk_f58) fun x _ => (e_f58 x.1).trans (s_f58 x.1)
def insK (x : Int) (l : List Int) : Nat → Nat
 | 0 => 0
 | k + 1 => if ilt (QaW (l.getD k 0)) (QaW x) = true then insK x l k else k + 1
theorem Qvx (x : Int) (l : List Int) : ∀ k, insK x l k ≤ k
 | 0 => Nat.le_refl _
 | k + 1 => by
  unfold insK
  split
  ·exact Nat.le_succ_of_le (Qvx x l k)
  ·exact Nat.le_refl _
def insS (l : List Int) (x : Int) : List Int := (l.take (insK x l l.length) ++ [x]) ++ l.drop (insK x l l.length)
theorem QwY (l : List Int) (x : Int) : (insS l x).length = l.length + 1 := by
 have := Qvx x l l.length
 simp only [insS, List.length_append, List.length_take, List.length_drop, List.length_singleton]
 omega
def sortS (l : List Int) : List Int := l.foldl insS []
def lenS (l : List Int) : Bool := decide (l.length ≤ 1000)
noncomputable def QJv : List DO := dT Tryz.f36 5
noncomputable def QJu : List DO := dT Tryz.f36 7
def QiB : Fg := ⟨[(0, some (.sl tI)), (3, none), (4, some tI), (5, some tI)], [(3, none), (32, none), (36, none), (42, none), (46, none)]⟩
noncomputable def Qkj : TC := (.sq (.sq (.dr QJv [(0, []), (1, []), (2, []), (3, [3, 32, 36, 42, 46]), (4, []), (5, []), (6, [3, 32, 36, 42, 46]), (7, [3, 32, 36, 42, 46]), (8, []), (9, []), (10, []), (11, []), (12, []), (13, []), (14, []), (15, [])] (.of [0, 1, 2, 3, 4, 5, 6, 7, 8, 9, 10, 11, 12, 13, 14, 15])) (.cd (.t 29) .sk (.fg ⟨[(0, some (.sl tI)), (3, none), (4, some tI), (5, some tI)], [(3, none), (32, none), (36, none), (42, none), (46, none)]⟩ (.ex 2)))) (.bk 3 (.reg (rT Tryz.f36 6))))
def QiA : Fg := ⟨[(0, some (.sl tI)), (3, none), (4, some tI)], [(3, none), (32, none), (36, none), (42, none), (46, none)]⟩
noncomputable def Qki : TC := (.mv [(32, 3)] (.sq (.sq (.reg (rT Tryz.f36 3)) (.cd (.t 9) .sk (.fg ⟨[(3, none)], [(3, none), (32, none), (36, none), (42, none), (46, none)]⟩ (.ex 0)))) (.sq (.bk 1 (.sq (.reg (rT Tryz.f36 4)) (.sq (.bk 2 (.lp 0 QiB Qkj)) (.dr QJu [(0, [32, 5032, 10032, 15032]), (1, [3, 32, 36, 42, 46]), (2, []), (3, [3, 32, 36, 42, 46]), (4, [3, 32, 36, 42, 46, 5036, 10036, 15036]), (5, []), (6, []), (7, []), (8, []), (9, []), (10, [32, 36, 42, 5042, 10042, 15042]), (11, [3, 32, 36, 42, 46]), (12, []), (13, [3, 32, 36, 42, 46]), (14, [3, 32, 36, 42, 46, 5046, 10046, 15046]), (15, [32, 36, 42, 46])] (.one 2 (.one 5 (.one 6 (.one 7 (.one 8 (.one 9 (.one 12 (.alt 0 (.one 1 (.one 3 (.alt 4 (.alt 10 (.of [11, 13, 14, 15]) (.one 11 (.alt 10 (.of [13, 14, 15]) (.of [13, 10, 14, 15])))) (.one 11 (.alt 4 (.alt 10 (.of [13, 14, 15]) (.of [13, 10, 14, 15])) (.of [13, 4, 10, 14, 15])))))) (.alt 1 (.alt 0 (.one 3 (.alt 4 (.alt 10 (.of [11, 13, 14, 15]) (.one 11 (.alt 10 (.of [13, 14, 15]) (.of [13, 10, 14, 15])))) (.one 11 (.alt 4 (.alt 10 (.of [13, 14, 15]) (.of [13, 10, 14, 15])) (.of [13, 4, 10, 14, 15]))))) (.alt 3 (.alt 0 (.alt 4 (.alt 10 (.of [11, 13, 14, 15]) (.one 11 (.alt 10 (.of [13, 14, 15]) (.of [13, 10, 14, 15])))) (.one 11 (.alt 4 (.alt 10 (.of [13, 14, 15]) (.of [13, 10, 14, 15])) (.of [13, 4, 10, 14, 15])))) (.one 11 (.alt 0 (.alt 4 (.alt 10 (.of [13, 14, 15]) (.of [13, 10, 14, 15])) (.of [13, 4, 10, 14, 15])) (.of [13, 0, 4, 10, 14, 15])))) (.one 11 (.alt 0 (.one 3 (.alt 4 (.alt 10 (.of [13, 14, 15]) (.of [13, 10, 14, 15])) (.of [13, 4, 10, 14, 15]))) (.alt 3 (.alt 0 (.alt 4 (.alt 10 (.of [13, 14, 15]) (.of [13, 10, 14, 15])) (.of [13, 4, 10, 14, 15])) (.of [13, 0, 4, 10, 14, 15])) (.one 13 (.alt 0 (.of [3, 4, 10, 14, 15]) (.of [3, 0, 4, 10, 14, 15])))))))) (.one 11 (.alt 0 (.one 1 (.one 3 (.alt 4 (.alt 10 (.of [13, 14, 15]) (.of [13, 10, 14, 15])) (.of [13, 4, 10, 14, 15])))) (.alt 1 (.alt 0 (.one 3 (.alt 4 (.alt 10 (.of [13, 14, 15]) (.of [13, 10, 14, 15])) (.of [13, 4, 10, 14, 15]))) (.alt 3 (.alt 0 (.alt 4 (.alt 10 (.of [13, 14, 15]) (.of [13, 10, 14, 15])) (.of [13, 4, 10, 14, 15])) (.of [13, 0, 4, 10, 14, 15])) (.one 13 (.alt 0 (.of [3, 4, 10, 14, 15]) (.of [3, 0, 4, 10, 14, 15]))))) (.one 13 (.alt 0 (.of [1, 3, 4, 10, 14, 15]) (.one 1 (.alt 0 (.of [3, 4, 10, 14, 15]) (.of [3, 0, 4, 10, 14, 15]))))))))))))))))))))) (.reg (rT Tryz.f36 8)))))
noncomputable def Qz5 : TC := (.sq (.reg (rT Tryz.f36 0)) (.sq (.reg (rT Tryz.f36 1)) (.sq (.sq (.reg (rT Tryz.f36 2)) (.bk 0 (.nw 3 3 (.lp 1 QiA Qki)))) (.sq (.reg (rT Tryz.f36 9)) .rt))))
def QL4 : List (RV × Option Ty) := [((.t 2), none)]
abbrev Qpc : Sh := ⟨[(0, .ty (.sl tI)), (3, .ms 3), (4, .ty tI), (5, .ty tI)], [(3, .arr 3 tI), (32, .no), (36, .no), (42, .no), (46, .no)]⟩
def QoO (x0 : List Int) (x4 x5 : Int) (y3 : List Int) : VS := Qpc.st (x0, (), x4, x5, ()) (y3, (), (), (), (), ())
abbrev QuF : Sh := ⟨[(0, .ty (.sl tI)), (3, .ms 3), (4, .ty tI), (5, .ty tI)], [(3, .arr 3 tI), (32, .no), (36, .no), (42, .no), (46, .no)]⟩
def Qb2 (x0 : List Int) (x4 x5 : Int) (y3 : List Int) : VS := QuF.st (x0, (), x4, x5, ()) (y3, (), (), (), (), ())
abbrev Qpb : Sh := ⟨[(0, .ty (.sl tI)), (3, .ms 3), (4, .ty tI)], [(3, .arr 3 tI), (32, .no), (36, .no), (42, .no), (46, .no)]⟩
def QoN (x0 : List Int) (x4 : Int) (y3 : List Int) : VS := Qpb.st (x0, (), x4, ()) (y3, (), (), (), (), ())
abbrev QuE : Sh := ⟨[(3, .ms 3)], [(3, .arr 3 tI), (32, .no), (36, .no), (42, .no), (46, .no)]⟩
def Qep (y3 : List Int) : VS := QuE.st ((), ()) (y3, (), (), (), (), ())
def QRr : VS → Option (Bool × List (Bool × Exit × VS)) := mkL Qpc (fun x y => (decide (0 ≤ x.2.2.2.1 ∧ x.2.2.2.1 ≤ y.1.length ∧ y.1.length ≤ 1000) && cIx x.1 x.2.2.1)) (fun x y => [(true, .exit 2, Qb2 (x.1) (x.2.2.1) ((insK (lgt tI x.1 x.2.2.1.toNat) y.1 x.2.2.2.1.toNat : Nat) : Int) (y.1))])
def QRq : VS → Option (Bool × List (Bool × Exit × VS)) := mkL Qpb (fun x y => (decide (0 ≤ x.2.2.1 ∧ x.2.2.1 ≤ x.1.length ∧ x.1.length ≤ 1000 ∧ y.1.length ≤ x.2.2.1.toNat))) (fun x y => [(true, .exit 0, Qep ((x.1.drop x.2.2.1.toNat).foldl insS y.1))])
def g_f36 : G := ⟨TYs, [32], 48, EL [(58, QKX)], keeps, (Ls [QRr, QRq]), IL [], RL []⟩
def QGE (x0 : List Int) (x4 x5 : Int) (y3 : List Int) : Option (Exit × VS) :=
 let a1 := isub .i64 x5 1
 br (igt x5 0) (br (cIx y3 a1) (br (cLd y3 (Int.toNat a1)) (br (cIx x0 x4) (br (ilt (QaW (lgt tI y3 (Int.toNat a1))) (QaW (lgt tI x0 (Int.toNat x4)))) (some (.normal, QoO x0 x4 a1 y3)) (some (.exit 2, Qb2 x0 x4 x5 y3))) none) none) none) (some (.exit 2, Qb2 x0 x4 x5 y3))
noncomputable def Qk0 (x0 : List Int) (x4 x5 : Int) (y3 : List Int) : Option (Exit × VS) := loopF (Qaj g_f36 QiB Qkj) (QoO x0 x4 x5 y3)
noncomputable def Qp3 (x0 : List Int) (x4 x5 : Int) (y3 : List Int) : Option (Exit × VS) :=
 let a1 := isub .i64 x5 1
 br (igt x5 0) (br (cIx y3 a1) (br (cLd y3 (Int.toNat a1)) (br (cIx x0 x4) (br (ilt (QaW (lgt tI y3 (Int.toNat a1))) (QaW (lgt tI x0 (Int.toNat x4)))) (Qk0 x0 x4 a1 y3) (some (.exit 2, Qb2 x0 x4 x5 y3))) none) none) none) (some (.exit 2, Qb2 x0 x4 x5 y3))
def Qlf (x0 : List Int) (x4 x5 : Int) (y3 : List Int) : Option (Exit × VS) := some (.exit 2, Qb2 (x0) (x4) ((insK (lgt tI x0 x4.toNat) y3 x5.toNat : Nat) : Int) (y3))
theorem QJ0 (x0 : List Int) (x4 x5 : Int) (y3 : List Int) : Qaj g_f36 QiB Qkj (QoO x0 x4 x5 y3) = QGE x0 x4 x5 y3 := by kernel_rfl
theorem QwL (x0 : List Int) (x4 x5 : Int) (y3 : List Int) : Qk0 x0 x4 x5 y3 = Qp3 x0 x4 x5 y3 := (Qaq _ _).trans (by
 rw [QJ0]
 simp only [QGE, Qp3, QaE, nxt_n, nxt_r, nxt_e, nxt_0]
 rfl)
def QiS (x0 : List Int) (x4 : Int) (y3 : List Int) : Option (Exit × VS) :=
 let a1 := ((insK (lgt tI x0 x4.toNat) y3 (llen y3).toNat : Nat) : Int)
 let a2 := (wnL tI (y3) (Int.toNat a1) (Int.toNat ((List.length (y3) : Nat) : Int) - Int.toNat a1))
 let a3 := wnL tI (y3) (Int.toNat 0) (Int.toNat a1 - Int.toNat 0)
 let a4 := lgt tI (x0) (Int.toNat (x4))
 br (cApp ((([] : List Int) ++ a3) ++ ([a4])) a2 8) (some (.normal, QoN (x0) (iadd .i64 (x4) 1) (((([] : List Int) ++ a3) ++ ([a4])) ++ a2))) none
def QiT (x0 : List Int) (x4 : Int) (y3 : List Int) : Option (Exit × VS) :=
 let a1 := ((insK (lgt tI x0 x4.toNat) y3 (llen y3).toNat : Nat) : Int)
 br (cApp (([] : List Int) ++ (wnL tI (y3) (Int.toNat 0) (Int.toNat a1 - Int.toNat 0))) ([(lgt tI (x0) (Int.toNat (x4)))]) 8) (br (cWn (y3) a1 ((List.length (y3) : Nat) : Int)) (QiS x0 x4 y3) none) none
def QiQ (x0 : List Int) (x4 : Int) (y3 : List Int) : Option (Exit × VS) := br (cApp (([] : List Int) ++ (wnL tI (y3) (Int.toNat 0) (Int.toNat ((insK (lgt tI x0 x4.toNat) y3 (llen y3).toNat : Nat) : Int) - Int.toNat 0))) ([(lgt tI (x0) (Int.toNat (x4)))]) 8) (QiS x0 x4 y3) none
def QiR (x0 : List Int) (x4 : Int) (y3 : List Int) : Option (Exit × VS) := frk (QiT x0 x4 y3) (br (cWn (y3) ((insK (lgt tI x0 x4.toNat) y3 (llen y3).toNat : Nat) : Int) ((List.length (y3) : Nat) : Int)) (QiQ x0 x4 y3) none)
def QiO (x0 : List Int) (x4 : Int) (y3 : List Int) : Option (Exit × VS) := br (cApp ([] : List Int) (wnL tI (y3) (Int.toNat 0) (Int.toNat ((insK (lgt tI x0 x4.toNat) y3 (llen y3).toNat : Nat) : Int) - Int.toNat 0)) 8) (QiQ x0 x4 y3) none
def QiP (x0 : List Int) (x4 : Int) (y3 : List Int) : Option (Exit × VS) := br (cWn (y3) ((insK (lgt tI x0 x4.toNat) y3 (llen y3).toNat : Nat) : Int) ((List.length (y3) : Nat) : Int)) (QiO x0 x4 y3) none
def QfV (x0 : List Int) (x4 : Int) (y3 : List Int) : Option (Exit × VS) := frk (br (cApp ([] : List Int) (wnL tI (y3) (Int.toNat 0) (Int.toNat ((insK (lgt tI x0 x4.toNat) y3 (llen y3).toNat : Nat) : Int) - Int.toNat 0)) 8) (QiR x0 x4 y3) none) (QiP x0 x4 y3)
def QiU (x0 : List Int) (x4 : Int) (y3 : List Int) : Option (Exit × VS) := frk (br (cApp ([] : List Int) (wnL tI (y3) (Int.toNat 0) (Int.toNat ((insK (lgt tI x0 x4.toNat) y3 (llen y3).toNat : Nat) : Int) - Int.toNat 0)) 8) (frk (QiT x0 x4 y3) (QiR x0 x4 y3)) none) (QfV x0 x4 y3)
def QiV (x0 : List Int) (x4 : Int) (y3 : List Int) : Option (Exit × VS) := br (cWn (y3) 0 ((insK (lgt tI x0 x4.toNat) y3 (llen y3).toNat : Nat) : Int)) (QiU x0 x4 y3) none
def Qgs (x0 : List Int) (x4 : Int) (y3 : List Int) : Option (Exit × VS) := frk (QfV x0 x4 y3) (QiP x0 x4 y3)
def Qgq (x0 : List Int) (x4 : Int) (y3 : List Int) : Option (Exit × VS) := br (cWn (y3) 0 ((insK (lgt tI x0 x4.toNat) y3 (llen y3).toNat : Nat) : Int)) (QfV x0 x4 y3) none
def Qd7 (x0 : List Int) (x4 : Int) (y3 : List Int) : Option (Exit × VS) := br (cWn (y3) 0 ((insK (lgt tI x0 x4.toNat) y3 (llen y3).toNat : Nat) : Int)) (QiO x0 x4 y3) none
def Qgp (x0 : List Int) (x4 : Int) (y3 : List Int) : Option (Exit × VS) := frk (Qd7 x0 x4 y3) (Qd7 x0 x4 y3)
def Qgr (x0 : List Int) (x4 : Int) (y3 : List Int) : Option (Exit × VS) :=
 let a1 := ((insK (lgt tI x0 x4.toNat) y3 (llen y3).toNat : Nat) : Int)
 frk (Qgq x0 x4 y3) (frk (br (cWn (y3) 0 a1) (Qgs x0 x4 y3) none) (br (cWn (y3) a1 ((List.length (y3) : Nat) : Int)) (Qgp x0 x4 y3) none))
def Qv1 (x0 : List Int) (x4 : Int) (y3 : List Int) : Option (Exit × VS) :=
 let a1 := ((insK (lgt tI x0 x4.toNat) y3 (llen y3).toNat : Nat) : Int)
 br (ilt x4 (llen x0)) (br (decide (0 ≤ (llen y3) ∧ (llen y3) ≤ y3.length ∧ y3.length ≤ 1000) && cIx x0 x4) (br (cIx (x0) (x4)) (frk (QiV x0 x4 y3) (frk (frk (QiV x0 x4 y3) (frk (br (cWn (y3) 0 a1) (frk (QiU x0 x4 y3) (Qgs x0 x4 y3)) none) (Qgr x0 x4 y3))) (frk (Qgq x0 x4 y3) (frk (Qgr x0 x4 y3) (br (cWn (y3) a1 ((List.length (y3) : Nat) : Int)) (frk (Qd7 x0 x4 y3) (Qgp x0 x4 y3)) none))))) none) none) (some (.exit 0, Qep y3))
noncomputable def QkZ (x0 : List Int) (x4 : Int) (y3 : List Int) : Option (Exit × VS) := loopF (Qaj g_f36 QiA Qki) (QoN x0 x4 y3)
noncomputable def QdZ (x0 : List Int) (x4 : Int) (y3 : List Int) : Option (Exit × VS) :=
 let a1 := ((insK (lgt tI x0 x4.toNat) y3 (llen y3).toNat : Nat) : Int)
 let a2 := (wnL tI (y3) (Int.toNat a1) (Int.toNat ((List.length (y3) : Nat) : Int) - Int.toNat a1))
 let a3 := wnL tI (y3) (Int.toNat 0) (Int.toNat a1 - Int.toNat 0)
 let a4 := lgt tI (x0) (Int.toNat (x4))
 br (cApp ((([] : List Int) ++ a3) ++ ([a4])) a2 8) (QkZ (x0) (iadd .i64 (x4) 1) (((([] : List Int) ++ a3) ++ ([a4])) ++ a2)) none
noncomputable def Qd0 (x0 : List Int) (x4 : Int) (y3 : List Int) : Option (Exit × VS) :=
 let a1 := ((insK (lgt tI x0 x4.toNat) y3 (llen y3).toNat : Nat) : Int)
 br (cApp (([] : List Int) ++ (wnL tI (y3) (Int.toNat 0) (Int.toNat a1 - Int.toNat 0))) ([(lgt tI (x0) (Int.toNat (x4)))]) 8) (br (cWn (y3) a1 ((List.length (y3) : Nat) : Int)) (QdZ x0 x4 y3) none) none
noncomputable def QdX (x0 : List Int) (x4 : Int) (y3 : List Int) : Option (Exit × VS) := br (cApp (([] : List Int) ++ (wnL tI (y3) (Int.toNat 0) (Int.toNat ((insK (lgt tI x0 x4.toNat) y3 (llen y3).toNat : Nat) : Int) - Int.toNat 0))) ([(lgt tI (x0) (Int.toNat (x4)))]) 8) (QdZ x0 x4 y3) none
noncomputable def QdY (x0 : List Int) (x4 : Int) (y3 : List Int) : Option (Exit × VS) := frk (Qd0 x0 x4 y3) (br (cWn (y3) ((insK (lgt tI x0 x4.toNat) y3 (llen y3).toNat : Nat) : Int) ((List.length (y3) : Nat) : Int)) (QdX x0 x4 y3) none)
noncomputable def QdV (x0 : List Int) (x4 : Int) (y3 : List Int) : Option (Exit × VS) := br (cApp ([] : List Int) (wnL tI (y3) (Int.toNat 0) (Int.toNat ((insK (lgt tI x0 x4.toNat) y3 (llen y3).toNat : Nat) : Int) - Int.toNat 0)) 8) (QdX x0 x4 y3) none
noncomputable def QdW (x0 : List Int) (x4 : Int) (y3 : List Int) : Option (Exit × VS) := br (cWn (y3) ((insK (lgt tI x0 x4.toNat) y3 (llen y3).toNat : Nat) : Int) ((List.length (y3) : Nat) : Int)) (QdV x0 x4 y3) none
noncomputable def QcT (x0 : List Int) (x4 : Int) (y3 : List Int) : Option (Exit × VS) := frk (br (cApp ([] : List Int) (wnL tI (y3) (Int.toNat 0) (Int.toNat ((insK (lgt tI x0 x4.toNat) y3 (llen y3).toNat : Nat) : Int) - Int.toNat 0)) 8) (QdY x0 x4 y3) none) (QdW x0 x4 y3)
noncomputable def Qd1 (x0 : List Int) (x4 : Int) (y3 : List Int) : Option (Exit × VS) := frk (br (cApp ([] : List Int) (wnL tI (y3) (Int.toNat 0) (Int.toNat ((insK (lgt tI x0 x4.toNat) y3 (llen y3).toNat : Nat) : Int) - Int.toNat 0)) 8) (frk (Qd0 x0 x4 y3) (QdY x0 x4 y3)) none) (QcT x0 x4 y3)
noncomputable def Qd2 (x0 : List Int) (x4 : Int) (y3 : List Int) : Option (Exit × VS) := br (cWn (y3) 0 ((insK (lgt tI x0 x4.toNat) y3 (llen y3).toNat : Nat) : Int)) (Qd1 x0 x4 y3) none
noncomputable def QcM (x0 : List Int) (x4 : Int) (y3 : List Int) : Option (Exit × VS) := frk (QcT x0 x4 y3) (QdW x0 x4 y3)
noncomputable def QcK (x0 : List Int) (x4 : Int) (y3 : List Int) : Option (Exit × VS) := br (cWn (y3) 0 ((insK (lgt tI x0 x4.toNat) y3 (llen y3).toNat : Nat) : Int)) (QcT x0 x4 y3) none
noncomputable def Qb7 (x0 : List Int) (x4 : Int) (y3 : List Int) : Option (Exit × VS) := br (cWn (y3) 0 ((insK (lgt tI x0 x4.toNat) y3 (llen y3).toNat : Nat) : Int)) (QdV x0 x4 y3) none
noncomputable def QcJ (x0 : List Int) (x4 : Int) (y3 : List Int) : Option (Exit × VS) := frk (Qb7 x0 x4 y3) (Qb7 x0 x4 y3)
noncomputable def QcL (x0 : List Int) (x4 : Int) (y3 : List Int) : Option (Exit × VS) :=
 let a1 := ((insK (lgt tI x0 x4.toNat) y3 (llen y3).toNat : Nat) : Int)
 frk (QcK x0 x4 y3) (frk (br (cWn (y3) 0 a1) (QcM x0 x4 y3) none) (br (cWn (y3) a1 ((List.length (y3) : Nat) : Int)) (QcJ x0 x4 y3) none))
noncomputable def QmX (x0 : List Int) (x4 : Int) (y3 : List Int) : Option (Exit × VS) :=
 let a1 := ((insK (lgt tI x0 x4.toNat) y3 (llen y3).toNat : Nat) : Int)
 br (ilt x4 (llen x0)) (br (decide (0 ≤ (llen y3) ∧ (llen y3) ≤ y3.length ∧ y3.length ≤ 1000) && cIx x0 x4) (br (cIx (x0) (x4)) (frk (Qd2 x0 x4 y3) (frk (frk (Qd2 x0 x4 y3) (frk (br (cWn (y3) 0 a1) (frk (Qd1 x0 x4 y3) (QcM x0 x4 y3)) none) (QcL x0 x4 y3))) (frk (QcK x0 x4 y3) (frk (QcL x0 x4 y3) (br (cWn (y3) a1 ((List.length (y3) : Nat) : Int)) (frk (Qb7 x0 x4 y3) (QcJ x0 x4 y3)) none))))) none) none) (some (.exit 0, Qep y3))
def Qle (x0 : List Int) (x4 : Int) (y3 : List Int) : Option (Exit × VS) := some (.exit 0, Qep ((x0.drop x4.toNat).foldl insS y3))
theorem QJZ (x0 : List Int) (x4 : Int) (y3 : List Int) : Qaj g_f36 QiA Qki (QoN x0 x4 y3) = Qv1 x0 x4 y3 := by kernel_rfl
theorem QwK (x0 : List Int) (x4 : Int) (y3 : List Int) : QkZ x0 x4 y3 = QmX x0 x4 y3 := (Qaq _ _).trans (by
 rw [QJZ]
 first
 |(simp only [Qv1, QiV, QiU, QiT, QiS, QiR, QiQ, QfV, QiP, QiO, Qgs, Qgr, Qgq, Qgp, Qd7, Qcm, QmX, Qd2, Qd1, Qd0, QdZ, QdY, QdX, QcT, QdW, QdV, QcM, QcL, QcK, QcJ, Qb7, Qcm, QaE, nxt_n, nxt_r, nxt_e, nxt_0]
   rfl)
 |(simp only [Qv1, QiV, QiU, QiT, QiS, QiR, QiQ, QfV, QiP, QiO, Qgs, Qgr, Qgq, Qgp, Qd7, Qcm, QmX, Qd2, Qd1, Qd0, QdZ, QdY, QdX, QcT, QdW, QdV, QcM, QcL, QcK, QcJ, Qb7, Qcm]
   try generalize (cApp ((([] : List Int) ++ (wnL tI (y3) (Int.toNat 0) (Int.toNat (((insK (lgt tI x0 x4.toNat) y3 (llen y3).toNat : Nat) : Int)) - Int.toNat 0))) ++ ([(lgt tI (x0) (Int.toNat (x4)))])) (wnL tI (y3) (Int.toNat (((insK (lgt tI x0 x4.toNat) y3 (llen y3).toNat : Nat) : Int))) (Int.toNat ((List.length (y3) : Nat) : Int) - Int.toNat (((insK (lgt tI x0 x4.toNat) y3 (llen y3).toNat : Nat) : Int)))) 8) = cq0
   try generalize (cWn (y3) (((insK (lgt tI x0 x4.toNat) y3 (llen y3).toNat : Nat) : Int)) ((List.length (y3) : Nat) : Int)) = cq1
   try generalize (cApp (([] : List Int) ++ (wnL tI (y3) (Int.toNat 0) (Int.toNat (((insK (lgt tI x0 x4.toNat) y3 (llen y3).toNat : Nat) : Int)) - Int.toNat 0))) ([(lgt tI (x0) (Int.toNat (x4)))]) 8) = cq2
   try generalize (cApp ([] : List Int) (wnL tI (y3) (Int.toNat 0) (Int.toNat (((insK (lgt tI x0 x4.toNat) y3 (llen y3).toNat : Nat) : Int)) - Int.toNat 0)) 8) = cq3
   try generalize (cWn (y3) 0 (((insK (lgt tI x0 x4.toNat) y3 (llen y3).toNat : Nat) : Int))) = cq4
   try generalize (cIx (x0) (x4)) = cq5
   try generalize ((decide (0 ≤ (llen y3) ∧ (llen y3) ≤ y3.length ∧ y3.length ≤ 1000) && cIx x0 x4)) = cq6
   simp only [brN, Qcm, Bool.and_assoc, Bool.and_comm, Bool.and_left_comm, Bool.and_self, Bool.and_self_left, QaE, nxt_n, nxt_r, nxt_e, nxt_0]
   try rfl))
def r_f36 (p0 : List Int) : Option (V × List VO) := br (decide (0 ≤ (0 : Int) ∧ (0 : Int) ≤ p0.length ∧ p0.length ≤ 1000 ∧ ([] : List Int).length ≤ (0 : Int).toNat)) (some (.ms 50000, [.arr 3 tI ((p0.drop (0 : Int).toNat).foldl insS ([] : List Int))])) none
theorem e_f36 (p0 : List Int) : runF g_f36 Qz5 QL4 true [.t (.sl tI) p0] [] = r_f36 p0 := by kernel_rfl
theorem en_f36 : Qag Tryz.prog 36 := .inr ⟨by decide, _, Tryz.func36, by kernel_rfl, by kernel_rfl⟩
theorem gk_f36 : GOk Tryz.prog g_f36 := Qan _ (gA (gC en_f58 ms_f58 gN))
theorem QPm (x0 : List Int) (x4 x5 : Int) (y3 : List Int) (h : (decide (0 ≤ x5 ∧ x5 ≤ y3.length ∧ y3.length ≤ 1000) && cIx x0 x4) = true) : Qk0 x0 x4 x5 y3 = Qlf x0 x4 x5 y3 := by
 obtain ⟨h, hc⟩ := Bool.and_eq_true_iff.1 h
 obtain ⟨h0, h1, h2⟩ := of_decide_eq_true h
 obtain ⟨k, rfl⟩ := Int.eq_ofNat_of_zero_le h0
 have key : ∀ k : Nat, k ≤ y3.length → Qk0 x0 x4 (k : Int) y3 = Qlf x0 x4 (k : Int) y3 := by
  intro k
  induction k with
  | zero =>
   intro _
   rw [QwL]
   simp only [Qp3, Qlf, show igt ((0 : Nat) : Int) 0 = false from rfl, Qae, Int.toNat_natCast]
   rfl
  | succ k ih =>
   intro hk
   rw [QwL]
   have e1 : isub .i64 ((k + 1 : Nat) : Int) 1 = (k : Int) := by rw [QbE (by omega)]; omega
   have e2 : cLd y3 k = true := decide_eq_true (by omega)
   simp only [Qp3, show igt ((k + 1 : Nat) : Int) 0 = true from decide_eq_true (by omega), Qac, e1, Qay, show k < y3.length by omega, decide_true, Int.toNat_natCast, e2, hc, ih (by omega)]
   simp only [Qlf, Int.toNat_natCast]
   rw [show insK (lgt tI x0 x4.toNat) y3 (k + 1) = if ilt (QaW (y3.getD k 0)) (QaW (lgt tI x0 x4.toNat)) = true then insK (lgt tI x0 x4.toNat) y3 k else k + 1 from rfl]
   show br (ilt (QaW (y3.getD k 0)) (QaW (lgt tI x0 x4.toNat))) _ _ = _
   cases ilt (QaW (y3.getD k 0)) (QaW (lgt tI x0 x4.toNat)) <;> rfl
 exact key k (by omega)
theorem QPl (x0 : List Int) (x4 : Int) (y3 : List Int) (h : (decide (0 ≤ x4 ∧ x4 ≤ x0.length ∧ x0.length ≤ 1000 ∧ y3.length ≤ x4.toNat)) = true) : QkZ x0 x4 y3 = Qle x0 x4 y3 := by
 simp only [decide_eq_true_eq] at h
 obtain ⟨h0, h1, h2, h3⟩ := h
 obtain ⟨k, rfl⟩ := Int.eq_ofNat_of_zero_le h0
 rw [Int.toNat_natCast] at h3
 revert y3
 refine Qav x0 (fun k => ∀ y3 : List Int, y3.length ≤ k → QkZ x0 (k : Int) y3 = Qle x0 (k : Int) y3) ?_ ?_ k (by omega)
 ·intro y3 _
  rw [QwK]
  simp only [QmX, Qd2, Qd1, Qd0, QdZ, QdY, QdX, QcT, QdW, QdV, QcM, QcL, QcK, QcJ, Qb7, Qcm, Qle, show ilt (x0.length : Int) (llen x0) = false from decide_eq_false (by simp only [llen]; omega), Qae, Int.toNat_natCast, List.drop_length, List.foldl_nil]
 ·intro k hk ih y3 hy
  rw [QwK]
  have hle := Qvx x0[k] y3 y3.length
  obtain ⟨q, hq⟩ : ∃ q, q = insK x0[k] y3 y3.length := ⟨_, rfl⟩
  rw [← hq] at hle
  have c0 : decide ((0 : Int) ≤ (y3.length : Nat) ∧ ((y3.length : Nat) : Int) ≤ y3.length ∧ y3.length ≤ 1000) = true := decide_eq_true (by omega)
  have c1 : cWn y3 0 (q : Int) = true := decide_eq_true (by omega)
  have c2 : cWn y3 (q : Int) (y3.length : Nat) = true := decide_eq_true (by omega)
  have w1 : wnL tI y3 0 (q - 0) = y3.take q := by rw [QqL (by omega), List.drop_zero, Nat.sub_zero]
  have w2 : wnL tI y3 q (y3.length - q) = y3.drop q := by rw [QqL (by omega), List.take_of_length_le (by rw [List.length_drop]; omega)]
  have a1 : cApp ([] : List Int) (y3.take q) 8 = true := cAppN (by omega) (by simp only [List.length_nil, List.length_take]; omega)
  have a2 : cApp (y3.take q) [x0[k]] 8 = true := cAppN (by omega) (by simp only [List.length_singleton, List.length_take]; omega)
  have a3 : cApp (y3.take q ++ [x0[k]]) (y3.drop q) 8 = true := cAppN (by omega) (by simp only [List.length_append, List.length_singleton, List.length_take, List.length_drop]; omega)
  simp only [QmX, Qd2, Qd1, Qd0, QdZ, QdY, QdX, QcT, QdW, QdV, QcM, QcL, QcK, QcJ, Qb7, Qcm, show ilt (k : Int) (llen x0) = true from decide_eq_true (by simp only [llen]; omega), Qay, hk, decide_true, Bool.and_true, Qac, Int.toNat_natCast, Int.toNat_zero, add1 (show k < 4611686018427387904 by omega), QaG (y := tI) hk, llen, c0, ← hq, c1, c2, w1, w2, List.nil_append, a1, a2, a3, Qcm]
  have e := ih (insS y3 x0[k]) (by rw [QwY]; omega)
  simp only [insS, ← hq] at e
  rw [e]
  simp only [Qle, Int.toNat_natCast, List.drop_eq_getElem_cons hk, List.foldl_cons, insS, ← hq]
theorem QH5 : ∀ S l p, g_f36.L 0 (fgt QiB S) = some (true, l) → pickA l = some p → loopF (Qaj g_f36 QiB Qkj) S = some p :=
 QaF (s := Qpc) ⟨by decide, by decide⟩ (by kernel_rfl) fun x y hok p hp => by
 simp only [Qas, Qap] at hp
 exact (QPm x.1 x.2.2.1 x.2.2.2.1 y.1 (by simpa using hok)).trans hp
theorem QH4 : ∀ S l p, g_f36.L 1 (fgt QiA S) = some (true, l) → pickA l = some p → loopF (Qaj g_f36 QiA Qki) S = some p :=
 QaF (s := Qpb) ⟨by decide, by decide⟩ (by kernel_rfl) fun x y hok p hp => by
 simp only [Qas, Qap] at hp
 exact (QPl x.1 x.2.2.1 y.1 (by simpa using hok)).trans hp
theorem lk_f36 : Qz5.lok g_f36 := by
 repeat (first | exact trivial | exact QH5 | exact QH4 | refine ⟨?_, ?_⟩)
theorem s_f36 (l : List Int) (h : lenS l = true) : r_f36 l = some (.ms 50000, [.arr 3 tI (sortS l)]) := by
 simp only [lenS, decide_eq_true_eq] at h
 refine Eq.trans (congrArg (fun b => br b _ _) (decide_eq_true ⟨Int.le_refl _, by omega, h, by simp⟩)) ?_
 rfl
def QK8 : Ent := specO (.pr (.sl tI) .nil) (fun x => (lenS x.1)) (fun x => (.ms 50000)) (fun x => [.arr 3 tI (sortS x.1)])
theorem ms_f36 : Meets Tryz.prog 36 (strip QK8) := QgX (R := runF g_f36 Qz5 QL4 true) (mG Tryz.func36 (by kernel_rfl) Tryz.ntmps36 (by kernel_rfl) gk_f36 lk_f36) fun x hok => (e_f36 x.1).trans (s_f36 x.1 hok)
end
end Go.Proofs.YtkngeegkjhipeaaGreat.K
