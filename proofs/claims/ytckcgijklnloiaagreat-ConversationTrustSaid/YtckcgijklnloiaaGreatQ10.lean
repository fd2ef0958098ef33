import Derived.Test.YtckcgijklnloiaaGreatQ9
import Derived.Test.YtckcgijklnloiaaGreatQ8
set_option linter.unusedSimpArgs false
set_option linter.unusedVariables false
namespace Go.Proofs.YtckcgijklnloiaaGreat.K
open Go.RowKit
noncomputable section
def useL : List Keep := [(2, (0, ())), (1, (0, ())), (5, (2048, ())), (16, (128, ())), (3, (0, ())), (15, (168, ()))]
def linkZ : Nat → Int → Dice → List Link × Dice
 | 0, _, d => ([], d)
 | n + 1, day, d => ((lgt Qah useL (dval d 6).toNat, (day, ())) :: (linkZ n (iadd .i64 (iadd .i64 day 1) (dof (dnext d 6) [5, 30, 0, 100])) (dofN (dnext d 6) [5, 30, 0, 100])).1, (linkZ n (iadd .i64 (iadd .i64 day 1) (dof (dnext d 6) [5, 30, 0, 100])) (dofN (dnext d 6) [5, 30, 0, 100])).2)
def itD3 (d : Dice) : Dice := dnext (dnext (dnext (dnext d 2) 4) 20) 3
def itLk (d : Dice) : List Link × Dice := linkZ (iadd .i64 1 (dval (dnext (dnext (dnext d 2) 4) 20) 3)).toNat (dval (dnext (dnext d 2) 4) 20) (itD3 d)
def itemV (d : Dice) (s : ByteArray) : Item := (s, (iadd .i64 1 (dval d 2), (iadd .i64 1 (dval (dnext d 2) 4), ((itLk d).1, (iadd .i64 (lgt Qby (itLk d).1 0).2.1 (dof (itLk d).2 [50, 300, 0, 3000]), ())))))
def itemN (d : Dice) (_s : ByteArray) : Dice := dofN (itLk d).2 [50, 300, 0, 3000]
def dOkS (d : Dice) (_s : ByteArray) : Bool := dOk d
theorem QPM {n : Nat} : ∀ {day : Int} {d : Dice}, dOk d = true → dOk (linkZ n day d).2 = true := by
 induction n with
 | zero => exact fun h => h
 | succ n ih => exact fun h => ih (Qwv (l := [5, 30, 0, 100]) (QaH h))
theorem QB4 {d : Dice} (h : dOk d = true) : dOk (itLk d).2 = true := QPM (QaH (QaH (QaH (QaH h))))
theorem QPN {d : Dice} {s : ByteArray} (h : dOk d = true) : dOk (itemN d s) = true := Qwv (QB4 h)
theorem QtS : ∀ (n : Nat) (day : Int) (d : Dice), (linkZ n day d).1.length = n
 | 0, _, _ => rfl
 | n + 1, day, d => by simp only [linkZ, List.length_cons, QtS n]
theorem QCO : useL.all QbW = true := by kernel_rfl
theorem QVC {y : Ty} {l : List y.T} {i : Nat} (h : i < l.length) : lgt y l i ∈ l := by
 rw [Qaz (y := y) h]
 exact List.getElem_mem h
theorem QS4 {e : Dice} : 0 ≤ dof e [5, 30, 0, 100] ∧ dof e [5, 30, 0, 100] ≤ 100 := by
 have h := QzN (d := e) (l := [5, 30, 0, 100]) (by decide)
 simp only [List.mem_cons, List.not_mem_nil, or_false] at h
 omega
theorem QAX : ∀ (n : Nat) (day : Int) (d : Dice) (pv : Option Int), n ≤ 3 → 0 ≤ day → day + 101 * n ≤ 1000 → (∀ e, pv = some e → e < day) → Qh1 pv (linkZ n day d).1 = true
 | 0, _, _, pv, _, _, _, _ => by cases pv <;> rfl
 | n + 1, day, d, pv, h1, h2, h3, h4 => by
  have hv := Qbm (d := d) (n := 6) (by omega)
  have hs := QS4 (e := dnext d 6)
  have e1 : iadd .i64 (iadd .i64 day 1) (dof (dnext d 6) [5, 30, 0, 100]) = day + 1 + dof (dnext d 6) [5, 30, 0, 100] := by rw [Qbi (a := day) (b := 1) (by omega), Qbi (by omega)]
  unfold linkZ
  rw [Qqd, e1]
  have hu : QbW (lgt Qah useL (dval d 6).toNat) = true := List.all_eq_true.1 QCO _ (QVC (y := Qah) (by have : useL.length = 6 := rfl; omega))
  have hr := QAX n (day + 1 + dof (dnext d 6) [5, 30, 0, 100]) (dofN (dnext d 6) [5, 30, 0, 100]) (some day) (by omega) (by omega) (by omega) (fun e he => by injection he; omega)
  simp only [hu, hr, decide_eq_true (show 0 ≤ day ∧ day ≤ 40000 by omega), Bool.true_and, Bool.and_true]
  cases pv with
  | none => rfl
  | some e => exact decide_eq_true (h4 e rfl)
theorem QDi : ∀ (n : Nat) (day : Int) (d : Dice), 0 < n → ((linkZ n day d).1.headD ((0, (0, ())), (0, ()))).2.1 = day
 | 0, _, _, h => by omega
 | n + 1, day, d, _ => rfl
theorem QOO (d : Dice) : 1 ≤ (itLk d).1.length ∧ (itLk d).1.length ≤ 3 := by
 have b3 := Qbm (d := dnext (dnext (dnext d 2) 4) 20) (n := 3) (by omega)
 have e3 : iadd .i64 1 (dval (dnext (dnext (dnext d 2) 4) 20) 3) = 1 + dval (dnext (dnext (dnext d 2) 4) 20) 3 := Qbi (by omega)
 unfold itLk
 rw [QtS, e3]
 omega
theorem QV2 (d : Dice) {s : ByteArray} (hs : Qa6 s = true) : Qet (itemV d s) = true := by
 have b2 := Qbm (d := d) (n := 2) (by omega)
 have b4 := Qbm (d := dnext d 2) (n := 4) (by omega)
 have b20 := Qbm (d := dnext (dnext d 2) 4) (n := 20) (by omega)
 have b3 := Qbm (d := dnext (dnext (dnext d 2) 4) 20) (n := 3) (by omega)
 have e2 : iadd .i64 1 (dval d 2) = 1 + dval d 2 := Qbi (by omega)
 have e4 : iadd .i64 1 (dval (dnext d 2) 4) = 1 + dval (dnext d 2) 4 := Qbi (by omega)
 have e3 : iadd .i64 1 (dval (dnext (dnext (dnext d 2) 4) 20) 3) = 1 + dval (dnext (dnext (dnext d 2) 4) 20) 3 := Qbi (by omega)
 have hl := QOO d
 have hh : ((itLk d).1.headD ((0, (0, ())), (0, ()))).2.1 = dval (dnext (dnext d 2) 4) 20 := QDi _ _ _ (by rw [e3]; omega)
 have e0 : lgt Qby (itLk d).1 0 = (itLk d).1.headD ((0, (0, ())), (0, ())) := by
  cases hq : (itLk d).1 with
  | nil => rw [hq] at hl; simp at hl
  | cons a l => rfl
 have hu : 0 ≤ dof (itLk d).2 [50, 300, 0, 3000] ∧ dof (itLk d).2 [50, 300, 0, 3000] ≤ 3000 := by
  have h := QzN (d := (itLk d).2) (l := [50, 300, 0, 3000]) (by decide)
  simp only [List.mem_cons, List.not_mem_nil, or_false] at h
  omega
 have eu : iadd .i64 (lgt Qby (itLk d).1 0).2.1 (dof (itLk d).2 [50, 300, 0, 3000]) = (lgt Qby (itLk d).1 0).2.1 + dof (itLk d).2 [50, 300, 0, 3000] := Qbi (by rw [e0, hh]; omega)
 refine Qa4.2 ⟨hs, ?_, ?_, ?_, ?_, ?_⟩
 ·show 1 ≤ iadd .i64 1 (dval d 2) ∧ iadd .i64 1 (dval d 2) ≤ 2
  omega
 ·show 1 ≤ iadd .i64 1 (dval (dnext d 2) 4) ∧ iadd .i64 1 (dval (dnext d 2) 4) ≤ 4
  omega
 ·show 1 ≤ (itLk d).1.length ∧ (itLk d).1.length ≤ 8
  omega
 ·exact QAX _ _ _ none (by rw [e3]; omega) (by omega) (by omega) (fun e he => by cases he)
 ·show ((itLk d).1.headD ((0, (0, ())), (0, ()))).2.1 ≤ iadd .i64 (lgt Qby (itLk d).1 0).2.1 (dof (itLk d).2 [50, 300, 0, 3000]) ∧ iadd .i64 (lgt Qby (itLk d).1 0).2.1 (dof (itLk d).2 [50, 300, 0, 3000]) ≤ 40000
  rw [eu, e0, hh]
  omega
noncomputable def QPC : List DO := dT Tryz.f37 9
def Qku : Fg := ⟨[(0, none), (4, none), (5, none), (6, some tI), (7, some tI)], [(4, some QaJ), (5, none), (43, none), (20503, none), (50000, some QaK)]⟩
noncomputable def Qmw : TC := (.sq (.sq (.reg (rT Tryz.f37 4)) (.cd (.t 23) .sk (.fg ⟨[(0, none), (4, none), (5, none)], [(4, some QaJ), (5, some QaJ), (43, none), (20503, none), (50000, some QaK)]⟩ (.ex 0)))) (.sq (.bk 1 (.sq (.reg (rT Tryz.f37 5)) (.sq (.reg (rT Tryz.f37 6)) (.reg (rT Tryz.f37 7))))) (.reg (rT Tryz.f37 8))))
noncomputable def QEL : TC := (.sq (.reg (rT Tryz.f37 0)) (.sq (.reg (rT Tryz.f37 1)) (.sq (.reg (rT Tryz.f37 2)) (.sq (.sq (.reg (rT Tryz.f37 3)) (.bk 0 (.nf 5 3 128 20503 (.lp 0 Qku Qmw)))) (.sq (.dr QPC [(0, [5, 43, 20503]), (1, [5, 43, 20503]), (2, [43, 20503]), (3, [43, 20503]), (4, [43, 20503]), (5, [50000]), (6, []), (7, [58, 5058, 10058, 15058, 50000]), (8, []), (9, [5, 43, 20503]), (10, [4, 5, 43, 20503])] (.of [0, 1, 2, 3, 4, 5, 6, 7, 8, 9, 10])) (.sq (.reg (rT Tryz.f37 10)) .rt))))))
def QRY : List (RV × Option Ty) := [((.c 4 true 5), some QaJ)]
abbrev Qsy : Sh := ⟨[(0, .ptr 50000 0), (4, .ptr 4 0), (5, .ptr 5 0), (6, .ty tI), (7, .ty tI)], [(4, .box QaJ), (5, .bag [.ty .str, .ty tI, .ty tI, .ms 20503, .ty tI]), (43, .no), (20503, .arr 128 Qby), (50000, .box QaK)]⟩
def Qr8 (x6 x7 : Int) (y4 : Item) (y5_0 : ByteArray) (y5_1 y5_2 y5_4 : Int) (y20503 : List Link) (y50000 : Dice) : VS := Qsy.st ((), (), (), x6, x7, ()) (y4, (y5_0, y5_1, y5_2, (), y5_4, ()), (), y20503, y50000, ())
abbrev Qyl : Sh := ⟨[(0, .ptr 50000 0), (4, .ptr 4 0), (5, .ptr 5 0)], [(4, .box QaJ), (5, .bag [.ty .str, .ty tI, .ty tI, .ms 20503, .ty tI]), (43, .no), (20503, .arr 128 Qby), (50000, .box QaK)]⟩
def Qfa (y4 : Item) (y5_0 : ByteArray) (y5_1 y5_2 y5_4 : Int) (y20503 : List Link) (y50000 : Dice) : VS := Qyl.st ((), (), (), ()) (y4, (y5_0, y5_1, y5_2, (), y5_4, ()), (), y20503, y50000, ())
def QYx : VS → Option (Bool × List (Bool × Exit × VS)) := mkL Qsy (fun x y => (dOk y.2.2.2.2.1 && decide (0 ≤ x.2.2.2.2.1 ∧ x.2.2.2.2.1 ≤ 100 ∧ y.2.2.2.1.length + x.2.2.2.2.1.toNat ≤ 1000))) (fun x y => [(true, .exit 0, Qfa (y.1) (y.2.1.1) (y.2.1.2.1) (y.2.1.2.2.1) (y.2.1.2.2.2.2.1) (y.2.2.2.1 ++ (linkZ x.2.2.2.2.1.toNat x.2.2.2.1 y.2.2.2.2.1).1) ((linkZ x.2.2.2.2.1.toNat x.2.2.2.1 y.2.2.2.2.1).2))])
def g_f37 : G := ⟨TYs, [], 62, EL [(35, Qro), (45, QE7)], keeps, (Ls [QYx]), IL [], RL []⟩
def QME (x6 x7 : Int) (y4 : Item) (y5_0 : ByteArray) (y5_1 y5_2 y5_4 : Int) (y20503 : List Link) (y50000 : Dice) : Option (Exit × VS) :=
 let a1 := (lgt Qah ([(2, (0, ())), (1, (0, ())), (5, (2048, ())), (16, (128, ())), (3, (0, ())), (15, (168, ()))]) (Int.toNat (dval y50000 6)))
 let a2 := ((a1.1, ((a1.2).1, ())), (x6, ()))
 let a3 := dnext y50000 6
 br (igt x7 0) (br (QaS y50000 6) (br (cIx ([(2, (0, ())), (1, (0, ())), (5, (2048, ())), (16, (128, ())), (3, (0, ())), (15, (168, ()))]) (dval y50000 6)) (br (cApp y20503 ([a2]) 24) (br (ofOk a3 ([5, 30, 0, 100])) (some (.normal, Qr8 (iadd .i64 (iadd .i64 x6 1) (dof a3 ([5, 30, 0, 100]))) (isub .i64 x7 1) y4 y5_0 y5_1 y5_2 y5_4 (y20503 ++ ([a2])) (dofN a3 ([5, 30, 0, 100])))) none) none) none) none) (some (.exit 0, Qfa y4 y5_0 y5_1 y5_2 y5_4 y20503 y50000))
noncomputable def QtL (x6 x7 : Int) (y4 : Item) (y5_0 : ByteArray) (y5_1 y5_2 y5_4 : Int) (y20503 : List Link) (y50000 : Dice) : Option (Exit × VS) := loopF (Qaj g_f37 Qku Qmw) (Qr8 x6 x7 y4 y5_0 y5_1 y5_2 y5_4 y20503 y50000)
noncomputable def Qty (x6 x7 : Int) (y4 : Item) (y5_0 : ByteArray) (y5_1 y5_2 y5_4 : Int) (y20503 : List Link) (y50000 : Dice) : Option (Exit × VS) :=
 let a1 := (lgt Qah ([(2, (0, ())), (1, (0, ())), (5, (2048, ())), (16, (128, ())), (3, (0, ())), (15, (168, ()))]) (Int.toNat (dval y50000 6)))
 let a2 := ((a1.1, ((a1.2).1, ())), (x6, ()))
 let a3 := dnext y50000 6
 br (igt x7 0) (br (QaS y50000 6) (br (cIx ([(2, (0, ())), (1, (0, ())), (5, (2048, ())), (16, (128, ())), (3, (0, ())), (15, (168, ()))]) (dval y50000 6)) (br (cApp y20503 ([a2]) 24) (br (ofOk a3 ([5, 30, 0, 100])) (QtL (iadd .i64 (iadd .i64 x6 1) (dof a3 ([5, 30, 0, 100]))) (isub .i64 x7 1) y4 y5_0 y5_1 y5_2 y5_4 (y20503 ++ ([a2])) (dofN a3 ([5, 30, 0, 100]))) none) none) none) none) (some (.exit 0, Qfa y4 y5_0 y5_1 y5_2 y5_4 y20503 y50000))
def QjP (x6 x7 : Int) (y4 : Item) (y5_0 : ByteArray) (y5_1 y5_2 y5_4 : Int) (y20503 : List Link) (y50000 : Dice) : Option (Exit × VS) :=
 let a1 := linkZ x7.toNat x6 y50000
 some (.exit 0, Qfa (y4) (y5_0) (y5_1) (y5_2) (y5_4) (y20503 ++ a1.1) (a1.2))
theorem QP6 (x6 x7 : Int) (y4 : Item) (y5_0 : ByteArray) (y5_1 y5_2 y5_4 : Int) (y20503 : List Link) (y50000 : Dice) : Qaj g_f37 Qku Qmw (Qr8 x6 x7 y4 y5_0 y5_1 y5_2 y5_4 y20503 y50000) = QME x6 x7 y4 y5_0 y5_1 y5_2 y5_4 y20503 y50000 := by kernel_rfl
theorem QAN (x6 x7 : Int) (y4 : Item) (y5_0 : ByteArray) (y5_1 y5_2 y5_4 : Int) (y20503 : List Link) (y50000 : Dice) : QtL x6 x7 y4 y5_0 y5_1 y5_2 y5_4 y20503 y50000 = Qty x6 x7 y4 y5_0 y5_1 y5_2 y5_4 y20503 y50000 := (Qao _ _).trans (by
 rw [QP6]
 simp only [QME, Qty, QaA, nxt_n, nxt_r, nxt_e, nxt_0]
 rfl)
def r_f37 (d0 : Dice) (p1 : ByteArray) : Option (V × List VO) :=
 let a2 := dnext (dnext (dnext d0 2) 4) 20
 let a3 := iadd .i64 1 (dval a2 3)
 let a1 := linkZ a3.toNat (dval (dnext (dnext d0 2) 4) 20) (dnext a2 3)
 br (QaS d0 2) (br (QaS (dnext d0 2) 4) (br (QaS (dnext (dnext d0 2) 4) 20) (br (QaS a2 3) (br (dOk (dnext a2 3) && decide (0 ≤ a3 ∧ a3 ≤ 100 ∧ ([] : List Link).length + a3.toNat ≤ 1000)) (br (cIx (([] : List Link) ++ a1.1) 0) (br (cLd (([] : List Link) ++ a1.1) (Int.toNat 0)) (br (ofOk (a1.2) ([50, 300, 0, 3000])) (some (.t QaJ ((p1), ((iadd .i64 1 (dval d0 2)), ((iadd .i64 1 (dval (dnext d0 2) 4)), ((([] : List Link) ++ a1.1), ((iadd .i64 (((lgt Qby (([] : List Link) ++ a1.1) (Int.toNat 0)).2).1) (dof (a1.2) ([50, 300, 0, 3000]))), ()))))), [.box (.t QaK (dofN (a1.2) ([50, 300, 0, 3000])))])) none) none) none) none) none) none) none) none
theorem e_f37 (d0 : Dice) (p1 : ByteArray) : runF g_f37 QEL QRY false [.ptr 50000 0, .t .str p1] [.box (.t QaK d0)] = r_f37 d0 p1 := by kernel_rfl
theorem en_f37 : Qai Tryz.prog 37 := .inr ⟨by decide, _, Tryz.func37, by kernel_rfl, by kernel_rfl⟩
theorem gk_f37 : GOk Tryz.prog g_f37 := Qal _ (gA (gC Qwp QvF (gC QSK QSu gN)))
theorem QVP (x6 x7 : Int) (y4 : Item) (y5_0 : ByteArray) (y5_1 y5_2 y5_4 : Int) (y20503 : List Link) (y50000 : Dice) (h : (dOk y50000 && decide (0 ≤ x7 ∧ x7 ≤ 100 ∧ y20503.length + x7.toNat ≤ 1000)) = true) : QtL x6 x7 y4 y5_0 y5_1 y5_2 y5_4 y20503 y50000 = QjP x6 x7 y4 y5_0 y5_1 y5_2 y5_4 y20503 y50000 := by
 simp only [Bool.and_eq_true, decide_eq_true_eq] at h
 obtain ⟨hd, h1, h2q, h3⟩ := h
 obtain ⟨k, rfl⟩ := Int.eq_ofNat_of_zero_le h1
 rw [Int.toNat_natCast] at h3
 have h2 : k ≤ 100 := by omega
 clear h1 h2q
 induction k generalizing y20503 y50000 x6 with
 | zero =>
  rw [QAN]
  have e1 : igt ((0 : Nat) : Int) 0 = false := rfl
  simp only [Qty, e1, Qaf, QjP, Int.toNat_natCast, linkZ, List.append_nil]
 | succ k ih =>
  rw [QAN]
  have e1 : igt ((k + 1 : Nat) : Int) 0 = true := by simp only [igt, decide_eq_true_eq]; omega
  have e2 : isub .i64 ((k + 1 : Nat) : Int) 1 = (k : Int) := by rw [Qco (by omega)]; omega
  have hv := Qbm (d := y50000) (n := 6) (by omega)
  have hc : cIx useL (dval y50000 6) = true := by
   have : useL.length = 6 := rfl
   simp only [cIx, decide_eq_true_eq]
   omega
  have hla : QjP x6 ((k + 1 : Nat) : Int) y4 y5_0 y5_1 y5_2 y5_4 y20503 y50000 = QjP (iadd .i64 (iadd .i64 x6 1) (dof (dnext y50000 6) [5, 30, 0, 100])) (k : Int) y4 y5_0 y5_1 y5_2 y5_4 (y20503 ++ [(lgt Qah useL (dval y50000 6).toNat, (x6, ()))]) (dofN (dnext y50000 6) [5, 30, 0, 100]) := by
   simp only [QjP, Int.toNat_natCast, linkZ, List.append_assoc]
   rfl
  rw [hla, ← ih _ _ _ (Qwv (QaH hd)) (by simp; omega) (by omega)]
  have n6 : QaS y50000 6 = true := by simp [QaS, hd]
  have f1 : ofOk (dnext y50000 6) [5, 30, 0, 100] = true := by simp [ofOk, QaH hd]
  simp only [Qty, e1, e2, n6, f1, Qad, show ([(2, (0, ())), (1, (0, ())), (5, (2048, ())), (16, (128, ())), (3, (0, ())), (15, (168, ()))] : List Keep) = useL from rfl, hc]
  rw [QYc (by simp; omega) (by omega), Qad]
  show br (cIx useL (dval y50000 6)) _ _ = _
  rw [hc, Qad]
theorem QN0 : ∀ S l p, g_f37.L 0 (fgt Qku S) = some (true, l) → pickA l = some p → loopF (Qaj g_f37 Qku Qmw) S = some p :=
 QaB (s := Qsy) ⟨by decide, by decide⟩ (by kernel_rfl) fun x y hok p hp => by
 simp only [Qas, Qan] at hp
 exact (QVP x.2.2.2.1 x.2.2.2.2.1 y.1 y.2.1.1 y.2.1.2.1 y.2.1.2.2.1 y.2.1.2.2.2.2.1 y.2.2.2.1 y.2.2.2.2.1 (by simpa using hok)).trans hp
theorem lk_f37 : QEL.lok g_f37 := by
 repeat (first | exact trivial | exact QN0 | refine ⟨?_, ?_⟩)
theorem s_f37 (d : Dice) (s : ByteArray) (h : dOkS d s = true) : r_f37 d s = some (.t QaJ (itemV d s), [.box (.t QaK (itemN d s))]) := by
 have h : dOk d = true := h
 have n2 : QaS d 2 = true := by simp [QaS, h]
 have n4 : QaS (dnext d 2) 4 = true := by simp [QaS, QaH h]
 have n20 : QaS (dnext (dnext d 2) 4) 20 = true := by simp [QaS, QaH (QaH h)]
 have n3 : QaS (dnext (dnext (dnext d 2) 4) 20) 3 = true := by simp [QaS, QaH (QaH (QaH h))]
 have b3 := Qbm (d := dnext (dnext (dnext d 2) 4) 20) (n := 3) (by omega)
 have e3 : iadd .i64 1 (dval (dnext (dnext (dnext d 2) 4) 20) 3) = 1 + dval (dnext (dnext (dnext d 2) 4) 20) 3 := Qbi (by omega)
 have hl := QtS (iadd .i64 1 (dval (dnext (dnext (dnext d 2) 4) 20) 3)).toNat (dval (dnext (dnext d 2) 4) 20) (itD3 d)
 have hd3 : dOk (itD3 d) = true := QaH (QaH (QaH (QaH h)))
 have hL : dOk (itLk d).2 = true := QB4 h
 have f5 : ofOk (itLk d).2 [50, 300, 0, 3000] = true := by simp [ofOk, hL]
 have hlen : 0 < (itLk d).1.length := by
  show 0 < (linkZ _ _ _).1.length
  rw [hl]
  omega
 have c1 : cIx (itLk d).1 0 = true := by simp only [cIx, decide_eq_true_eq]; omega
 have c2 : cLd (itLk d).1 (Int.toNat 0) = true := by simp only [cLd, decide_eq_true_eq]; exact hlen
 simp only [r_f37, n2, n4, n20, n3, Qad, List.nil_append, show dnext (dnext (dnext (dnext d 2) 4) 20) 3 = itD3 d from rfl, hd3, Bool.true_and]
 rw [QnQ ⟨by omega, by omega, by simp; omega⟩, Qad]
 simp only [show linkZ (iadd .i64 1 (dval (dnext (dnext (dnext d 2) 4) 20) 3)).toNat (dval (dnext (dnext d 2) 4) 20) (itD3 d) = itLk d from rfl, c1, c2, f5, Qad]
 rfl
def QRe : Ent := specP QaK (.pr .str .nil) (fun d x => (dOkS d x.1)) (fun d x => (.t QaJ (itemV d x.1))) (fun d x => (itemN d x.1))
theorem ms_f37 : Meets Tryz.prog 37 (strip QRe) := Qcz (R := runF g_f37 QEL QRY false) (mG Tryz.func37 (by kernel_rfl) Tryz.ntmps37 (by kernel_rfl) gk_f37 lk_f37) rfl fun d x hok => (e_f37 d x.1).trans (s_f37 d x.1 hok)
noncomputable def QPF : List DO := [(.mk (oV 16 0) []), (.mk (oV 17 5) []), (.mk (oP 18 (.ix 2 (.t 16) (.t 17))) [0, 1]), (.mk (oM 19 (.ld true 2 (.t 18))) [2]), (.mk (oV 20 1) []), (.mk (oV 21 5) []), (.mk (oP 22 (.ix 2 (.t 20) (.t 21))) [4, 5]), (.mk (oM 23 (.ld true 2 (.t 22))) [6]), (.mk (oP 24 (.eqs true [0, 0] (.t 19) (.t 23))) [3, 7])]
def QBQ : Fg := ⟨[(0, some (.sl Qah)), (1, some (.sl Qah)), (12, some tI), (13, some tI)], []⟩
noncomputable def Qz6 : TC := (.sq (.reg [(oP 14 (.bin false .lss (.t 13) (.t 12)))]) (.sq (.cd (.t 14) .sk (.fg ⟨[], []⟩ (.ex 0))) (.sq (.bk 1 (.sq (.reg [(oV 15 13), (oV 5 15)]) (.sq (.dr QPF [(0, []), (1, []), (2, []), (3, []), (4, []), (5, []), (6, []), (7, []), (8, [])] (.of [0, 1, 2, 3, 4, 5, 6, 7, 8])) (.cd (.t 24) (.sq (.reg [(oP 4 (.mv (cB false)))]) (.fg ⟨[(4, some .bool)], []⟩ .rt)) .sk)))) (.reg [(oP 25 (.bin false .add (.t 13) (cI 1))), (oV 13 25)]))))
abbrev QAi : Sh := ⟨[(0, .ty (.sl Qah)), (1, .ty (.sl Qah)), (12, .ty tI), (13, .ty tI)], []⟩
def Qr9 (x0 x1 : List Keep) (x12 x13 : Int) : VS := QAi.st (x0, x1, x12, x13, ()) ()
abbrev QuP : Sh := ⟨[(4, .ty .bool)], []⟩
def QdP (x4 : Bool) : VS := QuP.st (x4, ()) ()
abbrev Qym : Sh := ⟨[], []⟩
def Qfc  : VS := Qym.st () ()
def QYy : VS → Option (Bool × List (Bool × Exit × VS)) := mkL QAi (fun x y => (decide (0 ≤ x.2.2.2.1 ∧ x.2.2.2.1 ≤ x.1.length ∧ x.1.length = x.2.1.length ∧ x.2.2.1 = x.1.length ∧ x.1.length ≤ 100000))) (fun x y => [((!(x.1.drop x.2.2.2.1.toNat == x.2.1.drop x.2.2.2.1.toNat)), .ret, QdP (false)), (true, .exit 0, Qfc)])
def g_f22 : G := ⟨TYs, [], 26, EL [], keeps, (Ls [QYy]), IL [], RL []⟩
def QMF (x0 x1 : List Keep) (x12 x13 : Int) : Option (Exit × VS) :=
 let a1 := Int.toNat x13
 br (ilt x13 x12) (br (cIx x0 x13) (br (cIx x1 x13) (br (!(and (ieq ((lgt Qah x0 a1).1) ((lgt Qah x1 a1).1)) (and (ieq (((lgt Qah x0 a1).2).1) (((lgt Qah x1 a1).2).1)) true))) (some (.ret, QdP false)) (some (.normal, Qr9 x0 x1 x12 (iadd .i64 x13 1)))) none) none) (some (.exit 0, Qfc))
noncomputable def Qnm (x0 x1 : List Keep) (x12 x13 : Int) : Option (Exit × VS) := loopF (Qaj g_f22 QBQ Qz6) (Qr9 x0 x1 x12 x13)
noncomputable def Qtz (x0 x1 : List Keep) (x12 x13 : Int) : Option (Exit × VS) :=
 let a1 := Int.toNat x13
 br (ilt x13 x12) (br (cIx x0 x13) (br (cIx x1 x13) (br (!(and (ieq ((lgt Qah x0 a1).1) ((lgt Qah x1 a1).1)) (and (ieq (((lgt Qah x0 a1).2).1) (((lgt Qah x1 a1).2).1)) true))) (some (.ret, QdP false)) (Qnm x0 x1 x12 (iadd .i64 x13 1))) none) none) (some (.exit 0, Qfc))
def Qny (x0 x1 : List Keep) (x12 x13 : Int) : Option (Exit × VS) := br (!(x0.drop x13.toNat == x1.drop x13.toNat)) (some (.ret, QdP (false))) <| some (.exit 0, Qfc)
theorem QP7 (x0 x1 : List Keep) (x12 x13 : Int) : Qaj g_f22 QBQ Qz6 (Qr9 x0 x1 x12 x13) = QMF x0 x1 x12 x13 := by kernel_rfl
theorem QAO (x0 x1 : List Keep) (x12 x13 : Int) : Qnm x0 x1 x12 x13 = Qtz x0 x1 x12 x13 := (Qao _ _).trans (by
 rw [QP7]
 simp only [QMF, Qtz, QaA, nxt_n, nxt_r, nxt_e, nxt_0]
 rfl)
theorem l_f22_0 (x0 x1 : List Keep) (x12 x13 : Int) (h : (decide (0 ≤ x13 ∧ x13 ≤ x0.length ∧ x0.length = x1.length ∧ x12 = x0.length ∧ x0.length ≤ 100000)) = true) : Qnm x0 x1 x12 x13 = Qny x0 x1 x12 x13 := by
 simp only [decide_eq_true_eq] at h
 obtain ⟨h0, h1, h2, rfl, h3⟩ := h
 obtain ⟨k, rfl⟩ := Int.eq_ofNat_of_zero_le h0
 refine Qau x0 (fun k => Qnm x0 x1 (x0.length : Int) (k : Int) = Qny x0 x1 (x0.length : Int) (k : Int)) ?_ ?_ k (by omega)
 ·rw [QAO]
  simp only [Qtz, Qny, Qat, Nat.lt_irrefl, decide_false, Qaf, Int.toNat_natCast, List.drop_length]
  rw [h2, List.drop_length]
  rfl
 ·intro k hk ih
  rw [QAO]
  have hk2 : k < x1.length := by omega
  have hq : (and (ieq x0[k].1 x1[k].1) (and (ieq x0[k].2.1 x1[k].2.1) true)) = (x0[k] == x1[k]) := rfl
  simp only [Qtz, Qat, Qax, hk, hk2, decide_true, Qad, Int.toNat_natCast, add1 (show k < 4611686018427387904 by omega), Qaz (y := Qah) hk, Qaz (y := Qah) hk2, ih]
  rw [hq]
  simp only [Qny, Int.toNat_natCast, List.drop_eq_getElem_cons hk, List.drop_eq_getElem_cons hk2, List.cons_beq_cons]
  cases x0[k] == x1[k] <;> rfl
def QkC : Fg := ⟨[(1, some tI), (7, some (.sl tI)), (8, some tI), (9, some tI)], []⟩
noncomputable def QmF : TC := (.sq (.reg (rT Tryz.f16 2)) (.sq (.cd (.t 10) .sk (.fg ⟨[], []⟩ (.ex 0))) (.sq (.bk 1 (.sq (.reg (rT Tryz.f16 3)) (.sq (.reg (rT Tryz.f16 4)) (.cd (.t 15) (.sq (.reg (rT Tryz.f16 5)) (.fg ⟨[(4, some .bool)], []⟩ .rt)) .sk)))) (.reg (rT Tryz.f16 6)))))
noncomputable def QER : TC := (.sq (.reg (rT Tryz.f16 0)) (.sq (.sq (.reg (rT Tryz.f16 1)) (.bk 0 (.lp 0 QkC QmF))) (.sq (.reg (rT Tryz.f16 7)) .rt)))
def QR4 : List (RV × Option Ty) := [((.t 4), some .bool)]
abbrev QsK : Sh := ⟨[(1, .ty tI), (7, .ty (.sl tI)), (8, .ty tI), (9, .ty tI)], []⟩
def Qse (x1 : Int) (x7 : List Int) (x8 x9 : Int) : VS := QsK.st (x1, x7, x8, x9, ()) ()
abbrev Qu2 : Sh := ⟨[(4, .ty .bool)], []⟩
def Qd0 (x4 : Bool) : VS := Qu2.st (x4, ()) ()
abbrev Qyu : Sh := ⟨[], []⟩
def Qfk  : VS := Qyu.st () ()
def QYG : VS → Option (Bool × List (Bool × Exit × VS)) := mkL QsK (fun x y => (rngOk x.2.1 x.2.2.1 x.2.2.2.1)) (fun x y => [((hasF (x.2.1.drop x.2.2.2.1.toNat) x.1), .ret, Qd0 (true)), (true, .exit 0, Qfk)])
def g_f16 : G := ⟨TYs, [], 17, EL [], keeps, (Ls [QYG]), IL [], RL []⟩
def QMN (x1 : Int) (x7 : List Int) (x8 x9 : Int) : Option (Exit × VS) := br (ilt x9 x8) (br (cIx x7 x9) (br (ieq (lgt tI x7 (Int.toNat x9)) x1) (some (.ret, Qd0 true)) (some (.normal, Qse x1 x7 x8 (iadd .i64 x9 1)))) none) (some (.exit 0, Qfk))
noncomputable def Qnr (x1 : Int) (x7 : List Int) (x8 x9 : Int) : Option (Exit × VS) := loopF (Qaj g_f16 QkC QmF) (Qse x1 x7 x8 x9)
noncomputable def QtI (x1 : Int) (x7 : List Int) (x8 x9 : Int) : Option (Exit × VS) := br (ilt x9 x8) (br (cIx x7 x9) (br (ieq (lgt tI x7 (Int.toNat x9)) x1) (some (.ret, Qd0 true)) (Qnr x1 x7 x8 (iadd .i64 x9 1))) none) (some (.exit 0, Qfk))
def QnE (x1 : Int) (x7 : List Int) (x8 x9 : Int) : Option (Exit × VS) := br (hasF (x7.drop x9.toNat) x1) (some (.ret, Qd0 (true))) <| some (.exit 0, Qfk)
theorem QQg (x1 : Int) (x7 : List Int) (x8 x9 : Int) : Qaj g_f16 QkC QmF (Qse x1 x7 x8 x9) = QMN x1 x7 x8 x9 := by kernel_rfl
theorem QAW (x1 : Int) (x7 : List Int) (x8 x9 : Int) : Qnr x1 x7 x8 x9 = QtI x1 x7 x8 x9 := (Qao _ _).trans (by
 rw [QQg]
 simp only [QMN, QtI, QaA, nxt_n, nxt_r, nxt_e, nxt_0]
 rfl)
def r_f16 (p0 : List Int) (p1 : Int) : Option (V × List VO) := br (rngOk p0 (llen p0) (0 : Int)) (br (hasF (p0.drop (0 : Int).toNat) p1) (some (.t .bool (true), [])) (some (.t .bool false, []))) none
theorem e_f16 (p0 : List Int) (p1 : Int) : runF g_f16 QER QR4 false [.t (.sl tI) p0, .t tI p1] [] = r_f16 p0 p1 := by kernel_rfl
theorem en_f16 : Qai Tryz.prog 16 := .inr ⟨by decide, _, Tryz.func16, by kernel_rfl, by kernel_rfl⟩
theorem gk_f16 : GOk Tryz.prog g_f16 := Qal _ (fun p hp => by cases hp)
theorem QVY (x1 : Int) (x7 : List Int) (x8 x9 : Int) (h : (rngOk x7 x8 x9) = true) : Qnr x1 x7 x8 x9 = QnE x1 x7 x8 x9 := by
 obtain ⟨rfl, h3, k, rfl, hk⟩ := rng_k h
 clear h
 refine Qau x7 (fun k => Qnr x1 x7 (x7.length : Int) (k : Int) = QnE x1 x7 (x7.length : Int) (k : Int)) ?_ ?_ k hk
 ·rw [QAW]
  simp only [QtI, QnE, Qat, Nat.lt_irrefl, decide_false, Qaf, Int.toNat_natCast, List.drop_length]
  rfl
 ·intro k hk ih
  rw [QAW]
  simp only [QtI, Qat, Qax, hk, decide_true, Qad, Int.toNat_natCast, add1 (show k < 4611686018427387904 by omega), ih, Qaz (y := tI) hk]
  simp only [QnE, Int.toNat_natCast, List.drop_eq_getElem_cons hk]
  have e : hasF (x7[k] :: x7.drop (k + 1)) x1 = (ieq x7[k] x1 || hasF (x7.drop (k + 1)) x1) := by
   unfold hasF
   rw [List.contains_cons]
   congr 1
   simp only [ieq, BEq.comm]
  rw [e]
  cases ieq x7[k] x1 <;> rfl
theorem QN9 : ∀ S l p, g_f16.L 0 (fgt QkC S) = some (true, l) → pickA l = some p → loopF (Qaj g_f16 QkC QmF) S = some p :=
 QaB (s := QsK) ⟨by decide, by decide⟩ (by kernel_rfl) fun x y hok p hp => by
 simp only [Qas, Qan] at hp
 exact (QVY x.1 x.2.1 x.2.2.1 x.2.2.2.1 (by simpa using hok)).trans hp
theorem lk_f16 : QER.lok g_f16 := by
 repeat (first | exact trivial | exact QN9 | refine ⟨?_, ?_⟩)
theorem s_f16 (l : List Int) (n : Int) (h : Qbh l n = true) : r_f16 l n = some (.t .bool (hasF l n), []) := by
 have hl : l.length ≤ 100000 := of_decide_eq_true h
 simp only [r_f16, rng_0 hl, Qad, Int.toNat_zero, List.drop_zero]
 cases hasF l n <;> rfl
def QRj : Ent := spec (.pr (.sl tI) (.pr tI .nil)) (fun x => (Qbh x.1 x.2.1)) (fun x => (.t .bool (hasF x.1 x.2.1)))
theorem ms_f16 : Meets Tryz.prog 16 (strip QRj) := Qag (R := runF g_f16 QER QR4 false) (mG Tryz.func16 (by kernel_rfl) Tryz.ntmps16 (by kernel_rfl) gk_f16 lk_f16) fun x hok => (e_f16 x.1 x.2.1).trans (s_f16 x.1 x.2.1 hok)
def rsaK : Keep := (5, (2048, ()))
noncomputable def QEA : TC := (.sq (.reg (rT Tryz.f48 0)) (.sq (.reg (rT Tryz.f48 1)) .rt))
def QRN : List (RV × Option Ty) := [((.c 0 true 2), some Qah)]
def g_f48 : G := ⟨TYs, [], 2, EL [], keeps, (fun _ _ => none), IL [], RL []⟩
def r_f48  : Option (V × List VO) := some (.t Qah (5, (2048, ())), [])
theorem e_f48  : runF g_f48 QEA QRN false [] [] = r_f48  := by kernel_rfl
theorem en_f48 : Qai Tryz.prog 48 := .inr ⟨by decide, _, Tryz.func48, by kernel_rfl, by kernel_rfl⟩
theorem gk_f48 : GOk Tryz.prog g_f48 := Qal _ (fun p hp => by cases hp)
theorem lk_f48 : QEA.lok g_f48 := by repeat (first | exact trivial | refine ⟨?_, ?_⟩)
theorem s_f48 : r_f48 = some (.t Qah rsaK, []) := rfl
def QRa : Ent := spec .nil (fun x => true) (fun x => (.t Qah rsaK))
theorem ms_f48 : Meets Tryz.prog 48 (strip QRa) := Qag (R := runF g_f48 QEA QRN false) (mG Tryz.func48 (by kernel_rfl) Tryz.ntmps48 (by kernel_rfl) gk_f48 lk_f48) fun x _ => (e_f48 ).trans (s_f48 )
def leafC (nm : ByteArray) (k : Keep) (id to : Int) : Qaa := (id, (sRoot, (nm, (k, (id, ((3, (0, ())), (0, (to, (false, (0, ([nm], ((0, (0, ())), ()))))))))))))
def leafV (nm : ByteArray) (k : Keep) (id a to : Int) : Qar := (k, (id, ([(signC (leafC nm k id to) a).1], ())))
def QrF (nm : ByteArray) (_k : Keep) (_id _a _to : Int) : Bool := decide (nm.size ≤ 1000)
noncomputable def QEB : TC := (.sq (.reg (rT Tryz.f47 0)) (.sq (.reg (rT Tryz.f47 1)) (.sq (.reg (rT Tryz.f47 2)) (.sq (.reg (rT Tryz.f47 3)) .rt))))
def QRO : List (RV × Option Ty) := [((.c 10 true 4), some Qap)]
def g_f47 : G := ⟨TYs, [], 32, EL [(84, QQ0)], keeps, (fun _ _ => none), IL [], RL []⟩
def r_f47 (p0 : ByteArray) (p1 : Keep) (p2 p3 p4 : Int) : Option (V × List VO) :=
 let a1 := ((signC (p2, ((ByteArray.mk #[114, 111, 111, 116]), (p0, ((p1.1, (p1.2.1, ())), (p2, ((3, (0, ())), (0, (p4, (false, (0, ([p0], ((0, (0, ())), ())))))))))))) p3).1)
 let a4 := (((a1.2).2).2)
 let a2 := ((a4.2).2)
 let a3 := ((((a2.2).2).2).2)
 br (QeA (p2, ((ByteArray.mk #[114, 111, 111, 116]), (p0, ((p1.1, (p1.2.1, ())), (p2, ((3, (0, ())), (0, (p4, (false, (0, ([p0], ((0, (0, ())), ())))))))))))) p3) (some (.t Qap ((p1.1, (p1.2.1, ())), (p2, ([(a1.1, ((a1.2).1, (((a1.2).2).1, (((a4.1).1, (((a4.1).2).1, ())), ((a4.2).1, (((a2.1).1, (((a2.1).2).1, ())), ((a2.2).1, (((a2.2).2).1, ((((a2.2).2).2).1, (a3.1, ((a3.2).1, (((((a3.2).2).1).1, (((((a3.2).2).1).2).1, ())), ()))))))))))))], ()))), [])) none
theorem e_f47 (p0 : ByteArray) (p1 : Keep) (p2 p3 p4 : Int) : runF g_f47 QEB QRO false [.t .str p0, .t Qah p1, .t tI p2, .t tI p3, .t tI p4] [] = r_f47 p0 p1 p2 p3 p4 := by kernel_rfl
theorem en_f47 : Qai Tryz.prog 47 := .inr ⟨by decide, _, Tryz.func47, by kernel_rfl, by kernel_rfl⟩
theorem gk_f47 : GOk Tryz.prog g_f47 := Qal _ (gA (gC en_f84 ms_f84 gN))
theorem lk_f47 : QEB.lok g_f47 := by repeat (first | exact trivial | refine ⟨?_, ?_⟩)
theorem s_f47 (nm : ByteArray) (k : Keep) (id a to : Int) (h : QrF nm k id a to = true) : r_f47 nm k id a to = some (.t Qap (leafV nm k id a to), []) := by
 have hs : nm.size ≤ 1000 := of_decide_eq_true h
 unfold r_f47
 exact brY (QzP (by decide) hs (l := [nm]) (Nat.le_succ 1) (fun t ht => by rw [List.mem_singleton.1 ht]; omega)) rfl
def QRb : Ent := spec (.pr .str (.pr Qah (.pr tI (.pr tI (.pr tI .nil))))) (fun x => (QrF x.1 x.2.1 x.2.2.1 x.2.2.2.1 x.2.2.2.2.1)) (fun x => (.t Qap (leafV x.1 x.2.1 x.2.2.1 x.2.2.2.1 x.2.2.2.2.1)))
theorem ms_f47 : Meets Tryz.prog 47 (strip QRb) := Qag (R := runF g_f47 QEB QRO false) (mG Tryz.func47 (by kernel_rfl) Tryz.ntmps47 (by kernel_rfl) gk_f47 lk_f47) fun x hok => (e_f47 x.1 x.2.1 x.2.2.1 x.2.2.2.1 x.2.2.2.2.1).trans (s_f47 x.1 x.2.1 x.2.2.1 x.2.2.2.1 x.2.2.2.2.1 hok)
def QnS : Bool := true
noncomputable def QEW : TC := (.sq (.reg (rT Tryz.f10 0)) (.sq (.reg (rT Tryz.f10 1)) (.sq (.reg (rT Tryz.f10 2)) (.sq (.reg (rT Tryz.f10 3)) (.sq (.reg (rT Tryz.f10 4)) .rt)))))
def QR9 : List (RV × Option Ty) := [((.t 0), some .bool)]
def g_f10 : G := ⟨TYs, [], 44, EL [(14, QFU), (15, QAd), (18, QRh)], keeps, (fun _ _ => none), IL [], RL []⟩
def r_f10  : Option (V × List VO) :=
 let a1 := (allF (([] : List Qab), (([] : List Keep), (([] : List Item), ()))) 0)
 br (Ql6 (([] : List Qab), (([] : List Keep), (([] : List Item), ()))) 0 0) (br (QeU (([] : List Qab), (([] : List Keep), (([] : List Item), ()))) 0) (br (QeU (([] : List Qab), (([] : List Keep), (([] : List Item), ()))) 99) (br (ieq ((Qf3 (([] : List Qab), (([] : List Keep), (([] : List Item), ()))) 0 0).2) 4) (br (ieq ((a1.2).2) 0) (br (ieq (llen (a1.1)) 0) (br (ieq (llen ((a1.2).1)) 0) (some (.t .bool (ieq ((needF (([] : List Qab), (([] : List Keep), (([] : List Item), ()))) 99).2) 7), [])) (some (.t .bool false, []))) (some (.t .bool false, []))) (some (.t .bool false, []))) (some (.t .bool false, []))) none) none) none
theorem e_f10  : runF g_f10 QEW QR9 false [] [] = r_f10  := by kernel_rfl
theorem en_f10 : Qai Tryz.prog 10 := .inr ⟨by decide, _, Tryz.func10, by kernel_rfl, by kernel_rfl⟩
theorem gk_f10 : GOk Tryz.prog g_f10 := Qal _ (gA (gC QSP QSz (gC QLd QJk (gC en_f18 ms_f18 gN))))
theorem lk_f10 : QEW.lok g_f10 := by repeat (first | exact trivial | refine ⟨?_, ?_⟩)
set_option maxRecDepth 100000 in
theorem s_f10 : r_f10 = some (.t .bool QnS, []) := by kernel_rfl
def QRm : Ent := spec .nil (fun x => true) (fun x => (.t .bool QnS))
theorem ms_f10 : Meets Tryz.prog 10 (strip QRm) := Qag (R := runF g_f10 QEW QR9 false) (mG Tryz.func10 (by kernel_rfl) Tryz.ntmps10 (by kernel_rfl) gk_f10 lk_f10) fun x _ => (e_f10 ).trans (s_f10 )
end
end Go.Proofs.YtckcgijklnloiaaGreat.K
namespace Go.Proofs.YtckcgijklnloiaaGreat.K
open Go.RowKit
noncomputable section
abbrev sAll : List ByteArray := [(ByteArray.mk #[97, 112, 112]), (ByteArray.mk #[100, 98]), (ByteArray.mk #[119, 101, 98])]
abbrev sSu : List (List Int) := [[10, 8, 2], [8, 2], [2, 10, 8, 3]]
abbrev sIt : List ByteArray := [(ByteArray.mk #[98, 97, 99, 107, 117, 112]), (ByteArray.mk #[100, 101, 101, 100])]
def nm1 (s : ByteArray) : Bool := decide (s.size ≤ 1000)
def sndSu (d : Dice) : List Int := bif ieq (dof d [3, 3, 4]) 4 then [14] ++ lgt (.sl tI) sSu (dval (dofN d [3, 3, 4]) 3).toNat else lgt (.sl tI) sSu (dval (dofN d [3, 3, 4]) 3).toNat
def sndE (d : Dice) (k : Nat) (s : ByteArray) : Qab := (s, (1, (dof d [3, 3, 4], (sndSu d, (done (dnext (dofN d [3, 3, 4]) 3) 2, ([leafV s rsaK (iadd .i64 100 (k : Int)) 1 901], ([1], ([2, 3], (done (dnext (dnext (dofN d [3, 3, 4]) 3) 2) 3, ())))))))))
def sndD (d : Dice) : Dice := dnext (dnext (dnext (dofN d [3, 3, 4]) 3) 2) 3
def sndZ : List ByteArray → Nat → Dice → List Qab × Dice
 | [], _, d => ([], d)
 | s :: r, k, d => (sndE d k s :: (sndZ r (k + 1) (sndD d)).1, (sndZ r (k + 1) (sndD d)).2)
def edZ : Nat → Int → Int → List Keep → Dice → List Keep × Dice
 | 0, _, _, l, d => (l, d)
 | m + 1, i, k, l, d => bif ine i k then (bif igt (dval d 3) 0 && ilt (llen l) 3 then edZ m i (k + 1) (l ++ [(i, (k, ()))]) (dnext d 3) else edZ m i (k + 1) l (dnext d 3)) else edZ m i (k + 1) l d
def edY : Nat → Nat → Int → List Keep → Dice → List Keep × Dice
 | 0, _, _, l, d => (l, d)
 | m + 1, n, i, l, d => edY m n (i + 1) (edZ n i 0 l d).1 (edZ n i 0 l d).2
def itZ : Nat → Dice → List Item × Dice
 | 0, d => ([], d)
 | n + 1, d => (itemV (dwdGN d sIt) (dwdG d sIt) :: (itZ n (itemN (dwdGN d sIt) (dwdG d sIt))).1, (itZ n (itemN (dwdGN d sIt) (dwdG d sIt))).2)
def sndNm (d : Dice) : List ByteArray := lsl sAll 0 (iadd .i64 2 (dval d 2))
def sndEd (d : Dice) : List Keep × Dice := edY (sndNm d).length (sndNm d).length 0 [] (sndZ (sndNm d) 0 (dnext d 2)).2
def sndEg (d : Dice) : List Keep := bif ieq (llen (sndEd d).1) 0 then [(0, (1, ()))] else (sndEd d).1
def sndIt (d : Dice) : List Item × Dice := itZ (dval (sndEd d).2 3).toNat (dnext (sndEd d).2 3)
def sndV (d : Dice) : Qam := ((sndZ (sndNm d) 0 (dnext d 2)).1, (sndEg d, ((sndIt d).1, ())))
def sndN (d : Dice) : Dice := (sndIt d).2
theorem QLG {d : Dice} (h : dOk d = true) : dOk (sndD d) = true := QaH (QaH (QaH (Qwv (l := [3, 3, 4]) h)))
theorem QGg : ∀ (l : List ByteArray) (k : Nat) (d : Dice), dOk d = true → dOk (sndZ l k d).2 = true
 | [], _, _, h => h
 | _ :: r, k, d, h => QGg r (k + 1) (sndD d) (QLG h)
theorem QrK : ∀ (m : Nat) (i k : Int) (l : List Keep) (d : Dice), dOk d = true → l.length ≤ 3 → dOk (edZ m i k l d).2 = true ∧ (edZ m i k l d).1.length ≤ 3
 | 0, _, _, _, _, h, hl => ⟨h, hl⟩
 | m + 1, i, k, l, d, h, hl => by
  unfold edZ
  cases ine i k with
  | false => exact QrK m i (k + 1) l d h hl
  | true =>
   cases h1 : igt (dval d 3) 0 with
   | false => exact QrK m i (k + 1) l (dnext d 3) (QaH h) hl
   | true =>
    cases h2 : ilt (llen l) 3 with
    | false => exact QrK m i (k + 1) l (dnext d 3) (QaH h) hl
    | true =>
     have : l.length < 3 := by have := of_decide_eq_true h2; simp only [llen] at this; omega
     exact QrK m i (k + 1) _ (dnext d 3) (QaH h) (by simp only [List.length_append, List.length_singleton]; omega)
theorem QSR : ∀ (m n : Nat) (i : Int) (l : List Keep) (d : Dice), dOk d = true → l.length ≤ 3 → dOk (edY m n i l d).2 = true ∧ (edY m n i l d).1.length ≤ 3
 | 0, _, _, _, _, h, hl => ⟨h, hl⟩
 | m + 1, n, i, l, d, h, hl => by
  have := QrK n i 0 l d h hl
  exact QSR m n (i + 1) _ _ this.1 this.2
theorem QB3 {d : Dice} (h : dOk d = true) : dOk (dwdGN d sIt) = true := QaH (n := 2) h
theorem Qig (d : Dice) : sndNm d = sAll.take 2 ∨ sndNm d = sAll := by
 have hv := Qbm (d := d) (n := 2) (by omega)
 have e : iadd .i64 2 (dval d 2) = 2 + dval d 2 := Qbi (by omega)
 unfold sndNm
 rw [e]
 rcases (show dval d 2 = 0 ∨ dval d 2 = 1 by omega) with h | h <;> rw [h]
 ·exact .inl rfl
 ·exact .inr rfl
theorem Qi9 (d : Dice) : 2 ≤ (sndNm d).length ∧ (sndNm d).length ≤ 3 ∧ (sndNm d).all nm1 = true := by
 rcases Qig d with h | h <;> rw [h] <;> exact ⟨by decide, by decide, by decide⟩
noncomputable def QPJ : List DO := dT Tryz.f17 6
noncomputable def QPI : List DO := dT Tryz.f17 26
def QkB : Fg := ⟨[(0, none), (2, none), (3, none), (4, some (.sl .str)), (16, some (.sl .str)), (17, some tI), (18, some tI)], [(2, some Qaq), (3, none), (61, none), (94, none), (103, none), (119, none), (20300, none), (20301, none), (20302, none), (50000, some QaK)]⟩
noncomputable def QmE : TC := (.sq (.reg (rT Tryz.f17 4)) (.sq (.cd (.t 19) .sk (.fg ⟨[(0, none), (2, none), (3, none), (4, some (.sl .str))], [(2, some Qaq), (3, some Qaq), (61, none), (94, none), (103, none), (119, none), (20300, none), (20301, none), (20302, none), (50000, some QaK)]⟩ (.ex 0))) (.sq (.bk 1 (.sq (.reg (rT Tryz.f17 5)) (.sq (.dr QPJ [(0, []), (1, [50000]), (2, []), (3, [26, 5026, 10026, 15026, 50000]), (4, []), (5, []), (6, []), (7, []), (8, [50000]), (9, [32, 5032, 10032, 15032, 50000]), (10, []), (11, []), (12, [50000]), (13, [36, 5036, 10036, 15036, 50000]), (14, []), (15, []), (16, [50000]), (17, [40, 5040, 10040, 15040, 50000]), (18, []), (19, [7, 5007, 10007, 15007]), (20, [7, 45, 48, 20703])] (.one 0 (.one 1 (.one 2 (.one 4 (.one 5 (.one 6 (.one 7 (.one 8 (.one 12 (.one 14 (.one 15 (.one 16 (.alt 3 (.alt 9 (.one 10 (.one 11 (.alt 13 (.alt 17 (.of [18, 19, 20]) (.of [19, 17, 18, 20])) (.of [19, 13, 17, 18, 20])))) (.of [19, 9, 10, 11, 13, 17, 18, 20])) (.of [19, 3, 9, 10, 11, 13, 17, 18, 20]))))))))))))))) (.sq (.sq (.reg (rT Tryz.f17 7)) (.cd (.t 44) (.reg (rT Tryz.f17 8)) .sk)) (.sq (.reg (rT Tryz.f17 9)) (.reg (rT Tryz.f17 10))))))) (.reg (rT Tryz.f17 11)))))
def QkA : Fg := ⟨[(0, none), (2, none), (3, none), (4, some (.sl .str)), (8, some tI), (65, some tI), (66, some tI), (70, some tI), (71, some tI)], [(2, some Qaq), (3, none), (61, none), (94, none), (103, none), (119, none), (20300, none), (20301, none), (20302, none), (50000, some QaK)]⟩
noncomputable def QmD : TC := (.sq (.reg (rT Tryz.f17 16)) (.sq (.cd (.t 72) .sk (.fg ⟨[(0, none), (2, none), (3, none), (4, some (.sl .str)), (65, some tI), (66, some tI)], [(2, some Qaq), (3, some Qaq), (61, none), (94, none), (103, none), (119, none), (20300, none), (20301, none), (20302, none), (50000, some QaK)]⟩ (.ex 4))) (.sq (.bk 5 (.sq (.reg (rT Tryz.f17 17)) (.sq (.reg (rT Tryz.f17 18)) (.cd (.t 87) (.reg (rT Tryz.f17 19)) .sk)))) (.reg (rT Tryz.f17 20)))))
def Qkz : Fg := ⟨[(0, none), (2, none), (3, none), (4, some (.sl .str)), (65, some tI), (66, some tI)], [(2, some Qaq), (3, none), (61, none), (94, none), (103, none), (119, none), (20300, none), (20301, none), (20302, none), (50000, some QaK)]⟩
noncomputable def QmC : TC := (.sq (.reg (rT Tryz.f17 13)) (.sq (.cd (.t 67) .sk (.fg ⟨[(0, none), (2, none), (3, none)], [(2, some Qaq), (3, some Qaq), (61, none), (94, none), (103, none), (119, none), (20300, none), (20301, none), (20302, none), (50000, some QaK)]⟩ (.ex 2))) (.sq (.bk 3 (.sq (.reg (rT Tryz.f17 14)) (.sq (.reg (rT Tryz.f17 15)) (.bk 4 (.nf 3 2 79 20302 (.nf 3 0 49 20300 (.nf 3 1 46 20301 (.lp 1 QkA QmD)))))))) (.reg (rT Tryz.f17 21)))))
def Qky : Fg := ⟨[(0, none), (2, none), (3, none), (10, some tI)], [(2, some Qaq), (3, none), (61, none), (94, none), (103, none), (119, none), (20300, none), (20301, none), (20302, none), (50000, some QaK)]⟩
noncomputable def QmB : TC := (.sq (.sq (.reg (rT Tryz.f17 25)) (.cd (.t 108) .sk (.fg ⟨[(2, none), (3, none)], [(2, some Qaq), (3, some Qaq), (61, none), (94, none), (103, none), (119, none), (20300, none), (20301, none), (20302, none), (50000, some QaK)]⟩ (.ex 6)))) (.sq (.bk 7 (.dr QPI [(0, [3, 61, 94, 103, 119, 20300, 20301, 20302]), (1, [3, 61, 94, 103, 119, 20300, 20301, 20302]), (2, [50000]), (3, [50000]), (4, []), (5, [116, 5116, 10116, 15116, 50000]), (6, [117, 5117, 10117, 15117, 50000]), (7, []), (8, [2, 3, 61, 94, 103, 119, 5119, 10119, 15119, 20300, 20301, 20302]), (9, [3, 61, 94, 103, 119, 20300, 20301, 20302]), (10, [2, 3, 61, 94, 103, 119, 20300, 20301, 20302])] (.of [0, 1, 2, 3, 4, 5, 6, 7, 8, 9, 10]))) (.reg (rT Tryz.f17 27))))
noncomputable def QEQ : TC := (.sq (.reg (rT Tryz.f17 0)) (.sq (.reg (rT Tryz.f17 1)) (.sq (.reg (rT Tryz.f17 2)) (.sq (.sq (.reg (rT Tryz.f17 3)) (.bk 0 (.nf 3 2 79 20302 (.nf 3 1 46 20301 (.nf 3 0 49 20300 (.nf 7 3 3 20703 (.lp 0 QkB QmE))))))) (.sq (.sq (.reg (rT Tryz.f17 12)) (.bk 2 (.nf 3 2 79 20302 (.nf 3 0 49 20300 (.nf 3 1 46 20301 (.lp 2 Qkz QmC)))))) (.sq (.sq (.reg (rT Tryz.f17 22)) (.cd (.t 101) (.reg (rT Tryz.f17 23)) .sk)) (.sq (.sq (.reg (rT Tryz.f17 24)) (.bk 6 (.fz [20301, 103] (.nf 3 1 46 20301 (.nf 3 0 49 20300 (.nf 3 2 79 20302 (.lp 3 Qky QmB))))))) (.sq (.reg (rT Tryz.f17 28)) .rt))))))))
def QR3 : List (RV × Option Ty) := [((.c 2 true 3), some Qaq)]
abbrev QsJ : Sh := ⟨[(0, .ptr 50000 0), (2, .ptr 2 0), (3, .ptr 3 0), (4, .ty (.sl .str)), (16, .ty (.sl .str)), (17, .ty tI), (18, .ty tI)], [(2, .box Qaq), (3, .bag [.ms 20300, .ms 20301, .ms 20302]), (61, .no), (94, .no), (103, .no), (119, .no), (20300, .arr 49 Qae), (20301, .arr 46 Qah), (20302, .arr 79 QaJ), (50000, .box QaK)]⟩
def QmN (x4 x16 : List ByteArray) (x17 x18 : Int) (y2 : Qam) (y20300 : List Qab) (y20301 : List Keep) (y20302 : List Item) (y50000 : Dice) : VS := QsJ.st ((), (), (), x4, x16, x17, x18, ()) (y2, ((), (), (), ()), (), (), (), (), y20300, y20301, y20302, y50000, ())
abbrev Qyt : Sh := ⟨[(0, .ptr 50000 0), (2, .ptr 2 0), (3, .ptr 3 0), (4, .ty (.sl .str))], [(2, .box Qaq), (3, .bag [.ms 20300, .ms 20301, .ms 20302]), (61, .no), (94, .no), (103, .no), (119, .no), (20300, .arr 49 Qae), (20301, .arr 46 Qah), (20302, .arr 79 QaJ), (50000, .box QaK)]⟩
def Qfj (x4 : List ByteArray) (y2 : Qam) (y20300 : List Qab) (y20301 : List Keep) (y20302 : List Item) (y50000 : Dice) : VS := Qyt.st ((), (), (), x4, ()) (y2, ((), (), (), ()), (), (), (), (), y20300, y20301, y20302, y50000, ())
abbrev QsI : Sh := ⟨[(0, .ptr 50000 0), (2, .ptr 2 0), (3, .ptr 3 0), (4, .ty (.sl .str)), (8, .ty tI), (65, .ty tI), (66, .ty tI), (70, .ty tI), (71, .ty tI)], [(2, .box Qaq), (3, .bag [.ms 20300, .ms 20301, .ms 20302]), (61, .no), (94, .no), (103, .no), (119, .no), (20300, .arr 49 Qae), (20301, .arr 46 Qah), (20302, .arr 79 QaJ), (50000, .box QaK)]⟩
def Qhk (x4 : List ByteArray) (x8 x65 x66 x70 x71 : Int) (y2 : Qam) (y20300 : List Qab) (y20301 : List Keep) (y20302 : List Item) (y50000 : Dice) : VS := QsI.st ((), (), (), x4, x8, x65, x66, x70, x71, ()) (y2, ((), (), (), ()), (), (), (), (), y20300, y20301, y20302, y50000, ())
abbrev Qys : Sh := ⟨[(0, .ptr 50000 0), (2, .ptr 2 0), (3, .ptr 3 0), (4, .ty (.sl .str)), (65, .ty tI), (66, .ty tI)], [(2, .box Qaq), (3, .bag [.ms 20300, .ms 20301, .ms 20302]), (61, .no), (94, .no), (103, .no), (119, .no), (20300, .arr 49 Qae), (20301, .arr 46 Qah), (20302, .arr 79 QaJ), (50000, .box QaK)]⟩
def Qfi (x4 : List ByteArray) (x65 x66 : Int) (y2 : Qam) (y20300 : List Qab) (y20301 : List Keep) (y20302 : List Item) (y50000 : Dice) : VS := Qys.st ((), (), (), x4, x65, x66, ()) (y2, ((), (), (), ()), (), (), (), (), y20300, y20301, y20302, y50000, ())
abbrev QsH : Sh := ⟨[(0, .ptr 50000 0), (2, .ptr 2 0), (3, .ptr 3 0), (4, .ty (.sl .str)), (65, .ty tI), (66, .ty tI)], [(2, .box Qaq), (3, .bag [.ms 20300, .ms 20301, .ms 20302]), (61, .no), (94, .no), (103, .no), (119, .no), (20300, .arr 49 Qae), (20301, .arr 46 Qah), (20302, .arr 79 QaJ), (50000, .box QaK)]⟩
def Qsd (x4 : List ByteArray) (x65 x66 : Int) (y2 : Qam) (y20300 : List Qab) (y20301 : List Keep) (y20302 : List Item) (y50000 : Dice) : VS := QsH.st ((), (), (), x4, x65, x66, ()) (y2, ((), (), (), ()), (), (), (), (), y20300, y20301, y20302, y50000, ())
abbrev Qyr : Sh := ⟨[(0, .ptr 50000 0), (2, .ptr 2 0), (3, .ptr 3 0)], [(2, .box Qaq), (3, .bag [.ms 20300, .ms 20301, .ms 20302]), (61, .no), (94, .no), (103, .no), (119, .no), (20300, .arr 49 Qae), (20301, .arr 46 Qah), (20302, .arr 79 QaJ), (50000, .box QaK)]⟩
def Qfh (y2 : Qam) (y20300 : List Qab) (y20301 : List Keep) (y20302 : List Item) (y50000 : Dice) : VS := Qyr.st ((), (), (), ()) (y2, ((), (), (), ()), (), (), (), (), y20300, y20301, y20302, y50000, ())
abbrev QsG : Sh := ⟨[(0, .ptr 50000 0), (2, .ptr 2 0), (3, .ptr 3 0), (10, .ty tI)], [(2, .box Qaq), (3, .bag [.ms 20300, .ty (.sl Qah), .ms 20302]), (61, .no), (94, .no), (103, .no), (119, .no), (20300, .arr 49 Qae), (20301, .no), (20302, .arr 79 QaJ), (50000, .box QaK)]⟩
def Qsc (x10 : Int) (y2 : Qam) (y3_1 : List Keep) (y20300 : List Qab) (y20302 : List Item) (y50000 : Dice) : VS := QsG.st ((), (), (), x10, ()) (y2, ((), y3_1, (), ()), (), (), (), (), y20300, (), y20302, y50000, ())
abbrev Qyq : Sh := ⟨[(2, .ptr 2 0), (3, .ptr 3 0)], [(2, .box Qaq), (3, .bag [.ms 20300, .ty (.sl Qah), .ms 20302]), (61, .no), (94, .no), (103, .no), (119, .no), (20300, .arr 49 Qae), (20301, .no), (20302, .arr 79 QaJ), (50000, .box QaK)]⟩
def Qfg (y2 : Qam) (y3_1 : List Keep) (y20300 : List Qab) (y20302 : List Item) (y50000 : Dice) : VS := Qyq.st ((), (), ()) (y2, ((), y3_1, (), ()), (), (), (), (), y20300, (), y20302, y50000, ())
def QYF : VS → Option (Bool × List (Bool × Exit × VS)) := mkL QsJ (fun x y => (rngOk x.2.2.2.2.1 x.2.2.2.2.2.1 x.2.2.2.2.2.2.1 && (dOk y.2.2.2.2.2.2.2.2.2.1 && (decide (y.2.2.2.2.2.2.1.length ≤ x.2.2.2.2.2.2.1) && x.2.2.2.2.1.all nm1)))) (fun x y => [(true, .exit 0, Qfj (x.2.2.2.1) (y.1) (y.2.2.2.2.2.2.1 ++ (sndZ (x.2.2.2.2.1.drop x.2.2.2.2.2.2.1.toNat) x.2.2.2.2.2.2.1.toNat y.2.2.2.2.2.2.2.2.2.1).1) (y.2.2.2.2.2.2.2.1) (y.2.2.2.2.2.2.2.2.1) ((sndZ (x.2.2.2.2.1.drop x.2.2.2.2.2.2.1.toNat) x.2.2.2.2.2.2.1.toNat y.2.2.2.2.2.2.2.2.2.1).2))])
def QYE : VS → Option (Bool × List (Bool × Exit × VS)) := mkL QsI (fun x y => (dOk y.2.2.2.2.2.2.2.2.2.1 && decide (0 ≤ x.2.2.2.2.2.2.2.2.1 ∧ x.2.2.2.2.2.2.2.2.1 ≤ x.2.2.2.2.2.2.2.1 ∧ x.2.2.2.2.2.2.2.1 ≤ 3 ∧ y.2.2.2.2.2.2.2.1.length ≤ 3))) (fun x y => [(true, .exit 4, Qfi (x.2.2.2.1) (x.2.2.2.2.2.1) (x.2.2.2.2.2.2.1) (y.1) (y.2.2.2.2.2.2.1) ((edZ (x.2.2.2.2.2.2.2.1 - x.2.2.2.2.2.2.2.2.1).toNat x.2.2.2.2.1 x.2.2.2.2.2.2.2.2.1 y.2.2.2.2.2.2.2.1 y.2.2.2.2.2.2.2.2.2.1).1) (y.2.2.2.2.2.2.2.2.1) ((edZ (x.2.2.2.2.2.2.2.1 - x.2.2.2.2.2.2.2.2.1).toNat x.2.2.2.2.1 x.2.2.2.2.2.2.2.2.1 y.2.2.2.2.2.2.2.1 y.2.2.2.2.2.2.2.2.2.1).2))])
def QYD : VS → Option (Bool × List (Bool × Exit × VS)) := mkL QsH (fun x y => (dOk y.2.2.2.2.2.2.2.2.2.1 && decide (0 ≤ x.2.2.2.2.2.1 ∧ x.2.2.2.2.2.1 ≤ x.2.2.2.2.1 ∧ x.2.2.2.2.1 ≤ 3 ∧ x.2.2.2.1.length ≤ 3 ∧ y.2.2.2.2.2.2.2.1.length ≤ 3))) (fun x y => [(true, .exit 2, Qfh (y.1) (y.2.2.2.2.2.2.1) ((edY (x.2.2.2.2.1 - x.2.2.2.2.2.1).toNat x.2.2.2.1.length x.2.2.2.2.2.1 y.2.2.2.2.2.2.2.1 y.2.2.2.2.2.2.2.2.2.1).1) (y.2.2.2.2.2.2.2.2.1) ((edY (x.2.2.2.2.1 - x.2.2.2.2.2.1).toNat x.2.2.2.1.length x.2.2.2.2.2.1 y.2.2.2.2.2.2.2.1 y.2.2.2.2.2.2.2.2.2.1).2))])
def QYC : VS → Option (Bool × List (Bool × Exit × VS)) := mkL QsG (fun x y => (dOk y.2.2.2.2.2.2.2.2.2.1 && decide (0 ≤ x.2.2.2.1 ∧ x.2.2.2.1 ≤ 3 ∧ y.2.2.2.2.2.2.2.2.1.length + x.2.2.2.1.toNat ≤ 100))) (fun x y => [(true, .exit 6, Qfg (y.1) (y.2.1.2.1) (y.2.2.2.2.2.2.1) (y.2.2.2.2.2.2.2.2.1 ++ (itZ x.2.2.2.1.toNat y.2.2.2.2.2.2.2.2.2.1).1) ((itZ x.2.2.2.1.toNat y.2.2.2.2.2.2.2.2.2.1).2))])
def g_f17 : G := ⟨TYs, [45, 103], 122, EL [(35, Qro), (37, QRe), (38, QRd), (45, QE7), (46, QRc), (47, QRb), (48, QRa)], keeps, (Ls [QYF, QYE, QYD, QYC]), IL [], RL []⟩
def Qhh (x4 x16 : List ByteArray) (x17 x18 : Int) (y2 : Qam) (y20300 : List Qab) (y20301 : List Keep) (y20302 : List Item) (y50000 : Dice) : Option (Exit × VS) :=
 let a5 := lgt .str x16 (Int.toNat x18)
 let a1 := leafV a5 rsaK (iadd .i64 100 x18) 1 901
 let a2 := (lgt (.sl tI) ([[10, 8, 2], [8, 2], [2, 10, 8, 3]]) (Int.toNat (dval (dofN y50000 ([3, 3, 4])) 3)))
 let a3 := (dnext (dofN y50000 ([3, 3, 4])) 3)
 let a4 := ((done a3 2), ([(((a1.1).1, (((a1.1).2).1, ())), ((a1.2).1, (((a1.2).2).1, ())))], ([1], ([2, 3], ((done (dnext a3 2) 3), ())))))
 let a6 := (dof y50000 ([3, 3, 4]))
 let a7 := QrF a5 rsaK (iadd .i64 100 x18) 1 901
 br (oneOk (dnext a3 2) 3) (br (ieq a6 4) (br (cApp ([14]) a2 8) (br a7 (br (cApp y20300 ([(a5, (1, (a6, ((([14]) ++ a2), a4))))]) 144) (some (.normal, QmN x4 x16 x17 (iadd .i64 x18 1) y2 (y20300 ++ ([(a5, (1, (a6, ((([14]) ++ a2), a4))))])) y20301 y20302 (dnext (dnext a3 2) 3))) none) none) none) (br a7 (br (cApp y20300 ([(a5, (1, (a6, (a2, a4))))]) 144) (some (.normal, QmN x4 x16 x17 (iadd .i64 x18 1) y2 (y20300 ++ ([(a5, (1, (a6, (a2, a4))))])) y20301 y20302 (dnext (dnext a3 2) 3))) none) none)) none
def QkK (x4 x16 : List ByteArray) (x17 x18 : Int) (y2 : Qam) (y20300 : List Qab) (y20301 : List Keep) (y20302 : List Item) (y50000 : Dice) : Option (Exit × VS) := br (oneOk (dnext (dofN y50000 ([3, 3, 4])) 3) 2) (Qhh x4 x16 x17 x18 y2 y20300 y20301 y20302 y50000) none
def QkJ (x4 x16 : List ByteArray) (x17 x18 : Int) (y2 : Qam) (y20300 : List Qab) (y20301 : List Keep) (y20302 : List Item) (y50000 : Dice) : Option (Exit × VS) :=
 let a1 := (dofN y50000 ([3, 3, 4]))
 br (QaS a1 3) (br (cIx ([[10, 8, 2], [8, 2], [2, 10, 8, 3]]) (dval a1 3)) (QkK x4 x16 x17 x18 y2 y20300 y20301 y20302 y50000) none) none
def QzX (x4 x16 : List ByteArray) (x17 x18 : Int) (y2 : Qam) (y20300 : List Qab) (y20301 : List Keep) (y20302 : List Item) (y50000 : Dice) : Option (Exit × VS) :=
 let a1 := (dofN y50000 ([3, 3, 4]))
 let a2 := (ofOk y50000 ([3, 3, 4]))
 br (ilt x18 x17) (br (cIx x16 x18) (frk (br a2 (frk (br (QaS a1 3) (br (cIx ([[10, 8, 2], [8, 2], [2, 10, 8, 3]]) (dval a1 3)) (frk (br (oneOk (dnext a1 3) 2) (frk (Qhh x4 x16 x17 x18 y2 y20300 y20301 y20302 y50000) (Qhh x4 x16 x17 x18 y2 y20300 y20301 y20302 y50000)) none) (QkK x4 x16 x17 x18 y2 y20300 y20301 y20302 y50000)) none) none) (QkJ x4 x16 x17 x18 y2 y20300 y20301 y20302 y50000)) none) (br a2 (QkJ x4 x16 x17 x18 y2 y20300 y20301 y20302 y50000) none)) none) (some (.exit 0, Qfj x4 y2 y20300 y20301 y20302 y50000))
noncomputable def QhD (x4 x16 : List ByteArray) (x17 x18 : Int) (y2 : Qam) (y20300 : List Qab) (y20301 : List Keep) (y20302 : List Item) (y50000 : Dice) : Option (Exit × VS) := loopF (Qaj g_f17 QkB QmE) (QmN x4 x16 x17 x18 y2 y20300 y20301 y20302 y50000)
noncomputable def Qdv (x4 x16 : List ByteArray) (x17 x18 : Int) (y2 : Qam) (y20300 : List Qab) (y20301 : List Keep) (y20302 : List Item) (y50000 : Dice) : Option (Exit × VS) :=
 let a5 := lgt .str x16 (Int.toNat x18)
 let a1 := leafV a5 rsaK (iadd .i64 100 x18) 1 901
 let a2 := (lgt (.sl tI) ([[10, 8, 2], [8, 2], [2, 10, 8, 3]]) (Int.toNat (dval (dofN y50000 ([3, 3, 4])) 3)))
 let a3 := (dnext (dofN y50000 ([3, 3, 4])) 3)
 let a4 := ((done a3 2), ([(((a1.1).1, (((a1.1).2).1, ())), ((a1.2).1, (((a1.2).2).1, ())))], ([1], ([2, 3], ((done (dnext a3 2) 3), ())))))
 let a6 := (dof y50000 ([3, 3, 4]))
 let a7 := QrF a5 rsaK (iadd .i64 100 x18) 1 901
 br (oneOk (dnext a3 2) 3) (br (ieq a6 4) (br (cApp ([14]) a2 8) (br a7 (br (cApp y20300 ([(a5, (1, (a6, ((([14]) ++ a2), a4))))]) 144) (QhD x4 x16 x17 (iadd .i64 x18 1) y2 (y20300 ++ ([(a5, (1, (a6, ((([14]) ++ a2), a4))))])) y20301 y20302 (dnext (dnext a3 2) 3)) none) none) none) (br a7 (br (cApp y20300 ([(a5, (1, (a6, (a2, a4))))]) 144) (QhD x4 x16 x17 (iadd .i64 x18 1) y2 (y20300 ++ ([(a5, (1, (a6, (a2, a4))))])) y20301 y20302 (dnext (dnext a3 2) 3)) none) none)) none
noncomputable def QeQ (x4 x16 : List ByteArray) (x17 x18 : Int) (y2 : Qam) (y20300 : List Qab) (y20301 : List Keep) (y20302 : List Item) (y50000 : Dice) : Option (Exit × VS) := br (oneOk (dnext (dofN y50000 ([3, 3, 4])) 3) 2) (Qdv x4 x16 x17 x18 y2 y20300 y20301 y20302 y50000) none
noncomputable def QeP (x4 x16 : List ByteArray) (x17 x18 : Int) (y2 : Qam) (y20300 : List Qab) (y20301 : List Keep) (y20302 : List Item) (y50000 : Dice) : Option (Exit × VS) :=
 let a1 := (dofN y50000 ([3, 3, 4]))
 br (QaS a1 3) (br (cIx ([[10, 8, 2], [8, 2], [2, 10, 8, 3]]) (dval a1 3)) (QeQ x4 x16 x17 x18 y2 y20300 y20301 y20302 y50000) none) none
noncomputable def QpP (x4 x16 : List ByteArray) (x17 x18 : Int) (y2 : Qam) (y20300 : List Qab) (y20301 : List Keep) (y20302 : List Item) (y50000 : Dice) : Option (Exit × VS) :=
 let a1 := (dofN y50000 ([3, 3, 4]))
 let a2 := (ofOk y50000 ([3, 3, 4]))
 br (ilt x18 x17) (br (cIx x16 x18) (frk (br a2 (frk (br (QaS a1 3) (br (cIx ([[10, 8, 2], [8, 2], [2, 10, 8, 3]]) (dval a1 3)) (frk (br (oneOk (dnext a1 3) 2) (frk (Qdv x4 x16 x17 x18 y2 y20300 y20301 y20302 y50000) (Qdv x4 x16 x17 x18 y2 y20300 y20301 y20302 y50000)) none) (QeQ x4 x16 x17 x18 y2 y20300 y20301 y20302 y50000)) none) none) (QeP x4 x16 x17 x18 y2 y20300 y20301 y20302 y50000)) none) (br a2 (QeP x4 x16 x17 x18 y2 y20300 y20301 y20302 y50000) none)) none) (some (.exit 0, Qfj x4 y2 y20300 y20301 y20302 y50000))
def QfL (x4 x16 : List ByteArray) (x17 x18 : Int) (y2 : Qam) (y20300 : List Qab) (y20301 : List Keep) (y20302 : List Item) (y50000 : Dice) : Option (Exit × VS) :=
 let a1 := sndZ (x16.drop x18.toNat) x18.toNat y50000
 some (.exit 0, Qfj (x4) (y2) (y20300 ++ a1.1) (y20301) (y20302) (a1.2))
theorem QQf (x4 x16 : List ByteArray) (x17 x18 : Int) (y2 : Qam) (y20300 : List Qab) (y20301 : List Keep) (y20302 : List Item) (y50000 : Dice) : Qaj g_f17 QkB QmE (QmN x4 x16 x17 x18 y2 y20300 y20301 y20302 y50000) = QzX x4 x16 x17 x18 y2 y20300 y20301 y20302 y50000 := by kernel_rfl
theorem QAV (x4 x16 : List ByteArray) (x17 x18 : Int) (y2 : Qam) (y20300 : List Qab) (y20301 : List Keep) (y20302 : List Item) (y50000 : Dice) : QhD x4 x16 x17 x18 y2 y20300 y20301 y20302 y50000 = QpP x4 x16 x17 x18 y2 y20300 y20301 y20302 y50000 := (Qao _ _).trans (by
 rw [QQf]
 first
 |(simp only [QzX, Qhh, QkK, QkJ, QcH, QpP, Qdv, QeQ, QeP, QcH, QaA, nxt_n, nxt_r, nxt_e, nxt_0]
   rfl)
 |(simp only [QzX, Qhh, QkK, QkJ, QcH, QpP, Qdv, QeQ, QeP, QcH]
   try generalize (cApp y20300 ([((lgt .str x16 (Int.toNat x18)), (1, ((dof y50000 ([3, 3, 4])), ((([14]) ++ (lgt (.sl tI) ([[10, 8, 2], [8, 2], [2, 10, 8, 3]]) (Int.toNat (dval (dofN y50000 ([3, 3, 4])) 3)))), ((done (dnext (dofN y50000 ([3, 3, 4])) 3) 2), ([((((leafV (lgt .str x16 (Int.toNat x18)) rsaK (iadd .i64 100 x18) 1 901).1).1, ((((leafV (lgt .str x16 (Int.toNat x18)) rsaK (iadd .i64 100 x18) 1 901).1).2).1, ())), (((leafV (lgt .str x16 (Int.toNat x18)) rsaK (iadd .i64 100 x18) 1 901).2).1, ((((leafV (lgt .str x16 (Int.toNat x18)) rsaK (iadd .i64 100 x18) 1 901).2).2).1, ())))], ([1], ([2, 3], ((done (dnext (dnext (dofN y50000 ([3, 3, 4])) 3) 2) 3), ())))))))))]) 144) = cq0
   try generalize ((QrF (lgt .str x16 (Int.toNat x18)) rsaK (iadd .i64 100 x18) 1 901)) = cq1
   try generalize (cApp ([14]) (lgt (.sl tI) ([[10, 8, 2], [8, 2], [2, 10, 8, 3]]) (Int.toNat (dval (dofN y50000 ([3, 3, 4])) 3))) 8) = cq2
   try generalize (cApp y20300 ([((lgt .str x16 (Int.toNat x18)), (1, ((dof y50000 ([3, 3, 4])), ((lgt (.sl tI) ([[10, 8, 2], [8, 2], [2, 10, 8, 3]]) (Int.toNat (dval (dofN y50000 ([3, 3, 4])) 3))), ((done (dnext (dofN y50000 ([3, 3, 4])) 3) 2), ([((((leafV (lgt .str x16 (Int.toNat x18)) rsaK (iadd .i64 100 x18) 1 901).1).1, ((((leafV (lgt .str x16 (Int.toNat x18)) rsaK (iadd .i64 100 x18) 1 901).1).2).1, ())), (((leafV (lgt .str x16 (Int.toNat x18)) rsaK (iadd .i64 100 x18) 1 901).2).1, ((((leafV (lgt .str x16 (Int.toNat x18)) rsaK (iadd .i64 100 x18) 1 901).2).2).1, ())))], ([1], ([2, 3], ((done (dnext (dnext (dofN y50000 ([3, 3, 4])) 3) 2) 3), ())))))))))]) 144) = cq3
   try generalize ((oneOk (dnext (dnext (dofN y50000 ([3, 3, 4])) 3) 2) 3)) = cq4
   try generalize ((oneOk (dnext (dofN y50000 ([3, 3, 4])) 3) 2)) = cq5
   try generalize (cIx ([[10, 8, 2], [8, 2], [2, 10, 8, 3]]) (dval (dofN y50000 ([3, 3, 4])) 3)) = cq6
   try generalize ((QaS (dofN y50000 ([3, 3, 4])) 3)) = cq7
   try generalize ((ofOk y50000 ([3, 3, 4]))) = cq8
   try generalize (cIx x16 x18) = cq9
   simp only [brN, QcH, Bool.and_assoc, Bool.and_comm, Bool.and_left_comm, Bool.and_self, Bool.and_self_left, QaA, nxt_n, nxt_r, nxt_e, nxt_0]
   try rfl))
def QMM (x4 : List ByteArray) (x8 x65 x66 x70 x71 : Int) (y2 : Qam) (y20300 : List Qab) (y20301 : List Keep) (y20302 : List Item) (y50000 : Dice) : Option (Exit × VS) :=
 let a1 := iadd .i64 x71 1
 let a2 := dnext y50000 3
 br (ilt x71 x70) (br (ine x8 x71) (br (QaS y50000 3) (br (igt (dval y50000 3) 0) (br (ilt (llen y20301) 3) (br (cApp y20301 ([(x8, (x71, ()))]) 16) (some (.normal, Qhk x4 x8 x65 x66 x70 a1 y2 y20300 (y20301 ++ ([(x8, (x71, ()))])) y20302 a2)) none) (some (.normal, Qhk x4 x8 x65 x66 x70 a1 y2 y20300 y20301 y20302 a2))) (some (.normal, Qhk x4 x8 x65 x66 x70 a1 y2 y20300 y20301 y20302 a2))) none) (some (.normal, Qhk x4 x8 x65 x66 x70 a1 y2 y20300 y20301 y20302 y50000))) (some (.exit 4, Qfi x4 x65 x66 y2 y20300 y20301 y20302 y50000))
noncomputable def QfE (x4 : List ByteArray) (x8 x65 x66 x70 x71 : Int) (y2 : Qam) (y20300 : List Qab) (y20301 : List Keep) (y20302 : List Item) (y50000 : Dice) : Option (Exit × VS) := loopF (Qaj g_f17 QkA QmD) (Qhk x4 x8 x65 x66 x70 x71 y2 y20300 y20301 y20302 y50000)
noncomputable def QtH (x4 : List ByteArray) (x8 x65 x66 x70 x71 : Int) (y2 : Qam) (y20300 : List Qab) (y20301 : List Keep) (y20302 : List Item) (y50000 : Dice) : Option (Exit × VS) :=
 let a1 := iadd .i64 x71 1
 let a2 := dnext y50000 3
 br (ilt x71 x70) (br (ine x8 x71) (br (QaS y50000 3) (br (igt (dval y50000 3) 0) (br (ilt (llen y20301) 3) (br (cApp y20301 ([(x8, (x71, ()))]) 16) (QfE x4 x8 x65 x66 x70 a1 y2 y20300 (y20301 ++ ([(x8, (x71, ()))])) y20302 a2) none) (QfE x4 x8 x65 x66 x70 a1 y2 y20300 y20301 y20302 a2)) (QfE x4 x8 x65 x66 x70 a1 y2 y20300 y20301 y20302 a2)) none) (QfE x4 x8 x65 x66 x70 a1 y2 y20300 y20301 y20302 y50000)) (some (.exit 4, Qfi x4 x65 x66 y2 y20300 y20301 y20302 y50000))
def QfK (x4 : List ByteArray) (x8 x65 x66 x70 x71 : Int) (y2 : Qam) (y20300 : List Qab) (y20301 : List Keep) (y20302 : List Item) (y50000 : Dice) : Option (Exit × VS) :=
 let a1 := edZ (x70 - x71).toNat x8 x71 y20301 y50000
 some (.exit 4, Qfi (x4) (x65) (x66) (y2) (y20300) (a1.1) (y20302) (a1.2))
theorem QQe (x4 : List ByteArray) (x8 x65 x66 x70 x71 : Int) (y2 : Qam) (y20300 : List Qab) (y20301 : List Keep) (y20302 : List Item) (y50000 : Dice) : Qaj g_f17 QkA QmD (Qhk x4 x8 x65 x66 x70 x71 y2 y20300 y20301 y20302 y50000) = QMM x4 x8 x65 x66 x70 x71 y2 y20300 y20301 y20302 y50000 := by kernel_rfl
theorem QAU (x4 : List ByteArray) (x8 x65 x66 x70 x71 : Int) (y2 : Qam) (y20300 : List Qab) (y20301 : List Keep) (y20302 : List Item) (y50000 : Dice) : QfE x4 x8 x65 x66 x70 x71 y2 y20300 y20301 y20302 y50000 = QtH x4 x8 x65 x66 x70 x71 y2 y20300 y20301 y20302 y50000 := (Qao _ _).trans (by
 rw [QQe]
 simp only [QMM, QtH, QaA, nxt_n, nxt_r, nxt_e, nxt_0]
 rfl)
def QML (x4 : List ByteArray) (x65 x66 : Int) (y2 : Qam) (y20300 : List Qab) (y20301 : List Keep) (y20302 : List Item) (y50000 : Dice) : Option (Exit × VS) :=
 let a1 := (edZ ((llen x4) - (0 : Int)).toNat x66 (0 : Int) y20301 y50000)
 br (ilt x66 x65) (br (dOk y50000 && decide (0 ≤ (0 : Int) ∧ (0 : Int) ≤ (llen x4) ∧ (llen x4) ≤ 3 ∧ y20301.length ≤ 3)) (some (.normal, Qsd (x4) (x65) (iadd .i64 (x66) 1) (y2) (y20300) (a1.1) (y20302) (a1.2))) none) (some (.exit 2, Qfh y2 y20300 y20301 y20302 y50000))
noncomputable def Qnq (x4 : List ByteArray) (x65 x66 : Int) (y2 : Qam) (y20300 : List Qab) (y20301 : List Keep) (y20302 : List Item) (y50000 : Dice) : Option (Exit × VS) := loopF (Qaj g_f17 Qkz QmC) (Qsd x4 x65 x66 y2 y20300 y20301 y20302 y50000)
noncomputable def QtG (x4 : List ByteArray) (x65 x66 : Int) (y2 : Qam) (y20300 : List Qab) (y20301 : List Keep) (y20302 : List Item) (y50000 : Dice) : Option (Exit × VS) :=
 let a1 := (edZ ((llen x4) - (0 : Int)).toNat x66 (0 : Int) y20301 y50000)
 br (ilt x66 x65) (br (dOk y50000 && decide (0 ≤ (0 : Int) ∧ (0 : Int) ≤ (llen x4) ∧ (llen x4) ≤ 3 ∧ y20301.length ≤ 3)) (Qnq (x4) (x65) (iadd .i64 (x66) 1) (y2) (y20300) (a1.1) (y20302) (a1.2)) none) (some (.exit 2, Qfh y2 y20300 y20301 y20302 y50000))
def QnD (x4 : List ByteArray) (x65 x66 : Int) (y2 : Qam) (y20300 : List Qab) (y20301 : List Keep) (y20302 : List Item) (y50000 : Dice) : Option (Exit × VS) :=
 let a1 := edY (x65 - x66).toNat x4.length x66 y20301 y50000
 some (.exit 2, Qfh (y2) (y20300) (a1.1) (y20302) (a1.2))
theorem QQd (x4 : List ByteArray) (x65 x66 : Int) (y2 : Qam) (y20300 : List Qab) (y20301 : List Keep) (y20302 : List Item) (y50000 : Dice) : Qaj g_f17 Qkz QmC (Qsd x4 x65 x66 y2 y20300 y20301 y20302 y50000) = QML x4 x65 x66 y2 y20300 y20301 y20302 y50000 := by kernel_rfl
theorem QAT (x4 : List ByteArray) (x65 x66 : Int) (y2 : Qam) (y20300 : List Qab) (y20301 : List Keep) (y20302 : List Item) (y50000 : Dice) : Qnq x4 x65 x66 y2 y20300 y20301 y20302 y50000 = QtG x4 x65 x66 y2 y20300 y20301 y20302 y50000 := (Qao _ _).trans (by
 rw [QQd]
 simp only [QML, QtG, QaA, nxt_n, nxt_r, nxt_e, nxt_0]
 rfl)
def QMK (x10 : Int) (y2 : Qam) (y3_1 : List Keep) (y20300 : List Qab) (y20302 : List Item) (y50000 : Dice) : Option (Exit × VS) :=
 let a2 := (ByteArray.mk #[98, 97, 99, 107, 117, 112])
 let a3 := (ByteArray.mk #[100, 101, 101, 100])
 let a5 := (dwdGN y50000 ([a2, a3]))
 let a6 := (dwdG y50000 ([a2, a3]))
 let a1 := itemV a5 a6
 let a4 := ((a1.2).1, (((a1.2).2).1, ((((a1.2).2).2).1, (((((a1.2).2).2).2).1, ()))))
 br (igt x10 0) (br (wdGOk y50000 ([a2, a3])) (br (dOkS a5 a6) (br (cApp y20302 ([(a1.1, a4)]) 64) (some (.normal, Qsc (isub .i64 x10 1) y2 y3_1 y20300 (y20302 ++ ([(a1.1, a4)])) (itemN a5 a6))) none) none) none) (some (.exit 6, Qfg y2 y3_1 y20300 y20302 y50000))
noncomputable def Qnp (x10 : Int) (y2 : Qam) (y3_1 : List Keep) (y20300 : List Qab) (y20302 : List Item) (y50000 : Dice) : Option (Exit × VS) := loopF (Qaj g_f17 Qky QmB) (Qsc x10 y2 y3_1 y20300 y20302 y50000)
noncomputable def QtF (x10 : Int) (y2 : Qam) (y3_1 : List Keep) (y20300 : List Qab) (y20302 : List Item) (y50000 : Dice) : Option (Exit × VS) :=
 let a2 := (ByteArray.mk #[98, 97, 99, 107, 117, 112])
 let a3 := (ByteArray.mk #[100, 101, 101, 100])
 let a5 := (dwdGN y50000 ([a2, a3]))
 let a6 := (dwdG y50000 ([a2, a3]))
 let a1 := itemV a5 a6
 let a4 := ((a1.2).1, (((a1.2).2).1, ((((a1.2).2).2).1, (((((a1.2).2).2).2).1, ()))))
 br (igt x10 0) (br (wdGOk y50000 ([a2, a3])) (br (dOkS a5 a6) (br (cApp y20302 ([(a1.1, a4)]) 64) (Qnp (isub .i64 x10 1) y2 y3_1 y20300 (y20302 ++ ([(a1.1, a4)])) (itemN a5 a6)) none) none) none) (some (.exit 6, Qfg y2 y3_1 y20300 y20302 y50000))
def QnC (x10 : Int) (y2 : Qam) (y3_1 : List Keep) (y20300 : List Qab) (y20302 : List Item) (y50000 : Dice) : Option (Exit × VS) := some (.exit 6, Qfg (y2) (y3_1) (y20300) (y20302 ++ (itZ x10.toNat y50000).1) ((itZ x10.toNat y50000).2))
theorem QQc (x10 : Int) (y2 : Qam) (y3_1 : List Keep) (y20300 : List Qab) (y20302 : List Item) (y50000 : Dice) : Qaj g_f17 Qky QmB (Qsc x10 y2 y3_1 y20300 y20302 y50000) = QMK x10 y2 y3_1 y20300 y20302 y50000 := by kernel_rfl
theorem QAS (x10 : Int) (y2 : Qam) (y3_1 : List Keep) (y20300 : List Qab) (y20302 : List Item) (y50000 : Dice) : Qnp x10 y2 y3_1 y20300 y20302 y50000 = QtF x10 y2 y3_1 y20300 y20302 y50000 := (Qao _ _).trans (by
 rw [QQc]
 simp only [QMK, QtF, QaA, nxt_n, nxt_r, nxt_e, nxt_0]
 rfl)
def r_f17 (d0 : Dice) : Option (V × List VO) :=
 let a6 := (ByteArray.mk #[97, 112, 112])
 let a8 := (ByteArray.mk #[100, 98])
 let a7 := (ByteArray.mk #[119, 101, 98])
 let a2 := (lsl ([a6, a8, a7]) 0 (iadd .i64 2 (dval d0 2)))
 let a5 := (sndZ (a2.drop (0 : Int).toNat) (0 : Int).toNat (dnext d0 2))
 let a1 := (edY ((llen a2) - (0 : Int)).toNat a2.length (0 : Int) ([] : List Keep) (a5.2))
 let a3 := (dOk (dnext (a1.2) 3) && decide (0 ≤ (dval (a1.2) 3) ∧ (dval (a1.2) 3) ≤ 3 ∧ ([] : List Item).length + (dval (a1.2) 3).toNat ≤ 100))
 let a4 := itZ (dval (a1.2) 3).toNat (dnext (a1.2) 3)
 br (QaS d0 2) (br (cSl ([a6, a8, a7]) 0 (iadd .i64 2 (dval d0 2)) ((List.length ([a6, a8, a7]) : Nat) : Int)) (br (rngOk a2 (llen a2) (0 : Int) && (dOk (dnext d0 2) && (decide (([] : List Qab).length ≤ (0 : Int)) && a2.all nm1))) (br (dOk (a5.2) && decide (0 ≤ (0 : Int) ∧ (0 : Int) ≤ (llen a2) ∧ (llen a2) ≤ 3 ∧ a2.length ≤ 3 ∧ ([] : List Keep).length ≤ 3)) (br (ieq (llen (a1.1)) 0) (br (QaS (a1.2) 3) (br a3 (some (.t Qaq ((([] : List Qab) ++ a5.1), (([(0, (1, ()))]), ((([] : List Item) ++ a4.1), ()))), [.box (.t QaK (a4.2))])) none) none) (br (QaS (a1.2) 3) (br a3 (some (.t Qaq ((([] : List Qab) ++ a5.1), ((a1.1), ((([] : List Item) ++ a4.1), ()))), [.box (.t QaK (a4.2))])) none) none)) none) none) none) none
theorem e_f17 (d0 : Dice) : runF g_f17 QEQ QR3 false [.ptr 50000 0] [.box (.t QaK d0)] = r_f17 d0 := by kernel_rfl
theorem en_f17 : Qai Tryz.prog 17 := .inr ⟨by decide, _, Tryz.func17, by kernel_rfl, by kernel_rfl⟩
theorem gk_f17 : GOk Tryz.prog g_f17 := Qal _ (gA (gC Qwp QvF (gC en_f37 ms_f37 (gC en_f38 ms_f38 (gC QSK QSu (gC en_f46 ms_f46 (gC en_f47 ms_f47 (gC en_f48 ms_f48 gN))))))))
theorem QVX (x4 x16 : List ByteArray) (x17 x18 : Int) (y2 : Qam) (y20300 : List Qab) (y20301 : List Keep) (y20302 : List Item) (y50000 : Dice) (h : (rngOk x16 x17 x18 && (dOk y50000 && (decide (y20300.length ≤ x18) && x16.all nm1))) = true) : QhD x4 x16 x17 x18 y2 y20300 y20301 y20302 y50000 = QfL x4 x16 x17 x18 y2 y20300 y20301 y20302 y50000 := by
 simp only [Bool.and_eq_true, decide_eq_true_eq] at h
 obtain ⟨h0, hd, hl, ha⟩ := h
 obtain ⟨rfl, h3, k, rfl, hk⟩ := rng_k h0
 clear h0
 revert y20300 y50000
 refine Qau x16 (fun k => ∀ (y20300 : List Qab) (y50000 : Dice), dOk y50000 = true → (y20300.length : Int) ≤ (k : Int) → QhD x4 x16 (x16.length : Int) (k : Int) y2 y20300 y20301 y20302 y50000 = QfL x4 x16 (x16.length : Int) (k : Int) y2 y20300 y20301 y20302 y50000) ?_ ?_ k hk
 ·intro y20300 y50000 _ _
  rw [QAV]
  simp only [QpP, Qdv, QeQ, QeP, QcH, QfL, Qat, Nat.lt_irrefl, decide_false, Qaf, Int.toNat_natCast, List.drop_length, sndZ, List.append_nil]
 ·intro k hk ih y20300 y50000 hd hl
  rw [QAV]
  have c1 : ofOk y50000 [3, 3, 4] = true := QTf hd (by decide) (by decide)
  have d1 := Qwv (l := [3, 3, 4]) hd
  have c2 : QaS (dofN y50000 [3, 3, 4]) 3 = true := Qgz d1 (by omega)
  have d2 := QaH (n := 3) d1
  have c3 : oneOk (dnext (dofN y50000 [3, 3, 4]) 3) 2 = true := QAw d2 (by omega) (by omega)
  have c4 : oneOk (dnext (dnext (dofN y50000 [3, 3, 4]) 3) 2) 3 = true := QAw (QaH d2) (by omega) (by omega)
  have b3 := Qbm (d := dofN y50000 [3, 3, 4]) (n := 3) (by omega)
  have c5 : cIx ([[10, 8, 2], [8, 2], [2, 10, 8, 3]] : List (List Int)) (dval (dofN y50000 [3, 3, 4]) 3) = true := decide_eq_true ⟨b3.1, b3.2⟩
  have c6 : QrF x16[k] rsaK (iadd .i64 100 (k : Int)) 1 901 = true := List.all_eq_true.1 ha _ (List.getElem_mem hk)
  have c7 : ∀ v, cApp y20300 [v] 144 = true := fun v => cAppN (by omega) (by simp only [List.length_singleton]; omega)
  have b4 : ∀ q, (lgt (.sl tI) [[10, 8, 2], [8, 2], [2, 10, 8, 3]] q).length ≤ 4 := fun q => QVD (by simp) q
  have c8 : cApp ([14] : List Int) (lgt (.sl tI) [[10, 8, 2], [8, 2], [2, 10, 8, 3]] (dval (dofN y50000 [3, 3, 4]) 3).toNat) 8 = true := cAppN (by decide) (by have := b4 (dval (dofN y50000 [3, 3, 4]) 3).toNat; simp only [List.length_singleton]; omega)
  simp only [QpP, Qdv, QeQ, QeP, QcH, Qat, Qax, hk, decide_true, Qad, Int.toNat_natCast, add1 (show k < 4611686018427387904 by omega), Qaz (y := .str) hk, c1, c2, c3, c4, c6, c7, QcH]
  have hi : ∀ v, QhD x4 x16 (x16.length : Int) ((k + 1 : Nat) : Int) y2 (y20300 ++ [v]) y20301 y20302 (sndD y50000) = QfL x4 x16 (x16.length : Int) ((k + 1 : Nat) : Int) y2 (y20300 ++ [v]) y20301 y20302 (sndD y50000) := fun v => ih _ _ (QLG hd) (by simp only [List.length_append, List.length_singleton]; omega)
  have goal2 : QfL x4 x16 (x16.length : Int) ((k + 1 : Nat) : Int) y2 (y20300 ++ [sndE y50000 k x16[k]]) y20301 y20302 (sndD y50000) = QfL x4 x16 (x16.length : Int) (k : Int) y2 y20300 y20301 y20302 y50000 := by
   simp only [QfL, Int.toNat_natCast, List.drop_eq_getElem_cons hk, sndZ, List.append_assoc, List.singleton_append]
  refine Eq.trans ?_ ((hi _).trans goal2)
  unfold sndE sndSu
  refine brY c5 ?_
  cases ieq (dof y50000 [3, 3, 4]) 4 with
  | false => rfl
  | true => exact brY rfl (brY c8 rfl)
theorem QVW (x4 : List ByteArray) (x8 x65 x66 x70 x71 : Int) (y2 : Qam) (y20300 : List Qab) (y20301 : List Keep) (y20302 : List Item) (y50000 : Dice) (h : (dOk y50000 && decide (0 ≤ x71 ∧ x71 ≤ x70 ∧ x70 ≤ 3 ∧ y20301.length ≤ 3)) = true) : QfE x4 x8 x65 x66 x70 x71 y2 y20300 y20301 y20302 y50000 = QfK x4 x8 x65 x66 x70 x71 y2 y20300 y20301 y20302 y50000 := by
 simp only [Bool.and_eq_true, decide_eq_true_eq] at h
 obtain ⟨hd, h0, h1, h2, hl⟩ := h
 have key : ∀ (m : Nat) (x71 : Int) (y20301 : List Keep) (y50000 : Dice), x71 + m = x70 → 0 ≤ x71 → dOk y50000 = true → y20301.length ≤ 3 → QfE x4 x8 x65 x66 x70 x71 y2 y20300 y20301 y20302 y50000 = QfK x4 x8 x65 x66 x70 x71 y2 y20300 y20301 y20302 y50000 := by
  intro m
  induction m with
  | zero =>
   intro x71 y20301 y50000 e _ _ _
   rw [QAU]
   have : x70 = x71 := by omega
   subst this
   simp only [QtH, QfK, show ilt x70 x70 = false from decide_eq_false (by omega), Qaf, Int.sub_self, Int.toNat_zero, edZ]
  | succ m ih =>
   intro x71 y20301 y50000 e h0 hd hl
   rw [QAU]
   have c1 : QaS y50000 3 = true := Qgz hd (by omega)
   have c2 : cApp y20301 [(x8, (x71, ()))] 16 = true := cAppN (by omega) (by simp only [List.length_singleton]; omega)
   have e1 : iadd .i64 x71 1 = x71 + 1 := Qbi (by omega)
   have e2 : (x70 - x71).toNat = m + 1 := by omega
   have e3 : (x70 - (x71 + 1)).toNat = m := by omega
   simp only [QtH, show ilt x71 x70 = true from decide_eq_true (by omega), Qad, c1, c2, e1]
   have i0 := ih (x71 + 1) y20301 y50000 (by omega) (by omega) hd hl
   have i1 := ih (x71 + 1) y20301 (dnext y50000 3) (by omega) (by omega) (QaH hd) hl
   rw [i0, i1]
   cases hn : ine x8 x71 with
   | false => simp only [Qaf, QfK, e2, e3, edZ, hn, cond_false]
   | true =>
    cases hg : igt (dval y50000 3) 0 with
    | false => simp only [Qad, Qaf, QfK, e2, e3, edZ, hn, hg, cond_true, Bool.false_and, cond_false]
    | true =>
     cases hq : ilt (llen y20301) 3 with
     | false => simp only [Qad, Qaf, QfK, e2, e3, edZ, hn, hg, hq, cond_true, Bool.and_false, cond_false]
     | true =>
      have hl3 : y20301.length < 3 := by have := of_decide_eq_true hq; simp only [llen] at this; omega
      have i2 := ih (x71 + 1) (y20301 ++ [(x8, (x71, ()))]) (dnext y50000 3) (by omega) (by omega) (QaH hd) (by simp only [List.length_append, List.length_singleton]; omega)
      rw [i2]
      simp only [Qad, QfK, e2, e3, edZ, hn, hg, hq, cond_true, Bool.and_self]
 exact key (x70 - x71).toNat x71 y20301 y50000 (by omega) h0 hd hl
theorem QVV (x4 : List ByteArray) (x65 x66 : Int) (y2 : Qam) (y20300 : List Qab) (y20301 : List Keep) (y20302 : List Item) (y50000 : Dice) (h : (dOk y50000 && decide (0 ≤ x66 ∧ x66 ≤ x65 ∧ x65 ≤ 3 ∧ x4.length ≤ 3 ∧ y20301.length ≤ 3)) = true) : Qnq x4 x65 x66 y2 y20300 y20301 y20302 y50000 = QnD x4 x65 x66 y2 y20300 y20301 y20302 y50000 := by
 simp only [Bool.and_eq_true, decide_eq_true_eq] at h
 obtain ⟨hd, h0, h1, h2, h3, hl⟩ := h
 have key : ∀ (m : Nat) (x66 : Int) (y20301 : List Keep) (y50000 : Dice), x66 + m = x65 → 0 ≤ x66 → dOk y50000 = true → y20301.length ≤ 3 → Qnq x4 x65 x66 y2 y20300 y20301 y20302 y50000 = QnD x4 x65 x66 y2 y20300 y20301 y20302 y50000 := by
  intro m
  induction m with
  | zero =>
   intro x66 y20301 y50000 e _ _ _
   rw [QAT]
   have : x65 = x66 := by omega
   subst this
   simp only [QtG, QnD, show ilt x65 x65 = false from decide_eq_false (by omega), Qaf, Int.sub_self, Int.toNat_zero, edY]
  | succ m ih =>
   intro x66 y20301 y50000 e h0 hd hl
   rw [QAT]
   have e1 : iadd .i64 x66 1 = x66 + 1 := Qbi (by omega)
   have e2 : (x65 - x66).toNat = m + 1 := by omega
   have e3 : (x65 - (x66 + 1)).toNat = m := by omega
   have e4 : (llen x4 - 0).toNat = x4.length := by simp only [llen]; omega
   have hz := QrK x4.length x66 0 y20301 y50000 hd hl
   simp only [QtG, show ilt x66 x65 = true from decide_eq_true (by omega), Qad, e1, e4, hd, Bool.true_and]
   refine brY (decide_eq_true (by simp only [llen]; omega)) ?_
   rw [ih (x66 + 1) _ _ (by omega) (by omega) hz.1 hz.2]
   simp only [QnD, e2, e3, edY]
 exact key (x65 - x66).toNat x66 y20301 y50000 (by omega) h0 hd hl
theorem QVU (x10 : Int) (y2 : Qam) (y3_1 : List Keep) (y20300 : List Qab) (y20302 : List Item) (y50000 : Dice) (h : (dOk y50000 && decide (0 ≤ x10 ∧ x10 ≤ 3 ∧ y20302.length + x10.toNat ≤ 100)) = true) : Qnp x10 y2 y3_1 y20300 y20302 y50000 = QnC x10 y2 y3_1 y20300 y20302 y50000 := by
 simp only [Bool.and_eq_true, decide_eq_true_eq] at h
 obtain ⟨hd, h0, h1, hl⟩ := h
 obtain ⟨n, rfl⟩ := Int.eq_ofNat_of_zero_le h0
 rw [Int.toNat_natCast] at hl
 have key : ∀ (n : Nat) (y20302 : List Item) (y50000 : Dice), dOk y50000 = true → y20302.length + n ≤ 100 → Qnp (n : Int) y2 y3_1 y20300 y20302 y50000 = QnC (n : Int) y2 y3_1 y20300 y20302 y50000 := by
  intro n
  induction n with
  | zero =>
   intro y20302 y50000 _ _
   rw [QAS]
   simp only [QtF, QnC, show igt ((0 : Nat) : Int) 0 = false from rfl, Qaf, Int.toNat_natCast, itZ, List.append_nil]
  | succ n ih =>
   intro y20302 y50000 hd hl
   rw [QAS]
   have e2 : isub .i64 ((n + 1 : Nat) : Int) 1 = (n : Int) := (Qco (by omega)).trans (by omega)
   have c1 : wdGOk y50000 sIt = true := by simp [wdGOk, hd]
   have c2 : dOkS (dwdGN y50000 sIt) (dwdG y50000 sIt) = true := QB3 hd
   have c3 : ∀ v, cApp y20302 [v] 64 = true := fun v => cAppN (by omega) (by simp only [List.length_singleton]; omega)
   simp only [QtF, show igt ((n + 1 : Nat) : Int) 0 = true from decide_eq_true (by omega), Qad, e2, c1, c2, c3]
   refine Eq.trans (ih _ _ (QPN (s := dwdG y50000 sIt) (QB3 hd)) (by simp only [List.length_append, List.length_singleton]; omega)) ?_
   simp only [QnC, Int.toNat_natCast, itZ, List.append_assoc, List.singleton_append]
 exact key n y20302 y50000 hd (by omega)
theorem QN8 : ∀ S l p, g_f17.L 0 (fgt QkB S) = some (true, l) → pickA l = some p → loopF (Qaj g_f17 QkB QmE) S = some p :=
 QaB (s := QsJ) ⟨by decide, by decide⟩ (by kernel_rfl) fun x y hok p hp => by
 simp only [Qas, Qan] at hp
 exact (QVX x.2.2.2.1 x.2.2.2.2.1 x.2.2.2.2.2.1 x.2.2.2.2.2.2.1 y.1 y.2.2.2.2.2.2.1 y.2.2.2.2.2.2.2.1 y.2.2.2.2.2.2.2.2.1 y.2.2.2.2.2.2.2.2.2.1 (by simpa using hok)).trans hp
theorem QN7 : ∀ S l p, g_f17.L 1 (fgt QkA S) = some (true, l) → pickA l = some p → loopF (Qaj g_f17 QkA QmD) S = some p :=
 QaB (s := QsI) ⟨by decide, by decide⟩ (by kernel_rfl) fun x y hok p hp => by
 simp only [Qas, Qan] at hp
 exact (QVW x.2.2.2.1 x.2.2.2.2.1 x.2.2.2.2.2.1 x.2.2.2.2.2.2.1 x.2.2.2.2.2.2.2.1 x.2.2.2.2.2.2.2.2.1 y.1 y.2.2.2.2.2.2.1 y.2.2.2.2.2.2.2.1 y.2.2.2.2.2.2.2.2.1 y.2.2.2.2.2.2.2.2.2.1 (by simpa using hok)).trans hp
theorem QN6 : ∀ S l p, g_f17.L 2 (fgt Qkz S) = some (true, l) → pickA l = some p → loopF (Qaj g_f17 Qkz QmC) S = some p :=
 QaB (s := QsH) ⟨by decide, by decide⟩ (by kernel_rfl) fun x y hok p hp => by
 simp only [Qas, Qan] at hp
 exact (QVV x.2.2.2.1 x.2.2.2.2.1 x.2.2.2.2.2.1 y.1 y.2.2.2.2.2.2.1 y.2.2.2.2.2.2.2.1 y.2.2.2.2.2.2.2.2.1 y.2.2.2.2.2.2.2.2.2.1 (by simpa using hok)).trans hp
theorem QN5 : ∀ S l p, g_f17.L 3 (fgt Qky S) = some (true, l) → pickA l = some p → loopF (Qaj g_f17 Qky QmB) S = some p :=
 QaB (s := QsG) ⟨by decide, by decide⟩ (by kernel_rfl) fun x y hok p hp => by
 simp only [Qas, Qan] at hp
 exact (QVU x.2.2.2.1 y.1 y.2.1.2.1 y.2.2.2.2.2.2.1 y.2.2.2.2.2.2.2.2.1 y.2.2.2.2.2.2.2.2.2.1 (by simpa using hok)).trans hp
theorem lk_f17 : QEQ.lok g_f17 := by
 repeat (first | exact trivial | exact QN8 | exact QN7 | exact QN6 | exact QN5 | refine ⟨?_, ?_⟩)
set_option maxRecDepth 100000 in
theorem s_f17 (d : Dice) (h : dOk d = true) : r_f17 d = some (.t Qaq (sndV d), [.box (.t QaK (sndN d))]) := by
 have hv := Qbm (d := d) (n := 2) (by omega)
 have e : iadd .i64 2 (dval d 2) = 2 + dval d 2 := Qbi (by omega)
 have c1 : QaS d 2 = true := Qgz h (by omega)
 have hn := Qi9 d
 have hd := QaH (n := 2) h
 have hz := QGg (sndNm d) 0 (dnext d 2) hd
 have hy := QSR (sndNm d).length (sndNm d).length 0 [] _ hz (Nat.zero_le _)
 have hy1 : dOk (sndEd d).2 = true := hy.1
 have hv3 := Qbm (d := (sndEd d).2) (n := 3) (by omega)
 simp only [r_f17, show lsl sAll 0 (iadd .i64 2 (dval d 2)) = sndNm d from rfl, List.nil_append, Int.toNat_zero, List.drop_zero, Int.sub_zero, show (llen (sndNm d)).toNat = (sndNm d).length by simp only [llen]; omega]
 simp only [show edY (sndNm d).length (sndNm d).length 0 [] (sndZ (sndNm d) 0 (dnext d 2)).2 = sndEd d from rfl]
 refine brY c1 (brY (decide_eq_true (by rw [e]; refine ⟨by omega, by omega, ?_, ?_⟩ <;> simp <;> omega)) (brY ?_ (brY ?_ ?_)))
 ·rw [rng_0 (by omega), hd, hn.2.2]
  rfl
 ·rw [hz]
  exact decide_eq_true (by simp only [llen, List.length_nil]; omega)
 ·have c2 : QaS (sndEd d).2 3 = true := Qgz hy1 (by omega)
  have c3 : (dOk (dnext (sndEd d).2 3) && decide (0 ≤ dval (sndEd d).2 3 ∧ dval (sndEd d).2 3 ≤ 3 ∧ ([] : List Item).length + (dval (sndEd d).2 3).toNat ≤ 100)) = true := by
   rw [QaH hy1, decide_eq_true (by simp only [List.length_nil]; omega)]
   rfl
  cases hq : ieq (llen (sndEd d).1) 0 with
  | true =>
   rw [Qad]
   refine brY c2 (brY c3 ?_)
   unfold sndV sndEg
   rw [hq]
   rfl
  | false =>
   rw [Qaf]
   refine brY c2 (brY c3 ?_)
   unfold sndV sndEg
   rw [hq]
   rfl
def QRi : Ent := specP QaK .nil (fun d x => (dOk d)) (fun d x => (.t Qaq (sndV d))) (fun d x => (sndN d))
theorem ms_f17 : Meets Tryz.prog 17 (strip QRi) := Qcz (R := runF g_f17 QEQ QR3 false) (mG Tryz.func17 (by kernel_rfl) Tryz.ntmps17 (by kernel_rfl) gk_f17 lk_f17) rfl fun d x hok => (e_f17 d).trans (s_f17 d hok)
end
end Go.Proofs.YtckcgijklnloiaaGreat.K
namespace Go.Proofs.YtckcgijklnloiaaGreat.K
open Go.RowKit
noncomputable section
attribute [local irreducible] epV epN prZ
end
end Go.Proofs.YtckcgijklnloiaaGreat.K
namespace Go.Proofs.YtckcgijklnloiaaGreat.K
open Go.RowKit
noncomputable section
theorem QAh {k : Keep} {id : Int} {l : List Qaa} (hk : kindU k 2 = true) (hd : keyI id = true) (hl : l.length ≤ 8) (h1 : l.all QaD = true) (h2 : Qqv k id l = true) : Qja k id l = true := by
 simp only [kindU, Bool.and_eq_true] at hk
 have h8 : igt (llen l) 8 = false := decide_eq_false (by simp only [llen]; omega)
 have hi : ine (kindF k.1) 2 = false := by rw [Qzk, hk.2]; rfl
 unfold Qja
 rw [hk.1, hi, hd, h8, h1, h2]
 rfl
theorem QM7 {c : Int} (h : 1 ≤ c ∧ c ≤ 16) : ieq (QaO c).2 0 = true := by
 unfold QaO
 rw [if_neg (by omega)]
 rfl
theorem QS1 {l : List Int} (hn : l.Nodup) (hr : ∀ x ∈ l, 1 ≤ x ∧ x ≤ 16) : suitF l = true := by
 have key : ∀ (k : Nat) (hk : k < l.length), (ieq (QaO l[k]).2 0 && !hasF (l.take k) l[k]) = true := by
  intro k hk
  rw [QM7 (hr _ (List.getElem_mem hk)), Bool.true_and, Bool.not_eq_true']
  unfold hasF
  rw [Bool.eq_false_iff]
  intro hc
  have hm := List.contains_iff_mem.1 hc
  obtain ⟨j, hj, he⟩ := List.mem_iff_getElem.1 hm
  rw [List.length_take] at hj
  rw [List.getElem_take] at he
  have := (List.nodup_iff_pairwise_ne.1 hn)
  rw [List.pairwise_iff_getElem] at this
  exact this j k (by omega) hk (by omega) he
 simp only [suitF, QfT, List.all_eq_true, List.mem_range'_1]
 intro k hk
 have hk2 : k < l.length := by omega
 simp only [List.getD_eq_getElem?_getD, List.getElem?_eq_getElem hk2, Option.getD_some]
 exact key k hk2
def goodS (l : List Int) : Prop := l.Nodup ∧ ∀ x ∈ l, 1 ≤ x ∧ x ≤ 16
def anOk (l : List Int) : Bool := !igt (llen l) 16 && (ascF l && l.all keyI)
def hsOk (l : List Int) : Bool := ascF l && l.all hashF
theorem Qum {e : Qab} (hw : wordF e.1 = true) (h1 : 1 ≤ e.2.1) (h2 : e.2.1 ≤ e.2.2.1) (h3 : e.2.2.1 ≤ 4) (hs : goodS (Qaw e)) (hi : (eIds e).length ≤ 4) (hv : (eIds e).all idOk = true) (ha : anOk (eAnch e) = true) (hh : hsOk (eHash e) = true) : QaV e = true := by
 simp only [anOk, hsOk, Bool.and_eq_true] at ha hh
 have g1 : ilt e.2.1 1 = false := decide_eq_false (by omega)
 have g2 : igt e.2.1 e.2.2.1 = false := decide_eq_false (by omega)
 have g3 : igt e.2.2.1 4 = false := decide_eq_false (by omega)
 have g4 : igt (llen (eIds e)) 4 = false := decide_eq_false (by simp only [llen]; omega)
 unfold QaV
 rw [hw, g1, g2, g3, QS1 hs.1 hs.2, g4, ha.1, ha.2.1, ha.2.2, hv, hh.1, hh.2]
 rfl
attribute [local irreducible] epV epN prZ
end
end Go.Proofs.YtckcgijklnloiaaGreat.K
namespace Go.Proofs.YtckcgijklnloiaaGreat.K
open Go.RowKit
noncomputable section
theorem QDL {c s : Qab} {x : Keep} (hx : x ∈ QaY c s) : posE s (Qaw c) x.1 x.2.1 = true ∧ loC c s ≤ x.1 ∧ x.1 ≤ hiC c s := by
 unfold QaY at hx
 cases hr : Qdu c s with
 | false => rw [hr] at hx; cases hx
 | true =>
  rw [hr] at hx
  obtain ⟨hv, hw⟩ := Bool.and_eq_true_iff.1 hr
  have v1 := Qbu hv
  have v2 := Qbu hw
  have b1 : 1 ≤ loC c s := by simp only [loC, imx]; omega
  change x ∈ verC s (Qaw c) (loC c s).toNat (hiC c s + 1 - loC c s).toNat at hx
  unfold verC rowC at hx
  simp only [List.mem_flatMap, List.mem_range'_1, List.mem_map, List.mem_filter] at hx
  obtain ⟨j, hj, k, ⟨_, hp⟩, rfl⟩ := hx
  exact ⟨hp, by show loC c s ≤ (j : Int); omega, by show (j : Int) ≤ hiC c s; omega⟩
theorem QDM {c s : Qab} {v k : Int} (hr : Qdu c s = true) (h1 : loC c s ≤ v) (h2 : v ≤ hiC c s) (hp : posE s (Qaw c) v k = true) : (v, (k, ())) ∈ QaY c s := by
 have hk : 1 ≤ k ∧ k ≤ 16 := by
  simp only [posE, Bool.and_eq_true] at hp
  exact Qn6 hp.1
 obtain ⟨hv, hw⟩ := Bool.and_eq_true_iff.1 hr
 have v1 := Qbu hv
 have v2 := Qbu hw
 have b1 : 1 ≤ loC c s := by simp only [loC, imx]; omega
 unfold QaY
 rw [hr]
 show _ ∈ verC s (Qaw c) (loC c s).toNat (hiC c s + 1 - loC c s).toNat
 unfold verC rowC
 simp only [List.mem_flatMap, List.mem_range'_1, List.mem_map, List.mem_filter]
 refine ⟨v.toNat, by omega, k.toNat, ⟨by omega, ?_⟩, ?_⟩
 ·rw [Int.toNat_of_nonneg (by omega), Int.toNat_of_nonneg (by omega)]
  exact hp
 ·rw [Int.toNat_of_nonneg (by omega), Int.toNat_of_nonneg (by omega)]
theorem QLL {c s : Qab} {d : Int} (hr : Qdu c s = true) (hd : 0 ≤ d ∧ d ≤ 40000) : QbD c s d = if hiC c s < loC c s then (zK, 27) else overF c s (hiC c s) d (Qaw c) (outL s (Qaw c)) := by
 obtain ⟨hv, hw⟩ := Bool.and_eq_true_iff.1 hr
 have v1 := Qbu hv
 have v2 := Qbu hw
 have g1 : ilt d 0 = false := decide_eq_false (by omega)
 have g2 : igt d 40000 = false := decide_eq_false (by omega)
 have g3 : ilt c.2.2.1 1 = false := decide_eq_false (by omega)
 have g4 : igt c.2.2.1 4 = false := decide_eq_false (by omega)
 unfold QbD withF
 rw [hr, g1, g2, g3, g4]
 simp only [Bool.not_true, cond_false]
 by_cases h : hiC c s < loC c s
 ·rw [if_pos h]
  by_cases h1 : imn c.2.2.1 s.2.2.1 < c.2.1
  ·rw [show ilt (imn c.2.2.1 s.2.2.1) c.2.1 = true from decide_eq_true h1, cond_true]
  ·have h2 : imn c.2.2.1 s.2.2.1 < s.2.1 := by
    simp only [hiC, loC, imx] at h
    omega
   rw [show ilt (imn c.2.2.1 s.2.2.1) c.2.1 = false from decide_eq_false h1, show ilt (imn c.2.2.1 s.2.2.1) s.2.1 = true from decide_eq_true h2]
   rfl
 ·rw [if_neg h]
  have h1 : ¬ imn c.2.2.1 s.2.2.1 < c.2.1 := by
   simp only [hiC, loC, imx] at h
   omega
  have h2 : ¬ imn c.2.2.1 s.2.2.1 < s.2.1 := by
   simp only [hiC, loC, imx] at h
   omega
  rw [show ilt (imn c.2.2.1 s.2.2.1) c.2.1 = false from decide_eq_false h1, show ilt (imn c.2.2.1 s.2.2.1) s.2.1 = false from decide_eq_false h2]
  rfl
end
end Go.Proofs.YtckcgijklnloiaaGreat.K
namespace Go.Proofs.YtckcgijklnloiaaGreat.K
open Go.RowKit
abbrev leafS (s : ByteArray) (k : Nat) : Qaa := (signC (leafC s rsaK (iadd .i64 100 (k : Int)) 901) 1).1
def QhF (s : ByteArray) (k : Nat) : Bool :=
 QaG (leafS s k) && (QaD (leafS s k) && (Qqv rsaK (iadd .i64 100 (k : Int)) [leafS s k] && (keyI (iadd .i64 100 (k : Int)) && (hasS (QaC (leafS s k)) s && (!QbX [leafS s k] 11 && (!QbX [leafS s k] 15 && (!QbX [leafS s k] 10 && (ieq (cSeal (leafS s k)).1 1 && (ieq (leafS s k).2.2.2.2.2.2.1 0 && (ieq (leafS s k).2.2.2.2.2.2.2.1 901 && (ieq (leafS s k).2.2.2.2.2.1.1 3 && (wordF s && nameG s))))))))))))
set_option maxRecDepth 100000 in
theorem QOg : (sAll.all fun s => (List.range 3).all fun k => QhF s k) = true := by kernel_rfl
theorem QjM {s : ByteArray} {k : Nat} (hs : s ∈ sAll) (hk : k < 3) : QhF s k = true :=
 List.all_eq_true.1 (List.all_eq_true.1 QOg s hs) k (List.mem_range.2 hk)
def sndP (e : Qab) : Prop := ∃ d k s, e = sndE d k s ∧ s ∈ sAll ∧ k < 3
theorem QAl : kindU rsaK 2 = true := by kernel_rfl
theorem Qhz (d : Dice) : dof d [3, 3, 4] = 3 ∨ dof d [3, 3, 4] = 4 := by
 have h := QzN (d := d) (l := [3, 3, 4]) (by decide)
 simp only [List.mem_cons, List.not_mem_nil, or_false] at h
 omega
def goodB (l : List Int) : Bool := decide l.Nodup && l.all fun x => decide (1 ≤ x ∧ x ≤ 16)
theorem QKy {l : List Int} (h : goodB l = true) : goodS l := by
 simp only [goodB, Bool.and_eq_true, decide_eq_true_eq, List.all_eq_true] at h
 exact h
theorem QNa (d : Dice) : sndSu d ∈ [[10, 8, 2], [8, 2], [2, 10, 8, 3], [14, 10, 8, 2], [14, 8, 2], ([14, 2, 10, 8, 3] : List Int)] := by
 have b3 := Qbm (d := dofN d [3, 3, 4]) (n := 3) (by omega)
 unfold sndSu
 rcases (show dval (dofN d [3, 3, 4]) 3 = 0 ∨ dval (dofN d [3, 3, 4]) 3 = 1 ∨ dval (dofN d [3, 3, 4]) 3 = 2 by omega) with h | h | h <;> rw [h] <;> cases ieq (dof d [3, 3, 4]) 4 <;> decide
theorem Qrk {p : List Int → Bool} (h : [[10, 8, 2], [8, 2], [2, 10, 8, 3], [14, 10, 8, 2], [14, 8, 2], ([14, 2, 10, 8, 3] : List Int)].all p = true) (d : Dice) : p (sndSu d) = true := List.all_eq_true.1 h _ (QNa d)
theorem QGe {e : Qab} (h : sndP e) : QaT e = true := by
 obtain ⟨d, k, s, rfl, hs, hk⟩ := h
 have hg := QjM hs hk
 simp only [QhF, Bool.and_eq_true] at hg
 have hsu : (sndSu d).length ≤ 5 := of_decide_eq_true (Qrk (p := fun l => decide (l.length ≤ 5)) (by decide) d)
 have hc : QaR [leafS s k] = true := by
  simp only [QaR, List.all_cons, List.all_nil, hg.1, Bool.and_true]
  rfl
 unfold QaT
 simp only [Bool.and_eq_true, decide_eq_true_eq]
 refine ⟨⟨hg.2.2.2.2.2.2.2.2.2.2.2.2.2, ⟨?_, ?_, ?_, ?_⟩⟩, ?_⟩
 ·show (sndSu d).length ≤ 100000
  omega
 ·exact (show 1 ≤ 100000 by decide)
 ·exact (show 1 ≤ 100000 by decide)
 ·exact (show 2 ≤ 100000 by decide)
 ·show (idLen (leafV s rsaK (iadd .i64 100 (k : Int)) 1 901) && true) = true
  rw [Bool.and_true]
  exact hc
theorem QuF {e : Qab} (h : sndP e) : QaV e = true := by
 obtain ⟨d, k, s, rfl, hs, hk⟩ := h
 have hg := QjM hs hk
 simp only [QhF, Bool.and_eq_true] at hg
 have hm := Qhz d
 refine Qum (e := sndE d k s) hg.2.2.2.2.2.2.2.2.2.2.2.2.1 (Int.le_refl _) ?_ ?_ (QKy (Qrk (p := goodB) (by decide) d)) (show 1 ≤ 4 by decide) ?_ (show anOk [1] = true by decide) (show hsOk [2, 3] = true by kernel_rfl)
 ·show (1 : Int) ≤ dof d [3, 3, 4]
  omega
 ·show dof d [3, 3, 4] ≤ 4
  omega
 ·show (idOk (leafV s rsaK (iadd .i64 100 (k : Int)) 1 901) && true) = true
  rw [Bool.and_true]
  refine QAh QAl hg.2.2.2.1 (show 1 ≤ 8 by decide) ?_ hg.2.2.1
  show (QaD (leafS s k) && true) = true
  rw [hg.2.1]
  rfl
theorem QCa {s : ByteArray} {k : Nat} (hs : s ∈ sAll) (hk : k < 3) (d : Int) : chkCh [leafS s k] [1] [2, 3] d s = if 0 ≤ d ∧ d < 901 then 0 else 13 := by
 have hg := QjM hs hk
 simp only [QhF, Bool.and_eq_true, Bool.not_eq_true'] at hg
 obtain ⟨_, g2, _, _, g5, g6, g7, g8, g9, ga, gb, gc, _⟩ := hg
 simp only [Qbz, decide_eq_true_eq] at g9 ga gb gc
 unfold chkCh
 rw [if_neg (by simp), if_neg (by simp)]
 have a1 : QkL [leafS s k] = false := by
  show (badC (leafS s k) || false) = false
  unfold badC
  rw [g2]
  rfl
 have a2 : QbF [leafS s k] [2, 3] d 13 = (ilt d 0 || ige d 901) := by
  show (heldF (leafS s k) [2, 3] d 13 || false) = _
  unfold heldF
  rw [ga, gb, Bool.or_false]
  rfl
 have a3 : QbF [leafS s k] [2, 3] d 7 = false := by
  show (heldF (leafS s k) [2, 3] d 7 || false) = _
  unfold heldF
  rw [gc]
  rfl
 have a4 : hasF [1] (cSeal (lastC [leafS s k])).1 = true := by
  show hasF [1] (cSeal (leafS s k)).1 = true
  rw [g9]
  rfl
 have a5 : hasS (QaC (cAt [leafS s k] 0)) s = true := g5
 rw [a1, a5, a2, a3, g6, g7, g8, a4]
 by_cases h : 0 ≤ d ∧ d < 901
 ·rw [if_pos h, show ilt d 0 = false from decide_eq_false (by omega), show ige d 901 = false from decide_eq_false (by omega)]
  rfl
 ·rw [if_neg h]
  have : (ilt d 0 || ige d 901) = true := by
   by_cases h0 : d < 0
   ·rw [show ilt d 0 = true from decide_eq_true h0]; rfl
   ·rw [show ige d 901 = true from decide_eq_true (by omega), Bool.or_true]
  rw [this]
  rfl
theorem QKv {e : Qab} (h : sndP e) {x : Int} (hi : (QaW e x).2 = true) (d : Int) (c : Qab) (hc : sndP c) : pickE c e d x = if 0 ≤ d ∧ d < 901 then 0 else 13 := by
 obtain ⟨dd, k, s, rfl, hs, hk⟩ := h
 obtain ⟨dc, kc, sc, rfl, _, _⟩ := hc
 obtain ⟨j, hj, hl⟩ := Qke hi
 have hl : j < 1 := hl
 have hj0 : j = 0 := by omega
 subst hj0
 unfold pickE QfO
 rw [hj]
 exact QCa hs hk d
theorem QGc {c e : Qab} (hc : sndP c) (he : sndP e) {x : Int} (hx : x = 2 ∨ x = 8) : posE e (Qaw c) 3 x = true ∧ loC c e ≤ 3 ∧ 3 ≤ hiC c e := by
 obtain ⟨d, k, s, rfl, hs, hk⟩ := he
 obtain ⟨dc, kc, sc, rfl, _, _⟩ := hc
 have m1 := Qhz d
 have m2 := Qhz dc
 refine ⟨?_, ?_, ?_⟩
 ·have h1 : ∀ dd, hasF (sndSu dd) 2 = true ∧ hasF (sndSu dd) 8 = true := fun dd => ⟨Qrk (p := fun l => hasF l 2) (by decide) dd, Qrk (p := fun l => hasF l 8) (by decide) dd⟩
  have h2 : Qaw (sndE dc kc sc) = sndSu dc := rfl
  have h3 : Qaw (sndE d k s) = sndSu d := rfl
  unfold posE
  rw [h2, h3]
  rcases hx with rfl | rfl
  ·rw [(h1 d).1, (h1 dc).1]
   rfl
  ·rw [(h1 d).2, (h1 dc).2]
   rfl
 ·show imx 1 1 ≤ 3
  decide
 ·show 3 ≤ imn (dof dc [3, 3, 4]) (dof d [3, 3, 4])
  unfold imn
  split <;> omega
theorem QAf : ∀ (l : List ByteArray) (k : Nat) (d : Dice), (sndZ l k d).1.length = l.length
 | [], _, _ => rfl
 | _ :: r, k, d => by simp only [sndZ, List.length_cons, QAf r (k + 1) (sndD d)]
theorem QAg : ∀ (l : List ByteArray) (k : Nat) (d : Dice), (∀ s ∈ l, s ∈ sAll) → k + l.length ≤ 3 → ∀ e ∈ (sndZ l k d).1, sndP e
 | [], _, _, _, _, e, he => by cases he
 | s :: r, k, d, h, hk, e, he => by
  simp only [sndZ, List.mem_cons] at he
  simp only [List.length_cons] at hk
  rcases he with rfl | he
  ·exact ⟨d, k, s, rfl, h s List.mem_cons_self, by omega⟩
  ·exact QAg r (k + 1) (sndD d) (fun s hs => h s (List.mem_cons_of_mem _ hs)) (by omega) e he
theorem QGh (d : Dice) : ∀ s ∈ sndNm d, s ∈ sAll := by
 rcases Qig d with h | h <;> rw [h]
 ·exact fun s hs => List.mem_of_mem_take hs
 ·exact fun s hs => hs
theorem QGf (d : Dice) : ∀ e ∈ xEps (sndV d), sndP e := QAg (sndNm d) 0 (dnext d 2) (QGh d) (by have := Qi9 d; omega)
theorem QoI (d : Dice) : (xEps (sndV d)).length = (sndNm d).length := QAf _ _ _
theorem snd_up (d : Dice) : epUp (xEps (sndV d)) 0 = true := by
 have hv : ∀ d k s, s ∈ sAll → k < 3 → QaV (sndE d k s) = true := fun d k s hs hk => QuF ⟨d, k, s, rfl, hs, hk⟩
 have q1 : slt (ByteArray.mk #[97, 112, 112]) (ByteArray.mk #[100, 98]) = true := by kernel_rfl
 have q2 : slt (ByteArray.mk #[100, 98]) (ByteArray.mk #[119, 101, 98]) = true := by kernel_rfl
 show epUp2 (sndZ (sndNm d) 0 (dnext d 2)).1 (sndZ (sndNm d) 0 (dnext d 2)).1 0 = true
 rcases Qig d with h | h <;> rw [h]
 ·show (QaV (sndE _ 0 _) && true && (QaV (sndE _ 1 _) && (false || slt (ByteArray.mk #[97, 112, 112]) (ByteArray.mk #[100, 98])) && true)) = true
  rw [hv _ _ _ (by simp) (by decide), hv _ _ _ (by simp) (by decide), q1]
  rfl
 ·show (QaV (sndE _ 0 _) && true && (QaV (sndE _ 1 _) && (false || slt (ByteArray.mk #[97, 112, 112]) (ByteArray.mk #[100, 98])) && (QaV (sndE _ 2 _) && (false || slt (ByteArray.mk #[100, 98]) (ByteArray.mk #[119, 101, 98])) && true))) = true
  rw [hv _ _ _ (by simp) (by decide), hv _ _ _ (by simp) (by decide), hv _ _ _ (by simp) (by decide), q1, q2]
  rfl
def lexL (a b : Keep) : Prop := a.1 < b.1 ∨ (a.1 = b.1 ∧ a.2.1 < b.2.1)
def edG (n : Int) (l : List Keep) (i k : Int) : Prop := (∀ x ∈ l, egIn n x = true) ∧ l.Pairwise lexL ∧ ∀ x ∈ l, lexL x (i, (k, ()))
theorem QnP {n : Int} {l : List Keep} {i k i' k' : Int} (h : edG n l i k) (hl : i < i' ∨ (i = i' ∧ k ≤ k')) : edG n l i' k' := by
 refine ⟨h.1, h.2.1, fun x hx => ?_⟩
 have := h.2.2 x hx
 simp only [lexL] at this ⊢
 omega
theorem QnO {n : Int} : ∀ (m : Nat) (i k : Int) (l : List Keep) (d : Dice), 0 ≤ i → i < n → 0 ≤ k → k + m ≤ n → edG n l i k → edG n (edZ m i k l d).1 i (k + m)
 | 0, i, k, l, d, _, _, _, _, h => QnP h (.inr ⟨rfl, by omega⟩)
 | m + 1, i, k, l, d, h0, h1, h2, h3, h => by
  have hs : edG n l i (k + 1) := QnP h (.inr ⟨rfl, by omega⟩)
  have e : k + ((m + 1 : Nat) : Int) = k + 1 + m := by omega
  unfold edZ
  rw [e]
  cases hn : ine i k with
  | false => exact QnO m i (k + 1) l d h0 h1 (by omega) (by omega) hs
  | true =>
   cases h4 : (igt (dval d 3) 0 && ilt (llen l) 3) with
   | false => exact QnO m i (k + 1) l (dnext d 3) h0 h1 (by omega) (by omega) hs
   | true =>
    have hne : i ≠ k := by simpa [ine] using hn
    refine QnO m i (k + 1) (l ++ [(i, (k, ()))]) (dnext d 3) h0 h1 (by omega) (by omega) ⟨fun x hx => ?_, ?_, fun x hx => ?_⟩
    ·rcases List.mem_append.1 hx with hx | hx
     ·exact h.1 x hx
     ·rw [List.mem_singleton.1 hx]
      simp only [egIn, ilt, ige, Qbz, Bool.and_eq_true, Bool.not_eq_true', decide_eq_false_iff_not]
      exact ⟨by omega, by omega, by omega, by omega, hne⟩
    ·rw [List.pairwise_append]
     refine ⟨h.2.1, List.pairwise_singleton _ _, fun x hx y hy => ?_⟩
     rw [List.mem_singleton.1 hy]
     exact h.2.2 x hx
    ·rcases List.mem_append.1 hx with hx | hx
     ·exact hs.2.2 x hx
     ·rw [List.mem_singleton.1 hx]
      exact .inr ⟨rfl, by show k < k + 1; omega⟩
theorem QBZ {n : Int} : ∀ (m nn : Nat) (i : Int) (l : List Keep) (d : Dice), (nn : Int) ≤ n → 0 ≤ i → i + m ≤ n → edG n l i 0 → edG n (edY m nn i l d).1 (i + m) 0
 | 0, nn, i, l, d, _, _, _, h => QnP h (by omega)
 | m + 1, nn, i, l, d, hnn, h0, h1, h => by
  have := QnO nn i 0 l d h0 (by omega) (by omega) (by omega) h
  have e : i + ((m + 1 : Nat) : Int) = i + 1 + m := by omega
  unfold edY
  rw [e]
  exact QBZ m nn (i + 1) _ _ hnn (by omega) (by omega) (QnP this (.inl (by omega)))
theorem QLj {n i k : Int} {l : List Keep} (h : edG n l i k) : egUp n l 0 = true := by
 unfold egUp
 rw [List.all_eq_true]
 intro j hj
 have hj : j < l.length := by
  rw [List.mem_range'] at hj
  obtain ⟨a, ha, rfl⟩ := hj
  omega
 have at_ : ∀ q (hq : q < l.length), egAt l q = l[q] := fun q hq => by simp only [egAt, List.getD_eq_getElem?_getD, List.getElem?_eq_getElem hq, Option.getD_some]
 unfold egOk
 rw [at_ j hj, h.1 _ (List.getElem_mem hj), Bool.true_and]
 by_cases h0 : j = 0
 ·rw [decide_eq_true h0, Bool.true_or]
 ·rw [decide_eq_false h0, Bool.false_or, at_ (j - 1) (by omega)]
  have hp := List.pairwise_iff_getElem.1 h.2.1 (j - 1) j (by omega) hj (by omega)
  simp only [lexL] at hp
  simp only [egLt, igt, ige, Qbz, Bool.and_eq_true, Bool.not_eq_true', decide_eq_false_iff_not, Bool.and_eq_false_imp, decide_eq_true_eq]
  refine ⟨by omega, fun he => by omega⟩
theorem Qi8 (d : Dice) : egUp (llen (xEps (sndV d))) (xEdg (sndV d)) 0 = true ∧ (xEdg (sndV d)).length ≤ 3 ∧ 0 < (xEdg (sndV d)).length := by
 have hn := Qi9 d
 have hl : llen (xEps (sndV d)) = ((sndNm d).length : Int) := by rw [llen, QoI]
 rw [hl]
 show egUp _ (sndEg d) 0 = true ∧ (sndEg d).length ≤ 3 ∧ 0 < (sndEg d).length
 unfold sndEg
 cases hq : ieq (llen (sndEd d).1) 0 with
 | true =>
  refine ⟨?_, (show 1 ≤ 3 by decide), (show 0 < 1 by decide)⟩
  show egUp _ [(0, (1, ()))] 0 = true
  refine QLj (i := 5) (k := 5) ⟨fun x hx => ?_, List.pairwise_singleton _ _, fun x hx => ?_⟩ <;> rw [List.mem_singleton.1 hx]
  ·simp only [egIn, ilt, ige, Qbz, Bool.and_eq_true, Bool.not_eq_true', decide_eq_false_iff_not]
   exact ⟨by omega, by omega, by omega, by omega, by omega⟩
  ·exact .inl (by decide)
 | false =>
  have hy := QBZ (n := ((sndNm d).length : Int)) (sndNm d).length (sndNm d).length 0 [] (sndZ (sndNm d) 0 (dnext d 2)).2 (Int.le_refl _) (Int.le_refl _) (by omega) (⟨fun x hx => (nomatch hx), List.Pairwise.nil, fun x hx => (nomatch hx)⟩ : edG _ [] 0 0)
  refine ⟨QLj hy, ?_, ?_⟩
  ·have hp : ∀ (m : Nat) (i k : Int) (l : List Keep) (d : Dice), l.length ≤ 3 → (edZ m i k l d).1.length ≤ 3 := by
    intro m
    induction m with
    | zero => exact fun _ _ _ _ h => h
    | succ m ih =>
     intro i k l d h
     unfold edZ
     cases ine i k with
     | false => exact ih _ _ _ _ h
     | true =>
      cases h1 : igt (dval d 3) 0 with
      | false => exact ih _ _ _ _ h
      | true =>
       cases h2 : ilt (llen l) 3 with
       | false => exact ih _ _ _ _ h
       | true =>
        have := of_decide_eq_true h2
        simp only [llen] at this
        exact ih _ _ _ _ (by simp only [List.length_append, List.length_singleton]; omega)
   have hr : ∀ (m n : Nat) (i : Int) (l : List Keep) (d : Dice), l.length ≤ 3 → (edY m n i l d).1.length ≤ 3 := by
    intro m
    induction m with
    | zero => exact fun _ _ _ _ h => h
    | succ m ih => exact fun n i l d h => ih n (i + 1) _ _ (hp n i 0 l d h)
   exact hr _ _ _ [] _ (by decide)
  ·simp only [Qbz, llen, decide_eq_false_iff_not] at hq
   show 0 < (sndEd d).1.length
   omega
theorem QCL {d : Dice} : Qa6 (dwdG d sIt) = true := by
 have hv := Qbm (d := d) (n := 2) (by omega)
 unfold dwdG
 show Qa6 (sIt.getD (dval d 2).toNat ByteArray.empty) = true
 rcases (show dval d 2 = 0 ∨ dval d 2 = 1 by omega) with h | h <;> rw [h] <;> kernel_rfl
theorem QMW {d : Dice} : nameG (dwdG d sIt) = true := by
 have hv := Qbm (d := d) (n := 2) (by omega)
 unfold dwdG
 show nameG (sIt.getD (dval d 2).toNat ByteArray.empty) = true
 rcases (show dval d 2 = 0 ∨ dval d 2 = 1 by omega) with h | h <;> rw [h] <;> kernel_rfl
theorem QKi : ∀ (n : Nat) (d : Dice), (itZ n d).1.all Qet = true ∧ (itZ n d).1.all QeJ = true ∧ (itZ n d).1.length = n
 | 0, _ => ⟨rfl, rfl, rfl⟩
 | n + 1, d => by
  have := QKi n (itemN (dwdGN d sIt) (dwdG d sIt))
  simp only [itZ, List.all_cons, List.length_cons, this, Bool.and_true, and_true]
  exact ⟨QV2 _ QCL, QMW⟩
theorem QGd (d : Dice) : estOk (sndV d) = true ∧ QbC (sndV d) = true := by
 have hn := Qi9 d
 have h1 := snd_up d
 obtain ⟨h2, h3, h4⟩ := Qi8 d
 have hv3 := Qbm (d := (sndEd d).2) (n := 3) (by omega)
 have hi := QKi (dval (sndEd d).2 3).toNat (dnext (sndEd d).2 3)
 have hl : (xEps (sndV d)).length ≤ 3 := by rw [QoI]; omega
 have hx : xItm (sndV d) = (itZ (dval (sndEd d).2 3).toNat (dnext (sndEd d).2 3)).1 := rfl
 constructor
 ·unfold estOk
  rw [h1, h2, hx, hi.1, show ile (llen (xEps (sndV d))) 16 = true from decide_eq_true (by simp only [llen]; omega), show ile (llen (xEdg (sndV d))) 40 = true from decide_eq_true (by simp only [llen]; omega), show ile (llen (itZ (dval (sndEd d).2 3).toNat (dnext (sndEd d).2 3)).1) 30 = true from decide_eq_true (by simp only [llen]; omega)]
  rfl
 ·unfold QbC Qb5
  rw [hx, hi.2.1, decide_eq_true (show (xEps (sndV d)).length ≤ 99999 ∧ (xEdg (sndV d)).length ≤ 99999 by omega), decide_eq_true (show (itZ (dval (sndEd d).2 3).toNat (dnext (sndEd d).2 3)).1.length ≤ 100000 by omega), Bool.true_and, Bool.true_and, Bool.and_true]
  exact List.all_eq_true.2 fun e he => QGe (QGf d e he)
end Go.Proofs.YtckcgijklnloiaaGreat.K
namespace Go.Proofs.YtckcgijklnloiaaGreat.K
open Go.RowKit
noncomputable section
open Classical in
theorem QV3 {a b : Int} (ha : 0 ≤ a) (hb : 0 < b) : 0 ≤ irem a b ∧ irem a b < b := ⟨Int.tmod_nonneg b ha, Int.tmod_lt_of_pos a hb⟩
theorem QKw {a : Int} (h : -9223372036854775808 ≤ a ∧ a ≤ 9223372036854775807) : icv .i64 a = a := Go.IntWalk.i64_in _ h
theorem QDK {c s : Qab} {x : Keep} (hx : x ∈ QaY c s) : (QaW s x.2.1).2 = true := QyE (QDL hx).1
end
end Go.Proofs.YtckcgijklnloiaaGreat.K
