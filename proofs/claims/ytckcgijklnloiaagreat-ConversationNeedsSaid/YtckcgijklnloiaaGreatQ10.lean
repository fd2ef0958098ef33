import Derived.Test.YtckcgijklnloiaaGreatQ9
import Derived.Test.YtckcgijklnloiaaGreatQ8
set_option linter.unusedSimpArgs false
set_option linter.unusedVariables false
namespace Go.Proofs.YtckcgijklnloiaaGreat.K
open Go.RowKit
noncomputable section
def useL : List Keep := [(2, (0, ())), (1, (0, ())), (5, (2048, ())), (16, (128, ())), (3, (0, ())), (15, (168, ()))]
def linkZ : Nat → Int → Dice → List Link × Dice
 | 0, _, d => ([], d)
 | n + 1, day, d => ((lgt Qai useL (dval d 6).toNat, (day, ())) :: (linkZ n (iadd .i64 (iadd .i64 day 1) (dof (dnext d 6) [5, 30, 0, 100])) (dofN (dnext d 6) [5, 30, 0, 100])).1, (linkZ n (iadd .i64 (iadd .i64 day 1) (dof (dnext d 6) [5, 30, 0, 100])) (dofN (dnext d 6) [5, 30, 0, 100])).2)
def itD3 (d : Dice) : Dice := dnext (dnext (dnext (dnext d 2) 4) 20) 3
def itLk (d : Dice) : List Link × Dice := linkZ (iadd .i64 1 (dval (dnext (dnext (dnext d 2) 4) 20) 3)).toNat (dval (dnext (dnext d 2) 4) 20) (itD3 d)
def itemV (d : Dice) (s : ByteArray) : Item := (s, (iadd .i64 1 (dval d 2), (iadd .i64 1 (dval (dnext d 2) 4), ((itLk d).1, (iadd .i64 (lgt Qbu (itLk d).1 0).2.1 (dof (itLk d).2 [50, 300, 0, 3000]), ())))))
def itemN (d : Dice) (_s : ByteArray) : Dice := dofN (itLk d).2 [50, 300, 0, 3000]
def dOkS (d : Dice) (_s : ByteArray) : Bool := dOk d
theorem QN0 {n : Nat} : ∀ {day : Int} {d : Dice}, dOk d = true → dOk (linkZ n day d).2 = true := by
 induction n with
 | zero => exact fun h => h
 | succ n ih => exact fun h => ih (Qvv (l := [5, 30, 0, 100]) (QaH h))
theorem QAS {d : Dice} (h : dOk d = true) : dOk (itLk d).2 = true := QN0 (QaH (QaH (QaH (QaH h))))
theorem QN1 {d : Dice} {s : ByteArray} (h : dOk d = true) : dOk (itemN d s) = true := Qvv (QAS h)
theorem QsR : ∀ (n : Nat) (day : Int) (d : Dice), (linkZ n day d).1.length = n
 | 0, _, _ => rfl
 | n + 1, day, d => by simp only [linkZ, List.length_cons, QsR n]
theorem QBC : useL.all QbO = true := by kernel_rfl
theorem QTx {y : Ty} {l : List y.T} {i : Nat} (h : i < l.length) : lgt y l i ∈ l := by
 rw [Qay (y := y) h]
 exact List.getElem_mem h
theorem QQU {e : Dice} : 0 ≤ dof e [5, 30, 0, 100] ∧ dof e [5, 30, 0, 100] ≤ 100 := by
 have h := QyJ (d := e) (l := [5, 30, 0, 100]) (by decide)
 simp only [List.mem_cons, List.not_mem_nil, or_false] at h
 omega
theorem QzL : ∀ (n : Nat) (day : Int) (d : Dice) (pv : Option Int), n ≤ 3 → 0 ≤ day → day + 101 * n ≤ 1000 → (∀ e, pv = some e → e < day) → QhL pv (linkZ n day d).1 = true
 | 0, _, _, pv, _, _, _, _ => by cases pv <;> rfl
 | n + 1, day, d, pv, h1, h2, h3, h4 => by
  have hv := Qbp (d := d) (n := 6) (by omega)
  have hs := QQU (e := dnext d 6)
  have e1 : iadd .i64 (iadd .i64 day 1) (dof (dnext d 6) [5, 30, 0, 100]) = day + 1 + dof (dnext d 6) [5, 30, 0, 100] := by rw [Qbc (a := day) (b := 1) (by omega), Qbc (by omega)]
  unfold linkZ
  rw [Qpt, e1]
  have hu : QbO (lgt Qai useL (dval d 6).toNat) = true := List.all_eq_true.1 QBC _ (QTx (y := Qai) (by have : useL.length = 6 := rfl; omega))
  have hr := QzL n (day + 1 + dof (dnext d 6) [5, 30, 0, 100]) (dofN (dnext d 6) [5, 30, 0, 100]) (some day) (by omega) (by omega) (by omega) (fun e he => by injection he; omega)
  simp only [hu, hr, decide_eq_true (show 0 ≤ day ∧ day ≤ 40000 by omega), Bool.true_and, Bool.and_true]
  cases pv with
  | none => rfl
  | some e => exact decide_eq_true (h4 e rfl)
theorem QB7 : ∀ (n : Nat) (day : Int) (d : Dice), 0 < n → ((linkZ n day d).1.headD ((0, (0, ())), (0, ()))).2.1 = day
 | 0, _, _, h => by omega
 | n + 1, day, d, _ => rfl
theorem QM6 (d : Dice) : 1 ≤ (itLk d).1.length ∧ (itLk d).1.length ≤ 3 := by
 have b3 := Qbp (d := dnext (dnext (dnext d 2) 4) 20) (n := 3) (by omega)
 have e3 : iadd .i64 1 (dval (dnext (dnext (dnext d 2) 4) 20) 3) = 1 + dval (dnext (dnext (dnext d 2) 4) 20) 3 := Qbc (by omega)
 unfold itLk
 rw [QsR, e3]
 omega
theorem QTR (d : Dice) {s : ByteArray} (hs : Qa3 s = true) : Qen (itemV d s) = true := by
 have b2 := Qbp (d := d) (n := 2) (by omega)
 have b4 := Qbp (d := dnext d 2) (n := 4) (by omega)
 have b20 := Qbp (d := dnext (dnext d 2) 4) (n := 20) (by omega)
 have b3 := Qbp (d := dnext (dnext (dnext d 2) 4) 20) (n := 3) (by omega)
 have e2 : iadd .i64 1 (dval d 2) = 1 + dval d 2 := Qbc (by omega)
 have e4 : iadd .i64 1 (dval (dnext d 2) 4) = 1 + dval (dnext d 2) 4 := Qbc (by omega)
 have e3 : iadd .i64 1 (dval (dnext (dnext (dnext d 2) 4) 20) 3) = 1 + dval (dnext (dnext (dnext d 2) 4) 20) 3 := Qbc (by omega)
 have hl := QM6 d
 have hh : ((itLk d).1.headD ((0, (0, ())), (0, ()))).2.1 = dval (dnext (dnext d 2) 4) 20 := QB7 _ _ _ (by rw [e3]; omega)
 have e0 : lgt Qbu (itLk d).1 0 = (itLk d).1.headD ((0, (0, ())), (0, ())) := by
  cases hq : (itLk d).1 with
  | nil => rw [hq] at hl; simp at hl
  | cons a l => rfl
 have hu : 0 ≤ dof (itLk d).2 [50, 300, 0, 3000] ∧ dof (itLk d).2 [50, 300, 0, 3000] ≤ 3000 := by
  have h := QyJ (d := (itLk d).2) (l := [50, 300, 0, 3000]) (by decide)
  simp only [List.mem_cons, List.not_mem_nil, or_false] at h
  omega
 have eu : iadd .i64 (lgt Qbu (itLk d).1 0).2.1 (dof (itLk d).2 [50, 300, 0, 3000]) = (lgt Qbu (itLk d).1 0).2.1 + dof (itLk d).2 [50, 300, 0, 3000] := Qbc (by rw [e0, hh]; omega)
 refine Qa5.2 ⟨hs, ?_, ?_, ?_, ?_, ?_⟩
 ·show 1 ≤ iadd .i64 1 (dval d 2) ∧ iadd .i64 1 (dval d 2) ≤ 2
  omega
 ·show 1 ≤ iadd .i64 1 (dval (dnext d 2) 4) ∧ iadd .i64 1 (dval (dnext d 2) 4) ≤ 4
  omega
 ·show 1 ≤ (itLk d).1.length ∧ (itLk d).1.length ≤ 8
  omega
 ·exact QzL _ _ _ none (by rw [e3]; omega) (by omega) (by omega) (fun e he => by cases he)
 ·show ((itLk d).1.headD ((0, (0, ())), (0, ()))).2.1 ≤ iadd .i64 (lgt Qbu (itLk d).1 0).2.1 (dof (itLk d).2 [50, 300, 0, 3000]) ∧ iadd .i64 (lgt Qbu (itLk d).1 0).2.1 (dof (itLk d).2 [50, 300, 0, 3000]) ≤ 40000
  rw [eu, e0, hh]
  omega
noncomputable def QNS : List DO := dT Tryz.f37 9
def Qkb : Fg := ⟨[(0, none), (4, none), (5, none), (6, some tI), (7, some tI)], [(4, some QaT), (5, none), (43, none), (20503, none), (50000, some QaJ)]⟩
noncomputable def Ql1 : TC := (.sq (.sq (.reg (rT Tryz.f37 4)) (.cd (.t 23) .sk (.fg ⟨[(0, none), (4, none), (5, none)], [(4, some QaT), (5, some QaT), (43, none), (20503, none), (50000, some QaJ)]⟩ (.ex 0)))) (.sq (.bk 1 (.sq (.reg (rT Tryz.f37 5)) (.sq (.reg (rT Tryz.f37 6)) (.reg (rT Tryz.f37 7))))) (.reg (rT Tryz.f37 8))))
noncomputable def QDv : TC := (.sq (.reg (rT Tryz.f37 0)) (.sq (.reg (rT Tryz.f37 1)) (.sq (.reg (rT Tryz.f37 2)) (.sq (.sq (.reg (rT Tryz.f37 3)) (.bk 0 (.nf 5 3 128 20503 (.lp 0 Qkb Ql1)))) (.sq (.dr QNS [(0, [5, 43, 20503]), (1, [5, 43, 20503]), (2, [43, 20503]), (3, [43, 20503]), (4, [43, 20503]), (5, [50000]), (6, []), (7, [58, 5058, 10058, 15058, 50000]), (8, []), (9, [5, 43, 20503]), (10, [4, 5, 43, 20503])] (.of [0, 1, 2, 3, 4, 5, 6, 7, 8, 9, 10])) (.sq (.reg (rT Tryz.f37 10)) .rt))))))
def QP1 : List (RV × Option Ty) := [((.c 4 true 5), some QaT)]
abbrev QrH : Sh := ⟨[(0, .ptr 50000 0), (4, .ptr 4 0), (5, .ptr 5 0), (6, .ty tI), (7, .ty tI)], [(4, .box QaT), (5, .bag [.ty .str, .ty tI, .ty tI, .ms 20503, .ty tI]), (43, .no), (20503, .arr 128 Qbu), (50000, .box QaJ)]⟩
def Qrm (x6 x7 : Int) (y4 : Item) (y5_0 : ByteArray) (y5_1 y5_2 y5_4 : Int) (y20503 : List Link) (y50000 : Dice) : VS := QrH.st ((), (), (), x6, x7, ()) (y4, (y5_0, y5_1, y5_2, (), y5_4, ()), (), y20503, y50000, ())
abbrev Qxi : Sh := ⟨[(0, .ptr 50000 0), (4, .ptr 4 0), (5, .ptr 5 0)], [(4, .box QaT), (5, .bag [.ty .str, .ty tI, .ty tI, .ms 20503, .ty tI]), (43, .no), (20503, .arr 128 Qbu), (50000, .box QaJ)]⟩
def Qe4 (y4 : Item) (y5_0 : ByteArray) (y5_1 y5_2 y5_4 : Int) (y20503 : List Link) (y50000 : Dice) : VS := Qxi.st ((), (), (), ()) (y4, (y5_0, y5_1, y5_2, (), y5_4, ()), (), y20503, y50000, ())
def QWi : VS → Option (Bool × List (Bool × Exit × VS)) := mkL QrH (fun x y => (dOk y.2.2.2.2.1 && decide (0 ≤ x.2.2.2.2.1 ∧ x.2.2.2.2.1 ≤ 100 ∧ y.2.2.2.1.length + x.2.2.2.2.1.toNat ≤ 1000))) (fun x y => [(true, .exit 0, Qe4 (y.1) (y.2.1.1) (y.2.1.2.1) (y.2.1.2.2.1) (y.2.1.2.2.2.2.1) (y.2.2.2.1 ++ (linkZ x.2.2.2.2.1.toNat x.2.2.2.1 y.2.2.2.2.1).1) ((linkZ x.2.2.2.2.1.toNat x.2.2.2.1 y.2.2.2.2.1).2))])
def g_f37 : G := ⟨TYs, [], 62, EL [(35, QqF), (45, QDN)], keeps, (Ls [QWi]), IL [], RL []⟩
def QK2 (x6 x7 : Int) (y4 : Item) (y5_0 : ByteArray) (y5_1 y5_2 y5_4 : Int) (y20503 : List Link) (y50000 : Dice) : Option (Exit × VS) :=
 let a1 := (lgt Qai ([(2, (0, ())), (1, (0, ())), (5, (2048, ())), (16, (128, ())), (3, (0, ())), (15, (168, ()))]) (Int.toNat (dval y50000 6)))
 let a2 := ((a1.1, ((a1.2).1, ())), (x6, ()))
 let a3 := dnext y50000 6
 br (igt x7 0) (br (QaQ y50000 6) (br (cIx ([(2, (0, ())), (1, (0, ())), (5, (2048, ())), (16, (128, ())), (3, (0, ())), (15, (168, ()))]) (dval y50000 6)) (br (cApp y20503 ([a2]) 24) (br (ofOk a3 ([5, 30, 0, 100])) (some (.normal, Qrm (iadd .i64 (iadd .i64 x6 1) (dof a3 ([5, 30, 0, 100]))) (isub .i64 x7 1) y4 y5_0 y5_1 y5_2 y5_4 (y20503 ++ ([a2])) (dofN a3 ([5, 30, 0, 100])))) none) none) none) none) (some (.exit 0, Qe4 y4 y5_0 y5_1 y5_2 y5_4 y20503 y50000))
noncomputable def QsK (x6 x7 : Int) (y4 : Item) (y5_0 : ByteArray) (y5_1 y5_2 y5_4 : Int) (y20503 : List Link) (y50000 : Dice) : Option (Exit × VS) := loopF (Qak g_f37 Qkb Ql1) (Qrm x6 x7 y4 y5_0 y5_1 y5_2 y5_4 y20503 y50000)
noncomputable def QsA (x6 x7 : Int) (y4 : Item) (y5_0 : ByteArray) (y5_1 y5_2 y5_4 : Int) (y20503 : List Link) (y50000 : Dice) : Option (Exit × VS) :=
 let a1 := (lgt Qai ([(2, (0, ())), (1, (0, ())), (5, (2048, ())), (16, (128, ())), (3, (0, ())), (15, (168, ()))]) (Int.toNat (dval y50000 6)))
 let a2 := ((a1.1, ((a1.2).1, ())), (x6, ()))
 let a3 := dnext y50000 6
 br (igt x7 0) (br (QaQ y50000 6) (br (cIx ([(2, (0, ())), (1, (0, ())), (5, (2048, ())), (16, (128, ())), (3, (0, ())), (15, (168, ()))]) (dval y50000 6)) (br (cApp y20503 ([a2]) 24) (br (ofOk a3 ([5, 30, 0, 100])) (QsK (iadd .i64 (iadd .i64 x6 1) (dof a3 ([5, 30, 0, 100]))) (isub .i64 x7 1) y4 y5_0 y5_1 y5_2 y5_4 (y20503 ++ ([a2])) (dofN a3 ([5, 30, 0, 100]))) none) none) none) none) (some (.exit 0, Qe4 y4 y5_0 y5_1 y5_2 y5_4 y20503 y50000))
def Qjz (x6 x7 : Int) (y4 : Item) (y5_0 : ByteArray) (y5_1 y5_2 y5_4 : Int) (y20503 : List Link) (y50000 : Dice) : Option (Exit × VS) :=
 let a1 := linkZ x7.toNat x6 y50000
 some (.exit 0, Qe4 (y4) (y5_0) (y5_1) (y5_2) (y5_4) (y20503 ++ a1.1) (a1.2))
theorem QOe (x6 x7 : Int) (y4 : Item) (y5_0 : ByteArray) (y5_1 y5_2 y5_4 : Int) (y20503 : List Link) (y50000 : Dice) : Qak g_f37 Qkb Ql1 (Qrm x6 x7 y4 y5_0 y5_1 y5_2 y5_4 y20503 y50000) = QK2 x6 x7 y4 y5_0 y5_1 y5_2 y5_4 y20503 y50000 := by kernel_rfl
theorem QzE (x6 x7 : Int) (y4 : Item) (y5_0 : ByteArray) (y5_1 y5_2 y5_4 : Int) (y20503 : List Link) (y50000 : Dice) : QsK x6 x7 y4 y5_0 y5_1 y5_2 y5_4 y20503 y50000 = QsA x6 x7 y4 y5_0 y5_1 y5_2 y5_4 y20503 y50000 := (Qan _ _).trans (by
 rw [QOe]
 simp only [QK2, QsA, Qax, nxt_n, nxt_r, nxt_e, nxt_0]
 rfl)
def r_f37 (d0 : Dice) (p1 : ByteArray) : Option (V × List VO) :=
 let a2 := dnext (dnext (dnext d0 2) 4) 20
 let a3 := iadd .i64 1 (dval a2 3)
 let a1 := linkZ a3.toNat (dval (dnext (dnext d0 2) 4) 20) (dnext a2 3)
 br (QaQ d0 2) (br (QaQ (dnext d0 2) 4) (br (QaQ (dnext (dnext d0 2) 4) 20) (br (QaQ a2 3) (br (dOk (dnext a2 3) && decide (0 ≤ a3 ∧ a3 ≤ 100 ∧ ([] : List Link).length + a3.toNat ≤ 1000)) (br (cIx (([] : List Link) ++ a1.1) 0) (br (cLd (([] : List Link) ++ a1.1) (Int.toNat 0)) (br (ofOk (a1.2) ([50, 300, 0, 3000])) (some (.t QaT ((p1), ((iadd .i64 1 (dval d0 2)), ((iadd .i64 1 (dval (dnext d0 2) 4)), ((([] : List Link) ++ a1.1), ((iadd .i64 (((lgt Qbu (([] : List Link) ++ a1.1) (Int.toNat 0)).2).1) (dof (a1.2) ([50, 300, 0, 3000]))), ()))))), [.box (.t QaJ (dofN (a1.2) ([50, 300, 0, 3000])))])) none) none) none) none) none) none) none) none
theorem e_f37 (d0 : Dice) (p1 : ByteArray) : runF g_f37 QDv QP1 false [.ptr 50000 0, .t .str p1] [.box (.t QaJ d0)] = r_f37 d0 p1 := by kernel_rfl
theorem en_f37 : Qah Tryz.prog 37 := .inr ⟨by decide, _, Tryz.func37, by kernel_rfl, by kernel_rfl⟩
theorem gk_f37 : GOk Tryz.prog g_f37 := Qal _ (gA (gC Qvp QuE (gC QQF QQt gN)))
theorem QTH (x6 x7 : Int) (y4 : Item) (y5_0 : ByteArray) (y5_1 y5_2 y5_4 : Int) (y20503 : List Link) (y50000 : Dice) (h : (dOk y50000 && decide (0 ≤ x7 ∧ x7 ≤ 100 ∧ y20503.length + x7.toNat ≤ 1000)) = true) : QsK x6 x7 y4 y5_0 y5_1 y5_2 y5_4 y20503 y50000 = Qjz x6 x7 y4 y5_0 y5_1 y5_2 y5_4 y20503 y50000 := by
 simp only [Bool.and_eq_true, decide_eq_true_eq] at h
 obtain ⟨hd, h1, h2q, h3⟩ := h
 obtain ⟨k, rfl⟩ := Int.eq_ofNat_of_zero_le h1
 rw [Int.toNat_natCast] at h3
 have h2 : k ≤ 100 := by omega
 clear h1 h2q
 induction k generalizing y20503 y50000 x6 with
 | zero =>
  rw [QzE]
  have e1 : igt ((0 : Nat) : Int) 0 = false := rfl
  simp only [QsA, e1, Qaf, Qjz, Int.toNat_natCast, linkZ, List.append_nil]
 | succ k ih =>
  rw [QzE]
  have e1 : igt ((k + 1 : Nat) : Int) 0 = true := by simp only [igt, decide_eq_true_eq]; omega
  have e2 : isub .i64 ((k + 1 : Nat) : Int) 1 = (k : Int) := by rw [Qch (by omega)]; omega
  have hv := Qbp (d := y50000) (n := 6) (by omega)
  have hc : cIx useL (dval y50000 6) = true := by
   have : useL.length = 6 := rfl
   simp only [cIx, decide_eq_true_eq]
   omega
  have hla : Qjz x6 ((k + 1 : Nat) : Int) y4 y5_0 y5_1 y5_2 y5_4 y20503 y50000 = Qjz (iadd .i64 (iadd .i64 x6 1) (dof (dnext y50000 6) [5, 30, 0, 100])) (k : Int) y4 y5_0 y5_1 y5_2 y5_4 (y20503 ++ [(lgt Qai useL (dval y50000 6).toNat, (x6, ()))]) (dofN (dnext y50000 6) [5, 30, 0, 100]) := by
   simp only [Qjz, Int.toNat_natCast, linkZ, List.append_assoc]
   rfl
  rw [hla, ← ih _ _ _ (Qvv (QaH hd)) (by simp; omega) (by omega)]
  have n6 : QaQ y50000 6 = true := by simp [QaQ, hd]
  have f1 : ofOk (dnext y50000 6) [5, 30, 0, 100] = true := by simp [ofOk, QaH hd]
  simp only [QsA, e1, e2, n6, f1, Qac, show ([(2, (0, ())), (1, (0, ())), (5, (2048, ())), (16, (128, ())), (3, (0, ())), (15, (168, ()))] : List Keep) = useL from rfl, hc]
  rw [QV1 (by simp; omega) (by omega), Qac]
  show br (cIx useL (dval y50000 6)) _ _ = _
  rw [hc, Qac]
theorem QMl : ∀ S l p, g_f37.L 0 (fgt Qkb S) = some (true, l) → pickA l = some p → loopF (Qak g_f37 Qkb Ql1) S = some p :=
 QaD (s := QrH) ⟨by decide, by decide⟩ (by kernel_rfl) fun x y hok p hp => by
 simp only [Qap, Qam] at hp
 exact (QTH x.2.2.2.1 x.2.2.2.2.1 y.1 y.2.1.1 y.2.1.2.1 y.2.1.2.2.1 y.2.1.2.2.2.2.1 y.2.2.2.1 y.2.2.2.2.1 (by simpa using hok)).trans hp
theorem lk_f37 : QDv.lok g_f37 := by
 repeat (first | exact trivial | exact QMl | refine ⟨?_, ?_⟩)
theorem s_f37 (d : Dice) (s : ByteArray) (h : dOkS d s = true) : r_f37 d s = some (.t QaT (itemV d s), [.box (.t QaJ (itemN d s))]) := by
 have h : dOk d = true := h
 have n2 : QaQ d 2 = true := by simp [QaQ, h]
 have n4 : QaQ (dnext d 2) 4 = true := by simp [QaQ, QaH h]
 have n20 : QaQ (dnext (dnext d 2) 4) 20 = true := by simp [QaQ, QaH (QaH h)]
 have n3 : QaQ (dnext (dnext (dnext d 2) 4) 20) 3 = true := by simp [QaQ, QaH (QaH (QaH h))]
 have b3 := Qbp (d := dnext (dnext (dnext d 2) 4) 20) (n := 3) (by omega)
 have e3 : iadd .i64 1 (dval (dnext (dnext (dnext d 2) 4) 20) 3) = 1 + dval (dnext (dnext (dnext d 2) 4) 20) 3 := Qbc (by omega)
 have hl := QsR (iadd .i64 1 (dval (dnext (dnext (dnext d 2) 4) 20) 3)).toNat (dval (dnext (dnext d 2) 4) 20) (itD3 d)
 have hd3 : dOk (itD3 d) = true := QaH (QaH (QaH (QaH h)))
 have hL : dOk (itLk d).2 = true := QAS h
 have f5 : ofOk (itLk d).2 [50, 300, 0, 3000] = true := by simp [ofOk, hL]
 have hlen : 0 < (itLk d).1.length := by
  show 0 < (linkZ _ _ _).1.length
  rw [hl]
  omega
 have c1 : cIx (itLk d).1 0 = true := by simp only [cIx, decide_eq_true_eq]; omega
 have c2 : cLd (itLk d).1 (Int.toNat 0) = true := by simp only [cLd, decide_eq_true_eq]; exact hlen
 simp only [r_f37, n2, n4, n20, n3, Qac, List.nil_append, show dnext (dnext (dnext (dnext d 2) 4) 20) 3 = itD3 d from rfl, hd3, Bool.true_and]
 rw [Qm9 ⟨by omega, by omega, by simp; omega⟩, Qac]
 simp only [show linkZ (iadd .i64 1 (dval (dnext (dnext (dnext d 2) 4) 20) 3)).toNat (dval (dnext (dnext d 2) 4) 20) (itD3 d) = itLk d from rfl, c1, c2, f5, Qac]
 rfl
def QPl : Ent := specP QaJ (.pr .str .nil) (fun d x => (dOkS d x.1)) (fun d x => (.t QaT (itemV d x.1))) (fun d x => (itemN d x.1))
theorem ms_f37 : Meets Tryz.prog 37 (strip QPl) := Qcv (R := runF g_f37 QDv QP1 false) (mG Tryz.func37 (by kernel_rfl) Tryz.ntmps37 (by kernel_rfl) gk_f37 lk_f37) rfl fun d x hok => (e_f37 d x.1).trans (s_f37 d x.1 hok)
noncomputable def QNV : List DO := [(.mk (oV 16 0) []), (.mk (oV 17 5) []), (.mk (oP 18 (.ix 2 (.t 16) (.t 17))) [0, 1]), (.mk (oM 19 (.ld true 2 (.t 18))) [2]), (.mk (oV 20 1) []), (.mk (oV 21 5) []), (.mk (oP 22 (.ix 2 (.t 20) (.t 21))) [4, 5]), (.mk (oM 23 (.ld true 2 (.t 22))) [6]), (.mk (oP 24 (.eqs true [0, 0] (.t 19) (.t 23))) [3, 7])]
def QAF : Fg := ⟨[(0, some (.sl Qai)), (1, some (.sl Qai)), (12, some tI), (13, some tI)], []⟩
noncomputable def Qy2 : TC := (.sq (.reg [(oP 14 (.bin false .lss (.t 13) (.t 12)))]) (.sq (.cd (.t 14) .sk (.fg ⟨[], []⟩ (.ex 0))) (.sq (.bk 1 (.sq (.reg [(oV 15 13), (oV 5 15)]) (.sq (.dr QNV [(0, []), (1, []), (2, []), (3, []), (4, []), (5, []), (6, []), (7, []), (8, [])] (.of [0, 1, 2, 3, 4, 5, 6, 7, 8])) (.cd (.t 24) (.sq (.reg [(oP 4 (.mv (cB false)))]) (.fg ⟨[(4, some .bool)], []⟩ .rt)) .sk)))) (.reg [(oP 25 (.bin false .add (.t 13) (cI 1))), (oV 13 25)]))))
abbrev Qzc : Sh := ⟨[(0, .ty (.sl Qai)), (1, .ty (.sl Qai)), (12, .ty tI), (13, .ty tI)], []⟩
def Qrn (x0 x1 : List Keep) (x12 x13 : Int) : VS := Qzc.st (x0, x1, x12, x13, ()) ()
abbrev QtO : Sh := ⟨[(4, .ty .bool)], []⟩
def QdJ (x4 : Bool) : VS := QtO.st (x4, ()) ()
abbrev Qxj : Sh := ⟨[], []⟩
def Qe6  : VS := Qxj.st () ()
def QWj : VS → Option (Bool × List (Bool × Exit × VS)) := mkL Qzc (fun x y => (decide (0 ≤ x.2.2.2.1 ∧ x.2.2.2.1 ≤ x.1.length ∧ x.1.length = x.2.1.length ∧ x.2.2.1 = x.1.length ∧ x.1.length ≤ 100000))) (fun x y => [((!(x.1.drop x.2.2.2.1.toNat == x.2.1.drop x.2.2.2.1.toNat)), .ret, QdJ (false)), (true, .exit 0, Qe6)])
def g_f22 : G := ⟨TYs, [], 26, EL [], keeps, (Ls [QWj]), IL [], RL []⟩
def QK3 (x0 x1 : List Keep) (x12 x13 : Int) : Option (Exit × VS) :=
 let a1 := Int.toNat x13
 br (ilt x13 x12) (br (cIx x0 x13) (br (cIx x1 x13) (br (!(and (ieq ((lgt Qai x0 a1).1) ((lgt Qai x1 a1).1)) (and (ieq (((lgt Qai x0 a1).2).1) (((lgt Qai x1 a1).2).1)) true))) (some (.ret, QdJ false)) (some (.normal, Qrn x0 x1 x12 (iadd .i64 x13 1)))) none) none) (some (.exit 0, Qe6))
noncomputable def QmM (x0 x1 : List Keep) (x12 x13 : Int) : Option (Exit × VS) := loopF (Qak g_f22 QAF Qy2) (Qrn x0 x1 x12 x13)
noncomputable def QsB (x0 x1 : List Keep) (x12 x13 : Int) : Option (Exit × VS) :=
 let a1 := Int.toNat x13
 br (ilt x13 x12) (br (cIx x0 x13) (br (cIx x1 x13) (br (!(and (ieq ((lgt Qai x0 a1).1) ((lgt Qai x1 a1).1)) (and (ieq (((lgt Qai x0 a1).2).1) (((lgt Qai x1 a1).2).1)) true))) (some (.ret, QdJ false)) (QmM x0 x1 x12 (iadd .i64 x13 1))) none) none) (some (.exit 0, Qe6))
def QmU (x0 x1 : List Keep) (x12 x13 : Int) : Option (Exit × VS) := br (!(x0.drop x13.toNat == x1.drop x13.toNat)) (some (.ret, QdJ (false))) <| some (.exit 0, Qe6)
theorem QOf (x0 x1 : List Keep) (x12 x13 : Int) : Qak g_f22 QAF Qy2 (Qrn x0 x1 x12 x13) = QK3 x0 x1 x12 x13 := by kernel_rfl
theorem QzF (x0 x1 : List Keep) (x12 x13 : Int) : QmM x0 x1 x12 x13 = QsB x0 x1 x12 x13 := (Qan _ _).trans (by
 rw [QOf]
 simp only [QK3, QsB, Qax, nxt_n, nxt_r, nxt_e, nxt_0]
 rfl)
theorem l_f22_0 (x0 x1 : List Keep) (x12 x13 : Int) (h : (decide (0 ≤ x13 ∧ x13 ≤ x0.length ∧ x0.length = x1.length ∧ x12 = x0.length ∧ x0.length ≤ 100000)) = true) : QmM x0 x1 x12 x13 = QmU x0 x1 x12 x13 := by
 simp only [decide_eq_true_eq] at h
 obtain ⟨h0, h1, h2, rfl, h3⟩ := h
 obtain ⟨k, rfl⟩ := Int.eq_ofNat_of_zero_le h0
 refine Qat x0 (fun k => QmM x0 x1 (x0.length : Int) (k : Int) = QmU x0 x1 (x0.length : Int) (k : Int)) ?_ ?_ k (by omega)
 ·rw [QzF]
  simp only [QsB, QmU, Qar, Nat.lt_irrefl, decide_false, Qaf, Int.toNat_natCast, List.drop_length]
  rw [h2, List.drop_length]
  rfl
 ·intro k hk ih
  rw [QzF]
  have hk2 : k < x1.length := by omega
  have hq : (and (ieq x0[k].1 x1[k].1) (and (ieq x0[k].2.1 x1[k].2.1) true)) = (x0[k] == x1[k]) := rfl
  simp only [QsB, Qar, Qau, hk, hk2, decide_true, Qac, Int.toNat_natCast, add1 (show k < 4611686018427387904 by omega), Qay (y := Qai) hk, Qay (y := Qai) hk2, ih]
  rw [hq]
  simp only [QmU, Int.toNat_natCast, List.drop_eq_getElem_cons hk, List.drop_eq_getElem_cons hk2, List.cons_beq_cons]
  cases x0[k] == x1[k] <;> rfl
def Qkg : Fg := ⟨[(1, some tI), (7, some (.sl tI)), (8, some tI), (9, some tI)], []⟩
noncomputable def Ql7 : TC := (.sq (.reg (rT Tryz.f16 2)) (.sq (.cd (.t 10) .sk (.fg ⟨[], []⟩ (.ex 0))) (.sq (.bk 1 (.sq (.reg (rT Tryz.f16 3)) (.sq (.reg (rT Tryz.f16 4)) (.cd (.t 15) (.sq (.reg (rT Tryz.f16 5)) (.fg ⟨[(4, some .bool)], []⟩ .rt)) .sk)))) (.reg (rT Tryz.f16 6)))))
noncomputable def QDz : TC := (.sq (.reg (rT Tryz.f16 0)) (.sq (.sq (.reg (rT Tryz.f16 1)) (.bk 0 (.lp 0 Qkg Ql7))) (.sq (.reg (rT Tryz.f16 7)) .rt)))
def QP5 : List (RV × Option Ty) := [((.t 4), some .bool)]
abbrev QrQ : Sh := ⟨[(1, .ty tI), (7, .ty (.sl tI)), (8, .ty tI), (9, .ty tI)], []⟩
def Qrq (x1 : Int) (x7 : List Int) (x8 x9 : Int) : VS := QrQ.st (x1, x7, x8, x9, ()) ()
abbrev Qt1 : Sh := ⟨[(4, .ty .bool)], []⟩
def QdU (x4 : Bool) : VS := Qt1.st (x4, ()) ()
abbrev Qxo : Sh := ⟨[], []⟩
def Qfb  : VS := Qxo.st () ()
def QWo : VS → Option (Bool × List (Bool × Exit × VS)) := mkL QrQ (fun x y => (rngOk x.2.1 x.2.2.1 x.2.2.2.1)) (fun x y => [((hasF (x.2.1.drop x.2.2.2.1.toNat) x.1), .ret, QdU (true)), (true, .exit 0, Qfb)])
def g_f16 : G := ⟨TYs, [], 17, EL [], keeps, (Ls [QWo]), IL [], RL []⟩
def QK8 (x1 : Int) (x7 : List Int) (x8 x9 : Int) : Option (Exit × VS) := br (ilt x9 x8) (br (cIx x7 x9) (br (ieq (lgt tI x7 (Int.toNat x9)) x1) (some (.ret, QdU true)) (some (.normal, Qrq x1 x7 x8 (iadd .i64 x9 1)))) none) (some (.exit 0, Qfb))
noncomputable def QmP (x1 : Int) (x7 : List Int) (x8 x9 : Int) : Option (Exit × VS) := loopF (Qak g_f16 Qkg Ql7) (Qrq x1 x7 x8 x9)
noncomputable def QsH (x1 : Int) (x7 : List Int) (x8 x9 : Int) : Option (Exit × VS) := br (ilt x9 x8) (br (cIx x7 x9) (br (ieq (lgt tI x7 (Int.toNat x9)) x1) (some (.ret, QdU true)) (QmP x1 x7 x8 (iadd .i64 x9 1))) none) (some (.exit 0, Qfb))
def QmX (x1 : Int) (x7 : List Int) (x8 x9 : Int) : Option (Exit × VS) := br (hasF (x7.drop x9.toNat) x1) (some (.ret, QdU (true))) <| some (.exit 0, Qfb)
theorem QOl (x1 : Int) (x7 : List Int) (x8 x9 : Int) : Qak g_f16 Qkg Ql7 (Qrq x1 x7 x8 x9) = QK8 x1 x7 x8 x9 := by kernel_rfl
theorem QzK (x1 : Int) (x7 : List Int) (x8 x9 : Int) : QmP x1 x7 x8 x9 = QsH x1 x7 x8 x9 := (Qan _ _).trans (by
 rw [QOl]
 simp only [QK8, QsH, Qax, nxt_n, nxt_r, nxt_e, nxt_0]
 rfl)
def r_f16 (p0 : List Int) (p1 : Int) : Option (V × List VO) := br (rngOk p0 (llen p0) (0 : Int)) (br (hasF (p0.drop (0 : Int).toNat) p1) (some (.t .bool (true), [])) (some (.t .bool false, []))) none
theorem e_f16 (p0 : List Int) (p1 : Int) : runF g_f16 QDz QP5 false [.t (.sl tI) p0, .t tI p1] [] = r_f16 p0 p1 := by kernel_rfl
theorem en_f16 : Qah Tryz.prog 16 := .inr ⟨by decide, _, Tryz.func16, by kernel_rfl, by kernel_rfl⟩
theorem gk_f16 : GOk Tryz.prog g_f16 := Qal _ (fun p hp => by cases hp)
theorem QTN (x1 : Int) (x7 : List Int) (x8 x9 : Int) (h : (rngOk x7 x8 x9) = true) : QmP x1 x7 x8 x9 = QmX x1 x7 x8 x9 := by
 obtain ⟨rfl, h3, k, rfl, hk⟩ := rng_k h
 clear h
 refine Qat x7 (fun k => QmP x1 x7 (x7.length : Int) (k : Int) = QmX x1 x7 (x7.length : Int) (k : Int)) ?_ ?_ k hk
 ·rw [QzK]
  simp only [QsH, QmX, Qar, Nat.lt_irrefl, decide_false, Qaf, Int.toNat_natCast, List.drop_length]
  rfl
 ·intro k hk ih
  rw [QzK]
  simp only [QsH, Qar, Qau, hk, decide_true, Qac, Int.toNat_natCast, add1 (show k < 4611686018427387904 by omega), ih, Qay (y := tI) hk]
  simp only [QmX, Int.toNat_natCast, List.drop_eq_getElem_cons hk]
  have e : hasF (x7[k] :: x7.drop (k + 1)) x1 = (ieq x7[k] x1 || hasF (x7.drop (k + 1)) x1) := by
   unfold hasF
   rw [List.contains_cons]
   congr 1
   simp only [ieq, BEq.comm]
  rw [e]
  cases ieq x7[k] x1 <;> rfl
theorem QMr : ∀ S l p, g_f16.L 0 (fgt Qkg S) = some (true, l) → pickA l = some p → loopF (Qak g_f16 Qkg Ql7) S = some p :=
 QaD (s := QrQ) ⟨by decide, by decide⟩ (by kernel_rfl) fun x y hok p hp => by
 simp only [Qap, Qam] at hp
 exact (QTN x.1 x.2.1 x.2.2.1 x.2.2.2.1 (by simpa using hok)).trans hp
theorem lk_f16 : QDz.lok g_f16 := by
 repeat (first | exact trivial | exact QMr | refine ⟨?_, ?_⟩)
theorem s_f16 (l : List Int) (n : Int) (h : QaY l n = true) : r_f16 l n = some (.t .bool (hasF l n), []) := by
 have hl : l.length ≤ 100000 := of_decide_eq_true h
 simp only [r_f16, rng_0 hl, Qac, Int.toNat_zero, List.drop_zero]
 cases hasF l n <;> rfl
def QPn : Ent := spec (.pr (.sl tI) (.pr tI .nil)) (fun x => (QaY x.1 x.2.1)) (fun x => (.t .bool (hasF x.1 x.2.1)))
theorem ms_f16 : Meets Tryz.prog 16 (strip QPn) := Qag (R := runF g_f16 QDz QP5 false) (mG Tryz.func16 (by kernel_rfl) Tryz.ntmps16 (by kernel_rfl) gk_f16 lk_f16) fun x hok => (e_f16 x.1 x.2.1).trans (s_f16 x.1 x.2.1 hok)
def rsaK : Keep := (5, (2048, ()))
noncomputable def QDk : TC := (.sq (.reg (rT Tryz.f48 0)) (.sq (.reg (rT Tryz.f48 1)) .rt))
def QPQ : List (RV × Option Ty) := [((.c 0 true 2), some Qai)]
def g_f48 : G := ⟨TYs, [], 2, EL [], keeps, (fun _ _ => none), IL [], RL []⟩
def r_f48  : Option (V × List VO) := some (.t Qai (5, (2048, ())), [])
theorem e_f48  : runF g_f48 QDk QPQ false [] [] = r_f48  := by kernel_rfl
theorem en_f48 : Qah Tryz.prog 48 := .inr ⟨by decide, _, Tryz.func48, by kernel_rfl, by kernel_rfl⟩
theorem gk_f48 : GOk Tryz.prog g_f48 := Qal _ (fun p hp => by cases hp)
theorem lk_f48 : QDk.lok g_f48 := by repeat (first | exact trivial | refine ⟨?_, ?_⟩)
theorem s_f48 : r_f48 = some (.t Qai rsaK, []) := rfl
def QPe : Ent := spec .nil (fun x => true) (fun x => (.t Qai rsaK))
theorem ms_f48 : Meets Tryz.prog 48 (strip QPe) := Qag (R := runF g_f48 QDk QPQ false) (mG Tryz.func48 (by kernel_rfl) Tryz.ntmps48 (by kernel_rfl) gk_f48 lk_f48) fun x _ => (e_f48 ).trans (s_f48 )
def leafC (nm : ByteArray) (k : Keep) (id to : Int) : Qaa := (id, (sRoot, (nm, (k, (id, ((3, (0, ())), (0, (to, (false, (0, ([nm], ((0, (0, ())), ()))))))))))))
def leafV (nm : ByteArray) (k : Keep) (id a to : Int) : QaA := (k, (id, ([(signC (leafC nm k id to) a).1], ())))
def QqX (nm : ByteArray) (_k : Keep) (_id _a _to : Int) : Bool := decide (nm.size ≤ 1000)
noncomputable def QDl : TC := (.sq (.reg (rT Tryz.f47 0)) (.sq (.reg (rT Tryz.f47 1)) (.sq (.reg (rT Tryz.f47 2)) (.sq (.reg (rT Tryz.f47 3)) .rt))))
def QPR : List (RV × Option Ty) := [((.c 10 true 4), some Qav)]
def g_f47 : G := ⟨TYs, [], 32, EL [(84, QO4)], keeps, (fun _ _ => none), IL [], RL []⟩
def r_f47 (p0 : ByteArray) (p1 : Keep) (p2 p3 p4 : Int) : Option (V × List VO) :=
 let a1 := ((signC (p2, ((ByteArray.mk #[114, 111, 111, 116]), (p0, ((p1.1, (p1.2.1, ())), (p2, ((3, (0, ())), (0, (p4, (false, (0, ([p0], ((0, (0, ())), ())))))))))))) p3).1)
 let a4 := (((a1.2).2).2)
 let a2 := ((a4.2).2)
 let a3 := ((((a2.2).2).2).2)
 br (Qev (p2, ((ByteArray.mk #[114, 111, 111, 116]), (p0, ((p1.1, (p1.2.1, ())), (p2, ((3, (0, ())), (0, (p4, (false, (0, ([p0], ((0, (0, ())), ())))))))))))) p3) (some (.t Qav ((p1.1, (p1.2.1, ())), (p2, ([(a1.1, ((a1.2).1, (((a1.2).2).1, (((a4.1).1, (((a4.1).2).1, ())), ((a4.2).1, (((a2.1).1, (((a2.1).2).1, ())), ((a2.2).1, (((a2.2).2).1, ((((a2.2).2).2).1, (a3.1, ((a3.2).1, (((((a3.2).2).1).1, (((((a3.2).2).1).2).1, ())), ()))))))))))))], ()))), [])) none
theorem e_f47 (p0 : ByteArray) (p1 : Keep) (p2 p3 p4 : Int) : runF g_f47 QDl QPR false [.t .str p0, .t Qai p1, .t tI p2, .t tI p3, .t tI p4] [] = r_f47 p0 p1 p2 p3 p4 := by kernel_rfl
theorem en_f47 : Qah Tryz.prog 47 := .inr ⟨by decide, _, Tryz.func47, by kernel_rfl, by kernel_rfl⟩
theorem gk_f47 : GOk Tryz.prog g_f47 := Qal _ (gA (gC en_f84 ms_f84 gN))
theorem lk_f47 : QDl.lok g_f47 := by repeat (first | exact trivial | refine ⟨?_, ?_⟩)
theorem s_f47 (nm : ByteArray) (k : Keep) (id a to : Int) (h : QqX nm k id a to = true) : r_f47 nm k id a to = some (.t Qav (leafV nm k id a to), []) := by
 have hs : nm.size ≤ 1000 := of_decide_eq_true h
 unfold r_f47
 exact brY (QyM (by decide) hs (l := [nm]) (Nat.le_succ 1) (fun t ht => by rw [List.mem_singleton.1 ht]; omega)) rfl
def QPf : Ent := spec (.pr .str (.pr Qai (.pr tI (.pr tI (.pr tI .nil))))) (fun x => (QqX x.1 x.2.1 x.2.2.1 x.2.2.2.1 x.2.2.2.2.1)) (fun x => (.t Qav (leafV x.1 x.2.1 x.2.2.1 x.2.2.2.1 x.2.2.2.2.1)))
theorem ms_f47 : Meets Tryz.prog 47 (strip QPf) := Qag (R := runF g_f47 QDl QPR false) (mG Tryz.func47 (by kernel_rfl) Tryz.ntmps47 (by kernel_rfl) gk_f47 lk_f47) fun x hok => (e_f47 x.1 x.2.1 x.2.2.1 x.2.2.2.1 x.2.2.2.2.1).trans (s_f47 x.1 x.2.1 x.2.2.1 x.2.2.2.1 x.2.2.2.2.1 hok)
def Qnb : Bool := true
noncomputable def QDE : TC := (.sq (.reg (rT Tryz.f10 0)) (.sq (.reg (rT Tryz.f10 1)) (.sq (.reg (rT Tryz.f10 2)) (.sq (.reg (rT Tryz.f10 3)) (.sq (.reg (rT Tryz.f10 4)) .rt)))))
def QQa : List (RV × Option Ty) := [((.t 0), some .bool)]
def g_f10 : G := ⟨TYs, [], 44, EL [(14, QPp), (15, QPo), (18, QEh)], keeps, (fun _ _ => none), IL [], RL []⟩
def r_f10  : Option (V × List VO) :=
 let a1 := (allF (([] : List Qab), (([] : List Keep), (([] : List Item), ()))) 0)
 br (QJf (([] : List Qab), (([] : List Keep), (([] : List Item), ()))) 0 0) (br (QeQ (([] : List Qab), (([] : List Keep), (([] : List Item), ()))) 0) (br (QeQ (([] : List Qab), (([] : List Keep), (([] : List Item), ()))) 99) (br (ieq ((Qqz (([] : List Qab), (([] : List Keep), (([] : List Item), ()))) 0 0).2) 4) (br (ieq ((a1.2).2) 0) (br (ieq (llen (a1.1)) 0) (br (ieq (llen ((a1.2).1)) 0) (some (.t .bool (ieq ((needF (([] : List Qab), (([] : List Keep), (([] : List Item), ()))) 99).2) 7), [])) (some (.t .bool false, []))) (some (.t .bool false, []))) (some (.t .bool false, []))) (some (.t .bool false, []))) none) none) none
theorem e_f10  : runF g_f10 QDE QQa false [] [] = r_f10  := by kernel_rfl
theorem en_f10 : Qah Tryz.prog 10 := .inr ⟨by decide, _, Tryz.func10, by kernel_rfl, by kernel_rfl⟩
theorem gk_f10 : GOk Tryz.prog g_f10 := Qal _ (gA (gC en_f14 ms_f14 (gC en_f15 ms_f15 (gC QQI QQw gN))))
theorem lk_f10 : QDE.lok g_f10 := by repeat (first | exact trivial | refine ⟨?_, ?_⟩)
set_option maxRecDepth 100000 in
theorem s_f10 : r_f10 = some (.t .bool Qnb, []) := by kernel_rfl
def QPs : Ent := spec .nil (fun x => true) (fun x => (.t .bool Qnb))
theorem ms_f10 : Meets Tryz.prog 10 (strip QPs) := Qag (R := runF g_f10 QDE QQa false) (mG Tryz.func10 (by kernel_rfl) Tryz.ntmps10 (by kernel_rfl) gk_f10 lk_f10) fun x _ => (e_f10 ).trans (s_f10 )
end
end Go.Proofs.YtckcgijklnloiaaGreat.K
namespace Go.Proofs.YtckcgijklnloiaaGreat.K
open Go.RowKit
noncomputable section
abbrev sAll : List ByteArray := [(ByteArray.mk #[97, 112, 112]), (ByteArray.mk #[100, 98]), (ByteArray.mk #[119, 101, 98])]
abbrev sSu : List (List Int) := [[10, 8, 2], [8, 2], [2, 10, 8, 3]]
abbrev sIt : List ByteArray := [(ByteArray.mk #[98, 97, 99, 107, 117, 112]), (ByteArray.mk #[100, 101, 101, 100])]
def nm1 (s : ByteArray) : Bool := decide (s.size ≤ 1000)
def sndSu (d : Dice) : List Int := bif ieq (dof d [3, 3, 4]) 4 then [14] ++ lgt (.sl tI) sSu (dval (dofN d [3, 3, 4]) 3).toNat else lgt (.sl tI) sSu (dval (dofN d [3, 3, 4]) 3).toNat
def sndE (d : Dice) (k : Nat) (s : ByteArray) : Qab := (s, (1, (dof d [3, 3, 4], (sndSu d, (done (dnext (dofN d [3, 3, 4]) 3) 2, ([leafV s rsaK (iadd .i64 100 (k : Int)) 1 901], ([1], ([2, 3], (done (dnext (dnext (dofN d [3, 3, 4]) 3) 2) 3, ())))))))))
def sndD (d : Dice) : Dice := dnext (dnext (dnext (dofN d [3, 3, 4]) 3) 2) 3
def sndZ : List ByteArray → Nat → Dice → List Qab × Dice
 | [], _, d => ([], d)
 | s :: r, k, d => (sndE d k s :: (sndZ r (k + 1) (sndD d)).1, (sndZ r (k + 1) (sndD d)).2)
def edZ : Nat → Int → Int → List Keep → Dice → List Keep × Dice
 | 0, _, _, l, d => (l, d)
 | m + 1, i, k, l, d => bif ine i k then (bif igt (dval d 3) 0 && ilt (llen l) 3 then edZ m i (k + 1) (l ++ [(i, (k, ()))]) (dnext d 3) else edZ m i (k + 1) l (dnext d 3)) else edZ m i (k + 1) l d
def edY : Nat → Nat → Int → List Keep → Dice → List Keep × Dice
 | 0, _, _, l, d => (l, d)
 | m + 1, n, i, l, d => edY m n (i + 1) (edZ n i 0 l d).1 (edZ n i 0 l d).2
def itZ : Nat → Dice → List Item × Dice
 | 0, d => ([], d)
 | n + 1, d => (itemV (dwdGN d sIt) (dwdG d sIt) :: (itZ n (itemN (dwdGN d sIt) (dwdG d sIt))).1, (itZ n (itemN (dwdGN d sIt) (dwdG d sIt))).2)
def sndNm (d : Dice) : List ByteArray := lsl sAll 0 (iadd .i64 2 (dval d 2))
def sndEd (d : Dice) : List Keep × Dice := edY (sndNm d).length (sndNm d).length 0 [] (sndZ (sndNm d) 0 (dnext d 2)).2
def sndEg (d : Dice) : List Keep := bif ieq (llen (sndEd d).1) 0 then [(0, (1, ()))] else (sndEd d).1
def sndIt (d : Dice) : List Item × Dice := itZ (dval (sndEd d).2 3).toNat (dnext (sndEd d).2 3)
def sndV (d : Dice) : Qao := ((sndZ (sndNm d) 0 (dnext d 2)).1, (sndEg d, ((sndIt d).1, ())))
def sndN (d : Dice) : Dice := (sndIt d).2
theorem QKb {d : Dice} (h : dOk d = true) : dOk (sndD d) = true := QaH (QaH (QaH (Qvv (l := [3, 3, 4]) h)))
theorem QER : ∀ (l : List ByteArray) (k : Nat) (d : Dice), dOk d = true → dOk (sndZ l k d).2 = true
 | [], _, _, h => h
 | _ :: r, k, d, h => QER r (k + 1) (sndD d) (QKb h)
theorem Qq2 : ∀ (m : Nat) (i k : Int) (l : List Keep) (d : Dice), dOk d = true → l.length ≤ 3 → dOk (edZ m i k l d).2 = true ∧ (edZ m i k l d).1.length ≤ 3
 | 0, _, _, _, _, h, hl => ⟨h, hl⟩
 | m + 1, i, k, l, d, h, hl => by
  unfold edZ
  cases ine i k with
  | false => exact Qq2 m i (k + 1) l d h hl
  | true =>
   cases h1 : igt (dval d 3) 0 with
   | false => exact Qq2 m i (k + 1) l (dnext d 3) (QaH h) hl
   | true =>
    cases h2 : ilt (llen l) 3 with
    | false => exact Qq2 m i (k + 1) l (dnext d 3) (QaH h) hl
    | true =>
     have : l.length < 3 := by have := of_decide_eq_true h2; simp only [llen] at this; omega
     exact Qq2 m i (k + 1) _ (dnext d 3) (QaH h) (by simp only [List.length_append, List.length_singleton]; omega)
theorem QQK : ∀ (m n : Nat) (i : Int) (l : List Keep) (d : Dice), dOk d = true → l.length ≤ 3 → dOk (edY m n i l d).2 = true ∧ (edY m n i l d).1.length ≤ 3
 | 0, _, _, _, _, h, hl => ⟨h, hl⟩
 | m + 1, n, i, l, d, h, hl => by
  have := Qq2 n i 0 l d h hl
  exact QQK m n (i + 1) _ _ this.1 this.2
theorem QAR {d : Dice} (h : dOk d = true) : dOk (dwdGN d sIt) = true := QaH (n := 2) h
theorem Qh1 (d : Dice) : sndNm d = sAll.take 2 ∨ sndNm d = sAll := by
 have hv := Qbp (d := d) (n := 2) (by omega)
 have e : iadd .i64 2 (dval d 2) = 2 + dval d 2 := Qbc (by omega)
 unfold sndNm
 rw [e]
 rcases (show dval d 2 = 0 ∨ dval d 2 = 1 by omega) with h | h <;> rw [h]
 ·exact .inl rfl
 ·exact .inr rfl
theorem Qmh (d : Dice) : 2 ≤ (sndNm d).length ∧ (sndNm d).length ≤ 3 ∧ (sndNm d).all nm1 = true := by
 rcases Qh1 d with h | h <;> rw [h] <;> exact ⟨by decide, by decide, by decide⟩
noncomputable def QNX : List DO := dT Tryz.f17 6
noncomputable def QNW : List DO := dT Tryz.f17 26
def Qkf : Fg := ⟨[(0, none), (2, none), (3, none), (4, some (.sl .str)), (16, some (.sl .str)), (17, some tI), (18, some tI)], [(2, some Qas), (3, none), (61, none), (94, none), (103, none), (119, none), (20300, none), (20301, none), (20302, none), (50000, some QaJ)]⟩
noncomputable def Ql6 : TC := (.sq (.reg (rT Tryz.f17 4)) (.sq (.cd (.t 19) .sk (.fg ⟨[(0, none), (2, none), (3, none), (4, some (.sl .str))], [(2, some Qas), (3, some Qas), (61, none), (94, none), (103, none), (119, none), (20300, none), (20301, none), (20302, none), (50000, some QaJ)]⟩ (.ex 0))) (.sq (.bk 1 (.sq (.reg (rT Tryz.f17 5)) (.sq (.dr QNX [(0, []), (1, [50000]), (2, []), (3, [26, 5026, 10026, 15026, 50000]), (4, []), (5, []), (6, []), (7, []), (8, [50000]), (9, [32, 5032, 10032, 15032, 50000]), (10, []), (11, []), (12, [50000]), (13, [36, 5036, 10036, 15036, 50000]), (14, []), (15, []), (16, [50000]), (17, [40, 5040, 10040, 15040, 50000]), (18, []), (19, [7, 5007, 10007, 15007]), (20, [7, 45, 48, 20703])] (.one 0 (.one 1 (.one 2 (.one 4 (.one 5 (.one 6 (.one 7 (.one 8 (.one 12 (.one 14 (.one 15 (.one 16 (.alt 3 (.alt 9 (.one 10 (.one 11 (.alt 13 (.alt 17 (.of [18, 19, 20]) (.of [19, 17, 18, 20])) (.of [19, 13, 17, 18, 20])))) (.of [19, 9, 10, 11, 13, 17, 18, 20])) (.of [19, 3, 9, 10, 11, 13, 17, 18, 20]))))))))))))))) (.sq (.sq (.reg (rT Tryz.f17 7)) (.cd (.t 44) (.reg (rT Tryz.f17 8)) .sk)) (.sq (.reg (rT Tryz.f17 9)) (.reg (rT Tryz.f17 10))))))) (.reg (rT Tryz.f17 11)))))
def Qke : Fg := ⟨[(0, none), (2, none), (3, none), (4, some (.sl .str)), (8, some tI), (65, some tI), (66, some tI), (70, some tI), (71, some tI)], [(2, some Qas), (3, none), (61, none), (94, none), (103, none), (119, none), (20300, none), (20301, none), (20302, none), (50000, some QaJ)]⟩
noncomputable def Ql5 : TC := (.sq (.reg (rT Tryz.f17 16)) (.sq (.cd (.t 72) .sk (.fg ⟨[(0, none), (2, none), (3, none), (4, some (.sl .str)), (65, some tI), (66, some tI)], [(2, some Qas), (3, some Qas), (61, none), (94, none), (103, none), (119, none), (20300, none), (20301, none), (20302, none), (50000, some QaJ)]⟩ (.ex 4))) (.sq (.bk 5 (.sq (.reg (rT Tryz.f17 17)) (.sq (.reg (rT Tryz.f17 18)) (.cd (.t 87) (.reg (rT Tryz.f17 19)) .sk)))) (.reg (rT Tryz.f17 20)))))
def Qkd : Fg := ⟨[(0, none), (2, none), (3, none), (4, some (.sl .str)), (65, some tI), (66, some tI)], [(2, some Qas), (3, none), (61, none), (94, none), (103, none), (119, none), (20300, none), (20301, none), (20302, none), (50000, some QaJ)]⟩
noncomputable def Ql4 : TC := (.sq (.reg (rT Tryz.f17 13)) (.sq (.cd (.t 67) .sk (.fg ⟨[(0, none), (2, none), (3, none)], [(2, some Qas), (3, some Qas), (61, none), (94, none), (103, none), (119, none), (20300, none), (20301, none), (20302, none), (50000, some QaJ)]⟩ (.ex 2))) (.sq (.bk 3 (.sq (.reg (rT Tryz.f17 14)) (.sq (.reg (rT Tryz.f17 15)) (.bk 4 (.nf 3 2 79 20302 (.nf 3 0 49 20300 (.nf 3 1 46 20301 (.lp 1 Qke Ql5)))))))) (.reg (rT Tryz.f17 21)))))
def Qkc : Fg := ⟨[(0, none), (2, none), (3, none), (10, some tI)], [(2, some Qas), (3, none), (61, none), (94, none), (103, none), (119, none), (20300, none), (20301, none), (20302, none), (50000, some QaJ)]⟩
noncomputable def Ql3 : TC := (.sq (.sq (.reg (rT Tryz.f17 25)) (.cd (.t 108) .sk (.fg ⟨[(2, none), (3, none)], [(2, some Qas), (3, some Qas), (61, none), (94, none), (103, none), (119, none), (20300, none), (20301, none), (20302, none), (50000, some QaJ)]⟩ (.ex 6)))) (.sq (.bk 7 (.dr QNW [(0, [3, 61, 94, 103, 119, 20300, 20301, 20302]), (1, [3, 61, 94, 103, 119, 20300, 20301, 20302]), (2, [50000]), (3, [50000]), (4, []), (5, [116, 5116, 10116, 15116, 50000]), (6, [117, 5117, 10117, 15117, 50000]), (7, []), (8, [2, 3, 61, 94, 103, 119, 5119, 10119, 15119, 20300, 20301, 20302]), (9, [3, 61, 94, 103, 119, 20300, 20301, 20302]), (10, [2, 3, 61, 94, 103, 119, 20300, 20301, 20302])] (.of [0, 1, 2, 3, 4, 5, 6, 7, 8, 9, 10]))) (.reg (rT Tryz.f17 27))))
noncomputable def QDy : TC := (.sq (.reg (rT Tryz.f17 0)) (.sq (.reg (rT Tryz.f17 1)) (.sq (.reg (rT Tryz.f17 2)) (.sq (.sq (.reg (rT Tryz.f17 3)) (.bk 0 (.nf 3 2 79 20302 (.nf 3 1 46 20301 (.nf 3 0 49 20300 (.nf 7 3 3 20703 (.lp 0 Qkf Ql6))))))) (.sq (.sq (.reg (rT Tryz.f17 12)) (.bk 2 (.nf 3 2 79 20302 (.nf 3 0 49 20300 (.nf 3 1 46 20301 (.lp 2 Qkd Ql4)))))) (.sq (.sq (.reg (rT Tryz.f17 22)) (.cd (.t 101) (.reg (rT Tryz.f17 23)) .sk)) (.sq (.sq (.reg (rT Tryz.f17 24)) (.bk 6 (.fz [20301, 103] (.nf 3 1 46 20301 (.nf 3 0 49 20300 (.nf 3 2 79 20302 (.lp 3 Qkc Ql3))))))) (.sq (.reg (rT Tryz.f17 28)) .rt))))))))
def QP4 : List (RV × Option Ty) := [((.c 2 true 3), some Qas)]
abbrev QrP : Sh := ⟨[(0, .ptr 50000 0), (2, .ptr 2 0), (3, .ptr 3 0), (4, .ty (.sl .str)), (16, .ty (.sl .str)), (17, .ty tI), (18, .ty tI)], [(2, .box Qas), (3, .bag [.ms 20300, .ms 20301, .ms 20302]), (61, .no), (94, .no), (103, .no), (119, .no), (20300, .arr 49 Qae), (20301, .arr 46 Qai), (20302, .arr 79 QaT), (50000, .box QaJ)]⟩
def Qmf (x4 x16 : List ByteArray) (x17 x18 : Int) (y2 : Qao) (y20300 : List Qab) (y20301 : List Keep) (y20302 : List Item) (y50000 : Dice) : VS := QrP.st ((), (), (), x4, x16, x17, x18, ()) (y2, ((), (), (), ()), (), (), (), (), y20300, y20301, y20302, y50000, ())
abbrev Qxn : Sh := ⟨[(0, .ptr 50000 0), (2, .ptr 2 0), (3, .ptr 3 0), (4, .ty (.sl .str))], [(2, .box Qas), (3, .bag [.ms 20300, .ms 20301, .ms 20302]), (61, .no), (94, .no), (103, .no), (119, .no), (20300, .arr 49 Qae), (20301, .arr 46 Qai), (20302, .arr 79 QaT), (50000, .box QaJ)]⟩
def Qfa (x4 : List ByteArray) (y2 : Qao) (y20300 : List Qab) (y20301 : List Keep) (y20302 : List Item) (y50000 : Dice) : VS := Qxn.st ((), (), (), x4, ()) (y2, ((), (), (), ()), (), (), (), (), y20300, y20301, y20302, y50000, ())
abbrev QrO : Sh := ⟨[(0, .ptr 50000 0), (2, .ptr 2 0), (3, .ptr 3 0), (4, .ty (.sl .str)), (8, .ty tI), (65, .ty tI), (66, .ty tI), (70, .ty tI), (71, .ty tI)], [(2, .box Qas), (3, .bag [.ms 20300, .ms 20301, .ms 20302]), (61, .no), (94, .no), (103, .no), (119, .no), (20300, .arr 49 Qae), (20301, .arr 46 Qai), (20302, .arr 79 QaT), (50000, .box QaJ)]⟩
def Qg6 (x4 : List ByteArray) (x8 x65 x66 x70 x71 : Int) (y2 : Qao) (y20300 : List Qab) (y20301 : List Keep) (y20302 : List Item) (y50000 : Dice) : VS := QrO.st ((), (), (), x4, x8, x65, x66, x70, x71, ()) (y2, ((), (), (), ()), (), (), (), (), y20300, y20301, y20302, y50000, ())
abbrev Qxm : Sh := ⟨[(0, .ptr 50000 0), (2, .ptr 2 0), (3, .ptr 3 0), (4, .ty (.sl .str)), (65, .ty tI), (66, .ty tI)], [(2, .box Qas), (3, .bag [.ms 20300, .ms 20301, .ms 20302]), (61, .no), (94, .no), (103, .no), (119, .no), (20300, .arr 49 Qae), (20301, .arr 46 Qai), (20302, .arr 79 QaT), (50000, .box QaJ)]⟩
def Qe9 (x4 : List ByteArray) (x65 x66 : Int) (y2 : Qao) (y20300 : List Qab) (y20301 : List Keep) (y20302 : List Item) (y50000 : Dice) : VS := Qxm.st ((), (), (), x4, x65, x66, ()) (y2, ((), (), (), ()), (), (), (), (), y20300, y20301, y20302, y50000, ())
abbrev QrN : Sh := ⟨[(0, .ptr 50000 0), (2, .ptr 2 0), (3, .ptr 3 0), (4, .ty (.sl .str)), (65, .ty tI), (66, .ty tI)], [(2, .box Qas), (3, .bag [.ms 20300, .ms 20301, .ms 20302]), (61, .no), (94, .no), (103, .no), (119, .no), (20300, .arr 49 Qae), (20301, .arr 46 Qai), (20302, .arr 79 QaT), (50000, .box QaJ)]⟩
def Qrp (x4 : List ByteArray) (x65 x66 : Int) (y2 : Qao) (y20300 : List Qab) (y20301 : List Keep) (y20302 : List Item) (y50000 : Dice) : VS := QrN.st ((), (), (), x4, x65, x66, ()) (y2, ((), (), (), ()), (), (), (), (), y20300, y20301, y20302, y50000, ())
abbrev Qxl : Sh := ⟨[(0, .ptr 50000 0), (2, .ptr 2 0), (3, .ptr 3 0)], [(2, .box Qas), (3, .bag [.ms 20300, .ms 20301, .ms 20302]), (61, .no), (94, .no), (103, .no), (119, .no), (20300, .arr 49 Qae), (20301, .arr 46 Qai), (20302, .arr 79 QaT), (50000, .box QaJ)]⟩
def Qe8 (y2 : Qao) (y20300 : List Qab) (y20301 : List Keep) (y20302 : List Item) (y50000 : Dice) : VS := Qxl.st ((), (), (), ()) (y2, ((), (), (), ()), (), (), (), (), y20300, y20301, y20302, y50000, ())
abbrev QrM : Sh := ⟨[(0, .ptr 50000 0), (2, .ptr 2 0), (3, .ptr 3 0), (10, .ty tI)], [(2, .box Qas), (3, .bag [.ms 20300, .ty (.sl Qai), .ms 20302]), (61, .no), (94, .no), (103, .no), (119, .no), (20300, .arr 49 Qae), (20301, .no), (20302, .arr 79 QaT), (50000, .box QaJ)]⟩
def Qro (x10 : Int) (y2 : Qao) (y3_1 : List Keep) (y20300 : List Qab) (y20302 : List Item) (y50000 : Dice) : VS := QrM.st ((), (), (), x10, ()) (y2, ((), y3_1, (), ()), (), (), (), (), y20300, (), y20302, y50000, ())
abbrev Qxk : Sh := ⟨[(2, .ptr 2 0), (3, .ptr 3 0)], [(2, .box Qas), (3, .bag [.ms 20300, .ty (.sl Qai), .ms 20302]), (61, .no), (94, .no), (103, .no), (119, .no), (20300, .arr 49 Qae), (20301, .no), (20302, .arr 79 QaT), (50000, .box QaJ)]⟩
def Qe7 (y2 : Qao) (y3_1 : List Keep) (y20300 : List Qab) (y20302 : List Item) (y50000 : Dice) : VS := Qxk.st ((), (), ()) (y2, ((), y3_1, (), ()), (), (), (), (), y20300, (), y20302, y50000, ())
def QWn : VS → Option (Bool × List (Bool × Exit × VS)) := mkL QrP (fun x y => (rngOk x.2.2.2.2.1 x.2.2.2.2.2.1 x.2.2.2.2.2.2.1 && (dOk y.2.2.2.2.2.2.2.2.2.1 && (decide (y.2.2.2.2.2.2.1.length ≤ x.2.2.2.2.2.2.1) && x.2.2.2.2.1.all nm1)))) (fun x y => [(true, .exit 0, Qfa (x.2.2.2.1) (y.1) (y.2.2.2.2.2.2.1 ++ (sndZ (x.2.2.2.2.1.drop x.2.2.2.2.2.2.1.toNat) x.2.2.2.2.2.2.1.toNat y.2.2.2.2.2.2.2.2.2.1).1) (y.2.2.2.2.2.2.2.1) (y.2.2.2.2.2.2.2.2.1) ((sndZ (x.2.2.2.2.1.drop x.2.2.2.2.2.2.1.toNat) x.2.2.2.2.2.2.1.toNat y.2.2.2.2.2.2.2.2.2.1).2))])
def QWm : VS → Option (Bool × List (Bool × Exit × VS)) := mkL QrO (fun x y => (dOk y.2.2.2.2.2.2.2.2.2.1 && decide (0 ≤ x.2.2.2.2.2.2.2.2.1 ∧ x.2.2.2.2.2.2.2.2.1 ≤ x.2.2.2.2.2.2.2.1 ∧ x.2.2.2.2.2.2.2.1 ≤ 3 ∧ y.2.2.2.2.2.2.2.1.length ≤ 3))) (fun x y => [(true, .exit 4, Qe9 (x.2.2.2.1) (x.2.2.2.2.2.1) (x.2.2.2.2.2.2.1) (y.1) (y.2.2.2.2.2.2.1) ((edZ (x.2.2.2.2.2.2.2.1 - x.2.2.2.2.2.2.2.2.1).toNat x.2.2.2.2.1 x.2.2.2.2.2.2.2.2.1 y.2.2.2.2.2.2.2.1 y.2.2.2.2.2.2.2.2.2.1).1) (y.2.2.2.2.2.2.2.2.1) ((edZ (x.2.2.2.2.2.2.2.1 - x.2.2.2.2.2.2.2.2.1).toNat x.2.2.2.2.1 x.2.2.2.2.2.2.2.2.1 y.2.2.2.2.2.2.2.1 y.2.2.2.2.2.2.2.2.2.1).2))])
def QWl : VS → Option (Bool × List (Bool × Exit × VS)) := mkL QrN (fun x y => (dOk y.2.2.2.2.2.2.2.2.2.1 && decide (0 ≤ x.2.2.2.2.2.1 ∧ x.2.2.2.2.2.1 ≤ x.2.2.2.2.1 ∧ x.2.2.2.2.1 ≤ 3 ∧ x.2.2.2.1.length ≤ 3 ∧ y.2.2.2.2.2.2.2.1.length ≤ 3))) (fun x y => [(true, .exit 2, Qe8 (y.1) (y.2.2.2.2.2.2.1) ((edY (x.2.2.2.2.1 - x.2.2.2.2.2.1).toNat x.2.2.2.1.length x.2.2.2.2.2.1 y.2.2.2.2.2.2.2.1 y.2.2.2.2.2.2.2.2.2.1).1) (y.2.2.2.2.2.2.2.2.1) ((edY (x.2.2.2.2.1 - x.2.2.2.2.2.1).toNat x.2.2.2.1.length x.2.2.2.2.2.1 y.2.2.2.2.2.2.2.1 y.2.2.2.2.2.2.2.2.2.1).2))])
def QWk : VS → Option (Bool × List (Bool × Exit × VS)) := mkL QrM (fun x y => (dOk y.2.2.2.2.2.2.2.2.2.1 && decide (0 ≤ x.2.2.2.1 ∧ x.2.2.2.1 ≤ 3 ∧ y.2.2.2.2.2.2.2.2.1.length + x.2.2.2.1.toNat ≤ 100))) (fun x y => [(true, .exit 6, Qe7 (y.1) (y.2.1.2.1) (y.2.2.2.2.2.2.1) (y.2.2.2.2.2.2.2.2.1 ++ (itZ x.2.2.2.1.toNat y.2.2.2.2.2.2.2.2.2.1).1) ((itZ x.2.2.2.1.toNat y.2.2.2.2.2.2.2.2.2.1).2))])
def g_f17 : G := ⟨TYs, [45, 103], 122, EL [(35, QqF), (37, QPl), (38, QPk), (45, QDN), (46, QPg), (47, QPf), (48, QPe)], keeps, (Ls [QWn, QWm, QWl, QWk]), IL [], RL []⟩
def Qg3 (x4 x16 : List ByteArray) (x17 x18 : Int) (y2 : Qao) (y20300 : List Qab) (y20301 : List Keep) (y20302 : List Item) (y50000 : Dice) : Option (Exit × VS) :=
 let a5 := lgt .str x16 (Int.toNat x18)
 let a1 := leafV a5 rsaK (iadd .i64 100 x18) 1 901
 let a2 := (lgt (.sl tI) ([[10, 8, 2], [8, 2], [2, 10, 8, 3]]) (Int.toNat (dval (dofN y50000 ([3, 3, 4])) 3)))
 let a3 := (dnext (dofN y50000 ([3, 3, 4])) 3)
 let a4 := ((done a3 2), ([(((a1.1).1, (((a1.1).2).1, ())), ((a1.2).1, (((a1.2).2).1, ())))], ([1], ([2, 3], ((done (dnext a3 2) 3), ())))))
 let a6 := (dof y50000 ([3, 3, 4]))
 let a7 := QqX a5 rsaK (iadd .i64 100 x18) 1 901
 br (oneOk (dnext a3 2) 3) (br (ieq a6 4) (br (cApp ([14]) a2 8) (br a7 (br (cApp y20300 ([(a5, (1, (a6, ((([14]) ++ a2), a4))))]) 144) (some (.normal, Qmf x4 x16 x17 (iadd .i64 x18 1) y2 (y20300 ++ ([(a5, (1, (a6, ((([14]) ++ a2), a4))))])) y20301 y20302 (dnext (dnext a3 2) 3))) none) none) none) (br a7 (br (cApp y20300 ([(a5, (1, (a6, (a2, a4))))]) 144) (some (.normal, Qmf x4 x16 x17 (iadd .i64 x18 1) y2 (y20300 ++ ([(a5, (1, (a6, (a2, a4))))])) y20301 y20302 (dnext (dnext a3 2) 3))) none) none)) none
def Qkm (x4 x16 : List ByteArray) (x17 x18 : Int) (y2 : Qao) (y20300 : List Qab) (y20301 : List Keep) (y20302 : List Item) (y50000 : Dice) : Option (Exit × VS) := br (oneOk (dnext (dofN y50000 ([3, 3, 4])) 3) 2) (Qg3 x4 x16 x17 x18 y2 y20300 y20301 y20302 y50000) none
def Qkl (x4 x16 : List ByteArray) (x17 x18 : Int) (y2 : Qao) (y20300 : List Qab) (y20301 : List Keep) (y20302 : List Item) (y50000 : Dice) : Option (Exit × VS) :=
 let a1 := (dofN y50000 ([3, 3, 4]))
 br (QaQ a1 3) (br (cIx ([[10, 8, 2], [8, 2], [2, 10, 8, 3]]) (dval a1 3)) (Qkm x4 x16 x17 x18 y2 y20300 y20301 y20302 y50000) none) none
def QyU (x4 x16 : List ByteArray) (x17 x18 : Int) (y2 : Qao) (y20300 : List Qab) (y20301 : List Keep) (y20302 : List Item) (y50000 : Dice) : Option (Exit × VS) :=
 let a1 := (dofN y50000 ([3, 3, 4]))
 let a2 := (ofOk y50000 ([3, 3, 4]))
 br (ilt x18 x17) (br (cIx x16 x18) (frk (br a2 (frk (br (QaQ a1 3) (br (cIx ([[10, 8, 2], [8, 2], [2, 10, 8, 3]]) (dval a1 3)) (frk (br (oneOk (dnext a1 3) 2) (frk (Qg3 x4 x16 x17 x18 y2 y20300 y20301 y20302 y50000) (Qg3 x4 x16 x17 x18 y2 y20300 y20301 y20302 y50000)) none) (Qkm x4 x16 x17 x18 y2 y20300 y20301 y20302 y50000)) none) none) (Qkl x4 x16 x17 x18 y2 y20300 y20301 y20302 y50000)) none) (br a2 (Qkl x4 x16 x17 x18 y2 y20300 y20301 y20302 y50000) none)) none) (some (.exit 0, Qfa x4 y2 y20300 y20301 y20302 y50000))
noncomputable def Qho (x4 x16 : List ByteArray) (x17 x18 : Int) (y2 : Qao) (y20300 : List Qab) (y20301 : List Keep) (y20302 : List Item) (y50000 : Dice) : Option (Exit × VS) := loopF (Qak g_f17 Qkf Ql6) (Qmf x4 x16 x17 x18 y2 y20300 y20301 y20302 y50000)
noncomputable def Qdq (x4 x16 : List ByteArray) (x17 x18 : Int) (y2 : Qao) (y20300 : List Qab) (y20301 : List Keep) (y20302 : List Item) (y50000 : Dice) : Option (Exit × VS) :=
 let a5 := lgt .str x16 (Int.toNat x18)
 let a1 := leafV a5 rsaK (iadd .i64 100 x18) 1 901
 let a2 := (lgt (.sl tI) ([[10, 8, 2], [8, 2], [2, 10, 8, 3]]) (Int.toNat (dval (dofN y50000 ([3, 3, 4])) 3)))
 let a3 := (dnext (dofN y50000 ([3, 3, 4])) 3)
 let a4 := ((done a3 2), ([(((a1.1).1, (((a1.1).2).1, ())), ((a1.2).1, (((a1.2).2).1, ())))], ([1], ([2, 3], ((done (dnext a3 2) 3), ())))))
 let a6 := (dof y50000 ([3, 3, 4]))
 let a7 := QqX a5 rsaK (iadd .i64 100 x18) 1 901
 br (oneOk (dnext a3 2) 3) (br (ieq a6 4) (br (cApp ([14]) a2 8) (br a7 (br (cApp y20300 ([(a5, (1, (a6, ((([14]) ++ a2), a4))))]) 144) (Qho x4 x16 x17 (iadd .i64 x18 1) y2 (y20300 ++ ([(a5, (1, (a6, ((([14]) ++ a2), a4))))])) y20301 y20302 (dnext (dnext a3 2) 3)) none) none) none) (br a7 (br (cApp y20300 ([(a5, (1, (a6, (a2, a4))))]) 144) (Qho x4 x16 x17 (iadd .i64 x18 1) y2 (y20300 ++ ([(a5, (1, (a6, (a2, a4))))])) y20301 y20302 (dnext (dnext a3 2) 3)) none) none)) none
noncomputable def QeM (x4 x16 : List ByteArray) (x17 x18 : Int) (y2 : Qao) (y20300 : List Qab) (y20301 : List Keep) (y20302 : List Item) (y50000 : Dice) : Option (Exit × VS) := br (oneOk (dnext (dofN y50000 ([3, 3, 4])) 3) 2) (Qdq x4 x16 x17 x18 y2 y20300 y20301 y20302 y50000) none
noncomputable def QeL (x4 x16 : List ByteArray) (x17 x18 : Int) (y2 : Qao) (y20300 : List Qab) (y20301 : List Keep) (y20302 : List Item) (y50000 : Dice) : Option (Exit × VS) :=
 let a1 := (dofN y50000 ([3, 3, 4]))
 br (QaQ a1 3) (br (cIx ([[10, 8, 2], [8, 2], [2, 10, 8, 3]]) (dval a1 3)) (QeM x4 x16 x17 x18 y2 y20300 y20301 y20302 y50000) none) none
noncomputable def Qo4 (x4 x16 : List ByteArray) (x17 x18 : Int) (y2 : Qao) (y20300 : List Qab) (y20301 : List Keep) (y20302 : List Item) (y50000 : Dice) : Option (Exit × VS) :=
 let a1 := (dofN y50000 ([3, 3, 4]))
 let a2 := (ofOk y50000 ([3, 3, 4]))
 br (ilt x18 x17) (br (cIx x16 x18) (frk (br a2 (frk (br (QaQ a1 3) (br (cIx ([[10, 8, 2], [8, 2], [2, 10, 8, 3]]) (dval a1 3)) (frk (br (oneOk (dnext a1 3) 2) (frk (Qdq x4 x16 x17 x18 y2 y20300 y20301 y20302 y50000) (Qdq x4 x16 x17 x18 y2 y20300 y20301 y20302 y50000)) none) (QeM x4 x16 x17 x18 y2 y20300 y20301 y20302 y50000)) none) none) (QeL x4 x16 x17 x18 y2 y20300 y20301 y20302 y50000)) none) (br a2 (QeL x4 x16 x17 x18 y2 y20300 y20301 y20302 y50000) none)) none) (some (.exit 0, Qfa x4 y2 y20300 y20301 y20302 y50000))
def QfA (x4 x16 : List ByteArray) (x17 x18 : Int) (y2 : Qao) (y20300 : List Qab) (y20301 : List Keep) (y20302 : List Item) (y50000 : Dice) : Option (Exit × VS) :=
 let a1 := sndZ (x16.drop x18.toNat) x18.toNat y50000
 some (.exit 0, Qfa (x4) (y2) (y20300 ++ a1.1) (y20301) (y20302) (a1.2))
theorem QOk (x4 x16 : List ByteArray) (x17 x18 : Int) (y2 : Qao) (y20300 : List Qab) (y20301 : List Keep) (y20302 : List Item) (y50000 : Dice) : Qak g_f17 Qkf Ql6 (Qmf x4 x16 x17 x18 y2 y20300 y20301 y20302 y50000) = QyU x4 x16 x17 x18 y2 y20300 y20301 y20302 y50000 := by kernel_rfl
theorem QzJ (x4 x16 : List ByteArray) (x17 x18 : Int) (y2 : Qao) (y20300 : List Qab) (y20301 : List Keep) (y20302 : List Item) (y50000 : Dice) : Qho x4 x16 x17 x18 y2 y20300 y20301 y20302 y50000 = Qo4 x4 x16 x17 x18 y2 y20300 y20301 y20302 y50000 := (Qan _ _).trans (by
 rw [QOk]
 first
 |(simp only [QyU, Qg3, Qkm, Qkl, Qer, Qo4, Qdq, QeM, QeL, Qer, Qax, nxt_n, nxt_r, nxt_e, nxt_0]
   rfl)
 |(simp only [QyU, Qg3, Qkm, Qkl, Qer, Qo4, Qdq, QeM, QeL, Qer]
   try generalize (cApp y20300 ([((lgt .str x16 (Int.toNat x18)), (1, ((dof y50000 ([3, 3, 4])), ((([14]) ++ (lgt (.sl tI) ([[10, 8, 2], [8, 2], [2, 10, 8, 3]]) (Int.toNat (dval (dofN y50000 ([3, 3, 4])) 3)))), ((done (dnext (dofN y50000 ([3, 3, 4])) 3) 2), ([((((leafV (lgt .str x16 (Int.toNat x18)) rsaK (iadd .i64 100 x18) 1 901).1).1, ((((leafV (lgt .str x16 (Int.toNat x18)) rsaK (iadd .i64 100 x18) 1 901).1).2).1, ())), (((leafV (lgt .str x16 (Int.toNat x18)) rsaK (iadd .i64 100 x18) 1 901).2).1, ((((leafV (lgt .str x16 (Int.toNat x18)) rsaK (iadd .i64 100 x18) 1 901).2).2).1, ())))], ([1], ([2, 3], ((done (dnext (dnext (dofN y50000 ([3, 3, 4])) 3) 2) 3), ())))))))))]) 144) = cq0
   try generalize ((QqX (lgt .str x16 (Int.toNat x18)) rsaK (iadd .i64 100 x18) 1 901)) = cq1
   try generalize (cApp ([14]) (lgt (.sl tI) ([[10, 8, 2], [8, 2], [2, 10, 8, 3]]) (Int.toNat (dval (dofN y50000 ([3, 3, 4])) 3))) 8) = cq2
   try generalize (cApp y20300 ([((lgt .str x16 (Int.toNat x18)), (1, ((dof y50000 ([3, 3, 4])), ((lgt (.sl tI) ([[10, 8, 2], [8, 2], [2, 10, 8, 3]]) (Int.toNat (dval (dofN y50000 ([3, 3, 4])) 3))), ((done (dnext (dofN y50000 ([3, 3, 4])) 3) 2), ([((((leafV (lgt .str x16 (Int.toNat x18)) rsaK (iadd .i64 100 x18) 1 901).1).1, ((((leafV (lgt .str x16 (Int.toNat x18)) rsaK (iadd .i64 100 x18) 1 901).1).2).1, ())), (((leafV (lgt .str x16 (Int.toNat x18)) rsaK (iadd .i64 100 x18) 1 901).2).1, ((((leafV (lgt .str x16 (Int.toNat x18)) rsaK (iadd .i64 100 x18) 1 901).2).2).1, ())))], ([1], ([2, 3], ((done (dnext (dnext (dofN y50000 ([3, 3, 4])) 3) 2) 3), ())))))))))]) 144) = cq3
   try generalize ((oneOk (dnext (dnext (dofN y50000 ([3, 3, 4])) 3) 2) 3)) = cq4
   try generalize ((oneOk (dnext (dofN y50000 ([3, 3, 4])) 3) 2)) = cq5
   try generalize (cIx ([[10, 8, 2], [8, 2], [2, 10, 8, 3]]) (dval (dofN y50000 ([3, 3, 4])) 3)) = cq6
   try generalize ((QaQ (dofN y50000 ([3, 3, 4])) 3)) = cq7
   try generalize ((ofOk y50000 ([3, 3, 4]))) = cq8
   try generalize (cIx x16 x18) = cq9
   simp only [brN, Qer, Bool.and_assoc, Bool.and_comm, Bool.and_left_comm, Bool.and_self, Bool.and_self_left, Qax, nxt_n, nxt_r, nxt_e, nxt_0]
   try rfl))
def QK7 (x4 : List ByteArray) (x8 x65 x66 x70 x71 : Int) (y2 : Qao) (y20300 : List Qab) (y20301 : List Keep) (y20302 : List Item) (y50000 : Dice) : Option (Exit × VS) :=
 let a1 := iadd .i64 x71 1
 let a2 := dnext y50000 3
 br (ilt x71 x70) (br (ine x8 x71) (br (QaQ y50000 3) (br (igt (dval y50000 3) 0) (br (ilt (llen y20301) 3) (br (cApp y20301 ([(x8, (x71, ()))]) 16) (some (.normal, Qg6 x4 x8 x65 x66 x70 a1 y2 y20300 (y20301 ++ ([(x8, (x71, ()))])) y20302 a2)) none) (some (.normal, Qg6 x4 x8 x65 x66 x70 a1 y2 y20300 y20301 y20302 a2))) (some (.normal, Qg6 x4 x8 x65 x66 x70 a1 y2 y20300 y20301 y20302 a2))) none) (some (.normal, Qg6 x4 x8 x65 x66 x70 a1 y2 y20300 y20301 y20302 y50000))) (some (.exit 4, Qe9 x4 x65 x66 y2 y20300 y20301 y20302 y50000))
noncomputable def Qft (x4 : List ByteArray) (x8 x65 x66 x70 x71 : Int) (y2 : Qao) (y20300 : List Qab) (y20301 : List Keep) (y20302 : List Item) (y50000 : Dice) : Option (Exit × VS) := loopF (Qak g_f17 Qke Ql5) (Qg6 x4 x8 x65 x66 x70 x71 y2 y20300 y20301 y20302 y50000)
noncomputable def QsG (x4 : List ByteArray) (x8 x65 x66 x70 x71 : Int) (y2 : Qao) (y20300 : List Qab) (y20301 : List Keep) (y20302 : List Item) (y50000 : Dice) : Option (Exit × VS) :=
 let a1 := iadd .i64 x71 1
 let a2 := dnext y50000 3
 br (ilt x71 x70) (br (ine x8 x71) (br (QaQ y50000 3) (br (igt (dval y50000 3) 0) (br (ilt (llen y20301) 3) (br (cApp y20301 ([(x8, (x71, ()))]) 16) (Qft x4 x8 x65 x66 x70 a1 y2 y20300 (y20301 ++ ([(x8, (x71, ()))])) y20302 a2) none) (Qft x4 x8 x65 x66 x70 a1 y2 y20300 y20301 y20302 a2)) (Qft x4 x8 x65 x66 x70 a1 y2 y20300 y20301 y20302 a2)) none) (Qft x4 x8 x65 x66 x70 a1 y2 y20300 y20301 y20302 y50000)) (some (.exit 4, Qe9 x4 x65 x66 y2 y20300 y20301 y20302 y50000))
def Qfz (x4 : List ByteArray) (x8 x65 x66 x70 x71 : Int) (y2 : Qao) (y20300 : List Qab) (y20301 : List Keep) (y20302 : List Item) (y50000 : Dice) : Option (Exit × VS) :=
 let a1 := edZ (x70 - x71).toNat x8 x71 y20301 y50000
 some (.exit 4, Qe9 (x4) (x65) (x66) (y2) (y20300) (a1.1) (y20302) (a1.2))
theorem QOj (x4 : List ByteArray) (x8 x65 x66 x70 x71 : Int) (y2 : Qao) (y20300 : List Qab) (y20301 : List Keep) (y20302 : List Item) (y50000 : Dice) : Qak g_f17 Qke Ql5 (Qg6 x4 x8 x65 x66 x70 x71 y2 y20300 y20301 y20302 y50000) = QK7 x4 x8 x65 x66 x70 x71 y2 y20300 y20301 y20302 y50000 := by kernel_rfl
theorem QzI (x4 : List ByteArray) (x8 x65 x66 x70 x71 : Int) (y2 : Qao) (y20300 : List Qab) (y20301 : List Keep) (y20302 : List Item) (y50000 : Dice) : Qft x4 x8 x65 x66 x70 x71 y2 y20300 y20301 y20302 y50000 = QsG x4 x8 x65 x66 x70 x71 y2 y20300 y20301 y20302 y50000 := (Qan _ _).trans (by
 rw [QOj]
 simp only [QK7, QsG, Qax, nxt_n, nxt_r, nxt_e, nxt_0]
 rfl)
def QK6 (x4 : List ByteArray) (x65 x66 : Int) (y2 : Qao) (y20300 : List Qab) (y20301 : List Keep) (y20302 : List Item) (y50000 : Dice) : Option (Exit × VS) :=
 let a1 := (edZ ((llen x4) - (0 : Int)).toNat x66 (0 : Int) y20301 y50000)
 br (ilt x66 x65) (br (dOk y50000 && decide (0 ≤ (0 : Int) ∧ (0 : Int) ≤ (llen x4) ∧ (llen x4) ≤ 3 ∧ y20301.length ≤ 3)) (some (.normal, Qrp (x4) (x65) (iadd .i64 (x66) 1) (y2) (y20300) (a1.1) (y20302) (a1.2))) none) (some (.exit 2, Qe8 y2 y20300 y20301 y20302 y50000))
noncomputable def QmO (x4 : List ByteArray) (x65 x66 : Int) (y2 : Qao) (y20300 : List Qab) (y20301 : List Keep) (y20302 : List Item) (y50000 : Dice) : Option (Exit × VS) := loopF (Qak g_f17 Qkd Ql4) (Qrp x4 x65 x66 y2 y20300 y20301 y20302 y50000)
noncomputable def QsF (x4 : List ByteArray) (x65 x66 : Int) (y2 : Qao) (y20300 : List Qab) (y20301 : List Keep) (y20302 : List Item) (y50000 : Dice) : Option (Exit × VS) :=
 let a1 := (edZ ((llen x4) - (0 : Int)).toNat x66 (0 : Int) y20301 y50000)
 br (ilt x66 x65) (br (dOk y50000 && decide (0 ≤ (0 : Int) ∧ (0 : Int) ≤ (llen x4) ∧ (llen x4) ≤ 3 ∧ y20301.length ≤ 3)) (QmO (x4) (x65) (iadd .i64 (x66) 1) (y2) (y20300) (a1.1) (y20302) (a1.2)) none) (some (.exit 2, Qe8 y2 y20300 y20301 y20302 y50000))
def QmW (x4 : List ByteArray) (x65 x66 : Int) (y2 : Qao) (y20300 : List Qab) (y20301 : List Keep) (y20302 : List Item) (y50000 : Dice) : Option (Exit × VS) :=
 let a1 := edY (x65 - x66).toNat x4.length x66 y20301 y50000
 some (.exit 2, Qe8 (y2) (y20300) (a1.1) (y20302) (a1.2))
theorem QOi (x4 : List ByteArray) (x65 x66 : Int) (y2 : Qao) (y20300 : List Qab) (y20301 : List Keep) (y20302 : List Item) (y50000 : Dice) : Qak g_f17 Qkd Ql4 (Qrp x4 x65 x66 y2 y20300 y20301 y20302 y50000) = QK6 x4 x65 x66 y2 y20300 y20301 y20302 y50000 := by kernel_rfl
theorem QzH (x4 : List ByteArray) (x65 x66 : Int) (y2 : Qao) (y20300 : List Qab) (y20301 : List Keep) (y20302 : List Item) (y50000 : Dice) : QmO x4 x65 x66 y2 y20300 y20301 y20302 y50000 = QsF x4 x65 x66 y2 y20300 y20301 y20302 y50000 := (Qan _ _).trans (by
 rw [QOi]
 simp only [QK6, QsF, Qax, nxt_n, nxt_r, nxt_e, nxt_0]
 rfl)
def QK5 (x10 : Int) (y2 : Qao) (y3_1 : List Keep) (y20300 : List Qab) (y20302 : List Item) (y50000 : Dice) : Option (Exit × VS) :=
 let a2 := (ByteArray.mk #[98, 97, 99, 107, 117, 112])
 let a3 := (ByteArray.mk #[100, 101, 101, 100])
 let a5 := (dwdGN y50000 ([a2, a3]))
 let a6 := (dwdG y50000 ([a2, a3]))
 let a1 := itemV a5 a6
 let a4 := ((a1.2).1, (((a1.2).2).1, ((((a1.2).2).2).1, (((((a1.2).2).2).2).1, ()))))
 br (igt x10 0) (br (wdGOk y50000 ([a2, a3])) (br (dOkS a5 a6) (br (cApp y20302 ([(a1.1, a4)]) 64) (some (.normal, Qro (isub .i64 x10 1) y2 y3_1 y20300 (y20302 ++ ([(a1.1, a4)])) (itemN a5 a6))) none) none) none) (some (.exit 6, Qe7 y2 y3_1 y20300 y20302 y50000))
noncomputable def QmN (x10 : Int) (y2 : Qao) (y3_1 : List Keep) (y20300 : List Qab) (y20302 : List Item) (y50000 : Dice) : Option (Exit × VS) := loopF (Qak g_f17 Qkc Ql3) (Qro x10 y2 y3_1 y20300 y20302 y50000)
noncomputable def QsE (x10 : Int) (y2 : Qao) (y3_1 : List Keep) (y20300 : List Qab) (y20302 : List Item) (y50000 : Dice) : Option (Exit × VS) :=
 let a2 := (ByteArray.mk #[98, 97, 99, 107, 117, 112])
 let a3 := (ByteArray.mk #[100, 101, 101, 100])
 let a5 := (dwdGN y50000 ([a2, a3]))
 let a6 := (dwdG y50000 ([a2, a3]))
 let a1 := itemV a5 a6
 let a4 := ((a1.2).1, (((a1.2).2).1, ((((a1.2).2).2).1, (((((a1.2).2).2).2).1, ()))))
 br (igt x10 0) (br (wdGOk y50000 ([a2, a3])) (br (dOkS a5 a6) (br (cApp y20302 ([(a1.1, a4)]) 64) (QmN (isub .i64 x10 1) y2 y3_1 y20300 (y20302 ++ ([(a1.1, a4)])) (itemN a5 a6)) none) none) none) (some (.exit 6, Qe7 y2 y3_1 y20300 y20302 y50000))
def QmV (x10 : Int) (y2 : Qao) (y3_1 : List Keep) (y20300 : List Qab) (y20302 : List Item) (y50000 : Dice) : Option (Exit × VS) := some (.exit 6, Qe7 (y2) (y3_1) (y20300) (y20302 ++ (itZ x10.toNat y50000).1) ((itZ x10.toNat y50000).2))
theorem QOh (x10 : Int) (y2 : Qao) (y3_1 : List Keep) (y20300 : List Qab) (y20302 : List Item) (y50000 : Dice) : Qak g_f17 Qkc Ql3 (Qro x10 y2 y3_1 y20300 y20302 y50000) = QK5 x10 y2 y3_1 y20300 y20302 y50000 := by kernel_rfl
theorem QzG (x10 : Int) (y2 : Qao) (y3_1 : List Keep) (y20300 : List Qab) (y20302 : List Item) (y50000 : Dice) : QmN x10 y2 y3_1 y20300 y20302 y50000 = QsE x10 y2 y3_1 y20300 y20302 y50000 := (Qan _ _).trans (by
 rw [QOh]
 simp only [QK5, QsE, Qax, nxt_n, nxt_r, nxt_e, nxt_0]
 rfl)
def r_f17 (d0 : Dice) : Option (V × List VO) :=
 let a6 := (ByteArray.mk #[97, 112, 112])
 let a8 := (ByteArray.mk #[100, 98])
 let a7 := (ByteArray.mk #[119, 101, 98])
 let a2 := (lsl ([a6, a8, a7]) 0 (iadd .i64 2 (dval d0 2)))
 let a5 := (sndZ (a2.drop (0 : Int).toNat) (0 : Int).toNat (dnext d0 2))
 let a1 := (edY ((llen a2) - (0 : Int)).toNat a2.length (0 : Int) ([] : List Keep) (a5.2))
 let a3 := (dOk (dnext (a1.2) 3) && decide (0 ≤ (dval (a1.2) 3) ∧ (dval (a1.2) 3) ≤ 3 ∧ ([] : List Item).length + (dval (a1.2) 3).toNat ≤ 100))
 let a4 := itZ (dval (a1.2) 3).toNat (dnext (a1.2) 3)
 br (QaQ d0 2) (br (cSl ([a6, a8, a7]) 0 (iadd .i64 2 (dval d0 2)) ((List.length ([a6, a8, a7]) : Nat) : Int)) (br (rngOk a2 (llen a2) (0 : Int) && (dOk (dnext d0 2) && (decide (([] : List Qab).length ≤ (0 : Int)) && a2.all nm1))) (br (dOk (a5.2) && decide (0 ≤ (0 : Int) ∧ (0 : Int) ≤ (llen a2) ∧ (llen a2) ≤ 3 ∧ a2.length ≤ 3 ∧ ([] : List Keep).length ≤ 3)) (br (ieq (llen (a1.1)) 0) (br (QaQ (a1.2) 3) (br a3 (some (.t Qas ((([] : List Qab) ++ a5.1), (([(0, (1, ()))]), ((([] : List Item) ++ a4.1), ()))), [.box (.t QaJ (a4.2))])) none) none) (br (QaQ (a1.2) 3) (br a3 (some (.t Qas ((([] : List Qab) ++ a5.1), ((a1.1), ((([] : List Item) ++ a4.1), ()))), [.box (.t QaJ (a4.2))])) none) none)) none) none) none) none
theorem e_f17 (d0 : Dice) : runF g_f17 QDy QP4 false [.ptr 50000 0] [.box (.t QaJ d0)] = r_f17 d0 := by kernel_rfl
theorem en_f17 : Qah Tryz.prog 17 := .inr ⟨by decide, _, Tryz.func17, by kernel_rfl, by kernel_rfl⟩
theorem gk_f17 : GOk Tryz.prog g_f17 := Qal _ (gA (gC Qvp QuE (gC en_f37 ms_f37 (gC en_f38 ms_f38 (gC QQF QQt (gC en_f46 ms_f46 (gC en_f47 ms_f47 (gC en_f48 ms_f48 gN))))))))
theorem QTM (x4 x16 : List ByteArray) (x17 x18 : Int) (y2 : Qao) (y20300 : List Qab) (y20301 : List Keep) (y20302 : List Item) (y50000 : Dice) (h : (rngOk x16 x17 x18 && (dOk y50000 && (decide (y20300.length ≤ x18) && x16.all nm1))) = true) : Qho x4 x16 x17 x18 y2 y20300 y20301 y20302 y50000 = QfA x4 x16 x17 x18 y2 y20300 y20301 y20302 y50000 := by
 simp only [Bool.and_eq_true, decide_eq_true_eq] at h
 obtain ⟨h0, hd, hl, ha⟩ := h
 obtain ⟨rfl, h3, k, rfl, hk⟩ := rng_k h0
 clear h0
 revert y20300 y50000
 refine Qat x16 (fun k => ∀ (y20300 : List Qab) (y50000 : Dice), dOk y50000 = true → (y20300.length : Int) ≤ (k : Int) → Qho x4 x16 (x16.length : Int) (k : Int) y2 y20300 y20301 y20302 y50000 = QfA x4 x16 (x16.length : Int) (k : Int) y2 y20300 y20301 y20302 y50000) ?_ ?_ k hk
 ·intro y20300 y50000 _ _
  rw [QzJ]
  simp only [Qo4, Qdq, QeM, QeL, Qer, QfA, Qar, Nat.lt_irrefl, decide_false, Qaf, Int.toNat_natCast, List.drop_length, sndZ, List.append_nil]
 ·intro k hk ih y20300 y50000 hd hl
  rw [QzJ]
  have c1 : ofOk y50000 [3, 3, 4] = true := QRa hd (by decide) (by decide)
  have d1 := Qvv (l := [3, 3, 4]) hd
  have c2 : QaQ (dofN y50000 [3, 3, 4]) 3 = true := Qgn d1 (by omega)
  have d2 := QaH (n := 3) d1
  have c3 : oneOk (dnext (dofN y50000 [3, 3, 4]) 3) 2 = true := Qzp d2 (by omega) (by omega)
  have c4 : oneOk (dnext (dnext (dofN y50000 [3, 3, 4]) 3) 2) 3 = true := Qzp (QaH d2) (by omega) (by omega)
  have b3 := Qbp (d := dofN y50000 [3, 3, 4]) (n := 3) (by omega)
  have c5 : cIx ([[10, 8, 2], [8, 2], [2, 10, 8, 3]] : List (List Int)) (dval (dofN y50000 [3, 3, 4]) 3) = true := decide_eq_true ⟨b3.1, b3.2⟩
  have c6 : QqX x16[k] rsaK (iadd .i64 100 (k : Int)) 1 901 = true := List.all_eq_true.1 ha _ (List.getElem_mem hk)
  have c7 : ∀ v, cApp y20300 [v] 144 = true := fun v => cAppN (by omega) (by simp only [List.length_singleton]; omega)
  have b4 : ∀ q, (lgt (.sl tI) [[10, 8, 2], [8, 2], [2, 10, 8, 3]] q).length ≤ 4 := fun q => QTy (by simp) q
  have c8 : cApp ([14] : List Int) (lgt (.sl tI) [[10, 8, 2], [8, 2], [2, 10, 8, 3]] (dval (dofN y50000 [3, 3, 4]) 3).toNat) 8 = true := cAppN (by decide) (by have := b4 (dval (dofN y50000 [3, 3, 4]) 3).toNat; simp only [List.length_singleton]; omega)
  simp only [Qo4, Qdq, QeM, QeL, Qer, Qar, Qau, hk, decide_true, Qac, Int.toNat_natCast, add1 (show k < 4611686018427387904 by omega), Qay (y := .str) hk, c1, c2, c3, c4, c6, c7, Qer]
  have hi : ∀ v, Qho x4 x16 (x16.length : Int) ((k + 1 : Nat) : Int) y2 (y20300 ++ [v]) y20301 y20302 (sndD y50000) = QfA x4 x16 (x16.length : Int) ((k + 1 : Nat) : Int) y2 (y20300 ++ [v]) y20301 y20302 (sndD y50000) := fun v => ih _ _ (QKb hd) (by simp only [List.length_append, List.length_singleton]; omega)
  have goal2 : QfA x4 x16 (x16.length : Int) ((k + 1 : Nat) : Int) y2 (y20300 ++ [sndE y50000 k x16[k]]) y20301 y20302 (sndD y50000) = QfA x4 x16 (x16.length : Int) (k : Int) y2 y20300 y20301 y20302 y50000 := by
   simp only [QfA, Int.toNat_natCast, List.drop_eq_getElem_cons hk, sndZ, List.append_assoc, List.singleton_append]
  refine Eq.trans ?_ ((hi _).trans goal2)
  unfold sndE sndSu
  refine brY c5 ?_
  cases ieq (dof y50000 [3, 3, 4]) 4 with
  | false => rfl
  | true => exact brY rfl (brY c8 rfl)
theorem QTL (x4 : List ByteArray) (x8 x65 x66 x70 x71 : Int) (y2 : Qao) (y20300 : List Qab) (y20301 : List Keep) (y20302 : List Item) (y50000 : Dice) (h : (dOk y50000 && decide (0 ≤ x71 ∧ x71 ≤ x70 ∧ x70 ≤ 3 ∧ y20301.length ≤ 3)) = true) : Qft x4 x8 x65 x66 x70 x71 y2 y20300 y20301 y20302 y50000 = Qfz x4 x8 x65 x66 x70 x71 y2 y20300 y20301 y20302 y50000 := by
 simp only [Bool.and_eq_true, decide_eq_true_eq] at h
 obtain ⟨hd, h0, h1, h2, hl⟩ := h
 have key : ∀ (m : Nat) (x71 : Int) (y20301 : List Keep) (y50000 : Dice), x71 + m = x70 → 0 ≤ x71 → dOk y50000 = true → y20301.length ≤ 3 → Qft x4 x8 x65 x66 x70 x71 y2 y20300 y20301 y20302 y50000 = Qfz x4 x8 x65 x66 x70 x71 y2 y20300 y20301 y20302 y50000 := by
  intro m
  induction m with
  | zero =>
   intro x71 y20301 y50000 e _ _ _
   rw [QzI]
   have : x70 = x71 := by omega
   subst this
   simp only [QsG, Qfz, show ilt x70 x70 = false from decide_eq_false (by omega), Qaf, Int.sub_self, Int.toNat_zero, edZ]
  | succ m ih =>
   intro x71 y20301 y50000 e h0 hd hl
   rw [QzI]
   have c1 : QaQ y50000 3 = true := Qgn hd (by omega)
   have c2 : cApp y20301 [(x8, (x71, ()))] 16 = true := cAppN (by omega) (by simp only [List.length_singleton]; omega)
   have e1 : iadd .i64 x71 1 = x71 + 1 := Qbc (by omega)
   have e2 : (x70 - x71).toNat = m + 1 := by omega
   have e3 : (x70 - (x71 + 1)).toNat = m := by omega
   simp only [QsG, show ilt x71 x70 = true from decide_eq_true (by omega), Qac, c1, c2, e1]
   have i0 := ih (x71 + 1) y20301 y50000 (by omega) (by omega) hd hl
   have i1 := ih (x71 + 1) y20301 (dnext y50000 3) (by omega) (by omega) (QaH hd) hl
   rw [i0, i1]
   cases hn : ine x8 x71 with
   | false => simp only [Qaf, Qfz, e2, e3, edZ, hn, cond_false]
   | true =>
    cases hg : igt (dval y50000 3) 0 with
    | false => simp only [Qac, Qaf, Qfz, e2, e3, edZ, hn, hg, cond_true, Bool.false_and, cond_false]
    | true =>
     cases hq : ilt (llen y20301) 3 with
     | false => simp only [Qac, Qaf, Qfz, e2, e3, edZ, hn, hg, hq, cond_true, Bool.and_false, cond_false]
     | true =>
      have hl3 : y20301.length < 3 := by have := of_decide_eq_true hq; simp only [llen] at this; omega
      have i2 := ih (x71 + 1) (y20301 ++ [(x8, (x71, ()))]) (dnext y50000 3) (by omega) (by omega) (QaH hd) (by simp only [List.length_append, List.length_singleton]; omega)
      rw [i2]
      simp only [Qac, Qfz, e2, e3, edZ, hn, hg, hq, cond_true, Bool.and_self]
 exact key (x70 - x71).toNat x71 y20301 y50000 (by omega) h0 hd hl
theorem QTK (x4 : List ByteArray) (x65 x66 : Int) (y2 : Qao) (y20300 : List Qab) (y20301 : List Keep) (y20302 : List Item) (y50000 : Dice) (h : (dOk y50000 && decide (0 ≤ x66 ∧ x66 ≤ x65 ∧ x65 ≤ 3 ∧ x4.length ≤ 3 ∧ y20301.length ≤ 3)) = true) : QmO x4 x65 x66 y2 y20300 y20301 y20302 y50000 = QmW x4 x65 x66 y2 y20300 y20301 y20302 y50000 := by
 simp only [Bool.and_eq_true, decide_eq_true_eq] at h
 obtain ⟨hd, h0, h1, h2, h3, hl⟩ := h
 have key : ∀ (m : Nat) (x66 : Int) (y20301 : List Keep) (y50000 : Dice), x66 + m = x65 → 0 ≤ x66 → dOk y50000 = true → y20301.length ≤ 3 → QmO x4 x65 x66 y2 y20300 y20301 y20302 y50000 = QmW x4 x65 x66 y2 y20300 y20301 y20302 y50000 := by
  intro m
  induction m with
  | zero =>
   intro x66 y20301 y50000 e _ _ _
   rw [QzH]
   have : x65 = x66 := by omega
   subst this
   simp only [QsF, QmW, show ilt x65 x65 = false from decide_eq_false (by omega), Qaf, Int.sub_self, Int.toNat_zero, edY]
  | succ m ih =>
   intro x66 y20301 y50000 e h0 hd hl
   rw [QzH]
   have e1 : iadd .i64 x66 1 = x66 + 1 := Qbc (by omega)
   have e2 : (x65 - x66).toNat = m + 1 := by omega
   have e3 : (x65 - (x66 + 1)).toNat = m := by omega
   have e4 : (llen x4 - 0).toNat = x4.length := by simp only [llen]; omega
   have hz := Qq2 x4.length x66 0 y20301 y50000 hd hl
   simp only [QsF, show ilt x66 x65 = true from decide_eq_true (by omega), Qac, e1, e4, hd, Bool.true_and]
   refine brY (decide_eq_true (by simp only [llen]; omega)) ?_
   rw [ih (x66 + 1) _ _ (by omega) (by omega) hz.1 hz.2]
   simp only [QmW, e2, e3, edY]
 exact key (x65 - x66).toNat x66 y20301 y50000 (by omega) h0 hd hl
theorem QTJ (x10 : Int) (y2 : Qao) (y3_1 : List Keep) (y20300 : List Qab) (y20302 : List Item) (y50000 : Dice) (h : (dOk y50000 && decide (0 ≤ x10 ∧ x10 ≤ 3 ∧ y20302.length + x10.toNat ≤ 100)) = true) : QmN x10 y2 y3_1 y20300 y20302 y50000 = QmV x10 y2 y3_1 y20300 y20302 y50000 := by
 simp only [Bool.and_eq_true, decide_eq_true_eq] at h
 obtain ⟨hd, h0, h1, hl⟩ := h
 obtain ⟨n, rfl⟩ := Int.eq_ofNat_of_zero_le h0
 rw [Int.toNat_natCast] at hl
 have key : ∀ (n : Nat) (y20302 : List Item) (y50000 : Dice), dOk y50000 = true → y20302.length + n ≤ 100 → QmN (n : Int) y2 y3_1 y20300 y20302 y50000 = QmV (n : Int) y2 y3_1 y20300 y20302 y50000 := by
  intro n
  induction n with
  | zero =>
   intro y20302 y50000 _ _
   rw [QzG]
   simp only [QsE, QmV, show igt ((0 : Nat) : Int) 0 = false from rfl, Qaf, Int.toNat_natCast, itZ, List.append_nil]
  | succ n ih =>
   intro y20302 y50000 hd hl
   rw [QzG]
   have e2 : isub .i64 ((n + 1 : Nat) : Int) 1 = (n : Int) := (Qch (by omega)).trans (by omega)
   have c1 : wdGOk y50000 sIt = true := by simp [wdGOk, hd]
   have c2 : dOkS (dwdGN y50000 sIt) (dwdG y50000 sIt) = true := QAR hd
   have c3 : ∀ v, cApp y20302 [v] 64 = true := fun v => cAppN (by omega) (by simp only [List.length_singleton]; omega)
   simp only [QsE, show igt ((n + 1 : Nat) : Int) 0 = true from decide_eq_true (by omega), Qac, e2, c1, c2, c3]
   refine Eq.trans (ih _ _ (QN1 (s := dwdG y50000 sIt) (QAR hd)) (by simp only [List.length_append, List.length_singleton]; omega)) ?_
   simp only [QmV, Int.toNat_natCast, itZ, List.append_assoc, List.singleton_append]
 exact key n y20302 y50000 hd (by omega)
theorem QMq : ∀ S l p, g_f17.L 0 (fgt Qkf S) = some (true, l) → pickA l = some p → loopF (Qak g_f17 Qkf Ql6) S = some p :=
 QaD (s := QrP) ⟨by decide, by decide⟩ (by kernel_rfl) fun x y hok p hp => by
 simp only [Qap, Qam] at hp
 exact (QTM x.2.2.2.1 x.2.2.2.2.1 x.2.2.2.2.2.1 x.2.2.2.2.2.2.1 y.1 y.2.2.2.2.2.2.1 y.2.2.2.2.2.2.2.1 y.2.2.2.2.2.2.2.2.1 y.2.2.2.2.2.2.2.2.2.1 (by simpa using hok)).trans hp
theorem QMp : ∀ S l p, g_f17.L 1 (fgt Qke S) = some (true, l) → pickA l = some p → loopF (Qak g_f17 Qke Ql5) S = some p :=
 QaD (s := QrO) ⟨by decide, by decide⟩ (by kernel_rfl) fun x y hok p hp => by
 simp only [Qap, Qam] at hp
 exact (QTL x.2.2.2.1 x.2.2.2.2.1 x.2.2.2.2.2.1 x.2.2.2.2.2.2.1 x.2.2.2.2.2.2.2.1 x.2.2.2.2.2.2.2.2.1 y.1 y.2.2.2.2.2.2.1 y.2.2.2.2.2.2.2.1 y.2.2.2.2.2.2.2.2.1 y.2.2.2.2.2.2.2.2.2.1 (by simpa using hok)).trans hp
theorem QMo : ∀ S l p, g_f17.L 2 (fgt Qkd S) = some (true, l) → pickA l = some p → loopF (Qak g_f17 Qkd Ql4) S = some p :=
 QaD (s := QrN) ⟨by decide, by decide⟩ (by kernel_rfl) fun x y hok p hp => by
 simp only [Qap, Qam] at hp
 exact (QTK x.2.2.2.1 x.2.2.2.2.1 x.2.2.2.2.2.1 y.1 y.2.2.2.2.2.2.1 y.2.2.2.2.2.2.2.1 y.2.2.2.2.2.2.2.2.1 y.2.2.2.2.2.2.2.2.2.1 (by simpa using hok)).trans hp
theorem QMn : ∀ S l p, g_f17.L 3 (fgt Qkc S) = some (true, l) → pickA l = some p → loopF (Qak g_f17 Qkc Ql3) S = some p :=
 QaD (s := QrM) ⟨by decide, by decide⟩ (by kernel_rfl) fun x y hok p hp => by
 simp only [Qap, Qam] at hp
 exact (QTJ x.2.2.2.1 y.1 y.2.1.2.1 y.2.2.2.2.2.2.1 y.2.2.2.2.2.2.2.2.1 y.2.2.2.2.2.2.2.2.2.1 (by simpa using hok)).trans hp
theorem lk_f17 : QDy.lok g_f17 := by
 repeat (first | exact trivial | exact QMq | exact QMp | exact QMo | exact QMn | refine ⟨?_, ?_⟩)
set_option maxRecDepth 100000 in
theorem s_f17 (d : Dice) (h : dOk d = true) : r_f17 d = some (.t Qas (sndV d), [.box (.t QaJ (sndN d))]) := by
 have hv := Qbp (d := d) (n := 2) (by omega)
 have e : iadd .i64 2 (dval d 2) = 2 + dval d 2 := Qbc (by omega)
 have c1 : QaQ d 2 = true := Qgn h (by omega)
 have hn := Qmh d
 have hd := QaH (n := 2) h
 have hz := QER (sndNm d) 0 (dnext d 2) hd
 have hy := QQK (sndNm d).length (sndNm d).length 0 [] _ hz (Nat.zero_le _)
 have hy1 : dOk (sndEd d).2 = true := hy.1
 have hv3 := Qbp (d := (sndEd d).2) (n := 3) (by omega)
 simp only [r_f17, show lsl sAll 0 (iadd .i64 2 (dval d 2)) = sndNm d from rfl, List.nil_append, Int.toNat_zero, List.drop_zero, Int.sub_zero, show (llen (sndNm d)).toNat = (sndNm d).length by simp only [llen]; omega]
 simp only [show edY (sndNm d).length (sndNm d).length 0 [] (sndZ (sndNm d) 0 (dnext d 2)).2 = sndEd d from rfl]
 refine brY c1 (brY (decide_eq_true (by rw [e]; refine ⟨by omega, by omega, ?_, ?_⟩ <;> simp <;> omega)) (brY ?_ (brY ?_ ?_)))
 ·rw [rng_0 (by omega), hd, hn.2.2]
  rfl
 ·rw [hz]
  exact decide_eq_true (by simp only [llen, List.length_nil]; omega)
 ·have c2 : QaQ (sndEd d).2 3 = true := Qgn hy1 (by omega)
  have c3 : (dOk (dnext (sndEd d).2 3) && decide (0 ≤ dval (sndEd d).2 3 ∧ dval (sndEd d).2 3 ≤ 3 ∧ ([] : List Item).length + (dval (sndEd d).2 3).toNat ≤ 100)) = true := by
   rw [QaH hy1, decide_eq_true (by simp only [List.length_nil]; omega)]
   rfl
  cases hq : ieq (llen (sndEd d).1) 0 with
  | true =>
   rw [Qac]
   refine brY c2 (brY c3 ?_)
   unfold sndV sndEg
   rw [hq]
   rfl
  | false =>
   rw [Qaf]
   refine brY c2 (brY c3 ?_)
   unfold sndV sndEg
   rw [hq]
   rfl
def QPm : Ent := specP QaJ .nil (fun d x => (dOk d)) (fun d x => (.t Qas (sndV d))) (fun d x => (sndN d))
theorem ms_f17 : Meets Tryz.prog 17 (strip QPm) := Qcv (R := runF g_f17 QDy QP4 false) (mG Tryz.func17 (by kernel_rfl) Tryz.ntmps17 (by kernel_rfl) gk_f17 lk_f17) rfl fun d x hok => (e_f17 d).trans (s_f17 d hok)
end
end Go.Proofs.YtckcgijklnloiaaGreat.K
namespace Go.Proofs.YtckcgijklnloiaaGreat.K
open Go.RowKit
noncomputable section
attribute [local irreducible] epV epN prZ
end
end Go.Proofs.YtckcgijklnloiaaGreat.K
namespace Go.Proofs.YtckcgijklnloiaaGreat.K
open Go.RowKit
noncomputable section
theorem QLC {k : Keep} {id : Int} {l : List Qaa} (hk : kindU k 2 = true) (hd : keyI id = true) (hl : l.length ≤ 8) (h1 : l.all QaC = true) (h2 : QpL k id l = true) : QiU k id l = true := by
 simp only [kindU, Bool.and_eq_true] at hk
 have h8 : igt (llen l) 8 = false := decide_eq_false (by simp only [llen]; omega)
 have hi : ine (kindF k.1) 2 = false := by rw [Qyf, hk.2]; rfl
 unfold QiU
 rw [hk.1, hi, hd, h8, h1, h2]
 rfl
theorem QLt {c : Int} (h : 1 ≤ c ∧ c ≤ 16) : ieq (QaN c).2 0 = true := by
 unfold QaN
 rw [if_neg (by omega)]
 rfl
theorem QQR {l : List Int} (hn : l.Nodup) (hr : ∀ x ∈ l, 1 ≤ x ∧ x ≤ 16) : suitF l = true := by
 have key : ∀ (k : Nat) (hk : k < l.length), (ieq (QaN l[k]).2 0 && !hasF (l.take k) l[k]) = true := by
  intro k hk
  rw [QLt (hr _ (List.getElem_mem hk)), Bool.true_and, Bool.not_eq_true']
  unfold hasF
  rw [Bool.eq_false_iff]
  intro hc
  have hm := List.contains_iff_mem.1 hc
  obtain ⟨j, hj, he⟩ := List.mem_iff_getElem.1 hm
  rw [List.length_take] at hj
  rw [List.getElem_take] at he
  have := (List.nodup_iff_pairwise_ne.1 hn)
  rw [List.pairwise_iff_getElem] at this
  exact this j k (by omega) hk (by omega) he
 simp only [suitF, QfI, List.all_eq_true, List.mem_range'_1]
 intro k hk
 have hk2 : k < l.length := by omega
 simp only [List.getD_eq_getElem?_getD, List.getElem?_eq_getElem hk2, Option.getD_some]
 exact key k hk2
def goodS (l : List Int) : Prop := l.Nodup ∧ ∀ x ∈ l, 1 ≤ x ∧ x ≤ 16
def anOk (l : List Int) : Bool := !igt (llen l) 16 && (ascF l && l.all keyI)
def hsOk (l : List Int) : Bool := ascF l && l.all hashF
theorem QCS {e : Qab} (hw : wordF e.1 = true) (h1 : 1 ≤ e.2.1) (h2 : e.2.1 ≤ e.2.2.1) (h3 : e.2.2.1 ≤ 4) (hs : goodS (QaE e)) (hi : (eIds e).length ≤ 4) (hv : (eIds e).all idOk = true) (ha : anOk (eAnch e) = true) (hh : hsOk (eHash e) = true) : QaS e = true := by
 simp only [anOk, hsOk, Bool.and_eq_true] at ha hh
 have g1 : ilt e.2.1 1 = false := decide_eq_false (by omega)
 have g2 : igt e.2.1 e.2.2.1 = false := decide_eq_false (by omega)
 have g3 : igt e.2.2.1 4 = false := decide_eq_false (by omega)
 have g4 : igt (llen (eIds e)) 4 = false := decide_eq_false (by simp only [llen]; omega)
 unfold QaS
 rw [hw, g1, g2, g3, QQR hs.1 hs.2, g4, ha.1, ha.2.1, ha.2.2, hv, hh.1, hh.2]
 rfl
attribute [local irreducible] epV epN prZ
end
end Go.Proofs.YtckcgijklnloiaaGreat.K
namespace Go.Proofs.YtckcgijklnloiaaGreat.K
open Go.RowKit
noncomputable section
theorem QWp {c s : Qab} {x : Keep} (hx : x ∈ Qbq c s) : posE s (QaE c) x.1 x.2.1 = true ∧ loC c s ≤ x.1 ∧ x.1 ≤ hiC c s := by
 unfold Qbq at hx
 cases hr : QeJ c s with
 | false => rw [hr] at hx; cases hx
 | true =>
  rw [hr] at hx
  obtain ⟨hv, hw⟩ := Bool.and_eq_true_iff.1 hr
  have v1 := QbZ hv
  have v2 := QbZ hw
  have b1 : 1 ≤ loC c s := by simp only [loC, imx]; omega
  change x ∈ verC s (QaE c) (loC c s).toNat (hiC c s + 1 - loC c s).toNat at hx
  unfold verC rowC at hx
  simp only [List.mem_flatMap, List.mem_range'_1, List.mem_map, List.mem_filter] at hx
  obtain ⟨j, hj, k, ⟨_, hp⟩, rfl⟩ := hx
  exact ⟨hp, by show loC c s ≤ (j : Int); omega, by show (j : Int) ≤ hiC c s; omega⟩
theorem QCz {c s : Qab} {v k : Int} (hr : QeJ c s = true) (h1 : loC c s ≤ v) (h2 : v ≤ hiC c s) (hp : posE s (QaE c) v k = true) : (v, (k, ())) ∈ Qbq c s := by
 have hk : 1 ≤ k ∧ k ≤ 16 := by
  simp only [posE, Bool.and_eq_true] at hp
  exact Qnn hp.1
 obtain ⟨hv, hw⟩ := Bool.and_eq_true_iff.1 hr
 have v1 := QbZ hv
 have v2 := QbZ hw
 have b1 : 1 ≤ loC c s := by simp only [loC, imx]; omega
 unfold Qbq
 rw [hr]
 show _ ∈ verC s (QaE c) (loC c s).toNat (hiC c s + 1 - loC c s).toNat
 unfold verC rowC
 simp only [List.mem_flatMap, List.mem_range'_1, List.mem_map, List.mem_filter]
 refine ⟨v.toNat, by omega, k.toNat, ⟨by omega, ?_⟩, ?_⟩
 ·rw [Int.toNat_of_nonneg (by omega), Int.toNat_of_nonneg (by omega)]
  exact hp
 ·rw [Int.toNat_of_nonneg (by omega), Int.toNat_of_nonneg (by omega)]
end
end Go.Proofs.YtckcgijklnloiaaGreat.K
namespace Go.Proofs.YtckcgijklnloiaaGreat.K
open Go.RowKit
abbrev leafS (s : ByteArray) (k : Nat) : Qaa := (signC (leafC s rsaK (iadd .i64 100 (k : Int)) 901) 1).1
def QmQ (s : ByteArray) (k : Nat) : Bool :=
 QaG (leafS s k) && (QaC (leafS s k) && (QpL rsaK (iadd .i64 100 (k : Int)) [leafS s k] && (keyI (iadd .i64 100 (k : Int)) && (hasS (Qaz (leafS s k)) s && (!Qcm [leafS s k] 11 && (!Qcm [leafS s k] 15 && (!Qcm [leafS s k] 10 && (ieq (cSeal (leafS s k)).1 1 && (ieq (leafS s k).2.2.2.2.2.2.1 0 && (ieq (leafS s k).2.2.2.2.2.2.2.1 901 && (ieq (leafS s k).2.2.2.2.2.1.1 3 && (wordF s && nameG s))))))))))))
set_option maxRecDepth 100000 in
theorem QMy : (sAll.all fun s => (List.range 3).all fun k => QmQ s k) = true := by kernel_rfl
theorem Qve {s : ByteArray} {k : Nat} (hs : s ∈ sAll) (hk : k < 3) : QmQ s k = true :=
 List.all_eq_true.1 (List.all_eq_true.1 QMy s hs) k (List.mem_range.2 hk)
def sndP (e : Qab) : Prop := ∃ d k s, e = sndE d k s ∧ s ∈ sAll ∧ k < 3
theorem QLP : kindU rsaK 2 = true := by kernel_rfl
theorem QsJ (d : Dice) : dof d [3, 3, 4] = 3 ∨ dof d [3, 3, 4] = 4 := by
 have h := QyJ (d := d) (l := [3, 3, 4]) (by decide)
 simp only [List.mem_cons, List.not_mem_nil, or_false] at h
 omega
def goodB (l : List Int) : Bool := decide l.Nodup && l.all fun x => decide (1 ≤ x ∧ x ≤ 16)
theorem QTU {l : List Int} (h : goodB l = true) : goodS l := by
 simp only [goodB, Bool.and_eq_true, decide_eq_true_eq, List.all_eq_true] at h
 exact h
theorem QLw (d : Dice) : sndSu d ∈ [[10, 8, 2], [8, 2], [2, 10, 8, 3], [14, 10, 8, 2], [14, 8, 2], ([14, 2, 10, 8, 3] : List Int)] := by
 have b3 := Qbp (d := dofN d [3, 3, 4]) (n := 3) (by omega)
 unfold sndSu
 rcases (show dval (dofN d [3, 3, 4]) 3 = 0 ∨ dval (dofN d [3, 3, 4]) 3 = 1 ∨ dval (dofN d [3, 3, 4]) 3 = 2 by omega) with h | h | h <;> rw [h] <;> cases ieq (dof d [3, 3, 4]) 4 <;> decide
theorem Qy3 {p : List Int → Bool} (h : [[10, 8, 2], [8, 2], [2, 10, 8, 3], [14, 10, 8, 2], [14, 8, 2], ([14, 2, 10, 8, 3] : List Int)].all p = true) (d : Dice) : p (sndSu d) = true := List.all_eq_true.1 h _ (QLw d)
theorem QQX {e : Qab} (h : sndP e) : Qba e = true := by
 obtain ⟨d, k, s, rfl, hs, hk⟩ := h
 have hg := Qve hs hk
 simp only [QmQ, Bool.and_eq_true] at hg
 have hsu : (sndSu d).length ≤ 5 := of_decide_eq_true (Qy3 (p := fun l => decide (l.length ≤ 5)) (by decide) d)
 have hc : QaZ [leafS s k] = true := by
  simp only [QaZ, List.all_cons, List.all_nil, hg.1, Bool.and_true]
  rfl
 unfold Qba
 simp only [Bool.and_eq_true, decide_eq_true_eq]
 refine ⟨⟨hg.2.2.2.2.2.2.2.2.2.2.2.2.2, ⟨?_, ?_, ?_, ?_⟩⟩, ?_⟩
 ·show (sndSu d).length ≤ 100000
  omega
 ·exact (show 1 ≤ 100000 by decide)
 ·exact (show 1 ≤ 100000 by decide)
 ·exact (show 2 ≤ 100000 by decide)
 ·show (idLen (leafV s rsaK (iadd .i64 100 (k : Int)) 1 901) && true) = true
  rw [Bool.and_true]
  exact hc
theorem QiT {e : Qab} (h : sndP e) : QaS e = true := by
 obtain ⟨d, k, s, rfl, hs, hk⟩ := h
 have hg := Qve hs hk
 simp only [QmQ, Bool.and_eq_true] at hg
 have hm := QsJ d
 refine QCS (e := sndE d k s) hg.2.2.2.2.2.2.2.2.2.2.2.2.1 (Int.le_refl _) ?_ ?_ (QTU (Qy3 (p := goodB) (by decide) d)) (show 1 ≤ 4 by decide) ?_ (show anOk [1] = true by decide) (show hsOk [2, 3] = true by kernel_rfl)
 ·show (1 : Int) ≤ dof d [3, 3, 4]
  omega
 ·show dof d [3, 3, 4] ≤ 4
  omega
 ·show (idOk (leafV s rsaK (iadd .i64 100 (k : Int)) 1 901) && true) = true
  rw [Bool.and_true]
  refine QLC QLP hg.2.2.2.1 (show 1 ≤ 8 by decide) ?_ hg.2.2.1
  show (QaC (leafS s k) && true) = true
  rw [hg.2.1]
  rfl
theorem QQW {c e : Qab} (hc : sndP c) (he : sndP e) {x : Int} (hx : x = 2 ∨ x = 8) : posE e (QaE c) 3 x = true ∧ loC c e ≤ 3 ∧ 3 ≤ hiC c e := by
 obtain ⟨d, k, s, rfl, hs, hk⟩ := he
 obtain ⟨dc, kc, sc, rfl, _, _⟩ := hc
 have m1 := QsJ d
 have m2 := QsJ dc
 refine ⟨?_, ?_, ?_⟩
 ·have h1 : ∀ dd, hasF (sndSu dd) 2 = true ∧ hasF (sndSu dd) 8 = true := fun dd => ⟨Qy3 (p := fun l => hasF l 2) (by decide) dd, Qy3 (p := fun l => hasF l 8) (by decide) dd⟩
  have h2 : QaE (sndE dc kc sc) = sndSu dc := rfl
  have h3 : QaE (sndE d k s) = sndSu d := rfl
  unfold posE
  rw [h2, h3]
  rcases hx with rfl | rfl
  ·rw [(h1 d).1, (h1 dc).1]
   rfl
  ·rw [(h1 d).2, (h1 dc).2]
   rfl
 ·show imx 1 1 ≤ 3
  decide
 ·show 3 ≤ imn (dof dc [3, 3, 4]) (dof d [3, 3, 4])
  unfold imn
  split <;> omega
theorem QBJ {c e : Qab} (hc : sndP c) (he : sndP e) {x : Int} (hx : x = 2 ∨ x = 8) : (3, (x, ())) ∈ Qbq c e := by
 obtain ⟨h1, h2, h3⟩ := QQW hc he hx
 exact QCz (Bool.and_eq_true_iff.2 ⟨QiT hc, QiT he⟩) h2 h3 h1
theorem Qza : ∀ (l : List ByteArray) (k : Nat) (d : Dice), (sndZ l k d).1.length = l.length
 | [], _, _ => rfl
 | _ :: r, k, d => by simp only [sndZ, List.length_cons, Qza r (k + 1) (sndD d)]
theorem Qzb : ∀ (l : List ByteArray) (k : Nat) (d : Dice), (∀ s ∈ l, s ∈ sAll) → k + l.length ≤ 3 → ∀ e ∈ (sndZ l k d).1, sndP e
 | [], _, _, _, _, e, he => by cases he
 | s :: r, k, d, h, hk, e, he => by
  simp only [sndZ, List.mem_cons] at he
  simp only [List.length_cons] at hk
  rcases he with rfl | he
  ·exact ⟨d, k, s, rfl, h s List.mem_cons_self, by omega⟩
  ·exact Qzb r (k + 1) (sndD d) (fun s hs => h s (List.mem_cons_of_mem _ hs)) (by omega) e he
theorem QES (d : Dice) : ∀ s ∈ sndNm d, s ∈ sAll := by
 rcases Qh1 d with h | h <;> rw [h]
 ·exact fun s hs => List.mem_of_mem_take hs
 ·exact fun s hs => hs
theorem QEQ (d : Dice) : ∀ e ∈ xEps (sndV d), sndP e := Qzb (sndNm d) 0 (dnext d 2) (QES d) (by have := Qmh d; omega)
theorem QtD (d : Dice) : (xEps (sndV d)).length = (sndNm d).length := Qza _ _ _
theorem snd_up (d : Dice) : epUp (xEps (sndV d)) 0 = true := by
 have hv : ∀ d k s, s ∈ sAll → k < 3 → QaS (sndE d k s) = true := fun d k s hs hk => QiT ⟨d, k, s, rfl, hs, hk⟩
 have q1 : slt (ByteArray.mk #[97, 112, 112]) (ByteArray.mk #[100, 98]) = true := by kernel_rfl
 have q2 : slt (ByteArray.mk #[100, 98]) (ByteArray.mk #[119, 101, 98]) = true := by kernel_rfl
 show epUp2 (sndZ (sndNm d) 0 (dnext d 2)).1 (sndZ (sndNm d) 0 (dnext d 2)).1 0 = true
 rcases Qh1 d with h | h <;> rw [h]
 ·show (QaS (sndE _ 0 _) && true && (QaS (sndE _ 1 _) && (false || slt (ByteArray.mk #[97, 112, 112]) (ByteArray.mk #[100, 98])) && true)) = true
  rw [hv _ _ _ (by simp) (by decide), hv _ _ _ (by simp) (by decide), q1]
  rfl
 ·show (QaS (sndE _ 0 _) && true && (QaS (sndE _ 1 _) && (false || slt (ByteArray.mk #[97, 112, 112]) (ByteArray.mk #[100, 98])) && (QaS (sndE _ 2 _) && (false || slt (ByteArray.mk #[100, 98]) (ByteArray.mk #[119, 101, 98])) && true))) = true
  rw [hv _ _ _ (by simp) (by decide), hv _ _ _ (by simp) (by decide), hv _ _ _ (by simp) (by decide), q1, q2]
  rfl
def lexL (a b : Keep) : Prop := a.1 < b.1 ∨ (a.1 = b.1 ∧ a.2.1 < b.2.1)
def edG (n : Int) (l : List Keep) (i k : Int) : Prop := (∀ x ∈ l, egIn n x = true) ∧ l.Pairwise lexL ∧ ∀ x ∈ l, lexL x (i, (k, ()))
theorem Qm8 {n : Int} {l : List Keep} {i k i' k' : Int} (h : edG n l i k) (hl : i < i' ∨ (i = i' ∧ k ≤ k')) : edG n l i' k' := by
 refine ⟨h.1, h.2.1, fun x hx => ?_⟩
 have := h.2.2 x hx
 simp only [lexL] at this ⊢
 omega
theorem Qm7 {n : Int} : ∀ (m : Nat) (i k : Int) (l : List Keep) (d : Dice), 0 ≤ i → i < n → 0 ≤ k → k + m ≤ n → edG n l i k → edG n (edZ m i k l d).1 i (k + m)
 | 0, i, k, l, d, _, _, _, _, h => Qm8 h (.inr ⟨rfl, by omega⟩)
 | m + 1, i, k, l, d, h0, h1, h2, h3, h => by
  have hs : edG n l i (k + 1) := Qm8 h (.inr ⟨rfl, by omega⟩)
  have e : k + ((m + 1 : Nat) : Int) = k + 1 + m := by omega
  unfold edZ
  rw [e]
  cases hn : ine i k with
  | false => exact Qm7 m i (k + 1) l d h0 h1 (by omega) (by omega) hs
  | true =>
   cases h4 : (igt (dval d 3) 0 && ilt (llen l) 3) with
   | false => exact Qm7 m i (k + 1) l (dnext d 3) h0 h1 (by omega) (by omega) hs
   | true =>
    have hne : i ≠ k := by simpa [ine] using hn
    refine Qm7 m i (k + 1) (l ++ [(i, (k, ()))]) (dnext d 3) h0 h1 (by omega) (by omega) ⟨fun x hx => ?_, ?_, fun x hx => ?_⟩
    ·rcases List.mem_append.1 hx with hx | hx
     ·exact h.1 x hx
     ·rw [List.mem_singleton.1 hx]
      simp only [egIn, ilt, ige, QfD, Bool.and_eq_true, Bool.not_eq_true', decide_eq_false_iff_not]
      exact ⟨by omega, by omega, by omega, by omega, hne⟩
    ·rw [List.pairwise_append]
     refine ⟨h.2.1, List.pairwise_singleton _ _, fun x hx y hy => ?_⟩
     rw [List.mem_singleton.1 hy]
     exact h.2.2 x hx
    ·rcases List.mem_append.1 hx with hx | hx
     ·exact hs.2.2 x hx
     ·rw [List.mem_singleton.1 hx]
      exact .inr ⟨rfl, by show k < k + 1; omega⟩
theorem QAN {n : Int} : ∀ (m nn : Nat) (i : Int) (l : List Keep) (d : Dice), (nn : Int) ≤ n → 0 ≤ i → i + m ≤ n → edG n l i 0 → edG n (edY m nn i l d).1 (i + m) 0
 | 0, nn, i, l, d, _, _, _, h => Qm8 h (by omega)
 | m + 1, nn, i, l, d, hnn, h0, h1, h => by
  have := Qm7 nn i 0 l d h0 (by omega) (by omega) (by omega) h
  have e : i + ((m + 1 : Nat) : Int) = i + 1 + m := by omega
  unfold edY
  rw [e]
  exact QAN m nn (i + 1) _ _ hnn (by omega) (by omega) (Qm8 this (.inl (by omega)))
theorem QJO {n i k : Int} {l : List Keep} (h : edG n l i k) : egUp n l 0 = true := by
 unfold egUp
 rw [List.all_eq_true]
 intro j hj
 have hj : j < l.length := by
  rw [List.mem_range'] at hj
  obtain ⟨a, ha, rfl⟩ := hj
  omega
 have at_ : ∀ q (hq : q < l.length), egAt l q = l[q] := fun q hq => by simp only [egAt, List.getD_eq_getElem?_getD, List.getElem?_eq_getElem hq, Option.getD_some]
 unfold egOk
 rw [at_ j hj, h.1 _ (List.getElem_mem hj), Bool.true_and]
 by_cases h0 : j = 0
 ·rw [decide_eq_true h0, Bool.true_or]
 ·rw [decide_eq_false h0, Bool.false_or, at_ (j - 1) (by omega)]
  have hp := List.pairwise_iff_getElem.1 h.2.1 (j - 1) j (by omega) hj (by omega)
  simp only [lexL] at hp
  simp only [egLt, igt, ige, QfD, Bool.and_eq_true, Bool.not_eq_true', decide_eq_false_iff_not, Bool.and_eq_false_imp, decide_eq_true_eq]
  refine ⟨by omega, fun he => by omega⟩
theorem QtE (d : Dice) : egUp (llen (xEps (sndV d))) (xEdg (sndV d)) 0 = true ∧ (xEdg (sndV d)).length ≤ 3 ∧ 0 < (xEdg (sndV d)).length := by
 have hn := Qmh d
 have hl : llen (xEps (sndV d)) = ((sndNm d).length : Int) := by rw [llen, QtD]
 rw [hl]
 show egUp _ (sndEg d) 0 = true ∧ (sndEg d).length ≤ 3 ∧ 0 < (sndEg d).length
 unfold sndEg
 cases hq : ieq (llen (sndEd d).1) 0 with
 | true =>
  refine ⟨?_, (show 1 ≤ 3 by decide), (show 0 < 1 by decide)⟩
  show egUp _ [(0, (1, ()))] 0 = true
  refine QJO (i := 5) (k := 5) ⟨fun x hx => ?_, List.pairwise_singleton _ _, fun x hx => ?_⟩ <;> rw [List.mem_singleton.1 hx]
  ·simp only [egIn, ilt, ige, QfD, Bool.and_eq_true, Bool.not_eq_true', decide_eq_false_iff_not]
   exact ⟨by omega, by omega, by omega, by omega, by omega⟩
  ·exact .inl (by decide)
 | false =>
  have hy := QAN (n := ((sndNm d).length : Int)) (sndNm d).length (sndNm d).length 0 [] (sndZ (sndNm d) 0 (dnext d 2)).2 (Int.le_refl _) (Int.le_refl _) (by omega) (⟨fun x hx => (nomatch hx), List.Pairwise.nil, fun x hx => (nomatch hx)⟩ : edG _ [] 0 0)
  refine ⟨QJO hy, ?_, ?_⟩
  ·have hp : ∀ (m : Nat) (i k : Int) (l : List Keep) (d : Dice), l.length ≤ 3 → (edZ m i k l d).1.length ≤ 3 := by
    intro m
    induction m with
    | zero => exact fun _ _ _ _ h => h
    | succ m ih =>
     intro i k l d h
     unfold edZ
     cases ine i k with
     | false => exact ih _ _ _ _ h
     | true =>
      cases h1 : igt (dval d 3) 0 with
      | false => exact ih _ _ _ _ h
      | true =>
       cases h2 : ilt (llen l) 3 with
       | false => exact ih _ _ _ _ h
       | true =>
        have := of_decide_eq_true h2
        simp only [llen] at this
        exact ih _ _ _ _ (by simp only [List.length_append, List.length_singleton]; omega)
   have hr : ∀ (m n : Nat) (i : Int) (l : List Keep) (d : Dice), l.length ≤ 3 → (edY m n i l d).1.length ≤ 3 := by
    intro m
    induction m with
    | zero => exact fun _ _ _ _ h => h
    | succ m ih => exact fun n i l d h => ih n (i + 1) _ _ (hp n i 0 l d h)
   exact hr _ _ _ [] _ (by decide)
  ·simp only [QfD, llen, decide_eq_false_iff_not] at hq
   show 0 < (sndEd d).1.length
   omega
theorem QBz {d : Dice} : Qa3 (dwdG d sIt) = true := by
 have hv := Qbp (d := d) (n := 2) (by omega)
 unfold dwdG
 show Qa3 (sIt.getD (dval d 2).toNat ByteArray.empty) = true
 rcases (show dval d 2 = 0 ∨ dval d 2 = 1 by omega) with h | h <;> rw [h] <;> kernel_rfl
theorem QLh {d : Dice} : nameG (dwdG d sIt) = true := by
 have hv := Qbp (d := d) (n := 2) (by omega)
 unfold dwdG
 show nameG (sIt.getD (dval d 2).toNat ByteArray.empty) = true
 rcases (show dval d 2 = 0 ∨ dval d 2 = 1 by omega) with h | h <;> rw [h] <;> kernel_rfl
theorem QIQ : ∀ (n : Nat) (d : Dice), (itZ n d).1.all Qen = true ∧ (itZ n d).1.all QeE = true ∧ (itZ n d).1.length = n
 | 0, _ => ⟨rfl, rfl, rfl⟩
 | n + 1, d => by
  have := QIQ n (itemN (dwdGN d sIt) (dwdG d sIt))
  simp only [itZ, List.all_cons, List.length_cons, this, Bool.and_true, and_true]
  exact ⟨QTR _ QBz, QLh⟩
theorem QqK (d : Dice) : estOk (sndV d) = true ∧ Qcn (sndV d) = true := by
 have hn := Qmh d
 have h1 := snd_up d
 obtain ⟨h2, h3, h4⟩ := QtE d
 have hv3 := Qbp (d := (sndEd d).2) (n := 3) (by omega)
 have hi := QIQ (dval (sndEd d).2 3).toNat (dnext (sndEd d).2 3)
 have hl : (xEps (sndV d)).length ≤ 3 := by rw [QtD]; omega
 have hx : xItm (sndV d) = (itZ (dval (sndEd d).2 3).toNat (dnext (sndEd d).2 3)).1 := rfl
 constructor
 ·unfold estOk
  rw [h1, h2, hx, hi.1, show ile (llen (xEps (sndV d))) 16 = true from decide_eq_true (by simp only [llen]; omega), show ile (llen (xEdg (sndV d))) 40 = true from decide_eq_true (by simp only [llen]; omega), show ile (llen (itZ (dval (sndEd d).2 3).toNat (dnext (sndEd d).2 3)).1) 30 = true from decide_eq_true (by simp only [llen]; omega)]
  rfl
 ·unfold Qcn QbX
  rw [hx, hi.2.1, decide_eq_true (show (xEps (sndV d)).length ≤ 99999 ∧ (xEdg (sndV d)).length ≤ 99999 by omega), decide_eq_true (show (itZ (dval (sndEd d).2 3).toNat (dnext (sndEd d).2 3)).1.length ≤ 100000 by omega), Bool.true_and, Bool.true_and, Bool.and_true]
  exact List.all_eq_true.2 fun e he => QQX (QEQ d e he)
theorem QQY (d : Dice) {k : Nat} (hk : k < (xEdg (sndV d)).length) : sndP (endsF (sndV d) (k : Int)).1 ∧ sndP (endsF (sndV d) (k : Int)).2 := by
 have he := Qs3 (QqK d).1 hk
 have at_ : ∀ a : Int, 0 ≤ a → a < (xEps (sndV d)).length → sndP (epAt (xEps (sndV d)) a.toNat) := fun a h0 h1 => by
  have hq : a.toNat < (xEps (sndV d)).length := by omega
  rw [show epAt (xEps (sndV d)) a.toNat = (xEps (sndV d))[a.toNat] by simp only [epAt, List.getD_eq_getElem?_getD, List.getElem?_eq_getElem hq, Option.getD_some]]
  exact QEQ d _ (List.getElem_mem hq)
 unfold endsF
 rw [Int.toNat_natCast]
 exact ⟨at_ _ he.1.1 he.1.2, at_ _ he.2.1.1 he.2.1.2⟩
end Go.Proofs.YtckcgijklnloiaaGreat.K
namespace Go.Proofs.YtckcgijklnloiaaGreat.K
open Go.RowKit
noncomputable section
open Classical in
def isSnd (e : Qao) : Bool := @decide (∃ d, e = sndV d) (Classical.propDecidable _)
theorem QM8 (d : Dice) : isSnd (sndV d) = true := @decide_eq_true _ (Classical.propDecidable _) ⟨d, rfl⟩
theorem QM7 {e : Qao} (h : isSnd e = true) : ∃ d, e = sndV d := @of_decide_eq_true _ (Classical.propDecidable _) h
theorem QTS {a b : Int} (ha : 0 ≤ a) (hb : 0 < b) : 0 ≤ irem a b ∧ irem a b < b := ⟨Int.tmod_nonneg b ha, Int.tmod_lt_of_pos a hb⟩
theorem icv_in {a : Int} (h : -9223372036854775808 ≤ a ∧ a ≤ 9223372036854775807) : icv .i64 a = a := Go.IntWalk.i64_in _ h
theorem QLk {e : Qab} (h : sndP e) {x a : Int} (hx : x = 2 ∨ x = 8) (ha : a = 13 ∨ (a = 12 ∧ x = 2)) : witO (3, (x, ())) e a = true := by
 have hv := QiT h
 obtain ⟨d, k, s, rfl, hs, hk⟩ := h
 unfold witO Qqf usesF
 rw [hv]
 rcases hx with rfl | rfl
 ·rcases ha with rfl | ⟨rfl, _⟩ <;> rfl
 ·rcases ha with rfl | ⟨_, h⟩
  ·rfl
  ·exact absurd h (by decide)
theorem Qzt (d : Dice) {a : Int} (ha : a = 12 ∨ a = 13) : needF (sndV d) a = ([], 0) := by
 unfold needF
 rw [(QqK d).1]
 have h1 : (ilt a 1 || igt a 22) = false := by rcases ha with rfl | rfl <;> rfl
 rw [h1]
 have key : ∀ (l : List ERow) (k : Int), (∀ z ∈ l, sndP z.1 ∧ sndP z.2.1) → needU a l k = [] := by
  intro l
  induction l with
  | nil => exact fun _ _ => rfl
  | cons z l ih =>
   intro k h
   obtain ⟨hc, hs⟩ := h z List.mem_cons_self
   have : QhN (Qbq z.1 z.2.1) z.2.1 a = true := List.any_eq_true.2 ⟨_, QBJ hc hs (x := 2) (.inl rfl), QLk hs (.inl rfl) (by rcases ha with rfl | rfl; exact .inr ⟨rfl, rfl⟩; exact .inl rfl)⟩
   unfold needU
   rw [this]
   exact ih (k + 1) fun z hz => h z (List.mem_cons_of_mem _ hz)
 show (needU a (prsI (sndV d)) 0, (0 : Int)) = _
 rw [key (prsI (sndV d)) 0 fun z hz => ?_]
 rw [QiY] at hz
 obtain ⟨x, hx, rfl⟩ := List.mem_map.1 hz
 obtain ⟨k, hk⟩ := List.mem_iff_getElem?.1 hx
 obtain ⟨hk1, rfl⟩ := List.getElem?_eq_some_iff.1 hk
 have := QQY d hk1
 unfold endsF at this
 rw [Int.toNat_natCast, show egAt (xEdg (sndV d)) k = (xEdg (sndV d))[k] by simp only [egAt, List.getD_eq_getElem?_getD, List.getElem?_eq_getElem hk1, Option.getD_some]] at this
 exact this
theorem QuB (a : Int) : ∀ (l : List ERow) (k : Int), (needU a l k).length ≤ l.length
 | [], _ => Nat.le_refl _
 | z :: l, k => by
  have := QuB a l (k + 1)
  unfold needU
  cases QhN (Qbq z.1 z.2.1) z.2.1 a <;> simp only [cond_true, cond_false, List.length_cons] <;> omega
theorem QQZ (d : Dice) {k : Nat} (hk : k < (xEdg (sndV d)).length) : cIx (xEps (sndV d)) (xEdg (sndV d))[k].1 = true ∧ cIx (xEps (sndV d)) (xEdg (sndV d))[k].2.1 = true ∧ (endsF (sndV d) (k : Int)) = (epAt (xEps (sndV d)) (xEdg (sndV d))[k].1.toNat, epAt (xEps (sndV d)) (xEdg (sndV d))[k].2.1.toNat) := by
 have h := Qs2 (QqK d).1 (i := (k : Int)) (by omega) (by omega)
 have e : egAt (xEdg (sndV d)) k = (xEdg (sndV d))[k] := by simp only [egAt, List.getD_eq_getElem?_getD, List.getElem?_eq_getElem hk, Option.getD_some]
 simp only [Qkh, Int.toNat_natCast, e, Bool.and_eq_true] at h
 refine ⟨h.2.1, h.2.2, ?_⟩
 unfold endsF
 rw [Int.toNat_natCast, e]
end
end Go.Proofs.YtckcgijklnloiaaGreat.K
namespace Go.Proofs.YtckcgijklnloiaaGreat.K
open Go.RowKit
noncomputable section
def needL (_ : List Int) (_ : Int) : Bool := true
def QxB (_ : List Int) (a : Int) : Bool := decide (0 ≤ a ∧ a ≤ 255)
def QpO : Fg := ⟨[(6, none), (10, some (.sl tI)), (65, some (.sl Qai)), (66, some tI), (67, some tI)], [(6, some Qas)]⟩
noncomputable def Qri : TC := (.sq (.reg (rT Tryz.f4 12)) (.sq (.cd (.t 68) .sk (.fg ⟨[], []⟩ (.ex 0))) (.sq (.bk 1 (.sq (.reg (rT Tryz.f4 13)) (.sq (.reg (rT Tryz.f4 14)) (.sq (.reg (rT Tryz.f4 15)) (.cd (.t 95) (.sq (.reg (rT Tryz.f4 16)) (.fg ⟨[(4, some .bool)], []⟩ .rt)) .sk))))) (.reg (rT Tryz.f4 17)))))
noncomputable def tc_f4 : TC := (.sq (.reg (rT Tryz.f4 0)) (.sq (.sq (.reg (rT Tryz.f4 1)) (.cd (.t 19) (.sq (.reg (rT Tryz.f4 2)) .rt) .sk)) (.sq (.reg (rT Tryz.f4 3)) (.sq (.reg (rT Tryz.f4 4)) (.sq (.reg (rT Tryz.f4 5)) (.sq (.reg (rT Tryz.f4 6)) (.sq (.reg (rT Tryz.f4 7)) (.sq (.reg (rT Tryz.f4 8)) (.sq (.sq (.reg (rT Tryz.f4 9)) (.cd (.t 63) (.sq (.reg (rT Tryz.f4 10)) .rt) .sk)) (.sq (.sq (.reg (rT Tryz.f4 11)) (.bk 0 (.lp 0 QpO Qri))) (.sq (.reg (rT Tryz.f4 18)) .rt)))))))))))
def rv_f4 : List (RV × Option Ty) := [((.t 4), some .bool)]
abbrev Qxg : Sh := ⟨[(6, .ptr 6 0), (10, .ty (.sl tI)), (65, .ty (.sl Qai)), (66, .ty tI), (67, .ty tI)], [(6, .box Qas)]⟩
def Qky (x10 : List Int) (x65 : List Keep) (x66 x67 : Int) (y6 : Qao) : VS := Qxg.st ((), x10, x65, x66, x67, ()) (y6, ())
abbrev Qxf : Sh := ⟨[(4, .ty .bool)], []⟩
def Qe2 (x4 : Bool) : VS := Qxf.st (x4, ()) ()
abbrev QBL : Sh := ⟨[], []⟩
def Qg5  : VS := QBL.st () ()
def L_f4_0 : VS → Option (Bool × List (Bool × Exit × VS)) := mkL Qxg (fun x y => (isSnd y.1 && (rngOk x.2.2.1 x.2.2.2.1 x.2.2.2.2.1 && (x.2.2.1 == y.1.2.1 && x.2.1.isEmpty)))) (fun x y => [((false), .ret, Qe2 (false)), (true, .exit 0, Qg5)])
def g_f4 : G := ⟨TYs, [], 98, EL [(9, sp_f9), (10, QPs), (12, QPr), (16, QPn), (17, QPm), (18, QEh)], keeps, (Ls [L_f4_0]), IL [], RL []⟩
def QQL (x10 : List Int) (x65 : List Keep) (x66 x67 : Int) (y6 : Qao) : Option (Exit × VS) :=
 let a1 := lgt Qai x65 (Int.toNat x67)
 let a2 := (((((lgt Qae y6.1 (Int.toNat ((a1.2).1))).2).2).2).1)
 let a3 := (((((lgt Qae y6.1 (Int.toNat (a1.1))).2).2).2).1)
 let a4 := iadd .i64 x67 1
 br (ilt x67 x66) (br (cIx x65 x67) (br (cIx y6.1 (a1.1)) (br (QaY a3 2) (br (hasF a3 2) (br (cIx y6.1 ((a1.2).1)) (br (QaY a2 2) (br (QaY x10 x67) (br (hasF x10 x67) (br (hasF a2 2) (some (.ret, Qe2 false)) (some (.normal, Qky x10 x65 x66 a4 y6))) (some (.normal, Qky x10 x65 x66 a4 y6))) none) none) none) (br (QaY x10 x67) (br (hasF x10 x67) (some (.normal, Qky x10 x65 x66 a4 y6)) (some (.normal, Qky x10 x65 x66 a4 y6))) none)) none) none) none) (some (.exit 0, Qg5))
noncomputable def Qia (x10 : List Int) (x65 : List Keep) (x66 x67 : Int) (y6 : Qao) : Option (Exit × VS) := loopF (Qak g_f4 QpO Qri) (Qky x10 x65 x66 x67 y6)
noncomputable def Qzu (x10 : List Int) (x65 : List Keep) (x66 x67 : Int) (y6 : Qao) : Option (Exit × VS) :=
 let a1 := lgt Qai x65 (Int.toNat x67)
 let a2 := (((((lgt Qae y6.1 (Int.toNat ((a1.2).1))).2).2).2).1)
 let a3 := (((((lgt Qae y6.1 (Int.toNat (a1.1))).2).2).2).1)
 let a4 := iadd .i64 x67 1
 br (ilt x67 x66) (br (cIx x65 x67) (br (cIx y6.1 (a1.1)) (br (QaY a3 2) (br (hasF a3 2) (br (cIx y6.1 ((a1.2).1)) (br (QaY a2 2) (br (QaY x10 x67) (br (hasF x10 x67) (br (hasF a2 2) (some (.ret, Qe2 false)) (Qia x10 x65 x66 a4 y6)) (Qia x10 x65 x66 a4 y6)) none) none) none) (br (QaY x10 x67) (br (hasF x10 x67) (Qia x10 x65 x66 a4 y6) (Qia x10 x65 x66 a4 y6)) none)) none) none) none) (some (.exit 0, Qg5))
def Qya (x10 : List Int) (x65 : List Keep) (x66 x67 : Int) (y6 : Qao) : Option (Exit × VS) := br (false) (some (.ret, Qe2 (false))) <| some (.exit 0, Qg5)
theorem QV7 (x10 : List Int) (x65 : List Keep) (x66 x67 : Int) (y6 : Qao) : Qak g_f4 QpO Qri (Qky x10 x65 x66 x67 y6) = QQL x10 x65 x66 x67 y6 := by kernel_rfl
theorem QIB (x10 : List Int) (x65 : List Keep) (x66 x67 : Int) (y6 : Qao) : Qia x10 x65 x66 x67 y6 = Qzu x10 x65 x66 x67 y6 := (Qan _ _).trans (by
 rw [QV7]
 simp only [QQL, Qzu, Qax, nxt_n, nxt_r, nxt_e, nxt_0]
 rfl)
def r_f4 (p0 : List Int) (p1 : Int) : Option (V × List VO) :=
 let a1 := sndV (roll p0)
 let a2 := iadd .i64 1 (irem (icv .i64 p1) 22)
 br (!(light p0)) (some (.t .bool Qnb, [])) (br (dOk (roll p0)) (br (cNz 22) (br (QeQ a1 a2) (br (QeQ a1 12) (br (QeQ a1 13) (br (ine (iadd .i64 (iadd .i64 ((needF a1 a2).2) ((needF a1 12).2)) ((needF a1 13).2)) 0) (some (.t .bool false, [])) (br (ine (llen ((needF a1 13).1)) 0) (some (.t .bool false, [])) (br (igt (llen ((needF a1 a2).1)) (llen ((a1.2).1))) (some (.t .bool false, [])) (br (isSnd a1 && (rngOk ((a1.2).1) (llen ((a1.2).1)) (0 : Int) && (((a1.2).1) == a1.2.1 && ((needF a1 12).1).isEmpty))) (br (false) (some (.t .bool (false), [])) (some (.t .bool Qnb, []))) none)))) none) none) none) none) none)
theorem e_f4 (p0 : List Int) (p1 : Int) : runF g_f4 tc_f4 rv_f4 false [.t (.sl tI) p0, .t (.int .u8) p1] [] = r_f4 p0 p1 := by kernel_rfl
theorem gk_f4 : GOk Tryz.prog g_f4 := Qal _ (gA (gC en_f9 ms_f9 (gC en_f10 ms_f10 (gC en_f12 ms_f12 (gC en_f16 ms_f16 (gC en_f17 ms_f17 (gC QQI QQw gN)))))))
theorem l_f4_0 (x10 : List Int) (x65 : List Keep) (x66 x67 : Int) (y6 : Qao) (h : (isSnd y6 && (rngOk x65 x66 x67 && (x65 == y6.2.1 && x10.isEmpty))) = true) : Qia x10 x65 x66 x67 y6 = Qya x10 x65 x66 x67 y6 := by
 simp only [Bool.and_eq_true, beq_iff_eq, List.isEmpty_iff] at h
 obtain ⟨hs, h0, rfl, rfl⟩ := h
 obtain ⟨d, rfl⟩ := QM7 hs
 obtain ⟨rfl, h3, k, rfl, hk⟩ := rng_k h0
 clear h0 hs
 refine Qat (sndV d).2.1 (fun k => Qia [] (sndV d).2.1 ((sndV d).2.1.length : Int) (k : Int) (sndV d) = Qya [] (sndV d).2.1 ((sndV d).2.1.length : Int) (k : Int) (sndV d)) ?_ ?_ k hk
 ·rw [QIB]
  simp only [Qzu, Qya, Qar, Nat.lt_irrefl, decide_false, Qaf]
 ·intro k hk ih
  rw [QIB]
  obtain ⟨c1, c2, c3⟩ := QQZ d hk
  have hr := QAI (QqK d).2 (Qs2 (QqK d).1 (i := (k : Int)) (by omega) (show (k : Int) < (xEdg (sndV d)).length by show (k : Int) < ((sndV d).2.1.length : Int); omega))
  rw [c3] at hr
  obtain ⟨hc, hs⟩ := Bool.and_eq_true_iff.1 hr
  have i1 : QaY (QaE (epAt (xEps (sndV d)) (xEdg (sndV d))[k].1.toNat)) 2 = true := decide_eq_true (Qcj hc).2.1
  have i2 : QaY (QaE (epAt (xEps (sndV d)) (xEdg (sndV d))[k].2.1.toNat)) 2 = true := decide_eq_true (Qcj hs).2.1
  have i3 : QaY ([] : List Int) (k : Int) = true := rfl
  have i4 : hasF ([] : List Int) (k : Int) = false := rfl
  simp only [Qzu, Qar, Qau, hk, decide_true, Qac, Int.toNat_natCast, add1 (show k < 4611686018427387904 by omega), Qay (y := Qai) hk, i3, i4, Qaf, ih]
  refine brY c1 (brY i1 ?_)
  refine QaB (fun _ => ?_) (fun _ => rfl)
  exact brY c2 (brY i2 rfl)
theorem QSn : ∀ S l p, g_f4.L 0 (fgt QpO S) = some (true, l) → pickA l = some p → loopF (Qak g_f4 QpO Qri) S = some p :=
 QaD (s := Qxg) ⟨by decide, by decide⟩ (by kernel_rfl) fun x y hok p hp => by
 simp only [Qap, Qam] at hp
 exact (l_f4_0 x.2.1 x.2.2.1 x.2.2.2.1 x.2.2.2.2.1 y.1 (by simpa using hok)).trans hp
theorem lk_f4 : tc_f4.lok g_f4 := by
 repeat (first | exact trivial | exact QSn | refine ⟨?_, ?_⟩)
theorem s_f4 (p0 : List Int) (a : Int) (h : QxB p0 a = true) : r_f4 p0 a = some (.t .bool (needL p0 a), []) := by
 have h : 0 ≤ a ∧ a ≤ 255 := of_decide_eq_true h
 unfold r_f4
 refine QaB (fun _ => rfl) (fun k1 => ?_)
 have k1 : light p0 = true := by simpa using k1
 have hl := QtE (roll p0)
 obtain ⟨g1, g2⟩ := QqK (roll p0)
 have r1 := QTS (a := a) (b := 22) h.1 (by decide)
 have ea : iadd .i64 1 (irem (icv .i64 a) 22) = 1 + irem a 22 := by rw [icv_in (by omega)]; exact Qbc (by omega)
 have hn : needF (sndV (roll p0)) (1 + irem a 22) = (needU (1 + irem a 22) (prsI (sndV (roll p0))) 0, 0) := by
  unfold needF
  rw [g1, show ilt (1 + irem a 22) 1 = false from decide_eq_false (by omega), show igt (1 + irem a 22) 22 = false from decide_eq_false (by omega)]
  rfl
 have hln := QuB (1 + irem a 22) (prsI (sndV (roll p0))) 0
 rw [QiY, List.length_map] at hln
 rw [ea, Qzt (roll p0) (a := 12) (.inl rfl), Qzt (roll p0) (a := 13) (.inr rfl), hn]
 refine brY (QNZ k1) (brY rfl (brY g2 (brY g2 (brY g2 ?_))))
 refine Eq.trans (congrArg (fun b => br b _ _) (show ine (iadd .i64 (iadd .i64 0 0) 0) 0 = false from rfl)) ?_
 rw [Qaf]
 refine Eq.trans (congrArg (fun b => br b _ _) (show ine (llen ([] : List Int)) 0 = false from rfl)) ?_
 rw [Qaf]
 refine Eq.trans (congrArg (fun b => br b _ _) (show igt (llen (needU (1 + irem a 22) (prsI (sndV (roll p0))) 0)) (llen (xEdg (sndV (roll p0)))) = false from decide_eq_false (by simp only [llen]; rw [QiY]; omega))) ?_
 rw [Qaf]
 refine brY ?_ rfl
 simp only [Bool.and_eq_true]
 exact ⟨QM8 _, rng_0 (by show (xEdg (sndV (roll p0))).length ≤ _; omega), beq_self_eq_true _, rfl⟩
def sp_f4 : Ent := spec (.pr (.sl tI) (.pr (.int .u8) .nil)) (fun x => (QxB x.1 x.2.1)) (fun x => (.t .bool (needL x.1 x.2.1)))
theorem ms_f4 : Meets Tryz.prog 4 (strip sp_f4) := Qag (R := runF g_f4 tc_f4 rv_f4 false) (mG Tryz.func4 (by kernel_rfl) Tryz.ntmps4 (by kernel_rfl) gk_f4 lk_f4) fun x hok => (e_f4 x.1 x.2.1).trans (s_f4 x.1 x.2.1 hok)
end
theorem Qgl (z0 : List Int) (z1 : Int) (w0 : Ty.wf (.sl (.int .i64)) z0) (w1 : Ty.wf (.int .u8) z1) : QxB z0 z1 = true := decide_eq_true (wf_u8 w1)
theorem walkConversationNeeds (z0 : (List Int)) (z1 : Int) (W : World) (v0 : Value) (v1 : Value) (c0 : C noX W (fun _ => .no) (V.t (.sl tI) z0).d v0) (c1 : C noX W (fun _ => .no) (V.t (.int .u8) z1).d v1) (w0 : Ty.wf (.sl tI) z0) (w1 : Ty.wf (.int .u8) z1) :
  Calls Tryz.prog 4 #[v0, v1] W fun r w' => r = .returned (.bool true) ∧ Below W.heap.size W w' :=
 QCA (by decide) ms_f4 (args := [.t (.sl tI) z0, .t (.int .u8) z1]) (QBF (x := (z0, z1, ())) rfl (Qgl z0 z1 w0 w1)) (by simp only [V.ds, Cs]; exact ⟨_, _, rfl, c0, _, _, rfl, c1, rfl⟩)
end Go.Proofs.YtckcgijklnloiaaGreat.K
