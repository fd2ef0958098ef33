import Derived.Test.YtkngeegkjhipeaaGreatN18
import Derived.Test.YtkngeegkjhipeaaGreatKX
set_option linter.unusedSimpArgs false
set_option linter.unusedVariables false
namespace Go.Proofs.YtkngeegkjhipeaaGreat.K
open Go.RowKit
noncomputable section
def QuG : Ent := lendE QLT
theorem QD4 : Meets Tryz.prog 27 (strip QuG) := Qzj ms_f27
def suZ : Nat → List Int → Dice → List Int × Dice
 | 0, l, d => (l, d)
 | n + 1, l, d => suZ n (bif !hasF l (1 + dval d 16) then l ++ [1 + dval d 16] else l) (dnext d 16)
def suI (d : Dice) : List Int × Dice := suZ (2 + dval d 9).toNat [] (dnext d 9)
def suiV (d : Dice) : List Int := bif done (suI d).2 4 then sortS (suI d).1 else (suI d).1
def suiN (d : Dice) : Dice := dnext (suI d).2 4
theorem QLh : ∀ (n : Nat) (l : List Int) (d : Dice), dOk d = true → dOk (suZ n l d).2 = true ∧ (suZ n l d).1.length ≤ l.length + n
 | 0, l, d, h => ⟨h, Nat.le_refl _⟩
 | n + 1, l, d, h => by
  have := QLh n (bif !hasF l (1 + dval d 16) then l ++ [1 + dval d 16] else l) (dnext d 16) (Qat h)
  refine ⟨this.1, Nat.le_trans this.2 ?_⟩
  cases !hasF l (1 + dval d 16) <;> simp only [cond_true, cond_false, List.length_append, List.length_singleton] <;> omega
theorem QA2 {d : Dice} (h : dOk d = true) : dOk (suI d).2 = true ∧ (suI d).1.length ≤ 10 := by
 have h2 := QLh (2 + dval d 9).toNat [] (dnext d 9) (Qat h)
 have b := QbG (d := d) (n := 9) (by omega)
 refine ⟨h2.1, Nat.le_trans h2.2 ?_⟩
 simp only [List.length_nil]
 omega
theorem QqR {d : Dice} (h : dOk d = true) : dOk (suiN d) = true := Qat (n := 4) (QA2 h).1
def QiN : Fg := ⟨[(0, none), (3, none), (4, some tI)], [(3, none), (23, none), (27, none), (5027, none), (10027, none), (15027, none), (50000, some Qau)]⟩
noncomputable def Qkw : TC := (.sq (.sq (.reg (rT Tryz.f13 3)) (.cd (.t 10) .sk (.fg ⟨[(0, none), (3, none)], [(3, none), (23, none), (27, none), (5027, none), (10027, none), (15027, none), (50000, some Qau)]⟩ (.ex 0)))) (.sq (.bk 1 (.sq (.reg (rT Tryz.f13 4)) (.sq (.reg (rT Tryz.f13 5)) (.cd (.t 19) (.reg (rT Tryz.f13 6)) .sk)))) (.reg (rT Tryz.f13 7))))
noncomputable def QAX : TC := (.sq (.reg (rT Tryz.f13 0)) (.sq (.reg (rT Tryz.f13 1)) (.sq (.sq (.reg (rT Tryz.f13 2)) (.bk 0 (.nw 3 3 (.lp 0 QiN Qkw)))) (.sq (.sq (.reg (rT Tryz.f13 8)) (.cd (.t 25) (.reg (rT Tryz.f13 9)) .sk)) (.sq (.reg (rT Tryz.f13 10)) .rt)))))
def QMZ : List (RV × Option Ty) := [((.t 2), none)]
abbrev QpE : Sh := ⟨[(0, .ptr 50000 0), (3, .ms 3), (4, .ty tI)], [(3, .arr 3 tI), (23, .no), (27, .no), (5027, .no), (10027, .no), (15027, .no), (50000, .box Qau)]⟩
def QkB (x4 : Int) (y3 : List Int) (y50000 : Dice) : VS := QpE.st ((), (), x4, ()) (y3, (), (), (), (), (), y50000, ())
abbrev Qvg : Sh := ⟨[(0, .ptr 50000 0), (3, .ms 3)], [(3, .arr 3 tI), (23, .no), (27, .no), (5027, .no), (10027, .no), (15027, .no), (50000, .box Qau)]⟩
def Qex (y3 : List Int) (y50000 : Dice) : VS := Qvg.st ((), (), ()) (y3, (), (), (), (), (), y50000, ())
def QSq : VS → Option (Bool × List (Bool × Exit × VS)) := mkL QpE (fun x y => (decide (0 ≤ x.2.2.1 ∧ (y.1.length : Int) + x.2.2.1 ≤ 10) && dOk y.2.2.2.2.2.2.1)) (fun x y => [(true, .exit 0, Qex ((suZ x.2.2.1.toNat y.1 y.2.2.2.2.2.2.1).1) ((suZ x.2.2.1.toNat y.1 y.2.2.2.2.2.2.1).2))])
def g_f13 : G := ⟨TYs, [], 29, EL [(27, QuG), (32, QjE), (33, Qrq), (36, QLO)], (27 :: keeps), (Ls [QSq]), IL [], RL []⟩
def QHt (x4 : Int) (y3 : List Int) (y50000 : Dice) : Option (Exit × VS) :=
 let a1 := iadd .i64 1 (dval y50000 16)
 br (igt x4 0) (br (QaO y50000 16) (br (QaW y3 a1) (br (!(hasF y3 a1)) (br (cApp y3 ([a1]) 8) (some (.normal, QkB (isub .i64 x4 1) (y3 ++ ([a1])) (dnext y50000 16))) none) (some (.normal, QkB (isub .i64 x4 1) y3 (dnext y50000 16)))) none) none) (some (.exit 0, Qex y3 y50000))
noncomputable def QhV (x4 : Int) (y3 : List Int) (y50000 : Dice) : Option (Exit × VS) := loopF (Qaj g_f13 QiN Qkw) (QkB x4 y3 y50000)
noncomputable def Qqw (x4 : Int) (y3 : List Int) (y50000 : Dice) : Option (Exit × VS) :=
 let a1 := iadd .i64 1 (dval y50000 16)
 br (igt x4 0) (br (QaO y50000 16) (br (QaW y3 a1) (br (!(hasF y3 a1)) (br (cApp y3 ([a1]) 8) (QhV (isub .i64 x4 1) (y3 ++ ([a1])) (dnext y50000 16)) none) (QhV (isub .i64 x4 1) y3 (dnext y50000 16))) none) none) (some (.exit 0, Qex y3 y50000))
def Qlq (x4 : Int) (y3 : List Int) (y50000 : Dice) : Option (Exit × VS) :=
 let a1 := suZ x4.toNat y3 y50000
 some (.exit 0, Qex (a1.1) (a1.2))
theorem QKN (x4 : Int) (y3 : List Int) (y50000 : Dice) : Qaj g_f13 QiN Qkw (QkB x4 y3 y50000) = QHt x4 y3 y50000 := by kernel_rfl
theorem Qxu (x4 : Int) (y3 : List Int) (y50000 : Dice) : QhV x4 y3 y50000 = Qqw x4 y3 y50000 := (Qaq _ _).trans (by
 rw [QKN]
 simp only [QHt, Qqw, QaE, nxt_n, nxt_r, nxt_e, nxt_0]
 rfl)
def r_f13 (d0 : Dice) : Option (V × List VO) :=
 let a2 := iadd .i64 2 (dval d0 9)
 let a1 := (suZ a2.toNat ([] : List Int) (dnext d0 9))
 br (QaO d0 9) (br (decide (0 ≤ a2 ∧ (([] : List Int).length : Int) + a2 ≤ 10) && dOk (dnext d0 9)) (br (oneOk (a1.2) 4) (br (done (a1.2) 4) (br (lenS (a1.1)) (some (.ms 50001, [.box (.t Qau (dnext (a1.2) 4)), .arr 3 tI (sortS (a1.1))])) none) (some (.ms 50001, [.box (.t Qau (dnext (a1.2) 4)), .arr 3 tI (a1.1)]))) none) none) none
theorem e_f13 (d0 : Dice) : runF g_f13 QAX QMZ true [.ptr 50000 0] [.box (.t Qau d0)] = r_f13 d0 := by kernel_rfl
theorem en_f13 : Qag Tryz.prog 13 := .inr ⟨by decide, _, Tryz.func13, by kernel_rfl, by kernel_rfl⟩
theorem gk_f13 : GOk Tryz.prog g_f13 := Qao _ (gA (gC QNH QD4 (gC QnT Qnd (gC Qyk Qw7 (gC en_f36 ms_f36 gN)))))
theorem QQi (x4 : Int) (y3 : List Int) (y50000 : Dice) (h : (decide (0 ≤ x4 ∧ (y3.length : Int) + x4 ≤ 10) && dOk y50000) = true) : QhV x4 y3 y50000 = Qlq x4 y3 y50000 := by
 obtain ⟨h, hd⟩ := Bool.and_eq_true_iff.1 h
 obtain ⟨h0, h1⟩ := of_decide_eq_true h
 clear h
 obtain ⟨n, rfl⟩ := Int.eq_ofNat_of_zero_le h0
 have key : ∀ (n : Nat) (y3 : List Int) (y50000 : Dice), y3.length + n ≤ 10 → dOk y50000 = true → QhV (n : Int) y3 y50000 = Qlq (n : Int) y3 y50000 := by
  intro n
  induction n with
  | zero =>
   intro y3 y50000 _ _
   rw [Qxu]
   simp only [Qqw, Qlq, show igt ((0 : Nat) : Int) 0 = false from rfl, Qae, Int.toNat_natCast, suZ]
  | succ n ih =>
   intro y3 y50000 hl hd
   rw [Qxu]
   have b := QbG (d := y50000) (n := 16) (by omega)
   have e1 : iadd .i64 1 (dval y50000 16) = 1 + dval y50000 16 := QbX (by omega)
   have e2 : isub .i64 ((n + 1 : Nat) : Int) 1 = (n : Int) := (QbF (by omega)).trans (by omega)
   have c1 : QaO y50000 16 = true := QaZ hd (by omega)
   have c2 : ∀ v, QaW y3 v = true := fun v => decide_eq_true (by omega)
   have c3 : ∀ v, cApp y3 [v] 8 = true := fun v => cAppN (by omega) (by simp only [List.length_singleton]; omega)
   simp only [Qqw, show igt ((n + 1 : Nat) : Int) 0 = true from decide_eq_true (by omega), Qac, e1, e2, c1, c2, c3]
   rw [ih y3 (dnext y50000 16) (by omega) (Qat hd), ih (y3 ++ [1 + dval y50000 16]) (dnext y50000 16) (by simp only [List.length_append, List.length_singleton]; omega) (Qat hd)]
   simp only [Qlq, Int.toNat_natCast, suZ]
   cases !hasF y3 (1 + dval y50000 16) <;> rfl
 exact key n y3 y50000 (by omega) hd
theorem QIU : ∀ S l p, g_f13.L 0 (fgt QiN S) = some (true, l) → pickA l = some p → loopF (Qaj g_f13 QiN Qkw) S = some p :=
 QaF (s := QpE) ⟨by decide, by decide⟩ (by kernel_rfl) fun x y hok p hp => by
 simp only [Qar, Qap] at hp
 exact (QQi x.2.2.1 y.1 y.2.2.2.2.2.2.1 (by simpa using hok)).trans hp
theorem lk_f13 : QAX.lok g_f13 := by
 repeat (first | exact trivial | exact QIU | refine ⟨?_, ?_⟩)
theorem s_f13 (d : Dice) (h : dOk d = true) : r_f13 d = some (.ms 50001, [.box (.t Qau (suiN d)), .arr 3 tI (suiV d)]) := by
 have b := QbG (d := d) (n := 9) (by omega)
 have e1 : iadd .i64 2 (dval d 9) = 2 + dval d 9 := QbX (by omega)
 have c1 : QaO d 9 = true := QaZ h (by omega)
 obtain ⟨k1, k2⟩ := QA2 h
 have c2 : oneOk (suI d).2 4 = true := Qdz k1 (by omega) (by omega)
 have c3 : lenS (suI d).1 = true := decide_eq_true (by omega)
 have c4 : (decide ((0 : Int) ≤ 2 + dval d 9 ∧ (([] : List Int).length : Int) + (2 + dval d 9) ≤ 10) && dOk (dnext d 9)) = true := Bool.and_eq_true_iff.2 ⟨decide_eq_true ⟨by omega, by simp only [List.length_nil]; omega⟩, Qat h⟩
 have e2 : suZ (2 + dval d 9).toNat [] (dnext d 9) = suI d := rfl
 simp only [r_f13, c1, e1, Qac, e2, c2, c3]
 refine Eq.trans (congrArg (fun b => br b _ _) c4) ?_
 rw [Qac]
 unfold suiV suiN
 cases done (suI d).2 4 <;> rfl
def QLY : Ent := specS [.ptr 50000 0] [.box Qau] (fun x y => (dOk y.1)) (fun x y => (.ms 50001)) (fun x y => [.box (.t Qau (suiN y.1)), .arr 3 tI (suiV y.1)])
theorem ms_f13 : Meets Tryz.prog 13 (strip QLY) := QaI (R := runF g_f13 QAX QMZ true) (mG Tryz.func13 (by kernel_rfl) Tryz.ntmps13 (by kernel_rfl) gk_f13 lk_f13) fun x y hok => (e_f13 y.1).trans (s_f13 y.1 hok)
end
end Go.Proofs.YtkngeegkjhipeaaGreat.K
