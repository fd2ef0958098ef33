import Derived.Test.YtkngeegkjhipeaaGreatN18
import Derived.Test.YtkngeegkjhipeaaGreatKX
set_option linter.unusedSimpArgs false
set_option linter.unusedVariables false
namespace Go.Proofs.YtkngeegkjhipeaaGreat.K
open Go.RowKit
noncomputable section
def Qud : Ent := lendE QLd
theorem QDp : Meets Tryz.prog 27 (strip Qud) := QyF ms_f27
def suZ : Nat → List Int → Dice → List Int × Dice
 | 0, l, d => (l, d)
 | n + 1, l, d => suZ n (bif !hasF l (1 + dval d 16) then l ++ [1 + dval d 16] else l) (dnext d 16)
def suI (d : Dice) : List Int × Dice := suZ (2 + dval d 9).toNat [] (dnext d 9)
def suiV (d : Dice) : List Int := bif done (suI d).2 4 then sortS (suI d).1 else (suI d).1
def suiN (d : Dice) : Dice := dnext (suI d).2 4
theorem QKB : ∀ (n : Nat) (l : List Int) (d : Dice), dOk d = true → dOk (suZ n l d).2 = true ∧ (suZ n l d).1.length ≤ l.length + n
 | 0, l, d, h => ⟨h, Nat.le_refl _⟩
 | n + 1, l, d, h => by
  have := QKB n (bif !hasF l (1 + dval d 16) then l ++ [1 + dval d 16] else l) (dnext d 16) (Qat h)
  refine ⟨this.1, Nat.le_trans this.2 ?_⟩
  cases !hasF l (1 + dval d 16) <;> simp only [cond_true, cond_false, List.length_append, List.length_singleton] <;> omega
theorem QAn {d : Dice} (h : dOk d = true) : dOk (suI d).2 = true ∧ (suI d).1.length ≤ 10 := by
 have h2 := QKB (2 + dval d 9).toNat [] (dnext d 9) (Qat h)
 have b := QbF (d := d) (n := 9) (by omega)
 refine ⟨h2.1, Nat.le_trans h2.2 ?_⟩
 simp only [List.length_nil]
 omega
theorem Qqz {d : Dice} (h : dOk d = true) : dOk (suiN d) = true := Qat (n := 4) (QAn h).1
def QiI : Fg := ⟨[(0, none), (3, none), (4, some tI)], [(3, none), (23, none), (27, none), (5027, none), (10027, none), (15027, none), (50000, some Qau)]⟩
noncomputable def Qkq : TC := (.sq (.sq (.reg (rT Tryz.f13 3)) (.cd (.t 10) .sk (.fg ⟨[(0, none), (3, none)], [(3, none), (23, none), (27, none), (5027, none), (10027, none), (15027, none), (50000, some Qau)]⟩ (.ex 0)))) (.sq (.bk 1 (.sq (.reg (rT Tryz.f13 4)) (.sq (.reg (rT Tryz.f13 5)) (.cd (.t 19) (.reg (rT Tryz.f13 6)) .sk)))) (.reg (rT Tryz.f13 7))))
noncomputable def QAj : TC := (.sq (.reg (rT Tryz.f13 0)) (.sq (.reg (rT Tryz.f13 1)) (.sq (.sq (.reg (rT Tryz.f13 2)) (.bk 0 (.nw 3 3 (.lp 0 QiI Qkq)))) (.sq (.sq (.reg (rT Tryz.f13 8)) (.cd (.t 25) (.reg (rT Tryz.f13 9)) .sk)) (.sq (.reg (rT Tryz.f13 10)) .rt)))))
def QMi : List (RV × Option Ty) := [((.t 2), none)]
abbrev Qpl : Sh := ⟨[(0, .ptr 50000 0), (3, .ms 3), (4, .ty tI)], [(3, .arr 3 tI), (23, .no), (27, .no), (5027, .no), (10027, .no), (15027, .no), (50000, .box Qau)]⟩
def Qkv (x4 : Int) (y3 : List Int) (y50000 : Dice) : VS := Qpl.st ((), (), x4, ()) (y3, (), (), (), (), (), y50000, ())
abbrev QuM : Sh := ⟨[(0, .ptr 50000 0), (3, .ms 3)], [(3, .arr 3 tI), (23, .no), (27, .no), (5027, .no), (10027, .no), (15027, .no), (50000, .box Qau)]⟩
def Qex (y3 : List Int) (y50000 : Dice) : VS := QuM.st ((), (), ()) (y3, (), (), (), (), (), y50000, ())
def QRy : VS → Option (Bool × List (Bool × Exit × VS)) := mkL Qpl (fun x y => (decide (0 ≤ x.2.2.1 ∧ (y.1.length : Int) + x.2.2.1 ≤ 10) && dOk y.2.2.2.2.2.2.1)) (fun x y => [(true, .exit 0, Qex ((suZ x.2.2.1.toNat y.1 y.2.2.2.2.2.2.1).1) ((suZ x.2.2.1.toNat y.1 y.2.2.2.2.2.2.1).2))])
def g_f13 : G := ⟨TYs, [], 29, EL [(27, Qud), (32, Qjy), (33, Qq8), (36, QK8)], (27 :: keeps), (Ls [QRy]), IL [], RL []⟩
def QGL (x4 : Int) (y3 : List Int) (y50000 : Dice) : Option (Exit × VS) :=
 let a1 := iadd .i64 1 (dval y50000 16)
 br (igt x4 0) (br (QaN y50000 16) (br (QaY y3 a1) (br (!(hasF y3 a1)) (br (cApp y3 ([a1]) 8) (some (.normal, Qkv (isub .i64 x4 1) (y3 ++ ([a1])) (dnext y50000 16))) none) (some (.normal, Qkv (isub .i64 x4 1) y3 (dnext y50000 16)))) none) none) (some (.exit 0, Qex y3 y50000))
noncomputable def QhS (x4 : Int) (y3 : List Int) (y50000 : Dice) : Option (Exit × VS) := loopF (Qaj g_f13 QiI Qkq) (Qkv x4 y3 y50000)
noncomputable def Qqb (x4 : Int) (y3 : List Int) (y50000 : Dice) : Option (Exit × VS) :=
 let a1 := iadd .i64 1 (dval y50000 16)
 br (igt x4 0) (br (QaN y50000 16) (br (QaY y3 a1) (br (!(hasF y3 a1)) (br (cApp y3 ([a1]) 8) (QhS (isub .i64 x4 1) (y3 ++ ([a1])) (dnext y50000 16)) none) (QhS (isub .i64 x4 1) y3 (dnext y50000 16))) none) none) (some (.exit 0, Qex y3 y50000))
def Qli (x4 : Int) (y3 : List Int) (y50000 : Dice) : Option (Exit × VS) :=
 let a1 := suZ x4.toNat y3 y50000
 some (.exit 0, Qex (a1.1) (a1.2))
theorem QJ7 (x4 : Int) (y3 : List Int) (y50000 : Dice) : Qaj g_f13 QiI Qkq (Qkv x4 y3 y50000) = QGL x4 y3 y50000 := by kernel_rfl
theorem QwS (x4 : Int) (y3 : List Int) (y50000 : Dice) : QhS x4 y3 y50000 = Qqb x4 y3 y50000 := (Qaq _ _).trans (by
 rw [QJ7]
 simp only [QGL, Qqb, QaE, nxt_n, nxt_r, nxt_e, nxt_0]
 rfl)
def r_f13 (d0 : Dice) : Option (V × List VO) :=
 let a2 := iadd .i64 2 (dval d0 9)
 let a1 := (suZ a2.toNat ([] : List Int) (dnext d0 9))
 br (QaN d0 9) (br (decide (0 ≤ a2 ∧ (([] : List Int).length : Int) + a2 ≤ 10) && dOk (dnext d0 9)) (br (oneOk (a1.2) 4) (br (done (a1.2) 4) (br (lenS (a1.1)) (some (.ms 50001, [.box (.t Qau (dnext (a1.2) 4)), .arr 3 tI (sortS (a1.1))])) none) (some (.ms 50001, [.box (.t Qau (dnext (a1.2) 4)), .arr 3 tI (a1.1)]))) none) none) none
theorem e_f13 (d0 : Dice) : runF g_f13 QAj QMi true [.ptr 50000 0] [.box (.t Qau d0)] = r_f13 d0 := by kernel_rfl
theorem en_f13 : Qag Tryz.prog 13 := .inr ⟨by decide, _, Tryz.func13, by kernel_rfl, by kernel_rfl⟩
theorem gk_f13 : GOk Tryz.prog g_f13 := Qan _ (gA (gC QMW QDp (gC QnD Qm3 (gC QxG Qwv (gC en_f36 ms_f36 gN)))))
theorem QPt (x4 : Int) (y3 : List Int) (y50000 : Dice) (h : (decide (0 ≤ x4 ∧ (y3.length : Int) + x4 ≤ 10) && dOk y50000) = true) : QhS x4 y3 y50000 = Qli x4 y3 y50000 := by
 obtain ⟨h, hd⟩ := Bool.and_eq_true_iff.1 h
 obtain ⟨h0, h1⟩ := of_decide_eq_true h
 clear h
 obtain ⟨n, rfl⟩ := Int.eq_ofNat_of_zero_le h0
 have key : ∀ (n : Nat) (y3 : List Int) (y50000 : Dice), y3.length + n ≤ 10 → dOk y50000 = true → QhS (n : Int) y3 y50000 = Qli (n : Int) y3 y50000 := by
  intro n
  induction n with
  | zero =>
   intro y3 y50000 _ _
   rw [QwS]
   simp only [Qqb, Qli, show igt ((0 : Nat) : Int) 0 = false from rfl, Qae, Int.toNat_natCast, suZ]
  | succ n ih =>
   intro y3 y50000 hl hd
   rw [QwS]
   have b := QbF (d := y50000) (n := 16) (by omega)
   have e1 : iadd .i64 1 (dval y50000 16) = 1 + dval y50000 16 := Qb9 (by omega)
   have e2 : isub .i64 ((n + 1 : Nat) : Int) 1 = (n : Int) := (QbE (by omega)).trans (by omega)
   have c1 : QaN y50000 16 = true := Qa1 hd (by omega)
   have c2 : ∀ v, QaY y3 v = true := fun v => decide_eq_true (by omega)
   have c3 : ∀ v, cApp y3 [v] 8 = true := fun v => cAppN (by omega) (by simp only [List.length_singleton]; omega)
   simp only [Qqb, show igt ((n + 1 : Nat) : Int) 0 = true from decide_eq_true (by omega), Qac, e1, e2, c1, c2, c3]
   rw [ih y3 (dnext y50000 16) (by omega) (Qat hd), ih (y3 ++ [1 + dval y50000 16]) (dnext y50000 16) (by simp only [List.length_append, List.length_singleton]; omega) (Qat hd)]
   simp only [Qli, Int.toNat_natCast, suZ]
   cases !hasF y3 (1 + dval y50000 16) <;> rfl
 exact key n y3 y50000 (by omega) hd
theorem QIc : ∀ S l p, g_f13.L 0 (fgt QiI S) = some (true, l) → pickA l = some p → loopF (Qaj g_f13 QiI Qkq) S = some p :=
 QaF (s := Qpl) ⟨by decide, by decide⟩ (by kernel_rfl) fun x y hok p hp => by
 simp only [Qas, Qap] at hp
 exact (QPt x.2.2.1 y.1 y.2.2.2.2.2.2.1 (by simpa using hok)).trans hp
theorem lk_f13 : QAj.lok g_f13 := by
 repeat (first | exact trivial | exact QIc | refine ⟨?_, ?_⟩)
theorem s_f13 (d : Dice) (h : dOk d = true) : r_f13 d = some (.ms 50001, [.box (.t Qau (suiN d)), .arr 3 tI (suiV d)]) := by
 have b := QbF (d := d) (n := 9) (by omega)
 have e1 : iadd .i64 2 (dval d 9) = 2 + dval d 9 := Qb9 (by omega)
 have c1 : QaN d 9 = true := Qa1 h (by omega)
 obtain ⟨k1, k2⟩ := QAn h
 have c2 : oneOk (suI d).2 4 = true := Qdz k1 (by omega) (by omega)
 have c3 : lenS (suI d).1 = true := decide_eq_true (by omega)
 have c4 : (decide ((0 : Int) ≤ 2 + dval d 9 ∧ (([] : List Int).length : Int) + (2 + dval d 9) ≤ 10) && dOk (dnext d 9)) = true := Bool.and_eq_true_iff.2 ⟨decide_eq_true ⟨by omega, by simp only [List.length_nil]; omega⟩, Qat h⟩
 have e2 : suZ (2 + dval d 9).toNat [] (dnext d 9) = suI d := rfl
 simp only [r_f13, c1, e1, Qac, e2, c2, c3]
 refine Eq.trans (congrArg (fun b => br b _ _) c4) ?_
 rw [Qac]
 unfold suiV suiN
 cases done (suI d).2 4 <;> rfl
def QLi : Ent := specS [.ptr 50000 0] [.box Qau] (fun x y => (dOk y.1)) (fun x y => (.ms 50001)) (fun x y => [.box (.t Qau (suiN y.1)), .arr 3 tI (suiV y.1)])
theorem ms_f13 : Meets Tryz.prog 13 (strip QLi) := QaI (R := runF g_f13 QAj QMi true) (mG Tryz.func13 (by kernel_rfl) Tryz.ntmps13 (by kernel_rfl) gk_f13 lk_f13) fun x y hok => (e_f13 y.1).trans (s_f13 y.1 hok)
end
end Go.Proofs.YtkngeegkjhipeaaGreat.K
