import Derived.Test.YtckcgijklnloiaaGreatQ8
import Derived.Test.YtckcgijklnloiaaGreatQ4
import Derived.RangeFuncCalls
import Derived.RangeFuncBound
import Derived.Shelf.RegionOpen
import Derived.OwnWalkIn
import Derived.TacticsInMore
import Derived.LoopNIn
import Derived.LoopIn
set_option linter.unusedSimpArgs false
set_option linter.unusedVariables false
namespace Go.Proofs.YtckcgijklnloiaaGreat.K
open Go.RowKit
noncomputable section
def rowC (s : Qab) (o : List Int) (v : Int) (k : Nat) : List Keep := ((List.range' k (17 - k)).filter fun (j : Nat) => posE s o v (j : Int)).map fun (j : Nat) => (v, ((j : Int), ()))
theorem QJo {s : Qab} {o : List Int} {v : Int} {k : Nat} (hk : k < 17) : rowC s o v k = if posE s o v (k : Int) = true then (v, ((k : Int), ())) :: rowC s o v (k + 1) else rowC s o v (k + 1) := by
 have : 17 - k = (17 - (k + 1)) + 1 := by omega
 unfold rowC
 rw [this, List.range'_succ, List.filter_cons]
 split <;> rfl
theorem QPq (s : Qab) (o : List Int) (v : Int) (k : Nat) : (rowC s o v k).length ≤ 17 - k := by
 unfold rowC
 rw [List.length_map]
 exact Nat.le_trans (List.length_filter_le _ _) (Nat.le_of_eq List.length_range')
def verC (s : Qab) (o : List Int) (v n : Nat) : List Keep := (List.range' v n).flatMap fun (j : Nat) => rowC s o (j : Int) 1
abbrev hiC (c s : Qab) : Int := imn c.2.2.1 s.2.2.1
abbrev loC (c s : Qab) : Int := imx c.2.1 s.2.1
def QaR (c s : Qab) : List Keep := bif !Qew c s then [] else verC s (Qap c) (loC c s).toNat (hiC c s + 1 - loC c s).toNat
def Qk3 : Fg := ⟨[(2, none), (3, none), (5, none), (6, some tI), (7, some tI)], [(2, some Qae), (3, some Qae), (5, none), (45, none)]⟩
noncomputable def Qnb : TC := (.sq (.sq (.reg (rT Tryz.f21 7)) (.cd (.t 31) .sk (.fg ⟨[(2, none), (3, none), (5, none), (6, some tI)], [(2, some Qae), (3, some Qae), (5, none), (45, none)]⟩ (.ex 2)))) (.sq (.bk 3 (.sq (.reg (rT Tryz.f21 8)) (.cd (.t 39) (.reg (rT Tryz.f21 9)) .sk))) (.reg (rT Tryz.f21 10))))
def Qk2 : Fg := ⟨[(2, none), (3, none), (5, none), (6, some tI)], [(2, some Qae), (3, some Qae), (5, none), (45, none)]⟩
noncomputable def Qna : TC := (.sq (.sq (.reg (rT Tryz.f21 5)) (.cd (.t 27) .sk (.fg ⟨[(5, none)], [(5, none), (45, none)]⟩ (.ex 0)))) (.sq (.bk 1 (.sq (.reg (rT Tryz.f21 6)) (.bk 2 (.nw 5 39 (.lp 0 Qk3 Qnb))))) (.reg (rT Tryz.f21 11))))
noncomputable def QGo : TC := (.sq (.reg (rT Tryz.f21 0)) (.sq (.sq (.reg (rT Tryz.f21 1)) (.cd (.t 15) (.sq (.reg (rT Tryz.f21 2)) .rt) .sk)) (.sq (.reg (rT Tryz.f21 3)) (.sq (.sq (.reg (rT Tryz.f21 4)) (.bk 0 (.nw 5 39 (.lp 1 Qk2 Qna)))) (.sq (.reg (rT Tryz.f21 12)) .rt)))))
def QUa : List (RV × Option Ty) := [((.t 4), some (.sl Qag))]
abbrev Qtz : Sh := ⟨[(2, .ptr 2 0), (3, .ptr 3 0), (5, .ms 5), (6, .ty tI), (7, .ty tI)], [(2, .box Qae), (3, .box Qae), (5, .arr 39 Qag), (45, .no)]⟩
def Qnq (x6 x7 : Int) (y2 y3 : Qab) (y5 : List Keep) : VS := Qtz.st ((), (), (), x6, x7, ()) (y2, y3, y5, (), ())
abbrev QzO : Sh := ⟨[(2, .ptr 2 0), (3, .ptr 3 0), (5, .ms 5), (6, .ty tI)], [(2, .box Qae), (3, .box Qae), (5, .arr 39 Qag), (45, .no)]⟩
def Qfw (x6 : Int) (y2 y3 : Qab) (y5 : List Keep) : VS := QzO.st ((), (), (), x6, ()) (y2, y3, y5, (), ())
abbrev Qty : Sh := ⟨[(2, .ptr 2 0), (3, .ptr 3 0), (5, .ms 5), (6, .ty tI)], [(2, .box Qae), (3, .box Qae), (5, .arr 39 Qag), (45, .no)]⟩
def Qs5 (x6 : Int) (y2 y3 : Qab) (y5 : List Keep) : VS := Qty.st ((), (), (), x6, ()) (y2, y3, y5, (), ())
abbrev QzN : Sh := ⟨[(5, .ms 5)], [(5, .arr 39 Qag), (45, .no)]⟩
def Qfv (y5 : List Keep) : VS := QzN.st ((), ()) (y5, (), ())
def Q1a : VS → Option (Bool × List (Bool × Exit × VS)) := mkL Qtz (fun x y => (decide (1 ≤ x.2.2.2.2.1 ∧ x.2.2.2.2.1 ≤ 17 ∧ (y.2.2.1.length : Int) ≤ 200 + x.2.2.2.2.1) && lenEE y.2.1 (Qap y.1))) (fun x y => [(true, .exit 2, Qfw (x.2.2.2.1) (y.1) (y.2.1) (y.2.2.1 ++ rowC y.2.1 (Qap y.1) x.2.2.2.1 x.2.2.2.2.1.toNat))])
def Q09 : VS → Option (Bool × List (Bool × Exit × VS)) := mkL Qty (fun x y => (decide (1 ≤ x.2.2.2.1 ∧ x.2.2.2.1 ≤ 5 ∧ hiC y.1 y.2.1 ≤ 4 ∧ (y.2.2.1.length : Int) ≤ 16 * x.2.2.2.1) && lenEE y.2.1 (Qap y.1))) (fun x y => [(true, .exit 0, Qfv (y.2.2.1 ++ verC y.2.1 (Qap y.1) x.2.2.2.1.toNat (hiC y.1 y.2.1 + 1 - x.2.2.2.1).toNat))])
def g_f21 : G := ⟨TYs, [], 47, EL [(58, QTd), (59, QTc)], keeps, (Ls [Q1a, Q09]), IL [], RL []⟩
def QOE (x6 x7 : Int) (y2 y3 : Qab) (y5 : List Keep) : Option (Exit × VS) := br (ile x7 16) (br (posOk y3 y2.2.2.2.1 x6 x7) (br (posE y3 y2.2.2.2.1 x6 x7) (br (cApp y5 ([(x6, (x7, ()))]) 16) (some (.normal, Qnq x6 (iadd .i64 x7 1) y2 y3 (y5 ++ ([(x6, (x7, ()))])))) none) (some (.normal, Qnq x6 (iadd .i64 x7 1) y2 y3 y5))) none) (some (.exit 2, Qfw x6 y2 y3 y5))
noncomputable def QjM (x6 x7 : Int) (y2 y3 : Qab) (y5 : List Keep) : Option (Exit × VS) := loopF (Qaj g_f21 Qk3 Qnb) (Qnq x6 x7 y2 y3 y5)
noncomputable def QuD (x6 x7 : Int) (y2 y3 : Qab) (y5 : List Keep) : Option (Exit × VS) := br (ile x7 16) (br (posOk y3 y2.2.2.2.1 x6 x7) (br (posE y3 y2.2.2.2.1 x6 x7) (br (cApp y5 ([(x6, (x7, ()))]) 16) (QjM x6 (iadd .i64 x7 1) y2 y3 (y5 ++ ([(x6, (x7, ()))]))) none) (QjM x6 (iadd .i64 x7 1) y2 y3 y5)) none) (some (.exit 2, Qfw x6 y2 y3 y5))
def Qok (x6 x7 : Int) (y2 y3 : Qab) (y5 : List Keep) : Option (Exit × VS) := some (.exit 2, Qfw (x6) (y2) (y3) (y5 ++ rowC y3 (Qap y2) x6 x7.toNat))
theorem QSd (x6 x7 : Int) (y2 y3 : Qab) (y5 : List Keep) : Qaj g_f21 Qk3 Qnb (Qnq x6 x7 y2 y3 y5) = QOE x6 x7 y2 y3 y5 := by kernel_rfl
theorem QCk (x6 x7 : Int) (y2 y3 : Qab) (y5 : List Keep) : QjM x6 x7 y2 y3 y5 = QuD x6 x7 y2 y3 y5 := (Qan _ _).trans (by
 rw [QSd]
 simp only [QOE, QuD, Qay, nxt_n, nxt_r, nxt_e, nxt_0]
 rfl)
def QOD (x6 : Int) (y2 y3 : Qab) (y5 : List Keep) : Option (Exit × VS) := br (ile x6 (imn y2.2.2.1 y3.2.2.1)) (br (decide (1 ≤ (1 : Int) ∧ (1 : Int) ≤ 17 ∧ (y5.length : Int) ≤ 200 + (1 : Int)) && lenEE y3 (Qap y2)) (some (.normal, Qs5 (iadd .i64 (x6) 1) (y2) (y3) (y5 ++ rowC y3 (Qap y2) x6 (1 : Int).toNat))) none) (some (.exit 0, Qfv y5))
noncomputable def Qn7 (x6 : Int) (y2 y3 : Qab) (y5 : List Keep) : Option (Exit × VS) := loopF (Qaj g_f21 Qk2 Qna) (Qs5 x6 y2 y3 y5)
noncomputable def QqC (x6 : Int) (y2 y3 : Qab) (y5 : List Keep) : Option (Exit × VS) := br (ile x6 (imn y2.2.2.1 y3.2.2.1)) (br (decide (1 ≤ (1 : Int) ∧ (1 : Int) ≤ 17 ∧ (y5.length : Int) ≤ 200 + (1 : Int)) && lenEE y3 (Qap y2)) (Qn7 (iadd .i64 (x6) 1) (y2) (y3) (y5 ++ rowC y3 (Qap y2) x6 (1 : Int).toNat)) none) (some (.exit 0, Qfv y5))
def Qkj (x6 : Int) (y2 y3 : Qab) (y5 : List Keep) : Option (Exit × VS) := some (.exit 0, Qfv (y5 ++ verC y3 (Qap y2) x6.toNat (hiC y2 y3 + 1 - x6).toNat))
theorem QSc (x6 : Int) (y2 y3 : Qab) (y5 : List Keep) : Qaj g_f21 Qk2 Qna (Qs5 x6 y2 y3 y5) = QOD x6 y2 y3 y5 := by kernel_rfl
theorem QCj (x6 : Int) (y2 y3 : Qab) (y5 : List Keep) : Qn7 x6 y2 y3 y5 = QqC x6 y2 y3 y5 := (Qan _ _).trans (by
 rw [QSc]
 simp only [QOD, QqC, Qay, nxt_n, nxt_r, nxt_e, nxt_0]
 rfl)
def r_f21 (p0 p1 : Qab) : Option (V × List VO) :=
 let a1 := imx p0.2.1 p1.2.1
 br (QaZ p0) (br (ine (Qcu p0) 0) (some (.t (.sl Qag) ([] : List Keep), [])) (br (QaZ p1) (br (ine (Qcu p1) 0) (some (.t (.sl Qag) ([] : List Keep), [])) (br (decide (1 ≤ a1 ∧ a1 ≤ 5 ∧ hiC p0 p1 ≤ 4 ∧ (([] : List Keep).length : Int) ≤ 16 * a1) && lenEE p1 (Qap p0)) (some (.t (.sl Qag) (([] : List Keep) ++ verC p1 (Qap p0) a1.toNat (hiC p0 p1 + 1 - a1).toNat), [])) none)) none)) none
theorem e_f21 (p0 p1 : Qab) : runF g_f21 QGo QUa false [.t Qae p0, .t Qae p1] [] = r_f21 p0 p1 := by kernel_rfl
theorem en_f21 : Qai Tryz.prog 21 := .inr ⟨by decide, _, Tryz.func21, by kernel_rfl, by kernel_rfl⟩
theorem gk_f21 : GOk Tryz.prog g_f21 := Qal _ (gA (gC en_f58 ms_f58 (gC en_f59 ms_f59 gN)))
theorem QYg (x6 x7 : Int) (y2 y3 : Qab) (y5 : List Keep) (h : (decide (1 ≤ x7 ∧ x7 ≤ 17 ∧ (y5.length : Int) ≤ 200 + x7) && lenEE y3 (Qap y2)) = true) : QjM x6 x7 y2 y3 y5 = Qok x6 x7 y2 y3 y5 := by
 obtain ⟨h, hc⟩ := Bool.and_eq_true_iff.1 h
 obtain ⟨h0, h1, h2⟩ := of_decide_eq_true h
 clear h
 obtain ⟨k, rfl⟩ := Int.eq_ofNat_of_zero_le (show 0 ≤ x7 by omega)
 obtain ⟨m, hm⟩ : ∃ m, m = 17 - k := ⟨_, rfl⟩
 have key : ∀ (m k : Nat) (y5 : List Keep), m = 17 - k → k ≤ 17 → y5.length ≤ 200 + k → QjM x6 (k : Int) y2 y3 y5 = Qok x6 (k : Int) y2 y3 y5 := by
  intro m
  induction m with
  | zero =>
   intro k y5 hm h1 h2
   have : k = 17 := by omega
   subst this
   rw [QCk]
   simp only [QuD, Qok, show ile ((17 : Nat) : Int) 16 = false from rfl, Qaf, Int.toNat_natCast, rowC, Nat.sub_self, List.range'_zero, List.filter_nil, List.map_nil, List.append_nil]
  | succ m ih =>
   intro k y5 hm h1 h2
   rw [QCk]
   have c1 : ∀ v w, posOk y3 (Qap y2) v w = true := fun _ _ => hc
   have c2 : ∀ v : Keep, cApp y5 [v] 16 = true := fun v => cAppN (by omega) (by simp only [List.length_singleton]; omega)
   simp only [QuD, show ile (k : Int) 16 = true from decide_eq_true (by omega), Qad, c1, c2, add1 (show k < 4611686018427387904 by omega)]
   rw [ih (k + 1) y5 (by omega) (by omega) (by omega), ih (k + 1) (y5 ++ [(x6, ((k : Int), ()))]) (by omega) (by omega) (by simp only [List.length_append, List.length_singleton]; omega)]
   simp only [Qok, Int.toNat_natCast, QJo (show k < 17 by omega)]
   cases posE y3 (Qap y2) x6 (k : Int) with
   | true => simp only [Qad, if_true, List.append_assoc, List.singleton_append]
   | false => simp only [Qaf, Bool.false_eq_true, if_false]
 exact key m k y5 hm (by omega) (by omega)
theorem QYf (x6 : Int) (y2 y3 : Qab) (y5 : List Keep) (h : (decide (1 ≤ x6 ∧ x6 ≤ 5 ∧ hiC y2 y3 ≤ 4 ∧ (y5.length : Int) ≤ 16 * x6) && lenEE y3 (Qap y2)) = true) : Qn7 x6 y2 y3 y5 = Qkj x6 y2 y3 y5 := by
 obtain ⟨h, hc⟩ := Bool.and_eq_true_iff.1 h
 obtain ⟨h0, h1, h2, h3⟩ := of_decide_eq_true h
 clear h
 obtain ⟨k, rfl⟩ := Int.eq_ofNat_of_zero_le (show 0 ≤ x6 by omega)
 have key : ∀ (m k : Nat) (y5 : List Keep), m = 5 - k → 1 ≤ k → k ≤ 5 → y5.length ≤ 16 * k → Qn7 (k : Int) y2 y3 y5 = Qkj (k : Int) y2 y3 y5 := by
  intro m
  induction m with
  | zero =>
   intro k y5 hm h0 h1 h3
   have : k = 5 := by omega
   subst this
   rw [QCj]
   have e : (hiC y2 y3 + 1 - ((5 : Nat) : Int)).toNat = 0 := by omega
   simp only [QqC, Qkj, show ile ((5 : Nat) : Int) (imn y2.2.2.1 y3.2.2.1) = false from decide_eq_false (by show ¬ _ ≤ hiC y2 y3; omega), Qaf, e, verC, List.range'_zero, List.flatMap_nil, List.append_nil]
  | succ m ih =>
   intro k y5 hm h0 h1 h3
   rw [QCj]
   by_cases hk : (k : Int) ≤ hiC y2 y3
   ·have e1 : (hiC y2 y3 + 1 - (k : Int)).toNat = (hiC y2 y3 + 1 - ((k + 1 : Nat) : Int)).toNat + 1 := by omega
    have c0 : (decide ((1 : Int) ≤ 1 ∧ (1 : Int) ≤ 17 ∧ (y5.length : Int) ≤ 200 + 1) && lenEE y3 (Qap y2)) = true := Bool.and_eq_true_iff.2 ⟨decide_eq_true (by omega), hc⟩
    have hr := QPq y3 (Qap y2) (k : Int) 1
    have hi := ih (k + 1) (y5 ++ rowC y3 (Qap y2) (k : Int) 1) (by omega) (by omega) (by omega) (by simp only [List.length_append]; omega)
    simp only [QqC, show ile (k : Int) (imn y2.2.2.1 y3.2.2.1) = true from decide_eq_true hk, Qad, add1 (show k < 4611686018427387904 by omega)]
    refine Eq.trans (congrArg (fun b => br b _ _) c0) ?_
    rw [Qad]
    refine Eq.trans hi ?_
    simp only [Qkj, Int.toNat_natCast, e1, verC, List.range'_succ, List.flatMap_cons, List.append_assoc]
   ·have e1 : (hiC y2 y3 + 1 - (k : Int)).toNat = 0 := by omega
    simp only [QqC, show ile (k : Int) (imn y2.2.2.1 y3.2.2.1) = false from decide_eq_false hk, Qaf, Qkj, e1, verC, List.range'_zero, List.flatMap_nil, List.append_nil]
 exact key (5 - k) k y5 rfl (by omega) (by omega) (by omega)
theorem QP3 : ∀ S l p, g_f21.L 0 (fgt Qk3 S) = some (true, l) → pickA l = some p → loopF (Qaj g_f21 Qk3 Qnb) S = some p :=
 QaB (s := Qtz) ⟨by decide, by decide⟩ (by kernel_rfl) fun x y hok p hp => by
 simp only [Qao, Qam] at hp
 exact (QYg x.2.2.2.1 x.2.2.2.2.1 y.1 y.2.1 y.2.2.1 (by simpa using hok)).trans hp
theorem QP2 : ∀ S l p, g_f21.L 1 (fgt Qk2 S) = some (true, l) → pickA l = some p → loopF (Qaj g_f21 Qk2 Qna) S = some p :=
 QaB (s := Qty) ⟨by decide, by decide⟩ (by kernel_rfl) fun x y hok p hp => by
 simp only [Qao, Qam] at hp
 exact (QYf x.2.2.2.1 y.1 y.2.1 y.2.2.1 (by simpa using hok)).trans hp
theorem lk_f21 : QGo.lok g_f21 := by
 repeat (first | exact trivial | exact QP3 | exact QP2 | refine ⟨?_, ?_⟩)
theorem s_f21 (c s : Qab) (h : Qa8 c s = true) : r_f21 c s = some (.t (.sl Qag) (QaR c s), []) := by
 obtain ⟨hc, hs⟩ := Bool.and_eq_true_iff.1 h
 have hs' := Qbm hs
 have hc' := Qbm hc
 simp only [r_f21, hc, hs, Qad, QrH]
 unfold QaR Qew
 cases hv : QaJ c with
 | false => rfl
 | true =>
  cases hw : QaJ s with
  | false => rfl
  | true =>
   have v1 := Qbw hv
   have v2 := Qbw hw
   have b1 : 1 ≤ loC c s ∧ loC c s ≤ 4 := by simp only [loC, imx]; omega
   have b2 : hiC c s ≤ 4 := by simp only [hiC, imn]; omega
   have c0 : (decide (1 ≤ loC c s ∧ loC c s ≤ 5 ∧ hiC c s ≤ 4 ∧ (([] : List Keep).length : Int) ≤ 16 * loC c s) && lenEE s (Qap c)) = true := Bool.and_eq_true_iff.2 ⟨decide_eq_true ⟨b1.1, by omega, b2, by simp only [List.length_nil]; omega⟩, decide_eq_true ⟨hs'.2.2.1, hs'.2.1, hc'.2.1⟩⟩
   rw [Bool.not_true, Qaf, Qaf]
   refine Eq.trans (congrArg (fun b => br b _ _) c0) ?_
   rfl
def QTn : Ent := spec (.pr Qae (.pr Qae .nil)) (fun x => (Qa8 x.1 x.2.1)) (fun x => (.t (.sl Qag) (QaR x.1 x.2.1)))
theorem ms_f21 : Meets Tryz.prog 21 (strip QTn) := Qah (R := runF g_f21 QGo QUa false) (mG Tryz.func21 (by kernel_rfl) Tryz.ntmps21 (by kernel_rfl) gk_f21 lk_f21) fun x hok => (e_f21 x.1 x.2.1).trans (s_f21 x.1 x.2.1 hok)
end
end Go.Proofs.YtckcgijklnloiaaGreat.K
namespace Go.Proofs.YtckcgijklnloiaaGreat.K
open Go.RowKit
noncomputable section
theorem QHN (l : List Int) : (sortI l).Pairwise (· ≤ ·) := by
 have := List.pairwise_mergeSort (le := fun x y : Int => decide (x ≤ y)) (fun a b c h1 h2 => by simp only [decide_eq_true_eq] at *; omega) (fun a b => by simp only [Bool.or_eq_true, decide_eq_true_eq]; omega) l
 exact this.imp fun h => of_decide_eq_true h
theorem QvH {l : List Int} {p : Int → Bool} (hn : l.Nodup) (hr : ∀ x ∈ l, 1 ≤ x ∧ x ≤ 16) (hp : ∀ x, p x = true → x ∈ l) : (sortI l).filter p = (((List.range' 1 16).filter fun (j : Nat) => p (j : Int)).map fun (j : Nat) => (j : Int)) := by
 have hperm : (sortI l).Perm l := List.mergeSort_perm _ _
 refine List.Perm.eq_of_pairwise (le := (· ≤ ·)) (fun a b _ _ h1 h2 => by omega) ((QHN l).filter _) ?_ ?_
 ·rw [List.pairwise_map]
  refine List.Pairwise.filter _ ?_
  refine (List.pairwise_lt_range' (s := 1) (n := 16)).imp fun h => by omega
 ·refine (List.perm_ext_iff_of_nodup ((hperm.nodup_iff.2 hn).filter _) ?_).2 fun a => ?_
  ·rw [List.nodup_iff_pairwise_ne, List.pairwise_map]
   refine List.Pairwise.filter _ ?_
   refine (List.pairwise_lt_range' (s := 1) (n := 16)).imp fun h => by omega
  ·simp only [List.mem_filter, List.mem_map, List.mem_range'_1, hperm.mem_iff]
   constructor
   ·rintro ⟨h1, h2⟩
    have := hr a h1
    exact ⟨a.toNat, ⟨by omega, by rw [Int.toNat_of_nonneg (by omega)]; exact h2⟩, Int.toNat_of_nonneg (by omega)⟩
   ·rintro ⟨j, ⟨_, h2⟩, rfl⟩
    exact ⟨hp _ h2, h2⟩
def rowS (s : Qab) (o : List Int) (v : Int) (l : List Int) : List Keep := (l.filter fun j => posE s o v j).map fun j => (v, (j, ()))
theorem QO4 {l : List Int} (h : suitF l = true) : ∀ x ∈ l, 1 ≤ x ∧ x ≤ 16 := by
 intro x hx
 obtain ⟨k, hk, rfl⟩ := List.mem_iff_getElem.1 hx
 exact (Qlq h k hk).1
theorem QVj {s : Qab} {o : List Int} {v : Int} (h : suitF o = true) : rowS s o v (sortI o) = rowC s o v 1 := by
 unfold rowS rowC
 rw [QvH (p := fun j => posE s o v j) (Qsb h) (QO4 h) (fun x hx => by
  simp only [posE, Bool.and_eq_true] at hx
  exact List.contains_iff_mem.1 hx.2.2.2.1), List.map_map]
 rfl
theorem QEl {c : Qab} (h : QaJ c = true) : suitF (Qap c) = true := by
 simp only [QaJ, Bool.and_eq_true] at h
 exact h.2.2.2.2.1
end
end Go.Proofs.YtckcgijklnloiaaGreat.K
namespace Go.Proofs.YtckcgijklnloiaaGreat.K
open Go.RowKit Go.Shelf
attribute [local go_sem] Oper.semAt_some
set_option maxRecDepth 100000 in
set_option maxHeartbeats 1000000 in
theorem QBv (Bs b0 off c n : Nat) (A : Option Addr) (vs : List Value) (Xf : Nat → Nat → Prop) (w : World) (hreach : n * 8 ≤ 140737488351232) (hvl : vs.length = n)
  (hBs : w.cell? ⟨Bs, 0, none⟩ = some (.slice A n c)) (hBl : Bs < w.heap.size)
  (hA : 0 < n → A = some ⟨b0, off, none⟩ ∧ b0 < w.heap.size ∧ (∀ j, j < vs.length → ¬ Xf b0 (off + j)) ∧ ∀ j v, vs[j]? = some v → w.cell? ⟨b0, off + j, none⟩ = some v) :
  ItOk Tryz.prog 136 [.pointer (some ⟨Bs, 0, none⟩)] (vs.map fun v => #[v]) Xf w := by
 intro l J Jx W hJ hJx hK hY h0 hst
 have HA := Lib.hid hA
 clear hA
 refine callsIn_of_wp (F := Fw none) Tryz.func136 rfl trivial ?_ rfl
 simp only [Tryz.ntmps136, List.size_toArray, List.length_cons, List.length_nil, Nat.reduceAdd, Nat.reduceSub, Array.replicate_succ, Array.replicate_zero, List.push_toArray, List.append_toArray, List.nil_append, List.cons_append]
 have hb0 : W.cell? ⟨Bs, 0, none⟩ = some (.slice A n c) := (hst Bs 0 hBl).trans hBs
 gi_wp2
 gi_loopw [7] (fun i wr => ∃ k : Nat, k ≤ n ∧ i = .int .i64 (k : Int) ∧ J ((vs.drop k).map fun v => #[v]) wr)
  (fun i _ => n - (intOf i).toNat)
 case atStart => exact ⟨0, Nat.zero_le _, rfl, h0⟩
 case round =>
  obtain ⟨k, hk, rfl, hJs⟩ := hrel
  by_cases hlt : k < n
  ·obtain ⟨rfl, hbl, hnx, hcl⟩ := HA.out (by omega)
   have hlt2 : k < vs.length := by omega
   rw [List.drop_eq_getElem_cons hlt2, List.map_cons] at hJs
   obtain ⟨fn, tmps, assign, body, hy, hR⟩ := hY _ _ wr hJs
   have hcx' : wr.cell? ⟨b0, off + k, none⟩ = some vs[k] := ((hK _ wr hJs).2 b0 _ hbl (hnx _ hlt2)).trans (hcl _ _ (List.getElem?_eq_getElem hlt2))
   clear hnx hcl hY
   gi_wp2
   refine hR.mono ?_
   rintro e W3 (⟨rfl, hJ3⟩ | ⟨rfl, hJx3⟩)
   ·gi_wp2
    go_roundw
    case rel => exact ⟨k + 1, by omega, by simp, hJ3⟩
    case measure => simp [intOf]; omega
   ·gi_wp2
    refine bodyPost_ret (results_none rfl _ _ _) rfl ?_
    exact ⟨⟨_, rfl⟩, .inr hJx3⟩
  ·obtain rfl : k = n := by omega
   rw [List.drop_of_length_le (by omega)] at hJs
   gi_wp2
   go_end0
   exact ⟨⟨_, rfl⟩, .inl hJs⟩
def mkIt (l : List SV) (bs : List Ty) (yr : Ty) (ok : boxT bs → Bool) (f : boxT bs → List yr.T) : Itr := fun caps objs =>
 match rdVt l caps, Qbv bs objs with
 | some _, some d => some (ok d, ⟨yr, f d⟩)
 | _, _ => none
def Qgc (l : List Int) : Bool := decide (l.length ≤ 100000)
def valI (l : List Int) : List (Int × Unit) := l.map fun x => (x, ())
def Qoo : Itr := mkIt [.ptr 50000 0] [(.sl tI)] (.pr tI .nil) (fun d => (Qgc d.1)) (fun d => (valI d.1))
noncomputable def QFQ : TC := (.sq (.reg (rT Tryz.f89 0)) (.sq (.reg (rT Tryz.f89 1)) .rt))
def QTC : List (RV × Option Ty) := [((.t 2), none)]
def g_f89 : G := ⟨TYs, [], 4, EL [], keeps, (fun _ _ => none), IL [], RL []⟩
def r_f89 (p0 : List Int) : Option (V × List VO) := some (.fn 136 [(.ptr 50000 0)], [.box (.t (.sl tI) p0)])
theorem e_f89 (p0 : List Int) : runF g_f89 QFQ QTC true [.t (.sl tI) p0] [] = r_f89 p0 := by kernel_rfl
theorem en_f89 : Qai Tryz.prog 89 := .inr ⟨by decide, _, Tryz.func89, by kernel_rfl, by kernel_rfl⟩
theorem gk_f89 : GOk Tryz.prog g_f89 := Qal _ (fun p hp => by cases hp)
theorem lk_f89 : QFQ.lok g_f89 := by repeat (first | exact trivial | refine ⟨?_, ?_⟩)
def QS4 : Ent := specO (.pr (.sl tI) .nil) (fun _ => true) (fun x => .fn 136 [.ptr 50000 0]) (fun x => [.box (.t (.sl tI) x.1)])
theorem ms_f89 : Meets Tryz.prog 89 (strip QS4) := QqO (R := runF g_f89 QFQ QTC true) (mG Tryz.func89 (by kernel_rfl) Tryz.ntmps89 (by kernel_rfl) gk_f89 lk_f89) fun x _ => (e_f89 x.1).trans rfl
theorem QNH (l : List Int) : l.flatMap tI.cells = l.map fun x => D.v (.int .i64 x) := by
 induction l with
 | nil => rfl
 | cons x r ih => rw [List.flatMap_cons, ih, List.map_cons]; rfl
theorem QMf : Iters Tryz.prog (136 + 1000000) Qoo := by
 refine Iters.strong (enters_of Tryz.func136 (by kernel_rfl) rfl) fun caps objs yr rows h X w σ lb hfin hl hc => ?_
 unfold Qoo mkIt at h
 split at h
 ·rename_i x d hx hd
  simp only [Option.some.injEq, Prod.mk.injEq] at h
  obtain ⟨hok, h⟩ := h
  cases h
  have hcaps := Qlw hx
  subst hcaps
  cases objs with
  | nil => simp [Qbv] at hd
  | cons o os =>
   cases o with
   | box cv =>
    cases os with
    | cons o2 os => simp [Qbv] at hd
    | nil =>
     simp only [Qbv] at hd
     split at hd
     ·rename_i l u hl1 _
      simp only [Option.some.injEq] at hd
      subst hd
      have hlen : l.length ≤ 100000 := of_decide_eq_true hok
      have hcv := SV.rd_mk (s := .ty (.sl tI)) (v := cv) (x := l) (by simpa [asBox, Ty.row] using hl1)
      subst hcv
      obtain ⟨⟨Bs, ty, us, h1, h2, h3, h4⟩, _⟩ := hl.at_ 0 _ rfl
      have h3' : Cs X w σ [.sl (List.length l) (List.flatMap tI.cells l)] us := h3
      obtain ⟨uv, rfl, h5⟩ := h3'.one
      simp only [C] at h5
      obtain ⟨A, c, rfl, g1, g2, g3, g4⟩ := h5
      simp only [mkVt, SV.mk, V.ds, V.d, Cs, C] at hc
      obtain ⟨p, ps, rfl, ⟨b', e1, rfl⟩, rfl⟩ := hc
      have h1 : σ 50000 = .box Bs := h1
      rw [h1] at e1
      injection e1 with e1
      subst e1
      have hcell : w.cell? ⟨Bs, 0, none⟩ = some (.slice A (List.length l) c) := by simp [World.cell?, h2]
      have hBl := (Array.getElem?_eq_some_iff.1 h2).1
      rcases Nat.eq_zero_or_pos (List.length l) with h0 | hp
      ·have hl0 : l = [] := List.eq_nil_of_length_eq_zero h0
       subst hl0
       exact ⟨[], ⟨rfl, fun i r v hr => by simp [valI] at hr⟩, QBv Bs 0 0 c 0 A [] _ w (by omega) rfl hcell hBl (fun h => absurd h (by omega))⟩
      ·obtain ⟨b0, off, vs, rfl, g5, g6⟩ := g4 hp
       have hvl := g5.len
       rw [QNH, List.length_map] at hvl
       refine ⟨vs.map fun v => #[v], ⟨by simp [valI, hvl], fun i r v hr hv => ?_⟩, QBv Bs b0 off c (List.length l) _ vs _ w (by omega) hvl hcell hBl (fun _ => ⟨rfl, g6.lt, fun j hj hx => g6.nx j hj hx, fun j v hv => g6.at_ j v hv⟩)⟩
       rw [QNH] at g5
       simp only [valI, List.getElem?_map, Option.map_eq_some_iff] at hr hv
       obtain ⟨x, hx, rfl⟩ := hr
       obtain ⟨u, hu, rfl⟩ := hv
       have hd : (l.map fun x => D.v (.int .i64 x))[i]? = some (.v (.int .i64 x)) := by rw [List.getElem?_map, hx]; rfl
       obtain ⟨u2, hu2, hcu⟩ := g5.at_ hd
       rw [hu] at hu2
       injection hu2 with hu2
       subst hu2
       simp only [Ty.canon, V.ds, V.d, Cs]
       refine ⟨_, _, rfl, ?_, rfl⟩
       rw [(C.v hcu).1]
       simp only [Ty.d, C]
       exact ⟨trivial, rfl⟩
     ·cases hd
   | no => simp [Qbv] at hd
   | arr e t l => simp [Qbv] at hd
 ·cases h
end Go.Proofs.YtckcgijklnloiaaGreat.K
namespace Go.Proofs.YtckcgijklnloiaaGreat.K
open Go.RowKit
noncomputable section
def idL (l : List Int) : List Int := l
def sortL (l : List Int) : List Int := sortI l
def Qbe : Fg := ⟨[(2, none)], [(60000, none), (11, none), (20200, none), (50000, some (.sl tI))]⟩
noncomputable def Qdg : TC := (.reg (rT Tryz.f160 2))
noncomputable def Qdf : TC := (.bk 1 (.reg (rT Tryz.f160 3)))
noncomputable def Qip : TC := (.sq (.reg (rT Tryz.f160 0)) (.sq (.sq (.reg (rT Tryz.f160 1)) (.bk 0 (.nf 2 0 3 20200 (.rf 0 Qbe (.t 6) (.pr tI .nil) [7] [2] Qdg Qdf)))) (.sq (.reg (rT Tryz.f160 4)) .rt)))
def Qqi : List (RV × Option Ty) := [((.t 4), none)]
abbrev QfF : Sh := ⟨[(2, .ptr 60000 0)], [(60000, .bag [.ms 20200]), (11, .no), (20200, .arr 3 tI), (50000, .box (.sl tI))]⟩
def QfC (y20200 y50000 : List Int) : VS := QfF.st ((), ()) (((), ()), (), y20200, y50000, ())
abbrev Qic : Sh := ⟨[(2, .ptr 60000 0)], [(60000, .bag [.ms 20200]), (11, .no), (20200, .arr 3 tI), (50000, .box (.sl tI))]⟩
def Qc9 (y20200 y50000 : List Int) : VS := Qic.st ((), ()) (((), ()), (), y20200, y50000, ())
def QeR : VS → List (Ty.T (.pr tI .nil)) → Option (Bool × List (Bool × Exit × VS)) := mkR QfF (fun zs x y => (decide (zs.length + y.2.2.1.length ≤ 100000))) (fun zs x y => [(true, .normal, Qc9 (y.2.2.1 ++ zs.map (fun z => z.1)) (y.2.2.2.1))])
def QbQ : G := ⟨TYs, [], 13, EL [], keeps, (Ls [fun _ => none]), IL [(1000136, Qoo)], (RL [⟨(.pr tI .nil), QeR⟩])⟩
def QmH (z : (Int × Unit)) (y20200 y50000 : List Int) : Option (Exit × VS) := br (cApp y20200 ([z.1]) 8) (some (.normal, QfC (y20200 ++ ([z.1])) y50000)) none
noncomputable def QfW (zs : List (Int × Unit)) (y20200 y50000 : List Int) : Option (Exit × VS) := Qda (Qev QbQ Qbe (.pr tI .nil) [7] Qdg Qdf) zs (QfC y20200 y50000)
noncomputable def QgP (z : (Int × Unit)) (zs : List (Int × Unit)) (y20200 y50000 : List Int) : Option (Exit × VS) := br (cApp y20200 ([z.1]) 8) (QfW zs (y20200 ++ ([z.1])) y50000) none
def Qf3 (zs : List (Int × Unit)) (y20200 y50000 : List Int) : Option (Exit × VS) := some (.normal, Qc9 (y20200 ++ zs.map (fun z => z.1)) (y50000))
theorem Qvi (z : (Int × Unit)) (y20200 y50000 : List Int) : Qev QbQ Qbe (.pr tI .nil) [7] Qdg Qdf z (QfC y20200 y50000) = QmH z y20200 y50000 := by kernel_rfl
theorem QuU (z : (Int × Unit)) (zs : List (Int × Unit)) (y20200 y50000 : List Int) : QfW (z :: zs) y20200 y50000 = QgP z zs y20200 y50000 := (QiF _ _ _ _).trans (by
 rw [Qvi]
 simp only [QmH, QgP, Qay, nxt_n, nxt_r, nxt_e, nxt_0]
 rfl)
def Qlz (d0 : List Int) : Option (V × List VO) := br (Qgc d0) (br (decide ((valI d0).length + ([] : List Int).length ≤ 100000)) (some (.ms 50001, [.box (.t (.sl tI) (d0)), .arr 3 tI (([] : List Int) ++ (valI d0).map (fun z => z.1))])) none) none
theorem QFb (d0 : List Int) : runF QbQ Qip Qqi true [.c (.slice none 0 0), .fn 136 [(.ptr 50000 0)]] [.box (.t (.sl tI) d0)] = Qlz d0 := by kernel_rfl
theorem QA4 : Qai Tryz.prog 160 := .inr ⟨by decide, _, Tryz.func160, by kernel_rfl, by kernel_rfl⟩
theorem QAQ : GOk Tryz.prog QbQ := Qal _ (fun p hp => by cases hp) [(1000136, Qoo)] (by
 intro p hp
 simp only [List.mem_cons, List.not_mem_nil, or_false] at hp
 rcases hp with rfl
 ·exact QMf)
theorem Qxv (zs : List (Int × Unit)) (y20200 y50000 : List Int) (h : (decide (zs.length + y20200.length ≤ 100000)) = true) : QfW zs y20200 y50000 = Qf3 zs y20200 y50000 := by
 induction zs generalizing y20200 with
 | nil =>
  simp only [Qf3, List.map_nil, List.append_nil]
  rfl
 | cons z zs ih =>
  rw [QuU]
  have h := of_decide_eq_true h
  rw [List.length_cons] at h
  have c1 : cApp y20200 [z.1] 8 = true := cAppN (by omega) (by simp only [List.length_singleton]; omega)
  simp only [QgP, c1, Qad]
  rw [ih (y20200 ++ [z.1]) (decide_eq_true (by simp only [List.length_append, List.length_singleton]; omega))]
  simp only [Qf3, List.map_cons, List.append_assoc, List.singleton_append]
theorem QuS : ∀ S (rows : List (Ty.T (.pr tI .nil))) l p, QbQ.R 0 (fgt Qbe S) (.pr tI .nil) rows = some (true, l) → pickA l = some p → Qda (Qev QbQ Qbe (.pr tI .nil) [7] Qdg Qdf) rows (fgt Qbe S) = some p := by
 intro S rows l p hR hp
 rw [show QbQ.R 0 (fgt Qbe S) (.pr tI .nil) rows = QeR (fgt Qbe S) rows from RL_at (l := [⟨(.pr tI .nil), QeR⟩]) (j := 0) (F := QeR) rfl _ _] at hR
 refine QAu (s := QfF) ⟨by decide, by decide⟩ (by kernel_rfl) (fun zs x y hok p hp => ?_) S rows l p hR hp
 simp only [Qao, Qam] at hp
 exact (Qxv zs y.2.2.1 y.2.2.2.1 (by first | rfl | simpa using hok)).trans hp
theorem QAA : Qip.lok QbQ := by
 repeat (first | exact trivial | exact QuS | refine ⟨?_, ?_⟩)
theorem QOU (l : List Int) : (valI l).map (fun z => z.1) = l := by
 unfold valI
 rw [List.map_map]
 exact List.map_id _
theorem QEy (l : List Int) (h : Qgc l = true) : Qlz l = some (.ms 50001, [.box (.t (.sl tI) l), .arr 3 tI (idL l)]) := by
 have hl : l.length ≤ 100000 := of_decide_eq_true h
 have c1 : decide ((valI l).length + ([] : List Int).length ≤ 100000) = true := decide_eq_true (by simp only [valI, List.length_map, List.length_nil]; omega)
 simp only [Qlz, h, Qad]
 refine Eq.trans (congrArg (fun b => br b _ _) c1) ?_
 rw [Qad, List.nil_append, QOU]
 rfl
def Qpm : Ent := specB [.nl, .fn 136 [(50000, 0)]] [.box (.sl tI)] (fun x y => (Qgc y.1)) (fun x y => (.ms 50001)) (fun x y => [.box (.t (.sl tI) y.1), .arr 3 tI (idL y.1)])
theorem QAc : Meets Tryz.prog 160 (strip Qpm) := QcF (QaV (R := runF QbQ Qip Qqi true) (mG Tryz.func160 (by kernel_rfl) Tryz.ntmps160 (by kernel_rfl) QAQ QAA) fun x y hok => (QFb y.1).trans (QEy y.1 hok))
noncomputable def Qiq : TC := (.sq (.reg (rT Tryz.f134 0)) (.sq (.reg (rT Tryz.f134 1)) .rt))
def Qqj : List (RV × Option Ty) := [((.t 2), none)]
def Qh1 : G := ⟨TYs, [], 5, EL [(160, Qpm)], keeps, (fun _ _ => none), IL [], RL []⟩
def QlA (d0 : List Int) : Option (V × List VO) := br (Qgc d0) (some (.ms 50001, [.box (.t (.sl tI) d0), .arr 3 tI (idL d0)])) none
theorem QFc (d0 : List Int) : runF Qh1 Qiq Qqj true [.fn 136 [(.ptr 50000 0)]] [.box (.t (.sl tI) d0)] = QlA d0 := by kernel_rfl
theorem QA6 : Qai Tryz.prog 134 := .inr ⟨by decide, _, Tryz.func134, by kernel_rfl, by kernel_rfl⟩
theorem QAR : GOk Tryz.prog Qh1 := Qal _ (gA (gC QA4 QAc gN))
theorem QAB : Qiq.lok Qh1 := by repeat (first | exact trivial | refine ⟨?_, ?_⟩)
theorem QEz (l : List Int) (h : Qgc l = true) : QlA l = some (.ms 50001, [.box (.t (.sl tI) l), .arr 3 tI (idL l)]) := by
 simp only [QlA, h, Qad]
def Qpn : Ent := specB [.fn 136 [(50000, 0)]] [.box (.sl tI)] (fun x y => (Qgc y.1)) (fun x y => (.ms 50001)) (fun x y => [.box (.t (.sl tI) y.1), .arr 3 tI (idL y.1)])
theorem QAe : Meets Tryz.prog 134 (strip Qpn) := QcF (QaV (R := runF Qh1 Qiq Qqj true) (mG Tryz.func134 (by kernel_rfl) Tryz.ntmps134 (by kernel_rfl) QAR QAB) fun x y hok => (QFc y.1).trans (QEz y.1 hok))
noncomputable def Qll : TC := (.sq (.reg (rT Tryz.f88 0)) (.sq (.reg (rT Tryz.f88 1)) (.sq (.reg (rT Tryz.f88 2)) (.sq (.reg (rT Tryz.f88 3)) .rt))))
def Qsm : List (RV × Option Ty) := [((.t 2), none)]
def QkI : G := ⟨TYs, [], 9, EL [(134, Qpn), (135, QHw)], keeps, (fun _ _ => none), IL [], RL []⟩
def Qqq (d0 : List Int) : Option (V × List VO) := br (Qgc d0) (br (lenOk (idL d0)) (some (.ms 50001, [.box (.t (.sl tI) d0), .arr 3 tI (sortI (idL d0))])) none) none
theorem QNc (d0 : List Int) : runF QkI Qll Qsm true [.fn 136 [(.ptr 50000 0)]] [.box (.t (.sl tI) d0)] = Qqq d0 := by kernel_rfl
theorem QE4 : Qai Tryz.prog 88 := .inr ⟨by decide, _, Tryz.func88, by kernel_rfl, by kernel_rfl⟩
theorem QEW : GOk Tryz.prog QkI := Qal _ (gA (gC QA6 QAe (gC Q0o QWi gN)))
theorem QEM : Qll.lok QkI := by repeat (first | exact trivial | refine ⟨?_, ?_⟩)
theorem QHZ (l : List Int) (h : Qgc l = true) : Qqq l = some (.ms 50001, [.box (.t (.sl tI) l), .arr 3 tI (sortL l)]) := by
 have hl : l.length ≤ 100000 := of_decide_eq_true h
 have c1 : lenOk (idL l) = true := decide_eq_true (by show l.length < _; omega)
 simp only [Qqq, h, c1, Qad]
 rfl
def Qse : Ent := specB [.fn 136 [(50000, 0)]] [.box (.sl tI)] (fun x y => (Qgc y.1)) (fun x y => (.ms 50001)) (fun x y => [.box (.t (.sl tI) y.1), .arr 3 tI (sortL y.1)])
theorem QEG : Meets Tryz.prog 88 (strip Qse) := QcF (QaV (R := runF QkI Qll Qsm true) (mG Tryz.func88 (by kernel_rfl) Tryz.ntmps88 (by kernel_rfl) QEW QEM) fun x y hok => (QNc y.1).trans (QHZ y.1 hok))
end
end Go.Proofs.YtckcgijklnloiaaGreat.K
namespace Go.Proofs.YtckcgijklnloiaaGreat.K
open Go.RowKit
noncomputable section
def rowT (t : Talk) (v : Int) (l : List Int) : List Keep := (l.filter fun j => possF t j).map fun j => (v, (j, ()))
theorem QJm {t : Talk} {v x : Int} {r : List Int} : rowT t v (x :: r) = if possF t x = true then (v, (x, ())) :: rowT t v r else rowT t v r := by
 unfold rowT
 rw [List.filter_cons]
 split <;> rfl
theorem QPp (t : Talk) (v : Int) (l : List Int) : (rowT t v l).length ≤ l.length := by
 unfold rowT
 rw [List.length_map]
 exact List.length_filter_le _ _
def verS (s : Qab) (o l : List Int) (v n : Nat) : List Keep := (List.range' v n).flatMap fun (j : Nat) => rowT (s, ((j : Int), (o, ()))) (j : Int) l
theorem QU5 {s : Qab} {o : List Int} {v n : Nat} (h : suitF o = true) : verS s o (sortI o) v n = verC s o v n := by
 unfold verS verC
 congr 1
 funext j
 exact QVj h
def QkY : Fg := ⟨[(2, none), (3, none), (5, none), (6, none), (7, some tI), (8, none), (38, none), (39, some tI), (40, some tI)], [(2, some Qae), (3, some Qae), (5, none), (8, some Qe3), (18, none), (52, none), (5018, none), (10018, none), (15018, none)]⟩
noncomputable def Qm6 : TC := (.sq (.reg (rT Tryz.f54 9)) (.sq (.cd (.t 41) .sk (.fg ⟨[(2, none), (3, none), (5, none), (6, none), (7, some tI)], [(2, some Qae), (3, some Qae), (5, none), (18, none), (52, none), (5018, none), (10018, none), (15018, none)]⟩ (.ex 2))) (.sq (.bk 3 (.sq (.reg (rT Tryz.f54 10)) (.sq (.reg (rT Tryz.f54 11)) (.cd (.t 46) (.reg (rT Tryz.f54 12)) .sk)))) (.reg (rT Tryz.f54 13)))))
def QkX : Fg := ⟨[(2, none), (3, none), (5, none), (6, none), (7, some tI)], [(2, some Qae), (3, some Qae), (5, none), (18, none), (52, none), (5018, none), (10018, none), (15018, none)]⟩
noncomputable def Qm5 : TC := (.sq (.sq (.reg (rT Tryz.f54 6)) (.cd (.t 30) .sk (.fg ⟨[(5, none)], [(5, none), (52, none)]⟩ (.ex 0)))) (.sq (.bk 1 (.sq (.reg (rT Tryz.f54 7)) (.sq (.reg (rT Tryz.f54 8)) (.bk 2 (.nw 5 39 (.lp 0 QkY Qm6)))))) (.reg (rT Tryz.f54 14))))
noncomputable def QF6 : TC := (.sq (.reg (rT Tryz.f54 0)) (.sq (.sq (.reg (rT Tryz.f54 1)) (.cd (.t 14) (.sq (.reg (rT Tryz.f54 2)) .rt) .sk)) (.sq (.reg (rT Tryz.f54 3)) (.sq (.reg (rT Tryz.f54 4)) (.sq (.sq (.reg (rT Tryz.f54 5)) (.bk 0 (.nw 5 39 (.lp 1 QkX Qm5)))) (.sq (.reg (rT Tryz.f54 15)) .rt))))))
def QTS : List (RV × Option Ty) := [((.t 4), some (.sl Qag))]
abbrev Qtu : Sh := ⟨[(2, .ptr 2 0), (3, .ptr 3 0), (5, .ms 5), (6, .ms 18), (7, .ty tI), (8, .ptr 8 0), (38, .ms 18), (39, .ty tI), (40, .ty tI)], [(2, .box Qae), (3, .box Qae), (5, .arr 39 Qag), (8, .box Qe3), (18, .arr 3 tI), (52, .no), (5018, .no), (10018, .no), (15018, .no)]⟩
def Qno (x7 x39 x40 : Int) (y2 y3 : Qab) (y5 : List Keep) (y8 : Talk) (y18 : List Int) : VS := Qtu.st ((), (), (), (), x7, (), (), x39, x40, ()) (y2, y3, y5, y8, y18, (), (), (), (), ())
abbrev QzJ : Sh := ⟨[(2, .ptr 2 0), (3, .ptr 3 0), (5, .ms 5), (6, .ms 18), (7, .ty tI)], [(2, .box Qae), (3, .box Qae), (5, .arr 39 Qag), (18, .arr 3 tI), (52, .no), (5018, .no), (10018, .no), (15018, .no)]⟩
def Qfq (x7 : Int) (y2 y3 : Qab) (y5 : List Keep) (y18 : List Int) : VS := QzJ.st ((), (), (), (), x7, ()) (y2, y3, y5, y18, (), (), (), (), ())
abbrev Qtt : Sh := ⟨[(2, .ptr 2 0), (3, .ptr 3 0), (5, .ms 5), (6, .ms 18), (7, .ty tI)], [(2, .box Qae), (3, .box Qae), (5, .arr 39 Qag), (18, .arr 3 tI), (52, .no), (5018, .no), (10018, .no), (15018, .no)]⟩
def Qs2 (x7 : Int) (y2 y3 : Qab) (y5 : List Keep) (y18 : List Int) : VS := Qtt.st ((), (), (), (), x7, ()) (y2, y3, y5, y18, (), (), (), (), ())
abbrev QzI : Sh := ⟨[(5, .ms 5)], [(5, .arr 39 Qag), (52, .no)]⟩
def Qfp (y5 : List Keep) : VS := QzI.st ((), ()) (y5, (), ())
def Q05 : VS → Option (Bool × List (Bool × Exit × VS)) := mkL Qtu (fun x y => (decide (x.2.2.2.2.2.2.2.1 = (y.2.2.2.2.1.length : Int) ∧ 0 ≤ x.2.2.2.2.2.2.2.2.1 ∧ x.2.2.2.2.2.2.2.2.1 ≤ x.2.2.2.2.2.2.2.1 ∧ y.2.2.2.2.1.length ≤ 16 ∧ (y.2.2.1.length : Int) ≤ 200 + x.2.2.2.2.2.2.2.2.1) && Qex y.2.2.2.1 0)) (fun x y => [(true, .exit 2, Qfq (x.2.2.2.2.1) (y.1) (y.2.1) (y.2.2.1 ++ rowT y.2.2.2.1 x.2.2.2.2.1 (y.2.2.2.2.1.drop x.2.2.2.2.2.2.2.2.1.toNat)) (y.2.2.2.2.1))])
def Q04 : VS → Option (Bool × List (Bool × Exit × VS)) := mkL Qtt (fun x y => (decide (1 ≤ x.2.2.2.2.1 ∧ x.2.2.2.2.1 ≤ 5 ∧ hiC y.1 y.2.1 ≤ 4 ∧ (y.2.2.1.length : Int) ≤ 16 * x.2.2.2.2.1 ∧ y.2.2.2.1.length ≤ 16) && lenEE y.2.1 (Qap y.1))) (fun x y => [(true, .exit 0, Qfp (y.2.2.1 ++ verS y.2.1 (Qap y.1) y.2.2.2.1 x.2.2.2.2.1.toNat (hiC y.1 y.2.1 + 1 - x.2.2.2.2.1).toNat))])
def g_f54 : G := ⟨TYs, [], 55, EL [(82, QBA), (88, Qse), (89, QS4), (90, QGC)], keeps, (Ls [Q05, Q04]), IL [], RL []⟩
def QOz (x7 x39 x40 : Int) (y2 y3 : Qab) (y5 : List Keep) (y8 : Talk) (y18 : List Int) : Option (Exit × VS) :=
 let a1 := lgt tI y18 (Int.toNat x40)
 br (ilt x40 x39) (br (cIx y18 x40) (br (cLd y18 (Int.toNat x40)) (br (Qex y8 a1) (br (possF y8 a1) (br (cApp y5 ([(x7, (a1, ()))]) 16) (some (.normal, Qno x7 x39 (iadd .i64 x40 1) y2 y3 (y5 ++ ([(x7, (a1, ()))])) y8 y18)) none) (some (.normal, Qno x7 x39 (iadd .i64 x40 1) y2 y3 y5 y8 y18))) none) none) none) (some (.exit 2, Qfq x7 y2 y3 y5 y18))
noncomputable def QhU (x7 x39 x40 : Int) (y2 y3 : Qab) (y5 : List Keep) (y8 : Talk) (y18 : List Int) : Option (Exit × VS) := loopF (Qaj g_f54 QkY Qm6) (Qno x7 x39 x40 y2 y3 y5 y8 y18)
noncomputable def Quz (x7 x39 x40 : Int) (y2 y3 : Qab) (y5 : List Keep) (y8 : Talk) (y18 : List Int) : Option (Exit × VS) :=
 let a1 := lgt tI y18 (Int.toNat x40)
 br (ilt x40 x39) (br (cIx y18 x40) (br (cLd y18 (Int.toNat x40)) (br (Qex y8 a1) (br (possF y8 a1) (br (cApp y5 ([(x7, (a1, ()))]) 16) (QhU x7 x39 (iadd .i64 x40 1) y2 y3 (y5 ++ ([(x7, (a1, ()))])) y8 y18) none) (QhU x7 x39 (iadd .i64 x40 1) y2 y3 y5 y8 y18)) none) none) none) (some (.exit 2, Qfq x7 y2 y3 y5 y18))
def Qkd (x7 x39 x40 : Int) (y2 y3 : Qab) (y5 : List Keep) (y8 : Talk) (y18 : List Int) : Option (Exit × VS) := some (.exit 2, Qfq (x7) (y2) (y3) (y5 ++ rowT y8 x7 (y18.drop x40.toNat)) (y18))
theorem QR8 (x7 x39 x40 : Int) (y2 y3 : Qab) (y5 : List Keep) (y8 : Talk) (y18 : List Int) : Qaj g_f54 QkY Qm6 (Qno x7 x39 x40 y2 y3 y5 y8 y18) = QOz x7 x39 x40 y2 y3 y5 y8 y18 := by kernel_rfl
theorem QCf (x7 x39 x40 : Int) (y2 y3 : Qab) (y5 : List Keep) (y8 : Talk) (y18 : List Int) : QhU x7 x39 x40 y2 y3 y5 y8 y18 = Quz x7 x39 x40 y2 y3 y5 y8 y18 := (Qan _ _).trans (by
 rw [QR8]
 simp only [QOz, Quz, Qay, nxt_n, nxt_r, nxt_e, nxt_0]
 rfl)
def QOy (x7 : Int) (y2 y3 : Qab) (y5 : List Keep) (y18 : List Int) : Option (Exit × VS) :=
 let a1 := ((y3.1, (y3.2.1, (y3.2.2.1, (y3.2.2.2.1, (y3.2.2.2.2.1, (y3.2.2.2.2.2.1, (y3.2.2.2.2.2.2.1, (y3.2.2.2.2.2.2.2.1, (y3.2.2.2.2.2.2.2.2.1, ()))))))))), (x7, (y2.2.2.2.1, ())))
 br (ile x7 (imn y2.2.2.1 y3.2.2.1)) (br (decide ((llen y18) = (y18.length : Int) ∧ 0 ≤ (0 : Int) ∧ (0 : Int) ≤ (llen y18) ∧ y18.length ≤ 16 ∧ (y5.length : Int) ≤ 200 + (0 : Int)) && Qex a1 0) (some (.normal, Qs2 (iadd .i64 (x7) 1) (y2) (y3) (y5 ++ rowT a1 x7 (y18.drop (0 : Int).toNat)) (y18))) none) (some (.exit 0, Qfp y5))
noncomputable def Qn5 (x7 : Int) (y2 y3 : Qab) (y5 : List Keep) (y18 : List Int) : Option (Exit × VS) := loopF (Qaj g_f54 QkX Qm5) (Qs2 x7 y2 y3 y5 y18)
noncomputable def QqB (x7 : Int) (y2 y3 : Qab) (y5 : List Keep) (y18 : List Int) : Option (Exit × VS) :=
 let a1 := ((y3.1, (y3.2.1, (y3.2.2.1, (y3.2.2.2.1, (y3.2.2.2.2.1, (y3.2.2.2.2.2.1, (y3.2.2.2.2.2.2.1, (y3.2.2.2.2.2.2.2.1, (y3.2.2.2.2.2.2.2.2.1, ()))))))))), (x7, (y2.2.2.2.1, ())))
 br (ile x7 (imn y2.2.2.1 y3.2.2.1)) (br (decide ((llen y18) = (y18.length : Int) ∧ 0 ≤ (0 : Int) ∧ (0 : Int) ≤ (llen y18) ∧ y18.length ≤ 16 ∧ (y5.length : Int) ≤ 200 + (0 : Int)) && Qex a1 0) (Qn5 (iadd .i64 (x7) 1) (y2) (y3) (y5 ++ rowT a1 x7 (y18.drop (0 : Int).toNat)) (y18)) none) (some (.exit 0, Qfp y5))
def Qkc (x7 : Int) (y2 y3 : Qab) (y5 : List Keep) (y18 : List Int) : Option (Exit × VS) := some (.exit 0, Qfp (y5 ++ verS y3 (Qap y2) y18 x7.toNat (hiC y2 y3 + 1 - x7).toNat))
theorem QR7 (x7 : Int) (y2 y3 : Qab) (y5 : List Keep) (y18 : List Int) : Qaj g_f54 QkX Qm5 (Qs2 x7 y2 y3 y5 y18) = QOy x7 y2 y3 y5 y18 := by kernel_rfl
theorem QCe (x7 : Int) (y2 y3 : Qab) (y5 : List Keep) (y18 : List Int) : Qn5 x7 y2 y3 y5 y18 = QqB x7 y2 y3 y5 y18 := (Qan _ _).trans (by
 rw [QR7]
 simp only [QOy, QqB, Qay, nxt_n, nxt_r, nxt_e, nxt_0]
 rfl)
def r_f54 (p0 p1 : Qab) : Option (V × List VO) :=
 let a1 := imx p0.2.1 p1.2.1
 br (Qa8 p0 p1) (br (!(Qew p0 p1)) (some (.t (.sl Qag) ([] : List Keep), [])) (br (Qgc p0.2.2.2.1) (br (decide (1 ≤ a1 ∧ a1 ≤ 5 ∧ hiC p0 p1 ≤ 4 ∧ (([] : List Keep).length : Int) ≤ 16 * a1 ∧ (sortL p0.2.2.2.1).length ≤ 16) && lenEE p1 (Qap p0)) (some (.t (.sl Qag) (([] : List Keep) ++ verS p1 (Qap p0) (sortL p0.2.2.2.1) a1.toNat (hiC p0 p1 + 1 - a1).toNat), [])) none) none)) none
theorem e_f54 (p0 p1 : Qab) : runF g_f54 QF6 QTS false [.t Qae p0, .t Qae p1] [] = r_f54 p0 p1 := by kernel_rfl
theorem QUU : Qai Tryz.prog 54 := .inr ⟨by decide, _, Tryz.func54, by kernel_rfl, by kernel_rfl⟩
theorem gk_f54 : GOk Tryz.prog g_f54 := Qal _ (gA (gC QMK QKW (gC QE4 QEG (gC en_f89 ms_f89 (gC QUS QUC gN)))))
theorem QYb (x7 x39 x40 : Int) (y2 y3 : Qab) (y5 : List Keep) (y8 : Talk) (y18 : List Int) (h : (decide (x39 = (y18.length : Int) ∧ 0 ≤ x40 ∧ x40 ≤ x39 ∧ y18.length ≤ 16 ∧ (y5.length : Int) ≤ 200 + x40) && Qex y8 0) = true) : QhU x7 x39 x40 y2 y3 y5 y8 y18 = Qkd x7 x39 x40 y2 y3 y5 y8 y18 := by
 obtain ⟨h, hc⟩ := Bool.and_eq_true_iff.1 h
 obtain ⟨rfl, h1, h2, h3, h4⟩ := of_decide_eq_true h
 clear h
 obtain ⟨k, rfl⟩ := Int.eq_ofNat_of_zero_le h1
 have key : ∀ k, k ≤ y18.length → ∀ y5 : List Keep, y5.length ≤ 200 + k → QhU x7 (y18.length : Int) (k : Int) y2 y3 y5 y8 y18 = Qkd x7 (y18.length : Int) (k : Int) y2 y3 y5 y8 y18 := by
  refine Qar y18 (fun k => ∀ y5 : List Keep, y5.length ≤ 200 + k → QhU x7 (y18.length : Int) (k : Int) y2 y3 y5 y8 y18 = Qkd x7 (y18.length : Int) (k : Int) y2 y3 y5 y8 y18) ?_ ?_
  ·intro y5 _
   rw [QCf]
   simp only [Quz, Qkd, Qas, Nat.lt_irrefl, decide_false, Qaf, Int.toNat_natCast, List.drop_length, rowT, List.filter_nil, List.map_nil, List.append_nil]
  ·intro k hk ih y5 hy
   rw [QCf]
   have c1 : cLd y18 k = true := decide_eq_true (by omega)
   have c2 : ∀ v, Qex y8 v = true := fun v => hc
   have c3 : ∀ v : Keep, cApp y5 [v] 16 = true := fun v => cAppN (by omega) (by simp only [List.length_singleton]; omega)
   simp only [Quz, Qas, Qaw, hk, decide_true, Qad, Int.toNat_natCast, add1 (show k < 4611686018427387904 by omega), QaA (y := tI) hk, c1, c2, c3]
   rw [ih y5 (by omega), ih (y5 ++ [(x7, (y18[k], ()))]) (by simp only [List.length_append, List.length_singleton]; omega)]
   simp only [Qkd, Int.toNat_natCast, List.drop_eq_getElem_cons hk, QJm]
   cases possF y8 y18[k] with
   | true => simp only [Qad, if_true, List.append_assoc, List.singleton_append]
   | false => simp only [Qaf, Bool.false_eq_true, if_false]
 exact key k (by omega) y5 (by omega)
theorem QYa (x7 : Int) (y2 y3 : Qab) (y5 : List Keep) (y18 : List Int) (h : (decide (1 ≤ x7 ∧ x7 ≤ 5 ∧ hiC y2 y3 ≤ 4 ∧ (y5.length : Int) ≤ 16 * x7 ∧ y18.length ≤ 16) && lenEE y3 (Qap y2)) = true) : Qn5 x7 y2 y3 y5 y18 = Qkc x7 y2 y3 y5 y18 := by
 obtain ⟨h, hc⟩ := Bool.and_eq_true_iff.1 h
 obtain ⟨h0, h1, h2, h3, h4⟩ := of_decide_eq_true h
 clear h
 obtain ⟨k, rfl⟩ := Int.eq_ofNat_of_zero_le (show 0 ≤ x7 by omega)
 have key : ∀ (m k : Nat) (y5 : List Keep), m = 5 - k → 1 ≤ k → k ≤ 5 → y5.length ≤ 16 * k → Qn5 (k : Int) y2 y3 y5 y18 = Qkc (k : Int) y2 y3 y5 y18 := by
  intro m
  induction m with
  | zero =>
   intro k y5 hm h0 h1 h3
   have : k = 5 := by omega
   subst this
   rw [QCe]
   have e : (hiC y2 y3 + 1 - ((5 : Nat) : Int)).toNat = 0 := by omega
   simp only [QqB, Qkc, show ile ((5 : Nat) : Int) (imn y2.2.2.1 y3.2.2.1) = false from decide_eq_false (by show ¬ _ ≤ hiC y2 y3; omega), Qaf, e, verS, List.range'_zero, List.flatMap_nil, List.append_nil]
  | succ m ih =>
   intro k y5 hm h0 h1 h3
   rw [QCe]
   by_cases hk : (k : Int) ≤ hiC y2 y3
   ·have e1 : (hiC y2 y3 + 1 - (k : Int)).toNat = (hiC y2 y3 + 1 - ((k + 1 : Nat) : Int)).toNat + 1 := by omega
    have c0 : (decide (True ∧ (0 : Int) ≤ 0 ∧ (0 : Int) ≤ llen y18 ∧ y18.length ≤ 16 ∧ (y5.length : Int) ≤ 200 + 0) && Qex (y3, ((k : Int), (Qap y2, ()))) 0) = true := Bool.and_eq_true_iff.2 ⟨decide_eq_true ⟨trivial, by simp only [llen]; omega⟩, hc⟩
    have hr := QPp (y3, ((k : Int), (Qap y2, ()))) (k : Int) y18
    have hi := ih (k + 1) (y5 ++ rowT (y3, ((k : Int), (Qap y2, ()))) (k : Int) y18) (by omega) (by omega) (by omega) (by simp only [List.length_append]; omega)
    simp only [QqB, show ile (k : Int) (imn y2.2.2.1 y3.2.2.1) = true from decide_eq_true hk, Qad, add1 (show k < 4611686018427387904 by omega), eEta]
    refine Eq.trans (congrArg (fun b => br b _ _) c0) ?_
    rw [Qad]
    refine Eq.trans hi ?_
    simp only [Qkc, Int.toNat_natCast, e1, verS, List.range'_succ, List.flatMap_cons, List.append_assoc]
   ·have e1 : (hiC y2 y3 + 1 - (k : Int)).toNat = 0 := by omega
    simp only [QqB, show ile (k : Int) (imn y2.2.2.1 y3.2.2.1) = false from decide_eq_false hk, Qaf, Qkc, e1, verS, List.range'_zero, List.flatMap_nil, List.append_nil]
 exact key (5 - k) k y5 rfl (by omega) (by omega) (by omega)
theorem QPY : ∀ S l p, g_f54.L 0 (fgt QkY S) = some (true, l) → pickA l = some p → loopF (Qaj g_f54 QkY Qm6) S = some p :=
 QaB (s := Qtu) ⟨by decide, by decide⟩ (by kernel_rfl) fun x y hok p hp => by
 simp only [Qao, Qam] at hp
 exact (QYb x.2.2.2.2.1 x.2.2.2.2.2.2.2.1 x.2.2.2.2.2.2.2.2.1 y.1 y.2.1 y.2.2.1 y.2.2.2.1 y.2.2.2.2.1 (by simpa using hok)).trans hp
theorem QPX : ∀ S l p, g_f54.L 1 (fgt QkX S) = some (true, l) → pickA l = some p → loopF (Qaj g_f54 QkX Qm5) S = some p :=
 QaB (s := Qtt) ⟨by decide, by decide⟩ (by kernel_rfl) fun x y hok p hp => by
 simp only [Qao, Qam] at hp
 exact (QYa x.2.2.2.2.1 y.1 y.2.1 y.2.2.1 y.2.2.2.1 (by simpa using hok)).trans hp
theorem lk_f54 : QF6.lok g_f54 := by
 repeat (first | exact trivial | exact QPY | exact QPX | refine ⟨?_, ?_⟩)
theorem s_f54 (c s : Qab) (h : Qa8 c s = true) : r_f54 c s = some (.t (.sl Qag) (QaR c s), []) := by
 obtain ⟨hc, hs⟩ := Bool.and_eq_true_iff.1 h
 have hs' := Qbm hs
 have hc' := Qbm hc
 have c1 : Qgc (Qap c) = true := decide_eq_true hc'.2.1
 simp only [r_f54, h, c1, Qad]
 unfold QaR
 cases hr : Qew c s with
 | false => rfl
 | true =>
  obtain ⟨hv, hw⟩ := Bool.and_eq_true_iff.1 hr
  have v1 := Qbw hv
  have v2 := Qbw hw
  have hsu := QEl hv
  have b1 : 1 ≤ loC c s ∧ loC c s ≤ 4 := by simp only [loC, imx]; omega
  have b2 : hiC c s ≤ 4 := by simp only [hiC, imn]; omega
  have b3 : (sortL (Qap c)).length ≤ 16 := by
   show (sortI (Qap c)).length ≤ 16
   rw [show (sortI (Qap c)).length = (Qap c).length from List.length_mergeSort _]
   exact QBy hsu
  have c0 : (decide (1 ≤ loC c s ∧ loC c s ≤ 5 ∧ hiC c s ≤ 4 ∧ (([] : List Keep).length : Int) ≤ 16 * loC c s ∧ (sortL (Qap c)).length ≤ 16) && lenEE s (Qap c)) = true := Bool.and_eq_true_iff.2 ⟨decide_eq_true ⟨b1.1, by omega, b2, by simp only [List.length_nil]; omega, b3⟩, decide_eq_true ⟨hs'.2.2.1, hs'.2.1, hc'.2.1⟩⟩
  rw [Bool.not_true, Qaf, cond_false]
  refine Eq.trans (congrArg (fun b => br b _ _) c0) ?_
  rw [Qad, ← QU5 hsu]
  rfl
def QGE : Ent := spec (.pr Qae (.pr Qae .nil)) (fun x => (Qa8 x.1 x.2.1)) (fun x => (.t (.sl Qag) (QaR x.1 x.2.1)))
theorem QUE : Meets Tryz.prog 54 (strip QGE) := Qah (R := runF g_f54 QF6 QTS false) (mG Tryz.func54 (by kernel_rfl) Tryz.ntmps54 (by kernel_rfl) gk_f54 lk_f54) fun x hok => (e_f54 x.1 x.2.1).trans (s_f54 x.1 x.2.1 hok)
end
end Go.Proofs.YtckcgijklnloiaaGreat.K
namespace Go.Proofs.YtckcgijklnloiaaGreat.K
open Go.RowKit
noncomputable section
end
end Go.Proofs.YtckcgijklnloiaaGreat.K
namespace Go.Proofs.YtckcgijklnloiaaGreat.K
open Go.RowKit
noncomputable section
theorem QXY {l : List (List Int)} (h : ∀ x ∈ l, x.length ≤ 4) (k : Nat) : (lgt (.sl tI) l k).length ≤ 4 := by
 show (l.getD k []).length ≤ 4
 rw [List.getD_eq_getElem?_getD]
 cases hk : l[k]? with
 | none => exact Nat.zero_le _
 | some x => exact h x (List.mem_of_getElem? hk)
attribute [local irreducible] epV epN prZ
end
end Go.Proofs.YtckcgijklnloiaaGreat.K
namespace Go.Proofs.YtckcgijklnloiaaGreat.K
open Go.RowKit
noncomputable section
end
end Go.Proofs.YtckcgijklnloiaaGreat.K
namespace Go.Proofs.YtckcgijklnloiaaGreat.K
open Go.RowKit
noncomputable section
def Qij : Option Int → List Link → Bool
 | _, [] => true
 | pv, x :: r => QbS x.1 && decide (0 ≤ x.2.1 ∧ x.2.1 ≤ 40000) && (match pv with | none => true | some d => decide (d < x.2.1)) && Qij (some x.2.1) r
theorem Qq2 (pv : Option Int) (x : Link) (r : List Link) : Qij pv (x :: r) = (QbS x.1 && decide (0 ≤ x.2.1 ∧ x.2.1 ≤ 40000) && (match pv with | none => true | some d => decide (d < x.2.1)) && Qij (some x.2.1) r) := by cases pv <;> rfl
def pvAt (l : List Link) (k : Nat) : Option Int := if k = 0 then none else (l[k - 1]?).map fun x : Link => x.2.1
def QeJ (i : Item) : Bool := Qa7 i.1 && decide (1 ≤ i.2.1 ∧ i.2.1 ≤ 2) && decide (1 ≤ i.2.2.1 ∧ i.2.2.1 ≤ 4) && decide (1 ≤ i.2.2.2.1.length ∧ i.2.2.2.1.length ≤ 8) && Qij none i.2.2.2.1 && decide ((i.2.2.2.1.headD ((0, (0, ())), (0, ()))).2.1 ≤ i.2.2.2.2.1 ∧ i.2.2.2.2.1 ≤ 40000)
def Qlb (i : Item) : Int := if QeJ i then 0 else 30
def Qe0 (i : Item) : Bool := nameG i.1
noncomputable def QRx : List DO := dT Tryz.f79 7
noncomputable def QRw : List DO := dT Tryz.f79 10
def QkO : Fg := ⟨[(1, none), (45, some (.sl Qbz)), (46, some tI), (47, some tI)], [(1, some QaW)]⟩
noncomputable def QmW : TC := (.sq (.reg (rT Tryz.f79 5)) (.sq (.cd (.t 48) .sk (.fg ⟨[(1, none)], [(1, some QaW)]⟩ (.ex 0))) (.sq (.bk 1 (.sq (.reg (rT Tryz.f79 6)) (.sq (.dr QRx [(0, [5]), (1, [5]), (2, []), (3, []), (4, []), (5, [5]), (6, [5]), (7, []), (8, []), (9, []), (10, [5]), (11, [5]), (12, []), (13, []), (14, []), (15, []), (16, []), (17, []), (18, [1]), (19, [1]), (20, []), (21, []), (22, []), (23, []), (24, []), (25, [5]), (26, [5]), (27, []), (28, []), (29, [])] (.of [0, 1, 2, 3, 4, 5, 6, 7, 8, 9, 10, 11, 12, 13, 14, 15, 16, 17, 18, 19, 20, 21, 22, 23, 24, 25, 26, 27, 28, 29])) (.cd (.t 81) (.sq (.reg (rT Tryz.f79 8)) (.fg ⟨[(2, some tI)], []⟩ .rt)) .sk)))) (.reg (rT Tryz.f79 9)))))
noncomputable def QFW : TC := (.sq (.reg (rT Tryz.f79 0)) (.sq (.reg (rT Tryz.f79 1)) (.sq (.sq (.reg (rT Tryz.f79 2)) (.cd (.t 43) (.sq (.reg (rT Tryz.f79 3)) .rt) .sk)) (.sq (.sq (.reg (rT Tryz.f79 4)) (.bk 0 (.lp 0 QkO QmW))) (.sq (.sq (.dr QRw [(0, [1]), (1, [1]), (2, [1]), (3, [1]), (4, []), (5, []), (6, []), (7, []), (8, []), (9, [1]), (10, [1]), (11, []), (12, [])] (.of [0, 1, 2, 3, 4, 5, 6, 7, 8, 9, 10, 11, 12])) (.cd (.t 95) (.sq (.reg (rT Tryz.f79 11)) .rt) .sk)) (.sq (.reg (rT Tryz.f79 12)) .rt))))))
def QTI : List (RV × Option Ty) := [((.t 2), some tI)]
abbrev Qtk : Sh := ⟨[(1, .ptr 1 0), (45, .ty (.sl Qbz)), (46, .ty tI), (47, .ty tI)], [(1, .box QaW)]⟩
def Qnl (x45 : List Link) (x46 x47 : Int) (y1 : Item) : VS := Qtk.st ((), x45, x46, x47, ()) (y1, ())
abbrev QvM : Sh := ⟨[(2, .ty tI)], []⟩
def Qa0 (x2 : Int) : VS := QvM.st (x2, ()) ()
abbrev Qzx : Sh := ⟨[(1, .ptr 1 0)], [(1, .box QaW)]⟩
def Qfg (y1 : Item) : VS := Qzx.st ((), ()) (y1, ())
def Q0V : VS → Option (Bool × List (Bool × Exit × VS)) := mkL Qtk (fun x y => ((x.2.1 == y.1.2.2.2.1) && rngOk x.2.1 x.2.2.1 x.2.2.2.1)) (fun x y => [((!(Qij (pvAt x.2.1 x.2.2.2.1.toNat) (x.2.1.drop x.2.2.2.1.toNat))), .ret, Qa0 (30)), (true, .exit 0, Qfg (y.1))])
def g_f79 : G := ⟨TYs, [], 96, EL [(124, Qtd), (125, Qtc)], keeps, (Ls [Q0V]), IL [], RL []⟩
def QOp (x45 : List Link) (x46 x47 : Int) (y1 : Item) : Option (Exit × VS) :=
 let a1 := lgt Qbz x45 (Int.toNat x47)
 br (ilt x47 x46) (br (cIx x45 x47) (br (!(QbS (a1.1))) (some (.ret, Qa0 30)) (br (ilt ((a1.2).1) 0) (some (.ret, Qa0 30)) (br (igt ((a1.2).1) 40000) (some (.ret, Qa0 30)) (br (igt x47 0) (br (cIx y1.2.2.2.1 (isub .i64 x47 1)) (br (ige (((lgt Qbz y1.2.2.2.1 (Int.toNat (isub .i64 x47 1))).2).1) ((a1.2).1)) (some (.ret, Qa0 30)) (some (.normal, Qnl x45 x46 (iadd .i64 x47 1) y1))) none) (some (.normal, Qnl x45 x46 (iadd .i64 x47 1) y1)))))) none) (some (.exit 0, Qfg y1))
noncomputable def QjE (x45 : List Link) (x46 x47 : Int) (y1 : Item) : Option (Exit × VS) := loopF (Qaj g_f79 QkO QmW) (Qnl x45 x46 x47 y1)
noncomputable def Quq (x45 : List Link) (x46 x47 : Int) (y1 : Item) : Option (Exit × VS) :=
 let a1 := lgt Qbz x45 (Int.toNat x47)
 br (ilt x47 x46) (br (cIx x45 x47) (br (!(QbS (a1.1))) (some (.ret, Qa0 30)) (br (ilt ((a1.2).1) 0) (some (.ret, Qa0 30)) (br (igt ((a1.2).1) 40000) (some (.ret, Qa0 30)) (br (igt x47 0) (br (cIx y1.2.2.2.1 (isub .i64 x47 1)) (br (ige (((lgt Qbz y1.2.2.2.1 (Int.toNat (isub .i64 x47 1))).2).1) ((a1.2).1)) (some (.ret, Qa0 30)) (QjE x45 x46 (iadd .i64 x47 1) y1)) none) (QjE x45 x46 (iadd .i64 x47 1) y1))))) none) (some (.exit 0, Qfg y1))
def QhX (x45 : List Link) (x46 x47 : Int) (y1 : Item) : Option (Exit × VS) := br (!(Qij (pvAt x45 x47.toNat) (x45.drop x47.toNat))) (some (.ret, Qa0 (30))) <| some (.exit 0, Qfg (y1))
theorem QRY (x45 : List Link) (x46 x47 : Int) (y1 : Item) : Qaj g_f79 QkO QmW (Qnl x45 x46 x47 y1) = QOp x45 x46 x47 y1 := by kernel_rfl
theorem QB6 (x45 : List Link) (x46 x47 : Int) (y1 : Item) : QjE x45 x46 x47 y1 = Quq x45 x46 x47 y1 := (Qan _ _).trans (by
 rw [QRY]
 simp only [QOp, Quq, Qay, nxt_n, nxt_r, nxt_e, nxt_0]
 rfl)
def Qqr (p0 : Item) : Option (V × List VO) :=
 let a1 := ((((p0).2).2).2)
 let a2 := llen p0.2.2.2.1
 br (ilt p0.2.2.1 1) (some (.t tI 30, [])) (br (igt p0.2.2.1 4) (some (.t tI 30, [])) (br (ilt a2 1) (some (.t tI 30, [])) (br (igt a2 8) (some (.t tI 30, [])) (br ((p0.2.2.2.1 == p0.2.2.2.1) && rngOk p0.2.2.2.1 a2 (0 : Int)) (br (!(Qij (pvAt p0.2.2.2.1 (0 : Int).toNat) (p0.2.2.2.1.drop (0 : Int).toNat))) (some (.t tI (30), [])) (br (cIx (a1.1) 0) (br (ilt ((a1.2).1) (((lgt Qbz (a1.1) (Int.toNat 0)).2).1)) (some (.t tI 30, [])) (br (igt ((a1.2).1) 40000) (some (.t tI 30, [])) (some (.t tI 0, [])))) none)) none))))
def r_f79 (p0 : Item) : Option (V × List VO) := br (ieq p0.2.1 1) (br (nameG p0.1) (br (!(Qa7 p0.1)) (some (.t tI 30, [])) (br (!true) (some (.t tI 30, [])) (Qqr p0))) none) (br (nameG p0.1) (br (!(Qa7 p0.1)) (some (.t tI 30, [])) (br (!(ieq p0.2.1 2)) (some (.t tI 30, [])) (Qqr p0))) none)
theorem e_f79 (p0 : Item) : runF g_f79 QFW QTI false [.t QaW p0] [] = r_f79 p0 := by kernel_rfl
theorem en_f79 : Qai Tryz.prog 79 := .inr ⟨by decide, _, Tryz.func79, by kernel_rfl, by kernel_rfl⟩
theorem gk_f79 : GOk Tryz.prog g_f79 := Qal _ (gA (gC QA9 QAh (gC QA8 QAg gN)))
theorem QX1 (x45 : List Link) (x46 x47 : Int) (y1 : Item) (h : ((x45 == y1.2.2.2.1) && rngOk x45 x46 x47) = true) : QjE x45 x46 x47 y1 = QhX x45 x46 x47 y1 := by
 simp only [Bool.and_eq_true, beq_iff_eq] at h
 obtain ⟨hx, h0⟩ := h
 obtain ⟨rfl, h3, k, rfl, hk⟩ := rng_k h0
 clear h0
 refine Qar x45 (fun k => QjE x45 (x45.length : Int) (k : Int) y1 = QhX x45 (x45.length : Int) (k : Int) y1) ?_ ?_ k hk
 ·rw [QB6]
  simp [Quq, QhX, Qas, Qaf, Qij]
 ·intro k hk ih
  rw [QB6]
  have el : QhX x45 (x45.length : Int) (k : Int) y1 = br (!(QbS x45[k].1 && decide (0 ≤ x45[k].2.1 ∧ x45[k].2.1 ≤ 40000) && (match pvAt x45 k with | none => true | some d => decide (d < x45[k].2.1)))) (some (.ret, Qa0 30)) (QhX x45 (x45.length : Int) ((k + 1 : Nat) : Int) y1) := by
   have e1 : pvAt x45 (k + 1) = some x45[k].2.1 := by
    unfold pvAt
    rw [if_neg (by omega), Nat.add_sub_cancel, List.getElem?_eq_getElem hk]
    rfl
   simp only [QhX, Int.toNat_natCast, e1]
   rw [List.drop_eq_getElem_cons hk, Qq2]
   generalize (QbS x45[k].1 && decide (0 ≤ x45[k].2.1 ∧ x45[k].2.1 ≤ 40000) && (match pvAt x45 k with | none => true | some d => decide (d < x45[k].2.1))) = c
   cases c <;> rfl
  rw [el]
  simp only [Quq, Qas, Qaw, hk, decide_true, Qad, Int.toNat_natCast, add1 (show k < 4611686018427387904 by omega), QaA (y := Qbz) hk, ih, ← hx]
  cases QbS x45[k].1 with
  | false => rfl
  | true =>
   simp only [Bool.not_true, Qaf, Bool.true_and]
   by_cases c1 : x45[k].2.1 < 0
   ·rw [show ilt x45[k].2.1 0 = true from decide_eq_true c1, Qad, decide_eq_false (show ¬ (0 ≤ x45[k].2.1 ∧ x45[k].2.1 ≤ 40000) by omega)]
    rfl
   ·rw [show ilt x45[k].2.1 0 = false from decide_eq_false c1, Qaf]
    by_cases c2 : 40000 < x45[k].2.1
    ·rw [show igt x45[k].2.1 40000 = true from decide_eq_true (by omega), Qad, decide_eq_false (show ¬ (0 ≤ x45[k].2.1 ∧ x45[k].2.1 ≤ 40000) by omega)]
     rfl
    ·rw [show igt x45[k].2.1 40000 = false from decide_eq_false (by omega), Qaf, decide_eq_true (show 0 ≤ x45[k].2.1 ∧ x45[k].2.1 ≤ 40000 by omega)]
     simp only [Bool.true_and]
     by_cases hk0 : k = 0
     ·subst hk0
      rfl
     ·have hk1 : k - 1 < x45.length := by omega
      have e1 : isub .i64 (k : Int) 1 = ((k - 1 : Nat) : Int) := by rw [Qb3 (by omega)]; omega
      have e2 : igt (k : Int) 0 = true := by simp only [igt, decide_eq_true_eq]; omega
      have e3 : pvAt x45 k = some x45[k - 1].2.1 := by
       unfold pvAt
       rw [if_neg hk0, List.getElem?_eq_getElem hk1]
       rfl
      rw [e1, e2, e3, Qad]
      simp only [Qaw, hk1, decide_true, Qad, Int.toNat_natCast, QaA (y := Qbz) hk1]
      by_cases c3 : x45[k - 1].2.1 < x45[k].2.1
      ·rw [show ige x45[k - 1].2.1 x45[k].2.1 = false from decide_eq_false (by omega), Qaf, decide_eq_true c3]
       rfl
      ·rw [show ige x45[k - 1].2.1 x45[k].2.1 = true from decide_eq_true (by omega), Qad, decide_eq_false c3]
       rfl
theorem QPO : ∀ S l p, g_f79.L 0 (fgt QkO S) = some (true, l) → pickA l = some p → loopF (Qaj g_f79 QkO QmW) S = some p :=
 QaB (s := Qtk) ⟨by decide, by decide⟩ (by kernel_rfl) fun x y hok p hp => by
 simp only [Qao, Qam] at hp
 exact (QX1 x.2.1 x.2.2.1 x.2.2.2.1 y.1 (by simpa using hok)).trans hp
theorem lk_f79 : QFW.lok g_f79 := by
 repeat (first | exact trivial | exact QPO | refine ⟨?_, ?_⟩)
theorem Qba {i : Item} : QeJ i = true ↔ Qa7 i.1 = true ∧ (1 ≤ i.2.1 ∧ i.2.1 ≤ 2) ∧ (1 ≤ i.2.2.1 ∧ i.2.2.1 ≤ 4) ∧ (1 ≤ i.2.2.2.1.length ∧ i.2.2.2.1.length ≤ 8) ∧ Qij none i.2.2.2.1 = true ∧ (i.2.2.2.1.headD ((0, (0, ())), (0, ()))).2.1 ≤ i.2.2.2.2.1 ∧ i.2.2.2.2.1 ≤ 40000 := by
 unfold QeJ
 simp only [Bool.and_eq_true, decide_eq_true_eq, and_assoc]
theorem s_f79 (i : Item) (h : Qe0 i = true) : r_f79 i = some (.t tI (Qlb i), []) := by
 have h : nameG i.1 = true := h
 have bad : (QeJ i = true → False) → some (V.t tI 30, ([] : List VO)) = some (V.t tI (Qlb i), []) := fun hq => by
  cases hi : QeJ i with
  | false => simp [Qlb, hi]
  | true => exact (hq hi).elim
 have tail : Qa7 i.1 = true → (1 ≤ i.2.1 ∧ i.2.1 ≤ 2) → Qqr i = some (.t tI (Qlb i), []) := fun k1 k2 => by
  simp only [Qqr]
  refine QaD (fun g => bad fun hq => ?_) (fun g1 => QaD (fun g => bad fun hq => ?_) (fun g2 => QaD (fun g => bad fun hq => ?_) (fun g3 => QaD (fun g => bad fun hq => ?_) (fun g4 => ?_))))
  ·have := Qba.1 hq; simp only [ilt, decide_eq_true_eq] at g; omega
  ·have := Qba.1 hq; simp only [igt, decide_eq_true_eq] at g; omega
  ·have := Qba.1 hq; simp only [ilt, llen, decide_eq_true_eq] at g; omega
  ·have := Qba.1 hq; simp only [igt, llen, decide_eq_true_eq] at g; omega
  ·simp only [ilt, igt, llen, decide_eq_false_iff_not] at g1 g2 g3 g4
   rw [beq_self_eq_true, Bool.true_and, rng_0 (by omega), Qad]
   have e0 : pvAt i.2.2.2.1 (0 : Int).toNat = none := rfl
   rw [e0, Int.toNat_zero, List.drop_zero]
   refine QaD (fun g => bad fun hq => ?_) (fun g5 => ?_)
   ·have := Qba.1 hq
    rw [this.2.2.2.2.1] at g
    cases g
   ·have hl : 0 < i.2.2.2.1.length := by omega
    have e1 : cIx i.2.2.2.1 0 = true := by simp only [cIx, decide_eq_true_eq]; omega
    have e2 : lgt Qbz i.2.2.2.1 0 = i.2.2.2.1.headD ((0, (0, ())), (0, ())) := by
     cases hq : i.2.2.2.1 with
     | nil => rw [hq] at hl; simp at hl
     | cons a l => rfl
    rw [e1, Qad, e2]
    refine QaD (fun g => bad fun hq => ?_) (fun g6 => QaD (fun g => bad fun hq => ?_) (fun g7 => ?_))
    ·have := Qba.1 hq; simp only [ilt, decide_eq_true_eq] at g; omega
    ·have := Qba.1 hq; simp only [igt, decide_eq_true_eq] at g; omega
    ·simp only [ilt, igt, decide_eq_false_iff_not] at g6 g7
     have : QeJ i = true := Qba.2 ⟨k1, k2, by omega, by omega, by simpa using g5, by omega, by omega⟩
     simp [Qlb, this]
 simp only [r_f79, Qqr] at tail ⊢
 rw [h]
 simp only [Qad]
 refine QaD (fun g1 => QaD (fun g => bad fun hq => ?_) (fun g2 => ?_)) (fun g1 => QaD (fun g => bad fun hq => ?_) (fun g2 => QaD (fun g => bad fun hq => ?_) (fun g3 => ?_)))
 ·rw [(Qba.1 hq).1] at g; cases g
 ·simp only [Qc6, decide_eq_true_eq] at g1
  exact tail (by simpa using g2) (by omega)
 ·rw [(Qba.1 hq).1] at g; cases g
 ·have := Qba.1 hq
  simp only [Qc6, decide_eq_false_iff_not, Bool.not_eq_true', decide_eq_true_eq] at g1 g
  omega
 ·simp only [Qc6, decide_eq_false_iff_not, Bool.not_eq_false', decide_eq_true_eq] at g1 g3
  exact tail (by simpa using g2) (by omega)
def QS8 : Ent := spec (.pr QaW .nil) (fun x => (Qe0 x.1)) (fun x => (.t tI (Qlb x.1)))
theorem ms_f79 : Meets Tryz.prog 79 (strip QS8) := Qah (R := runF g_f79 QFW QTI false) (mG Tryz.func79 (by kernel_rfl) Tryz.ntmps79 (by kernel_rfl) gk_f79 lk_f79) fun x hok => (e_f79 x.1).trans (s_f79 x.1 hok)
end
end Go.Proofs.YtckcgijklnloiaaGreat.K
namespace Go.Proofs.YtckcgijklnloiaaGreat.K
open Go.RowKit
noncomputable section
abbrev egAt (l : List Keep) (k : Nat) : Keep := l.getD k zK
def egLt (a b : Keep) : Bool := !igt a.1 b.1 && !(ieq a.1 b.1 && ige a.2.1 b.2.1)
def egIn (n : Int) (x : Keep) : Bool := !ilt x.1 0 && (!ige x.1 n && (!ilt x.2.1 0 && (!ige x.2.1 n && !ieq x.1 x.2.1)))
def egOk (n : Int) (l : List Keep) (k : Nat) : Bool := egIn n (egAt l k) && (decide (k = 0) || egLt (egAt l (k - 1)) (egAt l k))
def egUp (n : Int) (l : List Keep) (k : Nat) : Bool := (List.range' k (l.length - k)).all (egOk n l)
theorem QRj (n : Int) (l : List Keep) : egUp n l l.length = true := by
 unfold egUp
 rw [Nat.sub_self]
 rfl
theorem QNa {n : Int} {l : List Keep} {k : Nat} (hk : k < l.length) : egUp n l k = (egOk n l k && egUp n l (k + 1)) := by
 have : l.length - k = (l.length - (k + 1)) + 1 := by omega
 unfold egUp
 rw [this, List.range'_succ, List.all_cons]
theorem QRi {β : Type} (c1 c2 c3 c4 c5 u : Bool) (R E : Option β) : br c1 R (br c2 R (br c3 R (br c4 R (br c5 R (br (!u) R E))))) = br (!(((!c1 && (!c2 && (!c3 && (!c4 && !c5)))) && true) && u)) R E := by
 cases c1 <;> cases c2 <;> cases c3 <;> cases c4 <;> cases c5 <;> rfl
theorem QRh {β : Type} (c1 c2 c3 c4 c5 a b c u : Bool) (R E : Option β) : br c1 R (br c2 R (br c3 R (br c4 R (br c5 R (br a R (br b (br c R (br (!u) R E)) (br (!u) R E))))))) = br (!(((!c1 && (!c2 && (!c3 && (!c4 && !c5)))) && (!a && !(b && c))) && u)) R E := by
 cases c1 <;> cases c2 <;> cases c3 <;> cases c4 <;> cases c5 <;> cases a <;> cases b <;> cases c <;> rfl
theorem QKB {k : Nat} (hk : k < 100000) (h0 : k ≠ 0) : isub .i64 (k : Int) 1 = ((k - 1 : Nat) : Int) := by
 rw [Qb3 (by omega)]
 omega
def Qq3 (l : List Keep) (n : Int) : Bool := egUp n l 0 && ile (llen l) 40
def QCr (l : List Keep) (_n : Int) : Bool := decide (l.length ≤ 99999)
noncomputable def QRv : List DO := dT Tryz.f80 6
def QkN : Fg := ⟨[(0, some (.sl Qag)), (1, some tI), (7, some (.sl Qag)), (8, some tI), (9, some tI)], []⟩
noncomputable def QmV : TC := (.sq (.reg (rT Tryz.f80 2)) (.sq (.cd (.t 10) .sk (.fg ⟨[(0, some (.sl Qag))], []⟩ (.ex 0))) (.sq (.bk 1 (.sq (.reg (rT Tryz.f80 3)) (.sq (.sq (.reg (rT Tryz.f80 4)) (.cd (.t 40) (.sq (.reg (rT Tryz.f80 5)) (.fg ⟨[(4, some .bool)], []⟩ .rt)) .sk)) (.sq (.dr QRv [(0, []), (1, []), (2, []), (3, []), (4, []), (5, []), (6, []), (7, []), (8, []), (9, [6]), (10, [6]), (11, []), (12, []), (13, []), (14, []), (15, []), (16, []), (17, []), (18, []), (19, [6]), (20, [6]), (21, []), (22, []), (23, []), (24, []), (25, []), (26, []), (27, []), (28, []), (29, [6]), (30, [6]), (31, []), (32, []), (33, []), (34, [])] (.of [0, 1, 2, 3, 4, 5, 6, 7, 8, 9, 10, 11, 12, 13, 14, 15, 16, 17, 18, 19, 20, 21, 22, 23, 24, 25, 26, 27, 28, 29, 30, 31, 32, 33, 34])) (.cd (.t 75) (.sq (.reg (rT Tryz.f80 7)) (.fg ⟨[(4, some .bool)], []⟩ .rt)) .sk))))) (.reg (rT Tryz.f80 8)))))
noncomputable def QFV : TC := (.sq (.reg (rT Tryz.f80 0)) (.sq (.sq (.reg (rT Tryz.f80 1)) (.bk 0 (.lp 0 QkN QmV))) (.sq (.reg (rT Tryz.f80 9)) .rt)))
def QTH : List (RV × Option Ty) := [((.t 4), some .bool)]
abbrev Qtj : Sh := ⟨[(0, .ty (.sl Qag)), (1, .ty tI), (7, .ty (.sl Qag)), (8, .ty tI), (9, .ty tI)], []⟩
def Qjq (x0 : List Keep) (x1 : Int) (x7 : List Keep) (x8 x9 : Int) : VS := Qtj.st (x0, x1, x7, x8, x9, ()) ()
abbrev QvL : Sh := ⟨[(4, .ty .bool)], []⟩
def QaM (x4 : Bool) : VS := QvL.st (x4, ()) ()
abbrev Qzw : Sh := ⟨[(0, .ty (.sl Qag))], []⟩
def Qff (x0 : List Keep) : VS := Qzw.st (x0, ()) ()
def Q0U : VS → Option (Bool × List (Bool × Exit × VS)) := mkL Qtj (fun x y => (x.2.2.1 == x.1 && (rngOk x.2.2.1 x.2.2.2.1 x.2.2.2.2.1 && decide (x.2.2.1.length ≤ 99999)))) (fun x y => [((!egUp x.2.1 x.2.2.1 x.2.2.2.2.1.toNat), .ret, QaM (false)), (true, .exit 0, Qff (x.1))])
def g_f80 : G := ⟨TYs, [], 80, EL [], keeps, (Ls [Q0U]), IL [], RL []⟩
def QOo (x0 : List Keep) (x1 : Int) (x7 : List Keep) (x8 x9 : Int) : Option (Exit × VS) :=
 let a1 := lgt Qag x7 (Int.toNat x9)
 let a2 := lgt Qag x0 (Int.toNat (isub .i64 x9 1))
 let a3 := cIx x0 (isub .i64 x9 1)
 let a4 := iadd .i64 x9 1
 br (ilt x9 x8) (br (cIx x7 x9) (br (ilt (a1.1) 0) (some (.ret, QaM false)) (br (ige (a1.1) x1) (some (.ret, QaM false)) (br (ilt ((a1.2).1) 0) (some (.ret, QaM false)) (br (ige ((a1.2).1) x1) (some (.ret, QaM false)) (br (ieq (a1.1) ((a1.2).1)) (some (.ret, QaM false)) (br (igt x9 0) (br a3 (br (igt (a2.1) (a1.1)) (some (.ret, QaM false)) (br a3 (br (ieq (a2.1) (a1.1)) (br a3 (br (ige ((a2.2).1) ((a1.2).1)) (some (.ret, QaM false)) (some (.normal, Qjq x0 x1 x7 x8 a4))) none) (some (.normal, Qjq x0 x1 x7 x8 a4))) none)) none) (some (.normal, Qjq x0 x1 x7 x8 a4)))))))) none) (some (.exit 0, Qff x0))
noncomputable def QhS (x0 : List Keep) (x1 : Int) (x7 : List Keep) (x8 x9 : Int) : Option (Exit × VS) := loopF (Qaj g_f80 QkN QmV) (Qjq x0 x1 x7 x8 x9)
noncomputable def Qup (x0 : List Keep) (x1 : Int) (x7 : List Keep) (x8 x9 : Int) : Option (Exit × VS) :=
 let a1 := lgt Qag x7 (Int.toNat x9)
 let a2 := lgt Qag x0 (Int.toNat (isub .i64 x9 1))
 let a3 := cIx x0 (isub .i64 x9 1)
 let a4 := iadd .i64 x9 1
 br (ilt x9 x8) (br (cIx x7 x9) (br (ilt (a1.1) 0) (some (.ret, QaM false)) (br (ige (a1.1) x1) (some (.ret, QaM false)) (br (ilt ((a1.2).1) 0) (some (.ret, QaM false)) (br (ige ((a1.2).1) x1) (some (.ret, QaM false)) (br (ieq (a1.1) ((a1.2).1)) (some (.ret, QaM false)) (br (igt x9 0) (br a3 (br (igt (a2.1) (a1.1)) (some (.ret, QaM false)) (br a3 (br (ieq (a2.1) (a1.1)) (br a3 (br (ige ((a2.2).1) ((a1.2).1)) (some (.ret, QaM false)) (QhS x0 x1 x7 x8 a4)) none) (QhS x0 x1 x7 x8 a4)) none)) none) (QhS x0 x1 x7 x8 a4))))))) none) (some (.exit 0, Qff x0))
def Qoa (x0 : List Keep) (x1 : Int) (x7 : List Keep) (x8 x9 : Int) : Option (Exit × VS) := br (!egUp x1 x7 x9.toNat) (some (.ret, QaM (false))) <| some (.exit 0, Qff (x0))
theorem QRX (x0 : List Keep) (x1 : Int) (x7 : List Keep) (x8 x9 : Int) : Qaj g_f80 QkN QmV (Qjq x0 x1 x7 x8 x9) = QOo x0 x1 x7 x8 x9 := by kernel_rfl
theorem QB5 (x0 : List Keep) (x1 : Int) (x7 : List Keep) (x8 x9 : Int) : QhS x0 x1 x7 x8 x9 = Qup x0 x1 x7 x8 x9 := (Qan _ _).trans (by
 rw [QRX]
 simp only [QOo, Qup, Qay, nxt_n, nxt_r, nxt_e, nxt_0]
 rfl)
def r_f80 (p0 : List Keep) (p1 : Int) : Option (V × List VO) := br (p0 == p0 && (rngOk p0 (llen p0) (0 : Int) && decide (p0.length ≤ 99999))) (br (!egUp p1 p0 (0 : Int).toNat) (some (.t .bool (false), [])) (some (.t .bool (ile (llen (p0)) 40), []))) none
theorem e_f80 (p0 : List Keep) (p1 : Int) : runF g_f80 QFV QTH false [.t (.sl Qag) p0, .t tI p1] [] = r_f80 p0 p1 := by kernel_rfl
theorem en_f80 : Qai Tryz.prog 80 := .inr ⟨by decide, _, Tryz.func80, by kernel_rfl, by kernel_rfl⟩
theorem gk_f80 : GOk Tryz.prog g_f80 := Qal _ (fun p hp => by cases hp)
theorem QX0 (x0 : List Keep) (x1 : Int) (x7 : List Keep) (x8 x9 : Int) (h : (x7 == x0 && (rngOk x7 x8 x9 && decide (x7.length ≤ 99999))) = true) : QhS x0 x1 x7 x8 x9 = Qoa x0 x1 x7 x8 x9 := by
 simp only [Bool.and_eq_true, beq_iff_eq, decide_eq_true_eq] at h
 obtain ⟨rfl, h0, hl⟩ := h
 obtain ⟨rfl, h3, k, rfl, hk⟩ := rng_k h0
 clear h0
 refine Qar x7 (fun k => QhS x7 x1 x7 (x7.length : Int) (k : Int) = Qoa x7 x1 x7 (x7.length : Int) (k : Int)) ?_ ?_ k hk
 ·rw [QB5]
  simp only [Qup, Qoa, Qas, Nat.lt_irrefl, decide_false, Qaf, Int.toNat_natCast, QRj, Bool.not_true]
 ·intro k hk ih
  rw [QB5]
  simp only [Qup, Qas, Qaw, hk, decide_true, Qad, Int.toNat_natCast, add1 (show k < 4611686018427387904 by omega), ih]
  simp only [Qoa, Int.toNat_natCast, QNa hk]
  by_cases hk0 : k = 0
  ·subst hk0
   rw [show igt ((0 : Nat) : Int) 0 = false from rfl]
   simp only [Qaf]
   exact QRi ..
  ·rw [show igt (k : Int) 0 = true from decide_eq_true (by omega), QKB (by omega) hk0]
   simp only [Qad, Qaw, show k - 1 < x7.length by omega, decide_true, Int.toNat_natCast]
   unfold egOk
   rw [show decide (k = 0) = false from decide_eq_false hk0, Bool.false_or]
   exact QRh ..
theorem QPN : ∀ S l p, g_f80.L 0 (fgt QkN S) = some (true, l) → pickA l = some p → loopF (Qaj g_f80 QkN QmV) S = some p :=
 QaB (s := Qtj) ⟨by decide, by decide⟩ (by kernel_rfl) fun x y hok p hp => by
 simp only [Qao, Qam] at hp
 exact (QX0 x.1 x.2.1 x.2.2.1 x.2.2.2.1 x.2.2.2.2.1 (by simpa using hok)).trans hp
theorem lk_f80 : QFV.lok g_f80 := by
 repeat (first | exact trivial | exact QPN | refine ⟨?_, ?_⟩)
theorem s_f80 (l : List Keep) (n : Int) (h : QCr l n = true) : r_f80 l n = some (.t .bool (Qq3 l n), []) := by
 have hl : l.length ≤ 99999 := of_decide_eq_true h
 simp only [r_f80, beq_self_eq_true, Bool.true_and, rng_0 (show l.length ≤ 100000 by omega), decide_eq_true hl, Qad, Int.toNat_zero]
 unfold Qq3
 cases egUp n l 0 <;> rfl
def QS7 : Ent := spec (.pr (.sl Qag) (.pr tI .nil)) (fun x => (QCr x.1 x.2.1)) (fun x => (.t .bool (Qq3 x.1 x.2.1)))
theorem ms_f80 : Meets Tryz.prog 80 (strip QS7) := Qah (R := runF g_f80 QFV QTH false) (mG Tryz.func80 (by kernel_rfl) Tryz.ntmps80 (by kernel_rfl) gk_f80 lk_f80) fun x hok => (e_f80 x.1 x.2.1).trans (s_f80 x.1 x.2.1 hok)
def badI (i : Item) : Bool := ine (Qlb i) 0
theorem Q0R (i : Item) : badI i = !QeJ i := by
 unfold badI Qlb
 cases QeJ i <;> rfl
noncomputable def QFX : TC := (.sq (.reg (rT Tryz.f78 0)) (.sq (.reg (rT Tryz.f78 1)) .rt))
def QTJ : List (RV × Option Ty) := [((.t 2), some .bool)]
def g_f78 : G := ⟨TYs, [], 6, EL [(79, QS8)], keeps, (fun _ _ => none), IL [], RL []⟩
def r_f78 (p0 : Item) : Option (V × List VO) := br (Qe0 p0) (some (.t .bool (ine (Qlb p0) 0), [])) none
theorem e_f78 (p0 : Item) : runF g_f78 QFX QTJ false [.t QaW p0] [] = r_f78 p0 := by kernel_rfl
theorem en_f78 : Qai Tryz.prog 78 := .inr ⟨by decide, _, Tryz.func78, by kernel_rfl, by kernel_rfl⟩
theorem gk_f78 : GOk Tryz.prog g_f78 := Qal _ (gA (gC en_f79 ms_f79 gN))
theorem lk_f78 : QFX.lok g_f78 := by repeat (first | exact trivial | refine ⟨?_, ?_⟩)
theorem s_f78 (i : Item) (h : Qe0 i = true) : r_f78 i = some (.t .bool (badI i), []) := by
 simp only [r_f78, h, Qad]
 rfl
def QS9 : Ent := spec (.pr QaW .nil) (fun x => (Qe0 x.1)) (fun x => (.t .bool (badI x.1)))
theorem ms_f78 : Meets Tryz.prog 78 (strip QS9) := Qah (R := runF g_f78 QFX QTJ false) (mG Tryz.func78 (by kernel_rfl) Tryz.ntmps78 (by kernel_rfl) gk_f78 lk_f78) fun x hok => (e_f78 x.1).trans (s_f78 x.1 hok)
def Qb1 (l : List Item) : Bool := decide (l.length ≤ 100000) && l.all Qe0
theorem QMb {l : List Item} (h : Qb1 l = true) {k : Nat} (hk : k < l.length) : Qe0 l[k] = true := by
 simp only [Qb1, Bool.and_eq_true, List.all_eq_true] at h
 exact h.2 _ (List.getElem_mem hk)
theorem Qz5 {l : List Item} (h : Qb1 l = true) : l.length ≤ 100000 := by
 simp only [Qb1, Bool.and_eq_true, decide_eq_true_eq] at h
 exact h.1
def Qsz (l : List Item) : Int := match fstG badI l with | some k => (k : Int) | none => -1
def Qc3 : Fg := ⟨[(0, some (.sl QaW)), (1, none), (7, some tI), (8, some tI)], []⟩
noncomputable def QdU : TC := (.sq (.reg (rT Tryz.f123 2)) (.sq (.cd (.t 9) .sk (.fg ⟨[], []⟩ (.ex 0))) (.sq (.bk 1 (.sq (.reg (rT Tryz.f123 3)) (.sq (.reg (rT Tryz.f123 4)) (.cd (.t 16) (.sq (.reg (rT Tryz.f123 5)) (.fg ⟨[(4, some tI)], []⟩ .rt)) .sk)))) (.reg (rT Tryz.f123 6)))))
noncomputable def Qlp : TC := (.sq (.reg (rT Tryz.f123 0)) (.sq (.sq (.reg (rT Tryz.f123 1)) (.bk 0 (.lp 0 Qc3 QdU))) (.sq (.reg (rT Tryz.f123 7)) .rt)))
def Qsq : List (RV × Option Ty) := [((.t 4), some tI)]
abbrev QgC : Sh := ⟨[(0, .ty (.sl QaW)), (1, .cf 78), (7, .ty tI), (8, .ty tI)], []⟩
def Qgo (x0 : List Item) (x7 x8 : Int) : VS := QgC.st (x0, (), x7, x8, ()) ()
abbrev QmP : Sh := ⟨[(4, .ty tI)], []⟩
def QbY (x4 : Int) : VS := QmP.st (x4, ()) ()
abbrev Qp3 : Sh := ⟨[], []⟩
def Qcn  : VS := Qp3.st () ()
def QBu : VS → Option (Bool × List (Bool × Exit × VS)) := mkL QgC (fun x y => (rngOk x.1 x.2.2.1 x.2.2.2.1 && Qb1 x.1)) (fun x y => [(((fstG badI (x.1.drop x.2.2.2.1.toNat)).isSome), .ret, QbY (x.2.2.2.1 + ((fstG badI (x.1.drop x.2.2.2.1.toNat)).getD 0 : Nat))), (true, .exit 0, Qcn)])
def QcY : G := ⟨TYs, [], 19, EL [(78, QS9)], keeps, (Ls [QBu]), IL [], RL []⟩
def QrO (x0 : List Item) (x7 x8 : Int) : Option (Exit × VS) :=
 let a1 := lgt QaW x0 (Int.toNat x8)
 br (ilt x8 x7) (br (cIx x0 x8) (br (Qe0 a1) (br (badI a1) (some (.ret, QbY x8)) (some (.normal, Qgo x0 x7 (iadd .i64 x8 1)))) none) none) (some (.exit 0, Qcn))
noncomputable def QeE (x0 : List Item) (x7 x8 : Int) : Option (Exit × VS) := loopF (Qaj QcY Qc3 QdU) (Qgo x0 x7 x8)
noncomputable def QfP (x0 : List Item) (x7 x8 : Int) : Option (Exit × VS) :=
 let a1 := lgt QaW x0 (Int.toNat x8)
 br (ilt x8 x7) (br (cIx x0 x8) (br (Qe0 a1) (br (badI a1) (some (.ret, QbY x8)) (QeE x0 x7 (iadd .i64 x8 1))) none) none) (some (.exit 0, Qcn))
def QeI (x0 : List Item) (x7 x8 : Int) : Option (Exit × VS) :=
 let a1 := fstG badI (x0.drop x8.toNat)
 br (a1.isSome) (some (.ret, QbY (x8 + (a1.getD 0 : Nat)))) <| some (.exit 0, Qcn)
theorem QxT (x0 : List Item) (x7 x8 : Int) : Qaj QcY Qc3 QdU (Qgo x0 x7 x8) = QrO x0 x7 x8 := by kernel_rfl
theorem Ql8 (x0 : List Item) (x7 x8 : Int) : QeE x0 x7 x8 = QfP x0 x7 x8 := (Qan _ _).trans (by
 rw [QxT]
 simp only [QrO, QfP, Qay, nxt_n, nxt_r, nxt_e, nxt_0]
 rfl)
def Qqw (p0 : List Item) : Option (V × List VO) :=
 let a1 := (fstG badI (p0.drop (0 : Int).toNat))
 br (rngOk p0 (llen p0) (0 : Int) && Qb1 p0) (br (a1.isSome) (some (.t tI ((0 : Int) + (a1.getD 0 : Nat)), [])) (some (.t tI (-1), []))) none
theorem QNg (p0 : List Item) : runF QcY Qlp Qsq false [.t (.sl QaW) p0, .c (.func (.func 78) ⟨[]⟩ ⟨[]⟩)] [] = Qqw p0 := by kernel_rfl
theorem QE8 : Qai Tryz.prog 123 := .inr ⟨by decide, _, Tryz.func123, by kernel_rfl, by kernel_rfl⟩
theorem QE0 : GOk Tryz.prog QcY := Qal _ (gA (gC en_f78 ms_f78 gN))
theorem QAK (x0 : List Item) (x7 x8 : Int) (h : (rngOk x0 x7 x8 && Qb1 x0) = true) : QeE x0 x7 x8 = QeI x0 x7 x8 := by
 simp only [Bool.and_eq_true] at h
 obtain ⟨h0, hc⟩ := h
 obtain ⟨rfl, h3, k, rfl, hk⟩ := rng_k h0
 clear h0
 refine Qar x0 (fun k => QeE x0 (x0.length : Int) (k : Int) = QeI x0 (x0.length : Int) (k : Int)) ?_ ?_ k hk
 ·rw [Ql8]
  simp [QfP, QeI, Qas, Qaf, fstG]
 ·intro k hk ih
  rw [Ql8]
  have hx := QMb hc hk
  simp only [QfP, Qas, Qaw, hk, decide_true, Qad, Int.toNat_natCast, add1 (show k < 4611686018427387904 by omega), ih, QaA (y := QaW) hk, hx]
  simp only [QeI, Int.toNat_natCast, List.drop_eq_getElem_cons hk, fstG]
  cases h : (badI x0[k]) with
  | true => simp [Qad]
  | false =>
   simp only [Qaf, Bool.false_eq_true, if_false]
   cases hq : fstG badI (x0.drop (k + 1)) with
   | none => rfl
   | some j =>
    simp only [Option.map_some, Option.isSome_some, Option.getD_some, Qad]
    congr 3
    omega
theorem QwW : ∀ S l p, QcY.L 0 (fgt Qc3 S) = some (true, l) → pickA l = some p → loopF (Qaj QcY Qc3 QdU) S = some p :=
 QaB (s := QgC) ⟨by decide, by decide⟩ (by kernel_rfl) fun x y hok p hp => by
 simp only [Qao, Qam] at hp
 exact (QAK x.1 x.2.2.1 x.2.2.2.1 (by simpa using hok)).trans hp
theorem QEQ : Qlp.lok QcY := by
 repeat (first | exact trivial | exact QwW | refine ⟨?_, ?_⟩)
theorem QH3 (l : List Item) (h : Qb1 l = true) : Qqw l = some (.t tI (Qsz l), []) := by
 have hl := Qz5 h
 simp only [Qqw, rng_0 hl, h, Bool.and_self, Qad, Int.toNat_zero, List.drop_zero, Qsz]
 cases fstG badI l <;> simp [Qad, Qaf]
def Qsk : Ent := specH [.ty (.sl QaW), .cf 78] [] (fun x d => (Qb1 x.1)) (fun x d => (.t tI (Qsz x.1)))
theorem QEK : Meets Tryz.prog 123 (strip Qsk) := (QaP (R := runF QcY Qlp Qsq false) (mG Tryz.func123 (by kernel_rfl) Tryz.ntmps123 (by kernel_rfl) QE0 QEQ) fun x d hok => (QNg x.1).trans (QH3 x.1 hok))
def QiM (l : List Item) : Bool := l.any badI
noncomputable def QoL : TC := (.sq (.reg (rT Tryz.f77 0)) (.sq (.reg (rT Tryz.f77 1)) .rt))
def Qwz : List (RV × Option Ty) := [((.t 4), some .bool)]
def Qot : G := ⟨TYs, [], 9, EL [(123, Qsk)], keeps, (fun _ _ => none), IL [], RL []⟩
def Qt9 (p0 : List Item) : Option (V × List VO) := br (Qb1 p0) (some (.t .bool (ige (Qsz p0) 0), [])) none
theorem QRp (p0 : List Item) : runF Qot QoL Qwz false [.t (.sl QaW) p0, .c (.func (.func 78) ⟨[]⟩ ⟨[]⟩)] [] = Qt9 p0 := by kernel_rfl
theorem QML : Qai Tryz.prog 77 := .inr ⟨by decide, _, Tryz.func77, by kernel_rfl, by kernel_rfl⟩
theorem QMv : GOk Tryz.prog Qot := Qal _ (gA (gC QE8 QEK gN))
theorem QL5 : QoL.lok Qot := by repeat (first | exact trivial | refine ⟨?_, ?_⟩)
theorem QPk (l : List Item) (h : Qb1 l = true) : Qt9 l = some (.t .bool (QiM l), []) := by
 simp only [Qt9, h, Qad]
 have e : ige (Qsz l) 0 = QiM l := by
  unfold Qsz QiM
  cases hq : fstG badI l with
  | none => rw [QbT.1 hq]; rfl
  | some k =>
   rw [← QbA, hq]
   simp only [ige, Option.isSome_some, decide_eq_true_eq]
   omega
 rw [e]
def QvD : Ent := specH [.ty (.sl QaW), .cf 78] [] (fun x d => (Qb1 x.1)) (fun x d => (.t .bool (QiM x.1)))
theorem QKX : Meets Tryz.prog 77 (strip QvD) := (QaP (R := runF Qot QoL Qwz false) (mG Tryz.func77 (by kernel_rfl) Tryz.ntmps77 (by kernel_rfl) QMv QL5) fun x d hok => (QRp x.1).trans (QPk x.1 hok))
abbrev zEp : Qab := Ty.zero Qae
abbrev epAt (l : List Qab) (k : Nat) : Qab := l.getD k zEp
def epOkK (l m : List Qab) (k : Nat) : Bool := QaJ (epAt l k) && (decide (k = 0) || slt (epAt m (k - 1)).1 (epAt l k).1)
def epUp2 (l m : List Qab) (k : Nat) : Bool := (List.range' k (l.length - k)).all (epOkK l m)
abbrev epUp (l : List Qab) (k : Nat) : Bool := epUp2 l l k
theorem QQ4 (l m : List Qab) : epUp2 l m l.length = true := by
 unfold epUp2
 rw [Nat.sub_self]
 rfl
theorem QMD {l m : List Qab} {k : Nat} (hk : k < l.length) : epUp2 l m k = (epOkK l m k && epUp2 l m (k + 1)) := by
 have : l.length - k = (l.length - (k + 1)) + 1 := by omega
 unfold epUp2
 rw [this, List.range'_succ, List.all_cons]
abbrev xEps (e : Qaq) : List Qab := e.1
abbrev xEdg (e : Qaq) : List Keep := e.2.1
abbrev xItm (e : Qaq) : List Item := e.2.2.1
def estOk (e : Qaq) : Bool := epUp (xEps e) 0 && ((xItm e).all QeJ && (ile (llen (xEps e)) 16 && (ile (llen (xItm e)) 30 && (egUp (llen (xEps e)) (xEdg e) 0 && ile (llen (xEdg e)) 40))))
def QmF (e : Qaq) : Int := bif estOk e then 0 else 31
theorem QrG (e : Qaq) : ine (QmF e) 0 = !estOk e := by
 unfold QmF
 cases estOk e <;> rfl
def Qcs (e : Qaq) : Bool := decide ((xEps e).length ≤ 99999 ∧ (xEdg e).length ≤ 99999) && ((xEps e).all QaZ && Qb1 (xItm e))
theorem QOP (l : List Item) : QiM l = !l.all QeJ := by
 unfold QiM
 rw [List.not_all_eq_any_not]
 congr 1
 funext x
 exact Q0R x
theorem QMn (a b : Int) : ile a b = !igt a b := by
 simp only [ile, igt, ← decide_not, Int.not_lt]
theorem QQ3 {β : Type} (v s u : Bool) (R E : Option β) : br (!v) R (br (!s) R (br (!u) R E)) = br (!((v && s) && u)) R E := by
 cases v <;> cases s <;> rfl
theorem QQ2 {β : Type} (v u : Bool) (R E : Option β) : br (!v) R (br (!u) R E) = br (!((v && true) && u)) R E := by
 cases v <;> rfl
noncomputable def QRF : List DO := dT Tryz.f39 4
def QkZ : Fg := ⟨[(1, none), (7, some (.sl Qae)), (8, some tI), (9, some tI)], [(1, some Qau)]⟩
noncomputable def Qm7 : TC := (.sq (.reg (rT Tryz.f39 2)) (.sq (.cd (.t 10) .sk (.fg ⟨[(1, none)], [(1, some Qau)]⟩ (.ex 0))) (.sq (.bk 1 (.sq (.reg (rT Tryz.f39 3)) (.sq (.dr QRF [(0, [4]), (1, []), (2, []), (3, []), (4, []), (5, []), (6, []), (7, [1]), (8, [1]), (9, []), (10, []), (11, []), (12, []), (13, []), (14, [4]), (15, [4]), (16, []), (17, []), (18, [])] (.of [0, 1, 2, 3, 4, 5, 6, 7, 8, 9, 10, 11, 12, 13, 14, 15, 16, 17, 18])) (.cd (.t 32) (.sq (.reg (rT Tryz.f39 5)) (.fg ⟨[(2, some tI)], []⟩ .rt)) .sk)))) (.reg (rT Tryz.f39 6)))))
noncomputable def QGj : TC := (.sq (.reg (rT Tryz.f39 0)) (.sq (.sq (.reg (rT Tryz.f39 1)) (.bk 0 (.lp 0 QkZ Qm7))) (.sq (.reg (rT Tryz.f39 7)) (.sq (.sq (.reg (rT Tryz.f39 8)) (.cd (.t 58) (.sq (.reg (rT Tryz.f39 9)) .rt) .sk)) (.sq (.reg (rT Tryz.f39 10)) .rt)))))
def QT5 : List (RV × Option Ty) := [((.t 2), some tI)]
abbrev Qtv : Sh := ⟨[(1, .ptr 1 0), (7, .ty (.sl Qae)), (8, .ty tI), (9, .ty tI)], [(1, .box Qau)]⟩
def Qnp (x7 : List Qab) (x8 x9 : Int) (y1 : Qaq) : VS := Qtv.st ((), x7, x8, x9, ()) (y1, ())
abbrev QvU : Sh := ⟨[(2, .ty tI)], []⟩
def Qb8 (x2 : Int) : VS := QvU.st (x2, ()) ()
abbrev QzK : Sh := ⟨[(1, .ptr 1 0)], [(1, .box Qau)]⟩
def Qfr (y1 : Qaq) : VS := QzK.st ((), ()) (y1, ())
def Q06 : VS → Option (Bool × List (Bool × Exit × VS)) := mkL Qtv (fun x y => (decide (x.2.1.length = y.1.1.length ∧ x.2.1.length ≤ 99999) && (rngOk x.2.1 x.2.2.1 x.2.2.2.1 && x.2.1.all QaZ))) (fun x y => [((!epUp2 x.2.1 y.1.1 x.2.2.2.1.toNat), .ret, Qb8 (31)), (true, .exit 0, Qfr (y.1))])
def g_f39 : G := ⟨TYs, [], 59, EL [(76, QBB), (77, QvD), (80, QS7)], keeps, (Ls [Q06]), IL [], RL []⟩
def QOA (x7 : List Qab) (x8 x9 : Int) (y1 : Qaq) : Option (Exit × VS) :=
 let a1 := lgt Qae x7 (Int.toNat x9)
 br (ilt x9 x8) (br (cIx x7 x9) (br (QaZ a1) (br (ine (Qcu a1) 0) (some (.ret, Qb8 31)) (br (igt x9 0) (br (cIx y1.1 (isub .i64 x9 1)) (br (!slt ((lgt Qae y1.1 (Int.toNat (isub .i64 x9 1))).1) (a1.1)) (some (.ret, Qb8 31)) (some (.normal, Qnp x7 x8 (iadd .i64 x9 1) y1))) none) (some (.normal, Qnp x7 x8 (iadd .i64 x9 1) y1)))) none) none) (some (.exit 0, Qfr y1))
noncomputable def QjH (x7 : List Qab) (x8 x9 : Int) (y1 : Qaq) : Option (Exit × VS) := loopF (Qaj g_f39 QkZ Qm7) (Qnp x7 x8 x9 y1)
noncomputable def QuA (x7 : List Qab) (x8 x9 : Int) (y1 : Qaq) : Option (Exit × VS) :=
 let a1 := lgt Qae x7 (Int.toNat x9)
 br (ilt x9 x8) (br (cIx x7 x9) (br (QaZ a1) (br (ine (Qcu a1) 0) (some (.ret, Qb8 31)) (br (igt x9 0) (br (cIx y1.1 (isub .i64 x9 1)) (br (!slt ((lgt Qae y1.1 (Int.toNat (isub .i64 x9 1))).1) (a1.1)) (some (.ret, Qb8 31)) (QjH x7 x8 (iadd .i64 x9 1) y1)) none) (QjH x7 x8 (iadd .i64 x9 1) y1))) none) none) (some (.exit 0, Qfr y1))
def Qoi (x7 : List Qab) (x8 x9 : Int) (y1 : Qaq) : Option (Exit × VS) := br (!epUp2 x7 y1.1 x9.toNat) (some (.ret, Qb8 (31))) <| some (.exit 0, Qfr (y1))
theorem QR9 (x7 : List Qab) (x8 x9 : Int) (y1 : Qaq) : Qaj g_f39 QkZ Qm7 (Qnp x7 x8 x9 y1) = QOA x7 x8 x9 y1 := by kernel_rfl
theorem QCg (x7 : List Qab) (x8 x9 : Int) (y1 : Qaq) : QjH x7 x8 x9 y1 = QuA x7 x8 x9 y1 := (Qan _ _).trans (by
 rw [QR9]
 simp only [QOA, QuA, Qay, nxt_n, nxt_r, nxt_e, nxt_0]
 rfl)
def r_f39 (p0 : Qaq) : Option (V × List VO) :=
 let a1 := ((((p0).2).2).1)
 let a2 := llen ((p0).1)
 br (decide (p0.1.length = p0.1.length ∧ p0.1.length ≤ 99999) && (rngOk p0.1 (llen p0.1) (0 : Int) && p0.1.all QaZ)) (br (!epUp2 p0.1 p0.1 (0 : Int).toNat) (some (.t tI (31), [])) (br (Qb1 a1) (br (QiM a1) (some (.t tI 31, [])) (br (igt a2 16) (some (.t tI 31, [])) (br (igt (llen a1) 30) (some (.t tI 31, [])) (br (QCr (((p0).2).1) a2) (br (!(Qq3 (((p0).2).1) a2)) (some (.t tI 31, [])) (some (.t tI 0, []))) none)))) none)) none
theorem e_f39 (p0 : Qaq) : runF g_f39 QGj QT5 false [.t Qau p0] [] = r_f39 p0 := by kernel_rfl
theorem QMR : Qai Tryz.prog 39 := .inr ⟨by decide, _, Tryz.func39, by kernel_rfl, by kernel_rfl⟩
theorem gk_f39 : GOk Tryz.prog g_f39 := Qal _ (gA (gC QMM QKY (gC QML QKX (gC en_f80 ms_f80 gN))))
theorem QYc (x7 : List Qab) (x8 x9 : Int) (y1 : Qaq) (h : (decide (x7.length = y1.1.length ∧ x7.length ≤ 99999) && (rngOk x7 x8 x9 && x7.all QaZ)) = true) : QjH x7 x8 x9 y1 = Qoi x7 x8 x9 y1 := by
 simp only [Bool.and_eq_true, decide_eq_true_eq, List.all_eq_true] at h
 obtain ⟨⟨hx, hl⟩, h0, ha⟩ := h
 obtain ⟨rfl, h3, k, rfl, hk⟩ := rng_k h0
 clear h0
 refine Qar x7 (fun k => QjH x7 (x7.length : Int) (k : Int) y1 = Qoi x7 (x7.length : Int) (k : Int) y1) ?_ ?_ k hk
 ·rw [QCg]
  simp only [QuA, Qoi, Qas, Nat.lt_irrefl, decide_false, Qaf, Int.toNat_natCast, QQ4, Bool.not_true]
 ·intro k hk ih
  rw [QCg]
  have he : QaZ (lgt Qae x7 k) = true := by rw [QaA (y := Qae) hk]; exact ha _ (List.getElem_mem hk)
  simp only [QuA, Qas, Qaw, hk, decide_true, Qad, Int.toNat_natCast, add1 (show k < 4611686018427387904 by omega), ih, he, QrH]
  simp only [Qoi, Int.toNat_natCast, QMD hk]
  by_cases hk0 : k = 0
  ·subst hk0
   rw [show igt ((0 : Nat) : Int) 0 = false from rfl]
   simp only [Qaf]
   exact QQ2 ..
  ·rw [show igt (k : Int) 0 = true from decide_eq_true (by omega), QKB (by omega) hk0]
   simp only [Qad, Qaw, show k - 1 < y1.1.length by omega, decide_true, Int.toNat_natCast]
   unfold epOkK
   rw [show decide (k = 0) = false from decide_eq_false hk0, Bool.false_or]
   exact QQ3 ..
theorem QPZ : ∀ S l p, g_f39.L 0 (fgt QkZ S) = some (true, l) → pickA l = some p → loopF (Qaj g_f39 QkZ Qm7) S = some p :=
 QaB (s := Qtv) ⟨by decide, by decide⟩ (by kernel_rfl) fun x y hok p hp => by
 simp only [Qao, Qam] at hp
 exact (QYc x.2.1 x.2.2.1 x.2.2.2.1 y.1 (by simpa using hok)).trans hp
theorem lk_f39 : QGj.lok g_f39 := by
 repeat (first | exact trivial | exact QPZ | refine ⟨?_, ?_⟩)
theorem s_f39 (e : Qaq) (h : Qcs e = true) : r_f39 e = some (.t tI (QmF e), []) := by
 simp only [Qcs, Bool.and_eq_true, decide_eq_true_eq] at h
 obtain ⟨⟨h1, h2⟩, h3, h4⟩ := h
 have h5 : QCr (xEdg e) (llen (xEps e)) = true := decide_eq_true h2
 simp only [xEps, xEdg, xItm] at h1 h2 h3 h4 h5
 simp only [r_f39, rng_0 (show e.1.length ≤ 100000 by omega), decide_eq_true h1, true_and, Bool.true_and, h3, h4, h5, Qad, Int.toNat_zero, QOP]
 unfold QmF estOk Qq3
 simp only [xEps, xEdg, xItm, epUp]
 rw [QMn (llen e.1), QMn (llen e.2.2.1)]
 cases epUp2 e.1 e.1 0 <;> cases e.2.2.1.all QeJ <;> cases igt (llen e.1) 16 <;> cases igt (llen e.2.2.1) 30 <;> cases (egUp (llen e.1) e.2.1 0 && ile (llen e.2.1) 40) <;> rfl
def QBE : Ent := spec (.pr Qau .nil) (fun x => (Qcs x.1)) (fun x => (.t tI (QmF x.1)))
theorem QK3 : Meets Tryz.prog 39 (strip QBE) := Qah (R := runF g_f39 QGj QT5 false) (mG Tryz.func39 (by kernel_rfl) Tryz.ntmps39 (by kernel_rfl) gk_f39 lk_f39) fun x hok => (e_f39 x.1).trans (s_f39 x.1 hok)
end
end Go.Proofs.YtckcgijklnloiaaGreat.K
namespace Go.Proofs.YtckcgijklnloiaaGreat.K
open Go.RowKit
noncomputable section
theorem brY {β : Type} {c : Bool} {a b r : Option β} (h : c = true) (k : a = r) : br c a b = r := by
 subst h
 exact k
def endsF (e : Qaq) (i : Int) : Qab × Qab := (epAt (xEps e) (egAt (xEdg e) i.toNat).1.toNat, epAt (xEps e) (egAt (xEdg e) i.toNat).2.1.toNat)
def Qil (e : Qaq) (i : Int) : Bool := cIx (xEdg e) i && (cIx (xEps e) (egAt (xEdg e) i.toNat).1 && cIx (xEps e) (egAt (xEdg e) i.toNat).2.1)
noncomputable def QRE : List DO := dT Tryz.f44 2
noncomputable def QGe : TC := (.sq (.reg (rT Tryz.f44 0)) (.sq (.reg (rT Tryz.f44 1)) (.sq (.dr QRE [(0, [2]), (1, [2]), (2, [6]), (3, [6]), (4, []), (5, []), (6, [2]), (7, [2]), (8, [6]), (9, [6]), (10, []), (11, []), (12, [4]), (13, [5])] (.of [0, 1, 2, 3, 4, 5, 6, 7, 8, 9, 10, 11, 12, 13])) .rt)))
def QT0 : List (RV × Option Ty) := [((.c 4 true 9), some Qae), ((.c 5 true 9), some Qae)]
def g_f44 : G := ⟨TYs, [], 24, EL [], keeps, (fun _ _ => none), IL [], RL []⟩
def r_f44 (p0 : Qaq) (p1 : Int) : Option (V × List VO) :=
 let a1 := lgt Qag p0.2.1 (Int.toNat p1)
 br (cIx p0.2.1 p1) (br (cIx p0.1 (a1.1)) (br (cIx p0.1 ((a1.2).1)) (some (.tu [(.t Qae (lgt Qae p0.1 (Int.toNat (a1.1)))), (.t Qae (lgt Qae p0.1 (Int.toNat ((a1.2).1))))], [])) none) none) none
theorem e_f44 (p0 : Qaq) (p1 : Int) : runF g_f44 QGe QT0 false [.t Qau p0, .t tI p1] [] = r_f44 p0 p1 := by kernel_rfl
theorem QMQ : Qai Tryz.prog 44 := .inr ⟨by decide, _, Tryz.func44, by kernel_rfl, by kernel_rfl⟩
theorem gk_f44 : GOk Tryz.prog g_f44 := Qal _ (fun p hp => by cases hp)
theorem lk_f44 : QGe.lok g_f44 := by repeat (first | exact trivial | refine ⟨?_, ?_⟩)
theorem s_f44 (e : Qaq) (i : Int) (h : Qil e i = true) : r_f44 e i = some (.tu [.t Qae (endsF e i).1, .t Qae (endsF e i).2], []) := by
 simp only [Qil, Bool.and_eq_true] at h
 obtain ⟨h1, h2, h3⟩ := h
 simp only [r_f44]
 exact brY h1 (brY h2 (brY h3 rfl))
def QBD : Ent := spec (.pr Qau (.pr tI .nil)) (fun x => (Qil x.1 x.2.1)) (fun x => (.tu [(.t Qae ((endsF x.1 x.2.1).1)), (.t Qae ((endsF x.1 x.2.1).2))]))
theorem QK2 : Meets Tryz.prog 44 (strip QBD) := Qah (R := runF g_f44 QGe QT0 false) (mG Tryz.func44 (by kernel_rfl) Tryz.ntmps44 (by kernel_rfl) gk_f44 lk_f44) fun x hok => (e_f44 x.1 x.2.1).trans (s_f44 x.1 x.2.1 hok)
theorem eg_all {n : Int} {l : List Keep} (h : egUp n l 0 = true) {k : Nat} (hk : k < l.length) : egIn n (egAt l k) = true := by
 unfold egUp at h
 rw [List.all_eq_true] at h
 have := h k (by rw [List.mem_range']; exact ⟨k, by omega, by omega⟩)
 unfold egOk at this
 exact (Bool.and_eq_true_iff.1 this).1
theorem eg_in {n : Int} {x : Keep} (h : egIn n x = true) : (0 ≤ x.1 ∧ x.1 < n) ∧ (0 ≤ x.2.1 ∧ x.2.1 < n) ∧ x.1 ≠ x.2.1 := by
 simp only [egIn, ilt, ige, Qc6, Bool.and_eq_true, Bool.not_eq_true', decide_eq_false_iff_not] at h
 refine ⟨⟨by omega, by omega⟩, ⟨by omega, by omega⟩, h.2.2.2.2⟩
theorem QxC {e : Qaq} (h : estOk e = true) : epUp (xEps e) 0 = true ∧ (xItm e).all QeJ = true ∧ (xEps e).length ≤ 16 ∧ (xItm e).length ≤ 30 ∧ egUp (llen (xEps e)) (xEdg e) 0 = true ∧ (xEdg e).length ≤ 40 := by
 simp only [estOk, ile, llen, Bool.and_eq_true, decide_eq_true_eq] at h
 exact ⟨h.1, h.2.1, by omega, by omega, h.2.2.2.2.1, by omega⟩
theorem Qu6 {e : Qaq} (h : estOk e = true) {k : Nat} (hk : k < (xEdg e).length) : (0 ≤ (egAt (xEdg e) k).1 ∧ (egAt (xEdg e) k).1 < (xEps e).length) ∧ (0 ≤ (egAt (xEdg e) k).2.1 ∧ (egAt (xEdg e) k).2.1 < (xEps e).length) ∧ (egAt (xEdg e) k).1 ≠ (egAt (xEdg e) k).2.1 :=
 eg_in (eg_all (QxC h).2.2.2.2.1 hk)
theorem Qox {e : Qaq} {i : Int} (h : estOk e = true) (h0 : 0 ≤ i) (h1 : i < (xEdg e).length) : Qil e i = true := by
 obtain ⟨k, rfl⟩ := Int.eq_ofNat_of_zero_le h0
 have := Qu6 h (k := k) (by omega)
 simp only [Qil, cIx, Int.toNat_natCast, Bool.and_eq_true, decide_eq_true_eq]
 exact ⟨⟨by omega, by omega⟩, ⟨this.1.1, this.1.2⟩, this.2.1.1, this.2.1.2⟩
theorem Qu5 {e : Qaq} (h : Qcs e = true) : (xEps e).all QaZ = true := by
 simp only [Qcs, Bool.and_eq_true] at h
 exact h.2.1
theorem Qu7 {l : List Qab} (h : l.all QaZ = true) {c : Int} (hc : cIx l c = true) : QaZ (epAt l c.toNat) = true := by
 simp only [cIx, decide_eq_true_eq] at hc
 obtain ⟨k, rfl⟩ := Int.eq_ofNat_of_zero_le hc.1
 have hk : k < l.length := by omega
 rw [Int.toNat_natCast, show epAt l k = l[k] by simp only [epAt, List.getD_eq_getElem?_getD, List.getElem?_eq_getElem hk, Option.getD_some]]
 exact List.all_eq_true.1 h _ (List.getElem_mem hk)
theorem Qu8 {e : Qaq} {i : Int} (h : Qcs e = true) (hi : Qil e i = true) : Qa8 (endsF e i).1 (endsF e i).2 = true := by
 simp only [Qil, Bool.and_eq_true] at hi
 exact Bool.and_eq_true_iff.2 ⟨Qu7 (Qu5 h) hi.2.1, Qu7 (Qu5 h) hi.2.2⟩
def QcQ (e : Qaq) (i : Int) : Int := bif !estOk e then 31 else bif ilt i 0 || ige i (llen (xEdg e)) then 4 else 0
def Qgg (e : Qaq) (_i : Int) : Bool := Qcs e
def Qgf (e : Qaq) (_i _d : Int) : Bool := Qcs e
noncomputable def QGf : TC := (.sq (.reg (rT Tryz.f43 0)) (.sq (.bk 0 (.sq (.reg (rT Tryz.f43 1)) (.cd (.t 5) (.sq (.reg (rT Tryz.f43 2)) .rt) (.sq (.reg (rT Tryz.f43 3)) (.cd (.t 9) (.sq (.reg (rT Tryz.f43 4)) .rt) .sk))))) (.sq (.reg (rT Tryz.f43 5)) .rt)))
def QT1 : List (RV × Option Ty) := [((.t 4), some tI)]
def g_f43 : G := ⟨TYs, [], 19, EL [(39, QBE)], keeps, (fun _ _ => none), IL [], RL []⟩
def r_f43 (p0 : Qaq) (p1 : Int) : Option (V × List VO) := br (Qcs p0) (br (ine (QmF p0) 0) (some (.t tI 31, [])) (br (ilt p1 0) (some (.t tI 4, [])) (br (ige p1 (llen p0.2.1)) (some (.t tI 4, [])) (some (.t tI 0, []))))) none
theorem e_f43 (p0 : Qaq) (p1 : Int) : runF g_f43 QGf QT1 false [.t Qau p0, .t tI p1] [] = r_f43 p0 p1 := by kernel_rfl
theorem QUW : Qai Tryz.prog 43 := .inr ⟨by decide, _, Tryz.func43, by kernel_rfl, by kernel_rfl⟩
theorem gk_f43 : GOk Tryz.prog g_f43 := Qal _ (gA (gC QMR QK3 gN))
theorem lk_f43 : QGf.lok g_f43 := by repeat (first | exact trivial | refine ⟨?_, ?_⟩)
theorem s_f43 (e : Qaq) (i : Int) (h : Qgg e i = true) : r_f43 e i = some (.t tI (QcQ e i), []) := by
 have h : Qcs e = true := h
 simp only [r_f43, h, Qad, QrG]
 unfold QcQ
 cases estOk e <;> cases ilt i 0 <;> cases ige i (llen (xEdg e)) <;> rfl
def QGG : Ent := spec (.pr Qau (.pr tI .nil)) (fun x => (Qgg x.1 x.2.1)) (fun x => (.t tI (QcQ x.1 x.2.1)))
theorem QUG : Meets Tryz.prog 43 (strip QGG) := Qah (R := runF g_f43 QGf QT1 false) (mG Tryz.func43 (by kernel_rfl) Tryz.ntmps43 (by kernel_rfl) gk_f43 lk_f43) fun x hok => (e_f43 x.1 x.2.1).trans (s_f43 x.1 x.2.1 hok)
theorem QoF (e : Qaq) (i : Int) : (ine (QcQ e i) 0 = false ∧ QcQ e i = 0 ∧ estOk e = true ∧ 0 ≤ i ∧ i < (xEdg e).length) ∨ ine (QcQ e i) 0 = true := by
 unfold QcQ
 cases h1 : estOk e with
 | false => exact .inr rfl
 | true =>
  cases h2 : ilt i 0 with
  | true => exact .inr rfl
  | false =>
   cases h3 : ige i (llen (xEdg e)) with
   | true => exact .inr rfl
   | false =>
    simp only [ilt, ige, llen, decide_eq_false_iff_not] at h2 h3
    exact .inl ⟨rfl, rfl, rfl, by omega, by omega⟩
def Qr8 (e : Qaq) (i d : Int) : Keep × Int := bif ine (QcQ e i) 0 then (zK, QcQ e i) else QcG (endsF e i).1 (endsF e i).2 d
noncomputable def QGs : TC := (.sq (.reg (rT Tryz.f15 0)) (.sq (.sq (.reg (rT Tryz.f15 1)) (.sq (.reg (rT Tryz.f15 2)) (.cd (.t 15) (.sq (.reg (rT Tryz.f15 3)) .rt) .sk))) (.sq (.reg (rT Tryz.f15 4)) (.sq (.reg (rT Tryz.f15 5)) .rt))))
def QUe : List (RV × Option Ty) := [((.c 6 true 2), some Qag), ((.t 7), some tI)]
def g_f15 : G := ⟨TYs, [], 30, EL [(42, QGH), (43, QGG), (44, QBD)], keeps, (fun _ _ => none), IL [], RL []⟩
def r_f15 (p0 : Qaq) (p1 p2 : Int) : Option (V × List VO) :=
 let a1 := QcG ((endsF p0 p1).1) ((endsF p0 p1).2) p2
 br (Qgg p0 p1) (br (ine (QcQ p0 p1) 0) (some (.tu [(.t Qag (0, (0, ()))), (.t tI (QcQ p0 p1))], [])) (br (Qil p0 p1) (br (Qf6 ((endsF p0 p1).1) ((endsF p0 p1).2) p2) (some (.tu [(.t Qag (a1.1)), (.t tI (a1.2))], [])) none) none)) none
theorem e_f15 (p0 : Qaq) (p1 p2 : Int) : runF g_f15 QGs QUe false [.t Qau p0, .t tI p1, .t tI p2] [] = r_f15 p0 p1 p2 := by kernel_rfl
theorem QU0 : Qai Tryz.prog 15 := .inr ⟨by decide, _, Tryz.func15, by kernel_rfl, by kernel_rfl⟩
theorem gk_f15 : GOk Tryz.prog g_f15 := Qal _ (gA (gC QUX QUH (gC QUW QUG (gC QMQ QK2 gN))))
theorem lk_f15 : QGs.lok g_f15 := by repeat (first | exact trivial | refine ⟨?_, ?_⟩)
theorem s_f15 (e : Qaq) (i d : Int) (h : Qgf e i d = true) : r_f15 e i d = some (.tu [.t Qag (Qr8 e i d).1, .t tI (Qr8 e i d).2], []) := by
 have h : Qcs e = true := h
 simp only [r_f15, show Qgg e i = true from h, Qad]
 unfold Qr8
 rcases QoF e i with ⟨h1, _, h2, h3, h4⟩ | h1
 ·have h5 := Qox h2 h3 h4
  rw [h1, Qaf, h5, Qad, show Qf6 (endsF e i).1 (endsF e i).2 d = true from Qu8 h h5, Qad]
  rfl
 ·rw [h1]
  rfl
def QHp : Ent := spec (.pr Qau (.pr tI (.pr tI .nil))) (fun x => (Qgf x.1 x.2.1 x.2.2.1)) (fun x => (.tu [(.t Qag ((Qr8 x.1 x.2.1 x.2.2.1).1)), (.t tI ((Qr8 x.1 x.2.1 x.2.2.1).2))]))
theorem QUK : Meets Tryz.prog 15 (strip QHp) := Qah (R := runF g_f15 QGs QUe false) (mG Tryz.func15 (by kernel_rfl) Tryz.ntmps15 (by kernel_rfl) gk_f15 lk_f15) fun x hok => (e_f15 x.1 x.2.1 x.2.2.1).trans (s_f15 x.1 x.2.1 x.2.2.1 hok)
def dayF (n : Int) : Bool := ige n 0 && ile n 40000
noncomputable def QGi : TC := (.sq (.reg (rT Tryz.f40 0)) (.sq (.reg (rT Tryz.f40 1)) .rt))
def QT4 : List (RV × Option Ty) := [((.t 2), some .bool)]
def g_f40 : G := ⟨TYs, [], 9, EL [], keeps, (fun _ _ => none), IL [], RL []⟩
def r_f40 (p0 : Int) : Option (V × List VO) := br (ige p0 0) (some (.t .bool (ile p0 40000), [])) (some (.t .bool false, []))
theorem e_f40 (p0 : Int) : runF g_f40 QGi QT4 false [.t tI p0] [] = r_f40 p0 := by kernel_rfl
theorem QUZ : Qai Tryz.prog 40 := .inr ⟨by decide, _, Tryz.func40, by kernel_rfl, by kernel_rfl⟩
theorem gk_f40 : GOk Tryz.prog g_f40 := Qal _ (fun p hp => by cases hp)
theorem lk_f40 : QGi.lok g_f40 := by repeat (first | exact trivial | refine ⟨?_, ?_⟩)
theorem s_f40 (n : Int) : r_f40 n = some (.t .bool (dayF n), []) := by
 simp only [r_f40]
 unfold dayF
 cases ige n 0 <;> rfl
def QGJ : Ent := spec (.pr tI .nil) (fun x => true) (fun x => (.t .bool (dayF x.1)))
theorem QUJ : Meets Tryz.prog 40 (strip QGJ) := Qah (R := runF g_f40 QGi QT4 false) (mG Tryz.func40 (by kernel_rfl) Tryz.ntmps40 (by kernel_rfl) gk_f40 lk_f40) fun x _ => (e_f40 x.1).trans (s_f40 x.1)
def minTo (m : Int) (c : Qaa) : Int := imn m c.2.2.2.2.2.2.2.1
def untC (l : List Qaa) : Int := match l with | [] => 0 | c :: r => (c :: r).foldl minTo c.2.2.2.2.2.2.2.1
def QkR : Fg := ⟨[(3, some tI), (13, some (.sl Qac)), (14, some tI), (15, some tI)], []⟩
noncomputable def QmZ : TC := (.sq (.reg (rT Tryz.f66 5)) (.sq (.cd (.t 16) .sk (.fg ⟨[(3, some tI)], []⟩ (.ex 0))) (.sq (.bk 1 (.sq (.reg (rT Tryz.f66 6)) (.reg (rT Tryz.f66 7)))) (.reg (rT Tryz.f66 8)))))
noncomputable def QF1 : TC := (.sq (.reg (rT Tryz.f66 0)) (.sq (.sq (.reg (rT Tryz.f66 1)) (.cd (.t 8) (.sq (.reg (rT Tryz.f66 2)) .rt) .sk)) (.sq (.reg (rT Tryz.f66 3)) (.sq (.sq (.reg (rT Tryz.f66 4)) (.bk 0 (.lp 0 QkR QmZ))) (.sq (.reg (rT Tryz.f66 9)) .rt)))))
def QTN : List (RV × Option Ty) := [((.t 2), some tI)]
abbrev Qtn : Sh := ⟨[(3, .ty tI), (13, .ty (.sl Qac)), (14, .ty tI), (15, .ty tI)], []⟩
def QsY (x3 : Int) (x13 : List Qaa) (x14 x15 : Int) : VS := Qtn.st (x3, x13, x14, x15, ()) ()
abbrev QzC : Sh := ⟨[(3, .ty tI)], []⟩
def Qfj (x3 : Int) : VS := QzC.st (x3, ()) ()
def Q0Y : VS → Option (Bool × List (Bool × Exit × VS)) := mkL Qtn (fun x y => (rngOk x.2.1 x.2.2.1 x.2.2.2.1)) (fun x y => [(true, .exit 0, Qfj ((x.2.1.drop x.2.2.2.1.toNat).foldl minTo x.1))])
def g_f66 : G := ⟨TYs, [], 25, EL [], keeps, (Ls [Q0Y]), IL [], RL []⟩
def QOs (x3 : Int) (x13 : List Qaa) (x14 x15 : Int) : Option (Exit × VS) := br (ilt x15 x14) (br (cIx x13 x15) (some (.normal, QsY (imn x3 (((((((((lgt Qac x13 (Int.toNat x15)).2).2).2).2).2).2).2).1)) x13 x14 (iadd .i64 x15 1))) none) (some (.exit 0, Qfj x3))
noncomputable def Qn2 (x3 : Int) (x13 : List Qaa) (x14 x15 : Int) : Option (Exit × VS) := loopF (Qaj g_f66 QkR QmZ) (QsY x3 x13 x14 x15)
noncomputable def Qut (x3 : Int) (x13 : List Qaa) (x14 x15 : Int) : Option (Exit × VS) := br (ilt x15 x14) (br (cIx x13 x15) (Qn2 (imn x3 (((((((((lgt Qac x13 (Int.toNat x15)).2).2).2).2).2).2).2).1)) x13 x14 (iadd .i64 x15 1)) none) (some (.exit 0, Qfj x3))
def Qod (x3 : Int) (x13 : List Qaa) (x14 x15 : Int) : Option (Exit × VS) := some (.exit 0, Qfj ((x13.drop x15.toNat).foldl minTo x3))
theorem QR1 (x3 : Int) (x13 : List Qaa) (x14 x15 : Int) : Qaj g_f66 QkR QmZ (QsY x3 x13 x14 x15) = QOs x3 x13 x14 x15 := by kernel_rfl
theorem QB9 (x3 : Int) (x13 : List Qaa) (x14 x15 : Int) : Qn2 x3 x13 x14 x15 = Qut x3 x13 x14 x15 := (Qan _ _).trans (by
 rw [QR1]
 simp only [QOs, Qut, Qay, nxt_n, nxt_r, nxt_e, nxt_0]
 rfl)
def r_f66 (p0 : List Qaa) : Option (V × List VO) := br (ieq (llen p0) 0) (some (.t tI 0, [])) (br (cIx p0 0) (br (rngOk p0 (llen p0) (0 : Int)) (some (.t tI ((p0.drop (0 : Int).toNat).foldl minTo (((((((((lgt Qac p0 (Int.toNat 0)).2).2).2).2).2).2).2).1)), [])) none) none)
theorem e_f66 (p0 : List Qaa) : runF g_f66 QF1 QTN false [.t (.sl Qac) p0] [] = r_f66 p0 := by kernel_rfl
theorem en_f66 : Qai Tryz.prog 66 := .inr ⟨by decide, _, Tryz.func66, by kernel_rfl, by kernel_rfl⟩
theorem gk_f66 : GOk Tryz.prog g_f66 := Qal _ (fun p hp => by cases hp)
theorem QX4 (x3 : Int) (x13 : List Qaa) (x14 x15 : Int) (h : (rngOk x13 x14 x15) = true) : Qn2 x3 x13 x14 x15 = Qod x3 x13 x14 x15 := by
 obtain ⟨rfl, h3, k, rfl, hk⟩ := rng_k h
 clear h
 revert x3
 refine Qar x13 (fun k => ∀ x3, Qn2 x3 x13 (x13.length : Int) (k : Int) = Qod x3 x13 (x13.length : Int) (k : Int)) ?_ ?_ k hk
 ·intro x3
  rw [QB9]
  simp only [Qut, Qod, Qas, Nat.lt_irrefl, decide_false, Qaf, Int.toNat_natCast, List.drop_length, List.foldl_nil]
 ·intro k hk ih x3
  rw [QB9]
  simp only [Qut, Qas, Qaw, hk, decide_true, Qad, Int.toNat_natCast, add1 (show k < 4611686018427387904 by omega), ih, QaA (y := Qac) hk]
  simp only [Qod, Int.toNat_natCast, List.drop_eq_getElem_cons hk, List.foldl_cons]
  rfl
theorem QPR : ∀ S l p, g_f66.L 0 (fgt QkR S) = some (true, l) → pickA l = some p → loopF (Qaj g_f66 QkR QmZ) S = some p :=
 QaB (s := Qtn) ⟨by decide, by decide⟩ (by kernel_rfl) fun x y hok p hp => by
 simp only [Qao, Qam] at hp
 exact (QX4 x.1 x.2.1 x.2.2.1 x.2.2.2.1 (by simpa using hok)).trans hp
theorem lk_f66 : QF1.lok g_f66 := by
 repeat (first | exact trivial | exact QPR | refine ⟨?_, ?_⟩)
theorem s_f66 (l : List Qaa) (h : QaQ l = true) : r_f66 l = some (.t tI (untC l), []) := by
 have hl := Qlc h
 simp only [r_f66, rng_0 hl, Qad, Int.toNat_zero, List.drop_zero]
 cases l with
 | nil => rfl
 | cons c r =>
  rw [show ieq (llen (c :: r)) 0 = false by simp only [Qc6, llen, List.length_cons, decide_eq_false_iff_not]; omega, Qaf, show cIx (c :: r) 0 = true by simp only [cIx, List.length_cons, decide_eq_true_eq]; omega]
  rfl
def QTb : Ent := spec (.pr (.sl Qac) .nil) (fun x => (QaQ x.1)) (fun x => (.t tI (untC x.1)))
theorem ms_f66 : Meets Tryz.prog 66 (strip QTb) := Qah (R := runF g_f66 QF1 QTN false) (mG Tryz.func66 (by kernel_rfl) Tryz.ntmps66 (by kernel_rfl) gk_f66 lk_f66) fun x hok => (e_f66 x.1).trans (s_f66 x.1 hok)
end
end Go.Proofs.YtckcgijklnloiaaGreat.K
namespace Go.Proofs.YtckcgijklnloiaaGreat.K
open Go.RowKit
noncomputable section
theorem QRT {s : Qab} {x : Int} (hs : QaZ s = true) (h : (QaU s x).2 = true) : cIx (eIds s) (QaU s x).1 = true ∧ QaQ (QgY s x) = true := by
 obtain ⟨k, hk, hl⟩ := Qoq h
 have hi := (Qbm hs).2.2.2.2.2
 refine ⟨by rw [hk]; exact decide_eq_true ⟨by omega, by omega⟩, ?_⟩
 unfold QgY
 rw [hk, Int.toNat_natCast, QaA (y := Qat) hl]
 exact List.all_eq_true.1 hi _ (List.getElem_mem hl)
def g_f29 : G := ⟨TYs, [], 44, EL [(15, QHp), (44, QBD), (56, Qsf), (66, QTb)], keeps, (fun _ _ => none), IL [], RL []⟩
theorem gk_f29 : GOk Tryz.prog g_f29 := Qal _ (gA (gC QU0 QUK (gC QMQ QK2 (gC QxF QwQ (gC en_f66 ms_f66 gN)))))
def metOk (c s : Qab) (d : Int) (o : Keep) : Bool := (QaU s o.2.1).2 && ieq (pickE c s d o.2.1) 0
def metF (c s : Qab) (d : Int) : List Keep := (QaR c s).filter (metOk c s d)
def metLk (c s : Qab) (l m : List Keep) (k : Int) : Bool := QaZ c && (QaZ s && decide (l.length ≤ 1000 ∧ m.length ≤ k))
def methF (e : Qaq) (i d : Int) : List Keep × Int :=
 bif ine (QcQ e i) 0 then ([], QcQ e i) else bif !dayF d then ([], 2) else (metF (endsF e i).1 (endsF e i).2 d, 0)
theorem QFB (s : Qab) (o : List Int) : ∀ (n v : Nat), (verC s o v n).length ≤ 16 * n := by
 intro n
 induction n with
 | zero => intro v; simp [verC]
 | succ n ih =>
  intro v
  have h1 : (rowC s o (v : Int) 1).length ≤ 16 := by
   unfold rowC
   rw [List.length_map]
   exact Nat.le_trans (List.length_filter_le _ _) (by rw [List.length_range']; omega)
  have h2 := ih (v + 1)
  unfold verC at h2 ⊢
  rw [List.range'_succ, List.flatMap_cons, List.length_append]
  omega
theorem QiL {c s : Qab} : (QaR c s).length ≤ 64 := by
 unfold QaR
 cases h : Qew c s with
 | false => exact Nat.zero_le _
 | true =>
  obtain ⟨hv, hw⟩ := Bool.and_eq_true_iff.1 h
  have v1 := Qbw hv
  have v2 := Qbw hw
  refine Nat.le_trans (QFB _ _ _ _) ?_
  simp only [hiC, loC, imn, imx]
  split <;> split <;> omega
theorem QLg {c s : Qab} {l m : List Keep} {d : Int} {k : Nat} (hk : k < l.length) (h : metLk c s l m k = true) {β : Type} (K : List Keep → Option β) :
  br (idnOk s (lgt Qag l k).2.1) (br (QaU s (lgt Qag l k).2.1).2 (br (cIx (eIds s) (QaU s (lgt Qag l k).2.1).1) (br (QdN (QgY s (lgt Qag l k).2.1) (eAnch c) (eHash c) d s.1) (br (ieq (pickE c s d (lgt Qag l k).2.1) 0) (br (cApp m [lgt Qag l k] 16) (K (m ++ [lgt Qag l k])) none) (K m)) none) none) (K m)) none = (bif metOk c s d (lgt Qag l k) then K (m ++ [lgt Qag l k]) else K m) := by
 simp only [metLk, Bool.and_eq_true, decide_eq_true_eq] at h
 obtain ⟨hc, hs, hl, hm⟩ := h
 have ha : idnOk s (lgt Qag l k).2.1 = true := decide_eq_true (Qbm hs).2.2.1
 have hb : cApp m [lgt Qag l k] 16 = true := cAppN (by omega) (by simp only [List.length_singleton]; omega)
 rw [ha, Qad]
 unfold metOk
 cases hi : (QaU s (lgt Qag l k).2.1).2 with
 | false => rfl
 | true =>
  obtain ⟨h8, h9⟩ := QRT hs hi
  have hg : QdN (QgY s (lgt Qag l k).2.1) (eAnch c) (eHash c) d s.1 = true := Bool.and_eq_true_iff.2 ⟨h9, decide_eq_true ⟨(Qbm hc).2.2.2.1, (Qbm hc).2.2.2.2.1⟩⟩
  rw [Qad, h8, Qad, hg, Qad, hb, Qad]
  cases ieq (pickE c s d (lgt Qag l k).2.1) 0 <;> rfl
noncomputable def QRK : List DO := dT Tryz.f20 12
def Qk4 : Fg := ⟨[(2, some tI), (9, none), (10, none), (11, none), (33, some (.sl Qag)), (34, some tI), (35, some tI)], [(9, some Qae), (10, some Qae), (11, none), (67, none)]⟩
noncomputable def Qnc : TC := (.sq (.reg (rT Tryz.f20 9)) (.sq (.cd (.t 36) .sk (.fg ⟨[(11, none)], [(11, none), (67, none)]⟩ (.ex 0))) (.sq (.bk 1 (.sq (.reg (rT Tryz.f20 10)) (.sq (.reg (rT Tryz.f20 11)) (.sq (.dr QRK [(0, []), (1, []), (2, [10]), (3, [10]), (4, []), (5, []), (6, []), (7, []), (8, [9]), (9, [9]), (10, [9]), (11, [9]), (12, []), (13, [10]), (14, [10]), (15, []), (16, []), (17, [])] (.of [0, 1, 2, 3, 4, 5, 6, 7, 8, 9, 10, 11, 12, 13, 14, 15, 16, 17])) (.cd (.t 63) (.reg (rT Tryz.f20 13)) .sk))))) (.reg (rT Tryz.f20 14)))))
noncomputable def QGp : TC := (.sq (.reg (rT Tryz.f20 0)) (.sq (.sq (.reg (rT Tryz.f20 1)) (.sq (.reg (rT Tryz.f20 2)) (.cd (.t 20) (.sq (.reg (rT Tryz.f20 3)) .rt) .sk))) (.sq (.sq (.reg (rT Tryz.f20 4)) (.cd (.t 24) (.sq (.reg (rT Tryz.f20 5)) .rt) .sk)) (.sq (.reg (rT Tryz.f20 6)) (.sq (.reg (rT Tryz.f20 7)) (.sq (.sq (.reg (rT Tryz.f20 8)) (.bk 0 (.nw 11 39 (.lp 0 Qk4 Qnc)))) (.sq (.reg (rT Tryz.f20 15)) .rt)))))))
def QUb : List (RV × Option Ty) := [((.t 6), some (.sl Qag)), ((.t 7), some tI)]
abbrev QtA : Sh := ⟨[(2, .ty tI), (9, .ptr 9 0), (10, .ptr 10 0), (11, .ms 11), (33, .ty (.sl Qag)), (34, .ty tI), (35, .ty tI)], [(9, .box Qae), (10, .box Qae), (11, .arr 39 Qag), (67, .no)]⟩
def Qjr (x2 : Int) (x33 : List Keep) (x34 x35 : Int) (y9 y10 : Qab) (y11 : List Keep) : VS := QtA.st (x2, (), (), (), x33, x34, x35, ()) (y9, y10, y11, (), ())
abbrev QzP : Sh := ⟨[(11, .ms 11)], [(11, .arr 39 Qag), (67, .no)]⟩
def Qfx (y11 : List Keep) : VS := QzP.st ((), ()) (y11, (), ())
def Q1b : VS → Option (Bool × List (Bool × Exit × VS)) := mkL QtA (fun x y => (rngOk x.2.2.2.2.1 x.2.2.2.2.2.1 x.2.2.2.2.2.2.1 && metLk y.1 y.2.1 x.2.2.2.2.1 y.2.2.1 x.2.2.2.2.2.2.1)) (fun x y => [(true, .exit 0, Qfx (y.2.2.1 ++ (x.2.2.2.2.1.drop x.2.2.2.2.2.2.1.toNat).filter (metOk y.1 y.2.1 x.1)))])
def g_f20 : G := ⟨TYs, [], 70, EL [(40, QGJ), (43, QGG), (44, QBD), (54, QGE), (56, Qsf), (57, QGD)], keeps, (Ls [Q1b]), IL [], RL []⟩
def QOF (x2 : Int) (x33 : List Keep) (x34 x35 : Int) (y9 y10 : Qab) (y11 : List Keep) : Option (Exit × VS) :=
 let a1 := lgt Qag x33 (Int.toNat x35)
 let a4 := QaU y10 ((a1.2).1)
 let a2 := ((((lgt Qat y10.2.2.2.2.2.1 (Int.toNat (a4.1))).2).2).1)
 let a3 := iadd .i64 x35 1
 br (ilt x35 x34) (br (cIx x33 x35) (br (idnOk y10 ((a1.2).1)) (br (a4.2) (br (cIx y10.2.2.2.2.2.1 (a4.1)) (br (QdN a2 y9.2.2.2.2.2.2.1 y9.2.2.2.2.2.2.2.1 x2 y10.1) (br (ieq (chkCh a2 y9.2.2.2.2.2.2.1 y9.2.2.2.2.2.2.2.1 x2 y10.1) 0) (br (cApp y11 ([(a1.1, ((a1.2).1, ()))]) 16) (some (.normal, Qjr x2 x33 x34 a3 y9 y10 (y11 ++ ([(a1.1, ((a1.2).1, ()))])))) none) (some (.normal, Qjr x2 x33 x34 a3 y9 y10 y11))) none) none) (some (.normal, Qjr x2 x33 x34 a3 y9 y10 y11))) none) none) (some (.exit 0, Qfx y11))
noncomputable def QfU (x2 : Int) (x33 : List Keep) (x34 x35 : Int) (y9 y10 : Qab) (y11 : List Keep) : Option (Exit × VS) := loopF (Qaj g_f20 Qk4 Qnc) (Qjr x2 x33 x34 x35 y9 y10 y11)
noncomputable def QuE (x2 : Int) (x33 : List Keep) (x34 x35 : Int) (y9 y10 : Qab) (y11 : List Keep) : Option (Exit × VS) :=
 let a1 := lgt Qag x33 (Int.toNat x35)
 let a4 := QaU y10 ((a1.2).1)
 let a2 := ((((lgt Qat y10.2.2.2.2.2.1 (Int.toNat (a4.1))).2).2).1)
 let a3 := iadd .i64 x35 1
 br (ilt x35 x34) (br (cIx x33 x35) (br (idnOk y10 ((a1.2).1)) (br (a4.2) (br (cIx y10.2.2.2.2.2.1 (a4.1)) (br (QdN a2 y9.2.2.2.2.2.2.1 y9.2.2.2.2.2.2.2.1 x2 y10.1) (br (ieq (chkCh a2 y9.2.2.2.2.2.2.1 y9.2.2.2.2.2.2.2.1 x2 y10.1) 0) (br (cApp y11 ([(a1.1, ((a1.2).1, ()))]) 16) (QfU x2 x33 x34 a3 y9 y10 (y11 ++ ([(a1.1, ((a1.2).1, ()))]))) none) (QfU x2 x33 x34 a3 y9 y10 y11)) none) none) (QfU x2 x33 x34 a3 y9 y10 y11)) none) none) (some (.exit 0, Qfx y11))
def Qol (x2 : Int) (x33 : List Keep) (x34 x35 : Int) (y9 y10 : Qab) (y11 : List Keep) : Option (Exit × VS) := some (.exit 0, Qfx (y11 ++ (x33.drop x35.toNat).filter (metOk y9 y10 x2)))
theorem QSe (x2 : Int) (x33 : List Keep) (x34 x35 : Int) (y9 y10 : Qab) (y11 : List Keep) : Qaj g_f20 Qk4 Qnc (Qjr x2 x33 x34 x35 y9 y10 y11) = QOF x2 x33 x34 x35 y9 y10 y11 := by kernel_rfl
theorem QCl (x2 : Int) (x33 : List Keep) (x34 x35 : Int) (y9 y10 : Qab) (y11 : List Keep) : QfU x2 x33 x34 x35 y9 y10 y11 = QuE x2 x33 x34 x35 y9 y10 y11 := (Qan _ _).trans (by
 rw [QSe]
 simp only [QOF, QuE, Qay, nxt_n, nxt_r, nxt_e, nxt_0]
 rfl)
def r_f20 (p0 : Qaq) (p1 p2 : Int) : Option (V × List VO) :=
 let a2 := ((endsF p0 p1).1)
 let a3 := ((endsF p0 p1).2)
 let a1 := QaR a2 a3
 br (Qgg p0 p1) (br (ine (QcQ p0 p1) 0) (some (.tu [(.t (.sl Qag) ([] : List Keep)), (.t tI (QcQ p0 p1))], [])) (br (!(dayF p2)) (some (.tu [(.t (.sl Qag) ([] : List Keep)), (.t tI 2)], [])) (br (Qil p0 p1) (br (Qa8 a2 a3) (br (rngOk a1 (llen a1) (0 : Int) && metLk a2 a3 a1 ([] : List Keep) (0 : Int)) (some (.tu [(.t (.sl Qag) (([] : List Keep) ++ (a1.drop (0 : Int).toNat).filter (metOk a2 a3 p2))), (.t tI 0)], [])) none) none) none))) none
theorem e_f20 (p0 : Qaq) (p1 p2 : Int) : runF g_f20 QGp QUb false [.t Qau p0, .t tI p1, .t tI p2] [] = r_f20 p0 p1 p2 := by kernel_rfl
theorem en_f20 : Qai Tryz.prog 20 := .inr ⟨by decide, _, Tryz.func20, by kernel_rfl, by kernel_rfl⟩
theorem gk_f20 : GOk Tryz.prog g_f20 := Qal _ (gA (gC QUZ QUJ (gC QUW QUG (gC QMQ QK2 (gC QUU QUE (gC QxF QwQ (gC QUT QUD gN)))))))
theorem QYh (x2 : Int) (x33 : List Keep) (x34 x35 : Int) (y9 y10 : Qab) (y11 : List Keep) (h : (rngOk x33 x34 x35 && metLk y9 y10 x33 y11 x35) = true) : QfU x2 x33 x34 x35 y9 y10 y11 = Qol x2 x33 x34 x35 y9 y10 y11 := by
 obtain ⟨h0, hm⟩ := Bool.and_eq_true_iff.1 h
 obtain ⟨rfl, h3, k, rfl, hk⟩ := rng_k h0
 clear h h0
 revert y11
 refine Qar x33 (fun k => ∀ y11, metLk y9 y10 x33 y11 (k : Int) = true → QfU x2 x33 (x33.length : Int) (k : Int) y9 y10 y11 = Qol x2 x33 (x33.length : Int) (k : Int) y9 y10 y11) ?_ ?_ k hk
 ·intro y11 _
  rw [QCl]
  simp only [QuE, Qol, Qas, Nat.lt_irrefl, decide_false, Qaf, Int.toNat_natCast, List.drop_length, List.filter_nil, List.append_nil]
 ·intro k hk ih y11 hm
  rw [QCl]
  have hm2 := hm
  simp only [metLk, Bool.and_eq_true, decide_eq_true_eq] at hm2
  obtain ⟨hc, hs, hl, hy⟩ := hm2
  simp only [QuE, Qas, Qaw, hk, decide_true, Qad, Int.toNat_natCast, add1 (show k < 4611686018427387904 by omega)]
  refine Eq.trans (QLg hk hm (fun m => QfU x2 x33 (x33.length : Int) ((k + 1 : Nat) : Int) y9 y10 m)) ?_
  rw [ih _ (by simp only [metLk, Bool.and_eq_true, decide_eq_true_eq]; exact ⟨hc, hs, hl, by simp only [List.length_append, List.length_singleton]; omega⟩), ih _ (by simp only [metLk, Bool.and_eq_true, decide_eq_true_eq]; exact ⟨hc, hs, hl, by omega⟩)]
  simp only [Qol, Int.toNat_natCast, List.drop_eq_getElem_cons hk, QaA (y := Qag) hk, List.filter_cons]
  cases metOk y9 y10 x2 x33[k] with
  | true => simp only [cond_true, if_true, List.append_assoc, List.singleton_append]
  | false => rfl
theorem QP4 : ∀ S l p, g_f20.L 0 (fgt Qk4 S) = some (true, l) → pickA l = some p → loopF (Qaj g_f20 Qk4 Qnc) S = some p :=
 QaB (s := QtA) ⟨by decide, by decide⟩ (by kernel_rfl) fun x y hok p hp => by
 simp only [Qao, Qam] at hp
 exact (QYh x.1 x.2.2.2.2.1 x.2.2.2.2.2.1 x.2.2.2.2.2.2.1 y.1 y.2.1 y.2.2.1 (by simpa using hok)).trans hp
theorem lk_f20 : QGp.lok g_f20 := by
 repeat (first | exact trivial | exact QP4 | refine ⟨?_, ?_⟩)
theorem QLf {c s : Qab} (h : Qa8 c s = true) : (rngOk (QaR c s) (llen (QaR c s)) (0 : Int) && metLk c s (QaR c s) [] 0) = true := by
 have hl := QiL (c := c) (s := s)
 obtain ⟨h1, h2⟩ := Bool.and_eq_true_iff.1 h
 rw [rng_0 (by omega), Bool.true_and]
 simp only [metLk, Bool.and_eq_true, decide_eq_true_eq]
 exact ⟨h1, h2, by omega, by simp⟩
theorem s_f20 (e : Qaq) (i d : Int) (h : Qgf e i d = true) : r_f20 e i d = some (.tu [.t (.sl Qag) (methF e i d).1, .t tI (methF e i d).2], []) := by
 have hl : Qcs e = true := h
 simp only [r_f20, show Qgg e i = true from h, Qad, Int.toNat_zero, List.drop_zero, List.nil_append]
 unfold methF
 rcases QoF e i with ⟨h1, h0, h2, h3, h4⟩ | h1
 ·rw [h1, Qaf]
  cases dayF d with
  | false => rfl
  | true =>
   have h5 := Qox h2 h3 h4
   have h6 := Qu8 hl h5
   rw [Bool.not_true, Qaf, h5, Qad, h6, Qad, QLf h6, Qad]
   rfl
 ·rw [h1]
  rfl
def QTo : Ent := spec (.pr Qau (.pr tI (.pr tI .nil))) (fun x => (Qgf x.1 x.2.1 x.2.2.1)) (fun x => (.tu [(.t (.sl Qag) ((methF x.1 x.2.1 x.2.2.1).1)), (.t tI ((methF x.1 x.2.1 x.2.2.1).2))]))
theorem ms_f20 : Meets Tryz.prog 20 (strip QTo) := Qah (R := runF g_f20 QGp QUb false) (mG Tryz.func20 (by kernel_rfl) Tryz.ntmps20 (by kernel_rfl) gk_f20 lk_f20) fun x hok => (e_f20 x.1 x.2.1 x.2.2.1).trans (s_f20 x.1 x.2.1 x.2.2.1 hok)
end
end Go.Proofs.YtckcgijklnloiaaGreat.K
