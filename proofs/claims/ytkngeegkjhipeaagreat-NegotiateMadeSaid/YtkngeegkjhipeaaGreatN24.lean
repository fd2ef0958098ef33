import Derived.Test.YtkngeegkjhipeaaGreatN23
set_option linter.unusedSimpArgs false
set_option linter.unusedVariables false
namespace Go.Proofs.YtkngeegkjhipeaaGreat.K
open Go.RowKit
noncomputable section
def rowC (s : Qad) (o : List Int) (v : Int) (k : Nat) : List Keep := ((List.range' k (17 - k)).filter fun (j : Nat) => posE s o v (j : Int)).map fun (j : Nat) => (v, ((j : Int), ()))
theorem QFV {s : Qad} {o : List Int} {v : Int} {k : Nat} (hk : k < 17) : rowC s o v k = if posE s o v (k : Int) = true then (v, ((k : Int), ())) :: rowC s o v (k + 1) else rowC s o v (k + 1) := by
 have : 17 - k = (17 - (k + 1)) + 1 := by omega
 unfold rowC
 rw [this, List.range'_succ, List.filter_cons]
 split <;> rfl
theorem Qzh (s : Qad) (o : List Int) (v : Int) (k : Nat) : (rowC s o v k).length ≤ 17 - k := by
 unfold rowC
 rw [List.length_map]
 exact Nat.le_trans (List.length_filter_le _ _) (Nat.le_of_eq List.length_range')
def verC (s : Qad) (o : List Int) (v n : Nat) : List Keep := (List.range' v n).flatMap fun (j : Nat) => rowC s o (j : Int) 1
abbrev hiC (c s : Qad) : Int := imn c.2.2.1 s.2.2.1
abbrev loC (c s : Qad) : Int := imx c.2.1 s.2.1
def QbL (c s : Qad) : List Keep := bif !Qc5 c s then [] else verC s (Qan c) (loC c s).toNat (hiC c s + 1 - loC c s).toNat
def Qjy : Fg := ⟨[(2, none), (3, none), (5, none), (6, some tI), (7, some tI)], [(2, some Qae), (3, some Qae), (5, none), (45, none)]⟩
noncomputable def QlD : TC := (.sq (.sq (.reg (rT Tryz.f20 7)) (.cd (.t 31) .sk (.fg ⟨[(2, none), (3, none), (5, none), (6, some tI)], [(2, some Qae), (3, some Qae), (5, none), (45, none)]⟩ (.ex 2)))) (.sq (.bk 3 (.sq (.reg (rT Tryz.f20 8)) (.cd (.t 39) (.reg (rT Tryz.f20 9)) .sk))) (.reg (rT Tryz.f20 10))))
def Qjx : Fg := ⟨[(2, none), (3, none), (5, none), (6, some tI)], [(2, some Qae), (3, some Qae), (5, none), (45, none)]⟩
noncomputable def QlC : TC := (.sq (.sq (.reg (rT Tryz.f20 5)) (.cd (.t 27) .sk (.fg ⟨[(5, none)], [(5, none), (45, none)]⟩ (.ex 0)))) (.sq (.bk 1 (.sq (.reg (rT Tryz.f20 6)) (.bk 2 (.nw 5 36 (.lp 0 Qjy QlD))))) (.reg (rT Tryz.f20 11))))
noncomputable def QDH : TC := (.sq (.reg (rT Tryz.f20 0)) (.sq (.sq (.reg (rT Tryz.f20 1)) (.cd (.t 15) (.sq (.reg (rT Tryz.f20 2)) .rt) .sk)) (.sq (.reg (rT Tryz.f20 3)) (.sq (.sq (.reg (rT Tryz.f20 4)) (.bk 0 (.nw 5 36 (.lp 1 Qjx QlC)))) (.sq (.reg (rT Tryz.f20 12)) .rt)))))
def QQG : List (RV × Option Ty) := [((.t 4), some (.sl Qah))]
abbrev Qrp : Sh := ⟨[(2, .ptr 2 0), (3, .ptr 3 0), (5, .ms 5), (6, .ty tI), (7, .ty tI)], [(2, .box Qae), (3, .box Qae), (5, .arr 36 Qah), (45, .no)]⟩
def QlO (x6 x7 : Int) (y2 y3 : Qad) (y5 : List Keep) : VS := Qrp.st ((), (), (), x6, x7, ()) (y2, y3, y5, (), ())
abbrev QxB : Sh := ⟨[(2, .ptr 2 0), (3, .ptr 3 0), (5, .ms 5), (6, .ty tI)], [(2, .box Qae), (3, .box Qae), (5, .arr 36 Qah), (45, .no)]⟩
def Qe3 (x6 : Int) (y2 y3 : Qad) (y5 : List Keep) : VS := QxB.st ((), (), (), x6, ()) (y2, y3, y5, (), ())
abbrev Qro : Sh := ⟨[(2, .ptr 2 0), (3, .ptr 3 0), (5, .ms 5), (6, .ty tI)], [(2, .box Qae), (3, .box Qae), (5, .arr 36 Qah), (45, .no)]⟩
def QqN (x6 : Int) (y2 y3 : Qad) (y5 : List Keep) : VS := Qro.st ((), (), (), x6, ()) (y2, y3, y5, (), ())
abbrev QxA : Sh := ⟨[(5, .ms 5)], [(5, .arr 36 Qah), (45, .no)]⟩
def Qe2 (y5 : List Keep) : VS := QxA.st ((), ()) (y5, (), ())
def QWt : VS → Option (Bool × List (Bool × Exit × VS)) := mkL Qrp (fun x y => (decide (1 ≤ x.2.2.2.2.1 ∧ x.2.2.2.2.1 ≤ 17 ∧ (y.2.2.1.length : Int) ≤ 200 + x.2.2.2.2.1) && lenEE y.2.1 (Qan y.1))) (fun x y => [(true, .exit 2, Qe3 (x.2.2.2.1) (y.1) (y.2.1) (y.2.2.1 ++ rowC y.2.1 (Qan y.1) x.2.2.2.1 x.2.2.2.2.1.toNat))])
def QWs : VS → Option (Bool × List (Bool × Exit × VS)) := mkL Qro (fun x y => (decide (1 ≤ x.2.2.2.1 ∧ x.2.2.2.1 ≤ 5 ∧ hiC y.1 y.2.1 ≤ 4 ∧ (y.2.2.1.length : Int) ≤ 16 * x.2.2.2.1) && lenEE y.2.1 (Qan y.1))) (fun x y => [(true, .exit 0, Qe2 (y.2.2.1 ++ verC y.2.1 (Qan y.1) x.2.2.2.1.toNat (hiC y.1 y.2.1 + 1 - x.2.2.2.1).toNat))])
def g_f20 : G := ⟨TYs, [], 47, EL [(43, Qy8), (44, QD5)], keeps, (Ls [QWt, QWs]), IL [], RL []⟩
def QKw (x6 x7 : Int) (y2 y3 : Qad) (y5 : List Keep) : Option (Exit × VS) := br (ile x7 16) (br (posOk y3 y2.2.2.2.1 x6 x7) (br (posE y3 y2.2.2.2.1 x6 x7) (br (cApp y5 ([(x6, (x7, ()))]) 16) (some (.normal, QlO x6 (iadd .i64 x7 1) y2 y3 (y5 ++ ([(x6, (x7, ()))])))) none) (some (.normal, QlO x6 (iadd .i64 x7 1) y2 y3 y5))) none) (some (.exit 2, Qe3 x6 y2 y3 y5))
noncomputable def Qio (x6 x7 : Int) (y2 y3 : Qad) (y5 : List Keep) : Option (Exit × VS) := loopF (Qaj g_f20 Qjy QlD) (QlO x6 x7 y2 y3 y5)
noncomputable def Qss (x6 x7 : Int) (y2 y3 : Qad) (y5 : List Keep) : Option (Exit × VS) := br (ile x7 16) (br (posOk y3 y2.2.2.2.1 x6 x7) (br (posE y3 y2.2.2.2.1 x6 x7) (br (cApp y5 ([(x6, (x7, ()))]) 16) (Qio x6 (iadd .i64 x7 1) y2 y3 (y5 ++ ([(x6, (x7, ()))]))) none) (Qio x6 (iadd .i64 x7 1) y2 y3 y5)) none) (some (.exit 2, Qe3 x6 y2 y3 y5))
def QmY (x6 x7 : Int) (y2 y3 : Qad) (y5 : List Keep) : Option (Exit × VS) := some (.exit 2, Qe3 (x6) (y2) (y3) (y5 ++ rowC y3 (Qan y2) x6 x7.toNat))
theorem QOi (x6 x7 : Int) (y2 y3 : Qad) (y5 : List Keep) : Qaj g_f20 Qjy QlD (QlO x6 x7 y2 y3 y5) = QKw x6 x7 y2 y3 y5 := by kernel_rfl
theorem Qz8 (x6 x7 : Int) (y2 y3 : Qad) (y5 : List Keep) : Qio x6 x7 y2 y3 y5 = Qss x6 x7 y2 y3 y5 := (Qap _ _).trans (by
 rw [QOi]
 simp only [QKw, Qss, QaB, nxt_n, nxt_r, nxt_e, nxt_0]
 rfl)
def QKv (x6 : Int) (y2 y3 : Qad) (y5 : List Keep) : Option (Exit × VS) := br (ile x6 (imn y2.2.2.1 y3.2.2.1)) (br (decide (1 ≤ (1 : Int) ∧ (1 : Int) ≤ 17 ∧ (y5.length : Int) ≤ 200 + (1 : Int)) && lenEE y3 (Qan y2)) (some (.normal, QqN (iadd .i64 (x6) 1) (y2) (y3) (y5 ++ rowC y3 (Qan y2) x6 (1 : Int).toNat))) none) (some (.exit 0, Qe2 y5))
noncomputable def Qmv (x6 : Int) (y2 y3 : Qad) (y5 : List Keep) : Option (Exit × VS) := loopF (Qaj g_f20 Qjx QlC) (QqN x6 y2 y3 y5)
noncomputable def QoE (x6 : Int) (y2 y3 : Qad) (y5 : List Keep) : Option (Exit × VS) := br (ile x6 (imn y2.2.2.1 y3.2.2.1)) (br (decide (1 ≤ (1 : Int) ∧ (1 : Int) ≤ 17 ∧ (y5.length : Int) ≤ 200 + (1 : Int)) && lenEE y3 (Qan y2)) (Qmv (iadd .i64 (x6) 1) (y2) (y3) (y5 ++ rowC y3 (Qan y2) x6 (1 : Int).toNat)) none) (some (.exit 0, Qe2 y5))
def QiI (x6 : Int) (y2 y3 : Qad) (y5 : List Keep) : Option (Exit × VS) := some (.exit 0, Qe2 (y5 ++ verC y3 (Qan y2) x6.toNat (hiC y2 y3 + 1 - x6).toNat))
theorem QOh (x6 : Int) (y2 y3 : Qad) (y5 : List Keep) : Qaj g_f20 Qjx QlC (QqN x6 y2 y3 y5) = QKv x6 y2 y3 y5 := by kernel_rfl
theorem Qz7 (x6 : Int) (y2 y3 : Qad) (y5 : List Keep) : Qmv x6 y2 y3 y5 = QoE x6 y2 y3 y5 := (Qap _ _).trans (by
 rw [QOh]
 simp only [QKv, QoE, QaB, nxt_n, nxt_r, nxt_e, nxt_0]
 rfl)
def r_f20 (p0 p1 : Qad) : Option (V × List VO) :=
 let a1 := imx p0.2.1 p1.2.1
 br (QaS p0) (br (ine (QbZ p0) 0) (some (.t (.sl Qah) ([] : List Keep), [])) (br (QaS p1) (br (ine (QbZ p1) 0) (some (.t (.sl Qah) ([] : List Keep), [])) (br (decide (1 ≤ a1 ∧ a1 ≤ 5 ∧ hiC p0 p1 ≤ 4 ∧ (([] : List Keep).length : Int) ≤ 16 * a1) && lenEE p1 (Qan p0)) (some (.t (.sl Qah) (([] : List Keep) ++ verC p1 (Qan p0) a1.toNat (hiC p0 p1 + 1 - a1).toNat), [])) none)) none)) none
theorem e_f20 (p0 p1 : Qad) : runF g_f20 QDH QQG false [.t Qae p0, .t Qae p1] [] = r_f20 p0 p1 := by kernel_rfl
theorem en_f20 : Qai Tryz.prog 20 := .inr ⟨by decide, _, Tryz.func20, by kernel_rfl, by kernel_rfl⟩
theorem gk_f20 : GOk Tryz.prog g_f20 := Qal _ (gA (gC QIV QHe (gC QRu QQ8 gN)))
theorem QUd (x6 x7 : Int) (y2 y3 : Qad) (y5 : List Keep) (h : (decide (1 ≤ x7 ∧ x7 ≤ 17 ∧ (y5.length : Int) ≤ 200 + x7) && lenEE y3 (Qan y2)) = true) : Qio x6 x7 y2 y3 y5 = QmY x6 x7 y2 y3 y5 := by
 obtain ⟨h, hc⟩ := Bool.and_eq_true_iff.1 h
 obtain ⟨h0, h1, h2⟩ := of_decide_eq_true h
 clear h
 obtain ⟨k, rfl⟩ := Int.eq_ofNat_of_zero_le (show 0 ≤ x7 by omega)
 obtain ⟨m, hm⟩ : ∃ m, m = 17 - k := ⟨_, rfl⟩
 have key : ∀ (m k : Nat) (y5 : List Keep), m = 17 - k → k ≤ 17 → y5.length ≤ 200 + k → Qio x6 (k : Int) y2 y3 y5 = QmY x6 (k : Int) y2 y3 y5 := by
  intro m
  induction m with
  | zero =>
   intro k y5 hm h1 h2
   have : k = 17 := by omega
   subst this
   rw [Qz8]
   simp only [Qss, QmY, show ile ((17 : Nat) : Int) 16 = false from rfl, Qaf, Int.toNat_natCast, rowC, Nat.sub_self, List.range'_zero, List.filter_nil, List.map_nil, List.append_nil]
  | succ m ih =>
   intro k y5 hm h1 h2
   rw [Qz8]
   have c1 : ∀ v w, posOk y3 (Qan y2) v w = true := fun _ _ => hc
   have c2 : ∀ v : Keep, cApp y5 [v] 16 = true := fun v => cAppN (by omega) (by simp only [List.length_singleton]; omega)
   simp only [Qss, show ile (k : Int) 16 = true from decide_eq_true (by omega), Qac, c1, c2, add1 (show k < 4611686018427387904 by omega)]
   rw [ih (k + 1) y5 (by omega) (by omega) (by omega), ih (k + 1) (y5 ++ [(x6, ((k : Int), ()))]) (by omega) (by omega) (by simp only [List.length_append, List.length_singleton]; omega)]
   simp only [QmY, Int.toNat_natCast, QFV (show k < 17 by omega)]
   cases posE y3 (Qan y2) x6 (k : Int) with
   | true => simp only [Qac, if_true, List.append_assoc, List.singleton_append]
   | false => simp only [Qaf, Bool.false_eq_true, if_false]
 exact key m k y5 hm (by omega) (by omega)
theorem QUc (x6 : Int) (y2 y3 : Qad) (y5 : List Keep) (h : (decide (1 ≤ x6 ∧ x6 ≤ 5 ∧ hiC y2 y3 ≤ 4 ∧ (y5.length : Int) ≤ 16 * x6) && lenEE y3 (Qan y2)) = true) : Qmv x6 y2 y3 y5 = QiI x6 y2 y3 y5 := by
 obtain ⟨h, hc⟩ := Bool.and_eq_true_iff.1 h
 obtain ⟨h0, h1, h2, h3⟩ := of_decide_eq_true h
 clear h
 obtain ⟨k, rfl⟩ := Int.eq_ofNat_of_zero_le (show 0 ≤ x6 by omega)
 have key : ∀ (m k : Nat) (y5 : List Keep), m = 5 - k → 1 ≤ k → k ≤ 5 → y5.length ≤ 16 * k → Qmv (k : Int) y2 y3 y5 = QiI (k : Int) y2 y3 y5 := by
  intro m
  induction m with
  | zero =>
   intro k y5 hm h0 h1 h3
   have : k = 5 := by omega
   subst this
   rw [Qz7]
   have e : (hiC y2 y3 + 1 - ((5 : Nat) : Int)).toNat = 0 := by omega
   simp only [QoE, QiI, show ile ((5 : Nat) : Int) (imn y2.2.2.1 y3.2.2.1) = false from decide_eq_false (by show ¬ _ ≤ hiC y2 y3; omega), Qaf, e, verC, List.range'_zero, List.flatMap_nil, List.append_nil]
  | succ m ih =>
   intro k y5 hm h0 h1 h3
   rw [Qz7]
   by_cases hk : (k : Int) ≤ hiC y2 y3
   ·have e1 : (hiC y2 y3 + 1 - (k : Int)).toNat = (hiC y2 y3 + 1 - ((k + 1 : Nat) : Int)).toNat + 1 := by omega
    have c0 : (decide ((1 : Int) ≤ 1 ∧ (1 : Int) ≤ 17 ∧ (y5.length : Int) ≤ 200 + 1) && lenEE y3 (Qan y2)) = true := Bool.and_eq_true_iff.2 ⟨decide_eq_true (by omega), hc⟩
    have hr := Qzh y3 (Qan y2) (k : Int) 1
    have hi := ih (k + 1) (y5 ++ rowC y3 (Qan y2) (k : Int) 1) (by omega) (by omega) (by omega) (by simp only [List.length_append]; omega)
    simp only [QoE, show ile (k : Int) (imn y2.2.2.1 y3.2.2.1) = true from decide_eq_true hk, Qac, add1 (show k < 4611686018427387904 by omega)]
    refine Eq.trans (congrArg (fun b => br b _ _) c0) ?_
    rw [Qac]
    refine Eq.trans hi ?_
    simp only [QiI, Int.toNat_natCast, e1, verC, List.range'_succ, List.flatMap_cons, List.append_assoc]
   ·have e1 : (hiC y2 y3 + 1 - (k : Int)).toNat = 0 := by omega
    simp only [QoE, show ile (k : Int) (imn y2.2.2.1 y3.2.2.1) = false from decide_eq_false hk, Qaf, QiI, e1, verC, List.range'_zero, List.flatMap_nil, List.append_nil]
 exact key (5 - k) k y5 rfl (by omega) (by omega) (by omega)
theorem QL4 : ∀ S l p, g_f20.L 0 (fgt Qjy S) = some (true, l) → pickA l = some p → loopF (Qaj g_f20 Qjy QlD) S = some p :=
 QaD (s := Qrp) ⟨by decide, by decide⟩ (by kernel_rfl) fun x y hok p hp => by
 simp only [Qar, Qao] at hp
 exact (QUd x.2.2.2.1 x.2.2.2.2.1 y.1 y.2.1 y.2.2.1 (by simpa using hok)).trans hp
theorem QL3 : ∀ S l p, g_f20.L 1 (fgt Qjx S) = some (true, l) → pickA l = some p → loopF (Qaj g_f20 Qjx QlC) S = some p :=
 QaD (s := Qro) ⟨by decide, by decide⟩ (by kernel_rfl) fun x y hok p hp => by
 simp only [Qar, Qao] at hp
 exact (QUc x.2.2.2.1 y.1 y.2.1 y.2.2.1 (by simpa using hok)).trans hp
theorem lk_f20 : QDH.lok g_f20 := by
 repeat (first | exact trivial | exact QL4 | exact QL3 | refine ⟨?_, ?_⟩)
theorem s_f20 (c s : Qad) (h : Qa8 c s = true) : r_f20 c s = some (.t (.sl Qah) (QbL c s), []) := by
 obtain ⟨hc, hs⟩ := Bool.and_eq_true_iff.1 h
 have hs' := Qa2 hs
 have hc' := Qa2 hc
 simp only [r_f20, hc, hs, Qac, QjI]
 unfold QbL Qc5
 cases hv : QaJ c with
 | false => rfl
 | true =>
  cases hw : QaJ s with
  | false => rfl
  | true =>
   have v1 := Qcg hv
   have v2 := Qcg hw
   have b1 : 1 ≤ loC c s ∧ loC c s ≤ 4 := by simp only [loC, imx]; omega
   have b2 : hiC c s ≤ 4 := by simp only [hiC, imn]; omega
   have c0 : (decide (1 ≤ loC c s ∧ loC c s ≤ 5 ∧ hiC c s ≤ 4 ∧ (([] : List Keep).length : Int) ≤ 16 * loC c s) && lenEE s (Qan c)) = true := Bool.and_eq_true_iff.2 ⟨decide_eq_true ⟨b1.1, by omega, b2, by simp only [List.length_nil]; omega⟩, decide_eq_true ⟨hs'.2.2.1, hs'.2.1, hc'.2.1⟩⟩
   rw [Bool.not_true, Qaf, Qaf]
   refine Eq.trans (congrArg (fun b => br b _ _) c0) ?_
   rfl
def QPx : Ent := spec (.pr Qae (.pr Qae .nil)) (fun x => (Qa8 x.1 x.2.1)) (fun x => (.t (.sl Qah) (QbL x.1 x.2.1)))
theorem ms_f20 : Meets Tryz.prog 20 (strip QPx) := Qag (R := runF g_f20 QDH QQG false) (mG Tryz.func20 (by kernel_rfl) Tryz.ntmps20 (by kernel_rfl) gk_f20 lk_f20) fun x hok => (e_f20 x.1 x.2.1).trans (s_f20 x.1 x.2.1 hok)
end
end Go.Proofs.YtkngeegkjhipeaaGreat.K
