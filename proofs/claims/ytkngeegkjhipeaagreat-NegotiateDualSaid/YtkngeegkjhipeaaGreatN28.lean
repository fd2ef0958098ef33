import Derived.Test.YtkngeegkjhipeaaGreatN27
set_option linter.unusedSimpArgs false
set_option linter.unusedVariables false
namespace Go.Proofs.YtkngeegkjhipeaaGreat.K
open Go.RowKit
noncomputable section
def rowT (t : Talk) (v : Int) (l : List Int) : List Keep := (l.filter fun j => possF t j).map fun j => (v, (j, ()))
theorem QCg {t : Talk} {v x : Int} {r : List Int} : rowT t v (x :: r) = if possF t x = true then (v, (x, ())) :: rowT t v r else rowT t v r := by
 unfold rowT
 rw [List.filter_cons]
 split <;> rfl
theorem QHv (t : Talk) (v : Int) (l : List Int) : (rowT t v l).length ≤ l.length := by
 unfold rowT
 rw [List.length_map]
 exact List.length_filter_le _ _
def verS (s : Qad) (o l : List Int) (v n : Nat) : List Keep := (List.range' v n).flatMap fun (j : Nat) => rowT (s, ((j : Int), (o, ()))) (j : Int) l
theorem QM4 {s : Qad} {o : List Int} {v n : Nat} (h : suitF o = true) : verS s o (sortI o) v n = verC s o v n := by
 unfold verS verC
 congr 1
 funext j
 exact QNh h
def QiH : Fg := ⟨[(2, none), (3, none), (5, none), (6, none), (7, some tI), (8, none), (38, none), (39, some tI), (40, some tI)], [(2, some Qai), (3, some Qai), (5, none), (8, some QdU), (18, none), (52, none), (5018, none), (10018, none), (15018, none)]⟩
noncomputable def Qkp : TC := (.sq (.reg (rT Tryz.f19 9)) (.sq (.cd (.t 41) .sk (.fg ⟨[(2, none), (3, none), (5, none), (6, none), (7, some tI)], [(2, some Qai), (3, some Qai), (5, none), (18, none), (52, none), (5018, none), (10018, none), (15018, none)]⟩ (.ex 2))) (.sq (.bk 3 (.sq (.reg (rT Tryz.f19 10)) (.sq (.reg (rT Tryz.f19 11)) (.cd (.t 46) (.reg (rT Tryz.f19 12)) .sk)))) (.reg (rT Tryz.f19 13)))))
def QiG : Fg := ⟨[(2, none), (3, none), (5, none), (6, none), (7, some tI)], [(2, some Qai), (3, some Qai), (5, none), (18, none), (52, none), (5018, none), (10018, none), (15018, none)]⟩
noncomputable def Qko : TC := (.sq (.sq (.reg (rT Tryz.f19 6)) (.cd (.t 30) .sk (.fg ⟨[(5, none)], [(5, none), (52, none)]⟩ (.ex 0)))) (.sq (.bk 1 (.sq (.reg (rT Tryz.f19 7)) (.sq (.reg (rT Tryz.f19 8)) (.bk 2 (.nw 5 36 (.lp 0 QiH Qkp)))))) (.reg (rT Tryz.f19 14))))
noncomputable def QAg : TC := (.sq (.reg (rT Tryz.f19 0)) (.sq (.sq (.reg (rT Tryz.f19 1)) (.cd (.t 14) (.sq (.reg (rT Tryz.f19 2)) .rt) .sk)) (.sq (.reg (rT Tryz.f19 3)) (.sq (.reg (rT Tryz.f19 4)) (.sq (.sq (.reg (rT Tryz.f19 5)) (.bk 0 (.nw 5 36 (.lp 1 QiG Qko)))) (.sq (.reg (rT Tryz.f19 15)) .rt))))))
def QMf : List (RV × Option Ty) := [((.t 4), some (.sl Qam))]
abbrev Qpi : Sh := ⟨[(2, .ptr 2 0), (3, .ptr 3 0), (5, .ms 5), (6, .ms 18), (7, .ty tI), (8, .ptr 8 0), (38, .ms 18), (39, .ty tI), (40, .ty tI)], [(2, .box Qai), (3, .box Qai), (5, .arr 36 Qam), (8, .box QdU), (18, .arr 3 tI), (52, .no), (5018, .no), (10018, .no), (15018, .no)]⟩
def Qku (x7 x39 x40 : Int) (y2 y3 : Qad) (y5 : List Keep) (y8 : Talk) (y18 : List Int) : VS := Qpi.st ((), (), (), (), x7, (), (), x39, x40, ()) (y2, y3, y5, y8, y18, (), (), (), (), ())
abbrev QuL : Sh := ⟨[(2, .ptr 2 0), (3, .ptr 3 0), (5, .ms 5), (6, .ms 18), (7, .ty tI)], [(2, .box Qai), (3, .box Qai), (5, .arr 36 Qam), (18, .arr 3 tI), (52, .no), (5018, .no), (10018, .no), (15018, .no)]⟩
def Qev (x7 : Int) (y2 y3 : Qad) (y5 : List Keep) (y18 : List Int) : VS := QuL.st ((), (), (), (), x7, ()) (y2, y3, y5, y18, (), (), (), (), ())
abbrev Qph : Sh := ⟨[(2, .ptr 2 0), (3, .ptr 3 0), (5, .ms 5), (6, .ms 18), (7, .ty tI)], [(2, .box Qai), (3, .box Qai), (5, .arr 36 Qam), (18, .arr 3 tI), (52, .no), (5018, .no), (10018, .no), (15018, .no)]⟩
def QoS (x7 : Int) (y2 y3 : Qad) (y5 : List Keep) (y18 : List Int) : VS := Qph.st ((), (), (), (), x7, ()) (y2, y3, y5, y18, (), (), (), (), ())
abbrev QuK : Sh := ⟨[(5, .ms 5)], [(5, .arr 36 Qam), (52, .no)]⟩
def Qeu (y5 : List Keep) : VS := QuK.st ((), ()) (y5, (), ())
def QRx : VS → Option (Bool × List (Bool × Exit × VS)) := mkL Qpi (fun x y => (decide (x.2.2.2.2.2.2.2.1 = (y.2.2.2.2.1.length : Int) ∧ 0 ≤ x.2.2.2.2.2.2.2.2.1 ∧ x.2.2.2.2.2.2.2.2.1 ≤ x.2.2.2.2.2.2.2.1 ∧ y.2.2.2.2.1.length ≤ 16 ∧ (y.2.2.1.length : Int) ≤ 200 + x.2.2.2.2.2.2.2.2.1) && Qdy y.2.2.2.1 0)) (fun x y => [(true, .exit 2, Qev (x.2.2.2.2.1) (y.1) (y.2.1) (y.2.2.1 ++ rowT y.2.2.2.1 x.2.2.2.2.1 (y.2.2.2.2.1.drop x.2.2.2.2.2.2.2.2.1.toNat)) (y.2.2.2.2.1))])
def QRw : VS → Option (Bool × List (Bool × Exit × VS)) := mkL Qph (fun x y => (decide (1 ≤ x.2.2.2.2.1 ∧ x.2.2.2.2.1 ≤ 5 ∧ hiC y.1 y.2.1 ≤ 4 ∧ (y.2.2.1.length : Int) ≤ 16 * x.2.2.2.2.1 ∧ y.2.2.2.1.length ≤ 16) && lenEE y.2.1 (Qao y.1))) (fun x y => [(true, .exit 0, Qeu (y.2.2.1 ++ verS y.2.1 (Qao y.1) y.2.2.2.1 x.2.2.2.2.1.toNat (hiC y.1 y.2.1 + 1 - x.2.2.2.2.1).toNat))])
def g_f19 : G := ⟨TYs, [], 55, EL [(37, Qv6), (41, QAB), (46, Qq6), (47, QK4)], keeps, (Ls [QRx, QRw]), IL [], RL []⟩
def QGK (x7 x39 x40 : Int) (y2 y3 : Qad) (y5 : List Keep) (y8 : Talk) (y18 : List Int) : Option (Exit × VS) :=
 let a1 := lgt tI y18 (Int.toNat x40)
 br (ilt x40 x39) (br (cIx y18 x40) (br (cLd y18 (Int.toNat x40)) (br (Qdy y8 a1) (br (possF y8 a1) (br (cApp y5 ([(x7, (a1, ()))]) 16) (some (.normal, Qku x7 x39 (iadd .i64 x40 1) y2 y3 (y5 ++ ([(x7, (a1, ()))])) y8 y18)) none) (some (.normal, Qku x7 x39 (iadd .i64 x40 1) y2 y3 y5 y8 y18))) none) none) none) (some (.exit 2, Qev x7 y2 y3 y5 y18))
noncomputable def Qgg (x7 x39 x40 : Int) (y2 y3 : Qad) (y5 : List Keep) (y8 : Talk) (y18 : List Int) : Option (Exit × VS) := loopF (Qaj g_f19 QiH Qkp) (Qku x7 x39 x40 y2 y3 y5 y8 y18)
noncomputable def Qp8 (x7 x39 x40 : Int) (y2 y3 : Qad) (y5 : List Keep) (y8 : Talk) (y18 : List Int) : Option (Exit × VS) :=
 let a1 := lgt tI y18 (Int.toNat x40)
 br (ilt x40 x39) (br (cIx y18 x40) (br (cLd y18 (Int.toNat x40)) (br (Qdy y8 a1) (br (possF y8 a1) (br (cApp y5 ([(x7, (a1, ()))]) 16) (Qgg x7 x39 (iadd .i64 x40 1) y2 y3 (y5 ++ ([(x7, (a1, ()))])) y8 y18) none) (Qgg x7 x39 (iadd .i64 x40 1) y2 y3 y5 y8 y18)) none) none) none) (some (.exit 2, Qev x7 y2 y3 y5 y18))
def Qh3 (x7 x39 x40 : Int) (y2 y3 : Qad) (y5 : List Keep) (y8 : Talk) (y18 : List Int) : Option (Exit × VS) := some (.exit 2, Qev (x7) (y2) (y3) (y5 ++ rowT y8 x7 (y18.drop x40.toNat)) (y18))
theorem QJ6 (x7 x39 x40 : Int) (y2 y3 : Qad) (y5 : List Keep) (y8 : Talk) (y18 : List Int) : Qaj g_f19 QiH Qkp (Qku x7 x39 x40 y2 y3 y5 y8 y18) = QGK x7 x39 x40 y2 y3 y5 y8 y18 := by kernel_rfl
theorem QwR (x7 x39 x40 : Int) (y2 y3 : Qad) (y5 : List Keep) (y8 : Talk) (y18 : List Int) : Qgg x7 x39 x40 y2 y3 y5 y8 y18 = Qp8 x7 x39 x40 y2 y3 y5 y8 y18 := (Qaq _ _).trans (by
 rw [QJ6]
 simp only [QGK, Qp8, QaE, nxt_n, nxt_r, nxt_e, nxt_0]
 rfl)
def QGJ (x7 : Int) (y2 y3 : Qad) (y5 : List Keep) (y18 : List Int) : Option (Exit × VS) :=
 let a1 := ((y3.1, (y3.2.1, (y3.2.2.1, (y3.2.2.2.1, (y3.2.2.2.2.1, (y3.2.2.2.2.2.1, (y3.2.2.2.2.2.2.1, (y3.2.2.2.2.2.2.2.1, (y3.2.2.2.2.2.2.2.2.1, ()))))))))), (x7, (y2.2.2.2.1, ())))
 br (ile x7 (imn y2.2.2.1 y3.2.2.1)) (br (decide ((llen y18) = (y18.length : Int) ∧ 0 ≤ (0 : Int) ∧ (0 : Int) ≤ (llen y18) ∧ y18.length ≤ 16 ∧ (y5.length : Int) ≤ 200 + (0 : Int)) && Qdy a1 0) (some (.normal, QoS (iadd .i64 (x7) 1) (y2) (y3) (y5 ++ rowT a1 x7 (y18.drop (0 : Int).toNat)) (y18))) none) (some (.exit 0, Qeu y5))
noncomputable def Qk3 (x7 : Int) (y2 y3 : Qad) (y5 : List Keep) (y18 : List Int) : Option (Exit × VS) := loopF (Qaj g_f19 QiG Qko) (QoS x7 y2 y3 y5 y18)
noncomputable def QmY (x7 : Int) (y2 y3 : Qad) (y5 : List Keep) (y18 : List Int) : Option (Exit × VS) :=
 let a1 := ((y3.1, (y3.2.1, (y3.2.2.1, (y3.2.2.2.1, (y3.2.2.2.2.1, (y3.2.2.2.2.2.1, (y3.2.2.2.2.2.2.1, (y3.2.2.2.2.2.2.2.1, (y3.2.2.2.2.2.2.2.2.1, ()))))))))), (x7, (y2.2.2.2.1, ())))
 br (ile x7 (imn y2.2.2.1 y3.2.2.1)) (br (decide ((llen y18) = (y18.length : Int) ∧ 0 ≤ (0 : Int) ∧ (0 : Int) ≤ (llen y18) ∧ y18.length ≤ 16 ∧ (y5.length : Int) ≤ 200 + (0 : Int)) && Qdy a1 0) (Qk3 (iadd .i64 (x7) 1) (y2) (y3) (y5 ++ rowT a1 x7 (y18.drop (0 : Int).toNat)) (y18)) none) (some (.exit 0, Qeu y5))
def Qh2 (x7 : Int) (y2 y3 : Qad) (y5 : List Keep) (y18 : List Int) : Option (Exit × VS) := some (.exit 0, Qeu (y5 ++ verS y3 (Qao y2) y18 x7.toNat (hiC y2 y3 + 1 - x7).toNat))
theorem QJ5 (x7 : Int) (y2 y3 : Qad) (y5 : List Keep) (y18 : List Int) : Qaj g_f19 QiG Qko (QoS x7 y2 y3 y5 y18) = QGJ x7 y2 y3 y5 y18 := by kernel_rfl
theorem QwQ (x7 : Int) (y2 y3 : Qad) (y5 : List Keep) (y18 : List Int) : Qk3 x7 y2 y3 y5 y18 = QmY x7 y2 y3 y5 y18 := (Qaq _ _).trans (by
 rw [QJ5]
 simp only [QGJ, QmY, QaE, nxt_n, nxt_r, nxt_e, nxt_0]
 rfl)
def r_f19 (p0 p1 : Qad) : Option (V × List VO) :=
 let a1 := imx p0.2.1 p1.2.1
 br (Qcu p0 p1) (br (!(Qcx p0 p1)) (some (.t (.sl Qam) ([] : List Keep), [])) (br (Qe3 p0.2.2.2.1) (br (decide (1 ≤ a1 ∧ a1 ≤ 5 ∧ hiC p0 p1 ≤ 4 ∧ (([] : List Keep).length : Int) ≤ 16 * a1 ∧ (sortL p0.2.2.2.1).length ≤ 16) && lenEE p1 (Qao p0)) (some (.t (.sl Qam) (([] : List Keep) ++ verS p1 (Qao p0) (sortL p0.2.2.2.1) a1.toNat (hiC p0 p1 + 1 - a1).toNat), [])) none) none)) none
theorem e_f19 (p0 p1 : Qad) : runF g_f19 QAg QMf false [.t Qai p0, .t Qai p1] [] = r_f19 p0 p1 := by kernel_rfl
theorem en_f19 : Qag Tryz.prog 19 := .inr ⟨by decide, _, Tryz.func19, by kernel_rfl, by kernel_rfl⟩
theorem gk_f19 : GOk Tryz.prog g_f19 := Qan _ (gA (gC QFk QDD (gC QMV QME (gC QFi QDB (gC en_f47 ms_f47 gN)))))
theorem QPs (x7 x39 x40 : Int) (y2 y3 : Qad) (y5 : List Keep) (y8 : Talk) (y18 : List Int) (h : (decide (x39 = (y18.length : Int) ∧ 0 ≤ x40 ∧ x40 ≤ x39 ∧ y18.length ≤ 16 ∧ (y5.length : Int) ≤ 200 + x40) && Qdy y8 0) = true) : Qgg x7 x39 x40 y2 y3 y5 y8 y18 = Qh3 x7 x39 x40 y2 y3 y5 y8 y18 := by
 obtain ⟨h, hc⟩ := Bool.and_eq_true_iff.1 h
 obtain ⟨rfl, h1, h2, h3, h4⟩ := of_decide_eq_true h
 clear h
 obtain ⟨k, rfl⟩ := Int.eq_ofNat_of_zero_le h1
 have key : ∀ k, k ≤ y18.length → ∀ y5 : List Keep, y5.length ≤ 200 + k → Qgg x7 (y18.length : Int) (k : Int) y2 y3 y5 y8 y18 = Qh3 x7 (y18.length : Int) (k : Int) y2 y3 y5 y8 y18 := by
  refine Qav y18 (fun k => ∀ y5 : List Keep, y5.length ≤ 200 + k → Qgg x7 (y18.length : Int) (k : Int) y2 y3 y5 y8 y18 = Qh3 x7 (y18.length : Int) (k : Int) y2 y3 y5 y8 y18) ?_ ?_
  ·intro y5 _
   rw [QwR]
   simp only [Qp8, Qh3, Qaz, Nat.lt_irrefl, decide_false, Qae, Int.toNat_natCast, List.drop_length, rowT, List.filter_nil, List.map_nil, List.append_nil]
  ·intro k hk ih y5 hy
   rw [QwR]
   have c1 : cLd y18 k = true := decide_eq_true (by omega)
   have c2 : ∀ v, Qdy y8 v = true := fun v => hc
   have c3 : ∀ v : Keep, cApp y5 [v] 16 = true := fun v => cAppN (by omega) (by simp only [List.length_singleton]; omega)
   simp only [Qp8, Qaz, Qay, hk, decide_true, Qac, Int.toNat_natCast, add1 (show k < 4611686018427387904 by omega), QaG (y := tI) hk, c1, c2, c3]
   rw [ih y5 (by omega), ih (y5 ++ [(x7, (y18[k], ()))]) (by simp only [List.length_append, List.length_singleton]; omega)]
   simp only [Qh3, Int.toNat_natCast, List.drop_eq_getElem_cons hk, QCg]
   cases possF y8 y18[k] with
   | true => simp only [Qac, if_true, List.append_assoc, List.singleton_append]
   | false => simp only [Qae, Bool.false_eq_true, if_false]
 exact key k (by omega) y5 (by omega)
theorem QPr (x7 : Int) (y2 y3 : Qad) (y5 : List Keep) (y18 : List Int) (h : (decide (1 ≤ x7 ∧ x7 ≤ 5 ∧ hiC y2 y3 ≤ 4 ∧ (y5.length : Int) ≤ 16 * x7 ∧ y18.length ≤ 16) && lenEE y3 (Qao y2)) = true) : Qk3 x7 y2 y3 y5 y18 = Qh2 x7 y2 y3 y5 y18 := by
 obtain ⟨h, hc⟩ := Bool.and_eq_true_iff.1 h
 obtain ⟨h0, h1, h2, h3, h4⟩ := of_decide_eq_true h
 clear h
 obtain ⟨k, rfl⟩ := Int.eq_ofNat_of_zero_le (show 0 ≤ x7 by omega)
 have key : ∀ (m k : Nat) (y5 : List Keep), m = 5 - k → 1 ≤ k → k ≤ 5 → y5.length ≤ 16 * k → Qk3 (k : Int) y2 y3 y5 y18 = Qh2 (k : Int) y2 y3 y5 y18 := by
  intro m
  induction m with
  | zero =>
   intro k y5 hm h0 h1 h3
   have : k = 5 := by omega
   subst this
   rw [QwQ]
   have e : (hiC y2 y3 + 1 - ((5 : Nat) : Int)).toNat = 0 := by omega
   simp only [QmY, Qh2, show ile ((5 : Nat) : Int) (imn y2.2.2.1 y3.2.2.1) = false from decide_eq_false (by show ¬ _ ≤ hiC y2 y3; omega), Qae, e, verS, List.range'_zero, List.flatMap_nil, List.append_nil]
  | succ m ih =>
   intro k y5 hm h0 h1 h3
   rw [QwQ]
   by_cases hk : (k : Int) ≤ hiC y2 y3
   ·have e1 : (hiC y2 y3 + 1 - (k : Int)).toNat = (hiC y2 y3 + 1 - ((k + 1 : Nat) : Int)).toNat + 1 := by omega
    have c0 : (decide (True ∧ (0 : Int) ≤ 0 ∧ (0 : Int) ≤ llen y18 ∧ y18.length ≤ 16 ∧ (y5.length : Int) ≤ 200 + 0) && Qdy (y3, ((k : Int), (Qao y2, ()))) 0) = true := Bool.and_eq_true_iff.2 ⟨decide_eq_true ⟨trivial, by simp only [llen]; omega⟩, hc⟩
    have hr := QHv (y3, ((k : Int), (Qao y2, ()))) (k : Int) y18
    have hi := ih (k + 1) (y5 ++ rowT (y3, ((k : Int), (Qao y2, ()))) (k : Int) y18) (by omega) (by omega) (by omega) (by simp only [List.length_append]; omega)
    simp only [QmY, show ile (k : Int) (imn y2.2.2.1 y3.2.2.1) = true from decide_eq_true hk, Qac, add1 (show k < 4611686018427387904 by omega), eEta]
    refine Eq.trans (congrArg (fun b => br b _ _) c0) ?_
    rw [Qac]
    refine Eq.trans hi ?_
    simp only [Qh2, Int.toNat_natCast, e1, verS, List.range'_succ, List.flatMap_cons, List.append_assoc]
   ·have e1 : (hiC y2 y3 + 1 - (k : Int)).toNat = 0 := by omega
    simp only [QmY, show ile (k : Int) (imn y2.2.2.1 y3.2.2.1) = false from decide_eq_false hk, Qae, Qh2, e1, verS, List.range'_zero, List.flatMap_nil, List.append_nil]
 exact key (5 - k) k y5 rfl (by omega) (by omega) (by omega)
theorem QIb : ∀ S l p, g_f19.L 0 (fgt QiH S) = some (true, l) → pickA l = some p → loopF (Qaj g_f19 QiH Qkp) S = some p :=
 QaF (s := Qpi) ⟨by decide, by decide⟩ (by kernel_rfl) fun x y hok p hp => by
 simp only [Qas, Qap] at hp
 exact (QPs x.2.2.2.2.1 x.2.2.2.2.2.2.2.1 x.2.2.2.2.2.2.2.2.1 y.1 y.2.1 y.2.2.1 y.2.2.2.1 y.2.2.2.2.1 (by simpa using hok)).trans hp
theorem QIa : ∀ S l p, g_f19.L 1 (fgt QiG S) = some (true, l) → pickA l = some p → loopF (Qaj g_f19 QiG Qko) S = some p :=
 QaF (s := Qph) ⟨by decide, by decide⟩ (by kernel_rfl) fun x y hok p hp => by
 simp only [Qas, Qap] at hp
 exact (QPr x.2.2.2.2.1 y.1 y.2.1 y.2.2.1 y.2.2.2.1 (by simpa using hok)).trans hp
theorem lk_f19 : QAg.lok g_f19 := by
 repeat (first | exact trivial | exact QIb | exact QIa | refine ⟨?_, ?_⟩)
theorem s_f19 (c s : Qad) (h : Qcu c s = true) : r_f19 c s = some (.t (.sl Qam) (Qby c s), []) := by
 obtain ⟨hc, hs⟩ := Bool.and_eq_true_iff.1 h
 have hs' := Qbk hs
 have hc' := Qbk hc
 have c1 : Qe3 (Qao c) = true := decide_eq_true hc'.2.1
 simp only [r_f19, h, c1, Qac]
 unfold Qby
 cases hr : Qcx c s with
 | false => rfl
 | true =>
  obtain ⟨hv, hw⟩ := Bool.and_eq_true_iff.1 hr
  have v1 := QbG hv
  have v2 := QbG hw
  have hsu := Qyl hv
  have b1 : 1 ≤ loC c s ∧ loC c s ≤ 4 := by simp only [loC, imx]; omega
  have b2 : hiC c s ≤ 4 := by simp only [hiC, imn]; omega
  have b3 : (sortL (Qao c)).length ≤ 16 := by
   show (sortI (Qao c)).length ≤ 16
   rw [show (sortI (Qao c)).length = (Qao c).length from List.length_mergeSort _]
   exact QG6 hsu
  have c0 : (decide (1 ≤ loC c s ∧ loC c s ≤ 5 ∧ hiC c s ≤ 4 ∧ (([] : List Keep).length : Int) ≤ 16 * loC c s ∧ (sortL (Qao c)).length ≤ 16) && lenEE s (Qao c)) = true := Bool.and_eq_true_iff.2 ⟨decide_eq_true ⟨b1.1, by omega, b2, by simp only [List.length_nil]; omega, b3⟩, decide_eq_true ⟨hs'.2.2.1, hs'.2.1, hc'.2.1⟩⟩
  rw [Bool.not_true, Qae, cond_false]
  refine Eq.trans (congrArg (fun b => br b _ _) c0) ?_
  rw [Qac, ← QM4 hsu]
  rfl
def QLg : Ent := spec (.pr Qai (.pr Qai .nil)) (fun x => (Qcu x.1 x.2.1)) (fun x => (.t (.sl Qam) (Qby x.1 x.2.1)))
theorem ms_f19 : Meets Tryz.prog 19 (strip QLg) := Qaf (R := runF g_f19 QAg QMf false) (mG Tryz.func19 (by kernel_rfl) Tryz.ntmps19 (by kernel_rfl) gk_f19 lk_f19) fun x hok => (e_f19 x.1 x.2.1).trans (s_f19 x.1 x.2.1 hok)
end
end Go.Proofs.YtkngeegkjhipeaaGreat.K
