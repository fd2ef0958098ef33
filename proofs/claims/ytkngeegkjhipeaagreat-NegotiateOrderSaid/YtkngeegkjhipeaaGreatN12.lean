import Derived.Test.YtkngeegkjhipeaaGreatN11
import Derived.Test.YtkngeegkjhipeaaGreatKV
set_option linter.unusedSimpArgs false
set_option linter.unusedVariables false
namespace Go.Proofs.YtkngeegkjhipeaaGreat.K
open Go.RowKit
noncomputable section
theorem QnY {l : List Qaa} (h : QaJ l = true) {k : Nat} (hk : k < l.length) : QaA l[k] = true := by
 simp only [QaJ, Bool.and_eq_true, List.all_eq_true] at h
 exact h.2 _ (List.getElem_mem hk)
theorem QnX {l : List Qaa} (h : QaJ l = true) : l.length ≤ 100000 := by
 simp only [QaJ, Bool.and_eq_true, decide_eq_true_eq] at h
 exact h.1
abbrev cAt (l : List Qaa) (k : Nat) : Qaa := l.getD k zCert
theorem QRV {l : List Qaa} {k : Nat} (hk : k < l.length) : cAt l k = l[k] := by
 simp only [cAt, List.getD_eq_getElem?_getD, List.getElem?_eq_getElem hk, Option.getD_some]
theorem QGF {l : List Qaa} (h : QaJ l = true) {k : Nat} (hk : k < l.length) : QaA (cAt l k) = true := by
 rw [QRV hk]
 exact QnY h hk
def pathF (l : List Qaa) (i : Int) : Bool := !ilt i 0 && (!ige i (llen l) && (ieq i 0 || ((cAt l i.toNat).2.2.2.2.2.2.2.2.1 && ige (cAt l i.toNat).2.2.2.2.2.2.2.2.2.1 (i - 1))))
def Qm3 (l : List Qaa) (_i : Int) : Bool := decide (l.length ≤ 100000)
theorem QDT (l : List Qaa) (i : Int) (h : Qm3 l i = true) : br (ilt i 0) (some (V.t .bool false, ([] : List VO))) (br (ige i (llen l)) (some (V.t .bool false, [])) (br (ieq i 0) (some (V.t .bool true, [])) (br (cIx l i) (br (lgt Qab l (Int.toNat i)).2.2.2.2.2.2.2.2.1 (br (cIx l i) (some (V.t .bool (ige (lgt Qab l (Int.toNat i)).2.2.2.2.2.2.2.2.2.1 (isub .i64 i 1)), [])) none) (some (V.t .bool false, []))) none))) = some (V.t .bool (pathF l i), []) := by
 simp only [Qm3, decide_eq_true_eq] at h
 unfold pathF
 cases hi : ilt i 0 with
 | true => rfl
 | false =>
  have hn := of_decide_eq_false hi
  rw [Qae, Bool.not_false, Bool.true_and]
  cases h1 : ige i (llen l) with
  | true => rfl
  | false =>
   have h2 := of_decide_eq_false h1
   rw [Qae, Bool.not_false, Bool.true_and]
   cases h0 : ieq i 0 with
   | true => rfl
   | false =>
    have hl : llen l ≤ 100000 := by simp only [llen]; omega
    have hc : cIx l i = true := decide_eq_true ⟨by omega, by simp only [llen] at h2; omega⟩
    rw [Qae, Bool.false_or, hc, Qac, QbF (by omega)]
    exact brA rfl
noncomputable def Qz4 : TC := (.sq (.reg (rT Tryz.f93 0)) (.sq (.sq (.reg (rT Tryz.f93 1)) (.cd (.t 12) (.sq (.reg (rT Tryz.f93 2)) .rt) .sk)) (.sq (.reg (rT Tryz.f93 3)) .rt)))
def QL6 : List (RV × Option Ty) := [((.t 4), some .bool)]
def g_f93 : G := ⟨TYs, [], 32, EL [], keeps, (fun _ _ => none), IL [], RL []⟩
def r_f93 (p0 : List Qaa) (p1 : Int) : Option (V × List VO) :=
 let a1 := (((((((((lgt Qab p0 (Int.toNat p1)).2).2).2).2).2).2).2).2)
 br (ilt p1 0) (some (.t .bool false, [])) (br (ige p1 (llen p0)) (some (.t .bool false, [])) (br (ieq p1 0) (some (.t .bool true, [])) (br (cIx p0 p1) (br (a1.1) (br (cIx p0 p1) (some (.t .bool (ige ((a1.2).1) (isub .i64 p1 1)), [])) none) (some (.t .bool false, []))) none)))
theorem e_f93 (p0 : List Qaa) (p1 : Int) : runF g_f93 Qz4 QL6 false [.t (.sl Qab) p0, .t tI p1] [] = r_f93 p0 p1 := by kernel_rfl
theorem en_f93 : Qag Tryz.prog 93 := .inr ⟨by decide, _, Tryz.func93, by kernel_rfl, by kernel_rfl⟩
theorem gk_f93 : GOk Tryz.prog g_f93 := Qao _ (fun p hp => by cases hp)
theorem lk_f93 : Qz4.lok g_f93 := by repeat (first | exact trivial | refine ⟨?_, ?_⟩)
theorem s_f93 (l : List Qaa) (i : Int) (h : Qm3 l i = true) : r_f93 l i = some (.t .bool (pathF l i), []) := by
 simp only [r_f93]
 exact QDT l i h
def QLm : Ent := spec (.pr (.sl Qab) (.pr tI .nil)) (fun x => (Qm3 x.1 x.2.1)) (fun x => (.t .bool (pathF x.1 x.2.1)))
theorem ms_f93 : Meets Tryz.prog 93 (strip QLm) := Qaf (R := runF g_f93 Qz4 QL6 false) (mG Tryz.func93 (by kernel_rfl) Tryz.ntmps93 (by kernel_rfl) gk_f93 lk_f93) fun x hok => (e_f93 x.1 x.2.1).trans (s_f93 x.1 x.2.1 hok)
def QpL (l : List Qaa) (k : Nat) : Int := if k + 1 < l.length then (cAt l (k + 1)).2.2.2.2.1 else (cSeal (cAt l k)).1
def Qfk (l : List Qaa) (i : Int) : Int := QpL l i.toNat
def Qf9 (l : List Qaa) (i : Int) : Bool := decide (0 ≤ i ∧ i < l.length ∧ l.length ≤ 100000)
theorem add1N {k : Nat} (h : k < 4611686018427387904) : Int.toNat (iadd .i64 (k : Int) 1) = k + 1 := by rw [add1 h]; rfl
noncomputable def Qz2 : TC := (.sq (.reg (rT Tryz.f95 0)) (.sq (.sq (.reg (rT Tryz.f95 1)) (.cd (.t 9) (.sq (.reg (rT Tryz.f95 2)) .rt) .sk)) (.sq (.reg (rT Tryz.f95 3)) .rt)))
def QL4 : List (RV × Option Ty) := [((.t 4), some tI)]
def g_f95 : G := ⟨TYs, [], 22, EL [], keeps, (fun _ _ => none), IL [], RL []⟩
def r_f95 (p0 : List Qaa) (p1 : Int) : Option (V × List VO) :=
 let a1 := iadd .i64 p1 1
 br (ilt a1 (llen p0)) (br (cIx p0 a1) (some (.t tI ((((((lgt Qab p0 (Int.toNat a1)).2).2).2).2).1), [])) none) (br (cIx p0 p1) (some (.t tI ((((((((((((((lgt Qab p0 (Int.toNat p1)).2).2).2).2).2).2).2).2).2).2).2).1).1), [])) none)
theorem e_f95 (p0 : List Qaa) (p1 : Int) : runF g_f95 Qz2 QL4 false [.t (.sl Qab) p0, .t tI p1] [] = r_f95 p0 p1 := by kernel_rfl
theorem en_f95 : Qag Tryz.prog 95 := .inr ⟨by decide, _, Tryz.func95, by kernel_rfl, by kernel_rfl⟩
theorem gk_f95 : GOk Tryz.prog g_f95 := Qao _ (fun p hp => by cases hp)
theorem lk_f95 : Qz2.lok g_f95 := by repeat (first | exact trivial | refine ⟨?_, ?_⟩)
theorem s_f95 (l : List Qaa) (i : Int) (h : Qf9 l i = true) : r_f95 l i = some (.t tI (Qfk l i), []) := by
 simp only [Qf9, decide_eq_true_eq] at h
 obtain ⟨h1, h2, h3⟩ := h
 obtain ⟨k, rfl⟩ := Int.eq_ofNat_of_zero_le h1
 simp only [r_f95, add1N (show k < 4611686018427387904 by omega), add1 (show k < 4611686018427387904 by omega), Qay, Int.toNat_natCast]
 unfold Qfk QpL
 rw [Int.toNat_natCast]
 by_cases hk : k + 1 < l.length
 ·rw [show ilt ((k + 1 : Nat) : Int) (llen l) = true from decide_eq_true (by simp only [llen]; omega), Qac, decide_eq_true hk, Qac, if_pos hk]
 ·rw [show ilt ((k + 1 : Nat) : Int) (llen l) = false from decide_eq_false (by simp only [llen]; omega), Qae, decide_eq_true (show k < l.length by omega), Qac, if_neg hk]
def QLk : Ent := spec (.pr (.sl Qab) (.pr tI .nil)) (fun x => (Qf9 x.1 x.2.1)) (fun x => (.t tI (Qfk x.1 x.2.1)))
theorem ms_f95 : Meets Tryz.prog 95 (strip QLk) := Qaf (R := runF g_f95 Qz2 QL4 false) (mG Tryz.func95 (by kernel_rfl) Tryz.ntmps95 (by kernel_rfl) gk_f95 lk_f95) fun x hok => (e_f95 x.1 x.2.1).trans (s_f95 x.1 x.2.1 hok)
def Qv9 (l : List Qaa) (e : Int) (k : Nat) : Bool :=
 bif ieq e 11 then decide (k + 1 < l.length) && sne (cAt l k).2.1 (cAt l (k + 1)).2.2.1
 else bif ieq e 15 then !pathF l k else !Qjd (cAt l k) (QpL l k)
def QgA (l : List Qaa) (e : Int) (k : Nat) : Bool := (List.range' k (l.length - k)).any (Qv9 l e)
def Qc0 (l : List Qaa) (e : Int) : Bool := QgA l e 0
theorem Qzt (l : List Qaa) (e : Int) : QgA l e l.length = false := by
 unfold QgA
 rw [Nat.sub_self]
 rfl
theorem Qwa {l : List Qaa} {e : Int} {k : Nat} (hk : k < l.length) : QgA l e k = (Qv9 l e k || QgA l e (k + 1)) := by
 have : l.length - k = (l.length - (k + 1)) + 1 := by omega
 unfold QgA
 rw [this, List.range'_succ, List.any_cons]
def QnK (l : List Qaa) (_e : Int) : Bool := QaJ l
noncomputable def QJ4 : List DO := dT Tryz.f66 7
noncomputable def QJ3 : List DO := dT Tryz.f66 10
def QiA : Fg := ⟨[(0, some (.sl Qab)), (1, some tI), (8, some tI), (9, some tI)], []⟩
noncomputable def Qkj : TC := (.sq (.reg (rT Tryz.f66 2)) (.sq (.cd (.t 10) .sk (.fg ⟨[], []⟩ (.ex 0))) (.sq (.bk 1 (.sq (.reg (rT Tryz.f66 3)) (.sq (.reg (rT Tryz.f66 4)) (.sq (.sq (.reg (rT Tryz.f66 5)) (.bk 2 (.sq (.reg (rT Tryz.f66 6)) (.cd (.t 22) (.dr QJ4 [(0, []), (1, []), (2, []), (3, []), (4, []), (5, []), (6, []), (7, []), (8, []), (9, []), (10, []), (11, []), (12, []), (13, []), (14, []), (15, []), (16, []), (17, []), (18, []), (19, [])] (.of [0, 1, 2, 3, 4, 5, 6, 7, 8, 9, 10, 11, 12, 13, 14, 15, 16, 17, 18, 19])) (.sq (.reg (rT Tryz.f66 8)) (.cd (.t 43) (.reg (rT Tryz.f66 9)) (.dr QJ3 [(0, []), (1, []), (2, []), (3, []), (4, []), (5, []), (6, []), (7, []), (8, []), (9, [])] (.of [0, 1, 2, 3, 4, 5, 6, 7, 8, 9])))))))) (.sq (.reg (rT Tryz.f66 11)) (.cd (.t 49) (.sq (.reg (rT Tryz.f66 12)) (.fg ⟨[(4, some .bool)], []⟩ .rt)) .sk)))))) (.reg (rT Tryz.f66 13)))))
noncomputable def QAl : TC := (.sq (.reg (rT Tryz.f66 0)) (.sq (.sq (.reg (rT Tryz.f66 1)) (.bk 0 (.lp 0 QiA Qkj))) (.sq (.reg (rT Tryz.f66 14)) .rt)))
def QMn : List (RV × Option Ty) := [((.t 4), some .bool)]
abbrev Qpp : Sh := ⟨[(0, .ty (.sl Qab)), (1, .ty tI), (8, .ty tI), (9, .ty tI)], []⟩
def QfW (x0 : List Qaa) (x1 x8 x9 : Int) : VS := Qpp.st (x0, x1, x8, x9, ()) ()
abbrev QrB : Sh := ⟨[(4, .ty .bool)], []⟩
def Qa4 (x4 : Bool) : VS := QrB.st (x4, ()) ()
abbrev Qu1 : Sh := ⟨[], []⟩
def Qek  : VS := Qu1.st () ()
def QSd : VS → Option (Bool × List (Bool × Exit × VS)) := mkL Qpp (fun x y => (decide (x.2.2.1 = x.1.length ∧ 0 ≤ x.2.2.2.1 ∧ x.2.2.2.1 ≤ x.2.2.1) && QaJ x.1)) (fun x y => [((QgA x.1 x.2.1 x.2.2.2.1.toNat), .ret, Qa4 (true)), (true, .exit 0, Qek)])
def g_f66 : G := ⟨TYs, [], 51, EL [(93, QLm), (94, QLl), (95, QLk)], keeps, (Ls [QSd]), IL [], RL []⟩
def QHh (x0 : List Qaa) (x1 x8 x9 : Int) : Option (Exit × VS) :=
 let a1 := iadd .i64 x9 1
 let a2 := lgt Qab x0 (Int.toNat x9)
 br (ilt x9 x8) (br (ieq x1 11) (br (ilt a1 (llen x0)) (br (cIx x0 x9) (br (cIx x0 a1) (br (sne ((a2.2).1) ((((lgt Qab x0 (Int.toNat a1)).2).2).1)) (some (.ret, Qa4 true)) (some (.normal, QfW x0 x1 x8 a1))) none) none) (some (.normal, QfW x0 x1 x8 a1))) (br (ieq x1 15) (br (Qm3 x0 x9) (br (!(pathF x0 x9)) (some (.ret, Qa4 true)) (some (.normal, QfW x0 x1 x8 a1))) none) (br (cIx x0 x9) (br (Qf9 x0 x9) (br (Qbx a2 (Qfk x0 x9)) (br (!(Qjd a2 (Qfk x0 x9))) (some (.ret, Qa4 true)) (some (.normal, QfW x0 x1 x8 a1))) none) none) none))) (some (.exit 0, Qek))
noncomputable def QeH (x0 : List Qaa) (x1 x8 x9 : Int) : Option (Exit × VS) := loopF (Qaj g_f66 QiA Qkj) (QfW x0 x1 x8 x9)
noncomputable def Qqj (x0 : List Qaa) (x1 x8 x9 : Int) : Option (Exit × VS) :=
 let a1 := iadd .i64 x9 1
 let a2 := lgt Qab x0 (Int.toNat x9)
 br (ilt x9 x8) (br (ieq x1 11) (br (ilt a1 (llen x0)) (br (cIx x0 x9) (br (cIx x0 a1) (br (sne ((a2.2).1) ((((lgt Qab x0 (Int.toNat a1)).2).2).1)) (some (.ret, Qa4 true)) (QeH x0 x1 x8 a1)) none) none) (QeH x0 x1 x8 a1)) (br (ieq x1 15) (br (Qm3 x0 x9) (br (!(pathF x0 x9)) (some (.ret, Qa4 true)) (QeH x0 x1 x8 a1)) none) (br (cIx x0 x9) (br (Qf9 x0 x9) (br (Qbx a2 (Qfk x0 x9)) (br (!(Qjd a2 (Qfk x0 x9))) (some (.ret, Qa4 true)) (QeH x0 x1 x8 a1)) none) none) none))) (some (.exit 0, Qek))
def Qli (x0 : List Qaa) (x1 x8 x9 : Int) : Option (Exit × VS) := br (QgA x0 x1 x9.toNat) (some (.ret, Qa4 (true))) <| some (.exit 0, Qek)
theorem QKA (x0 : List Qaa) (x1 x8 x9 : Int) : Qaj g_f66 QiA Qkj (QfW x0 x1 x8 x9) = QHh x0 x1 x8 x9 := by kernel_rfl
theorem Qxh (x0 : List Qaa) (x1 x8 x9 : Int) : QeH x0 x1 x8 x9 = Qqj x0 x1 x8 x9 := (Qaq _ _).trans (by
 rw [QKA]
 simp only [QHh, Qqj, QaE, nxt_n, nxt_r, nxt_e, nxt_0]
 rfl)
def r_f66 (p0 : List Qaa) (p1 : Int) : Option (V × List VO) := br (decide ((llen p0) = p0.length ∧ 0 ≤ (0 : Int) ∧ (0 : Int) ≤ (llen p0)) && QaJ p0) (br (QgA p0 p1 (0 : Int).toNat) (some (.t .bool (true), [])) (some (.t .bool false, []))) none
theorem e_f66 (p0 : List Qaa) (p1 : Int) : runF g_f66 QAl QMn false [.t (.sl Qab) p0, .t tI p1] [] = r_f66 p0 p1 := by kernel_rfl
theorem en_f66 : Qag Tryz.prog 66 := .inr ⟨by decide, _, Tryz.func66, by kernel_rfl, by kernel_rfl⟩
theorem gk_f66 : GOk Tryz.prog g_f66 := Qao _ (gA (gC en_f93 ms_f93 (gC en_f94 ms_f94 (gC en_f95 ms_f95 gN))))
theorem QP5 (x0 : List Qaa) (x1 x8 x9 : Int) (h : (decide (x8 = x0.length ∧ 0 ≤ x9 ∧ x9 ≤ x8) && QaJ x0) = true) : QeH x0 x1 x8 x9 = Qli x0 x1 x8 x9 := by
 simp only [Bool.and_eq_true, decide_eq_true_eq] at h
 obtain ⟨⟨rfl, h0, h1⟩, hc⟩ := h
 obtain ⟨k, rfl⟩ := Int.eq_ofNat_of_zero_le h0
 have hl := QnX hc
 refine Qav x0 (fun k => QeH x0 x1 (x0.length : Int) (k : Int) = Qli x0 x1 (x0.length : Int) (k : Int)) ?_ ?_ k (by omega)
 ·rw [Qxh]
  simp only [Qqj, Qli, Qaz, Nat.lt_irrefl, decide_false, Qae, Int.toNat_natCast, Qzt]
 ·intro k hk ih
  rw [Qxh]
  have hx := QnY hc hk
  have hs : Qf9 x0 (k : Int) = true := decide_eq_true (by omega)
  have hp : Qm3 x0 (k : Int) = true := decide_eq_true hl
  simp only [Qqj, Qaz, Qay, hk, decide_true, Qac, Int.toNat_natCast, add1N (show k < 4611686018427387904 by omega), add1 (show k < 4611686018427387904 by omega), hs, hp, ih, show lgt Qab x0 k = cAt x0 k from rfl, show ∀ q, Qbx (cAt x0 k) q = true from fun q => QGF hc hk, Qfk]
  simp only [Qli, Int.toNat_natCast, Qwa hk, Qv9]
  cases h1 : ieq x1 11 with
  | true =>
   rw [Qac, cond_true]
   by_cases hk2 : k + 1 < x0.length
   ·rw [decide_eq_true hk2, Qac, Qac, Bool.true_and]
    show br (sne (cAt x0 k).2.1 (cAt x0 (k + 1)).2.2.1) _ _ = _
    cases sne (cAt x0 k).2.1 (cAt x0 (k + 1)).2.2.1 <;> rfl
   ·rw [decide_eq_false hk2, Qae, Bool.false_and, Bool.false_or]
  | false =>
   rw [Qae, cond_false]
   cases h2 : ieq x1 15 with
   | true =>
    rw [Qac, cond_true]
    cases pathF x0 (k : Int) <;> rfl
   | false =>
    rw [Qae, cond_false]
    cases Qjd (cAt x0 k) (QpL x0 k) <;> rfl
theorem QIH : ∀ S l p, g_f66.L 0 (fgt QiA S) = some (true, l) → pickA l = some p → loopF (Qaj g_f66 QiA Qkj) S = some p :=
 QaF (s := Qpp) ⟨by decide, by decide⟩ (by kernel_rfl) fun x y hok p hp => by
 simp only [Qar, Qap] at hp
 exact (QP5 x.1 x.2.1 x.2.2.1 x.2.2.2.1 (by simpa using hok)).trans hp
theorem lk_f66 : QAl.lok g_f66 := by
 repeat (first | exact trivial | exact QIH | refine ⟨?_, ?_⟩)
theorem s_f66 (l : List Qaa) (e : Int) (h : QnK l e = true) : r_f66 l e = some (.t .bool (Qc0 l e), []) := by
 have h : QaJ l = true := h
 simp only [r_f66, h, Bool.and_true, Int.toNat_zero]
 rw [decide_eq_true ⟨trivial, Int.le_refl 0, by simp only [llen]; omega⟩, Qac]
 unfold Qc0
 cases QgA l e 0 <;> rfl
def QLy : Ent := spec (.pr (.sl Qab) (.pr tI .nil)) (fun x => (QnK x.1 x.2.1)) (fun x => (.t .bool (Qc0 x.1 x.2.1)))
theorem ms_f66 : Meets Tryz.prog 66 (strip QLy) := Qaf (R := runF g_f66 QAl QMn false) (mG Tryz.func66 (by kernel_rfl) Tryz.ntmps66 (by kernel_rfl) gk_f66 lk_f66) fun x hok => (e_f66 x.1 x.2.1).trans (s_f66 x.1 x.2.1 hok)
def heldF (c : Qaa) (h : List Int) (d e : Int) : Bool := bif ieq e 13 then ilt d c.2.2.2.2.2.2.1 || ige d c.2.2.2.2.2.2.2.1 else !hasF h c.2.2.2.2.2.1.1
def QjO (_c : Qaa) (h : List Int) (_d _e : Int) : Bool := decide (h.length ≤ 100000)
noncomputable def QAm : TC := (.sq (.reg (rT Tryz.f65 0)) (.sq (.sq (.reg (rT Tryz.f65 1)) (.cd (.t 10) (.sq (.reg (rT Tryz.f65 2)) .rt) .sk)) (.sq (.reg (rT Tryz.f65 3)) .rt)))
def QMo : List (RV × Option Ty) := [((.t 8), some .bool)]
def g_f65 : G := ⟨TYs, [], 27, EL [(59, Qop)], keeps, (fun _ _ => none), IL [], RL []⟩
def r_f65 (p0 : Qaa) (p1 : List Int) (p2 p3 : Int) : Option (V × List VO) := br (ieq p3 13) (br (ilt p2 p0.2.2.2.2.2.2.1) (some (.t .bool true, [])) (some (.t .bool (ige p2 p0.2.2.2.2.2.2.2.1), []))) (br (QaW p1 p0.2.2.2.2.2.1.1) (some (.t .bool (!(hasF p1 p0.2.2.2.2.2.1.1)), [])) none)
theorem e_f65 (p0 : Qaa) (p1 : List Int) (p2 p3 : Int) : runF g_f65 QAm QMo false [.t Qab p0, .t (.sl tI) p1, .t tI p2, .t tI p3] [] = r_f65 p0 p1 p2 p3 := by kernel_rfl
theorem en_f65 : Qag Tryz.prog 65 := .inr ⟨by decide, _, Tryz.func65, by kernel_rfl, by kernel_rfl⟩
theorem gk_f65 : GOk Tryz.prog g_f65 := Qao _ (gA (gC Qtq QsF gN))
theorem lk_f65 : QAm.lok g_f65 := by repeat (first | exact trivial | refine ⟨?_, ?_⟩)
theorem s_f65 (c : Qaa) (h : List Int) (d e : Int) (hok : QjO c h d e = true) : r_f65 c h d e = some (.t .bool (heldF c h d e), []) := by
 simp only [r_f65, show ∀ v, QaW h v = true from fun _ => hok, Qac]
 unfold heldF
 cases ieq e 13 with
 | false => rfl
 | true =>
  rw [Qac, cond_true]
  cases ilt d c.2.2.2.2.2.2.1 <;> rfl
def QLz : Ent := spec (.pr Qab (.pr (.sl tI) (.pr tI (.pr tI .nil)))) (fun x => (QjO x.1 x.2.1 x.2.2.1 x.2.2.2.1)) (fun x => (.t .bool (heldF x.1 x.2.1 x.2.2.1 x.2.2.2.1)))
theorem ms_f65 : Meets Tryz.prog 65 (strip QLz) := Qaf (R := runF g_f65 QAm QMo false) (mG Tryz.func65 (by kernel_rfl) Tryz.ntmps65 (by kernel_rfl) gk_f65 lk_f65) fun x hok => (e_f65 x.1 x.2.1 x.2.2.1 x.2.2.2.1).trans (s_f65 x.1 x.2.1 x.2.2.1 x.2.2.2.1 hok)
def badC (c : Qaa) : Bool := !QaB c
noncomputable def QAq : TC := (.sq (.reg (rT Tryz.f61 0)) (.sq (.reg (rT Tryz.f61 1)) .rt))
def QMs : List (RV × Option Ty) := [((.t 2), some .bool)]
def g_f61 : G := ⟨TYs, [], 6, EL [(62, QBd)], keeps, (fun _ _ => none), IL [], RL []⟩
def r_f61 (p0 : Qaa) : Option (V × List VO) := br (QaA p0) (some (.t .bool (ine (Qd6 p0) 0), [])) none
theorem e_f61 (p0 : Qaa) : runF g_f61 QAq QMs false [.t Qab p0] [] = r_f61 p0 := by kernel_rfl
theorem en_f61 : Qag Tryz.prog 61 := .inr ⟨by decide, _, Tryz.func61, by kernel_rfl, by kernel_rfl⟩
theorem gk_f61 : GOk Tryz.prog g_f61 := Qao _ (gA (gC QND QNk gN))
theorem lk_f61 : QAq.lok g_f61 := by repeat (first | exact trivial | refine ⟨?_, ?_⟩)
theorem s_f61 (c : Qaa) (h : QaA c = true) : r_f61 c = some (.t .bool (badC c), []) := by
 simp only [r_f61, h, Qac, QfT]
 rfl
def QLC : Ent := spec (.pr Qab .nil) (fun x => (QaA x.1)) (fun x => (.t .bool (badC x.1)))
theorem ms_f61 : Meets Tryz.prog 61 (strip QLC) := Qaf (R := runF g_f61 QAq QMs false) (mG Tryz.func61 (by kernel_rfl) Tryz.ntmps61 (by kernel_rfl) gk_f61 lk_f61) fun x hok => (e_f61 x.1).trans (s_f61 x.1 hok)
def okBad (l : List Qaa) : Bool := QaJ l
theorem QDW {l : List Qaa} (h : okBad l = true) : l.length ≤ 100000 := QnX h
def ixBad (l : List Qaa) : Int := match fstG badC l with | some k => (k : Int) | none => -1
def QcX : Fg := ⟨[(0, some (.sl Qab)), (1, none), (7, some tI), (8, some tI)], []⟩
noncomputable def Qd9 : TC := (.sq (.reg (rT Tryz.f90 2)) (.sq (.cd (.t 9) .sk (.fg ⟨[], []⟩ (.ex 0))) (.sq (.bk 1 (.sq (.reg (rT Tryz.f90 3)) (.sq (.reg (rT Tryz.f90 4)) (.cd (.t 16) (.sq (.reg (rT Tryz.f90 5)) (.fg ⟨[(4, some tI)], []⟩ .rt)) .sk)))) (.reg (rT Tryz.f90 6)))))
noncomputable def QlK : TC := (.sq (.reg (rT Tryz.f90 0)) (.sq (.sq (.reg (rT Tryz.f90 1)) (.bk 0 (.lp 0 QcX Qd9))) (.sq (.reg (rT Tryz.f90 7)) .rt)))
def Qr4 : List (RV × Option Ty) := [((.t 4), some tI)]
abbrev QgK : Sh := ⟨[(0, .ty (.sl Qab)), (1, .cf 61), (7, .ty tI), (8, .ty tI)], []⟩
def QgF (x0 : List Qaa) (x7 x8 : Int) : VS := QgK.st (x0, (), x7, x8, ()) ()
abbrev Qmo : Sh := ⟨[(4, .ty tI)], []⟩
def QbS (x4 : Int) : VS := Qmo.st (x4, ()) ()
abbrev Qn9 : Sh := ⟨[], []⟩
def Qcf  : VS := Qn9.st () ()
def QzN : VS → Option (Bool × List (Bool × Exit × VS)) := mkL QgK (fun x y => (rngOk x.1 x.2.2.1 x.2.2.2.1 && okBad x.1)) (fun x y => [(((fstG badC (x.1.drop x.2.2.2.1.toNat)).isSome), .ret, QbS (x.2.2.2.1 + ((fstG badC (x.1.drop x.2.2.2.1.toNat)).getD 0 : Nat))), (true, .exit 0, Qcf)])
def QdG : G := ⟨TYs, [], 19, EL [(61, QLC)], keeps, (Ls [QzN]), IL [], RL []⟩
def QoJ (x0 : List Qaa) (x7 x8 : Int) : Option (Exit × VS) :=
 let a1 := lgt Qab x0 (Int.toNat x8)
 br (ilt x8 x7) (br (cIx x0 x8) (br (QaA a1) (br (badC a1) (some (.ret, QbS x8)) (some (.normal, QgF x0 x7 (iadd .i64 x8 1)))) none) none) (some (.exit 0, Qcf))
noncomputable def QeG (x0 : List Qaa) (x7 x8 : Int) : Option (Exit × VS) := loopF (Qaj QdG QcX Qd9) (QgF x0 x7 x8)
noncomputable def Qgb (x0 : List Qaa) (x7 x8 : Int) : Option (Exit × VS) :=
 let a1 := lgt Qab x0 (Int.toNat x8)
 br (ilt x8 x7) (br (cIx x0 x8) (br (QaA a1) (br (badC a1) (some (.ret, QbS x8)) (QeG x0 x7 (iadd .i64 x8 1))) none) none) (some (.exit 0, Qcf))
def QeM (x0 : List Qaa) (x7 x8 : Int) : Option (Exit × VS) :=
 let a1 := fstG badC (x0.drop x8.toNat)
 br (a1.isSome) (some (.ret, QbS (x8 + (a1.getD 0 : Nat)))) <| some (.exit 0, Qcf)
theorem Qws (x0 : List Qaa) (x7 x8 : Int) : Qaj QdG QcX Qd9 (QgF x0 x7 x8) = QoJ x0 x7 x8 := by kernel_rfl
theorem Qnn (x0 : List Qaa) (x7 x8 : Int) : QeG x0 x7 x8 = Qgb x0 x7 x8 := (Qaq _ _).trans (by
 rw [Qws]
 simp only [QoJ, Qgb, QaE, nxt_n, nxt_r, nxt_e, nxt_0]
 rfl)
def QpR (p0 : List Qaa) : Option (V × List VO) :=
 let a1 := (fstG badC (p0.drop (0 : Int).toNat))
 br (rngOk p0 (llen p0) (0 : Int) && okBad p0) (br (a1.isSome) (some (.t tI ((0 : Int) + (a1.getD 0 : Nat)), [])) (some (.t tI (-1), []))) none
theorem QJN (p0 : List Qaa) : runF QdG QlK Qr4 false [.t (.sl Qab) p0, .c (.func (.func 61) ⟨[]⟩ ⟨[]⟩)] [] = QpR p0 := by kernel_rfl
theorem QFP : Qag Tryz.prog 90 := .inr ⟨by decide, _, Tryz.func90, by kernel_rfl, by kernel_rfl⟩
theorem QFv : GOk Tryz.prog QdG := Qao _ (gA (gC en_f61 ms_f61 gN))
theorem Qzn (x0 : List Qaa) (x7 x8 : Int) (h : (rngOk x0 x7 x8 && okBad x0) = true) : QeG x0 x7 x8 = QeM x0 x7 x8 := by
 simp only [Bool.and_eq_true] at h
 obtain ⟨h0, hc⟩ := h
 obtain ⟨rfl, h3, k, rfl, hk⟩ := rng_k h0
 clear h0
 refine Qav x0 (fun k => QeG x0 (x0.length : Int) (k : Int) = QeM x0 (x0.length : Int) (k : Int)) ?_ ?_ k hk
 ·rw [Qnn]
  simp [Qgb, QeM, Qaz, Qae, fstG]
 ·intro k hk ih
  rw [Qnn]
  have hx := QnY hc hk
  simp only [Qgb, Qaz, Qay, hk, decide_true, Qac, Int.toNat_natCast, add1 (show k < 4611686018427387904 by omega), ih, QaG (y := Qab) hk, hx]
  simp only [QeM, Int.toNat_natCast, List.drop_eq_getElem_cons hk, fstG]
  cases h : (badC x0[k]) with
  | true => simp [Qac]
  | false =>
   simp only [Qae, Bool.false_eq_true, if_false]
   cases hq : fstG badC (x0.drop (k + 1)) with
   | none => rfl
   | some j =>
    simp only [Option.map_some, Option.isSome_some, Option.getD_some, Qac]
    congr 3
    omega
theorem QvU : ∀ S l p, QdG.L 0 (fgt QcX S) = some (true, l) → pickA l = some p → loopF (Qaj QdG QcX Qd9) S = some p :=
 QaF (s := QgK) ⟨by decide, by decide⟩ (by kernel_rfl) fun x y hok p hp => by
 simp only [Qar, Qap] at hp
 exact (Qzn x.1 x.2.2.1 x.2.2.2.1 (by simpa using hok)).trans hp
theorem QEZ : QlK.lok QdG := by
 repeat (first | exact trivial | exact QvU | refine ⟨?_, ?_⟩)
theorem QHZ (l : List Qaa) (h : okBad l = true) : QpR l = some (.t tI (ixBad l), []) := by
 have hl := QDW h
 simp only [QpR, rng_0 hl, h, Bool.and_self, Qac, Int.toNat_zero, List.drop_zero, ixBad]
 cases fstG badC l <;> simp [Qac, Qae]
def Qre : Ent := specH [.ty (.sl Qab), .cf 61] [] (fun x d => (okBad x.1)) (fun x d => (.t tI (ixBad x.1)))
theorem QD6 : Meets Tryz.prog 90 (strip Qre) := (Qbb (R := runF QdG QlK Qr4 false) (mG Tryz.func90 (by kernel_rfl) Tryz.ntmps90 (by kernel_rfl) QFv QEZ) fun x d hok => (QJN x.1).trans (QHZ x.1 hok))
def Qn4 (l : List Qaa) : Bool := l.any badC
noncomputable def QlR : TC := (.sq (.reg (rT Tryz.f60 0)) (.sq (.reg (rT Tryz.f60 1)) .rt))
def Qsb : List (RV × Option Ty) := [((.t 4), some .bool)]
def QlA : G := ⟨TYs, [], 9, EL [(90, Qre)], keeps, (fun _ _ => none), IL [], RL []⟩
def QpW (p0 : List Qaa) : Option (V × List VO) := br (okBad p0) (some (.t .bool (ige (ixBad p0) 0), [])) none
theorem QJU (p0 : List Qaa) : runF QlA QlR Qsb false [.t (.sl Qab) p0, .c (.func (.func 61) ⟨[]⟩ ⟨[]⟩)] [] = QpW p0 := by kernel_rfl
theorem QFX : Qag Tryz.prog 60 := .inr ⟨by decide, _, Tryz.func60, by kernel_rfl, by kernel_rfl⟩
theorem QFC : GOk Tryz.prog QlA := Qao _ (gA (gC QFP QD6 gN))
theorem QE6 : QlR.lok QlA := by repeat (first | exact trivial | refine ⟨?_, ?_⟩)
theorem QH6 (l : List Qaa) (h : okBad l = true) : QpW l = some (.t .bool (Qn4 l), []) := by
 simp only [QpW, h, Qac]
 have e : ige (ixBad l) 0 = Qn4 l := by
  unfold ixBad Qn4
  cases hq : fstG badC l with
  | none => rw [QcU.1 hq]; rfl
  | some k =>
   rw [← QcV, hq]
   simp only [ige, Option.isSome_some, decide_eq_true_eq]
   omega
 rw [e]
def Qrl : Ent := specH [.ty (.sl Qab), .cf 61] [] (fun x d => (okBad x.1)) (fun x d => (.t .bool (Qn4 x.1)))
theorem QEe : Meets Tryz.prog 60 (strip Qrl) := (Qbb (R := runF QlA QlR Qsb false) (mG Tryz.func60 (by kernel_rfl) Tryz.ntmps60 (by kernel_rfl) QFC QE6) fun x d hok => (QJU x.1).trans (QH6 x.1 hok))
noncomputable def QAn : TC := (.sq (.reg (rT Tryz.f64 0)) (.sq (.reg (rT Tryz.f64 1)) .rt))
def QMp : List (RV × Option Ty) := [((.t 5), some .bool)]
def g_f64 : G := ⟨TYs, [], 11, EL [(65, QLz)], keeps, (fun _ _ => none), IL [], RL []⟩
def r_f64 (p0 : Qaa) (d0 : List Int) (d1 d2 : Int) : Option (V × List VO) := br (QjO p0 d0 d1 d2) (some (.t .bool (heldF p0 d0 d1 d2), [.box (.t (.sl tI) d0), .box (.t tI d1), .box (.t tI d2)])) none
theorem e_f64 (p0 : Qaa) (d0 : List Int) (d1 d2 : Int) : runF g_f64 QAn QMp false [.t Qab p0, .ptr 50000 0, .ptr 50001 0, .ptr 50002 0] [.box (.t (.sl tI) d0), .box (.t tI d1), .box (.t tI d2)] = r_f64 p0 d0 d1 d2 := by kernel_rfl
theorem en_f64 : Qag Tryz.prog 64 := .inr ⟨by decide, _, Tryz.func64, by kernel_rfl, by kernel_rfl⟩
theorem gk_f64 : GOk Tryz.prog g_f64 := Qao _ (gA (gC en_f65 ms_f65 gN))
theorem lk_f64 : QAn.lok g_f64 := by repeat (first | exact trivial | refine ⟨?_, ?_⟩)
theorem s_f64 (c : Qaa) (h : List Int) (d e : Int) (hok : QjO c h d e = true) : r_f64 c h d e = some (.t .bool (heldF c h d e), [.box (.t (.sl tI) h), .box (.t tI d), .box (.t tI e)]) := by
 simp only [r_f64, hok, Qac]
def QLA : Ent := Qoo [.ty Qab, .ptr 50000 0, .ptr 50001 0, .ptr 50002 0] [(.sl tI), tI, tI] (fun x d => (QjO x.1 d.1 d.2.1 d.2.2.1)) (fun x d => (.t .bool (heldF x.1 d.1 d.2.1 d.2.2.1)))
theorem ms_f64 : Meets Tryz.prog 64 (strip QLA) := QhF (Qbb (R := runF g_f64 QAn QMp false) (mG Tryz.func64 (by kernel_rfl) Tryz.ntmps64 (by kernel_rfl) gk_f64 lk_f64) fun x d hok => (e_f64 x.1 d.1 d.2.1 d.2.2.1).trans (s_f64 x.1 d.1 d.2.1 d.2.2.1 hok))
def Qcv (l : List Qaa) (h : List Int) (_d _e : Int) : Bool := decide (l.length ≤ 100000 ∧ h.length ≤ 100000)
theorem Qzf {l : List Qaa} {h : List Int} {d e : Int} (hq : Qcv l h d e = true) : l.length ≤ 100000 := (of_decide_eq_true hq).1
def Qoy (l : List Qaa) (d0 : List Int) (d1 : Int) (d2 : Int) : Int := match fstG (fun c => heldF c d0 d1 d2) l with | some k => (k : Int) | none => -1
def QcW : Fg := ⟨[(0, some (.sl Qab)), (1, none), (7, some tI), (8, some tI)], [(50000, some (.sl tI)), (50001, some tI), (50002, some tI)]⟩
noncomputable def Qd8 : TC := (.sq (.reg (rT Tryz.f90 2)) (.sq (.cd (.t 9) .sk (.fg ⟨[], [(50000, some (.sl tI)), (50001, some tI), (50002, some tI)]⟩ (.ex 0))) (.sq (.bk 1 (.sq (.reg (rT Tryz.f90 3)) (.sq (.reg (rT Tryz.f90 4)) (.cd (.t 16) (.sq (.reg (rT Tryz.f90 5)) (.fg ⟨[(4, some tI)], [(50000, some (.sl tI)), (50001, some tI), (50002, some tI)]⟩ .rt)) .sk)))) (.reg (rT Tryz.f90 6)))))
noncomputable def QlJ : TC := (.sq (.reg (rT Tryz.f90 0)) (.sq (.sq (.reg (rT Tryz.f90 1)) (.bk 0 (.lp 0 QcW Qd8))) (.sq (.reg (rT Tryz.f90 7)) .rt)))
def Qr3 : List (RV × Option Ty) := [((.t 4), some tI)]
abbrev QgJ : Sh := ⟨[(0, .ty (.sl Qab)), (1, .fn 64 [(50000, 0), (50001, 0), (50002, 0)]), (7, .ty tI), (8, .ty tI)], [(50000, .box (.sl tI)), (50001, .box tI), (50002, .box tI)]⟩
def QgE (x0 : List Qaa) (x7 x8 : Int) (y50000 : List Int) (y50001 y50002 : Int) : VS := QgJ.st (x0, (), x7, x8, ()) (y50000, y50001, y50002, ())
abbrev Qmn : Sh := ⟨[(4, .ty tI)], [(50000, .box (.sl tI)), (50001, .box tI), (50002, .box tI)]⟩
def QbR (x4 : Int) (y50000 : List Int) (y50001 y50002 : Int) : VS := Qmn.st (x4, ()) (y50000, y50001, y50002, ())
abbrev Qn8 : Sh := ⟨[], [(50000, .box (.sl tI)), (50001, .box tI), (50002, .box tI)]⟩
def Qce (y50000 : List Int) (y50001 y50002 : Int) : VS := Qn8.st () (y50000, y50001, y50002, ())
def QzM : VS → Option (Bool × List (Bool × Exit × VS)) := mkL QgJ (fun x y => (rngOk x.1 x.2.2.1 x.2.2.2.1 && Qcv x.1 y.1 y.2.1 y.2.2.1)) (fun x y => [(((fstG (fun c => heldF c y.1 y.2.1 y.2.2.1) (x.1.drop x.2.2.2.1.toNat)).isSome), .ret, QbR (x.2.2.2.1 + ((fstG (fun c => heldF c y.1 y.2.1 y.2.2.1) (x.1.drop x.2.2.2.1.toNat)).getD 0 : Nat)) (y.1) (y.2.1) (y.2.2.1)), (true, .exit 0, Qce (y.1) (y.2.1) (y.2.2.1))])
def QdF : G := ⟨TYs, [], 19, EL [(64, QLA)], keeps, (Ls [QzM]), IL [], RL []⟩
def QoI (x0 : List Qaa) (x7 x8 : Int) (y50000 : List Int) (y50001 y50002 : Int) : Option (Exit × VS) :=
 let a1 := lgt Qab x0 (Int.toNat x8)
 br (ilt x8 x7) (br (cIx x0 x8) (br (QjO a1 y50000 y50001 y50002) (br (heldF a1 y50000 y50001 y50002) (some (.ret, QbR x8 y50000 y50001 y50002)) (some (.normal, QgE x0 x7 (iadd .i64 x8 1) y50000 y50001 y50002))) none) none) (some (.exit 0, Qce y50000 y50001 y50002))
noncomputable def QeF (x0 : List Qaa) (x7 x8 : Int) (y50000 : List Int) (y50001 y50002 : Int) : Option (Exit × VS) := loopF (Qaj QdF QcW Qd8) (QgE x0 x7 x8 y50000 y50001 y50002)
noncomputable def Qga (x0 : List Qaa) (x7 x8 : Int) (y50000 : List Int) (y50001 y50002 : Int) : Option (Exit × VS) :=
 let a1 := lgt Qab x0 (Int.toNat x8)
 br (ilt x8 x7) (br (cIx x0 x8) (br (QjO a1 y50000 y50001 y50002) (br (heldF a1 y50000 y50001 y50002) (some (.ret, QbR x8 y50000 y50001 y50002)) (QeF x0 x7 (iadd .i64 x8 1) y50000 y50001 y50002)) none) none) (some (.exit 0, Qce y50000 y50001 y50002))
def QeL (x0 : List Qaa) (x7 x8 : Int) (y50000 : List Int) (y50001 y50002 : Int) : Option (Exit × VS) := br ((fstG (fun c => heldF c y50000 y50001 y50002) (x0.drop x8.toNat)).isSome) (some (.ret, QbR (x8 + ((fstG (fun c => heldF c y50000 y50001 y50002) (x0.drop x8.toNat)).getD 0 : Nat)) (y50000) (y50001) (y50002))) <| some (.exit 0, Qce (y50000) (y50001) (y50002))
theorem Qwr (x0 : List Qaa) (x7 x8 : Int) (y50000 : List Int) (y50001 y50002 : Int) : Qaj QdF QcW Qd8 (QgE x0 x7 x8 y50000 y50001 y50002) = QoI x0 x7 x8 y50000 y50001 y50002 := by kernel_rfl
theorem Qnm (x0 : List Qaa) (x7 x8 : Int) (y50000 : List Int) (y50001 y50002 : Int) : QeF x0 x7 x8 y50000 y50001 y50002 = Qga x0 x7 x8 y50000 y50001 y50002 := (Qaq _ _).trans (by
 rw [Qwr]
 simp only [QoI, Qga, QaE, nxt_n, nxt_r, nxt_e, nxt_0]
 rfl)
def QpQ (p0 : List Qaa) (d0 : List Int) (d1 d2 : Int) : Option (V × List VO) :=
 let a1 := (p0.drop (0 : Int).toNat)
 br (rngOk p0 (llen p0) (0 : Int) && Qcv p0 d0 d1 d2) (br ((fstG (fun c => heldF c d0 d1 d2) a1).isSome) (some (.t tI ((0 : Int) + ((fstG (fun c => heldF c d0 d1 d2) a1).getD 0 : Nat)), [.box (.t (.sl tI) (d0)), .box (.t tI (d1)), .box (.t tI (d2))])) (some (.t tI (-1), [.box (.t (.sl tI) (d0)), .box (.t tI (d1)), .box (.t tI (d2))]))) none
theorem QJM (p0 : List Qaa) (d0 : List Int) (d1 d2 : Int) : runF QdF QlJ Qr3 false [.t (.sl Qab) p0, .fn 64 [(.ptr 50000 0), (.ptr 50001 0), (.ptr 50002 0)]] [.box (.t (.sl tI) d0), .box (.t tI d1), .box (.t tI d2)] = QpQ p0 d0 d1 d2 := by kernel_rfl
theorem QFO : Qag Tryz.prog 90 := .inr ⟨by decide, _, Tryz.func90, by kernel_rfl, by kernel_rfl⟩
theorem QFu : GOk Tryz.prog QdF := Qao _ (gA (gC en_f64 ms_f64 gN))
theorem Qzm (x0 : List Qaa) (x7 x8 : Int) (y50000 : List Int) (y50001 y50002 : Int) (h : (rngOk x0 x7 x8 && Qcv x0 y50000 y50001 y50002) = true) : QeF x0 x7 x8 y50000 y50001 y50002 = QeL x0 x7 x8 y50000 y50001 y50002 := by
 simp only [Bool.and_eq_true] at h
 obtain ⟨h0, hc⟩ := h
 obtain ⟨rfl, h3, k, rfl, hk⟩ := rng_k h0
 clear h0
 refine Qav x0 (fun k => QeF x0 (x0.length : Int) (k : Int) y50000 y50001 y50002 = QeL x0 (x0.length : Int) (k : Int) y50000 y50001 y50002) ?_ ?_ k hk
 ·rw [Qnm]
  simp [Qga, QeL, Qaz, Qae, fstG]
 ·intro k hk ih
  rw [Qnm]
  have hx := show QjO x0[k] y50000 y50001 y50002 = true from decide_eq_true (of_decide_eq_true hc).2
  simp only [Qga, Qaz, Qay, hk, decide_true, Qac, Int.toNat_natCast, add1 (show k < 4611686018427387904 by omega), ih, QaG (y := Qab) hk, hx]
  simp only [QeL, Int.toNat_natCast, List.drop_eq_getElem_cons hk, fstG]
  cases h : (heldF x0[k] y50000 y50001 y50002) with
  | true => simp [Qac]
  | false =>
   simp only [Qae, Bool.false_eq_true, if_false]
   cases hq : fstG (fun c => heldF c y50000 y50001 y50002) (x0.drop (k + 1)) with
   | none => rfl
   | some j =>
    simp only [Option.map_some, Option.isSome_some, Option.getD_some, Qac]
    congr 3
    omega
theorem QvT : ∀ S l p, QdF.L 0 (fgt QcW S) = some (true, l) → pickA l = some p → loopF (Qaj QdF QcW Qd8) S = some p :=
 QaF (s := QgJ) ⟨by decide, by decide⟩ (by kernel_rfl) fun x y hok p hp => by
 simp only [Qar, Qap] at hp
 exact (Qzm x.1 x.2.2.1 x.2.2.2.1 y.1 y.2.1 y.2.2.1 (by simpa using hok)).trans hp
theorem QEY : QlJ.lok QdF := by
 repeat (first | exact trivial | exact QvT | refine ⟨?_, ?_⟩)
theorem QHY (l : List Qaa) (d0 : List Int) (d1 d2 : Int) (h : Qcv l d0 d1 d2 = true) : QpQ l d0 d1 d2 = some (.t tI (Qoy l d0 d1 d2), [.box (.t (.sl tI) d0), .box (.t tI d1), .box (.t tI d2)]) := by
 have hl := Qzf h
 simp only [QpQ, rng_0 hl, h, Bool.and_self, Qac, Int.toNat_zero, List.drop_zero, Qoy]
 cases fstG (fun c => heldF c d0 d1 d2) l <;> simp [Qac, Qae]
def Qrd : Ent := Qoo [.ty (.sl Qab), .fn 64 [(50000, 0), (50001, 0), (50002, 0)]] [(.sl tI), tI, tI] (fun x d => (Qcv x.1 d.1 d.2.1 d.2.2.1)) (fun x d => (.t tI (Qoy x.1 d.1 d.2.1 d.2.2.1)))
theorem QD5 : Meets Tryz.prog 90 (strip Qrd) := QhF (Qbb (R := runF QdF QlJ Qr3 false) (mG Tryz.func90 (by kernel_rfl) Tryz.ntmps90 (by kernel_rfl) QFu QEY) fun x d hok => (QJM x.1 d.1 d.2.1 d.2.2.1).trans (QHY x.1 d.1 d.2.1 d.2.2.1 hok))
def Qcb (l : List Qaa) (d0 : List Int) (d1 : Int) (d2 : Int) : Bool := l.any (fun c => heldF c d0 d1 d2)
noncomputable def QlQ : TC := (.sq (.reg (rT Tryz.f60 0)) (.sq (.reg (rT Tryz.f60 1)) .rt))
def Qsa : List (RV × Option Ty) := [((.t 4), some .bool)]
def Qlz : G := ⟨TYs, [], 9, EL [(90, Qrd)], keeps, (fun _ _ => none), IL [], RL []⟩
def QpV (p0 : List Qaa) (d0 : List Int) (d1 d2 : Int) : Option (V × List VO) := br (Qcv p0 d0 d1 d2) (some (.t .bool (ige (Qoy p0 d0 d1 d2) 0), [.box (.t (.sl tI) d0), .box (.t tI d1), .box (.t tI d2)])) none
theorem QJT (p0 : List Qaa) (d0 : List Int) (d1 d2 : Int) : runF Qlz QlQ Qsa false [.t (.sl Qab) p0, .fn 64 [(.ptr 50000 0), (.ptr 50001 0), (.ptr 50002 0)]] [.box (.t (.sl tI) d0), .box (.t tI d1), .box (.t tI d2)] = QpV p0 d0 d1 d2 := by kernel_rfl
theorem QFW : Qag Tryz.prog 60 := .inr ⟨by decide, _, Tryz.func60, by kernel_rfl, by kernel_rfl⟩
theorem QFB : GOk Tryz.prog Qlz := Qao _ (gA (gC QFO QD5 gN))
theorem QE5 : QlQ.lok Qlz := by repeat (first | exact trivial | refine ⟨?_, ?_⟩)
theorem QH5 (l : List Qaa) (d0 : List Int) (d1 d2 : Int) (h : Qcv l d0 d1 d2 = true) : QpV l d0 d1 d2 = some (.t .bool (Qcb l d0 d1 d2), [.box (.t (.sl tI) d0), .box (.t tI d1), .box (.t tI d2)]) := by
 simp only [QpV, h, Qac]
 have e : ige (Qoy l d0 d1 d2) 0 = Qcb l d0 d1 d2 := by
  unfold Qoy Qcb
  cases hq : fstG (fun c => heldF c d0 d1 d2) l with
  | none => rw [QcU.1 hq]; rfl
  | some k =>
   rw [← QcV, hq]
   simp only [ige, Option.isSome_some, decide_eq_true_eq]
   omega
 rw [e]
def Qrk : Ent := Qoo [.ty (.sl Qab), .fn 64 [(50000, 0), (50001, 0), (50002, 0)]] [(.sl tI), tI, tI] (fun x d => (Qcv x.1 d.1 d.2.1 d.2.2.1)) (fun x d => (.t .bool (Qcb x.1 d.1 d.2.1 d.2.2.1)))
theorem QEd : Meets Tryz.prog 60 (strip Qrk) := QhF (Qbb (R := runF Qlz QlQ Qsa false) (mG Tryz.func60 (by kernel_rfl) Tryz.ntmps60 (by kernel_rfl) QFB QE5) fun x d hok => (QJT x.1 d.1 d.2.1 d.2.2.1).trans (QH5 x.1 d.1 d.2.1 d.2.2.1 hok))
end
end Go.Proofs.YtkngeegkjhipeaaGreat.K
