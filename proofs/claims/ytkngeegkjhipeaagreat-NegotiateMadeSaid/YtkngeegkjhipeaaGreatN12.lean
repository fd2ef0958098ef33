import Derived.Test.YtkngeegkjhipeaaGreatN11
import Derived.Test.YtkngeegkjhipeaaGreatKV
set_option linter.unusedSimpArgs false
set_option linter.unusedVariables false
namespace Go.Proofs.YtkngeegkjhipeaaGreat.K
open Go.RowKit
noncomputable section
theorem Qpp {l : List Qaa} (h : QaI l = true) {k : Nat} (hk : k < l.length) : QaC l[k] = true := by
 simp only [QaI, Bool.and_eq_true, List.all_eq_true] at h
 exact h.2 _ (List.getElem_mem hk)
theorem Qev {l : List Qaa} (h : QaI l = true) : l.length ≤ 100000 := by
 simp only [QaI, Bool.and_eq_true, decide_eq_true_eq] at h
 exact h.1
abbrev cAt (l : List Qaa) (k : Nat) : Qaa := l.getD k zCert
theorem QJA {l : List Qaa} {k : Nat} (hk : k < l.length) : cAt l k = l[k] := by
 simp only [cAt, List.getD_eq_getElem?_getD, List.getElem?_eq_getElem hk, Option.getD_some]
theorem QyR {l : List Qaa} (h : QaI l = true) {k : Nat} (hk : k < l.length) : QaC (cAt l k) = true := by
 rw [QJA hk]
 exact Qpp h hk
def pathF (l : List Qaa) (i : Int) : Bool := !ilt i 0 && (!ige i (llen l) && (ieq i 0 || ((cAt l i.toNat).2.2.2.2.2.2.2.2.1 && ige (cAt l i.toNat).2.2.2.2.2.2.2.2.2.1 (i - 1))))
def QfY (l : List Qaa) (_i : Int) : Bool := decide (l.length ≤ 100000)
theorem QuH (l : List Qaa) (i : Int) (h : QfY l i = true) : br (ilt i 0) (some (V.t .bool false, ([] : List VO))) (br (ige i (llen l)) (some (V.t .bool false, [])) (br (ieq i 0) (some (V.t .bool true, [])) (br (cIx l i) (br (lgt Qab l (Int.toNat i)).2.2.2.2.2.2.2.2.1 (br (cIx l i) (some (V.t .bool (ige (lgt Qab l (Int.toNat i)).2.2.2.2.2.2.2.2.2.1 (isub .i64 i 1)), [])) none) (some (V.t .bool false, []))) none))) = some (V.t .bool (pathF l i), []) := by
 simp only [QfY, decide_eq_true_eq] at h
 unfold pathF
 cases hi : ilt i 0 with
 | true => rfl
 | false =>
  have hn := of_decide_eq_false hi
  rw [Qaf, Bool.not_false, Bool.true_and]
  cases h1 : ige i (llen l) with
  | true => rfl
  | false =>
   have h2 := of_decide_eq_false h1
   rw [Qaf, Bool.not_false, Bool.true_and]
   cases h0 : ieq i 0 with
   | true => rfl
   | false =>
    have hl : llen l ≤ 100000 := by simp only [llen]; omega
    have hc : cIx l i = true := decide_eq_true ⟨by omega, by simp only [llen] at h2; omega⟩
    rw [Qaf, Bool.false_or, hc, Qac, QbE (by omega)]
    exact brA rfl
noncomputable def QCK : TC := (.sq (.reg (rT Tryz.f93 0)) (.sq (.sq (.reg (rT Tryz.f93 1)) (.cd (.t 12) (.sq (.reg (rT Tryz.f93 2)) .rt) .sk)) (.sq (.reg (rT Tryz.f93 3)) .rt)))
def QPJ : List (RV × Option Ty) := [((.t 4), some .bool)]
def g_f93 : G := ⟨TYs, [], 32, EL [], keeps, (fun _ _ => none), IL [], RL []⟩
def r_f93 (p0 : List Qaa) (p1 : Int) : Option (V × List VO) :=
 let a1 := (((((((((lgt Qab p0 (Int.toNat p1)).2).2).2).2).2).2).2).2)
 br (ilt p1 0) (some (.t .bool false, [])) (br (ige p1 (llen p0)) (some (.t .bool false, [])) (br (ieq p1 0) (some (.t .bool true, [])) (br (cIx p0 p1) (br (a1.1) (br (cIx p0 p1) (some (.t .bool (ige ((a1.2).1) (isub .i64 p1 1)), [])) none) (some (.t .bool false, []))) none)))
theorem e_f93 (p0 : List Qaa) (p1 : Int) : runF g_f93 QCK QPJ false [.t (.sl Qab) p0, .t tI p1] [] = r_f93 p0 p1 := by kernel_rfl
theorem en_f93 : Qai Tryz.prog 93 := .inr ⟨by decide, _, Tryz.func93, by kernel_rfl, by kernel_rfl⟩
theorem gk_f93 : GOk Tryz.prog g_f93 := Qal _ (fun p hp => by cases hp)
theorem lk_f93 : QCK.lok g_f93 := by repeat (first | exact trivial | refine ⟨?_, ?_⟩)
theorem s_f93 (l : List Qaa) (i : Int) (h : QfY l i = true) : r_f93 l i = some (.t .bool (pathF l i), []) := by
 simp only [r_f93]
 exact QuH l i h
def QOW : Ent := spec (.pr (.sl Qab) (.pr tI .nil)) (fun x => (QfY x.1 x.2.1)) (fun x => (.t .bool (pathF x.1 x.2.1)))
theorem ms_f93 : Meets Tryz.prog 93 (strip QOW) := Qag (R := runF g_f93 QCK QPJ false) (mG Tryz.func93 (by kernel_rfl) Tryz.ntmps93 (by kernel_rfl) gk_f93 lk_f93) fun x hok => (e_f93 x.1 x.2.1).trans (s_f93 x.1 x.2.1 hok)
noncomputable def QwN : TC := (.sq (.reg (rT Tryz.f100 0)) (.sq (.sq (.reg (rT Tryz.f100 1)) (.cd (.t 12) (.sq (.reg (rT Tryz.f100 2)) .rt) .sk)) (.sq (.reg (rT Tryz.f100 3)) .rt)))
def QFR : List (RV × Option Ty) := [((.t 4), some .bool)]
def QAT : G := ⟨TYs, [], 32, EL [], keeps, (fun _ _ => none), IL [], RL []⟩
def QGL (p0 : List Qaa) (p1 : Int) : Option (V × List VO) :=
 let a1 := (((((((((lgt Qab p0 (Int.toNat p1)).2).2).2).2).2).2).2).2)
 br (ilt p1 0) (some (.t .bool false, [])) (br (ige p1 (llen p0)) (some (.t .bool false, [])) (br (ieq p1 0) (some (.t .bool true, [])) (br (cIx p0 p1) (br (a1.1) (br (cIx p0 p1) (some (.t .bool (ige ((a1.2).1) (isub .i64 p1 1)), [])) none) (some (.t .bool false, []))) none)))
theorem e_f100 (p0 : List Qaa) (p1 : Int) : runF QAT QwN QFR false [.t (.sl Qab) p0, .t tI p1] [] = QGL p0 p1 := by kernel_rfl
theorem QVJ : Qai Tryz.prog 100 := .inr ⟨by decide, _, Tryz.func100, by kernel_rfl, by kernel_rfl⟩
theorem QVa : GOk Tryz.prog QAT := Qal _ (fun p hp => by cases hp)
theorem QTJ : QwN.lok QAT := by repeat (first | exact trivial | refine ⟨?_, ?_⟩)
theorem s_f100 (l : List Qaa) (i : Int) (h : QfY l i = true) : QGL l i = some (.t .bool (pathF l i), []) := by
 simp only [QGL]
 exact QuH l i h
def QES : Ent := spec (.pr (.sl Qab) (.pr tI .nil)) (fun x => (QfY x.1 x.2.1)) (fun x => (.t .bool (pathF x.1 x.2.1)))
theorem QSK : Meets Tryz.prog 100 (strip QES) := Qag (R := runF QAT QwN QFR false) (mG Tryz.func100 (by kernel_rfl) Tryz.ntmps100 (by kernel_rfl) QVa QTJ) fun x hok => (e_f100 x.1 x.2.1).trans (s_f100 x.1 x.2.1 hok)
def Qj7 (l : List Qaa) (k : Nat) : Int := if k + 1 < l.length then (cAt l (k + 1)).2.2.2.2.1 else (cSeal (cAt l k)).1
def QfU (l : List Qaa) (i : Int) : Int := Qj7 l i.toNat
def QgI (l : List Qaa) (i : Int) : Bool := decide (0 ≤ i ∧ i < l.length ∧ l.length ≤ 100000)
theorem add1N {k : Nat} (h : k < 4611686018427387904) : Int.toNat (iadd .i64 (k : Int) 1) = k + 1 := by rw [add1 h]; rfl
noncomputable def QCI : TC := (.sq (.reg (rT Tryz.f95 0)) (.sq (.sq (.reg (rT Tryz.f95 1)) (.cd (.t 9) (.sq (.reg (rT Tryz.f95 2)) .rt) .sk)) (.sq (.reg (rT Tryz.f95 3)) .rt)))
def QPH : List (RV × Option Ty) := [((.t 4), some tI)]
def g_f95 : G := ⟨TYs, [], 22, EL [], keeps, (fun _ _ => none), IL [], RL []⟩
def r_f95 (p0 : List Qaa) (p1 : Int) : Option (V × List VO) :=
 let a1 := iadd .i64 p1 1
 br (ilt a1 (llen p0)) (br (cIx p0 a1) (some (.t tI ((((((lgt Qab p0 (Int.toNat a1)).2).2).2).2).1), [])) none) (br (cIx p0 p1) (some (.t tI ((((((((((((((lgt Qab p0 (Int.toNat p1)).2).2).2).2).2).2).2).2).2).2).2).1).1), [])) none)
theorem e_f95 (p0 : List Qaa) (p1 : Int) : runF g_f95 QCI QPH false [.t (.sl Qab) p0, .t tI p1] [] = r_f95 p0 p1 := by kernel_rfl
theorem en_f95 : Qai Tryz.prog 95 := .inr ⟨by decide, _, Tryz.func95, by kernel_rfl, by kernel_rfl⟩
theorem gk_f95 : GOk Tryz.prog g_f95 := Qal _ (fun p hp => by cases hp)
theorem lk_f95 : QCI.lok g_f95 := by repeat (first | exact trivial | refine ⟨?_, ?_⟩)
theorem s_f95 (l : List Qaa) (i : Int) (h : QgI l i = true) : r_f95 l i = some (.t tI (QfU l i), []) := by
 simp only [QgI, decide_eq_true_eq] at h
 obtain ⟨h1, h2, h3⟩ := h
 obtain ⟨k, rfl⟩ := Int.eq_ofNat_of_zero_le h1
 simp only [r_f95, add1N (show k < 4611686018427387904 by omega), add1 (show k < 4611686018427387904 by omega), Qaw, Int.toNat_natCast]
 unfold QfU Qj7
 rw [Int.toNat_natCast]
 by_cases hk : k + 1 < l.length
 ·rw [show ilt ((k + 1 : Nat) : Int) (llen l) = true from decide_eq_true (by simp only [llen]; omega), Qac, decide_eq_true hk, Qac, if_pos hk]
 ·rw [show ilt ((k + 1 : Nat) : Int) (llen l) = false from decide_eq_false (by simp only [llen]; omega), Qaf, decide_eq_true (show k < l.length by omega), Qac, if_neg hk]
def QOU : Ent := spec (.pr (.sl Qab) (.pr tI .nil)) (fun x => (QgI x.1 x.2.1)) (fun x => (.t tI (QfU x.1 x.2.1)))
theorem ms_f95 : Meets Tryz.prog 95 (strip QOU) := Qag (R := runF g_f95 QCI QPH false) (mG Tryz.func95 (by kernel_rfl) Tryz.ntmps95 (by kernel_rfl) gk_f95 lk_f95) fun x hok => (e_f95 x.1 x.2.1).trans (s_f95 x.1 x.2.1 hok)
def Qkp (l : List Qaa) (e : Int) (k : Nat) : Bool :=
 bif ieq e 11 then decide (k + 1 < l.length) && sne (cAt l k).2.1 (cAt l (k + 1)).2.2.1
 else bif ieq e 15 then !pathF l k else !Qc4 (cAt l k) (Qj7 l k)
def Qha (l : List Qaa) (e : Int) (k : Nat) : Bool := (List.range' k (l.length - k)).any (Qkp l e)
def QbH (l : List Qaa) (e : Int) : Bool := Qha l e 0
theorem QCa (l : List Qaa) (e : Int) : Qha l e l.length = false := by
 unfold Qha
 rw [Nat.sub_self]
 rfl
theorem QyB {l : List Qaa} {e : Int} {k : Nat} (hk : k < l.length) : Qha l e k = (Qkp l e k || Qha l e (k + 1)) := by
 have : l.length - k = (l.length - (k + 1)) + 1 := by omega
 unfold Qha
 rw [this, List.range'_succ, List.any_cons]
def Qpb (l : List Qaa) (_e : Int) : Bool := QaI l
noncomputable def QNk : List DO := dT Tryz.f66 7
noncomputable def QNj : List DO := dT Tryz.f66 10
def Qjh : Fg := ⟨[(0, some (.sl Qab)), (1, some tI), (8, some tI), (9, some tI)], []⟩
noncomputable def Qlm : TC := (.sq (.reg (rT Tryz.f66 2)) (.sq (.cd (.t 10) .sk (.fg ⟨[], []⟩ (.ex 0))) (.sq (.bk 1 (.sq (.reg (rT Tryz.f66 3)) (.sq (.reg (rT Tryz.f66 4)) (.sq (.sq (.reg (rT Tryz.f66 5)) (.bk 2 (.sq (.reg (rT Tryz.f66 6)) (.cd (.t 22) (.dr QNk [(0, []), (1, []), (2, []), (3, []), (4, []), (5, []), (6, []), (7, []), (8, []), (9, []), (10, []), (11, []), (12, []), (13, []), (14, []), (15, []), (16, []), (17, []), (18, []), (19, [])] (.of [0, 1, 2, 3, 4, 5, 6, 7, 8, 9, 10, 11, 12, 13, 14, 15, 16, 17, 18, 19])) (.sq (.reg (rT Tryz.f66 8)) (.cd (.t 43) (.reg (rT Tryz.f66 9)) (.dr QNj [(0, []), (1, []), (2, []), (3, []), (4, []), (5, []), (6, []), (7, []), (8, []), (9, [])] (.of [0, 1, 2, 3, 4, 5, 6, 7, 8, 9])))))))) (.sq (.reg (rT Tryz.f66 11)) (.cd (.t 49) (.sq (.reg (rT Tryz.f66 12)) (.fg ⟨[(4, some .bool)], []⟩ .rt)) .sk)))))) (.reg (rT Tryz.f66 13)))))
noncomputable def QC4 : TC := (.sq (.reg (rT Tryz.f66 0)) (.sq (.sq (.reg (rT Tryz.f66 1)) (.bk 0 (.lp 0 Qjh Qlm))) (.sq (.reg (rT Tryz.f66 14)) .rt)))
def QP3 : List (RV × Option Ty) := [((.t 4), some .bool)]
abbrev Qq8 : Sh := ⟨[(0, .ty (.sl Qab)), (1, .ty tI), (8, .ty tI), (9, .ty tI)], []⟩
def Qgw (x0 : List Qaa) (x1 x8 x9 : Int) : VS := Qq8.st (x0, x1, x8, x9, ()) ()
abbrev QtI : Sh := ⟨[(4, .ty .bool)], []⟩
def Qa9 (x4 : Bool) : VS := QtI.st (x4, ()) ()
abbrev Qxh : Sh := ⟨[], []⟩
def QeM  : VS := Qxh.st () ()
def QWb : VS → Option (Bool × List (Bool × Exit × VS)) := mkL Qq8 (fun x y => (decide (x.2.2.1 = x.1.length ∧ 0 ≤ x.2.2.2.1 ∧ x.2.2.2.1 ≤ x.2.2.1) && QaI x.1)) (fun x y => [((Qha x.1 x.2.1 x.2.2.2.1.toNat), .ret, Qa9 (true)), (true, .exit 0, QeM)])
def g_f66 : G := ⟨TYs, [], 51, EL [(93, QOW), (94, QOV), (95, QOU)], keeps, (Ls [QWb]), IL [], RL []⟩
def QKf (x0 : List Qaa) (x1 x8 x9 : Int) : Option (Exit × VS) :=
 let a1 := iadd .i64 x9 1
 let a2 := lgt Qab x0 (Int.toNat x9)
 br (ilt x9 x8) (br (ieq x1 11) (br (ilt a1 (llen x0)) (br (cIx x0 x9) (br (cIx x0 a1) (br (sne ((a2.2).1) ((((lgt Qab x0 (Int.toNat a1)).2).2).1)) (some (.ret, Qa9 true)) (some (.normal, Qgw x0 x1 x8 a1))) none) none) (some (.normal, Qgw x0 x1 x8 a1))) (br (ieq x1 15) (br (QfY x0 x9) (br (!(pathF x0 x9)) (some (.ret, Qa9 true)) (some (.normal, Qgw x0 x1 x8 a1))) none) (br (cIx x0 x9) (br (QgI x0 x9) (br (Qa0 a2 (QfU x0 x9)) (br (!(Qc4 a2 (QfU x0 x9))) (some (.ret, Qa9 true)) (some (.normal, Qgw x0 x1 x8 a1))) none) none) none))) (some (.exit 0, QeM))
noncomputable def Qfj (x0 : List Qaa) (x1 x8 x9 : Int) : Option (Exit × VS) := loopF (Qaj g_f66 Qjh Qlm) (Qgw x0 x1 x8 x9)
noncomputable def Qsc (x0 : List Qaa) (x1 x8 x9 : Int) : Option (Exit × VS) :=
 let a1 := iadd .i64 x9 1
 let a2 := lgt Qab x0 (Int.toNat x9)
 br (ilt x9 x8) (br (ieq x1 11) (br (ilt a1 (llen x0)) (br (cIx x0 x9) (br (cIx x0 a1) (br (sne ((a2.2).1) ((((lgt Qab x0 (Int.toNat a1)).2).2).1)) (some (.ret, Qa9 true)) (Qfj x0 x1 x8 a1)) none) none) (Qfj x0 x1 x8 a1)) (br (ieq x1 15) (br (QfY x0 x9) (br (!(pathF x0 x9)) (some (.ret, Qa9 true)) (Qfj x0 x1 x8 a1)) none) (br (cIx x0 x9) (br (QgI x0 x9) (br (Qa0 a2 (QfU x0 x9)) (br (!(Qc4 a2 (QfU x0 x9))) (some (.ret, Qa9 true)) (Qfj x0 x1 x8 a1)) none) none) none))) (some (.exit 0, QeM))
def QmJ (x0 : List Qaa) (x1 x8 x9 : Int) : Option (Exit × VS) := br (Qha x0 x1 x9.toNat) (some (.ret, Qa9 (true))) <| some (.exit 0, QeM)
theorem QN0 (x0 : List Qaa) (x1 x8 x9 : Int) : Qaj g_f66 Qjh Qlm (Qgw x0 x1 x8 x9) = QKf x0 x1 x8 x9 := by kernel_rfl
theorem QzQ (x0 : List Qaa) (x1 x8 x9 : Int) : Qfj x0 x1 x8 x9 = Qsc x0 x1 x8 x9 := (Qap _ _).trans (by
 rw [QN0]
 simp only [QKf, Qsc, QaB, nxt_n, nxt_r, nxt_e, nxt_0]
 rfl)
def r_f66 (p0 : List Qaa) (p1 : Int) : Option (V × List VO) := br (decide ((llen p0) = p0.length ∧ 0 ≤ (0 : Int) ∧ (0 : Int) ≤ (llen p0)) && QaI p0) (br (Qha p0 p1 (0 : Int).toNat) (some (.t .bool (true), [])) (some (.t .bool false, []))) none
theorem e_f66 (p0 : List Qaa) (p1 : Int) : runF g_f66 QC4 QP3 false [.t (.sl Qab) p0, .t tI p1] [] = r_f66 p0 p1 := by kernel_rfl
theorem en_f66 : Qai Tryz.prog 66 := .inr ⟨by decide, _, Tryz.func66, by kernel_rfl, by kernel_rfl⟩
theorem gk_f66 : GOk Tryz.prog g_f66 := Qal _ (gA (gC en_f93 ms_f93 (gC en_f94 ms_f94 (gC en_f95 ms_f95 gN))))
theorem QTW (x0 : List Qaa) (x1 x8 x9 : Int) (h : (decide (x8 = x0.length ∧ 0 ≤ x9 ∧ x9 ≤ x8) && QaI x0) = true) : Qfj x0 x1 x8 x9 = QmJ x0 x1 x8 x9 := by
 simp only [Bool.and_eq_true, decide_eq_true_eq] at h
 obtain ⟨⟨rfl, h0, h1⟩, hc⟩ := h
 obtain ⟨k, rfl⟩ := Int.eq_ofNat_of_zero_le h0
 have hl := Qev hc
 refine Qas x0 (fun k => Qfj x0 x1 (x0.length : Int) (k : Int) = QmJ x0 x1 (x0.length : Int) (k : Int)) ?_ ?_ k (by omega)
 ·rw [QzQ]
  simp only [Qsc, QmJ, QaA, Nat.lt_irrefl, decide_false, Qaf, Int.toNat_natCast, QCa]
 ·intro k hk ih
  rw [QzQ]
  have hx := Qpp hc hk
  have hs : QgI x0 (k : Int) = true := decide_eq_true (by omega)
  have hp : QfY x0 (k : Int) = true := decide_eq_true hl
  simp only [Qsc, QaA, Qaw, hk, decide_true, Qac, Int.toNat_natCast, add1N (show k < 4611686018427387904 by omega), add1 (show k < 4611686018427387904 by omega), hs, hp, ih, show lgt Qab x0 k = cAt x0 k from rfl, show ∀ q, Qa0 (cAt x0 k) q = true from fun q => QyR hc hk, QfU]
  simp only [QmJ, Int.toNat_natCast, QyB hk, Qkp]
  cases h1 : ieq x1 11 with
  | true =>
   rw [Qac, cond_true]
   by_cases hk2 : k + 1 < x0.length
   ·rw [decide_eq_true hk2, Qac, Qac, Bool.true_and]
    show br (sne (cAt x0 k).2.1 (cAt x0 (k + 1)).2.2.1) _ _ = _
    cases sne (cAt x0 k).2.1 (cAt x0 (k + 1)).2.2.1 <;> rfl
   ·rw [decide_eq_false hk2, Qaf, Bool.false_and, Bool.false_or]
  | false =>
   rw [Qaf, cond_false]
   cases h2 : ieq x1 15 with
   | true =>
    rw [Qac, cond_true]
    cases pathF x0 (k : Int) <;> rfl
   | false =>
    rw [Qaf, cond_false]
    cases Qc4 (cAt x0 k) (Qj7 x0 k) <;> rfl
theorem QLN : ∀ S l p, g_f66.L 0 (fgt Qjh S) = some (true, l) → pickA l = some p → loopF (Qaj g_f66 Qjh Qlm) S = some p :=
 QaD (s := Qq8) ⟨by decide, by decide⟩ (by kernel_rfl) fun x y hok p hp => by
 simp only [Qar, Qao] at hp
 exact (QTW x.1 x.2.1 x.2.2.1 x.2.2.2.1 (by simpa using hok)).trans hp
theorem lk_f66 : QC4.lok g_f66 := by
 repeat (first | exact trivial | exact QLN | refine ⟨?_, ?_⟩)
theorem s_f66 (l : List Qaa) (e : Int) (h : Qpb l e = true) : r_f66 l e = some (.t .bool (QbH l e), []) := by
 have h : QaI l = true := h
 simp only [r_f66, h, Bool.and_true, Int.toNat_zero]
 rw [decide_eq_true ⟨trivial, Int.le_refl 0, by simp only [llen]; omega⟩, Qac]
 unfold QbH
 cases Qha l e 0 <;> rfl
def QPb : Ent := spec (.pr (.sl Qab) (.pr tI .nil)) (fun x => (Qpb x.1 x.2.1)) (fun x => (.t .bool (QbH x.1 x.2.1)))
theorem ms_f66 : Meets Tryz.prog 66 (strip QPb) := Qag (R := runF g_f66 QC4 QP3 false) (mG Tryz.func66 (by kernel_rfl) Tryz.ntmps66 (by kernel_rfl) gk_f66 lk_f66) fun x hok => (e_f66 x.1 x.2.1).trans (s_f66 x.1 x.2.1 hok)
def heldF (c : Qaa) (h : List Int) (d e : Int) : Bool := bif ieq e 13 then ilt d c.2.2.2.2.2.2.1 || ige d c.2.2.2.2.2.2.2.1 else !hasF h c.2.2.2.2.2.1.1
def QkO (_c : Qaa) (h : List Int) (_d _e : Int) : Bool := decide (h.length ≤ 100000)
noncomputable def QC5 : TC := (.sq (.reg (rT Tryz.f65 0)) (.sq (.sq (.reg (rT Tryz.f65 1)) (.cd (.t 10) (.sq (.reg (rT Tryz.f65 2)) .rt) .sk)) (.sq (.reg (rT Tryz.f65 3)) .rt)))
def QP4 : List (RV × Option Ty) := [((.t 8), some .bool)]
def g_f65 : G := ⟨TYs, [], 27, EL [(59, QpV)], keeps, (fun _ _ => none), IL [], RL []⟩
def r_f65 (p0 : Qaa) (p1 : List Int) (p2 p3 : Int) : Option (V × List VO) := br (ieq p3 13) (br (ilt p2 p0.2.2.2.2.2.2.1) (some (.t .bool true, [])) (some (.t .bool (ige p2 p0.2.2.2.2.2.2.2.1), []))) (br (QaR p1 p0.2.2.2.2.2.1.1) (some (.t .bool (!(hasF p1 p0.2.2.2.2.2.1.1)), [])) none)
theorem e_f65 (p0 : Qaa) (p1 : List Int) (p2 p3 : Int) : runF g_f65 QC5 QP4 false [.t Qab p0, .t (.sl tI) p1, .t tI p2, .t tI p3] [] = r_f65 p0 p1 p2 p3 := by kernel_rfl
theorem en_f65 : Qai Tryz.prog 65 := .inr ⟨by decide, _, Tryz.func65, by kernel_rfl, by kernel_rfl⟩
theorem gk_f65 : GOk Tryz.prog g_f65 := Qal _ (gA (gC QvD QuT gN))
theorem lk_f65 : QC5.lok g_f65 := by repeat (first | exact trivial | refine ⟨?_, ?_⟩)
theorem s_f65 (c : Qaa) (h : List Int) (d e : Int) (hok : QkO c h d e = true) : r_f65 c h d e = some (.t .bool (heldF c h d e), []) := by
 simp only [r_f65, show ∀ v, QaR h v = true from fun _ => hok, Qac]
 unfold heldF
 cases ieq e 13 with
 | false => rfl
 | true =>
  rw [Qac, cond_true]
  cases ilt d c.2.2.2.2.2.2.1 <;> rfl
def QPc : Ent := spec (.pr Qab (.pr (.sl tI) (.pr tI (.pr tI .nil)))) (fun x => (QkO x.1 x.2.1 x.2.2.1 x.2.2.2.1)) (fun x => (.t .bool (heldF x.1 x.2.1 x.2.2.1 x.2.2.2.1)))
theorem ms_f65 : Meets Tryz.prog 65 (strip QPc) := Qag (R := runF g_f65 QC5 QP4 false) (mG Tryz.func65 (by kernel_rfl) Tryz.ntmps65 (by kernel_rfl) gk_f65 lk_f65) fun x hok => (e_f65 x.1 x.2.1 x.2.2.1 x.2.2.2.1).trans (s_f65 x.1 x.2.1 x.2.2.1 x.2.2.2.1 hok)
def badC (c : Qaa) : Bool := !QaH c
noncomputable def QC9 : TC := (.sq (.reg (rT Tryz.f61 0)) (.sq (.reg (rT Tryz.f61 1)) .rt))
def QP8 : List (RV × Option Ty) := [((.t 2), some .bool)]
def g_f61 : G := ⟨TYs, [], 6, EL [(62, QD2)], keeps, (fun _ _ => none), IL [], RL []⟩
def r_f61 (p0 : Qaa) : Option (V × List VO) := br (QaC p0) (some (.t .bool (ine (QcK p0) 0), [])) none
theorem e_f61 (p0 : Qaa) : runF g_f61 QC9 QP8 false [.t Qab p0] [] = r_f61 p0 := by kernel_rfl
theorem en_f61 : Qai Tryz.prog 61 := .inr ⟨by decide, _, Tryz.func61, by kernel_rfl, by kernel_rfl⟩
theorem gk_f61 : GOk Tryz.prog g_f61 := Qal _ (gA (gC QRr QQ5 gN))
theorem lk_f61 : QC9.lok g_f61 := by repeat (first | exact trivial | refine ⟨?_, ?_⟩)
theorem s_f61 (c : Qaa) (h : QaC c = true) : r_f61 c = some (.t .bool (badC c), []) := by
 simp only [r_f61, h, Qac, Qdg]
 rfl
def QPf : Ent := spec (.pr Qab .nil) (fun x => (QaC x.1)) (fun x => (.t .bool (badC x.1)))
theorem ms_f61 : Meets Tryz.prog 61 (strip QPf) := Qag (R := runF g_f61 QC9 QP8 false) (mG Tryz.func61 (by kernel_rfl) Tryz.ntmps61 (by kernel_rfl) gk_f61 lk_f61) fun x hok => (e_f61 x.1).trans (s_f61 x.1 hok)
def okBad (l : List Qaa) : Bool := QaI l
theorem QGS {l : List Qaa} (h : okBad l = true) : l.length ≤ 100000 := Qev h
def ixBad (l : List Qaa) : Int := match fstG badC l with | some k => (k : Int) | none => -1
def Qdc : Fg := ⟨[(0, some (.sl Qab)), (1, none), (7, some tI), (8, some tI)], []⟩
noncomputable def Qey : TC := (.sq (.reg (rT Tryz.f90 2)) (.sq (.cd (.t 9) .sk (.fg ⟨[], []⟩ (.ex 0))) (.sq (.bk 1 (.sq (.reg (rT Tryz.f90 3)) (.sq (.reg (rT Tryz.f90 4)) (.cd (.t 16) (.sq (.reg (rT Tryz.f90 5)) (.fg ⟨[(4, some tI)], []⟩ .rt)) .sk)))) (.reg (rT Tryz.f90 6)))))
noncomputable def Qni : TC := (.sq (.reg (rT Tryz.f90 0)) (.sq (.sq (.reg (rT Tryz.f90 1)) (.bk 0 (.lp 0 Qdc Qey))) (.sq (.reg (rT Tryz.f90 7)) .rt)))
def Quk : List (RV × Option Ty) := [((.t 4), some tI)]
abbrev Qhl : Sh := ⟨[(0, .ty (.sl Qab)), (1, .cf 61), (7, .ty tI), (8, .ty tI)], []⟩
def Qhg (x0 : List Qaa) (x7 x8 : Int) : VS := Qhl.st (x0, (), x7, x8, ()) ()
abbrev QnV : Sh := ⟨[(4, .ty tI)], []⟩
def Qb4 (x4 : Int) : VS := QnV.st (x4, ()) ()
abbrev QpD : Sh := ⟨[], []⟩
def Qcs  : VS := QpD.st () ()
def QCr : VS → Option (Bool × List (Bool × Exit × VS)) := mkL Qhl (fun x y => (rngOk x.1 x.2.2.1 x.2.2.2.1 && okBad x.1)) (fun x y => [(((fstG badC (x.1.drop x.2.2.2.1.toNat)).isSome), .ret, Qb4 (x.2.2.2.1 + ((fstG badC (x.1.drop x.2.2.2.1.toNat)).getD 0 : Nat))), (true, .exit 0, Qcs)])
def Qd4 : G := ⟨TYs, [], 19, EL [(61, QPf)], keeps, (Ls [QCr]), IL [], RL []⟩
def Qqh (x0 : List Qaa) (x7 x8 : Int) : Option (Exit × VS) :=
 let a1 := lgt Qab x0 (Int.toNat x8)
 br (ilt x8 x7) (br (cIx x0 x8) (br (QaC a1) (br (badC a1) (some (.ret, Qb4 x8)) (some (.normal, Qhg x0 x7 (iadd .i64 x8 1)))) none) none) (some (.exit 0, Qcs))
noncomputable def Qfi (x0 : List Qaa) (x7 x8 : Int) : Option (Exit × VS) := loopF (Qaj Qd4 Qdc Qey) (Qhg x0 x7 x8)
noncomputable def QgK (x0 : List Qaa) (x7 x8 : Int) : Option (Exit × VS) :=
 let a1 := lgt Qab x0 (Int.toNat x8)
 br (ilt x8 x7) (br (cIx x0 x8) (br (QaC a1) (br (badC a1) (some (.ret, Qb4 x8)) (Qfi x0 x7 (iadd .i64 x8 1))) none) none) (some (.exit 0, Qcs))
def Qfo (x0 : List Qaa) (x7 x8 : Int) : Option (Exit × VS) :=
 let a1 := fstG badC (x0.drop x8.toNat)
 br (a1.isSome) (some (.ret, Qb4 (x8 + (a1.getD 0 : Nat)))) <| some (.exit 0, Qcs)
theorem QyV (x0 : List Qaa) (x7 x8 : Int) : Qaj Qd4 Qdc Qey (Qhg x0 x7 x8) = Qqh x0 x7 x8 := by kernel_rfl
theorem QoT (x0 : List Qaa) (x7 x8 : Int) : Qfi x0 x7 x8 = QgK x0 x7 x8 := (Qap _ _).trans (by
 rw [QyV]
 simp only [Qqh, QgK, QaB, nxt_n, nxt_r, nxt_e, nxt_0]
 rfl)
def QrI (p0 : List Qaa) : Option (V × List VO) :=
 let a1 := (fstG badC (p0.drop (0 : Int).toNat))
 br (rngOk p0 (llen p0) (0 : Int) && okBad p0) (br (a1.isSome) (some (.t tI ((0 : Int) + (a1.getD 0 : Nat)), [])) (some (.t tI (-1), []))) none
theorem QMZ (p0 : List Qaa) : runF Qd4 Qni Quk false [.t (.sl Qab) p0, .c (.func (.func 61) ⟨[]⟩ ⟨[]⟩)] [] = QrI p0 := by kernel_rfl
theorem QIJ : Qai Tryz.prog 90 := .inr ⟨by decide, _, Tryz.func90, by kernel_rfl, by kernel_rfl⟩
theorem QIq : GOk Tryz.prog Qd4 := Qal _ (gA (gC en_f61 ms_f61 gN))
theorem QB5 (x0 : List Qaa) (x7 x8 : Int) (h : (rngOk x0 x7 x8 && okBad x0) = true) : Qfi x0 x7 x8 = Qfo x0 x7 x8 := by
 simp only [Bool.and_eq_true] at h
 obtain ⟨h0, hc⟩ := h
 obtain ⟨rfl, h3, k, rfl, hk⟩ := rng_k h0
 clear h0
 refine Qas x0 (fun k => Qfi x0 (x0.length : Int) (k : Int) = Qfo x0 (x0.length : Int) (k : Int)) ?_ ?_ k hk
 ·rw [QoT]
  simp [QgK, Qfo, QaA, Qaf, fstG]
 ·intro k hk ih
  rw [QoT]
  have hx := Qpp hc hk
  simp only [QgK, QaA, Qaw, hk, decide_true, Qac, Int.toNat_natCast, add1 (show k < 4611686018427387904 by omega), ih, QaE (y := Qab) hk, hx]
  simp only [Qfo, Int.toNat_natCast, List.drop_eq_getElem_cons hk, fstG]
  cases h : (badC x0[k]) with
  | true => simp [Qac]
  | false =>
   simp only [Qaf, Bool.false_eq_true, if_false]
   cases hq : fstG badC (x0.drop (k + 1)) with
   | none => rfl
   | some j =>
    simp only [Option.map_some, Option.isSome_some, Option.getD_some, Qac]
    congr 3
    omega
theorem Qyl : ∀ S l p, Qd4.L 0 (fgt Qdc S) = some (true, l) → pickA l = some p → loopF (Qaj Qd4 Qdc Qey) S = some p :=
 QaD (s := Qhl) ⟨by decide, by decide⟩ (by kernel_rfl) fun x y hok p hp => by
 simp only [Qar, Qao] at hp
 exact (QB5 x.1 x.2.2.1 x.2.2.2.1 (by simpa using hok)).trans hp
theorem QHX : Qni.lok Qd4 := by
 repeat (first | exact trivial | exact Qyl | refine ⟨?_, ?_⟩)
theorem QK3 (l : List Qaa) (h : okBad l = true) : QrI l = some (.t tI (ixBad l), []) := by
 have hl := QGS h
 simp only [QrI, rng_0 hl, h, Bool.and_self, Qac, Int.toNat_zero, List.drop_zero, ixBad]
 cases fstG badC l <;> simp [Qac, Qaf]
def Qtf : Ent := specH [.ty (.sl Qab), .cf 61] [] (fun x d => (okBad x.1)) (fun x d => (.t tI (ixBad x.1)))
theorem QG2 : Meets Tryz.prog 90 (strip Qtf) := (Qbi (R := runF Qd4 Qni Quk false) (mG Tryz.func90 (by kernel_rfl) Tryz.ntmps90 (by kernel_rfl) QIq QHX) fun x d hok => (QMZ x.1).trans (QK3 x.1 hok))
def QjV (l : List Qaa) : Bool := l.any badC
noncomputable def Qnp : TC := (.sq (.reg (rT Tryz.f60 0)) (.sq (.reg (rT Tryz.f60 1)) .rt))
def Qur : List (RV × Option Ty) := [((.t 4), some .bool)]
def Qna : G := ⟨TYs, [], 9, EL [(90, Qtf)], keeps, (fun _ _ => none), IL [], RL []⟩
def QrN (p0 : List Qaa) : Option (V × List VO) := br (okBad p0) (some (.t .bool (ige (ixBad p0) 0), [])) none
theorem QM6 (p0 : List Qaa) : runF Qna Qnp Qur false [.t (.sl Qab) p0, .c (.func (.func 61) ⟨[]⟩ ⟨[]⟩)] [] = QrN p0 := by kernel_rfl
theorem QIS : Qai Tryz.prog 60 := .inr ⟨by decide, _, Tryz.func60, by kernel_rfl, by kernel_rfl⟩
theorem QIx : GOk Tryz.prog Qna := Qal _ (gA (gC QIJ QG2 gN))
theorem QH4 : Qnp.lok Qna := by repeat (first | exact trivial | refine ⟨?_, ?_⟩)
theorem QLa (l : List Qaa) (h : okBad l = true) : QrN l = some (.t .bool (QjV l), []) := by
 simp only [QrN, h, Qac]
 have e : ige (ixBad l) 0 = QjV l := by
  unfold ixBad QjV
  cases hq : fstG badC l with
  | none => rw [Qc9.1 hq]; rfl
  | some k =>
   rw [← Qda, hq]
   simp only [ige, Option.isSome_some, decide_eq_true_eq]
   omega
 rw [e]
def Qtm : Ent := specH [.ty (.sl Qab), .cf 61] [] (fun x d => (okBad x.1)) (fun x d => (.t .bool (QjV x.1)))
theorem QHb : Meets Tryz.prog 60 (strip Qtm) := (Qbi (R := runF Qna Qnp Qur false) (mG Tryz.func60 (by kernel_rfl) Tryz.ntmps60 (by kernel_rfl) QIx QH4) fun x d hok => (QM6 x.1).trans (QLa x.1 hok))
noncomputable def QC6 : TC := (.sq (.reg (rT Tryz.f64 0)) (.sq (.reg (rT Tryz.f64 1)) .rt))
def QP5 : List (RV × Option Ty) := [((.t 5), some .bool)]
def g_f64 : G := ⟨TYs, [], 11, EL [(65, QPc)], keeps, (fun _ _ => none), IL [], RL []⟩
def r_f64 (p0 : Qaa) (d0 : List Int) (d1 d2 : Int) : Option (V × List VO) := br (QkO p0 d0 d1 d2) (some (.t .bool (heldF p0 d0 d1 d2), [.box (.t (.sl tI) d0), .box (.t tI d1), .box (.t tI d2)])) none
theorem e_f64 (p0 : Qaa) (d0 : List Int) (d1 d2 : Int) : runF g_f64 QC6 QP5 false [.t Qab p0, .ptr 50000 0, .ptr 50001 0, .ptr 50002 0] [.box (.t (.sl tI) d0), .box (.t tI d1), .box (.t tI d2)] = r_f64 p0 d0 d1 d2 := by kernel_rfl
theorem en_f64 : Qai Tryz.prog 64 := .inr ⟨by decide, _, Tryz.func64, by kernel_rfl, by kernel_rfl⟩
theorem gk_f64 : GOk Tryz.prog g_f64 := Qal _ (gA (gC en_f65 ms_f65 gN))
theorem lk_f64 : QC6.lok g_f64 := by repeat (first | exact trivial | refine ⟨?_, ?_⟩)
theorem s_f64 (c : Qaa) (h : List Int) (d e : Int) (hok : QkO c h d e = true) : r_f64 c h d e = some (.t .bool (heldF c h d e), [.box (.t (.sl tI) h), .box (.t tI d), .box (.t tI e)]) := by
 simp only [r_f64, hok, Qac]
def QPd : Ent := QpU [.ty Qab, .ptr 50000 0, .ptr 50001 0, .ptr 50002 0] [(.sl tI), tI, tI] (fun x d => (QkO x.1 d.1 d.2.1 d.2.2.1)) (fun x d => (.t .bool (heldF x.1 d.1 d.2.1 d.2.2.1)))
theorem ms_f64 : Meets Tryz.prog 64 (strip QPd) := Qih (Qbi (R := runF g_f64 QC6 QP5 false) (mG Tryz.func64 (by kernel_rfl) Tryz.ntmps64 (by kernel_rfl) gk_f64 lk_f64) fun x d hok => (e_f64 x.1 d.1 d.2.1 d.2.2.1).trans (s_f64 x.1 d.1 d.2.1 d.2.2.1 hok))
def QcI (l : List Qaa) (h : List Int) (_d _e : Int) : Bool := decide (l.length ≤ 100000 ∧ h.length ≤ 100000)
theorem QBY {l : List Qaa} {h : List Int} {d e : Int} (hq : QcI l h d e = true) : l.length ≤ 100000 := (of_decide_eq_true hq).1
def Qp6 (l : List Qaa) (d0 : List Int) (d1 : Int) (d2 : Int) : Int := match fstG (fun c => heldF c d0 d1 d2) l with | some k => (k : Int) | none => -1
def Qdb : Fg := ⟨[(0, some (.sl Qab)), (1, none), (7, some tI), (8, some tI)], [(50000, some (.sl tI)), (50001, some tI), (50002, some tI)]⟩
noncomputable def Qex : TC := (.sq (.reg (rT Tryz.f90 2)) (.sq (.cd (.t 9) .sk (.fg ⟨[], [(50000, some (.sl tI)), (50001, some tI), (50002, some tI)]⟩ (.ex 0))) (.sq (.bk 1 (.sq (.reg (rT Tryz.f90 3)) (.sq (.reg (rT Tryz.f90 4)) (.cd (.t 16) (.sq (.reg (rT Tryz.f90 5)) (.fg ⟨[(4, some tI)], [(50000, some (.sl tI)), (50001, some tI), (50002, some tI)]⟩ .rt)) .sk)))) (.reg (rT Tryz.f90 6)))))
noncomputable def Qnh : TC := (.sq (.reg (rT Tryz.f90 0)) (.sq (.sq (.reg (rT Tryz.f90 1)) (.bk 0 (.lp 0 Qdb Qex))) (.sq (.reg (rT Tryz.f90 7)) .rt)))
def Quj : List (RV × Option Ty) := [((.t 4), some tI)]
abbrev Qhk : Sh := ⟨[(0, .ty (.sl Qab)), (1, .fn 64 [(50000, 0), (50001, 0), (50002, 0)]), (7, .ty tI), (8, .ty tI)], [(50000, .box (.sl tI)), (50001, .box tI), (50002, .box tI)]⟩
def Qhf (x0 : List Qaa) (x7 x8 : Int) (y50000 : List Int) (y50001 y50002 : Int) : VS := Qhk.st (x0, (), x7, x8, ()) (y50000, y50001, y50002, ())
abbrev QnU : Sh := ⟨[(4, .ty tI)], [(50000, .box (.sl tI)), (50001, .box tI), (50002, .box tI)]⟩
def Qb3 (x4 : Int) (y50000 : List Int) (y50001 y50002 : Int) : VS := QnU.st (x4, ()) (y50000, y50001, y50002, ())
abbrev QpC : Sh := ⟨[], [(50000, .box (.sl tI)), (50001, .box tI), (50002, .box tI)]⟩
def Qcr (y50000 : List Int) (y50001 y50002 : Int) : VS := QpC.st () (y50000, y50001, y50002, ())
def QCq : VS → Option (Bool × List (Bool × Exit × VS)) := mkL Qhk (fun x y => (rngOk x.1 x.2.2.1 x.2.2.2.1 && QcI x.1 y.1 y.2.1 y.2.2.1)) (fun x y => [(((fstG (fun c => heldF c y.1 y.2.1 y.2.2.1) (x.1.drop x.2.2.2.1.toNat)).isSome), .ret, Qb3 (x.2.2.2.1 + ((fstG (fun c => heldF c y.1 y.2.1 y.2.2.1) (x.1.drop x.2.2.2.1.toNat)).getD 0 : Nat)) (y.1) (y.2.1) (y.2.2.1)), (true, .exit 0, Qcr (y.1) (y.2.1) (y.2.2.1))])
def Qd3 : G := ⟨TYs, [], 19, EL [(64, QPd)], keeps, (Ls [QCq]), IL [], RL []⟩
def Qqg (x0 : List Qaa) (x7 x8 : Int) (y50000 : List Int) (y50001 y50002 : Int) : Option (Exit × VS) :=
 let a1 := lgt Qab x0 (Int.toNat x8)
 br (ilt x8 x7) (br (cIx x0 x8) (br (QkO a1 y50000 y50001 y50002) (br (heldF a1 y50000 y50001 y50002) (some (.ret, Qb3 x8 y50000 y50001 y50002)) (some (.normal, Qhf x0 x7 (iadd .i64 x8 1) y50000 y50001 y50002))) none) none) (some (.exit 0, Qcr y50000 y50001 y50002))
noncomputable def Qfh (x0 : List Qaa) (x7 x8 : Int) (y50000 : List Int) (y50001 y50002 : Int) : Option (Exit × VS) := loopF (Qaj Qd3 Qdb Qex) (Qhf x0 x7 x8 y50000 y50001 y50002)
noncomputable def QgJ (x0 : List Qaa) (x7 x8 : Int) (y50000 : List Int) (y50001 y50002 : Int) : Option (Exit × VS) :=
 let a1 := lgt Qab x0 (Int.toNat x8)
 br (ilt x8 x7) (br (cIx x0 x8) (br (QkO a1 y50000 y50001 y50002) (br (heldF a1 y50000 y50001 y50002) (some (.ret, Qb3 x8 y50000 y50001 y50002)) (Qfh x0 x7 (iadd .i64 x8 1) y50000 y50001 y50002)) none) none) (some (.exit 0, Qcr y50000 y50001 y50002))
def Qfn (x0 : List Qaa) (x7 x8 : Int) (y50000 : List Int) (y50001 y50002 : Int) : Option (Exit × VS) := br ((fstG (fun c => heldF c y50000 y50001 y50002) (x0.drop x8.toNat)).isSome) (some (.ret, Qb3 (x8 + ((fstG (fun c => heldF c y50000 y50001 y50002) (x0.drop x8.toNat)).getD 0 : Nat)) (y50000) (y50001) (y50002))) <| some (.exit 0, Qcr (y50000) (y50001) (y50002))
theorem QyU (x0 : List Qaa) (x7 x8 : Int) (y50000 : List Int) (y50001 y50002 : Int) : Qaj Qd3 Qdb Qex (Qhf x0 x7 x8 y50000 y50001 y50002) = Qqg x0 x7 x8 y50000 y50001 y50002 := by kernel_rfl
theorem QoS (x0 : List Qaa) (x7 x8 : Int) (y50000 : List Int) (y50001 y50002 : Int) : Qfh x0 x7 x8 y50000 y50001 y50002 = QgJ x0 x7 x8 y50000 y50001 y50002 := (Qap _ _).trans (by
 rw [QyU]
 simp only [Qqg, QgJ, QaB, nxt_n, nxt_r, nxt_e, nxt_0]
 rfl)
def QrH (p0 : List Qaa) (d0 : List Int) (d1 d2 : Int) : Option (V × List VO) :=
 let a1 := (p0.drop (0 : Int).toNat)
 br (rngOk p0 (llen p0) (0 : Int) && QcI p0 d0 d1 d2) (br ((fstG (fun c => heldF c d0 d1 d2) a1).isSome) (some (.t tI ((0 : Int) + ((fstG (fun c => heldF c d0 d1 d2) a1).getD 0 : Nat)), [.box (.t (.sl tI) (d0)), .box (.t tI (d1)), .box (.t tI (d2))])) (some (.t tI (-1), [.box (.t (.sl tI) (d0)), .box (.t tI (d1)), .box (.t tI (d2))]))) none
theorem QMY (p0 : List Qaa) (d0 : List Int) (d1 d2 : Int) : runF Qd3 Qnh Quj false [.t (.sl Qab) p0, .fn 64 [(.ptr 50000 0), (.ptr 50001 0), (.ptr 50002 0)]] [.box (.t (.sl tI) d0), .box (.t tI d1), .box (.t tI d2)] = QrH p0 d0 d1 d2 := by kernel_rfl
theorem QII : Qai Tryz.prog 90 := .inr ⟨by decide, _, Tryz.func90, by kernel_rfl, by kernel_rfl⟩
theorem QIp : GOk Tryz.prog Qd3 := Qal _ (gA (gC en_f64 ms_f64 gN))
theorem QB4 (x0 : List Qaa) (x7 x8 : Int) (y50000 : List Int) (y50001 y50002 : Int) (h : (rngOk x0 x7 x8 && QcI x0 y50000 y50001 y50002) = true) : Qfh x0 x7 x8 y50000 y50001 y50002 = Qfn x0 x7 x8 y50000 y50001 y50002 := by
 simp only [Bool.and_eq_true] at h
 obtain ⟨h0, hc⟩ := h
 obtain ⟨rfl, h3, k, rfl, hk⟩ := rng_k h0
 clear h0
 refine Qas x0 (fun k => Qfh x0 (x0.length : Int) (k : Int) y50000 y50001 y50002 = Qfn x0 (x0.length : Int) (k : Int) y50000 y50001 y50002) ?_ ?_ k hk
 ·rw [QoS]
  simp [QgJ, Qfn, QaA, Qaf, fstG]
 ·intro k hk ih
  rw [QoS]
  have hx := show QkO x0[k] y50000 y50001 y50002 = true from decide_eq_true (of_decide_eq_true hc).2
  simp only [QgJ, QaA, Qaw, hk, decide_true, Qac, Int.toNat_natCast, add1 (show k < 4611686018427387904 by omega), ih, QaE (y := Qab) hk, hx]
  simp only [Qfn, Int.toNat_natCast, List.drop_eq_getElem_cons hk, fstG]
  cases h : (heldF x0[k] y50000 y50001 y50002) with
  | true => simp [Qac]
  | false =>
   simp only [Qaf, Bool.false_eq_true, if_false]
   cases hq : fstG (fun c => heldF c y50000 y50001 y50002) (x0.drop (k + 1)) with
   | none => rfl
   | some j =>
    simp only [Option.map_some, Option.isSome_some, Option.getD_some, Qac]
    congr 3
    omega
theorem Qyk : ∀ S l p, Qd3.L 0 (fgt Qdb S) = some (true, l) → pickA l = some p → loopF (Qaj Qd3 Qdb Qex) S = some p :=
 QaD (s := Qhk) ⟨by decide, by decide⟩ (by kernel_rfl) fun x y hok p hp => by
 simp only [Qar, Qao] at hp
 exact (QB4 x.1 x.2.2.1 x.2.2.2.1 y.1 y.2.1 y.2.2.1 (by simpa using hok)).trans hp
theorem QHW : Qnh.lok Qd3 := by
 repeat (first | exact trivial | exact Qyk | refine ⟨?_, ?_⟩)
theorem QK2 (l : List Qaa) (d0 : List Int) (d1 d2 : Int) (h : QcI l d0 d1 d2 = true) : QrH l d0 d1 d2 = some (.t tI (Qp6 l d0 d1 d2), [.box (.t (.sl tI) d0), .box (.t tI d1), .box (.t tI d2)]) := by
 have hl := QBY h
 simp only [QrH, rng_0 hl, h, Bool.and_self, Qac, Int.toNat_zero, List.drop_zero, Qp6]
 cases fstG (fun c => heldF c d0 d1 d2) l <;> simp [Qac, Qaf]
def Qte : Ent := QpU [.ty (.sl Qab), .fn 64 [(50000, 0), (50001, 0), (50002, 0)]] [(.sl tI), tI, tI] (fun x d => (QcI x.1 d.1 d.2.1 d.2.2.1)) (fun x d => (.t tI (Qp6 x.1 d.1 d.2.1 d.2.2.1)))
theorem QG1 : Meets Tryz.prog 90 (strip Qte) := Qih (Qbi (R := runF Qd3 Qnh Quj false) (mG Tryz.func90 (by kernel_rfl) Tryz.ntmps90 (by kernel_rfl) QIp QHW) fun x d hok => (QMY x.1 d.1 d.2.1 d.2.2.1).trans (QK2 x.1 d.1 d.2.1 d.2.2.1 hok))
def Qbv (l : List Qaa) (d0 : List Int) (d1 : Int) (d2 : Int) : Bool := l.any (fun c => heldF c d0 d1 d2)
noncomputable def Qno : TC := (.sq (.reg (rT Tryz.f60 0)) (.sq (.reg (rT Tryz.f60 1)) .rt))
def Quq : List (RV × Option Ty) := [((.t 4), some .bool)]
def Qm9 : G := ⟨TYs, [], 9, EL [(90, Qte)], keeps, (fun _ _ => none), IL [], RL []⟩
def QrM (p0 : List Qaa) (d0 : List Int) (d1 d2 : Int) : Option (V × List VO) := br (QcI p0 d0 d1 d2) (some (.t .bool (ige (Qp6 p0 d0 d1 d2) 0), [.box (.t (.sl tI) d0), .box (.t tI d1), .box (.t tI d2)])) none
theorem QM5 (p0 : List Qaa) (d0 : List Int) (d1 d2 : Int) : runF Qm9 Qno Quq false [.t (.sl Qab) p0, .fn 64 [(.ptr 50000 0), (.ptr 50001 0), (.ptr 50002 0)]] [.box (.t (.sl tI) d0), .box (.t tI d1), .box (.t tI d2)] = QrM p0 d0 d1 d2 := by kernel_rfl
theorem QIR : Qai Tryz.prog 60 := .inr ⟨by decide, _, Tryz.func60, by kernel_rfl, by kernel_rfl⟩
theorem QIw : GOk Tryz.prog Qm9 := Qal _ (gA (gC QII QG1 gN))
theorem QH3 : Qno.lok Qm9 := by repeat (first | exact trivial | refine ⟨?_, ?_⟩)
theorem QK9 (l : List Qaa) (d0 : List Int) (d1 d2 : Int) (h : QcI l d0 d1 d2 = true) : QrM l d0 d1 d2 = some (.t .bool (Qbv l d0 d1 d2), [.box (.t (.sl tI) d0), .box (.t tI d1), .box (.t tI d2)]) := by
 simp only [QrM, h, Qac]
 have e : ige (Qp6 l d0 d1 d2) 0 = Qbv l d0 d1 d2 := by
  unfold Qp6 Qbv
  cases hq : fstG (fun c => heldF c d0 d1 d2) l with
  | none => rw [Qc9.1 hq]; rfl
  | some k =>
   rw [← Qda, hq]
   simp only [ige, Option.isSome_some, decide_eq_true_eq]
   omega
 rw [e]
def Qtl : Ent := QpU [.ty (.sl Qab), .fn 64 [(50000, 0), (50001, 0), (50002, 0)]] [(.sl tI), tI, tI] (fun x d => (QcI x.1 d.1 d.2.1 d.2.2.1)) (fun x d => (.t .bool (Qbv x.1 d.1 d.2.1 d.2.2.1)))
theorem QHa : Meets Tryz.prog 60 (strip Qtl) := Qih (Qbi (R := runF Qm9 Qno Quq false) (mG Tryz.func60 (by kernel_rfl) Tryz.ntmps60 (by kernel_rfl) QIw QH3) fun x d hok => (QM5 x.1 d.1 d.2.1 d.2.2.1).trans (QK9 x.1 d.1 d.2.1 d.2.2.1 hok))
end
end Go.Proofs.YtkngeegkjhipeaaGreat.K
