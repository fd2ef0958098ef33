import Derived.Test.YtkngeegkjhipeaaGreatN11
import Derived.Test.YtkngeegkjhipeaaGreatKV
set_option linter.unusedSimpArgs false
set_option linter.unusedVariables false
namespace Go.Proofs.YtkngeegkjhipeaaGreat.K
open Go.RowKit
noncomputable section
theorem QnI {l : List Qaa} (h : QaJ l = true) {k : Nat} (hk : k < l.length) : QaB l[k] = true := by
 simp only [QaJ, Bool.and_eq_true, List.all_eq_true] at h
 exact h.2 _ (List.getElem_mem hk)
theorem QnH {l : List Qaa} (h : QaJ l = true) : l.length ≤ 100000 := by
 simp only [QaJ, Bool.and_eq_true, decide_eq_true_eq] at h
 exact h.1
abbrev cAt (l : List Qaa) (k : Nat) : Qaa := l.getD k zCert
theorem QQ4 {l : List Qaa} {k : Nat} (hk : k < l.length) : cAt l k = l[k] := by
 simp only [cAt, List.getD_eq_getElem?_getD, List.getElem?_eq_getElem hk, Option.getD_some]
theorem QFY {l : List Qaa} (h : QaJ l = true) {k : Nat} (hk : k < l.length) : QaB (cAt l k) = true := by
 rw [QQ4 hk]
 exact QnI h hk
def pathF (l : List Qaa) (i : Int) : Bool := !ilt i 0 && (!ige i (llen l) && (ieq i 0 || ((cAt l i.toNat).2.2.2.2.2.2.2.2.1 && ige (cAt l i.toNat).2.2.2.2.2.2.2.2.2.1 (i - 1))))
def QmT (l : List Qaa) (_i : Int) : Bool := decide (l.length ≤ 100000)
theorem QDd (l : List Qaa) (i : Int) (h : QmT l i = true) : br (ilt i 0) (some (V.t .bool false, ([] : List VO))) (br (ige i (llen l)) (some (V.t .bool false, [])) (br (ieq i 0) (some (V.t .bool true, [])) (br (cIx l i) (br (lgt Qab l (Int.toNat i)).2.2.2.2.2.2.2.2.1 (br (cIx l i) (some (V.t .bool (ige (lgt Qab l (Int.toNat i)).2.2.2.2.2.2.2.2.2.1 (isub .i64 i 1)), [])) none) (some (V.t .bool false, []))) none))) = some (V.t .bool (pathF l i), []) := by
 simp only [QmT, decide_eq_true_eq] at h
 unfold pathF
 cases hi : ilt i 0 with
 | true => rfl
 | false =>
  have hn := of_decide_eq_false hi
  rw [Qae, Bool.not_false, Bool.true_and]
  cases h1 : ige i (llen l) with
  | true => rfl
  | false =>
   have h2 := of_decide_eq_false h1
   rw [Qae, Bool.not_false, Bool.true_and]
   cases h0 : ieq i 0 with
   | true => rfl
   | false =>
    have hl : llen l ≤ 100000 := by simp only [llen]; omega
    have hc : cIx l i = true := decide_eq_true ⟨by omega, by simp only [llen] at h2; omega⟩
    rw [Qae, Bool.false_or, hc, Qac, QbE (by omega)]
    exact brA rfl
noncomputable def Qzr : TC := (.sq (.reg (rT Tryz.f93 0)) (.sq (.sq (.reg (rT Tryz.f93 1)) (.cd (.t 12) (.sq (.reg (rT Tryz.f93 2)) .rt) .sk)) (.sq (.reg (rT Tryz.f93 3)) .rt)))
def QLq : List (RV × Option Ty) := [((.t 4), some .bool)]
def g_f93 : G := ⟨TYs, [], 32, EL [], keeps, (fun _ _ => none), IL [], RL []⟩
def r_f93 (p0 : List Qaa) (p1 : Int) : Option (V × List VO) :=
 let a1 := (((((((((lgt Qab p0 (Int.toNat p1)).2).2).2).2).2).2).2).2)
 br (ilt p1 0) (some (.t .bool false, [])) (br (ige p1 (llen p0)) (some (.t .bool false, [])) (br (ieq p1 0) (some (.t .bool true, [])) (br (cIx p0 p1) (br (a1.1) (br (cIx p0 p1) (some (.t .bool (ige ((a1.2).1) (isub .i64 p1 1)), [])) none) (some (.t .bool false, []))) none)))
theorem e_f93 (p0 : List Qaa) (p1 : Int) : runF g_f93 Qzr QLq false [.t (.sl Qab) p0, .t tI p1] [] = r_f93 p0 p1 := by kernel_rfl
theorem en_f93 : Qag Tryz.prog 93 := .inr ⟨by decide, _, Tryz.func93, by kernel_rfl, by kernel_rfl⟩
theorem gk_f93 : GOk Tryz.prog g_f93 := Qan _ (fun p hp => by cases hp)
theorem lk_f93 : Qzr.lok g_f93 := by repeat (first | exact trivial | refine ⟨?_, ?_⟩)
theorem s_f93 (l : List Qaa) (i : Int) (h : QmT l i = true) : r_f93 l i = some (.t .bool (pathF l i), []) := by
 simp only [r_f93]
 exact QDd l i h
def QKG : Ent := spec (.pr (.sl Qab) (.pr tI .nil)) (fun x => (QmT x.1 x.2.1)) (fun x => (.t .bool (pathF x.1 x.2.1)))
theorem ms_f93 : Meets Tryz.prog 93 (strip QKG) := Qaf (R := runF g_f93 Qzr QLq false) (mG Tryz.func93 (by kernel_rfl) Tryz.ntmps93 (by kernel_rfl) gk_f93 lk_f93) fun x hok => (e_f93 x.1 x.2.1).trans (s_f93 x.1 x.2.1 hok)
def Qps (l : List Qaa) (k : Nat) : Int := if k + 1 < l.length then (cAt l (k + 1)).2.2.2.2.1 else (cSeal (cAt l k)).1
def Qfk (l : List Qaa) (i : Int) : Int := Qps l i.toNat
def Qf8 (l : List Qaa) (i : Int) : Bool := decide (0 ≤ i ∧ i < l.length ∧ l.length ≤ 100000)
theorem add1N {k : Nat} (h : k < 4611686018427387904) : Int.toNat (iadd .i64 (k : Int) 1) = k + 1 := by rw [add1 h]; rfl
noncomputable def Qzp : TC := (.sq (.reg (rT Tryz.f95 0)) (.sq (.sq (.reg (rT Tryz.f95 1)) (.cd (.t 9) (.sq (.reg (rT Tryz.f95 2)) .rt) .sk)) (.sq (.reg (rT Tryz.f95 3)) .rt)))
def QLo : List (RV × Option Ty) := [((.t 4), some tI)]
def g_f95 : G := ⟨TYs, [], 22, EL [], keeps, (fun _ _ => none), IL [], RL []⟩
def r_f95 (p0 : List Qaa) (p1 : Int) : Option (V × List VO) :=
 let a1 := iadd .i64 p1 1
 br (ilt a1 (llen p0)) (br (cIx p0 a1) (some (.t tI ((((((lgt Qab p0 (Int.toNat a1)).2).2).2).2).1), [])) none) (br (cIx p0 p1) (some (.t tI ((((((((((((((lgt Qab p0 (Int.toNat p1)).2).2).2).2).2).2).2).2).2).2).2).1).1), [])) none)
theorem e_f95 (p0 : List Qaa) (p1 : Int) : runF g_f95 Qzp QLo false [.t (.sl Qab) p0, .t tI p1] [] = r_f95 p0 p1 := by kernel_rfl
theorem en_f95 : Qag Tryz.prog 95 := .inr ⟨by decide, _, Tryz.func95, by kernel_rfl, by kernel_rfl⟩
theorem gk_f95 : GOk Tryz.prog g_f95 := Qan _ (fun p hp => by cases hp)
theorem lk_f95 : Qzp.lok g_f95 := by repeat (first | exact trivial | refine ⟨?_, ?_⟩)
theorem s_f95 (l : List Qaa) (i : Int) (h : Qf8 l i = true) : r_f95 l i = some (.t tI (Qfk l i), []) := by
 simp only [Qf8, decide_eq_true_eq] at h
 obtain ⟨h1, h2, h3⟩ := h
 obtain ⟨k, rfl⟩ := Int.eq_ofNat_of_zero_le h1
 simp only [r_f95, add1N (show k < 4611686018427387904 by omega), add1 (show k < 4611686018427387904 by omega), Qay, Int.toNat_natCast]
 unfold Qfk Qps
 rw [Int.toNat_natCast]
 by_cases hk : k + 1 < l.length
 ·rw [show ilt ((k + 1 : Nat) : Int) (llen l) = true from decide_eq_true (by simp only [llen]; omega), Qac, decide_eq_true hk, Qac, if_pos hk]
 ·rw [show ilt ((k + 1 : Nat) : Int) (llen l) = false from decide_eq_false (by simp only [llen]; omega), Qae, decide_eq_true (show k < l.length by omega), Qac, if_neg hk]
def QKE : Ent := spec (.pr (.sl Qab) (.pr tI .nil)) (fun x => (Qf8 x.1 x.2.1)) (fun x => (.t tI (Qfk x.1 x.2.1)))
theorem ms_f95 : Meets Tryz.prog 95 (strip QKE) := Qaf (R := runF g_f95 Qzp QLo false) (mG Tryz.func95 (by kernel_rfl) Tryz.ntmps95 (by kernel_rfl) gk_f95 lk_f95) fun x hok => (e_f95 x.1 x.2.1).trans (s_f95 x.1 x.2.1 hok)
def QvF (l : List Qaa) (e : Int) (k : Nat) : Bool :=
 bif ieq e 11 then decide (k + 1 < l.length) && sne (cAt l k).2.1 (cAt l (k + 1)).2.2.1
 else bif ieq e 15 then !pathF l k else !Qi6 (cAt l k) (Qps l k)
def Qgz (l : List Qaa) (e : Int) (k : Nat) : Bool := (List.range' k (l.length - k)).any (QvF l e)
def Qc1 (l : List Qaa) (e : Int) : Bool := Qgz l e 0
theorem QyP (l : List Qaa) (e : Int) : Qgz l e l.length = false := by
 unfold Qgz
 rw [Nat.sub_self]
 rfl
theorem QvG {l : List Qaa} {e : Int} {k : Nat} (hk : k < l.length) : Qgz l e k = (QvF l e k || Qgz l e (k + 1)) := by
 have : l.length - k = (l.length - (k + 1)) + 1 := by omega
 unfold Qgz
 rw [this, List.range'_succ, List.any_cons]
def Qnu (l : List Qaa) (_e : Int) : Bool := QaJ l
noncomputable def QJq : List DO := dT Tryz.f66 7
noncomputable def QJp : List DO := dT Tryz.f66 10
def Qiw : Fg := ⟨[(0, some (.sl Qab)), (1, some tI), (8, some tI), (9, some tI)], []⟩
noncomputable def Qke : TC := (.sq (.reg (rT Tryz.f66 2)) (.sq (.cd (.t 10) .sk (.fg ⟨[], []⟩ (.ex 0))) (.sq (.bk 1 (.sq (.reg (rT Tryz.f66 3)) (.sq (.reg (rT Tryz.f66 4)) (.sq (.sq (.reg (rT Tryz.f66 5)) (.bk 2 (.sq (.reg (rT Tryz.f66 6)) (.cd (.t 22) (.dr QJq [(0, []), (1, []), (2, []), (3, []), (4, []), (5, []), (6, []), (7, []), (8, []), (9, []), (10, []), (11, []), (12, []), (13, []), (14, []), (15, []), (16, []), (17, []), (18, []), (19, [])] (.of [0, 1, 2, 3, 4, 5, 6, 7, 8, 9, 10, 11, 12, 13, 14, 15, 16, 17, 18, 19])) (.sq (.reg (rT Tryz.f66 8)) (.cd (.t 43) (.reg (rT Tryz.f66 9)) (.dr QJp [(0, []), (1, []), (2, []), (3, []), (4, []), (5, []), (6, []), (7, []), (8, []), (9, [])] (.of [0, 1, 2, 3, 4, 5, 6, 7, 8, 9])))))))) (.sq (.reg (rT Tryz.f66 11)) (.cd (.t 49) (.sq (.reg (rT Tryz.f66 12)) (.fg ⟨[(4, some .bool)], []⟩ .rt)) .sk)))))) (.reg (rT Tryz.f66 13)))))
noncomputable def QzI : TC := (.sq (.reg (rT Tryz.f66 0)) (.sq (.sq (.reg (rT Tryz.f66 1)) (.bk 0 (.lp 0 Qiw Qke))) (.sq (.reg (rT Tryz.f66 14)) .rt)))
def QLH : List (RV × Option Ty) := [((.t 4), some .bool)]
abbrev Qo7 : Sh := ⟨[(0, .ty (.sl Qab)), (1, .ty tI), (8, .ty tI), (9, .ty tI)], []⟩
def QfX (x0 : List Qaa) (x1 x8 x9 : Int) : VS := Qo7.st (x0, x1, x8, x9, ()) ()
abbrev Qrk : Sh := ⟨[(4, .ty .bool)], []⟩
def Qa4 (x4 : Bool) : VS := Qrk.st (x4, ()) ()
abbrev QuA : Sh := ⟨[], []⟩
def Qel  : VS := QuA.st () ()
def QRm : VS → Option (Bool × List (Bool × Exit × VS)) := mkL Qo7 (fun x y => (decide (x.2.2.1 = x.1.length ∧ 0 ≤ x.2.2.2.1 ∧ x.2.2.2.1 ≤ x.2.2.1) && QaJ x.1)) (fun x y => [((Qgz x.1 x.2.1 x.2.2.2.1.toNat), .ret, Qa4 (true)), (true, .exit 0, Qel)])
def g_f66 : G := ⟨TYs, [], 51, EL [(93, QKG), (94, QKF), (95, QKE)], keeps, (Ls [QRm]), IL [], RL []⟩
def QGA (x0 : List Qaa) (x1 x8 x9 : Int) : Option (Exit × VS) :=
 let a1 := iadd .i64 x9 1
 let a2 := lgt Qab x0 (Int.toNat x9)
 br (ilt x9 x8) (br (ieq x1 11) (br (ilt a1 (llen x0)) (br (cIx x0 x9) (br (cIx x0 a1) (br (sne ((a2.2).1) ((((lgt Qab x0 (Int.toNat a1)).2).2).1)) (some (.ret, Qa4 true)) (some (.normal, QfX x0 x1 x8 a1))) none) none) (some (.normal, QfX x0 x1 x8 a1))) (br (ieq x1 15) (br (QmT x0 x9) (br (!(pathF x0 x9)) (some (.ret, Qa4 true)) (some (.normal, QfX x0 x1 x8 a1))) none) (br (cIx x0 x9) (br (Qf8 x0 x9) (br (Qbu a2 (Qfk x0 x9)) (br (!(Qi6 a2 (Qfk x0 x9))) (some (.ret, Qa4 true)) (some (.normal, QfX x0 x1 x8 a1))) none) none) none))) (some (.exit 0, Qel))
noncomputable def QeH (x0 : List Qaa) (x1 x8 x9 : Int) : Option (Exit × VS) := loopF (Qaj g_f66 Qiw Qke) (QfX x0 x1 x8 x9)
noncomputable def QpZ (x0 : List Qaa) (x1 x8 x9 : Int) : Option (Exit × VS) :=
 let a1 := iadd .i64 x9 1
 let a2 := lgt Qab x0 (Int.toNat x9)
 br (ilt x9 x8) (br (ieq x1 11) (br (ilt a1 (llen x0)) (br (cIx x0 x9) (br (cIx x0 a1) (br (sne ((a2.2).1) ((((lgt Qab x0 (Int.toNat a1)).2).2).1)) (some (.ret, Qa4 true)) (QeH x0 x1 x8 a1)) none) none) (QeH x0 x1 x8 a1)) (br (ieq x1 15) (br (QmT x0 x9) (br (!(pathF x0 x9)) (some (.ret, Qa4 true)) (QeH x0 x1 x8 a1)) none) (br (cIx x0 x9) (br (Qf8 x0 x9) (br (Qbu a2 (Qfk x0 x9)) (br (!(Qi6 a2 (Qfk x0 x9))) (some (.ret, Qa4 true)) (QeH x0 x1 x8 a1)) none) none) none))) (some (.exit 0, Qel))
def Qlb (x0 : List Qaa) (x1 x8 x9 : Int) : Option (Exit × VS) := br (Qgz x0 x1 x9.toNat) (some (.ret, Qa4 (true))) <| some (.exit 0, Qel)
theorem QJV (x0 : List Qaa) (x1 x8 x9 : Int) : Qaj g_f66 Qiw Qke (QfX x0 x1 x8 x9) = QGA x0 x1 x8 x9 := by kernel_rfl
theorem QwG (x0 : List Qaa) (x1 x8 x9 : Int) : QeH x0 x1 x8 x9 = QpZ x0 x1 x8 x9 := (Qaq _ _).trans (by
 rw [QJV]
 simp only [QGA, QpZ, QaE, nxt_n, nxt_r, nxt_e, nxt_0]
 rfl)
def r_f66 (p0 : List Qaa) (p1 : Int) : Option (V × List VO) := br (decide ((llen p0) = p0.length ∧ 0 ≤ (0 : Int) ∧ (0 : Int) ≤ (llen p0)) && QaJ p0) (br (Qgz p0 p1 (0 : Int).toNat) (some (.t .bool (true), [])) (some (.t .bool false, []))) none
theorem e_f66 (p0 : List Qaa) (p1 : Int) : runF g_f66 QzI QLH false [.t (.sl Qab) p0, .t tI p1] [] = r_f66 p0 p1 := by kernel_rfl
theorem en_f66 : Qag Tryz.prog 66 := .inr ⟨by decide, _, Tryz.func66, by kernel_rfl, by kernel_rfl⟩
theorem gk_f66 : GOk Tryz.prog g_f66 := Qan _ (gA (gC en_f93 ms_f93 (gC en_f94 ms_f94 (gC en_f95 ms_f95 gN))))
theorem QPh (x0 : List Qaa) (x1 x8 x9 : Int) (h : (decide (x8 = x0.length ∧ 0 ≤ x9 ∧ x9 ≤ x8) && QaJ x0) = true) : QeH x0 x1 x8 x9 = Qlb x0 x1 x8 x9 := by
 simp only [Bool.and_eq_true, decide_eq_true_eq] at h
 obtain ⟨⟨rfl, h0, h1⟩, hc⟩ := h
 obtain ⟨k, rfl⟩ := Int.eq_ofNat_of_zero_le h0
 have hl := QnH hc
 refine Qav x0 (fun k => QeH x0 x1 (x0.length : Int) (k : Int) = Qlb x0 x1 (x0.length : Int) (k : Int)) ?_ ?_ k (by omega)
 ·rw [QwG]
  simp only [QpZ, Qlb, Qaz, Nat.lt_irrefl, decide_false, Qae, Int.toNat_natCast, QyP]
 ·intro k hk ih
  rw [QwG]
  have hx := QnI hc hk
  have hs : Qf8 x0 (k : Int) = true := decide_eq_true (by omega)
  have hp : QmT x0 (k : Int) = true := decide_eq_true hl
  simp only [QpZ, Qaz, Qay, hk, decide_true, Qac, Int.toNat_natCast, add1N (show k < 4611686018427387904 by omega), add1 (show k < 4611686018427387904 by omega), hs, hp, ih, show lgt Qab x0 k = cAt x0 k from rfl, show ∀ q, Qbu (cAt x0 k) q = true from fun q => QFY hc hk, Qfk]
  simp only [Qlb, Int.toNat_natCast, QvG hk, QvF]
  cases h1 : ieq x1 11 with
  | true =>
   rw [Qac, cond_true]
   by_cases hk2 : k + 1 < x0.length
   ·rw [decide_eq_true hk2, Qac, Qac, Bool.true_and]
    show br (sne (cAt x0 k).2.1 (cAt x0 (k + 1)).2.2.1) _ _ = _
    cases sne (cAt x0 k).2.1 (cAt x0 (k + 1)).2.2.1 <;> rfl
   ·rw [decide_eq_false hk2, Qae, Bool.false_and, Bool.false_or]
  | false =>
   rw [Qae, cond_false]
   cases h2 : ieq x1 15 with
   | true =>
    rw [Qac, cond_true]
    cases pathF x0 (k : Int) <;> rfl
   | false =>
    rw [Qae, cond_false]
    cases Qi6 (cAt x0 k) (Qps x0 k) <;> rfl
theorem QH0 : ∀ S l p, g_f66.L 0 (fgt Qiw S) = some (true, l) → pickA l = some p → loopF (Qaj g_f66 Qiw Qke) S = some p :=
 QaF (s := Qo7) ⟨by decide, by decide⟩ (by kernel_rfl) fun x y hok p hp => by
 simp only [Qas, Qap] at hp
 exact (QPh x.1 x.2.1 x.2.2.1 x.2.2.2.1 (by simpa using hok)).trans hp
theorem lk_f66 : QzI.lok g_f66 := by
 repeat (first | exact trivial | exact QH0 | refine ⟨?_, ?_⟩)
theorem s_f66 (l : List Qaa) (e : Int) (h : Qnu l e = true) : r_f66 l e = some (.t .bool (Qc1 l e), []) := by
 have h : QaJ l = true := h
 simp only [r_f66, h, Bool.and_true, Int.toNat_zero]
 rw [decide_eq_true ⟨trivial, Int.le_refl 0, by simp only [llen]; omega⟩, Qac]
 unfold Qc1
 cases Qgz l e 0 <;> rfl
def QKS : Ent := spec (.pr (.sl Qab) (.pr tI .nil)) (fun x => (Qnu x.1 x.2.1)) (fun x => (.t .bool (Qc1 x.1 x.2.1)))
theorem ms_f66 : Meets Tryz.prog 66 (strip QKS) := Qaf (R := runF g_f66 QzI QLH false) (mG Tryz.func66 (by kernel_rfl) Tryz.ntmps66 (by kernel_rfl) gk_f66 lk_f66) fun x hok => (e_f66 x.1 x.2.1).trans (s_f66 x.1 x.2.1 hok)
def heldF (c : Qaa) (h : List Int) (d e : Int) : Bool := bif ieq e 13 then ilt d c.2.2.2.2.2.2.1 || ige d c.2.2.2.2.2.2.2.1 else !hasF h c.2.2.2.2.2.1.1
def QjI (_c : Qaa) (h : List Int) (_d _e : Int) : Bool := decide (h.length ≤ 100000)
noncomputable def QzJ : TC := (.sq (.reg (rT Tryz.f65 0)) (.sq (.sq (.reg (rT Tryz.f65 1)) (.cd (.t 10) (.sq (.reg (rT Tryz.f65 2)) .rt) .sk)) (.sq (.reg (rT Tryz.f65 3)) .rt)))
def QLI : List (RV × Option Ty) := [((.t 8), some .bool)]
def g_f65 : G := ⟨TYs, [], 27, EL [(59, Qoa)], keeps, (fun _ _ => none), IL [], RL []⟩
def r_f65 (p0 : Qaa) (p1 : List Int) (p2 p3 : Int) : Option (V × List VO) := br (ieq p3 13) (br (ilt p2 p0.2.2.2.2.2.2.1) (some (.t .bool true, [])) (some (.t .bool (ige p2 p0.2.2.2.2.2.2.2.1), []))) (br (QaY p1 p0.2.2.2.2.2.1.1) (some (.t .bool (!(hasF p1 p0.2.2.2.2.2.1.1)), [])) none)
theorem e_f65 (p0 : Qaa) (p1 : List Int) (p2 p3 : Int) : runF g_f65 QzJ QLI false [.t Qab p0, .t (.sl tI) p1, .t tI p2, .t tI p3] [] = r_f65 p0 p1 p2 p3 := by kernel_rfl
theorem en_f65 : Qag Tryz.prog 65 := .inr ⟨by decide, _, Tryz.func65, by kernel_rfl, by kernel_rfl⟩
theorem gk_f65 : GOk Tryz.prog g_f65 := Qan _ (gA (gC Qs1 Qsf gN))
theorem lk_f65 : QzJ.lok g_f65 := by repeat (first | exact trivial | refine ⟨?_, ?_⟩)
theorem s_f65 (c : Qaa) (h : List Int) (d e : Int) (hok : QjI c h d e = true) : r_f65 c h d e = some (.t .bool (heldF c h d e), []) := by
 simp only [r_f65, show ∀ v, QaY h v = true from fun _ => hok, Qac]
 unfold heldF
 cases ieq e 13 with
 | false => rfl
 | true =>
  rw [Qac, cond_true]
  cases ilt d c.2.2.2.2.2.2.1 <;> rfl
def QKT : Ent := spec (.pr Qab (.pr (.sl tI) (.pr tI (.pr tI .nil)))) (fun x => (QjI x.1 x.2.1 x.2.2.1 x.2.2.2.1)) (fun x => (.t .bool (heldF x.1 x.2.1 x.2.2.1 x.2.2.2.1)))
theorem ms_f65 : Meets Tryz.prog 65 (strip QKT) := Qaf (R := runF g_f65 QzJ QLI false) (mG Tryz.func65 (by kernel_rfl) Tryz.ntmps65 (by kernel_rfl) gk_f65 lk_f65) fun x hok => (e_f65 x.1 x.2.1 x.2.2.1 x.2.2.2.1).trans (s_f65 x.1 x.2.1 x.2.2.1 x.2.2.2.1 hok)
def badC (c : Qaa) : Bool := !QaC c
noncomputable def QzN : TC := (.sq (.reg (rT Tryz.f61 0)) (.sq (.reg (rT Tryz.f61 1)) .rt))
def QLM : List (RV × Option Ty) := [((.t 2), some .bool)]
def g_f61 : G := ⟨TYs, [], 6, EL [(62, QAy)], keeps, (fun _ _ => none), IL [], RL []⟩
def r_f61 (p0 : Qaa) : Option (V × List VO) := br (QaB p0) (some (.t .bool (ine (Qd6 p0) 0), [])) none
theorem e_f61 (p0 : Qaa) : runF g_f61 QzN QLM false [.t Qab p0] [] = r_f61 p0 := by kernel_rfl
theorem en_f61 : Qag Tryz.prog 61 := .inr ⟨by decide, _, Tryz.func61, by kernel_rfl, by kernel_rfl⟩
theorem gk_f61 : GOk Tryz.prog g_f61 := Qan _ (gA (gC QMS QMB gN))
theorem lk_f61 : QzN.lok g_f61 := by repeat (first | exact trivial | refine ⟨?_, ?_⟩)
theorem s_f61 (c : Qaa) (h : QaB c = true) : r_f61 c = some (.t .bool (badC c), []) := by
 simp only [r_f61, h, Qac, QfU]
 rfl
def QKW : Ent := spec (.pr Qab .nil) (fun x => (QaB x.1)) (fun x => (.t .bool (badC x.1)))
theorem ms_f61 : Meets Tryz.prog 61 (strip QKW) := Qaf (R := runF g_f61 QzN QLM false) (mG Tryz.func61 (by kernel_rfl) Tryz.ntmps61 (by kernel_rfl) gk_f61 lk_f61) fun x hok => (e_f61 x.1).trans (s_f61 x.1 hok)
def okBad (l : List Qaa) : Bool := QaJ l
theorem QDh {l : List Qaa} (h : okBad l = true) : l.length ≤ 100000 := QnH h
def ixBad (l : List Qaa) : Int := match fstG badC l with | some k => (k : Int) | none => -1
def QcY : Fg := ⟨[(0, some (.sl Qab)), (1, none), (7, some tI), (8, some tI)], []⟩
noncomputable def Qd9 : TC := (.sq (.reg (rT Tryz.f90 2)) (.sq (.cd (.t 9) .sk (.fg ⟨[], []⟩ (.ex 0))) (.sq (.bk 1 (.sq (.reg (rT Tryz.f90 3)) (.sq (.reg (rT Tryz.f90 4)) (.cd (.t 16) (.sq (.reg (rT Tryz.f90 5)) (.fg ⟨[(4, some tI)], []⟩ .rt)) .sk)))) (.reg (rT Tryz.f90 6)))))
noncomputable def QlA : TC := (.sq (.reg (rT Tryz.f90 0)) (.sq (.sq (.reg (rT Tryz.f90 1)) (.bk 0 (.lp 0 QcY Qd9))) (.sq (.reg (rT Tryz.f90 7)) .rt)))
def QrM : List (RV × Option Ty) := [((.t 4), some tI)]
abbrev QgJ : Sh := ⟨[(0, .ty (.sl Qab)), (1, .cf 61), (7, .ty tI), (8, .ty tI)], []⟩
def QgE (x0 : List Qaa) (x7 x8 : Int) : VS := QgJ.st (x0, (), x7, x8, ()) ()
abbrev Qmf : Sh := ⟨[(4, .ty tI)], []⟩
def QbS (x4 : Int) : VS := Qmf.st (x4, ()) ()
abbrev QnT : Sh := ⟨[], []⟩
def Qce  : VS := QnT.st () ()
def Qy9 : VS → Option (Bool × List (Bool × Exit × VS)) := mkL QgJ (fun x y => (rngOk x.1 x.2.2.1 x.2.2.2.1 && okBad x.1)) (fun x y => [(((fstG badC (x.1.drop x.2.2.2.1.toNat)).isSome), .ret, QbS (x.2.2.2.1 + ((fstG badC (x.1.drop x.2.2.2.1.toNat)).getD 0 : Nat))), (true, .exit 0, Qce)])
def QdG : G := ⟨TYs, [], 19, EL [(61, QKW)], keeps, (Ls [Qy9]), IL [], RL []⟩
def Qot (x0 : List Qaa) (x7 x8 : Int) : Option (Exit × VS) :=
 let a1 := lgt Qab x0 (Int.toNat x8)
 br (ilt x8 x7) (br (cIx x0 x8) (br (QaB a1) (br (badC a1) (some (.ret, QbS x8)) (some (.normal, QgE x0 x7 (iadd .i64 x8 1)))) none) none) (some (.exit 0, Qce))
noncomputable def QeG (x0 : List Qaa) (x7 x8 : Int) : Option (Exit × VS) := loopF (Qaj QdG QcY Qd9) (QgE x0 x7 x8)
noncomputable def Qga (x0 : List Qaa) (x7 x8 : Int) : Option (Exit × VS) :=
 let a1 := lgt Qab x0 (Int.toNat x8)
 br (ilt x8 x7) (br (cIx x0 x8) (br (QaB a1) (br (badC a1) (some (.ret, QbS x8)) (QeG x0 x7 (iadd .i64 x8 1))) none) none) (some (.exit 0, Qce))
def QeM (x0 : List Qaa) (x7 x8 : Int) : Option (Exit × VS) :=
 let a1 := fstG badC (x0.drop x8.toNat)
 br (a1.isSome) (some (.ret, QbS (x8 + (a1.getD 0 : Nat)))) <| some (.exit 0, Qce)
theorem QvY (x0 : List Qaa) (x7 x8 : Int) : Qaj QdG QcY Qd9 (QgE x0 x7 x8) = Qot x0 x7 x8 := by kernel_rfl
theorem Qnb (x0 : List Qaa) (x7 x8 : Int) : QeG x0 x7 x8 = Qga x0 x7 x8 := (Qaq _ _).trans (by
 rw [QvY]
 simp only [Qot, Qga, QaE, nxt_n, nxt_r, nxt_e, nxt_0]
 rfl)
def Qpy (p0 : List Qaa) : Option (V × List VO) :=
 let a1 := (fstG badC (p0.drop (0 : Int).toNat))
 br (rngOk p0 (llen p0) (0 : Int) && okBad p0) (br (a1.isSome) (some (.t tI ((0 : Int) + (a1.getD 0 : Nat)), [])) (some (.t tI (-1), []))) none
theorem QI8 (p0 : List Qaa) : runF QdG QlA QrM false [.t (.sl Qab) p0, .c (.func (.func 61) ⟨[]⟩ ⟨[]⟩)] [] = Qpy p0 := by kernel_rfl
theorem QE8 : Qag Tryz.prog 90 := .inr ⟨by decide, _, Tryz.func90, by kernel_rfl, by kernel_rfl⟩
theorem QEO : GOk Tryz.prog QdG := Qan _ (gA (gC en_f61 ms_f61 gN))
theorem QyJ (x0 : List Qaa) (x7 x8 : Int) (h : (rngOk x0 x7 x8 && okBad x0) = true) : QeG x0 x7 x8 = QeM x0 x7 x8 := by
 simp only [Bool.and_eq_true] at h
 obtain ⟨h0, hc⟩ := h
 obtain ⟨rfl, h3, k, rfl, hk⟩ := rng_k h0
 clear h0
 refine Qav x0 (fun k => QeG x0 (x0.length : Int) (k : Int) = QeM x0 (x0.length : Int) (k : Int)) ?_ ?_ k hk
 ·rw [Qnb]
  simp [Qga, QeM, Qaz, Qae, fstG]
 ·intro k hk ih
  rw [Qnb]
  have hx := QnI hc hk
  simp only [Qga, Qaz, Qay, hk, decide_true, Qac, Int.toNat_natCast, add1 (show k < 4611686018427387904 by omega), ih, QaG (y := Qab) hk, hx]
  simp only [QeM, Int.toNat_natCast, List.drop_eq_getElem_cons hk, fstG]
  cases h : (badC x0[k]) with
  | true => simp [Qac]
  | false =>
   simp only [Qae, Bool.false_eq_true, if_false]
   cases hq : fstG badC (x0.drop (k + 1)) with
   | none => rfl
   | some j =>
    simp only [Option.map_some, Option.isSome_some, Option.getD_some, Qac]
    congr 3
    omega
theorem Qvq : ∀ S l p, QdG.L 0 (fgt QcY S) = some (true, l) → pickA l = some p → loopF (Qaj QdG QcY Qd9) S = some p :=
 QaF (s := QgJ) ⟨by decide, by decide⟩ (by kernel_rfl) fun x y hok p hp => by
 simp only [Qas, Qap] at hp
 exact (QyJ x.1 x.2.2.1 x.2.2.2.1 (by simpa using hok)).trans hp
theorem QEi : QlA.lok QdG := by
 repeat (first | exact trivial | exact Qvq | refine ⟨?_, ?_⟩)
theorem QHj (l : List Qaa) (h : okBad l = true) : Qpy l = some (.t tI (ixBad l), []) := by
 have hl := QDh h
 simp only [Qpy, rng_0 hl, h, Bool.and_self, Qac, Int.toNat_zero, List.drop_zero, ixBad]
 cases fstG badC l <;> simp [Qac, Qae]
def QqW : Ent := specH [.ty (.sl Qab), .cf 61] [] (fun x d => (okBad x.1)) (fun x d => (.t tI (ixBad x.1)))
theorem QDr : Meets Tryz.prog 90 (strip QqW) := (Qbb (R := runF QdG QlA QrM false) (mG Tryz.func90 (by kernel_rfl) Tryz.ntmps90 (by kernel_rfl) QEO QEi) fun x d hok => (QI8 x.1).trans (QHj x.1 hok))
def QnO (l : List Qaa) : Bool := l.any badC
noncomputable def QlH : TC := (.sq (.reg (rT Tryz.f60 0)) (.sq (.reg (rT Tryz.f60 1)) .rt))
def QrT : List (RV × Option Ty) := [((.t 4), some .bool)]
def Qlr : G := ⟨TYs, [], 9, EL [(90, QqW)], keeps, (fun _ _ => none), IL [], RL []⟩
def QpD (p0 : List Qaa) : Option (V × List VO) := br (okBad p0) (some (.t .bool (ige (ixBad p0) 0), [])) none
theorem QJf (p0 : List Qaa) : runF Qlr QlH QrT false [.t (.sl Qab) p0, .c (.func (.func 61) ⟨[]⟩ ⟨[]⟩)] [] = QpD p0 := by kernel_rfl
theorem QFg : Qag Tryz.prog 60 := .inr ⟨by decide, _, Tryz.func60, by kernel_rfl, by kernel_rfl⟩
theorem QEV : GOk Tryz.prog Qlr := Qan _ (gA (gC QE8 QDr gN))
theorem QEp : QlH.lok Qlr := by repeat (first | exact trivial | refine ⟨?_, ?_⟩)
theorem QHq (l : List Qaa) (h : okBad l = true) : QpD l = some (.t .bool (QnO l), []) := by
 simp only [QpD, h, Qac]
 have e : ige (ixBad l) 0 = QnO l := by
  unfold ixBad QnO
  cases hq : fstG badC l with
  | none => rw [Qcr.1 hq]; rfl
  | some k =>
   rw [← QcW, hq]
   simp only [ige, Option.isSome_some, decide_eq_true_eq]
   omega
 rw [e]
def Qq3 : Ent := specH [.ty (.sl Qab), .cf 61] [] (fun x d => (okBad x.1)) (fun x d => (.t .bool (QnO x.1)))
theorem QDz : Meets Tryz.prog 60 (strip Qq3) := (Qbb (R := runF Qlr QlH QrT false) (mG Tryz.func60 (by kernel_rfl) Tryz.ntmps60 (by kernel_rfl) QEV QEp) fun x d hok => (QJf x.1).trans (QHq x.1 hok))
noncomputable def QzK : TC := (.sq (.reg (rT Tryz.f64 0)) (.sq (.reg (rT Tryz.f64 1)) .rt))
def QLJ : List (RV × Option Ty) := [((.t 5), some .bool)]
def g_f64 : G := ⟨TYs, [], 11, EL [(65, QKT)], keeps, (fun _ _ => none), IL [], RL []⟩
def r_f64 (p0 : Qaa) (d0 : List Int) (d1 d2 : Int) : Option (V × List VO) := br (QjI p0 d0 d1 d2) (some (.t .bool (heldF p0 d0 d1 d2), [.box (.t (.sl tI) d0), .box (.t tI d1), .box (.t tI d2)])) none
theorem e_f64 (p0 : Qaa) (d0 : List Int) (d1 d2 : Int) : runF g_f64 QzK QLJ false [.t Qab p0, .ptr 50000 0, .ptr 50001 0, .ptr 50002 0] [.box (.t (.sl tI) d0), .box (.t tI d1), .box (.t tI d2)] = r_f64 p0 d0 d1 d2 := by kernel_rfl
theorem en_f64 : Qag Tryz.prog 64 := .inr ⟨by decide, _, Tryz.func64, by kernel_rfl, by kernel_rfl⟩
theorem gk_f64 : GOk Tryz.prog g_f64 := Qan _ (gA (gC en_f65 ms_f65 gN))
theorem lk_f64 : QzK.lok g_f64 := by repeat (first | exact trivial | refine ⟨?_, ?_⟩)
theorem s_f64 (c : Qaa) (h : List Int) (d e : Int) (hok : QjI c h d e = true) : r_f64 c h d e = some (.t .bool (heldF c h d e), [.box (.t (.sl tI) h), .box (.t tI d), .box (.t tI e)]) := by
 simp only [r_f64, hok, Qac]
def QKU : Ent := Qn9 [.ty Qab, .ptr 50000 0, .ptr 50001 0, .ptr 50002 0] [(.sl tI), tI, tI] (fun x d => (QjI x.1 d.1 d.2.1 d.2.2.1)) (fun x d => (.t .bool (heldF x.1 d.1 d.2.1 d.2.2.1)))
theorem ms_f64 : Meets Tryz.prog 64 (strip QKU) := QhC (Qbb (R := runF g_f64 QzK QLJ false) (mG Tryz.func64 (by kernel_rfl) Tryz.ntmps64 (by kernel_rfl) gk_f64 lk_f64) fun x d hok => (e_f64 x.1 d.1 d.2.1 d.2.2.1).trans (s_f64 x.1 d.1 d.2.1 d.2.2.1 hok))
def Qcy (l : List Qaa) (h : List Int) (_d _e : Int) : Bool := decide (l.length ≤ 100000 ∧ h.length ≤ 100000)
theorem QyB {l : List Qaa} {h : List Int} {d e : Int} (hq : Qcy l h d e = true) : l.length ≤ 100000 := (of_decide_eq_true hq).1
def Qoj (l : List Qaa) (d0 : List Int) (d1 : Int) (d2 : Int) : Int := match fstG (fun c => heldF c d0 d1 d2) l with | some k => (k : Int) | none => -1
def QcX : Fg := ⟨[(0, some (.sl Qab)), (1, none), (7, some tI), (8, some tI)], [(50000, some (.sl tI)), (50001, some tI), (50002, some tI)]⟩
noncomputable def Qd8 : TC := (.sq (.reg (rT Tryz.f90 2)) (.sq (.cd (.t 9) .sk (.fg ⟨[], [(50000, some (.sl tI)), (50001, some tI), (50002, some tI)]⟩ (.ex 0))) (.sq (.bk 1 (.sq (.reg (rT Tryz.f90 3)) (.sq (.reg (rT Tryz.f90 4)) (.cd (.t 16) (.sq (.reg (rT Tryz.f90 5)) (.fg ⟨[(4, some tI)], [(50000, some (.sl tI)), (50001, some tI), (50002, some tI)]⟩ .rt)) .sk)))) (.reg (rT Tryz.f90 6)))))
noncomputable def Qlz : TC := (.sq (.reg (rT Tryz.f90 0)) (.sq (.sq (.reg (rT Tryz.f90 1)) (.bk 0 (.lp 0 QcX Qd8))) (.sq (.reg (rT Tryz.f90 7)) .rt)))
def QrL : List (RV × Option Ty) := [((.t 4), some tI)]
abbrev QgI : Sh := ⟨[(0, .ty (.sl Qab)), (1, .fn 64 [(50000, 0), (50001, 0), (50002, 0)]), (7, .ty tI), (8, .ty tI)], [(50000, .box (.sl tI)), (50001, .box tI), (50002, .box tI)]⟩
def QgD (x0 : List Qaa) (x7 x8 : Int) (y50000 : List Int) (y50001 y50002 : Int) : VS := QgI.st (x0, (), x7, x8, ()) (y50000, y50001, y50002, ())
abbrev Qme : Sh := ⟨[(4, .ty tI)], [(50000, .box (.sl tI)), (50001, .box tI), (50002, .box tI)]⟩
def QbR (x4 : Int) (y50000 : List Int) (y50001 y50002 : Int) : VS := Qme.st (x4, ()) (y50000, y50001, y50002, ())
abbrev QnS : Sh := ⟨[], [(50000, .box (.sl tI)), (50001, .box tI), (50002, .box tI)]⟩
def Qcd (y50000 : List Int) (y50001 y50002 : Int) : VS := QnS.st () (y50000, y50001, y50002, ())
def Qy8 : VS → Option (Bool × List (Bool × Exit × VS)) := mkL QgI (fun x y => (rngOk x.1 x.2.2.1 x.2.2.2.1 && Qcy x.1 y.1 y.2.1 y.2.2.1)) (fun x y => [(((fstG (fun c => heldF c y.1 y.2.1 y.2.2.1) (x.1.drop x.2.2.2.1.toNat)).isSome), .ret, QbR (x.2.2.2.1 + ((fstG (fun c => heldF c y.1 y.2.1 y.2.2.1) (x.1.drop x.2.2.2.1.toNat)).getD 0 : Nat)) (y.1) (y.2.1) (y.2.2.1)), (true, .exit 0, Qcd (y.1) (y.2.1) (y.2.2.1))])
def QdF : G := ⟨TYs, [], 19, EL [(64, QKU)], keeps, (Ls [Qy8]), IL [], RL []⟩
def Qos (x0 : List Qaa) (x7 x8 : Int) (y50000 : List Int) (y50001 y50002 : Int) : Option (Exit × VS) :=
 let a1 := lgt Qab x0 (Int.toNat x8)
 br (ilt x8 x7) (br (cIx x0 x8) (br (QjI a1 y50000 y50001 y50002) (br (heldF a1 y50000 y50001 y50002) (some (.ret, QbR x8 y50000 y50001 y50002)) (some (.normal, QgD x0 x7 (iadd .i64 x8 1) y50000 y50001 y50002))) none) none) (some (.exit 0, Qcd y50000 y50001 y50002))
noncomputable def QeF (x0 : List Qaa) (x7 x8 : Int) (y50000 : List Int) (y50001 y50002 : Int) : Option (Exit × VS) := loopF (Qaj QdF QcX Qd8) (QgD x0 x7 x8 y50000 y50001 y50002)
noncomputable def Qf9 (x0 : List Qaa) (x7 x8 : Int) (y50000 : List Int) (y50001 y50002 : Int) : Option (Exit × VS) :=
 let a1 := lgt Qab x0 (Int.toNat x8)
 br (ilt x8 x7) (br (cIx x0 x8) (br (QjI a1 y50000 y50001 y50002) (br (heldF a1 y50000 y50001 y50002) (some (.ret, QbR x8 y50000 y50001 y50002)) (QeF x0 x7 (iadd .i64 x8 1) y50000 y50001 y50002)) none) none) (some (.exit 0, Qcd y50000 y50001 y50002))
def QeL (x0 : List Qaa) (x7 x8 : Int) (y50000 : List Int) (y50001 y50002 : Int) : Option (Exit × VS) := br ((fstG (fun c => heldF c y50000 y50001 y50002) (x0.drop x8.toNat)).isSome) (some (.ret, QbR (x8 + ((fstG (fun c => heldF c y50000 y50001 y50002) (x0.drop x8.toNat)).getD 0 : Nat)) (y50000) (y50001) (y50002))) <| some (.exit 0, Qcd (y50000) (y50001) (y50002))
theorem QvX (x0 : List Qaa) (x7 x8 : Int) (y50000 : List Int) (y50001 y50002 : Int) : Qaj QdF QcX Qd8 (QgD x0 x7 x8 y50000 y50001 y50002) = Qos x0 x7 x8 y50000 y50001 y50002 := by kernel_rfl
theorem Qna (x0 : List Qaa) (x7 x8 : Int) (y50000 : List Int) (y50001 y50002 : Int) : QeF x0 x7 x8 y50000 y50001 y50002 = Qf9 x0 x7 x8 y50000 y50001 y50002 := (Qaq _ _).trans (by
 rw [QvX]
 simp only [Qos, Qf9, QaE, nxt_n, nxt_r, nxt_e, nxt_0]
 rfl)
def Qpx (p0 : List Qaa) (d0 : List Int) (d1 d2 : Int) : Option (V × List VO) :=
 let a1 := (p0.drop (0 : Int).toNat)
 br (rngOk p0 (llen p0) (0 : Int) && Qcy p0 d0 d1 d2) (br ((fstG (fun c => heldF c d0 d1 d2) a1).isSome) (some (.t tI ((0 : Int) + ((fstG (fun c => heldF c d0 d1 d2) a1).getD 0 : Nat)), [.box (.t (.sl tI) (d0)), .box (.t tI (d1)), .box (.t tI (d2))])) (some (.t tI (-1), [.box (.t (.sl tI) (d0)), .box (.t tI (d1)), .box (.t tI (d2))]))) none
theorem QI7 (p0 : List Qaa) (d0 : List Int) (d1 d2 : Int) : runF QdF Qlz QrL false [.t (.sl Qab) p0, .fn 64 [(.ptr 50000 0), (.ptr 50001 0), (.ptr 50002 0)]] [.box (.t (.sl tI) d0), .box (.t tI d1), .box (.t tI d2)] = Qpx p0 d0 d1 d2 := by kernel_rfl
theorem QE7 : Qag Tryz.prog 90 := .inr ⟨by decide, _, Tryz.func90, by kernel_rfl, by kernel_rfl⟩
theorem QEN : GOk Tryz.prog QdF := Qan _ (gA (gC en_f64 ms_f64 gN))
theorem QyI (x0 : List Qaa) (x7 x8 : Int) (y50000 : List Int) (y50001 y50002 : Int) (h : (rngOk x0 x7 x8 && Qcy x0 y50000 y50001 y50002) = true) : QeF x0 x7 x8 y50000 y50001 y50002 = QeL x0 x7 x8 y50000 y50001 y50002 := by
 simp only [Bool.and_eq_true] at h
 obtain ⟨h0, hc⟩ := h
 obtain ⟨rfl, h3, k, rfl, hk⟩ := rng_k h0
 clear h0
 refine Qav x0 (fun k => QeF x0 (x0.length : Int) (k : Int) y50000 y50001 y50002 = QeL x0 (x0.length : Int) (k : Int) y50000 y50001 y50002) ?_ ?_ k hk
 ·rw [Qna]
  simp [Qf9, QeL, Qaz, Qae, fstG]
 ·intro k hk ih
  rw [Qna]
  have hx := show QjI x0[k] y50000 y50001 y50002 = true from decide_eq_true (of_decide_eq_true hc).2
  simp only [Qf9, Qaz, Qay, hk, decide_true, Qac, Int.toNat_natCast, add1 (show k < 4611686018427387904 by omega), ih, QaG (y := Qab) hk, hx]
  simp only [QeL, Int.toNat_natCast, List.drop_eq_getElem_cons hk, fstG]
  cases h : (heldF x0[k] y50000 y50001 y50002) with
  | true => simp [Qac]
  | false =>
   simp only [Qae, Bool.false_eq_true, if_false]
   cases hq : fstG (fun c => heldF c y50000 y50001 y50002) (x0.drop (k + 1)) with
   | none => rfl
   | some j =>
    simp only [Option.map_some, Option.isSome_some, Option.getD_some, Qac]
    congr 3
    omega
theorem Qvp : ∀ S l p, QdF.L 0 (fgt QcX S) = some (true, l) → pickA l = some p → loopF (Qaj QdF QcX Qd8) S = some p :=
 QaF (s := QgI) ⟨by decide, by decide⟩ (by kernel_rfl) fun x y hok p hp => by
 simp only [Qas, Qap] at hp
 exact (QyI x.1 x.2.2.1 x.2.2.2.1 y.1 y.2.1 y.2.2.1 (by simpa using hok)).trans hp
theorem QEh : Qlz.lok QdF := by
 repeat (first | exact trivial | exact Qvp | refine ⟨?_, ?_⟩)
theorem QHi (l : List Qaa) (d0 : List Int) (d1 d2 : Int) (h : Qcy l d0 d1 d2 = true) : Qpx l d0 d1 d2 = some (.t tI (Qoj l d0 d1 d2), [.box (.t (.sl tI) d0), .box (.t tI d1), .box (.t tI d2)]) := by
 have hl := QyB h
 simp only [Qpx, rng_0 hl, h, Bool.and_self, Qac, Int.toNat_zero, List.drop_zero, Qoj]
 cases fstG (fun c => heldF c d0 d1 d2) l <;> simp [Qac, Qae]
def QqV : Ent := Qn9 [.ty (.sl Qab), .fn 64 [(50000, 0), (50001, 0), (50002, 0)]] [(.sl tI), tI, tI] (fun x d => (Qcy x.1 d.1 d.2.1 d.2.2.1)) (fun x d => (.t tI (Qoj x.1 d.1 d.2.1 d.2.2.1)))
theorem QDq : Meets Tryz.prog 90 (strip QqV) := QhC (Qbb (R := runF QdF Qlz QrL false) (mG Tryz.func90 (by kernel_rfl) Tryz.ntmps90 (by kernel_rfl) QEN QEh) fun x d hok => (QI7 x.1 d.1 d.2.1 d.2.2.1).trans (QHi x.1 d.1 d.2.1 d.2.2.1 hok))
def Qca (l : List Qaa) (d0 : List Int) (d1 : Int) (d2 : Int) : Bool := l.any (fun c => heldF c d0 d1 d2)
noncomputable def QlG : TC := (.sq (.reg (rT Tryz.f60 0)) (.sq (.reg (rT Tryz.f60 1)) .rt))
def QrS : List (RV × Option Ty) := [((.t 4), some .bool)]
def Qlq : G := ⟨TYs, [], 9, EL [(90, QqV)], keeps, (fun _ _ => none), IL [], RL []⟩
def QpC (p0 : List Qaa) (d0 : List Int) (d1 d2 : Int) : Option (V × List VO) := br (Qcy p0 d0 d1 d2) (some (.t .bool (ige (Qoj p0 d0 d1 d2) 0), [.box (.t (.sl tI) d0), .box (.t tI d1), .box (.t tI d2)])) none
theorem QJe (p0 : List Qaa) (d0 : List Int) (d1 d2 : Int) : runF Qlq QlG QrS false [.t (.sl Qab) p0, .fn 64 [(.ptr 50000 0), (.ptr 50001 0), (.ptr 50002 0)]] [.box (.t (.sl tI) d0), .box (.t tI d1), .box (.t tI d2)] = QpC p0 d0 d1 d2 := by kernel_rfl
theorem QFf : Qag Tryz.prog 60 := .inr ⟨by decide, _, Tryz.func60, by kernel_rfl, by kernel_rfl⟩
theorem QEU : GOk Tryz.prog Qlq := Qan _ (gA (gC QE7 QDq gN))
theorem QEo : QlG.lok Qlq := by repeat (first | exact trivial | refine ⟨?_, ?_⟩)
theorem QHp (l : List Qaa) (d0 : List Int) (d1 d2 : Int) (h : Qcy l d0 d1 d2 = true) : QpC l d0 d1 d2 = some (.t .bool (Qca l d0 d1 d2), [.box (.t (.sl tI) d0), .box (.t tI d1), .box (.t tI d2)]) := by
 simp only [QpC, h, Qac]
 have e : ige (Qoj l d0 d1 d2) 0 = Qca l d0 d1 d2 := by
  unfold Qoj Qca
  cases hq : fstG (fun c => heldF c d0 d1 d2) l with
  | none => rw [Qcr.1 hq]; rfl
  | some k =>
   rw [← QcW, hq]
   simp only [ige, Option.isSome_some, decide_eq_true_eq]
   omega
 rw [e]
def Qq2 : Ent := Qn9 [.ty (.sl Qab), .fn 64 [(50000, 0), (50001, 0), (50002, 0)]] [(.sl tI), tI, tI] (fun x d => (Qcy x.1 d.1 d.2.1 d.2.2.1)) (fun x d => (.t .bool (Qca x.1 d.1 d.2.1 d.2.2.1)))
theorem QDy : Meets Tryz.prog 60 (strip Qq2) := QhC (Qbb (R := runF Qlq QlG QrS false) (mG Tryz.func60 (by kernel_rfl) Tryz.ntmps60 (by kernel_rfl) QEU QEo) fun x d hok => (QJe x.1 d.1 d.2.1 d.2.2.1).trans (QHp x.1 d.1 d.2.1 d.2.2.1 hok))
end
end Go.Proofs.YtkngeegkjhipeaaGreat.K
