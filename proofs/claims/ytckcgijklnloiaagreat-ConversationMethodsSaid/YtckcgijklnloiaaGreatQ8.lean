import Derived.Test.YtckcgijklnloiaaGreatQ7
import Derived.Test.YtckcgijklnloiaaGreatQ4
set_option linter.unusedSimpArgs false
set_option linter.unusedVariables false
namespace Go.Proofs.YtckcgijklnloiaaGreat.K
open Go.RowKit
noncomputable section
theorem QrI {l : List Qaa} (h : QaQ l = true) {k : Nat} (hk : k < l.length) : QaI l[k] = true := by
 simp only [QaQ, Bool.and_eq_true, List.all_eq_true] at h
 exact h.2 _ (List.getElem_mem hk)
theorem Qlc {l : List Qaa} (h : QaQ l = true) : l.length ≤ 100000 := by
 simp only [QaQ, Bool.and_eq_true, decide_eq_true_eq] at h
 exact h.1
abbrev cAt (l : List Qaa) (k : Nat) : Qaa := l.getD k zCert
theorem Q0J {l : List Qaa} {k : Nat} (hk : k < l.length) : cAt l k = l[k] := by
 simp only [cAt, List.getD_eq_getElem?_getD, List.getElem?_eq_getElem hk, Option.getD_some]
theorem QNJ {l : List Qaa} (h : QaQ l = true) {k : Nat} (hk : k < l.length) : QaI (cAt l k) = true := by
 rw [Q0J hk]
 exact QrI h hk
def pathF (l : List Qaa) (i : Int) : Bool := !ilt i 0 && (!ige i (llen l) && (ieq i 0 || ((cAt l i.toNat).2.2.2.2.2.2.2.2.1 && ige (cAt l i.toNat).2.2.2.2.2.2.2.2.2.1 (i - 1))))
def Qqx (l : List Qaa) (_i : Int) : Bool := decide (l.length ≤ 100000)
theorem QKE (l : List Qaa) (i : Int) (h : Qqx l i = true) : br (ilt i 0) (some (V.t .bool false, ([] : List VO))) (br (ige i (llen l)) (some (V.t .bool false, [])) (br (ieq i 0) (some (V.t .bool true, [])) (br (cIx l i) (br (lgt Qac l (Int.toNat i)).2.2.2.2.2.2.2.2.1 (br (cIx l i) (some (V.t .bool (ige (lgt Qac l (Int.toNat i)).2.2.2.2.2.2.2.2.2.1 (isub .i64 i 1)), [])) none) (some (V.t .bool false, []))) none))) = some (V.t .bool (pathF l i), []) := by
 simp only [Qqx, decide_eq_true_eq] at h
 unfold pathF
 cases hi : ilt i 0 with
 | true => rfl
 | false =>
  have hn := of_decide_eq_false hi
  rw [Qaf, Bool.not_false, Bool.true_and]
  cases h1 : ige i (llen l) with
  | true => rfl
  | false =>
   have h2 := of_decide_eq_false h1
   rw [Qaf, Bool.not_false, Bool.true_and]
   cases h0 : ieq i 0 with
   | true => rfl
   | false =>
    have hl : llen l ≤ 100000 := by simp only [llen]; omega
    have hc : cIx l i = true := decide_eq_true ⟨by omega, by simp only [llen] at h2; omega⟩
    rw [Qaf, Bool.false_or, hc, Qad, Qb3 (by omega)]
    exact brA rfl
noncomputable def QyS : TC := (.sq (.reg (rT Tryz.f140 0)) (.sq (.sq (.reg (rT Tryz.f140 1)) (.cd (.t 12) (.sq (.reg (rT Tryz.f140 2)) .rt) .sk)) (.sq (.reg (rT Tryz.f140 3)) .rt)))
def QIV : List (RV × Option Ty) := [((.t 4), some .bool)]
def QC7 : G := ⟨TYs, [], 32, EL [], keeps, (fun _ _ => none), IL [], RL []⟩
def QKg (p0 : List Qaa) (p1 : Int) : Option (V × List VO) :=
 let a1 := (((((((((lgt Qac p0 (Int.toNat p1)).2).2).2).2).2).2).2).2)
 br (ilt p1 0) (some (.t .bool false, [])) (br (ige p1 (llen p0)) (some (.t .bool false, [])) (br (ieq p1 0) (some (.t .bool true, [])) (br (cIx p0 p1) (br (a1.1) (br (cIx p0 p1) (some (.t .bool (ige ((a1.2).1) (isub .i64 p1 1)), [])) none) (some (.t .bool false, []))) none)))
theorem e_f140 (p0 : List Qaa) (p1 : Int) : runF QC7 QyS QIV false [.t (.sl Qac) p0, .t tI p1] [] = QKg p0 p1 := by kernel_rfl
theorem Q0m : Qai Tryz.prog 140 := .inr ⟨by decide, _, Tryz.func140, by kernel_rfl, by kernel_rfl⟩
theorem QZj : GOk Tryz.prog QC7 := Qal _ (fun p hp => by cases hp)
theorem QXy : QyS.lok QC7 := by repeat (first | exact trivial | refine ⟨?_, ?_⟩)
theorem s_f140 (l : List Qaa) (i : Int) (h : Qqx l i = true) : QKg l i = some (.t .bool (pathF l i), []) := by
 simp only [QKg]
 exact QKE l i h
def QHu : Ent := spec (.pr (.sl Qac) (.pr tI .nil)) (fun x => (Qqx x.1 x.2.1)) (fun x => (.t .bool (pathF x.1 x.2.1)))
theorem QWg : Meets Tryz.prog 140 (strip QHu) := Qah (R := runF QC7 QyS QIV false) (mG Tryz.func140 (by kernel_rfl) Tryz.ntmps140 (by kernel_rfl) QZj QXy) fun x hok => (e_f140 x.1 x.2.1).trans (s_f140 x.1 x.2.1 hok)
def QtZ (l : List Qaa) (k : Nat) : Int := if k + 1 < l.length then (cAt l (k + 1)).2.2.2.2.1 else (cSeal (cAt l k)).1
def QgE (l : List Qaa) (i : Int) : Int := QtZ l i.toNat
def QhJ (l : List Qaa) (i : Int) : Bool := decide (0 ≤ i ∧ i < l.length ∧ l.length ≤ 100000)
theorem add1N {k : Nat} (h : k < 4611686018427387904) : Int.toNat (iadd .i64 (k : Int) 1) = k + 1 := by rw [add1 h]; rfl
noncomputable def QyQ : TC := (.sq (.reg (rT Tryz.f142 0)) (.sq (.sq (.reg (rT Tryz.f142 1)) (.cd (.t 9) (.sq (.reg (rT Tryz.f142 2)) .rt) .sk)) (.sq (.reg (rT Tryz.f142 3)) .rt)))
def QIT : List (RV × Option Ty) := [((.t 4), some tI)]
def QC5 : G := ⟨TYs, [], 22, EL [], keeps, (fun _ _ => none), IL [], RL []⟩
def QKe (p0 : List Qaa) (p1 : Int) : Option (V × List VO) :=
 let a1 := iadd .i64 p1 1
 br (ilt a1 (llen p0)) (br (cIx p0 a1) (some (.t tI ((((((lgt Qac p0 (Int.toNat a1)).2).2).2).2).1), [])) none) (br (cIx p0 p1) (some (.t tI ((((((((((((((lgt Qac p0 (Int.toNat p1)).2).2).2).2).2).2).2).2).2).2).2).1).1), [])) none)
theorem e_f142 (p0 : List Qaa) (p1 : Int) : runF QC5 QyQ QIT false [.t (.sl Qac) p0, .t tI p1] [] = QKe p0 p1 := by kernel_rfl
theorem Q0k : Qai Tryz.prog 142 := .inr ⟨by decide, _, Tryz.func142, by kernel_rfl, by kernel_rfl⟩
theorem QZh : GOk Tryz.prog QC5 := Qal _ (fun p hp => by cases hp)
theorem QXw : QyQ.lok QC5 := by repeat (first | exact trivial | refine ⟨?_, ?_⟩)
theorem s_f142 (l : List Qaa) (i : Int) (h : QhJ l i = true) : QKe l i = some (.t tI (QgE l i), []) := by
 simp only [QhJ, decide_eq_true_eq] at h
 obtain ⟨h1, h2, h3⟩ := h
 obtain ⟨k, rfl⟩ := Int.eq_ofNat_of_zero_le h1
 simp only [QKe, add1N (show k < 4611686018427387904 by omega), add1 (show k < 4611686018427387904 by omega), Qaw, Int.toNat_natCast]
 unfold QgE QtZ
 rw [Int.toNat_natCast]
 by_cases hk : k + 1 < l.length
 ·rw [show ilt ((k + 1 : Nat) : Int) (llen l) = true from decide_eq_true (by simp only [llen]; omega), Qad, decide_eq_true hk, Qad, if_pos hk]
 ·rw [show ilt ((k + 1 : Nat) : Int) (llen l) = false from decide_eq_false (by simp only [llen]; omega), Qaf, decide_eq_true (show k < l.length by omega), Qad, if_neg hk]
def QHs : Ent := spec (.pr (.sl Qac) (.pr tI .nil)) (fun x => (QhJ x.1 x.2.1)) (fun x => (.t tI (QgE x.1 x.2.1)))
theorem QWe : Meets Tryz.prog 142 (strip QHs) := Qah (R := runF QC5 QyQ QIT false) (mG Tryz.func142 (by kernel_rfl) Tryz.ntmps142 (by kernel_rfl) QZh QXw) fun x hok => (e_f142 x.1 x.2.1).trans (s_f142 x.1 x.2.1 hok)
def QAX (l : List Qaa) (e : Int) (k : Nat) : Bool :=
 bif ieq e 11 then decide (k + 1 < l.length) && sne (cAt l k).2.1 (cAt l (k + 1)).2.2.1
 else bif ieq e 15 then !pathF l k else !Qlt (cAt l k) (QtZ l k)
def Qik (l : List Qaa) (e : Int) (k : Nat) : Bool := (List.range' k (l.length - k)).any (QAX l e)
def Qcw (l : List Qaa) (e : Int) : Bool := Qik l e 0
theorem QE1 (l : List Qaa) (e : Int) : Qik l e l.length = false := by
 unfold Qik
 rw [Nat.sub_self]
 rfl
theorem QAY {l : List Qaa} {e : Int} {k : Nat} (hk : k < l.length) : Qik l e k = (QAX l e k || Qik l e (k + 1)) := by
 have : l.length - k = (l.length - (k + 1)) + 1 := by omega
 unfold Qik
 rw [this, List.range'_succ, List.any_cons]
def Qrp (l : List Qaa) (_e : Int) : Bool := QaQ l
noncomputable def QNv : List DO := dT Tryz.f100 7
noncomputable def QNu : List DO := dT Tryz.f100 10
def Qhw : Fg := ⟨[(0, some (.sl Qac)), (1, some tI), (8, some tI), (9, some tI)], []⟩
noncomputable def Qjo : TC := (.sq (.reg (rT Tryz.f100 2)) (.sq (.cd (.t 10) .sk (.fg ⟨[], []⟩ (.ex 0))) (.sq (.bk 1 (.sq (.reg (rT Tryz.f100 3)) (.sq (.reg (rT Tryz.f100 4)) (.sq (.sq (.reg (rT Tryz.f100 5)) (.bk 2 (.sq (.reg (rT Tryz.f100 6)) (.cd (.t 22) (.dr QNv [(0, []), (1, []), (2, []), (3, []), (4, []), (5, []), (6, []), (7, []), (8, []), (9, []), (10, []), (11, []), (12, []), (13, []), (14, []), (15, []), (16, []), (17, []), (18, []), (19, [])] (.of [0, 1, 2, 3, 4, 5, 6, 7, 8, 9, 10, 11, 12, 13, 14, 15, 16, 17, 18, 19])) (.sq (.reg (rT Tryz.f100 8)) (.cd (.t 43) (.reg (rT Tryz.f100 9)) (.dr QNu [(0, []), (1, []), (2, []), (3, []), (4, []), (5, []), (6, []), (7, []), (8, []), (9, [])] (.of [0, 1, 2, 3, 4, 5, 6, 7, 8, 9])))))))) (.sq (.reg (rT Tryz.f100 11)) (.cd (.t 49) (.sq (.reg (rT Tryz.f100 12)) (.fg ⟨[(4, some .bool)], []⟩ .rt)) .sk)))))) (.reg (rT Tryz.f100 13)))))
noncomputable def Qzg : TC := (.sq (.reg (rT Tryz.f100 0)) (.sq (.sq (.reg (rT Tryz.f100 1)) (.bk 0 (.lp 0 Qhw Qjo))) (.sq (.reg (rT Tryz.f100 14)) .rt)))
def QJj : List (RV × Option Ty) := [((.t 4), some .bool)]
abbrev Qqb : Sh := ⟨[(0, .ty (.sl Qac)), (1, .ty tI), (8, .ty tI), (9, .ty tI)], []⟩
def Qe4 (x0 : List Qaa) (x1 x8 x9 : Int) : VS := Qqb.st (x0, x1, x8, x9, ()) ()
abbrev QtX : Sh := ⟨[(4, .ty .bool)], []⟩
def Qbd (x4 : Bool) : VS := QtX.st (x4, ()) ()
abbrev Qwt : Sh := ⟨[], []⟩
def Qeu  : VS := Qwt.st () ()
def QSV : VS → Option (Bool × List (Bool × Exit × VS)) := mkL Qqb (fun x y => (decide (x.2.2.1 = x.1.length ∧ 0 ≤ x.2.2.2.1 ∧ x.2.2.2.1 ≤ x.2.2.1) && QaQ x.1)) (fun x y => [((Qik x.1 x.2.1 x.2.2.2.1.toNat), .ret, Qbd (true)), (true, .exit 0, Qeu)])
def QmE : G := ⟨TYs, [], 51, EL [(140, QHu), (141, QHt), (142, QHs)], keeps, (Ls [QSV]), IL [], RL []⟩
def QEf (x0 : List Qaa) (x1 x8 x9 : Int) : Option (Exit × VS) :=
 let a1 := iadd .i64 x9 1
 let a2 := lgt Qac x0 (Int.toNat x9)
 br (ilt x9 x8) (br (ieq x1 11) (br (ilt a1 (llen x0)) (br (cIx x0 x9) (br (cIx x0 a1) (br (sne ((a2.2).1) ((((lgt Qac x0 (Int.toNat a1)).2).2).1)) (some (.ret, Qbd true)) (some (.normal, Qe4 x0 x1 x8 a1))) none) none) (some (.normal, Qe4 x0 x1 x8 a1))) (br (ieq x1 15) (br (Qqx x0 x9) (br (!(pathF x0 x9)) (some (.ret, Qbd true)) (some (.normal, Qe4 x0 x1 x8 a1))) none) (br (cIx x0 x9) (br (QhJ x0 x9) (br (QeQ a2 (QgE x0 x9)) (br (!(Qlt a2 (QgE x0 x9))) (some (.ret, Qbd true)) (some (.normal, Qe4 x0 x1 x8 a1))) none) none) none))) (some (.exit 0, Qeu))
noncomputable def QdH (x0 : List Qaa) (x1 x8 x9 : Int) : Option (Exit × VS) := loopF (Qaj QmE Qhw Qjo) (Qe4 x0 x1 x8 x9)
noncomputable def QnZ (x0 : List Qaa) (x1 x8 x9 : Int) : Option (Exit × VS) :=
 let a1 := iadd .i64 x9 1
 let a2 := lgt Qac x0 (Int.toNat x9)
 br (ilt x9 x8) (br (ieq x1 11) (br (ilt a1 (llen x0)) (br (cIx x0 x9) (br (cIx x0 a1) (br (sne ((a2.2).1) ((((lgt Qac x0 (Int.toNat a1)).2).2).1)) (some (.ret, Qbd true)) (QdH x0 x1 x8 a1)) none) none) (QdH x0 x1 x8 a1)) (br (ieq x1 15) (br (Qqx x0 x9) (br (!(pathF x0 x9)) (some (.ret, Qbd true)) (QdH x0 x1 x8 a1)) none) (br (cIx x0 x9) (br (QhJ x0 x9) (br (QeQ a2 (QgE x0 x9)) (br (!(Qlt a2 (QgE x0 x9))) (some (.ret, Qbd true)) (QdH x0 x1 x8 a1)) none) none) none))) (some (.exit 0, Qeu))
def QkF (x0 : List Qaa) (x1 x8 x9 : Int) : Option (Exit × VS) := br (Qik x0 x1 x9.toNat) (some (.ret, Qbd (true))) <| some (.exit 0, Qeu)
theorem QOn (x0 : List Qaa) (x1 x8 x9 : Int) : Qaj QmE Qhw Qjo (Qe4 x0 x1 x8 x9) = QEf x0 x1 x8 x9 := by kernel_rfl
theorem Qxs (x0 : List Qaa) (x1 x8 x9 : Int) : QdH x0 x1 x8 x9 = QnZ x0 x1 x8 x9 := (Qan _ _).trans (by
 rw [QOn]
 simp only [QEf, QnZ, Qay, nxt_n, nxt_r, nxt_e, nxt_0]
 rfl)
def QKx (p0 : List Qaa) (p1 : Int) : Option (V × List VO) := br (decide ((llen p0) = p0.length ∧ 0 ≤ (0 : Int) ∧ (0 : Int) ≤ (llen p0)) && QaQ p0) (br (Qik p0 p1 (0 : Int).toNat) (some (.t .bool (true), [])) (some (.t .bool false, []))) none
theorem e_f100 (p0 : List Qaa) (p1 : Int) : runF QmE Qzg QJj false [.t (.sl Qac) p0, .t tI p1] [] = QKx p0 p1 := by kernel_rfl
theorem Q0D : Qai Tryz.prog 100 := .inr ⟨by decide, _, Tryz.func100, by kernel_rfl, by kernel_rfl⟩
theorem QZH : GOk Tryz.prog QmE := Qal _ (gA (gC Q0m QWg (gC Q0l QWf (gC Q0k QWe gN))))
theorem QQO (x0 : List Qaa) (x1 x8 x9 : Int) (h : (decide (x8 = x0.length ∧ 0 ≤ x9 ∧ x9 ≤ x8) && QaQ x0) = true) : QdH x0 x1 x8 x9 = QkF x0 x1 x8 x9 := by
 simp only [Bool.and_eq_true, decide_eq_true_eq] at h
 obtain ⟨⟨rfl, h0, h1⟩, hc⟩ := h
 obtain ⟨k, rfl⟩ := Int.eq_ofNat_of_zero_le h0
 have hl := Qlc hc
 refine Qar x0 (fun k => QdH x0 x1 (x0.length : Int) (k : Int) = QkF x0 x1 (x0.length : Int) (k : Int)) ?_ ?_ k (by omega)
 ·rw [Qxs]
  simp only [QnZ, QkF, Qas, Nat.lt_irrefl, decide_false, Qaf, Int.toNat_natCast, QE1]
 ·intro k hk ih
  rw [Qxs]
  have hx := QrI hc hk
  have hs : QhJ x0 (k : Int) = true := decide_eq_true (by omega)
  have hp : Qqx x0 (k : Int) = true := decide_eq_true hl
  simp only [QnZ, Qas, Qaw, hk, decide_true, Qad, Int.toNat_natCast, add1N (show k < 4611686018427387904 by omega), add1 (show k < 4611686018427387904 by omega), hs, hp, ih, show lgt Qac x0 k = cAt x0 k from rfl, show ∀ q, QeQ (cAt x0 k) q = true from fun q => QNJ hc hk, QgE]
  simp only [QkF, Int.toNat_natCast, QAY hk, QAX]
  cases h1 : ieq x1 11 with
  | true =>
   rw [Qad, cond_true]
   by_cases hk2 : k + 1 < x0.length
   ·rw [decide_eq_true hk2, Qad, Qad, Bool.true_and]
    show br (sne (cAt x0 k).2.1 (cAt x0 (k + 1)).2.2.1) _ _ = _
    cases sne (cAt x0 k).2.1 (cAt x0 (k + 1)).2.2.1 <;> rfl
   ·rw [decide_eq_false hk2, Qaf, Bool.false_and, Bool.false_or]
  | false =>
   rw [Qaf, cond_false]
   cases h2 : ieq x1 15 with
   | true =>
    rw [Qad, cond_true]
    cases pathF x0 (k : Int) <;> rfl
   | false =>
    rw [Qaf, cond_false]
    cases Qlt (cAt x0 k) (QtZ x0 k) <;> rfl
theorem QLV : ∀ S l p, QmE.L 0 (fgt Qhw S) = some (true, l) → pickA l = some p → loopF (Qaj QmE Qhw Qjo) S = some p :=
 QaB (s := Qqb) ⟨by decide, by decide⟩ (by kernel_rfl) fun x y hok p hp => by
 simp only [Qao, Qam] at hp
 exact (QQO x.1 x.2.1 x.2.2.1 x.2.2.2.1 (by simpa using hok)).trans hp
theorem QXW : Qzg.lok QmE := by
 repeat (first | exact trivial | exact QLV | refine ⟨?_, ?_⟩)
theorem s_f100 (l : List Qaa) (e : Int) (h : Qrp l e = true) : QKx l e = some (.t .bool (Qcw l e), []) := by
 have h : QaQ l = true := h
 simp only [QKx, h, Bool.and_true, Int.toNat_zero]
 rw [decide_eq_true ⟨trivial, Int.le_refl 0, by simp only [llen]; omega⟩, Qad]
 unfold Qcw
 cases Qik l e 0 <;> rfl
def QHL : Ent := spec (.pr (.sl Qac) (.pr tI .nil)) (fun x => (Qrp x.1 x.2.1)) (fun x => (.t .bool (Qcw x.1 x.2.1)))
theorem QWx : Meets Tryz.prog 100 (strip QHL) := Qah (R := runF QmE Qzg QJj false) (mG Tryz.func100 (by kernel_rfl) Tryz.ntmps100 (by kernel_rfl) QZH QXW) fun x hok => (e_f100 x.1 x.2.1).trans (s_f100 x.1 x.2.1 hok)
def heldF (c : Qaa) (h : List Int) (d e : Int) : Bool := bif ieq e 13 then ilt d c.2.2.2.2.2.2.1 || ige d c.2.2.2.2.2.2.2.1 else !hasF h c.2.2.2.2.2.1.1
def Qma (_c : Qaa) (h : List Int) (_d _e : Int) : Bool := decide (h.length ≤ 100000)
noncomputable def QFJ : TC := (.sq (.reg (rT Tryz.f99 0)) (.sq (.sq (.reg (rT Tryz.f99 1)) (.cd (.t 10) (.sq (.reg (rT Tryz.f99 2)) .rt) .sk)) (.sq (.reg (rT Tryz.f99 3)) .rt)))
def QTv : List (RV × Option Ty) := [((.t 8), some .bool)]
def g_f99 : G := ⟨TYs, [], 27, EL [(101, Qlr)], keeps, (fun _ _ => none), IL [], RL []⟩
def r_f99 (p0 : Qaa) (p1 : List Int) (p2 p3 : Int) : Option (V × List VO) := br (ieq p3 13) (br (ilt p2 p0.2.2.2.2.2.2.1) (some (.t .bool true, [])) (some (.t .bool (ige p2 p0.2.2.2.2.2.2.2.1), []))) (br (Qa3 p1 p0.2.2.2.2.2.1.1) (some (.t .bool (!(hasF p1 p0.2.2.2.2.2.1.1)), [])) none)
theorem e_f99 (p0 : Qaa) (p1 : List Int) (p2 p3 : Int) : runF g_f99 QFJ QTv false [.t Qac p0, .t (.sl tI) p1, .t tI p2, .t tI p3] [] = r_f99 p0 p1 p2 p3 := by kernel_rfl
theorem en_f99 : Qai Tryz.prog 99 := .inr ⟨by decide, _, Tryz.func99, by kernel_rfl, by kernel_rfl⟩
theorem gk_f99 : GOk Tryz.prog g_f99 := Qal _ (gA (gC QrC QqM gN))
theorem lk_f99 : QFJ.lok g_f99 := by repeat (first | exact trivial | refine ⟨?_, ?_⟩)
theorem s_f99 (c : Qaa) (h : List Int) (d e : Int) (hok : Qma c h d e = true) : r_f99 c h d e = some (.t .bool (heldF c h d e), []) := by
 simp only [r_f99, show ∀ v, Qa3 h v = true from fun _ => hok, Qad]
 unfold heldF
 cases ieq e 13 with
 | false => rfl
 | true =>
  rw [Qad, cond_true]
  cases ilt d c.2.2.2.2.2.2.1 <;> rfl
def QSZ : Ent := spec (.pr Qac (.pr (.sl tI) (.pr tI (.pr tI .nil)))) (fun x => (Qma x.1 x.2.1 x.2.2.1 x.2.2.2.1)) (fun x => (.t .bool (heldF x.1 x.2.1 x.2.2.1 x.2.2.2.1)))
theorem ms_f99 : Meets Tryz.prog 99 (strip QSZ) := Qah (R := runF g_f99 QFJ QTv false) (mG Tryz.func99 (by kernel_rfl) Tryz.ntmps99 (by kernel_rfl) gk_f99 lk_f99) fun x hok => (e_f99 x.1 x.2.1 x.2.2.1 x.2.2.2.1).trans (s_f99 x.1 x.2.1 x.2.2.1 x.2.2.2.1 hok)
def badC (c : Qaa) : Bool := !QaE c
noncomputable def QFN : TC := (.sq (.reg (rT Tryz.f95 0)) (.sq (.reg (rT Tryz.f95 1)) .rt))
def QTz : List (RV × Option Ty) := [((.t 2), some .bool)]
def g_f95 : G := ⟨TYs, [], 6, EL [(96, QGB)], keeps, (fun _ _ => none), IL [], RL []⟩
def r_f95 (p0 : Qaa) : Option (V × List VO) := br (QaI p0) (some (.t .bool (ine (QdO p0) 0), [])) none
theorem e_f95 (p0 : Qaa) : runF g_f95 QFN QTz false [.t Qac p0] [] = r_f95 p0 := by kernel_rfl
theorem en_f95 : Qai Tryz.prog 95 := .inr ⟨by decide, _, Tryz.func95, by kernel_rfl, by kernel_rfl⟩
theorem gk_f95 : GOk Tryz.prog g_f95 := Qal _ (gA (gC QUR QUB gN))
theorem lk_f95 : QFN.lok g_f95 := by repeat (first | exact trivial | refine ⟨?_, ?_⟩)
theorem s_f95 (c : Qaa) (h : QaI c = true) : r_f95 c = some (.t .bool (badC c), []) := by
 simp only [r_f95, h, Qad, Qfb]
 rfl
def QS2 : Ent := spec (.pr Qac .nil) (fun x => (QaI x.1)) (fun x => (.t .bool (badC x.1)))
theorem ms_f95 : Meets Tryz.prog 95 (strip QS2) := Qah (R := runF g_f95 QFN QTz false) (mG Tryz.func95 (by kernel_rfl) Tryz.ntmps95 (by kernel_rfl) gk_f95 lk_f95) fun x hok => (e_f95 x.1).trans (s_f95 x.1 hok)
def okBad (l : List Qaa) : Bool := QaQ l
theorem QKJ {l : List Qaa} (h : okBad l = true) : l.length ≤ 100000 := Qlc h
def ixBad (l : List Qaa) : Int := match fstG badC l with | some k => (k : Int) | none => -1
def Qc1 : Fg := ⟨[(0, some (.sl Qac)), (1, none), (7, some tI), (8, some tI)], []⟩
noncomputable def QdS : TC := (.sq (.reg (rT Tryz.f137 2)) (.sq (.cd (.t 9) .sk (.fg ⟨[], []⟩ (.ex 0))) (.sq (.bk 1 (.sq (.reg (rT Tryz.f137 3)) (.sq (.reg (rT Tryz.f137 4)) (.cd (.t 16) (.sq (.reg (rT Tryz.f137 5)) (.fg ⟨[(4, some tI)], []⟩ .rt)) .sk)))) (.reg (rT Tryz.f137 6)))))
noncomputable def Qln : TC := (.sq (.reg (rT Tryz.f137 0)) (.sq (.sq (.reg (rT Tryz.f137 1)) (.bk 0 (.lp 0 Qc1 QdS))) (.sq (.reg (rT Tryz.f137 7)) .rt)))
def Qso : List (RV × Option Ty) := [((.t 4), some tI)]
abbrev Qgy : Sh := ⟨[(0, .ty (.sl Qac)), (1, .cf 95), (7, .ty tI), (8, .ty tI)], []⟩
def Qgm (x0 : List Qaa) (x7 x8 : Int) : VS := Qgy.st (x0, (), x7, x8, ()) ()
abbrev QmN : Sh := ⟨[(4, .ty tI)], []⟩
def QbW (x4 : Int) : VS := QmN.st (x4, ()) ()
abbrev QpX : Sh := ⟨[], []⟩
def Qcl  : VS := QpX.st () ()
def QBs : VS → Option (Bool × List (Bool × Exit × VS)) := mkL Qgy (fun x y => (rngOk x.1 x.2.2.1 x.2.2.2.1 && okBad x.1)) (fun x y => [(((fstG badC (x.1.drop x.2.2.2.1.toNat)).isSome), .ret, QbW (x.2.2.2.1 + ((fstG badC (x.1.drop x.2.2.2.1.toNat)).getD 0 : Nat))), (true, .exit 0, Qcl)])
def QcW : G := ⟨TYs, [], 19, EL [(95, QS2)], keeps, (Ls [QBs]), IL [], RL []⟩
def QrM (x0 : List Qaa) (x7 x8 : Int) : Option (Exit × VS) :=
 let a1 := lgt Qac x0 (Int.toNat x8)
 br (ilt x8 x7) (br (cIx x0 x8) (br (QaI a1) (br (badC a1) (some (.ret, QbW x8)) (some (.normal, Qgm x0 x7 (iadd .i64 x8 1)))) none) none) (some (.exit 0, Qcl))
noncomputable def QeC (x0 : List Qaa) (x7 x8 : Int) : Option (Exit × VS) := loopF (Qaj QcW Qc1 QdS) (Qgm x0 x7 x8)
noncomputable def QfN (x0 : List Qaa) (x7 x8 : Int) : Option (Exit × VS) :=
 let a1 := lgt Qac x0 (Int.toNat x8)
 br (ilt x8 x7) (br (cIx x0 x8) (br (QaI a1) (br (badC a1) (some (.ret, QbW x8)) (QeC x0 x7 (iadd .i64 x8 1))) none) none) (some (.exit 0, Qcl))
def QeG (x0 : List Qaa) (x7 x8 : Int) : Option (Exit × VS) :=
 let a1 := fstG badC (x0.drop x8.toNat)
 br (a1.isSome) (some (.ret, QbW (x8 + (a1.getD 0 : Nat)))) <| some (.exit 0, Qcl)
theorem QxR (x0 : List Qaa) (x7 x8 : Int) : Qaj QcW Qc1 QdS (Qgm x0 x7 x8) = QrM x0 x7 x8 := by kernel_rfl
theorem Ql6 (x0 : List Qaa) (x7 x8 : Int) : QeC x0 x7 x8 = QfN x0 x7 x8 := (Qan _ _).trans (by
 rw [QxR]
 simp only [QrM, QfN, Qay, nxt_n, nxt_r, nxt_e, nxt_0]
 rfl)
def Qqu (p0 : List Qaa) : Option (V × List VO) :=
 let a1 := (fstG badC (p0.drop (0 : Int).toNat))
 br (rngOk p0 (llen p0) (0 : Int) && okBad p0) (br (a1.isSome) (some (.t tI ((0 : Int) + (a1.getD 0 : Nat)), [])) (some (.t tI (-1), []))) none
theorem QNe (p0 : List Qaa) : runF QcW Qln Qso false [.t (.sl Qac) p0, .c (.func (.func 95) ⟨[]⟩ ⟨[]⟩)] [] = Qqu p0 := by kernel_rfl
theorem QE6 : Qai Tryz.prog 137 := .inr ⟨by decide, _, Tryz.func137, by kernel_rfl, by kernel_rfl⟩
theorem QEY : GOk Tryz.prog QcW := Qal _ (gA (gC en_f95 ms_f95 gN))
theorem QAI (x0 : List Qaa) (x7 x8 : Int) (h : (rngOk x0 x7 x8 && okBad x0) = true) : QeC x0 x7 x8 = QeG x0 x7 x8 := by
 simp only [Bool.and_eq_true] at h
 obtain ⟨h0, hc⟩ := h
 obtain ⟨rfl, h3, k, rfl, hk⟩ := rng_k h0
 clear h0
 refine Qar x0 (fun k => QeC x0 (x0.length : Int) (k : Int) = QeG x0 (x0.length : Int) (k : Int)) ?_ ?_ k hk
 ·rw [Ql6]
  simp [QfN, QeG, Qas, Qaf, fstG]
 ·intro k hk ih
  rw [Ql6]
  have hx := QrI hc hk
  simp only [QfN, Qas, Qaw, hk, decide_true, Qad, Int.toNat_natCast, add1 (show k < 4611686018427387904 by omega), ih, QaA (y := Qac) hk, hx]
  simp only [QeG, Int.toNat_natCast, List.drop_eq_getElem_cons hk, fstG]
  cases h : (badC x0[k]) with
  | true => simp [Qad]
  | false =>
   simp only [Qaf, Bool.false_eq_true, if_false]
   cases hq : fstG badC (x0.drop (k + 1)) with
   | none => rfl
   | some j =>
    simp only [Option.map_some, Option.isSome_some, Option.getD_some, Qad]
    congr 3
    omega
theorem QwU : ∀ S l p, QcW.L 0 (fgt Qc1 S) = some (true, l) → pickA l = some p → loopF (Qaj QcW Qc1 QdS) S = some p :=
 QaB (s := Qgy) ⟨by decide, by decide⟩ (by kernel_rfl) fun x y hok p hp => by
 simp only [Qao, Qam] at hp
 exact (QAI x.1 x.2.2.1 x.2.2.2.1 (by simpa using hok)).trans hp
theorem QEO : Qln.lok QcW := by
 repeat (first | exact trivial | exact QwU | refine ⟨?_, ?_⟩)
theorem QH1 (l : List Qaa) (h : okBad l = true) : Qqu l = some (.t tI (ixBad l), []) := by
 have hl := QKJ h
 simp only [Qqu, rng_0 hl, h, Bool.and_self, Qad, Int.toNat_zero, List.drop_zero, ixBad]
 cases fstG badC l <;> simp [Qad, Qaf]
def Qsi : Ent := specH [.ty (.sl Qac), .cf 95] [] (fun x d => (okBad x.1)) (fun x d => (.t tI (ixBad x.1)))
theorem QEI : Meets Tryz.prog 137 (strip Qsi) := (QaP (R := runF QcW Qln Qso false) (mG Tryz.func137 (by kernel_rfl) Tryz.ntmps137 (by kernel_rfl) QEY QEO) fun x d hok => (QNe x.1).trans (QH1 x.1 hok))
def QmK (l : List Qaa) : Bool := l.any badC
noncomputable def QoH : TC := (.sq (.reg (rT Tryz.f94 0)) (.sq (.reg (rT Tryz.f94 1)) .rt))
def Qwv : List (RV × Option Ty) := [((.t 4), some .bool)]
def Qos : G := ⟨TYs, [], 9, EL [(137, Qsi)], keeps, (fun _ _ => none), IL [], RL []⟩
def Qt5 (p0 : List Qaa) : Option (V × List VO) := br (okBad p0) (some (.t .bool (ige (ixBad p0) 0), [])) none
theorem QRl (p0 : List Qaa) : runF Qos QoH Qwv false [.t (.sl Qac) p0, .c (.func (.func 95) ⟨[]⟩ ⟨[]⟩)] [] = Qt5 p0 := by kernel_rfl
theorem QMG : Qai Tryz.prog 94 := .inr ⟨by decide, _, Tryz.func94, by kernel_rfl, by kernel_rfl⟩
theorem QMr : GOk Tryz.prog Qos := Qal _ (gA (gC QE6 QEI gN))
theorem QL1 : QoH.lok Qos := by repeat (first | exact trivial | refine ⟨?_, ?_⟩)
theorem QPg (l : List Qaa) (h : okBad l = true) : Qt5 l = some (.t .bool (QmK l), []) := by
 simp only [Qt5, h, Qad]
 have e : ige (ixBad l) 0 = QmK l := by
  unfold ixBad QmK
  cases hq : fstG badC l with
  | none => rw [QbT.1 hq]; rfl
  | some k =>
   rw [← QbA, hq]
   simp only [ige, Option.isSome_some, decide_eq_true_eq]
   omega
 rw [e]
def Qvy : Ent := specH [.ty (.sl Qac), .cf 95] [] (fun x d => (okBad x.1)) (fun x d => (.t .bool (QmK x.1)))
theorem QKS : Meets Tryz.prog 94 (strip Qvy) := (QaP (R := runF Qos QoH Qwv false) (mG Tryz.func94 (by kernel_rfl) Tryz.ntmps94 (by kernel_rfl) QMr QL1) fun x d hok => (QRl x.1).trans (QPg x.1 hok))
noncomputable def QFK : TC := (.sq (.reg (rT Tryz.f98 0)) (.sq (.reg (rT Tryz.f98 1)) .rt))
def QTw : List (RV × Option Ty) := [((.t 5), some .bool)]
def g_f98 : G := ⟨TYs, [], 11, EL [(99, QSZ)], keeps, (fun _ _ => none), IL [], RL []⟩
def r_f98 (p0 : Qaa) (d0 : List Int) (d1 d2 : Int) : Option (V × List VO) := br (Qma p0 d0 d1 d2) (some (.t .bool (heldF p0 d0 d1 d2), [.box (.t (.sl tI) d0), .box (.t tI d1), .box (.t tI d2)])) none
theorem e_f98 (p0 : Qaa) (d0 : List Int) (d1 d2 : Int) : runF g_f98 QFK QTw false [.t Qac p0, .ptr 50000 0, .ptr 50001 0, .ptr 50002 0] [.box (.t (.sl tI) d0), .box (.t tI d1), .box (.t tI d2)] = r_f98 p0 d0 d1 d2 := by kernel_rfl
theorem en_f98 : Qai Tryz.prog 98 := .inr ⟨by decide, _, Tryz.func98, by kernel_rfl, by kernel_rfl⟩
theorem gk_f98 : GOk Tryz.prog g_f98 := Qal _ (gA (gC en_f99 ms_f99 gN))
theorem lk_f98 : QFK.lok g_f98 := by repeat (first | exact trivial | refine ⟨?_, ?_⟩)
theorem s_f98 (c : Qaa) (h : List Int) (d e : Int) (hok : Qma c h d e = true) : r_f98 c h d e = some (.t .bool (heldF c h d e), [.box (.t (.sl tI) h), .box (.t tI d), .box (.t tI e)]) := by
 simp only [r_f98, hok, Qad]
def QS0 : Ent := Qf9 [.ty Qac, .ptr 50000 0, .ptr 50001 0, .ptr 50002 0] [(.sl tI), tI, tI] (fun x d => (Qma x.1 d.1 d.2.1 d.2.2.1)) (fun x d => (.t .bool (heldF x.1 d.1 d.2.1 d.2.2.1)))
theorem ms_f98 : Meets Tryz.prog 98 (strip QS0) := Qcp (QaP (R := runF g_f98 QFK QTw false) (mG Tryz.func98 (by kernel_rfl) Tryz.ntmps98 (by kernel_rfl) gk_f98 lk_f98) fun x d hok => (e_f98 x.1 d.1 d.2.1 d.2.2.1).trans (s_f98 x.1 d.1 d.2.1 d.2.2.1 hok))
def Qdb (l : List Qaa) (h : List Int) (_d _e : Int) : Bool := decide (l.length ≤ 100000 ∧ h.length ≤ 100000)
theorem QEE {l : List Qaa} {h : List Int} {d e : Int} (hq : Qdb l h d e = true) : l.length ≤ 100000 := (of_decide_eq_true hq).1
def QsA (l : List Qaa) (d0 : List Int) (d1 : Int) (d2 : Int) : Int := match fstG (fun c => heldF c d0 d1 d2) l with | some k => (k : Int) | none => -1
def Qc0 : Fg := ⟨[(0, some (.sl Qac)), (1, none), (7, some tI), (8, some tI)], [(50000, some (.sl tI)), (50001, some tI), (50002, some tI)]⟩
noncomputable def QdR : TC := (.sq (.reg (rT Tryz.f137 2)) (.sq (.cd (.t 9) .sk (.fg ⟨[], [(50000, some (.sl tI)), (50001, some tI), (50002, some tI)]⟩ (.ex 0))) (.sq (.bk 1 (.sq (.reg (rT Tryz.f137 3)) (.sq (.reg (rT Tryz.f137 4)) (.cd (.t 16) (.sq (.reg (rT Tryz.f137 5)) (.fg ⟨[(4, some tI)], [(50000, some (.sl tI)), (50001, some tI), (50002, some tI)]⟩ .rt)) .sk)))) (.reg (rT Tryz.f137 6)))))
noncomputable def Qlm : TC := (.sq (.reg (rT Tryz.f137 0)) (.sq (.sq (.reg (rT Tryz.f137 1)) (.bk 0 (.lp 0 Qc0 QdR))) (.sq (.reg (rT Tryz.f137 7)) .rt)))
def Qsn : List (RV × Option Ty) := [((.t 4), some tI)]
abbrev Qgx : Sh := ⟨[(0, .ty (.sl Qac)), (1, .fn 98 [(50000, 0), (50001, 0), (50002, 0)]), (7, .ty tI), (8, .ty tI)], [(50000, .box (.sl tI)), (50001, .box tI), (50002, .box tI)]⟩
def Qgl (x0 : List Qaa) (x7 x8 : Int) (y50000 : List Int) (y50001 y50002 : Int) : VS := Qgx.st (x0, (), x7, x8, ()) (y50000, y50001, y50002, ())
abbrev QmM : Sh := ⟨[(4, .ty tI)], [(50000, .box (.sl tI)), (50001, .box tI), (50002, .box tI)]⟩
def QbV (x4 : Int) (y50000 : List Int) (y50001 y50002 : Int) : VS := QmM.st (x4, ()) (y50000, y50001, y50002, ())
abbrev QpW : Sh := ⟨[], [(50000, .box (.sl tI)), (50001, .box tI), (50002, .box tI)]⟩
def Qck (y50000 : List Int) (y50001 y50002 : Int) : VS := QpW.st () (y50000, y50001, y50002, ())
def QBr : VS → Option (Bool × List (Bool × Exit × VS)) := mkL Qgx (fun x y => (rngOk x.1 x.2.2.1 x.2.2.2.1 && Qdb x.1 y.1 y.2.1 y.2.2.1)) (fun x y => [(((fstG (fun c => heldF c y.1 y.2.1 y.2.2.1) (x.1.drop x.2.2.2.1.toNat)).isSome), .ret, QbV (x.2.2.2.1 + ((fstG (fun c => heldF c y.1 y.2.1 y.2.2.1) (x.1.drop x.2.2.2.1.toNat)).getD 0 : Nat)) (y.1) (y.2.1) (y.2.2.1)), (true, .exit 0, Qck (y.1) (y.2.1) (y.2.2.1))])
def QcV : G := ⟨TYs, [], 19, EL [(98, QS0)], keeps, (Ls [QBr]), IL [], RL []⟩
def QrL (x0 : List Qaa) (x7 x8 : Int) (y50000 : List Int) (y50001 y50002 : Int) : Option (Exit × VS) :=
 let a1 := lgt Qac x0 (Int.toNat x8)
 br (ilt x8 x7) (br (cIx x0 x8) (br (Qma a1 y50000 y50001 y50002) (br (heldF a1 y50000 y50001 y50002) (some (.ret, QbV x8 y50000 y50001 y50002)) (some (.normal, Qgl x0 x7 (iadd .i64 x8 1) y50000 y50001 y50002))) none) none) (some (.exit 0, Qck y50000 y50001 y50002))
noncomputable def QeB (x0 : List Qaa) (x7 x8 : Int) (y50000 : List Int) (y50001 y50002 : Int) : Option (Exit × VS) := loopF (Qaj QcV Qc0 QdR) (Qgl x0 x7 x8 y50000 y50001 y50002)
noncomputable def QfM (x0 : List Qaa) (x7 x8 : Int) (y50000 : List Int) (y50001 y50002 : Int) : Option (Exit × VS) :=
 let a1 := lgt Qac x0 (Int.toNat x8)
 br (ilt x8 x7) (br (cIx x0 x8) (br (Qma a1 y50000 y50001 y50002) (br (heldF a1 y50000 y50001 y50002) (some (.ret, QbV x8 y50000 y50001 y50002)) (QeB x0 x7 (iadd .i64 x8 1) y50000 y50001 y50002)) none) none) (some (.exit 0, Qck y50000 y50001 y50002))
def QeF (x0 : List Qaa) (x7 x8 : Int) (y50000 : List Int) (y50001 y50002 : Int) : Option (Exit × VS) := br ((fstG (fun c => heldF c y50000 y50001 y50002) (x0.drop x8.toNat)).isSome) (some (.ret, QbV (x8 + ((fstG (fun c => heldF c y50000 y50001 y50002) (x0.drop x8.toNat)).getD 0 : Nat)) (y50000) (y50001) (y50002))) <| some (.exit 0, Qck (y50000) (y50001) (y50002))
theorem QxQ (x0 : List Qaa) (x7 x8 : Int) (y50000 : List Int) (y50001 y50002 : Int) : Qaj QcV Qc0 QdR (Qgl x0 x7 x8 y50000 y50001 y50002) = QrL x0 x7 x8 y50000 y50001 y50002 := by kernel_rfl
theorem Ql5 (x0 : List Qaa) (x7 x8 : Int) (y50000 : List Int) (y50001 y50002 : Int) : QeB x0 x7 x8 y50000 y50001 y50002 = QfM x0 x7 x8 y50000 y50001 y50002 := (Qan _ _).trans (by
 rw [QxQ]
 simp only [QrL, QfM, Qay, nxt_n, nxt_r, nxt_e, nxt_0]
 rfl)
def Qqt (p0 : List Qaa) (d0 : List Int) (d1 d2 : Int) : Option (V × List VO) :=
 let a1 := (p0.drop (0 : Int).toNat)
 br (rngOk p0 (llen p0) (0 : Int) && Qdb p0 d0 d1 d2) (br ((fstG (fun c => heldF c d0 d1 d2) a1).isSome) (some (.t tI ((0 : Int) + ((fstG (fun c => heldF c d0 d1 d2) a1).getD 0 : Nat)), [.box (.t (.sl tI) (d0)), .box (.t tI (d1)), .box (.t tI (d2))])) (some (.t tI (-1), [.box (.t (.sl tI) (d0)), .box (.t tI (d1)), .box (.t tI (d2))]))) none
theorem QNd (p0 : List Qaa) (d0 : List Int) (d1 d2 : Int) : runF QcV Qlm Qsn false [.t (.sl Qac) p0, .fn 98 [(.ptr 50000 0), (.ptr 50001 0), (.ptr 50002 0)]] [.box (.t (.sl tI) d0), .box (.t tI d1), .box (.t tI d2)] = Qqt p0 d0 d1 d2 := by kernel_rfl
theorem QE5 : Qai Tryz.prog 137 := .inr ⟨by decide, _, Tryz.func137, by kernel_rfl, by kernel_rfl⟩
theorem QEX : GOk Tryz.prog QcV := Qal _ (gA (gC en_f98 ms_f98 gN))
theorem QAH (x0 : List Qaa) (x7 x8 : Int) (y50000 : List Int) (y50001 y50002 : Int) (h : (rngOk x0 x7 x8 && Qdb x0 y50000 y50001 y50002) = true) : QeB x0 x7 x8 y50000 y50001 y50002 = QeF x0 x7 x8 y50000 y50001 y50002 := by
 simp only [Bool.and_eq_true] at h
 obtain ⟨h0, hc⟩ := h
 obtain ⟨rfl, h3, k, rfl, hk⟩ := rng_k h0
 clear h0
 refine Qar x0 (fun k => QeB x0 (x0.length : Int) (k : Int) y50000 y50001 y50002 = QeF x0 (x0.length : Int) (k : Int) y50000 y50001 y50002) ?_ ?_ k hk
 ·rw [Ql5]
  simp [QfM, QeF, Qas, Qaf, fstG]
 ·intro k hk ih
  rw [Ql5]
  have hx := show Qma x0[k] y50000 y50001 y50002 = true from decide_eq_true (of_decide_eq_true hc).2
  simp only [QfM, Qas, Qaw, hk, decide_true, Qad, Int.toNat_natCast, add1 (show k < 4611686018427387904 by omega), ih, QaA (y := Qac) hk, hx]
  simp only [QeF, Int.toNat_natCast, List.drop_eq_getElem_cons hk, fstG]
  cases h : (heldF x0[k] y50000 y50001 y50002) with
  | true => simp [Qad]
  | false =>
   simp only [Qaf, Bool.false_eq_true, if_false]
   cases hq : fstG (fun c => heldF c y50000 y50001 y50002) (x0.drop (k + 1)) with
   | none => rfl
   | some j =>
    simp only [Option.map_some, Option.isSome_some, Option.getD_some, Qad]
    congr 3
    omega
theorem QwT : ∀ S l p, QcV.L 0 (fgt Qc0 S) = some (true, l) → pickA l = some p → loopF (Qaj QcV Qc0 QdR) S = some p :=
 QaB (s := Qgx) ⟨by decide, by decide⟩ (by kernel_rfl) fun x y hok p hp => by
 simp only [Qao, Qam] at hp
 exact (QAH x.1 x.2.2.1 x.2.2.2.1 y.1 y.2.1 y.2.2.1 (by simpa using hok)).trans hp
theorem QEN : Qlm.lok QcV := by
 repeat (first | exact trivial | exact QwT | refine ⟨?_, ?_⟩)
theorem QH0 (l : List Qaa) (d0 : List Int) (d1 d2 : Int) (h : Qdb l d0 d1 d2 = true) : Qqt l d0 d1 d2 = some (.t tI (QsA l d0 d1 d2), [.box (.t (.sl tI) d0), .box (.t tI d1), .box (.t tI d2)]) := by
 have hl := QEE h
 simp only [Qqt, rng_0 hl, h, Bool.and_self, Qad, Int.toNat_zero, List.drop_zero, QsA]
 cases fstG (fun c => heldF c d0 d1 d2) l <;> simp [Qad, Qaf]
def Qsh : Ent := Qf9 [.ty (.sl Qac), .fn 98 [(50000, 0), (50001, 0), (50002, 0)]] [(.sl tI), tI, tI] (fun x d => (Qdb x.1 d.1 d.2.1 d.2.2.1)) (fun x d => (.t tI (QsA x.1 d.1 d.2.1 d.2.2.1)))
theorem QEH : Meets Tryz.prog 137 (strip Qsh) := Qcp (QaP (R := runF QcV Qlm Qsn false) (mG Tryz.func137 (by kernel_rfl) Tryz.ntmps137 (by kernel_rfl) QEX QEN) fun x d hok => (QNd x.1 d.1 d.2.1 d.2.2.1).trans (QH0 x.1 d.1 d.2.1 d.2.2.1 hok))
def Qb4 (l : List Qaa) (d0 : List Int) (d1 : Int) (d2 : Int) : Bool := l.any (fun c => heldF c d0 d1 d2)
noncomputable def QoG : TC := (.sq (.reg (rT Tryz.f94 0)) (.sq (.reg (rT Tryz.f94 1)) .rt))
def Qwu : List (RV × Option Ty) := [((.t 4), some .bool)]
def Qor : G := ⟨TYs, [], 9, EL [(137, Qsh)], keeps, (fun _ _ => none), IL [], RL []⟩
def Qt4 (p0 : List Qaa) (d0 : List Int) (d1 d2 : Int) : Option (V × List VO) := br (Qdb p0 d0 d1 d2) (some (.t .bool (ige (QsA p0 d0 d1 d2) 0), [.box (.t (.sl tI) d0), .box (.t tI d1), .box (.t tI d2)])) none
theorem QRk (p0 : List Qaa) (d0 : List Int) (d1 d2 : Int) : runF Qor QoG Qwu false [.t (.sl Qac) p0, .fn 98 [(.ptr 50000 0), (.ptr 50001 0), (.ptr 50002 0)]] [.box (.t (.sl tI) d0), .box (.t tI d1), .box (.t tI d2)] = Qt4 p0 d0 d1 d2 := by kernel_rfl
theorem QMF : Qai Tryz.prog 94 := .inr ⟨by decide, _, Tryz.func94, by kernel_rfl, by kernel_rfl⟩
theorem QMq : GOk Tryz.prog Qor := Qal _ (gA (gC QE5 QEH gN))
theorem QL0 : QoG.lok Qor := by repeat (first | exact trivial | refine ⟨?_, ?_⟩)
theorem QPf (l : List Qaa) (d0 : List Int) (d1 d2 : Int) (h : Qdb l d0 d1 d2 = true) : Qt4 l d0 d1 d2 = some (.t .bool (Qb4 l d0 d1 d2), [.box (.t (.sl tI) d0), .box (.t tI d1), .box (.t tI d2)]) := by
 simp only [Qt4, h, Qad]
 have e : ige (QsA l d0 d1 d2) 0 = Qb4 l d0 d1 d2 := by
  unfold QsA Qb4
  cases hq : fstG (fun c => heldF c d0 d1 d2) l with
  | none => rw [QbT.1 hq]; rfl
  | some k =>
   rw [← QbA, hq]
   simp only [ige, Option.isSome_some, decide_eq_true_eq]
   omega
 rw [e]
def Qvx : Ent := Qf9 [.ty (.sl Qac), .fn 98 [(50000, 0), (50001, 0), (50002, 0)]] [(.sl tI), tI, tI] (fun x d => (Qdb x.1 d.1 d.2.1 d.2.2.1)) (fun x d => (.t .bool (Qb4 x.1 d.1 d.2.1 d.2.2.1)))
theorem QKR : Meets Tryz.prog 94 (strip Qvx) := Qcp (QaP (R := runF Qor QoG Qwu false) (mG Tryz.func94 (by kernel_rfl) Tryz.ntmps94 (by kernel_rfl) QMq QL0) fun x d hok => (QRk x.1 d.1 d.2.1 d.2.2.1).trans (QPf x.1 d.1 d.2.1 d.2.2.1 hok))
end
end Go.Proofs.YtckcgijklnloiaaGreat.K
namespace Go.Proofs.YtckcgijklnloiaaGreat.K
open Go.RowKit
noncomputable section
abbrev lastC (l : List Qaa) : Qaa := cAt l (l.length - 1)
def chkCh (l : List Qaa) (a h : List Int) (d : Int) (n : ByteArray) : Int :=
 if l.length = 0 then 4 else if 8 < l.length then 3 else
 bif QmK l then 9 else bif !hasS (QaF (cAt l 0)) n then 14 else bif Qb4 l h d 13 then 13 else bif Qb4 l h d 7 then 7 else
 bif Qcw l 11 then 11 else bif Qcw l 15 then 15 else bif Qcw l 10 then 10 else bif !hasF a (cSeal (lastC l)).1 then 12 else 0
def QdN (l : List Qaa) (a h : List Int) (_d : Int) (_n : ByteArray) : Bool := QaQ l && decide (a.length ≤ 100000 ∧ h.length ≤ 100000)
def heldZ (l : List Qaa) (h : List Int) (d : Int) (k : Nat) : Option Int := (([13, 7] : List Int).drop k).find? fun e => Qb4 l h d e
def failZ (l : List Qaa) (k : Nat) : Option Int := (([11, 15, 10] : List Int).drop k).find? fun e => Qcw l e
theorem QKP {l : List Qaa} (h : QaQ l = true) {k : Nat} (hk : k < l.length) : (QaF (cAt l k)).length ≤ 100000 := QxP (QNJ h hk)
abbrev Trip : Type := Int × Int × Int × Unit
def QkW : Fg := ⟨[(0, some (.sl Qac)), (1, some (.sl tI)), (7, none), (8, none), (34, some Qag), (35, some tI)], [(7, some (.sl tI)), (8, some tI)]⟩
noncomputable def Qm4 : TC := (.sq (.reg (rT Tryz.f57 10)) (.sq (.cd (.t 36) .sk (.fg ⟨[(0, some (.sl Qac)), (1, some (.sl tI))], []⟩ (.ex 1))) (.sq (.bk 2 (.sq (.reg (rT Tryz.f57 11)) (.sq (.reg (rT Tryz.f57 12)) (.cd (.t 40) (.sq (.reg (rT Tryz.f57 13)) (.fg ⟨[(10, some tI)], []⟩ .rt)) .sk)))) (.reg (rT Tryz.f57 14)))))
def QxB : Fg := ⟨[(0, some (.sl Qac)), (1, some (.sl tI)), (43, some (.pr tI (.pr tI (.pr tI .nil)))), (44, some tI)], []⟩
noncomputable def QBx : TC := (.sq (.reg (rT Tryz.f57 16)) (.sq (.cd (.t 45) .sk (.fg ⟨[(0, some (.sl Qac)), (1, some (.sl tI))], []⟩ (.ex 3))) (.sq (.bk 4 (.sq (.reg (rT Tryz.f57 17)) (.sq (.reg (rT Tryz.f57 18)) (.cd (.t 49) (.sq (.reg (rT Tryz.f57 19)) (.fg ⟨[(10, some tI)], []⟩ .rt)) .sk)))) (.reg (rT Tryz.f57 20)))))
noncomputable def QF4 : TC := (.sq (.reg (rT Tryz.f57 0)) (.sq (.bk 0 (.sq (.reg (rT Tryz.f57 1)) (.cd (.t 15) (.sq (.reg (rT Tryz.f57 2)) .rt) (.sq (.reg (rT Tryz.f57 3)) (.cd (.t 19) (.sq (.reg (rT Tryz.f57 4)) .rt) (.sq (.reg (rT Tryz.f57 5)) (.cd (.t 23) (.sq (.reg (rT Tryz.f57 6)) .rt) (.sq (.reg (rT Tryz.f57 7)) (.cd (.t 26) (.sq (.reg (rT Tryz.f57 8)) .rt) .sk))))))))) (.sq (.sq (.reg (rT Tryz.f57 9)) (.bk 1 (.lp 0 QkW Qm4))) (.sq (.sq (.reg (rT Tryz.f57 15)) (.bk 3 (.lp 1 QxB QBx))) (.sq (.sq (.reg (rT Tryz.f57 21)) (.cd (.t 62) (.sq (.reg (rT Tryz.f57 22)) .rt) .sk)) (.sq (.reg (rT Tryz.f57 23)) .rt))))))
def QTQ : List (RV × Option Ty) := [((.t 10), some tI)]
abbrev Qts : Sh := ⟨[(0, .ty (.sl Qac)), (1, .ty (.sl tI)), (7, .ptr 7 0), (8, .ptr 8 0), (34, .ty Qag), (35, .ty tI)], [(7, .box (.sl tI)), (8, .box tI)]⟩
def Qs1 (x0 : List Qaa) (x1 : List Int) (x34 : Keep) (x35 : Int) (y7 : List Int) (y8 : Int) : VS := Qts.st (x0, x1, (), (), x34, x35, ()) (y7, y8, ())
abbrev QvT : Sh := ⟨[(10, .ty tI)], []⟩
def QdX (x10 : Int) : VS := QvT.st (x10, ()) ()
abbrev QzH : Sh := ⟨[(0, .ty (.sl Qac)), (1, .ty (.sl tI))], []⟩
def Qfo (x0 : List Qaa) (x1 : List Int) : VS := QzH.st (x0, x1, ()) ()
abbrev QHX : Sh := ⟨[(0, .ty (.sl Qac)), (1, .ty (.sl tI)), (43, .ty (.pr tI (.pr tI (.pr tI .nil)))), (44, .ty tI)], []⟩
def QGz (x0 : List Qaa) (x1 : List Int) (x43 : (Int × (Int × (Int × Unit)))) (x44 : Int) : VS := QHX.st (x0, x1, x43, x44, ()) ()
abbrev QEu : Sh := ⟨[(10, .ty tI)], []⟩
def Qhy (x10 : Int) : VS := QEu.st (x10, ()) ()
abbrev QHW : Sh := ⟨[(0, .ty (.sl Qac)), (1, .ty (.sl tI))], []⟩
def Qjp (x0 : List Qaa) (x1 : List Int) : VS := QHW.st (x0, x1, ()) ()
def Q03 : VS → Option (Bool × List (Bool × Exit × VS)) := mkL Qts (fun x y => (x.2.2.2.2.1 == ((13, (7, ())) : Keep) && decide (0 ≤ x.2.2.2.2.2.1 ∧ x.2.2.2.2.2.1 ≤ 2) && Qdb x.1 y.1 y.2.1 0)) (fun x y => [(((heldZ x.1 y.1 y.2.1 x.2.2.2.2.2.1.toNat).isSome), .ret, QdX ((heldZ x.1 y.1 y.2.1 x.2.2.2.2.2.1.toNat).getD 0)), (true, .exit 1, Qfo (x.1) (x.2.1))])
def L_f95 : VS → Option (Bool × List (Bool × Exit × VS)) := mkL QHX (fun x y => (x.2.2.1 == ((11, (15, (10, ()))) : Trip) && decide (0 ≤ x.2.2.2.1 ∧ x.2.2.2.1 ≤ 3) && QaQ x.1)) (fun x y => [(((failZ x.1 x.2.2.2.1.toNat).isSome), .ret, Qhy ((failZ x.1 x.2.2.2.1.toNat).getD 0)), (true, .exit 3, Qjp (x.1) (x.2.1))])
def g_f57 : G := ⟨TYs, [], 63, EL [(94, Qvx), (94, Qvy), (97, QS1), (100, QHL), (101, Qlr), (1002562, Qgs), (1002594, Qgr)], keeps, (Ls [Q03, L_f95]), IL [], RL []⟩
def QOx (x0 : List Qaa) (x1 : List Int) (x34 : Keep) (x35 : Int) (y7 : List Int) (y8 : Int) : Option (Exit × VS) :=
 let a1 := Qbx tI 2 x34 x35
 br (ilt x35 2) (br (arrOk tI 2 x34 x35) (br (Qdb x0 y7 y8 a1) (br (Qb4 x0 y7 y8 a1) (some (.ret, QdX a1)) (some (.normal, Qs1 x0 x1 x34 (iadd .i64 x35 1) y7 y8))) none) none) (some (.exit 1, Qfo x0 x1))
noncomputable def QhT (x0 : List Qaa) (x1 : List Int) (x34 : Keep) (x35 : Int) (y7 : List Int) (y8 : Int) : Option (Exit × VS) := loopF (Qaj g_f57 QkW Qm4) (Qs1 x0 x1 x34 x35 y7 y8)
noncomputable def Quy (x0 : List Qaa) (x1 : List Int) (x34 : Keep) (x35 : Int) (y7 : List Int) (y8 : Int) : Option (Exit × VS) :=
 let a1 := Qbx tI 2 x34 x35
 br (ilt x35 2) (br (arrOk tI 2 x34 x35) (br (Qdb x0 y7 y8 a1) (br (Qb4 x0 y7 y8 a1) (some (.ret, QdX a1)) (QhT x0 x1 x34 (iadd .i64 x35 1) y7 y8)) none) none) (some (.exit 1, Qfo x0 x1))
def QhY (x0 : List Qaa) (x1 : List Int) (x34 : Keep) (x35 : Int) (y7 : List Int) (y8 : Int) : Option (Exit × VS) :=
 let a1 := heldZ x0 y7 y8 x35.toNat
 br (a1.isSome) (some (.ret, QdX (a1.getD 0))) <| some (.exit 1, Qfo (x0) (x1))
theorem QR6 (x0 : List Qaa) (x1 : List Int) (x34 : Keep) (x35 : Int) (y7 : List Int) (y8 : Int) : Qaj g_f57 QkW Qm4 (Qs1 x0 x1 x34 x35 y7 y8) = QOx x0 x1 x34 x35 y7 y8 := by kernel_rfl
theorem QuT (x0 : List Qaa) (x1 : List Int) (x34 : Keep) (x35 : Int) (y7 : List Int) (y8 : Int) : QhT x0 x1 x34 x35 y7 y8 = Quy x0 x1 x34 x35 y7 y8 := (Qan _ _).trans (by
 rw [QR6]
 simp only [QOx, Quy, Qay, nxt_n, nxt_r, nxt_e, nxt_0]
 rfl)
def b_f95 (x0 : List Qaa) (x1 : List Int) (x43 : (Int × (Int × (Int × Unit)))) (x44 : Int) : Option (Exit × VS) :=
 let a1 := Qbx tI 3 x43 x44
 br (ilt x44 3) (br (arrOk tI 3 x43 x44) (br (Qrp x0 a1) (br (Qcw x0 a1) (some (.ret, Qhy a1)) (some (.normal, QGz x0 x1 x43 (iadd .i64 x44 1)))) none) none) (some (.exit 3, Qjp x0 x1))
noncomputable def QqP (x0 : List Qaa) (x1 : List Int) (x43 : (Int × (Int × (Int × Unit)))) (x44 : Int) : Option (Exit × VS) := loopF (Qaj g_f57 QxB QBx) (QGz x0 x1 x43 x44)
noncomputable def n_f95 (x0 : List Qaa) (x1 : List Int) (x43 : (Int × (Int × (Int × Unit)))) (x44 : Int) : Option (Exit × VS) :=
 let a1 := Qbx tI 3 x43 x44
 br (ilt x44 3) (br (arrOk tI 3 x43 x44) (br (Qrp x0 a1) (br (Qcw x0 a1) (some (.ret, Qhy a1)) (QqP x0 x1 x43 (iadd .i64 x44 1))) none) none) (some (.exit 3, Qjp x0 x1))
def Ql9 (x0 : List Qaa) (x1 : List Int) (x43 : (Int × (Int × (Int × Unit)))) (x44 : Int) : Option (Exit × VS) := br ((failZ x0 x44.toNat).isSome) (some (.ret, Qhy ((failZ x0 x44.toNat).getD 0))) <| some (.exit 3, Qjp (x0) (x1))
theorem be_f95 (x0 : List Qaa) (x1 : List Int) (x43 : (Int × (Int × (Int × Unit)))) (x44 : Int) : Qaj g_f57 QxB QBx (QGz x0 x1 x43 x44) = b_f95 x0 x1 x43 x44 := by kernel_rfl
theorem QB4 (x0 : List Qaa) (x1 : List Int) (x43 : (Int × (Int × (Int × Unit)))) (x44 : Int) : QqP x0 x1 x43 x44 = n_f95 x0 x1 x43 x44 := (Qan _ _).trans (by
 rw [be_f95]
 simp only [b_f95, n_f95, Qay, nxt_n, nxt_r, nxt_e, nxt_0]
 rfl)
def r_f57 (p0 : List Qaa) (p1 p2 : List Int) (p3 : Int) (p4 : ByteArray) : Option (V × List VO) :=
 let a1 := ((((((((((((((lgt Qac (p0) (Int.toNat (isub .i64 (llen (p0)) 1))).2).2).2).2).2).2).2).2).2).2).2).1).1)
 let a2 := ((((((((((((lgt Qac p0 (Int.toNat 0)).2).2).2).2).2).2).2).2).2).2).1)
 let a3 := (heldZ p0 p2 p3 (0 : Int).toNat)
 let a4 := (failZ (p0) (0 : Int).toNat)
 br (ieq (llen p0) 0) (some (.t tI 4, [])) (br (igt (llen p0) 8) (some (.t tI 3, [])) (br (okBad p0) (br (QmK p0) (some (.t tI 9, [])) (br (cIx p0 0) (br (QkG a2 p4) (br (!(hasS a2 p4)) (some (.t tI 14, [])) (br ((13, (7, ())) == ((13, (7, ())) : Keep) && decide (0 ≤ (0 : Int) ∧ (0 : Int) ≤ 2) && Qdb p0 p2 p3 0) (br (a3.isSome) (some (.t tI (a3.getD 0), [])) (br ((11, (15, (10, ()))) == ((11, (15, (10, ()))) : Trip) && decide (0 ≤ (0 : Int) ∧ (0 : Int) ≤ 3) && QaQ (p0)) (br (a4.isSome) (some (.t tI (a4.getD 0), [])) (br (cIx (p0) (isub .i64 (llen (p0)) 1)) (br (Qa3 (p1) a1) (br (!(hasF (p1) a1)) (some (.t tI 12, [])) (some (.t tI 0, []))) none) none)) none)) none)) none) none)) none))
theorem e_f57 (p0 : List Qaa) (p1 p2 : List Int) (p3 : Int) (p4 : ByteArray) : runF g_f57 QF4 QTQ false [.t (.sl Qac) p0, .t (.sl tI) p1, .t (.sl tI) p2, .t tI p3, .t .str p4] [] = r_f57 p0 p1 p2 p3 p4 := by kernel_rfl
theorem QUT : Qai Tryz.prog 57 := .inr ⟨by decide, _, Tryz.func57, by kernel_rfl, by kernel_rfl⟩
theorem gk_f57 : GOk Tryz.prog g_f57 := Qal _ (gA (gC QMF QKR (gC QMG QKS (gC en_f97 ms_f97 (gC Q0D QWx (gC QrC QqM (gC Qrx QqH (gC Qrw QqG gN))))))))
theorem QX9 (x0 : List Qaa) (x1 : List Int) (x34 : Keep) (x35 : Int) (y7 : List Int) (y8 : Int) (h : (x34 == ((13, (7, ())) : Keep) && decide (0 ≤ x35 ∧ x35 ≤ 2) && Qdb x0 y7 y8 0) = true) : QhT x0 x1 x34 x35 y7 y8 = QhY x0 x1 x34 x35 y7 y8 := by
 simp only [Bool.and_eq_true, decide_eq_true_eq, beq_iff_eq] at h
 obtain ⟨⟨rfl, h1, h2⟩, hc⟩ := h
 have hc : ∀ e, Qdb x0 y7 y8 e = true := fun e => hc
 obtain ⟨k, rfl⟩ := Int.eq_ofNat_of_zero_le h1
 have k2 : QhT x0 x1 (13, (7, ())) ((2 : Nat) : Int) y7 y8 = QhY x0 x1 (13, (7, ())) ((2 : Nat) : Int) y7 y8 := by
  rw [QuT]
  rfl
 have k1 : QhT x0 x1 (13, (7, ())) ((1 : Nat) : Int) y7 y8 = QhY x0 x1 (13, (7, ())) ((1 : Nat) : Int) y7 y8 := by
  rw [QuT]
  simp only [Quy, hc, show ilt ((1 : Nat) : Int) 2 = true from rfl, show arrOk tI 2 ((13, (7, ())) : Keep) ((1 : Nat) : Int) = true from rfl, show Qbx tI 2 ((13, (7, ())) : Keep) ((1 : Nat) : Int) = 7 from rfl, Qad, show iadd .i64 ((1 : Nat) : Int) 1 = ((2 : Nat) : Int) from rfl, k2]
  simp only [QhY, heldZ, Int.toNat_natCast, List.drop_succ_cons, List.drop_zero, List.drop_nil, List.find?_cons, List.find?_nil]
  cases Qb4 x0 y7 y8 7 <;> rfl
 have k0 : QhT x0 x1 (13, (7, ())) ((0 : Nat) : Int) y7 y8 = QhY x0 x1 (13, (7, ())) ((0 : Nat) : Int) y7 y8 := by
  rw [QuT]
  simp only [Quy, hc, show ilt ((0 : Nat) : Int) 2 = true from rfl, show arrOk tI 2 ((13, (7, ())) : Keep) ((0 : Nat) : Int) = true from rfl, show Qbx tI 2 ((13, (7, ())) : Keep) ((0 : Nat) : Int) = 13 from rfl, Qad, show iadd .i64 ((0 : Nat) : Int) 1 = ((1 : Nat) : Int) from rfl, k1]
  simp only [QhY, heldZ, Int.toNat_natCast, List.drop_succ_cons, List.drop_zero, List.drop_nil, List.find?_cons, List.find?_nil]
  cases Qb4 x0 y7 y8 13 <;> rfl
 have : k = 0 ∨ k = 1 ∨ k = 2 := by omega
 rcases this with rfl | rfl | rfl
 ·exact k0
 ·exact k1
 ·exact k2
theorem l_f95 (x0 : List Qaa) (x1 : List Int) (x43 : (Int × (Int × (Int × Unit)))) (x44 : Int) (h : (x43 == ((11, (15, (10, ()))) : Trip) && decide (0 ≤ x44 ∧ x44 ≤ 3) && QaQ x0) = true) : QqP x0 x1 x43 x44 = Ql9 x0 x1 x43 x44 := by
 simp only [Bool.and_eq_true, decide_eq_true_eq, beq_iff_eq] at h
 obtain ⟨⟨rfl, h1, h2⟩, hc⟩ := h
 have hc : ∀ e, Qrp x0 e = true := fun e => hc
 obtain ⟨k, rfl⟩ := Int.eq_ofNat_of_zero_le h1
 have k3 : QqP x0 x1 (11, (15, (10, ()))) ((3 : Nat) : Int) = Ql9 x0 x1 (11, (15, (10, ()))) ((3 : Nat) : Int) := by
  rw [QB4]
  rfl
 have k2 : QqP x0 x1 (11, (15, (10, ()))) ((2 : Nat) : Int) = Ql9 x0 x1 (11, (15, (10, ()))) ((2 : Nat) : Int) := by
  rw [QB4]
  simp only [n_f95, hc, show ilt ((2 : Nat) : Int) 3 = true from rfl, show arrOk tI 3 ((11, (15, (10, ()))) : Trip) ((2 : Nat) : Int) = true from rfl, show Qbx tI 3 ((11, (15, (10, ()))) : Trip) ((2 : Nat) : Int) = 10 from rfl, Qad, show iadd .i64 ((2 : Nat) : Int) 1 = ((3 : Nat) : Int) from rfl, k3]
  simp only [Ql9, failZ, Int.toNat_natCast, List.drop_succ_cons, List.drop_zero, List.drop_nil, List.find?_cons, List.find?_nil]
  cases Qcw x0 10 <;> rfl
 have k1 : QqP x0 x1 (11, (15, (10, ()))) ((1 : Nat) : Int) = Ql9 x0 x1 (11, (15, (10, ()))) ((1 : Nat) : Int) := by
  rw [QB4]
  simp only [n_f95, hc, show ilt ((1 : Nat) : Int) 3 = true from rfl, show arrOk tI 3 ((11, (15, (10, ()))) : Trip) ((1 : Nat) : Int) = true from rfl, show Qbx tI 3 ((11, (15, (10, ()))) : Trip) ((1 : Nat) : Int) = 15 from rfl, Qad, show iadd .i64 ((1 : Nat) : Int) 1 = ((2 : Nat) : Int) from rfl, k2]
  simp only [Ql9, failZ, Int.toNat_natCast, List.drop_succ_cons, List.drop_zero, List.drop_nil, List.find?_cons, List.find?_nil]
  cases Qcw x0 15 <;> rfl
 have k0 : QqP x0 x1 (11, (15, (10, ()))) ((0 : Nat) : Int) = Ql9 x0 x1 (11, (15, (10, ()))) ((0 : Nat) : Int) := by
  rw [QB4]
  simp only [n_f95, hc, show ilt ((0 : Nat) : Int) 3 = true from rfl, show arrOk tI 3 ((11, (15, (10, ()))) : Trip) ((0 : Nat) : Int) = true from rfl, show Qbx tI 3 ((11, (15, (10, ()))) : Trip) ((0 : Nat) : Int) = 11 from rfl, Qad, show iadd .i64 ((0 : Nat) : Int) 1 = ((1 : Nat) : Int) from rfl, k1]
  simp only [Ql9, failZ, Int.toNat_natCast, List.drop_succ_cons, List.drop_zero, List.drop_nil, List.find?_cons, List.find?_nil]
  cases Qcw x0 11 <;> rfl
 have : k = 0 ∨ k = 1 ∨ k = 2 ∨ k = 3 := by omega
 rcases this with rfl | rfl | rfl | rfl
 ·exact k0
 ·exact k1
 ·exact k2
 ·exact k3
theorem QPW : ∀ S l p, g_f57.L 0 (fgt QkW S) = some (true, l) → pickA l = some p → loopF (Qaj g_f57 QkW Qm4) S = some p :=
 QaB (s := Qts) ⟨by decide, by decide⟩ (by kernel_rfl) fun x y hok p hp => by
 simp only [Qao, Qam] at hp
 exact (QX9 x.1 x.2.1 x.2.2.2.2.1 x.2.2.2.2.2.1 y.1 y.2.1 (by simpa using hok)).trans hp
theorem lo_f95 : ∀ S l p, g_f57.L 1 (fgt QxB S) = some (true, l) → pickA l = some p → loopF (Qaj g_f57 QxB QBx) S = some p :=
 QaB (s := QHX) ⟨by decide, by decide⟩ (by kernel_rfl) fun x y hok p hp => by
 simp only [Qao, Qam] at hp
 exact (l_f95 x.1 x.2.1 x.2.2.1 x.2.2.2.1 (by simpa using hok)).trans hp
theorem lk_f57 : QF4.lok g_f57 := by
 repeat (first | exact trivial | exact QPW | exact lo_f95 | refine ⟨?_, ?_⟩)
theorem s_f57 (l : List Qaa) (a h : List Int) (d : Int) (n : ByteArray) (hok : QdN l a h d n = true) : r_f57 l a h d n = some (.t tI (chkCh l a h d n), []) := by
 simp only [QdN, Bool.and_eq_true, decide_eq_true_eq] at hok
 obtain ⟨hc, ha, hh⟩ := hok
 have hl := Qlc hc
 unfold chkCh
 by_cases h0 : l.length = 0
 ·simp only [r_f57, show ieq (llen l) 0 = true from beq_iff_eq.2 (by simp only [llen]; omega), Qad, if_pos h0]
 by_cases h8 : 8 < l.length
 ·simp only [r_f57, show ieq (llen l) 0 = false from beq_eq_false_iff_ne.2 (by simp only [llen]; omega), Qaf, show igt (llen l) 8 = true from decide_eq_true (by simp only [llen]; omega), Qad, if_neg h0, if_pos h8]
 have c1 : ∀ e, Qdb l h d e = true := fun e => decide_eq_true ⟨hl, hh⟩
 have c2 : cIx l 0 = true := by simp only [cIx, decide_eq_true_eq]; omega
 have c3 : QkG (QaF (cAt l 0)) n = true := by
  have := QKP hc (show 0 < l.length by omega)
  exact decide_eq_true (by omega)
 have c4 : isub .i64 (llen l) 1 = ((l.length - 1 : Nat) : Int) := by rw [Qb3 (by simp only [llen]; omega)]; simp only [llen]; omega
 have c5 : cIx l ((l.length - 1 : Nat) : Int) = true := by simp only [cIx, decide_eq_true_eq]; omega
 have c6 : ∀ v, Qa3 a v = true := fun v => decide_eq_true ha
 have d1 : decide ((0 : Int) ≤ 0 ∧ (0 : Int) ≤ 2) = true := rfl
 have d2 : decide ((0 : Int) ≤ 0 ∧ (0 : Int) ≤ 3) = true := rfl
 simp only [r_f57, show ieq (llen l) 0 = false from beq_eq_false_iff_ne.2 (by simp only [llen]; omega), Qaf, show igt (llen l) 8 = false from decide_eq_false (by simp only [llen]; omega), if_neg h0, if_neg h8, show okBad l = true from hc, hc, c1, c2, c4, c5, c6, d1, d2, Qad, Int.toNat_natCast, Int.toNat_zero, show lgt Qac l 0 = cAt l 0 from rfl, show lgt Qac l (l.length - 1) = lastC l from rfl, beq_self_eq_true, Bool.and_self]
 rw [show (QkG (cAt l 0).2.2.2.2.2.2.2.2.2.2.1 n) = true from c3, Qad]
 cases QmK l with
 | true => rfl
 | false =>
  rw [Qaf, cond_false]
  cases hasS (QaF (cAt l 0)) n with
  | false => rfl
  | true =>
   rw [Bool.not_true, Qaf, cond_false]
   simp only [heldZ, failZ, List.drop_zero, List.find?_cons, List.find?_nil]
   cases Qb4 l h d 13 with
   | true => rfl
   | false =>
    rw [cond_false]
    cases Qb4 l h d 7 with
    | true => rfl
    | false =>
     rw [cond_false]
     simp only [Option.isSome_none, Qaf]
     cases Qcw l 11 with
     | true => rfl
     | false =>
      rw [cond_false]
      cases Qcw l 15 with
      | true => rfl
      | false =>
       rw [cond_false]
       cases Qcw l 10 with
       | true => rfl
       | false =>
        simp only [Option.isSome_none, Qaf, cond_false]
        cases hasF a (cSeal (lastC l)).1 <;> rfl
def QGD : Ent := spec (.pr (.sl Qac) (.pr (.sl tI) (.pr (.sl tI) (.pr tI (.pr .str .nil))))) (fun x => (QdN x.1 x.2.1 x.2.2.1 x.2.2.2.1 x.2.2.2.2.1)) (fun x => (.t tI (chkCh x.1 x.2.1 x.2.2.1 x.2.2.2.1 x.2.2.2.2.1)))
theorem QUD : Meets Tryz.prog 57 (strip QGD) := Qah (R := runF g_f57 QF4 QTQ false) (mG Tryz.func57 (by kernel_rfl) Tryz.ntmps57 (by kernel_rfl) gk_f57 lk_f57) fun x hok => (e_f57 x.1 x.2.1 x.2.2.1 x.2.2.2.1 x.2.2.2.2.1).trans (s_f57 x.1 x.2.1 x.2.2.1 x.2.2.2.1 x.2.2.2.2.1 hok)
end
end Go.Proofs.YtckcgijklnloiaaGreat.K
namespace Go.Proofs.YtckcgijklnloiaaGreat.K
open Go.RowKit
noncomputable section
theorem brOr {β : Type} {a b : Bool} {X Y : Option β} : br a X (br b X Y) = br (a || b) X Y := by cases a <;> cases b <;> rfl
def idAlg (x : QaH) (s : Suite) : Bool := ieq s.2.2.2.1.1 0 || ieq x.1.1 s.2.2.2.1.1
noncomputable def QFO : TC := (.sq (.reg (rT Tryz.f93 0)) (.sq (.reg (rT Tryz.f93 1)) .rt))
def QTA : List (RV × Option Ty) := [((.t 3), some .bool)]
def g_f93 : G := ⟨TYs, [], 17, EL [], keeps, (fun _ _ => none), IL [], RL []⟩
def r_f93 (p0 : QaH) (d0 : Suite) : Option (V × List VO) := br (ieq d0.2.2.2.1.1 0) (some (.t .bool true, [.box (.t Qax d0)])) (some (.t .bool (ieq p0.1.1 d0.2.2.2.1.1), [.box (.t Qax d0)]))
theorem e_f93 (p0 : QaH) (d0 : Suite) : runF g_f93 QFO QTA false [.t Qat p0, .ptr 50000 0] [.box (.t Qax d0)] = r_f93 p0 d0 := by kernel_rfl
theorem en_f93 : Qai Tryz.prog 93 := .inr ⟨by decide, _, Tryz.func93, by kernel_rfl, by kernel_rfl⟩
theorem gk_f93 : GOk Tryz.prog g_f93 := Qal _ (fun p hp => by cases hp)
theorem lk_f93 : QFO.lok g_f93 := by repeat (first | exact trivial | refine ⟨?_, ?_⟩)
theorem s_f93 (x : QaH) (s : Suite) : r_f93 x s = some (.t .bool (idAlg x s), [.box (.t Qax s)]) := by
 simp only [r_f93]
 unfold idAlg
 cases ieq s.2.2.2.1.1 0 <;> rfl
def QS3 : Ent := Qf9 [.ty Qat, .ptr 50000 0] [Qax] (fun x d => true) (fun x d => (.t .bool (idAlg x.1 d.1)))
theorem ms_f93 : Meets Tryz.prog 93 (strip QS3) := Qcp (QaP (R := runF g_f93 QFO QTA false) (mG Tryz.func93 (by kernel_rfl) Tryz.ntmps93 (by kernel_rfl) gk_f93 lk_f93) fun x d _ => (e_f93 x.1 d.1).trans (s_f93 x.1 d.1))
def okAlg (l : List QaH) (_s : Suite) : Bool := decide (l.length ≤ 100000)
def ixAlg (l : List QaH) (s : Suite) : Int := match fstG (fun x => idAlg x s) l with | some k => (k : Int) | none => -1
def QdK : Fg := ⟨[(0, some (.sl Qat)), (1, none), (7, some tI), (8, some tI)], [(50000, some Qax)]⟩
noncomputable def Qfc : TC := (.sq (.reg (rT Tryz.f92 2)) (.sq (.cd (.t 9) .sk (.fg ⟨[], [(50000, some Qax)]⟩ (.ex 0))) (.sq (.bk 1 (.sq (.reg (rT Tryz.f92 3)) (.sq (.reg (rT Tryz.f92 4)) (.cd (.t 16) (.sq (.reg (rT Tryz.f92 5)) (.fg ⟨[(4, some tI)], [(50000, some Qax)]⟩ .rt)) .sk)))) (.reg (rT Tryz.f92 6)))))
noncomputable def QoI : TC := (.sq (.reg (rT Tryz.f92 0)) (.sq (.sq (.reg (rT Tryz.f92 1)) (.bk 0 (.lp 0 QdK Qfc))) (.sq (.reg (rT Tryz.f92 7)) .rt)))
def Qww : List (RV × Option Ty) := [((.t 4), some tI)]
abbrev QiA : Sh := ⟨[(0, .ty (.sl Qat)), (1, .fn 93 [(50000, 0)]), (7, .ty tI), (8, .ty tI)], [(50000, .box Qax)]⟩
def Qiv (x0 : List QaH) (x7 x8 : Int) (y50000 : Suite) : VS := QiA.st (x0, (), x7, x8, ()) (y50000, ())
abbrev Qpv : Sh := ⟨[(4, .ty tI)], [(50000, .box Qax)]⟩
def Qch (x4 : Int) (y50000 : Suite) : VS := Qpv.st (x4, ()) (y50000, ())
abbrev QrT : Sh := ⟨[], [(50000, .box Qax)]⟩
def QcI (y50000 : Suite) : VS := QrT.st () (y50000, ())
def QFt : VS → Option (Bool × List (Bool × Exit × VS)) := mkL QiA (fun x y => (rngOk x.1 x.2.2.1 x.2.2.2.1)) (fun x y => [(((fstG (fun x => idAlg x y.1) (x.1.drop x.2.2.2.1.toNat)).isSome), .ret, Qch (x.2.2.2.1 + ((fstG (fun x => idAlg x y.1) (x.1.drop x.2.2.2.1.toNat)).getD 0 : Nat)) (y.1)), (true, .exit 0, QcI (y.1))])
def QeK : G := ⟨TYs, [], 19, EL [(93, QS3)], keeps, (Ls [QFt]), IL [], RL []⟩
def QsK (x0 : List QaH) (x7 x8 : Int) (y50000 : Suite) : Option (Exit × VS) := br (ilt x8 x7) (br (cIx x0 x8) (br (idAlg (lgt Qat x0 (Int.toNat x8)) y50000) (some (.ret, Qch x8 y50000)) (some (.normal, Qiv x0 x7 (iadd .i64 x8 1) y50000))) none) (some (.exit 0, QcI y50000))
noncomputable def QfR (x0 : List QaH) (x7 x8 : Int) (y50000 : Suite) : Option (Exit × VS) := loopF (Qaj QeK QdK Qfc) (Qiv x0 x7 x8 y50000)
noncomputable def QhK (x0 : List QaH) (x7 x8 : Int) (y50000 : Suite) : Option (Exit × VS) := br (ilt x8 x7) (br (cIx x0 x8) (br (idAlg (lgt Qat x0 (Int.toNat x8)) y50000) (some (.ret, Qch x8 y50000)) (QfR x0 x7 (iadd .i64 x8 1) y50000)) none) (some (.exit 0, QcI y50000))
def QfX (x0 : List QaH) (x7 x8 : Int) (y50000 : Suite) : Option (Exit × VS) := br ((fstG (fun x => idAlg x y50000) (x0.drop x8.toNat)).isSome) (some (.ret, Qch (x8 + ((fstG (fun x => idAlg x y50000) (x0.drop x8.toNat)).getD 0 : Nat)) (y50000))) <| some (.exit 0, QcI (y50000))
theorem QBn (x0 : List QaH) (x7 x8 : Int) (y50000 : Suite) : Qaj QeK QdK Qfc (Qiv x0 x7 x8 y50000) = QsK x0 x7 x8 y50000 := by kernel_rfl
theorem QqU (x0 : List QaH) (x7 x8 : Int) (y50000 : Suite) : QfR x0 x7 x8 y50000 = QhK x0 x7 x8 y50000 := (Qan _ _).trans (by
 rw [QBn]
 simp only [QsK, QhK, Qay, nxt_n, nxt_r, nxt_e, nxt_0]
 rfl)
def Qt6 (p0 : List QaH) (d0 : Suite) : Option (V × List VO) :=
 let a1 := (p0.drop (0 : Int).toNat)
 br (rngOk p0 (llen p0) (0 : Int)) (br ((fstG (fun x => idAlg x d0) a1).isSome) (some (.t tI ((0 : Int) + ((fstG (fun x => idAlg x d0) a1).getD 0 : Nat)), [.box (.t Qax (d0))])) (some (.t tI (-1), [.box (.t Qax (d0))]))) none
theorem QRm (p0 : List QaH) (d0 : Suite) : runF QeK QoI Qww false [.t (.sl Qat) p0, .fn 93 [(.ptr 50000 0)]] [.box (.t Qax d0)] = Qt6 p0 d0 := by kernel_rfl
theorem QMH : Qai Tryz.prog 92 := .inr ⟨by decide, _, Tryz.func92, by kernel_rfl, by kernel_rfl⟩
theorem QMs : GOk Tryz.prog QeK := Qal _ (gA (gC en_f93 ms_f93 gN))
theorem QES (x0 : List QaH) (x7 x8 : Int) (y50000 : Suite) (h : (rngOk x0 x7 x8) = true) : QfR x0 x7 x8 y50000 = QfX x0 x7 x8 y50000 := by
 obtain ⟨rfl, h3, k, rfl, hk⟩ := rng_k h
 clear h
 refine Qar x0 (fun k => QfR x0 (x0.length : Int) (k : Int) y50000 = QfX x0 (x0.length : Int) (k : Int) y50000) ?_ ?_ k hk
 ·rw [QqU]
  simp [QhK, QfX, Qas, Qaf, fstG]
 ·intro k hk ih
  rw [QqU]
  simp only [QhK, Qas, Qaw, hk, decide_true, Qad, Int.toNat_natCast, add1 (show k < 4611686018427387904 by omega), ih, QaA (y := Qat) hk]
  simp only [QfX, Int.toNat_natCast, List.drop_eq_getElem_cons hk, fstG]
  cases h : (idAlg x0[k] y50000) with
  | true => simp [Qad]
  | false =>
   simp only [Qaf, Bool.false_eq_true, if_false]
   cases hq : fstG (fun x => idAlg x y50000) (x0.drop (k + 1)) with
   | none => rfl
   | some j =>
    simp only [Option.map_some, Option.isSome_some, Option.getD_some, Qad]
    congr 3
    omega
theorem QAv : ∀ S l p, QeK.L 0 (fgt QdK S) = some (true, l) → pickA l = some p → loopF (Qaj QeK QdK Qfc) S = some p :=
 QaB (s := QiA) ⟨by decide, by decide⟩ (by kernel_rfl) fun x y hok p hp => by
 simp only [Qao, Qam] at hp
 exact (QES x.1 x.2.2.1 x.2.2.2.1 y.1 (by simpa using hok)).trans hp
theorem QL2 : QoI.lok QeK := by
 repeat (first | exact trivial | exact QAv | refine ⟨?_, ?_⟩)
theorem QPh (l : List QaH) (s : Suite) (h : okAlg l s = true) : Qt6 l s = some (.t tI (ixAlg l s), [.box (.t Qax s)]) := by
 have hl : l.length ≤ 100000 := of_decide_eq_true h
 simp only [Qt6, rng_0 hl, Qad, Int.toNat_zero, List.drop_zero, ixAlg]
 cases fstG (fun x => idAlg x s) l <;> simp [Qad, Qaf]
def Qvz : Ent := Qf9 [.ty (.sl Qat), .fn 93 [(50000, 0)]] [Qax] (fun x d => (okAlg x.1 d.1)) (fun x d => (.t tI (ixAlg x.1 d.1)))
theorem QKT : Meets Tryz.prog 92 (strip Qvz) := Qcp (QaP (R := runF QeK QoI Qww false) (mG Tryz.func92 (by kernel_rfl) Tryz.ntmps92 (by kernel_rfl) QMs QL2) fun x d hok => (QRm x.1 d.1).trans (QPh x.1 d.1 hok))
def QaU (e : Qab) (c : Int) : Int × Bool := bif ine (QaC c).2 0 then (-1, false) else (ixAlg (eIds e) (QaC c).1, ige (ixAlg (eIds e) (QaC c).1) 0)
def idnOk (e : Qab) (_c : Int) : Bool := decide ((eIds e).length ≤ 100000)
noncomputable def QF5 : TC := (.sq (.reg (rT Tryz.f56 0)) (.sq (.reg (rT Tryz.f56 1)) (.sq (.sq (.reg (rT Tryz.f56 2)) (.cd (.t 15) (.sq (.reg (rT Tryz.f56 3)) .rt) .sk)) (.sq (.reg (rT Tryz.f56 4)) (.sq (.reg (rT Tryz.f56 5)) .rt)))))
def QTR : List (RV × Option Ty) := [((.t 4), some tI), ((.t 5), some .bool)]
def g_f56 : G := ⟨TYs, [], 23, EL [(85, QvC), (92, Qvz)], keeps, (fun _ _ => none), IL [], RL []⟩
def r_f56 (p0 : Qab) (p1 : Int) : Option (V × List VO) :=
 let a1 := ixAlg p0.2.2.2.2.2.1 ((QaC p1).1)
 br (ine ((QaC p1).2) 0) (some (.tu [(.t tI (-1)), (.t .bool false)], [])) (br (okAlg p0.2.2.2.2.2.1 ((QaC p1).1)) (some (.tu [(.t tI a1), (.t .bool (ige a1 0))], [])) none)
theorem e_f56 (p0 : Qab) (p1 : Int) : runF g_f56 QF5 QTR false [.t Qae p0, .t tI p1] [] = r_f56 p0 p1 := by kernel_rfl
theorem QxF : Qai Tryz.prog 56 := .inr ⟨by decide, _, Tryz.func56, by kernel_rfl, by kernel_rfl⟩
theorem gk_f56 : GOk Tryz.prog g_f56 := Qal _ (gA (gC QDu QB1 (gC QMH QKT gN)))
theorem lk_f56 : QF5.lok g_f56 := by repeat (first | exact trivial | refine ⟨?_, ?_⟩)
theorem s_f56 (e : Qab) (c : Int) (h : idnOk e c = true) : r_f56 e c = some (.tu [.t tI (QaU e c).1, .t .bool (QaU e c).2], []) := by
 have hk : okAlg (eIds e) (QaC c).1 = true := h
 simp only [r_f56, hk, Qad]
 unfold QaU
 cases ine (QaC c).2 0 <;> rfl
def Qsf : Ent := spec (.pr Qae (.pr tI .nil)) (fun x => (idnOk x.1 x.2.1)) (fun x => (.tu [(.t tI ((QaU x.1 x.2.1).1)), (.t .bool ((QaU x.1 x.2.1).2))]))
theorem QwQ : Meets Tryz.prog 56 (strip Qsf) := Qah (R := runF g_f56 QF5 QTR false) (mG Tryz.func56 (by kernel_rfl) Tryz.ntmps56 (by kernel_rfl) gk_f56 lk_f56) fun x hok => (e_f56 x.1 x.2.1).trans (s_f56 x.1 x.2.1 hok)
noncomputable def QRz : List DO := dT Tryz.f67 6
def QkQ : Fg := ⟨[(2, none), (6, none), (8, some tI)], [(2, some Qae), (6, some Qax)]⟩
noncomputable def QmY : TC := (.sq (.sq (.reg (rT Tryz.f67 5)) (.cd (.t 20) .sk (.fg ⟨[], []⟩ (.ex 0)))) (.sq (.bk 1 (.sq (.dr QRz [(0, [6]), (1, [6]), (2, [6]), (3, []), (4, []), (5, [2]), (6, [2]), (7, []), (8, []), (9, []), (10, []), (11, []), (12, [6]), (13, [6]), (14, [6]), (15, []), (16, [])] (.of [0, 1, 2, 3, 4, 5, 6, 7, 8, 9, 10, 11, 12, 13, 14, 15, 16])) (.cd (.t 39) (.sq (.reg (rT Tryz.f67 7)) (.fg ⟨[(4, some tI), (5, some .bool)], []⟩ .rt)) .sk))) (.reg (rT Tryz.f67 8))))
noncomputable def QF0 : TC := (.sq (.reg (rT Tryz.f67 0)) (.sq (.reg (rT Tryz.f67 1)) (.sq (.sq (.reg (rT Tryz.f67 2)) (.cd (.t 15) (.sq (.reg (rT Tryz.f67 3)) .rt) .sk)) (.sq (.sq (.reg (rT Tryz.f67 4)) (.bk 0 (.lp 0 QkQ QmY))) (.sq (.reg (rT Tryz.f67 9)) .rt)))))
def QTM : List (RV × Option Ty) := [((.t 4), some tI), ((.t 5), some .bool)]
abbrev Qtm : Sh := ⟨[(2, .ptr 2 0), (6, .ptr 6 0), (8, .ty tI)], [(2, .box Qae), (6, .box Qax)]⟩
def QsX (x8 : Int) (y2 : Qab) (y6 : Suite) : VS := Qtm.st ((), (), x8, ()) (y2, y6, ())
abbrev QvO : Sh := ⟨[(4, .ty tI), (5, .ty .bool)], []⟩
def Qb5 (x4 : Int) (x5 : Bool) : VS := QvO.st (x4, x5, ()) ()
abbrev QzB : Sh := ⟨[], []⟩
def Qfi  : VS := QzB.st () ()
def Q0X : VS → Option (Bool × List (Bool × Exit × VS)) := mkL Qtm (fun x y => (idnOk y.1 0 && decide (0 ≤ x.2.2.1 ∧ x.2.2.1 ≤ (eIds y.1).length))) (fun x y => [(((fstG (fun x => idAlg x y.2.1) ((eIds y.1).drop x.2.2.1.toNat)).isSome), .ret, Qb5 (x.2.2.1 + ((fstG (fun x => idAlg x y.2.1) ((eIds y.1).drop x.2.2.1.toNat)).getD 0 : Nat)) (true)), (true, .exit 0, Qfi)])
def g_f67 : G := ⟨TYs, [], 41, EL [(103, Qtf)], keeps, (Ls [Q0X]), IL [], RL []⟩
def QOr (x8 : Int) (y2 : Qab) (y6 : Suite) : Option (Exit × VS) := br (ilt x8 (llen y2.2.2.2.2.2.1)) (br (ieq y6.2.2.2.1.1 0) (some (.ret, Qb5 x8 true)) (br (cIx y2.2.2.2.2.2.1 x8) (br (ieq (((lgt Qat y2.2.2.2.2.2.1 (Int.toNat x8)).1).1) y6.2.2.2.1.1) (some (.ret, Qb5 x8 true)) (some (.normal, QsX (iadd .i64 x8 1) y2 y6))) none)) (some (.exit 0, Qfi))
noncomputable def Qn1 (x8 : Int) (y2 : Qab) (y6 : Suite) : Option (Exit × VS) := loopF (Qaj g_f67 QkQ QmY) (QsX x8 y2 y6)
noncomputable def Qus (x8 : Int) (y2 : Qab) (y6 : Suite) : Option (Exit × VS) := br (ilt x8 (llen y2.2.2.2.2.2.1)) (br (ieq y6.2.2.2.1.1 0) (some (.ret, Qb5 x8 true)) (br (cIx y2.2.2.2.2.2.1 x8) (br (ieq (((lgt Qat y2.2.2.2.2.2.1 (Int.toNat x8)).1).1) y6.2.2.2.1.1) (some (.ret, Qb5 x8 true)) (Qn1 (iadd .i64 x8 1) y2 y6)) none)) (some (.exit 0, Qfi))
def Qoc (x8 : Int) (y2 : Qab) (y6 : Suite) : Option (Exit × VS) :=
 let a1 := ((eIds y2).drop x8.toNat)
 br ((fstG (fun x => idAlg x y6) a1).isSome) (some (.ret, Qb5 (x8 + ((fstG (fun x => idAlg x y6) a1).getD 0 : Nat)) (true))) <| some (.exit 0, Qfi)
theorem QR0 (x8 : Int) (y2 : Qab) (y6 : Suite) : Qaj g_f67 QkQ QmY (QsX x8 y2 y6) = QOr x8 y2 y6 := by kernel_rfl
theorem QB8 (x8 : Int) (y2 : Qab) (y6 : Suite) : Qn1 x8 y2 y6 = Qus x8 y2 y6 := (Qan _ _).trans (by
 rw [QR0]
 simp only [QOr, Qus, Qay, nxt_n, nxt_r, nxt_e, nxt_0]
 rfl)
def r_f67 (p0 : Qab) (p1 : Int) : Option (V × List VO) := br (ine ((QaC p1).2) 0) (some (.tu [(.t tI (-1)), (.t .bool false)], [])) (br (idnOk p0 0 && decide (0 ≤ (0 : Int) ∧ (0 : Int) ≤ (eIds p0).length)) (br ((fstG (fun x => idAlg x ((QaC p1).1)) ((eIds p0).drop (0 : Int).toNat)).isSome) (some (.tu [(.t tI ((0 : Int) + ((fstG (fun x => idAlg x ((QaC p1).1)) ((eIds p0).drop (0 : Int).toNat)).getD 0 : Nat))), (.t .bool (true))], [])) (some (.tu [(.t tI (-1)), (.t .bool false)], []))) none)
theorem e_f67 (p0 : Qab) (p1 : Int) : runF g_f67 QF0 QTM false [.t Qae p0, .t tI p1] [] = r_f67 p0 p1 := by kernel_rfl
theorem en_f67 : Qai Tryz.prog 67 := .inr ⟨by decide, _, Tryz.func67, by kernel_rfl, by kernel_rfl⟩
theorem gk_f67 : GOk Tryz.prog g_f67 := Qal _ (gA (gC QBf QAn gN))
theorem QX3 (x8 : Int) (y2 : Qab) (y6 : Suite) (h : (idnOk y2 0 && decide (0 ≤ x8 ∧ x8 ≤ (eIds y2).length)) = true) : Qn1 x8 y2 y6 = Qoc x8 y2 y6 := by
 simp only [idnOk, Bool.and_eq_true, decide_eq_true_eq] at h
 obtain ⟨hl, h0, h1⟩ := h
 obtain ⟨k, rfl⟩ := Int.eq_ofNat_of_zero_le h0
 refine Qar (eIds y2) (fun k => Qn1 (k : Int) y2 y6 = Qoc (k : Int) y2 y6) ?_ ?_ k (by omega)
 ·rw [QB8]
  simp only [Qus, show ilt ((eIds y2).length : Int) (llen (eIds y2)) = false from decide_eq_false (by simp only [llen]; omega), Qaf, Qoc, Int.toNat_natCast, List.drop_length, fstG]
  rfl
 ·intro k hk ih
  rw [QB8]
  simp only [Qus, show ilt (k : Int) (llen (eIds y2)) = true from decide_eq_true (by simp only [llen]; omega), Qaw, hk, decide_true, Qad, Int.toNat_natCast, add1 (show k < 4611686018427387904 by omega), QaA (y := Qat) hk, ih]
  simp only [Qoc, Int.toNat_natCast, List.drop_eq_getElem_cons hk, fstG]
  rw [brOr]
  show br (idAlg (eIds y2)[k] y6) _ _ = _
  cases h : idAlg (eIds y2)[k] y6 with
  | true => simp [Qad]
  | false =>
   simp only [Qaf, Bool.false_eq_true, if_false]
   cases hq : fstG (fun x => idAlg x y6) ((eIds y2).drop (k + 1)) with
   | none => rfl
   | some j =>
    simp only [Option.map_some, Option.isSome_some, Option.getD_some, Qad]
    congr 3
    omega
theorem QPQ : ∀ S l p, g_f67.L 0 (fgt QkQ S) = some (true, l) → pickA l = some p → loopF (Qaj g_f67 QkQ QmY) S = some p :=
 QaB (s := Qtm) ⟨by decide, by decide⟩ (by kernel_rfl) fun x y hok p hp => by
 simp only [Qao, Qam] at hp
 exact (QX3 x.2.2.1 y.1 y.2.1 (by simpa using hok)).trans hp
theorem lk_f67 : QF0.lok g_f67 := by
 repeat (first | exact trivial | exact QPQ | refine ⟨?_, ?_⟩)
theorem s_f67 (e : Qab) (c : Int) (h : idnOk e c = true) : r_f67 e c = some (.tu [.t tI (QaU e c).1, .t .bool (QaU e c).2], []) := by
 have hd : decide ((0 : Int) ≤ 0 ∧ (0 : Int) ≤ (eIds e).length) = true := decide_eq_true (by omega)
 have hk : idnOk e 0 = true := h
 simp only [r_f67, hk, hd, Bool.and_self, Qad, Int.toNat_zero, List.drop_zero]
 unfold QaU ixAlg
 cases ine (QaC c).2 0 with
 | true => rfl
 | false =>
  rw [Qaf, cond_false]
  cases fstG (fun x => idAlg x (QaC c).1) (eIds e) with
  | none => rfl
  | some k =>
   have : ige (k : Int) 0 = true := decide_eq_true (by omega)
   simp [Qad, this]
def QTa : Ent := spec (.pr Qae (.pr tI .nil)) (fun x => (idnOk x.1 x.2.1)) (fun x => (.tu [(.t tI ((QaU x.1 x.2.1).1)), (.t .bool ((QaU x.1 x.2.1).2))]))
theorem ms_f67 : Meets Tryz.prog 67 (strip QTa) := Qah (R := runF g_f67 QF0 QTM false) (mG Tryz.func67 (by kernel_rfl) Tryz.ntmps67 (by kernel_rfl) gk_f67 lk_f67) fun x hok => (e_f67 x.1 x.2.1).trans (s_f67 x.1 x.2.1 hok)
def lenEE (e : Qab) (o : List Int) : Bool := decide ((eIds e).length ≤ 100000 ∧ (Qap e).length ≤ 100000 ∧ o.length ≤ 100000)
def posE (e : Qab) (o : List Int) (v c : Int) : Bool :=
 ieq (QaC c).2 0 && (ige v (QaC c).1.2.2.2.2.2.2.1 && (ige (QaC c).1.2.2.2.2.2.2.2.1 v && (hasF o c && (hasF (Qap e) c && (QaU e c).2))))
def posOk (e : Qab) (o : List Int) (_v _c : Int) : Bool := lenEE e o
abbrev tkE (t : Talk) : Qab := t.1
abbrev tkV (t : Talk) : Int := t.2.1
abbrev tkO (t : Talk) : List Int := t.2.2.1
def possF (t : Talk) (c : Int) : Bool := posE (tkE t) (tkO t) (tkV t) c
def Qex (t : Talk) (_c : Int) : Bool := lenEE (tkE t) (tkO t)
noncomputable def QFP : TC := (.sq (.reg (rT Tryz.f90 0)) (.sq (.reg (rT Tryz.f90 1)) (.sq (.sq (.reg (rT Tryz.f90 2)) (.cd (.t 44) (.sq (.reg (rT Tryz.f90 3)) .rt) .sk)) (.sq (.reg (rT Tryz.f90 4)) (.sq (.reg (rT Tryz.f90 5)) .rt)))))
def QTB : List (RV × Option Ty) := [((.t 4), some .bool)]
def g_f90 : G := ⟨TYs, [], 53, EL [(56, Qsf), (85, QvC), (101, Qlr)], keeps, (fun _ _ => none), IL [], RL []⟩
def r_f90 (p0 : Talk) (p1 : Int) : Option (V × List VO) :=
 let a1 := ((((((((QaC p1).1).2).2).2).2).2).2)
 br (ine ((QaC p1).2) 0) (some (.t .bool false, [])) (br (ilt p0.2.1 (a1.1)) (some (.t .bool false, [])) (br (igt p0.2.1 ((a1.2).1)) (some (.t .bool false, [])) (br (Qa3 p0.2.2.1 p1) (br (!(hasF p0.2.2.1 p1)) (some (.t .bool false, [])) (br (Qa3 p0.1.2.2.2.1 p1) (br (!(hasF p0.1.2.2.2.1 p1)) (some (.t .bool false, [])) (br (idnOk p0.1 p1) (some (.t .bool ((QaU p0.1 p1).2), [])) none)) none)) none)))
theorem e_f90 (p0 : Talk) (p1 : Int) : runF g_f90 QFP QTB false [.t Qe3 p0, .t tI p1] [] = r_f90 p0 p1 := by kernel_rfl
theorem QUS : Qai Tryz.prog 90 := .inr ⟨by decide, _, Tryz.func90, by kernel_rfl, by kernel_rfl⟩
theorem gk_f90 : GOk Tryz.prog g_f90 := Qal _ (gA (gC QxF QwQ (gC QDu QB1 (gC QrC QqM gN))))
theorem lk_f90 : QFP.lok g_f90 := by repeat (first | exact trivial | refine ⟨?_, ?_⟩)
theorem QCx (a b : Int) : ine a b = !ieq a b := rfl
theorem QCy (a b : Int) : ilt a b = !ige a b := by simp only [ilt, ige]; by_cases h : a < b <;> simp [h] <;> omega
theorem s_f90 (t : Talk) (c : Int) (h : Qex t c = true) : r_f90 t c = some (.t .bool (possF t c), []) := by
 simp only [Qex, lenEE, decide_eq_true_eq] at h
 have c1 : Qa3 t.2.2.1 c = true := decide_eq_true h.2.2
 have c2 : Qa3 t.1.2.2.2.1 c = true := decide_eq_true h.2.1
 have c3 : idnOk t.1 c = true := decide_eq_true h.1
 simp only [r_f90, c1, c2, c3, Qad, QCx, QCy]
 show _ = some (V.t .bool (posE t.1 t.2.2.1 t.2.1 c), [])
 unfold posE
 cases ieq (QaC c).2 0 with
 | false => rfl
 | true =>
  cases ige t.2.1 (QaC c).1.2.2.2.2.2.2.1 with
  | false => rfl
  | true =>
   cases ige (QaC c).1.2.2.2.2.2.2.2.1 t.2.1 with
   | false => rfl
   | true =>
    cases hasF t.2.2.1 c with
    | false => rfl
    | true => cases hasF t.1.2.2.2.1 c <;> rfl
def QGC : Ent := spec (.pr Qe3 (.pr tI .nil)) (fun x => (Qex x.1 x.2.1)) (fun x => (.t .bool (possF x.1 x.2.1)))
theorem QUC : Meets Tryz.prog 90 (strip QGC) := Qah (R := runF g_f90 QFP QTB false) (mG Tryz.func90 (by kernel_rfl) Tryz.ntmps90 (by kernel_rfl) gk_f90 lk_f90) fun x hok => (e_f90 x.1 x.2.1).trans (s_f90 x.1 x.2.1 hok)
noncomputable def QF2 : TC := (.sq (.reg (rT Tryz.f59 0)) (.sq (.reg (rT Tryz.f59 1)) (.sq (.sq (.reg (rT Tryz.f59 2)) (.cd (.t 44) (.sq (.reg (rT Tryz.f59 3)) .rt) .sk)) (.sq (.reg (rT Tryz.f59 4)) (.sq (.reg (rT Tryz.f59 5)) .rt)))))
def QTO : List (RV × Option Ty) := [((.t 8), some .bool)]
def g_f59 : G := ⟨TYs, [], 52, EL [(67, QTa), (103, Qtf), (104, Qzr)], keeps, (fun _ _ => none), IL [], RL []⟩
def r_f59 (p0 : Qab) (p1 : List Int) (p2 p3 : Int) : Option (V × List VO) :=
 let a1 := ((((((((QaC p3).1).2).2).2).2).2).2)
 br (ine ((QaC p3).2) 0) (some (.t .bool false, [])) (br (Qa3 p1 p3) (br (!(hasF p1 p3)) (some (.t .bool false, [])) (br (Qa3 p0.2.2.2.1 p3) (br (!(hasF p0.2.2.2.1 p3)) (some (.t .bool false, [])) (br (ilt p2 (a1.1)) (some (.t .bool false, [])) (br (igt p2 ((a1.2).1)) (some (.t .bool false, [])) (br (idnOk p0 p3) (some (.t .bool ((QaU p0 p3).2), [])) none)))) none)) none)
theorem e_f59 (p0 : Qab) (p1 : List Int) (p2 p3 : Int) : runF g_f59 QF2 QTO false [.t Qae p0, .t (.sl tI) p1, .t tI p2, .t tI p3] [] = r_f59 p0 p1 p2 p3 := by kernel_rfl
theorem en_f59 : Qai Tryz.prog 59 := .inr ⟨by decide, _, Tryz.func59, by kernel_rfl, by kernel_rfl⟩
theorem gk_f59 : GOk Tryz.prog g_f59 := Qal _ (gA (gC en_f67 ms_f67 (gC QBf QAn (gC QM9 QLd gN))))
theorem lk_f59 : QF2.lok g_f59 := by repeat (first | exact trivial | refine ⟨?_, ?_⟩)
theorem s_f59 (e : Qab) (o : List Int) (v c : Int) (h : posOk e o v c = true) : r_f59 e o v c = some (.t .bool (posE e o v c), []) := by
 simp only [posOk, lenEE, decide_eq_true_eq] at h
 have c1 : Qa3 o c = true := decide_eq_true h.2.2
 have c2 : Qa3 e.2.2.2.1 c = true := decide_eq_true h.2.1
 have c3 : idnOk e c = true := decide_eq_true h.1
 simp only [r_f59, c1, c2, c3, Qad, QCx, QCy]
 unfold posE
 cases ieq (QaC c).2 0 <;> cases ige v (QaC c).1.2.2.2.2.2.2.1 <;> cases ige (QaC c).1.2.2.2.2.2.2.2.1 v <;> cases hasF o c <;> cases hasF e.2.2.2.1 c <;> rfl
def QTc : Ent := spec (.pr Qae (.pr (.sl tI) (.pr tI (.pr tI .nil)))) (fun x => (posOk x.1 x.2.1 x.2.2.1 x.2.2.2.1)) (fun x => (.t .bool (posE x.1 x.2.1 x.2.2.1 x.2.2.2.1)))
theorem ms_f59 : Meets Tryz.prog 59 (strip QTc) := Qah (R := runF g_f59 QF2 QTO false) (mG Tryz.func59 (by kernel_rfl) Tryz.ntmps59 (by kernel_rfl) gk_f59 lk_f59) fun x hok => (e_f59 x.1 x.2.1 x.2.2.1 x.2.2.2.1).trans (s_f59 x.1 x.2.1 x.2.2.1 x.2.2.2.1 hok)
def Qey (t : Talk) : List Int := tkO t
def QgD (t : Talk) : List Int := Qap (tkE t)
noncomputable def Qy1 : TC := (.sq (.reg (rT Tryz.f126 0)) (.sq (.reg (rT Tryz.f126 1)) .rt))
def QI4 : List (RV × Option Ty) := [((.t 2), some (.sl tI))]
def QDc : G := ⟨TYs, [], 5, EL [], keeps, (fun _ _ => none), IL [], RL []⟩
def QUw (p0 : Talk) : Option (V × List VO) := some (.t (.sl tI) p0.2.2.1, [])
theorem e_f126 (p0 : Talk) : runF QDc Qy1 QI4 false [.t Qe3 p0] [] = QUw p0 := by kernel_rfl
theorem Q0u : Qai Tryz.prog 126 := .inr ⟨by decide, _, Tryz.func126, by kernel_rfl, by kernel_rfl⟩
theorem QZs : GOk Tryz.prog QDc := Qal _ (fun p hp => by cases hp)
theorem QXH : Qy1.lok QDc := by repeat (first | exact trivial | refine ⟨?_, ?_⟩)
theorem s_f126 (t : Talk) : QUw t = some (.t (.sl tI) (Qey t), []) := rfl
def QHC : Ent := spec (.pr Qe3 .nil) (fun x => true) (fun x => (.t (.sl tI) (Qey x.1)))
theorem QWo : Meets Tryz.prog 126 (strip QHC) := Qah (R := runF QDc Qy1 QI4 false) (mG Tryz.func126 (by kernel_rfl) Tryz.ntmps126 (by kernel_rfl) QZs QXH) fun x _ => (e_f126 x.1).trans (s_f126 x.1)
noncomputable def Qy0 : TC := (.sq (.reg (rT Tryz.f127 0)) (.sq (.reg (rT Tryz.f127 1)) .rt))
def QI3 : List (RV × Option Ty) := [((.t 2), some (.sl tI))]
def QDb : G := ⟨TYs, [], 6, EL [], keeps, (fun _ _ => none), IL [], RL []⟩
def QUv (p0 : Talk) : Option (V × List VO) := some (.t (.sl tI) p0.1.2.2.2.1, [])
theorem e_f127 (p0 : Talk) : runF QDb Qy0 QI3 false [.t Qe3 p0] [] = QUv p0 := by kernel_rfl
theorem Q0t : Qai Tryz.prog 127 := .inr ⟨by decide, _, Tryz.func127, by kernel_rfl, by kernel_rfl⟩
theorem QZr : GOk Tryz.prog QDb := Qal _ (fun p hp => by cases hp)
theorem QXG : Qy0.lok QDb := by repeat (first | exact trivial | refine ⟨?_, ?_⟩)
theorem s_f127 (t : Talk) : QUv t = some (.t (.sl tI) (QgD t), []) := rfl
def QHB : Ent := spec (.pr Qe3 .nil) (fun x => true) (fun x => (.t (.sl tI) (QgD x.1)))
theorem QWn : Meets Tryz.prog 127 (strip QHB) := Qah (R := runF QDb Qy0 QI3 false) (mG Tryz.func127 (by kernel_rfl) Tryz.ntmps127 (by kernel_rfl) QZr QXG) fun x _ => (e_f127 x.1).trans (s_f127 x.1)
def Qew (c s : Qab) : Bool := QaJ c && QaJ s
def Qa8 (c s : Qab) : Bool := QaZ c && QaZ s
noncomputable def QFU : TC := (.sq (.reg (rT Tryz.f82 0)) (.sq (.reg (rT Tryz.f82 1)) .rt))
def QTG : List (RV × Option Ty) := [((.t 4), some .bool)]
def g_f82 : G := ⟨TYs, [], 13, EL [(76, QBB)], keeps, (fun _ _ => none), IL [], RL []⟩
def r_f82 (p0 p1 : Qab) : Option (V × List VO) := br (QaZ p0) (br (ieq (Qcu p0) 0) (br (QaZ p1) (some (.t .bool (ieq (Qcu p1) 0), [])) none) (some (.t .bool false, []))) none
theorem e_f82 (p0 p1 : Qab) : runF g_f82 QFU QTG false [.t Qae p0, .t Qae p1] [] = r_f82 p0 p1 := by kernel_rfl
theorem QMK : Qai Tryz.prog 82 := .inr ⟨by decide, _, Tryz.func82, by kernel_rfl, by kernel_rfl⟩
theorem gk_f82 : GOk Tryz.prog g_f82 := Qal _ (gA (gC QMM QKY gN))
theorem lk_f82 : QFU.lok g_f82 := by repeat (first | exact trivial | refine ⟨?_, ?_⟩)
theorem s_f82 (c s : Qab) (h : Qa8 c s = true) : r_f82 c s = some (.t .bool (Qew c s), []) := by
 simp only [Qa8, Bool.and_eq_true] at h
 simp only [r_f82, h.1, h.2, Qad, QNE]
 unfold Qew
 cases QaJ c <;> rfl
def QBA : Ent := spec (.pr Qae (.pr Qae .nil)) (fun x => (Qa8 x.1 x.2.1)) (fun x => (.t .bool (Qew x.1 x.2.1)))
theorem QKW : Meets Tryz.prog 82 (strip QBA) := Qah (R := runF g_f82 QFU QTG false) (mG Tryz.func82 (by kernel_rfl) Tryz.ntmps82 (by kernel_rfl) gk_f82 lk_f82) fun x hok => (e_f82 x.1 x.2.1).trans (s_f82 x.1 x.2.1 hok)
end
end Go.Proofs.YtckcgijklnloiaaGreat.K
namespace Go.Proofs.YtckcgijklnloiaaGreat.K
open Go.RowKit
noncomputable section
def okPos (l : List Int) (t : Talk) : Bool := decide (l.length ≤ 100000) && lenEE (tkE t) (tkO t)
def ixPos (l : List Int) (t : Talk) : Int := match fstG (possF t) l with | some k => (k : Int) | none => -1
def Qc2 : Fg := ⟨[(0, some (.sl tI)), (1, none), (7, some tI), (8, some tI)], []⟩
noncomputable def QdT : TC := (.sq (.reg (rT Tryz.f128 2)) (.sq (.cd (.t 9) .sk (.fg ⟨[], []⟩ (.ex 0))) (.sq (.bk 1 (.sq (.reg (rT Tryz.f128 3)) (.sq (.reg (rT Tryz.f128 4)) (.cd (.t 16) (.sq (.reg (rT Tryz.f128 5)) (.fg ⟨[(4, some tI)], []⟩ .rt)) .sk)))) (.reg (rT Tryz.f128 6)))))
noncomputable def Qlo : TC := (.sq (.reg (rT Tryz.f128 0)) (.sq (.sq (.reg (rT Tryz.f128 1)) (.bk 0 (.lp 0 Qc2 QdT))) (.sq (.reg (rT Tryz.f128 7)) .rt)))
def Qsp : List (RV × Option Ty) := [((.t 4), some tI)]
abbrev Qgz : Sh := ⟨[(0, .ty (.sl tI)), (1, .bf 90 Qe3), (7, .ty tI), (8, .ty tI)], []⟩
def Qgn (x0 : List Int) (x1 : Talk) (x7 x8 : Int) : VS := Qgz.st (x0, x1, x7, x8, ()) ()
abbrev QmO : Sh := ⟨[(4, .ty tI)], []⟩
def QbX (x4 : Int) : VS := QmO.st (x4, ()) ()
abbrev Qp1 : Sh := ⟨[], []⟩
def Qcm  : VS := Qp1.st () ()
def QBt : VS → Option (Bool × List (Bool × Exit × VS)) := mkL Qgz (fun x y => (rngOk x.1 x.2.2.1 x.2.2.2.1 && okPos x.1 x.2.1)) (fun x y => [(((fstG (possF x.2.1) (x.1.drop x.2.2.2.1.toNat)).isSome), .ret, QbX (x.2.2.2.1 + ((fstG (possF x.2.1) (x.1.drop x.2.2.2.1.toNat)).getD 0 : Nat))), (true, .exit 0, Qcm)])
def QcX : G := ⟨TYs, [], 19, EL [(90, QGC)], keeps, (Ls [QBt]), IL [], RL []⟩
def QrN (x0 : List Int) (x1 : Talk) (x7 x8 : Int) : Option (Exit × VS) :=
 let a1 := lgt tI x0 (Int.toNat x8)
 br (ilt x8 x7) (br (cIx x0 x8) (br (Qex x1 a1) (br (possF x1 a1) (some (.ret, QbX x8)) (some (.normal, Qgn x0 x1 x7 (iadd .i64 x8 1)))) none) none) (some (.exit 0, Qcm))
noncomputable def QeD (x0 : List Int) (x1 : Talk) (x7 x8 : Int) : Option (Exit × VS) := loopF (Qaj QcX Qc2 QdT) (Qgn x0 x1 x7 x8)
noncomputable def QfO (x0 : List Int) (x1 : Talk) (x7 x8 : Int) : Option (Exit × VS) :=
 let a1 := lgt tI x0 (Int.toNat x8)
 br (ilt x8 x7) (br (cIx x0 x8) (br (Qex x1 a1) (br (possF x1 a1) (some (.ret, QbX x8)) (QeD x0 x1 x7 (iadd .i64 x8 1))) none) none) (some (.exit 0, Qcm))
def QeH (x0 : List Int) (x1 : Talk) (x7 x8 : Int) : Option (Exit × VS) :=
 let a1 := fstG (possF x1) (x0.drop x8.toNat)
 br (a1.isSome) (some (.ret, QbX (x8 + (a1.getD 0 : Nat)))) <| some (.exit 0, Qcm)
theorem QxS (x0 : List Int) (x1 : Talk) (x7 x8 : Int) : Qaj QcX Qc2 QdT (Qgn x0 x1 x7 x8) = QrN x0 x1 x7 x8 := by kernel_rfl
theorem Ql7 (x0 : List Int) (x1 : Talk) (x7 x8 : Int) : QeD x0 x1 x7 x8 = QfO x0 x1 x7 x8 := (Qan _ _).trans (by
 rw [QxS]
 simp only [QrN, QfO, Qay, nxt_n, nxt_r, nxt_e, nxt_0]
 rfl)
def Qqv (p0 : List Int) (p1 : Talk) : Option (V × List VO) :=
 let a1 := (fstG (possF p1) (p0.drop (0 : Int).toNat))
 br (rngOk p0 (llen p0) (0 : Int) && okPos p0 p1) (br (a1.isSome) (some (.t tI ((0 : Int) + (a1.getD 0 : Nat)), [])) (some (.t tI (-1), []))) none
theorem QNf (p0 : List Int) (p1 : Talk) : runF QcX Qlo Qsp false [.t (.sl tI) p0, .fn 1000090 [(.t Qe3 p1)]] [] = Qqv p0 p1 := by kernel_rfl
theorem QE7 : Qai Tryz.prog 128 := .inr ⟨by decide, _, Tryz.func128, by kernel_rfl, by kernel_rfl⟩
theorem QEZ : GOk Tryz.prog QcX := Qal _ (gA (gC QUS QUC gN))
theorem QAJ (x0 : List Int) (x1 : Talk) (x7 x8 : Int) (h : (rngOk x0 x7 x8 && okPos x0 x1) = true) : QeD x0 x1 x7 x8 = QeH x0 x1 x7 x8 := by
 simp only [Bool.and_eq_true, okPos] at h
 obtain ⟨h0, _, hc⟩ := h
 obtain ⟨rfl, h3, k, rfl, hk⟩ := rng_k h0
 clear h0
 refine Qar x0 (fun k => QeD x0 x1 (x0.length : Int) (k : Int) = QeH x0 x1 (x0.length : Int) (k : Int)) ?_ ?_ k hk
 ·rw [Ql7]
  simp [QfO, QeH, Qas, Qaf, fstG]
 ·intro k hk ih
  rw [Ql7]
  have hx : Qex x1 x0[k] = true := hc
  simp only [QfO, Qas, Qaw, hk, decide_true, Qad, Int.toNat_natCast, add1 (show k < 4611686018427387904 by omega), ih, QaA (y := tI) hk, hx]
  simp only [QeH, Int.toNat_natCast, List.drop_eq_getElem_cons hk, fstG]
  cases h : possF x1 x0[k] with
  | true => simp [Qad]
  | false =>
   simp only [Qaf, Bool.false_eq_true, if_false]
   cases hq : fstG (possF x1) (x0.drop (k + 1)) with
   | none => rfl
   | some j =>
    simp only [Option.map_some, Option.isSome_some, Option.getD_some, Qad]
    congr 3
    omega
theorem QwV : ∀ S l p, QcX.L 0 (fgt Qc2 S) = some (true, l) → pickA l = some p → loopF (Qaj QcX Qc2 QdT) S = some p :=
 QaB (s := Qgz) ⟨by decide, by decide⟩ (by kernel_rfl) fun x y hok p hp => by
 simp only [Qao, Qam] at hp
 exact (QAJ x.1 x.2.1 x.2.2.1 x.2.2.2.1 (by simpa using hok)).trans hp
theorem QEP : Qlo.lok QcX := by
 repeat (first | exact trivial | exact QwV | refine ⟨?_, ?_⟩)
theorem QH2 (l : List Int) (t : Talk) (h : okPos l t = true) : Qqv l t = some (.t tI (ixPos l t), []) := by
 have hl : l.length ≤ 100000 := of_decide_eq_true (Bool.and_eq_true_iff.1 h).1
 simp only [Qqv, rng_0 hl, h, Bool.and_self, Qad, Int.toNat_zero, List.drop_zero, ixPos]
 cases fstG (possF t) l <;> simp [Qad, Qaf]
def Qsj : Ent := specB [.ty (.sl tI), .bf 90 Qe3] [] (fun x y => (okPos x.1 x.2.1)) (fun x y => (.t tI (ixPos x.1 x.2.1))) (fun x y => [])
theorem QEJ : Meets Tryz.prog 128 (strip Qsj) := QcF (QaV (R := runF QcX Qlo Qsp false) (mG Tryz.func128 (by kernel_rfl) Tryz.ntmps128 (by kernel_rfl) QEZ QEP) fun x y hok => (QNf x.1 x.2.1).trans (QH2 x.1 x.2.1 hok))
abbrev zK : Keep := (0, (0, ()))
abbrev QgY (s : Qab) (x : Int) : List Qaa := (lgt Qat (eIds s) (QaU s x).1.toNat).2.2.1
def pickE (c s : Qab) (d x : Int) : Int := chkCh (QgY s x) (eAnch c) (eHash c) d s.1
def pickF (c s : Qab) (v d x : Int) : Keep × Int := bif ine (pickE c s d x) 0 then (zK, 29) else ((v, (x, ())), 0)
def overF (c s : Qab) (v d : Int) (o l : List Int) : Keep × Int := match fstG (posE s o v) l with | none => (zK, 28) | some k => pickF c s v d (l.getD k 0)
abbrev outL (s : Qab) (o : List Int) : List Int := bif s.2.2.2.2.1 then Qap s else o
def withF (c s : Qab) (d m : Int) (o : List Int) : Keep × Int :=
 bif !Qew c s then (zK, 19) else bif ilt d 0 then (zK, 2) else bif igt d 40000 then (zK, 2) else bif ilt m 1 then (zK, 2) else bif igt m 4 then (zK, 2) else
 bif ilt (imn m s.2.2.1) c.2.1 then (zK, 27) else bif ilt (imn m s.2.2.1) s.2.1 then (zK, 27) else overF c s (imn m s.2.2.1) d o (outL s o)
def Qvp (c s : Qab) (_d _m : Int) (o : List Int) : Bool := Qa8 c s && decide (o.length ≤ 100000)
theorem Qbm {e : Qab} (h : QaZ e = true) : nameG e.1 = true ∧ (Qap e).length ≤ 100000 ∧ (eIds e).length ≤ 100000 ∧ (eAnch e).length ≤ 100000 ∧ (eHash e).length ≤ 100000 ∧ (eIds e).all idLen = true := by
 simp only [QaZ, Bool.and_eq_true, decide_eq_true_eq] at h
 exact ⟨h.1.1, h.1.2.1, h.1.2.2.1, h.1.2.2.2.1, h.1.2.2.2.2, h.2⟩
theorem Qoq {e : Qab} {c : Int} (h : (QaU e c).2 = true) : ∃ k, (QaU e c).1 = ((k : Nat) : Int) ∧ k < (eIds e).length := by
 unfold QaU ixAlg at h ⊢
 cases hi : ine (QaC c).2 0 with
 | true => rw [hi] at h; cases h
 | false =>
  rw [hi] at h
  cases hq : fstG (fun x => idAlg x (QaC c).1) (eIds e) with
  | none => rw [hq] at h; cases h
  | some k => exact ⟨k, rfl, (QkJ hq).1⟩
theorem QKC {e : Qab} {o : List Int} {v c : Int} (h : posE e o v c = true) : (QaU e c).2 = true := by
 simp only [posE, Bool.and_eq_true] at h
 exact h.2.2.2.2.2
theorem QKD {c s : Qab} {d v x : Int} {o : List Int} (hc : QaZ c = true) (hs : QaZ s = true) (h : posE s o v x = true) : cIx (eIds s) (QaU s x).1 = true ∧ QdN (QgY s x) (eAnch c) (eHash c) d s.1 = true := by
 obtain ⟨k, hk, hl⟩ := Qoq (QKC h)
 obtain ⟨_, _, _, h4, h5, _⟩ := Qbm hc
 have h6 := (Qbm hs).2.2.2.2.2
 unfold QgY
 rw [hk, Qaw, Int.toNat_natCast, QaA (y := Qat) hl]
 refine ⟨decide_eq_true hl, ?_⟩
 have := List.all_eq_true.1 h6 _ (List.getElem_mem hl)
 simp only [QdN, Bool.and_eq_true, decide_eq_true_eq]
 exact ⟨this, h4, h5⟩
theorem QMy {e : Qab} {o l : List Int} {v : Int} {k : Nat} (h : fstG (posE e o v) l = some k) : k < l.length ∧ posE e o v (l.getD k 0) = true := by
 obtain ⟨q, h1⟩ := QkJ h
 refine ⟨q, ?_⟩
 rw [List.getD_eq_getElem?_getD, List.getElem?_eq_getElem q, Option.getD_some]
 exact h1
theorem eEta (p1 : Qab) : (p1.1, (p1.2.1, (p1.2.2.1, (p1.2.2.2.1, (p1.2.2.2.2.1, (p1.2.2.2.2.2.1, (p1.2.2.2.2.2.2.1, (p1.2.2.2.2.2.2.2.1, (p1.2.2.2.2.2.2.2.2.1, ()))))))))) = p1 := rfl
def outKI (p : Keep × Int) : Option (V × List VO) := some (.tu [.t Qag p.1, .t tI p.2], [])
theorem brT {a : Bool} {X Y : Option (V × List VO)} {x y : Keep × Int} (hx : X = outKI x) (hy : Y = outKI y) : br a X Y = outKI (bif a then x else y) := by
 cases a
 ·exact hy
 ·exact hx
noncomputable def QRu : List DO := dT Tryz.f83 15
noncomputable def QRt : List DO := dT Tryz.f83 16
noncomputable def QRs : List DO := dT Tryz.f83 18
noncomputable def QFT : TC := (.sq (.reg (rT Tryz.f83 0)) (.sq (.bk 0 (.sq (.reg (rT Tryz.f83 1)) (.cd (.t 18) (.sq (.reg (rT Tryz.f83 2)) .rt) (.sq (.reg (rT Tryz.f83 3)) (.cd (.t 24) (.sq (.reg (rT Tryz.f83 4)) .rt) .sk))))) (.sq (.reg (rT Tryz.f83 5)) (.sq (.sq (.reg (rT Tryz.f83 6)) (.cd (.t 58) (.sq (.reg (rT Tryz.f83 7)) .rt) .sk)) (.sq (.reg (rT Tryz.f83 8)) (.sq (.sq (.reg (rT Tryz.f83 9)) (.cd (.t 63) (.reg (rT Tryz.f83 10)) .sk)) (.sq (.reg (rT Tryz.f83 11)) (.sq (.reg (rT Tryz.f83 12)) (.sq (.sq (.reg (rT Tryz.f83 13)) (.cd (.t 73) (.sq (.reg (rT Tryz.f83 14)) .rt) .sk)) (.sq (.dr QRu [(0, [6]), (1, []), (2, []), (3, []), (4, []), (5, []), (6, []), (7, []), (8, []), (9, []), (10, [])] (.of [0, 1, 2, 3, 4, 5, 6, 7, 8, 9, 10])) (.sq (.sq (.dr QRt [(0, [6]), (1, [6]), (2, []), (3, []), (4, []), (5, []), (6, [5]), (7, [5]), (8, [5]), (9, [5]), (10, []), (11, [6]), (12, [6]), (13, []), (14, [])] (.of [0, 1, 2, 3, 4, 5, 6, 7, 8, 9, 10, 11, 12, 13, 14])) (.cd (.t 98) (.sq (.reg (rT Tryz.f83 17)) .rt) .sk)) (.sq (.dr QRs [(0, [12]), (1, [12]), (2, []), (3, []), (4, []), (5, []), (6, []), (7, [10]), (8, [])] (.of [0, 1, 2, 3, 4, 5, 6, 7, 8])) .rt))))))))))))
def QTF : List (RV × Option Ty) := [((.c 10 true 2), some Qag), ((.t 11), some tI)]
def g_f83 : G := ⟨TYs, [], 107, EL [(56, Qsf), (57, QGD), (82, QBA), (126, QHC), (127, QHB), (128, Qsj)], keeps, (fun _ _ => none), IL [], RL []⟩
def r_f83 (p0 p1 : Qab) (p2 p3 : Int) (p4 : List Int) : Option (V × List VO) :=
 let a6 := imn p3 p1.2.2.1
 let a1 := ((p1.1, (p1.2.1, (p1.2.2.1, (p1.2.2.2.1, (p1.2.2.2.2.1, (p1.2.2.2.2.2.1, (p1.2.2.2.2.2.2.1, (p1.2.2.2.2.2.2.2.1, (p1.2.2.2.2.2.2.2.2.1, ()))))))))), (a6, (p4, ())))
 let a7 := ixPos (Qey a1) a1
 let a2 := lgt tI (Qey a1) (Int.toNat a7)
 let a8 := ixPos (QgD a1) a1
 let a3 := lgt tI (QgD a1) (Int.toNat a8)
 let a4 := ((((lgt Qat p1.2.2.2.2.2.1 (Int.toNat ((QaU p1 a3).1))).2).2).1)
 let a5 := ((((lgt Qat p1.2.2.2.2.2.1 (Int.toNat ((QaU p1 a2).1))).2).2).1)
 br (Qa8 p0 p1) (br (!(Qew p0 p1)) (some (.tu [(.t Qag (0, (0, ()))), (.t tI 19)], [])) (br (ilt p2 0) (some (.tu [(.t Qag (0, (0, ()))), (.t tI 2)], [])) (br (igt p2 40000) (some (.tu [(.t Qag (0, (0, ()))), (.t tI 2)], [])) (br (ilt p3 1) (some (.tu [(.t Qag (0, (0, ()))), (.t tI 2)], [])) (br (igt p3 4) (some (.tu [(.t Qag (0, (0, ()))), (.t tI 2)], [])) (br (ilt a6 p0.2.1) (some (.tu [(.t Qag (0, (0, ()))), (.t tI 27)], [])) (br (ilt a6 p1.2.1) (some (.tu [(.t Qag (0, (0, ()))), (.t tI 27)], [])) (br (p1.2.2.2.2.1) (br (okPos (QgD a1) a1) (br (ilt a8 0) (some (.tu [(.t Qag (0, (0, ()))), (.t tI 28)], [])) (br (cIx (QgD a1) a8) (br (idnOk p1 a3) (br (cIx p1.2.2.2.2.2.1 ((QaU p1 a3).1)) (br (QdN a4 p0.2.2.2.2.2.2.1 p0.2.2.2.2.2.2.2.1 p2 p1.1) (br (ine (chkCh a4 p0.2.2.2.2.2.2.1 p0.2.2.2.2.2.2.2.1 p2 p1.1) 0) (some (.tu [(.t Qag (0, (0, ()))), (.t tI 29)], [])) (br (cIx (QgD a1) a8) (some (.tu [(.t Qag (a6, (a3, ()))), (.t tI 0)], [])) none)) none) none) none) none)) none) (br (okPos (Qey a1) a1) (br (ilt a7 0) (some (.tu [(.t Qag (0, (0, ()))), (.t tI 28)], [])) (br (cIx (Qey a1) a7) (br (idnOk p1 a2) (br (cIx p1.2.2.2.2.2.1 ((QaU p1 a2).1)) (br (QdN a5 p0.2.2.2.2.2.2.1 p0.2.2.2.2.2.2.2.1 p2 p1.1) (br (ine (chkCh a5 p0.2.2.2.2.2.2.1 p0.2.2.2.2.2.2.2.1 p2 p1.1) 0) (some (.tu [(.t Qag (0, (0, ()))), (.t tI 29)], [])) (br (cIx (Qey a1) a7) (some (.tu [(.t Qag (a6, (a2, ()))), (.t tI 0)], [])) none)) none) none) none) none)) none))))))))) none
theorem e_f83 (p0 p1 : Qab) (p2 p3 : Int) (p4 : List Int) : runF g_f83 QFT QTF false [.t Qae p0, .t Qae p1, .t tI p2, .t tI p3, .t (.sl tI) p4] [] = r_f83 p0 p1 p2 p3 p4 := by kernel_rfl
theorem en_f83 : Qai Tryz.prog 83 := .inr ⟨by decide, _, Tryz.func83, by kernel_rfl, by kernel_rfl⟩
theorem gk_f83 : GOk Tryz.prog g_f83 := Qal _ (gA (gC QxF QwQ (gC QUT QUD (gC QMK QKW (gC Q0u QWo (gC Q0t QWn (gC QE7 QEJ gN)))))))
theorem lk_f83 : QFT.lok g_f83 := by repeat (first | exact trivial | refine ⟨?_, ?_⟩)
theorem s_f83 (c s : Qab) (d m : Int) (o : List Int) (h : Qvp c s d m o = true) : r_f83 c s d m o = some (.tu [.t Qag (withF c s d m o).1, .t tI (withF c s d m o).2], []) := by
 simp only [Qvp, Bool.and_eq_true, decide_eq_true_eq] at h
 obtain ⟨hr, ho⟩ := h
 obtain ⟨hc, hs⟩ := Bool.and_eq_true_iff.1 hr
 have hs' := Qbm hs
 have hle : lenEE s o = true := decide_eq_true ⟨hs'.2.2.1, hs'.2.1, ho⟩
 have hid : ∀ x, idnOk s x = true := fun x => decide_eq_true hs'.2.2.1
 have hb1 : ∀ v, okPos (Qap s) (s, (v, (o, ()))) = true := fun v => Bool.and_eq_true_iff.2 ⟨decide_eq_true hs'.2.1, hle⟩
 have hb2 : ∀ v, okPos o (s, (v, (o, ()))) = true := fun v => Bool.and_eq_true_iff.2 ⟨decide_eq_true ho, hle⟩
 have hp : ∀ v, possF (s, (v, (o, ()))) = posE s o v := fun v => rfl
 simp only [r_f83, eEta, QgD, Qey, tkE, tkO, hr, Qad, hb1, hb2, hid, ixPos, hp]
 show _ = outKI (withF c s d m o)
 have hg : ∀ (l : List Int) (k : Nat), lgt tI l k = l.getD k 0 := fun _ _ => rfl
 unfold withF
 refine brT rfl <| brT rfl <| brT rfl <| brT rfl <| brT rfl <| brT rfl <| brT rfl ?_
 cases hw : s.2.2.2.2.1 with
 | true =>
  rw [Qad]
  rw [show outL s o = Qap s by unfold outL; rw [hw]; rfl]
  unfold overF
  cases hq : fstG (posE s o (imn m s.2.2.1)) (Qap s) with
  | none => rfl
  | some k =>
   obtain ⟨hk, hp⟩ := QMy hq
   obtain ⟨h1, h2⟩ := QKD (d := d) hc hs hp
   simp only [show ilt (k : Int) 0 = false from decide_eq_false (by omega), Qaf, Qaw, hk, decide_true, Qad, Int.toNat_natCast, hg, h1]
   refine Eq.trans (congrArg (fun b => br b _ _) h2) ?_
   rw [Qad]
   exact brT rfl rfl
 | false =>
  rw [Qaf]
  rw [show outL s o = o by unfold outL; rw [hw]; rfl]
  unfold overF
  cases hq : fstG (posE s o (imn m s.2.2.1)) (o) with
  | none => rfl
  | some k =>
   obtain ⟨hk, hp⟩ := QMy hq
   obtain ⟨h1, h2⟩ := QKD (d := d) hc hs hp
   simp only [show ilt (k : Int) 0 = false from decide_eq_false (by omega), Qaf, Qaw, hk, decide_true, Qad, Int.toNat_natCast, hg, h1]
   refine Eq.trans (congrArg (fun b => br b _ _) h2) ?_
   rw [Qad]
   exact brT rfl rfl
def QS6 : Ent := spec (.pr Qae (.pr Qae (.pr tI (.pr tI (.pr (.sl tI) .nil))))) (fun x => (Qvp x.1 x.2.1 x.2.2.1 x.2.2.2.1 x.2.2.2.2.1)) (fun x => (.tu [(.t Qag ((withF x.1 x.2.1 x.2.2.1 x.2.2.2.1 x.2.2.2.2.1).1)), (.t tI ((withF x.1 x.2.1 x.2.2.1 x.2.2.2.1 x.2.2.2.2.1).2))]))
theorem ms_f83 : Meets Tryz.prog 83 (strip QS6) := Qah (R := runF g_f83 QFT QTF false) (mG Tryz.func83 (by kernel_rfl) Tryz.ntmps83 (by kernel_rfl) gk_f83 lk_f83) fun x hok => (e_f83 x.1 x.2.1 x.2.2.1 x.2.2.2.1 x.2.2.2.2.1).trans (s_f83 x.1 x.2.1 x.2.2.1 x.2.2.2.1 x.2.2.2.2.1 hok)
def QcG (c s : Qab) (d : Int) : Keep × Int := withF c s d c.2.2.1 (Qap c)
def Qf6 (c s : Qab) (_d : Int) : Bool := Qa8 c s
theorem Qbw {c : Qab} (h : QaJ c = true) : 1 ≤ c.2.1 ∧ c.2.1 ≤ c.2.2.1 ∧ c.2.2.1 ≤ 4 := by
 simp only [QaJ, Bool.and_eq_true, Bool.not_eq_true'] at h
 obtain ⟨_, h1, h2, h3, _⟩ := h
 have h1 := of_decide_eq_false h1
 have h2 := of_decide_eq_false h2
 have h3 := of_decide_eq_false h3
 omega
noncomputable def QGg : TC := (.sq (.reg (rT Tryz.f42 0)) (.sq (.sq (.reg (rT Tryz.f42 1)) (.cd (.t 11) (.sq (.reg (rT Tryz.f42 2)) .rt) .sk)) (.sq (.reg (rT Tryz.f42 3)) .rt)))
def QT2 : List (RV × Option Ty) := [((.c 6 true 2), some Qag), ((.t 7), some tI)]
def g_f42 : G := ⟨TYs, [], 23, EL [(82, QBA), (83, QS6)], keeps, (fun _ _ => none), IL [], RL []⟩
def r_f42 (p0 p1 : Qab) (p2 : Int) : Option (V × List VO) :=
 let a1 := withF p0 p1 p2 p0.2.2.1 p0.2.2.2.1
 br (Qa8 p0 p1) (br (!(Qew p0 p1)) (some (.tu [(.t Qag (0, (0, ()))), (.t tI 19)], [])) (br (Qvp p0 p1 p2 p0.2.2.1 p0.2.2.2.1) (some (.tu [(.t Qag (a1.1)), (.t tI (a1.2))], [])) none)) none
theorem e_f42 (p0 p1 : Qab) (p2 : Int) : runF g_f42 QGg QT2 false [.t Qae p0, .t Qae p1, .t tI p2] [] = r_f42 p0 p1 p2 := by kernel_rfl
theorem QUX : Qai Tryz.prog 42 := .inr ⟨by decide, _, Tryz.func42, by kernel_rfl, by kernel_rfl⟩
theorem gk_f42 : GOk Tryz.prog g_f42 := Qal _ (gA (gC QMK QKW (gC en_f83 ms_f83 gN)))
theorem lk_f42 : QGg.lok g_f42 := by repeat (first | exact trivial | refine ⟨?_, ?_⟩)
theorem s_f42 (c s : Qab) (d : Int) (h : Qf6 c s d = true) : r_f42 c s d = some (.tu [.t Qag (QcG c s d).1, .t tI (QcG c s d).2], []) := by
 have hr : Qa8 c s = true := h
 have hw : Qvp c s d c.2.2.1 (Qap c) = true := Bool.and_eq_true_iff.2 ⟨h, decide_eq_true (Qbm (Bool.and_eq_true_iff.1 h).1).2.1⟩
 simp only [r_f42, hr, hw, Qad]
 show _ = outKI (QcG c s d)
 unfold QcG withF
 cases Qew c s <;> rfl
def QGH : Ent := spec (.pr Qae (.pr Qae (.pr tI .nil))) (fun x => (Qf6 x.1 x.2.1 x.2.2.1)) (fun x => (.tu [(.t Qag ((QcG x.1 x.2.1 x.2.2.1).1)), (.t tI ((QcG x.1 x.2.1 x.2.2.1).2))]))
theorem QUH : Meets Tryz.prog 42 (strip QGH) := Qah (R := runF g_f42 QGg QT2 false) (mG Tryz.func42 (by kernel_rfl) Tryz.ntmps42 (by kernel_rfl) gk_f42 lk_f42) fun x hok => (e_f42 x.1 x.2.1 x.2.2.1).trans (s_f42 x.1 x.2.1 x.2.2.1 hok)
def usesL (e : Qab) (c : Int) : List Keep :=
 [bif ieq (QaC c).1.2.2.1.2.1 0 then ((QaC c).1.2.2.1.1, ((lgt Qat (eIds e) (QaU e c).1.toNat).1.2.1, ())) else (QaC c).1.2.2.1, (lgt Qat (eIds e) (QaU e c).1.toNat).1, (QaC c).1.2.2.2.2.1, (QaC c).1.2.2.2.2.2.1]
def usesF (e : Qab) (o : Keep) : List Keep × Int :=
 bif !QaJ e then ([], 19) else bif ine (QaC o.2.1).2 0 then ([], (QaC o.2.1).2) else bif !(QaU e o.2.1).2 then ([], 4) else (usesL e o.2.1, 0)
def QBw (e : Qab) (_o : Keep) : Bool := QaZ e
def outLI (p : List Keep × Int) : Option (V × List VO) := some (.tu [.t (.sl Qag) p.1, .t tI p.2], [])
theorem QU7 {e : Qab} {c : Int} (h : (QaU e c).2 = true) : cIx (eIds e) (QaU e c).1 = true := by
 obtain ⟨k, hk, hl⟩ := Qoq h
 rw [hk, Qaw]
 exact decide_eq_true hl
noncomputable def QF8 : TC := (.sq (.reg (rT Tryz.f50 0)) (.sq (.sq (.reg (rT Tryz.f50 1)) (.sq (.reg (rT Tryz.f50 2)) (.cd (.t 15) (.sq (.reg (rT Tryz.f50 3)) .rt) .sk))) (.sq (.reg (rT Tryz.f50 4)) (.sq (.sq (.reg (rT Tryz.f50 5)) (.cd (.t 24) (.sq (.reg (rT Tryz.f50 6)) .rt) .sk)) (.sq (.reg (rT Tryz.f50 7)) (.sq (.sq (.reg (rT Tryz.f50 8)) (.cd (.t 34) (.sq (.reg (rT Tryz.f50 9)) .rt) .sk)) (.sq (.reg (rT Tryz.f50 10)) (.sq (.sq (.reg (rT Tryz.f50 11)) (.cd (.t 44) (.reg (rT Tryz.f50 12)) .sk)) (.sq (.reg (rT Tryz.f50 13)) .rt)))))))))
def QTU : List (RV × Option Ty) := [((.t 4), some (.sl Qag)), ((.t 5), some tI)]
def g_f50 : G := ⟨TYs, [], 57, EL [(56, Qsf), (76, QBB), (85, QvC)], keeps, (fun _ _ => none), IL [], RL []⟩
def r_f50 (p0 : Qab) (p1 : Keep) : Option (V × List VO) :=
 let a1 := ((lgt Qat p0.2.2.2.2.2.1 (Int.toNat ((QaU p0 p1.2.1).1))).1)
 let a2 := ((((QaC p1.2.1).1).2).2)
 let a3 := (((((a2.2).2).2).1).1, ((((((a2.2).2).2).1).2).1, ()))
 let a4 := ((((a2.2).2).1).1, (((((a2.2).2).1).2).1, ()))
 let a5 := ((a1.2).1, ())
 br (QaZ p0) (br (ine (Qcu p0) 0) (some (.tu [(.t (.sl Qag) ([] : List Keep)), (.t tI (Qcu p0))], [])) (br (ine ((QaC p1.2.1).2) 0) (some (.tu [(.t (.sl Qag) ([] : List Keep)), (.t tI ((QaC p1.2.1).2))], [])) (br (idnOk p0 p1.2.1) (br (!((QaU p0 p1.2.1).2)) (some (.tu [(.t (.sl Qag) ([] : List Keep)), (.t tI 4)], [])) (br (cIx p0.2.2.2.2.2.1 ((QaU p0 p1.2.1).1)) (br (ieq (((a2.1).2).1) 0) (some (.tu [(.t (.sl Qag) ([((a2.1).1, a5), (a1.1, a5), a4, a3])), (.t tI 0)], [])) (some (.tu [(.t (.sl Qag) ([((a2.1).1, (((a2.1).2).1, ())), (a1.1, a5), a4, a3])), (.t tI 0)], []))) none)) none))) none
theorem e_f50 (p0 : Qab) (p1 : Keep) : runF g_f50 QF8 QTU false [.t Qae p0, .t Qag p1] [] = r_f50 p0 p1 := by kernel_rfl
theorem en_f50 : Qai Tryz.prog 50 := .inr ⟨by decide, _, Tryz.func50, by kernel_rfl, by kernel_rfl⟩
theorem gk_f50 : GOk Tryz.prog g_f50 := Qal _ (gA (gC QxF QwQ (gC QMM QKY (gC QDu QB1 gN))))
theorem lk_f50 : QF8.lok g_f50 := by repeat (first | exact trivial | refine ⟨?_, ?_⟩)
theorem s_f50 (e : Qab) (o : Keep) (h : QBw e o = true) : r_f50 e o = some (.tu [.t (.sl Qag) (usesF e o).1, .t tI (usesF e o).2], []) := by
 have hr : QaZ e = true := h
 have hid : ∀ x, idnOk e x = true := fun x => decide_eq_true (Qbm hr).2.2.1
 simp only [r_f50, hr, hid, Qad, QrH]
 show _ = outLI (usesF e o)
 unfold usesF Qcu
 cases QaJ e with
 | false => rfl
 | true =>
  rw [Bool.not_true, Qaf, cond_false]
  cases ine (QaC o.2.1).2 0 with
  | true => rfl
  | false =>
   rw [Qaf, cond_false]
   cases hi : (QaU e o.2.1).2 with
   | false => rfl
   | true =>
    rw [Bool.not_true, Qaf, cond_false]
    refine Eq.trans (congrArg (fun b => br b _ _) (QU7 hi)) ?_
    rw [Qad]
    unfold usesL
    cases ieq (QaC o.2.1).1.2.2.1.2.1 0 <;> rfl
def QTf : Ent := spec (.pr Qae (.pr Qag .nil)) (fun x => (QBw x.1 x.2.1)) (fun x => (.tu [(.t (.sl Qag) ((usesF x.1 x.2.1).1)), (.t tI ((usesF x.1 x.2.1).2))]))
theorem ms_f50 : Meets Tryz.prog 50 (strip QTf) := Qah (R := runF g_f50 QF8 QTU false) (mG Tryz.func50 (by kernel_rfl) Tryz.ntmps50 (by kernel_rfl) gk_f50 lk_f50) fun x hok => (e_f50 x.1 x.2.1).trans (s_f50 x.1 x.2.1 hok)
end
end Go.Proofs.YtckcgijklnloiaaGreat.K
namespace Go.Proofs.YtckcgijklnloiaaGreat.K
open Go.RowKit
noncomputable section
def sameO (a b : List Keep) : Bool := a == b
def QgF (a b : List Keep) : Bool := decide (a.length ≤ 100000 ∧ b.length ≤ 100000)
theorem brN {β : Type} {p q : Bool} {X : Option β} : br p (br q X none) none = br (p && q) X none := by cases p <;> rfl
def Qvu (c : Int) : Int := bif ine (QaC c).2 0 then 0 else strF (QaC c).1.2.2.2.2.1
def insK (x : Int) (l : List Int) : Nat → Nat
 | 0 => 0
 | k + 1 => if ilt (Qvu (l.getD k 0)) (Qvu x) = true then insK x l k else k + 1
def insS (l : List Int) (x : Int) : List Int := (l.take (insK x l l.length) ++ [x]) ++ l.drop (insK x l l.length)
def sortS (l : List Int) : List Int := l.foldl insS []
-- loop 0: (x0 : (List Int)) (x4 : Int) (x5 : Int) (y3 : (List Int)); out: ('exit', 2) (x0 : (List Int)) (x4 : Int) (x5 : Int) (y3 : (List Int))
-- loop 1: (x0 : (List Int)) (x4 : Int) (y3 : (List Int)); out: ('exit', 0) (y3 : (List Int))
end
end Go.Proofs.YtckcgijklnloiaaGreat.K
namespace Go.Proofs.YtckcgijklnloiaaGreat.K
open Go.RowKit
noncomputable section
theorem QVp {d : Dice} {l : List Int} (h : dOk d = true) (h1 : l ≠ []) (h2 : l.length ≤ 100) : ofOk d l = true := by
 have : 0 < l.length := List.length_pos_iff.2 h1
 simp only [ofOk, h, Bool.true_and, decide_eq_true_eq]
 omega
theorem QgO {d : Dice} {n : Int} (h : dOk d = true) (hn : n ≤ 1000000) : QaT d n = true := by
 simp only [QaT, h, Bool.true_and, decide_eq_true_eq]
 omega
theorem QBW {d : Dice} {n : Int} (h : dOk d = true) (h0 : 0 ≤ n) (hn : n ≤ 1000000) : oneOk d n = true := by
 simp only [oneOk, QgO h hn, Bool.true_and, decide_eq_true_eq]
 omega
abbrev kAlg (d : Dice) : Int := dof d [5, 7, 5, 6, 8, 9]
def keyV (d : Dice) : Keep := (kAlg d, (sizeV (dofN d [5, 7, 5, 6, 8, 9]) (kAlg d), ()))
def keyN (d : Dice) : Dice := sizeN (dofN d [5, 7, 5, 6, 8, 9]) (kAlg d)
abbrev cD1 (d : Dice) : Dice := dnext d 1000
abbrev cD2 (d : Dice) : Dice := dofN (cD1 d) [3, 2, 4, 1]
abbrev cD3 (d : Dice) : Dice := dofN (cD2 d) [0, 5, 10]
abbrev cD4 (d : Dice) : Dice := dofN (cD3 d) [1000, 100, 50, 20]
def cD5 (d : Dice) (a : Bool) : Dice := bif a then dofN (cD4 d) [3, 0, 1] else cD4 d
def cPath (d : Dice) (a : Bool) : Int := bif a then dof (cD4 d) [3, 0, 1] else 0
def cNm (d : Dice) (a : Bool) (s : ByteArray) : List ByteArray := bif done (cD5 d a) 3 then [s, scat s (ByteArray.mk #[120])] else [s]
def cRaw (d : Dice) (i s : ByteArray) (k : Keep) (id : Int) (a : Bool) : Qaa :=
 (dval d 1000, (i, (s, (k, (id, ((dof (cD1 d) [3, 2, 4, 1], (0, ())), (dof (cD2 d) [0, 5, 10], (dof (cD3 d) [1000, 100, 50, 20], (a, (cPath d a, (cNm d a s, ((0, (0, ())), ()))))))))))))
def cerV (d : Dice) (i s : ByteArray) (k : Keep) (id g : Int) (a : Bool) : Qaa := (signC (cRaw d i s k id a) g).1
def cerN (d : Dice) (_i _s : ByteArray) (_k : Keep) (_id _g : Int) (a : Bool) : Dice := dnext (cD5 d a) 3
theorem QBi {i s : ByteArray} {k : Keep} {id : Int} {a : Bool} {q p : Int} {u v : Keep} {x y : Int} (hi : i.size ≤ 1000) (hs : s.size ≤ 1000) {l : List ByteArray} (hl : l.length ≤ 2) (hn : ∀ t ∈ l, t.size ≤ 1001) :
  QaI (q, (i, (s, (k, (id, (u, (x, (y, (a, (p, (l, (v, ())))))))))))) = true := by
 have hg : ∀ t : ByteArray, t.size ≤ 1001 → nameG t = true := fun t ht => decide_eq_true (by omega)
 simp only [QaI, Bool.and_eq_true]
 refine ⟨hg _ (by omega), hg _ (by omega), ?_⟩
 simp only [Qb2, Bool.and_eq_true, List.all_eq_true]
 exact ⟨decide_eq_true (by show l.length ≤ _; omega), fun t ht => hg t (hn t ht)⟩
end
end Go.Proofs.YtckcgijklnloiaaGreat.K
namespace Go.Proofs.YtckcgijklnloiaaGreat.K
open Go.RowKit
noncomputable section
abbrev sRoot : ByteArray := ByteArray.mk #[114, 111, 111, 116]
abbrev sSubs : List ByteArray := [ByteArray.mk #[99, 97], ByteArray.mk #[99, 98], ByteArray.mk #[99, 99]]
abbrev Up : Type := List Qaa × Dice × ByteArray × Int
def abvZ : Nat → Nat → Up → Up
 | 0, _, u => u
 | m + 1, i, (ab, d, iss, g) => abvZ m (i + 1) (cerV d iss (sSubs.getD i ByteArray.empty) (5, (2048, ())) ((11 + i : Nat) : Int) g true :: ab, cerN d iss (sSubs.getD i ByteArray.empty) (5, (2048, ())) ((11 + i : Nat) : Int) g true, sSubs.getD i ByteArray.empty, ((11 + i : Nat) : Int))
def chU (d : Dice) : Up := abvZ (dof d [1, 0, 2]).toNat 0 ([], dnext (dofN d [1, 0, 2]) 2, sRoot, 1 + dval (dofN d [1, 0, 2]) 2)
def chnV (d : Dice) (nm : ByteArray) (k : Keep) (id : Int) : List Qaa := cerV (chU d).2.1 (chU d).2.2.1 nm k id (chU d).2.2.2 false :: (chU d).1
def chnN (d : Dice) (nm : ByteArray) (k : Keep) (id : Int) : Dice := cerN (chU d).2.1 (chU d).2.2.1 nm k id (chU d).2.2.2 false
-- loop 0: (x1 : ByteArray) (x3 : Int) (x9 : Int) (x10 : Int) (x11 : ByteArray) (x13 : Int) (y6 : Keep) (y12 : (List Qaa)) (y50000 : Dice); out: ('exit', 0) (x1 : ByteArray) (x3 : Int) (x10 : Int) (x11 : ByteArray) (y6 : Keep) (y12 : (List Qaa)) (y50000 : Dice)
end
end Go.Proofs.YtckcgijklnloiaaGreat.K
namespace Go.Proofs.YtckcgijklnloiaaGreat.K
open Go.RowKit
noncomputable section
def suZ : Nat → List Int → Dice → List Int × Dice
 | 0, l, d => (l, d)
 | n + 1, l, d => suZ n (bif !hasF l (1 + dval d 16) then l ++ [1 + dval d 16] else l) (dnext d 16)
def suI (d : Dice) : List Int × Dice := suZ (2 + dval d 9).toNat [] (dnext d 9)
def suiV (d : Dice) : List Int := bif done (suI d).2 4 then sortS (suI d).1 else (suI d).1
def suiN (d : Dice) : Dice := dnext (suI d).2 4
-- loop 0: (x4 : Int) (y3 : (List Int)) (y50000 : Dice); out: ('exit', 0) (y3 : (List Int)) (y50000 : Dice)
end
end Go.Proofs.YtckcgijklnloiaaGreat.K
namespace Go.Proofs.YtckcgijklnloiaaGreat.K
open Go.RowKit
noncomputable section
abbrev iB (d : Dice) : Bool := igt (dval (keyN d) 3) 0
abbrev iD2 (d : Dice) : Dice := dnext (keyN d) 3
abbrev iA (d : Dice) : Int := dof (iD2 d) [5, 7]
def iKey (d : Dice) : Keep := bif iB d then (iA d, (sizeV (dofN (iD2 d) [5, 7]) (iA d), ())) else keyV d
def iD3 (d : Dice) : Dice := bif iB d then sizeN (dofN (iD2 d) [5, 7]) (iA d) else iD2 d
def iId (d : Dice) : Int := 100 + dval (iD3 d) 20
abbrev iD4 (d : Dice) : Dice := dnext (iD3 d) 20
abbrev iD5 (d : Dice) : Dice := dnext (iD4 d) 9
def iCh (d : Dice) (nm : ByteArray) : List Qaa := bif !done (iD4 d) 9 then chnV (iD5 d) nm (iKey d) (iId d) else []
def iD6 (d : Dice) (nm : ByteArray) : Dice := bif !done (iD4 d) 9 then chnN (iD5 d) nm (iKey d) (iId d) else iD5 d
def idV (d : Dice) (nm : ByteArray) : QaH := (iKey d, (iId d, (iCh d nm, ())))
def idsZ : Nat → ByteArray → Dice → List QaH × Dice
 | 0, _, d => ([], d)
 | n + 1, nm, d => (idV d nm :: (idsZ n nm (iD6 d nm)).1, (idsZ n nm (iD6 d nm)).2)
abbrev eL0 (d : Dice) : Int := dof d [1, 1, 2, 3]
abbrev eD1 (d : Dice) : Dice := dofN d [1, 1, 2, 3]
abbrev eD2 (d : Dice) : Dice := suiN (eD1 d)
abbrev eD3 (d : Dice) : Dice := dnext (eD2 d) 2
abbrev eD4 (d : Dice) : Dice := dnext (eD3 d) 2
abbrev eD5 (d : Dice) : Dice := dnext (eD4 d) (5 - eL0 d)
abbrev eD6 (d : Dice) : Dice := dnext (eD5 d) 3
abbrev eB (d : Dice) : Bool := igt (dval (eD5 d) 3) 0
def eLst (d : Dice) : Int := bif eB d then 1 else eL0 d
def eMst (d : Dice) : Int := bif eB d then dof (eD6 d) [3, 4, 2] else eL0 d + dval (eD4 d) (5 - eL0 d)
def eD7 (d : Dice) : Dice := bif eB d then dofN (eD6 d) [3, 4, 2] else eD6 d
abbrev eD8 (d : Dice) : Dice := dofN (eD7 d) [1, 2, 1, 3, 0]
def eIdz (d : Dice) (nm : ByteArray) : List QaH × Dice := idsZ (dof (eD7 d) [1, 2, 1, 3, 0]).toNat nm (eD8 d)
abbrev eAn (d : Dice) (nm : ByteArray) : List Int := lgt (.sl tI) [[1, 2], [1, 2], [1], [2, 11], ([] : List Int)] (dval (eIdz d nm).2 5).toNat
abbrev eD10 (d : Dice) (nm : ByteArray) : Dice := dnext (eIdz d nm).2 5
abbrev eHs (d : Dice) (nm : ByteArray) : List Int := lgt (.sl tI) [[1, 2, 3, 4], [2, 3, 4], [3, 4]] (dval (eD10 d nm) 3).toNat
def epV (d : Dice) (nm : ByteArray) : Qab := (nm, (eLst d, (eMst d, (suiV (eD1 d), (done (eD2 d) 2, ((eIdz d nm).1, (eAn d nm, (eHs d nm, (done (eD3 d) 2, ())))))))))
def epN (d : Dice) (nm : ByteArray) : Dice := dnext (eD10 d nm) 3
-- loop 0: (x1 : ByteArray) (x6 : Int) (y4 : Qab) (y5_0 : ByteArray) (y5_1 : Int) (y5_2 : Int) (y5_4 : Bool) (y5_8 : Bool) (y15 : (List Int)) (y20505 : (List QaH)) (y50000 : Dice); out: ('exit', 0) (y4 : Qab) (y5_0 : ByteArray) (y5_1 : Int) (y5_2 : Int) (y5_4 : Bool) (y5_8 : Bool) (y15 : (List Int)) (y20505 : (List QaH)) (y50000 : Dice)
end
end Go.Proofs.YtckcgijklnloiaaGreat.K
namespace Go.Proofs.YtckcgijklnloiaaGreat.K
open Go.RowKit
noncomputable section
def prZ : List Int → List Int → Dice → List Int × Dice
 | [], s, d => (s, d)
 | x :: r, s, d => if ilt (llen s) 16 = true then (if hasF s x = true then prZ r s d else if done d 2 = true then prZ r (s ++ [x]) (dnext d 2) else prZ r s (dnext d 2)) else (s, d)
end
end Go.Proofs.YtckcgijklnloiaaGreat.K
namespace Go.Proofs.YtckcgijklnloiaaGreat.K
open Go.RowKit
noncomputable section
end
end Go.Proofs.YtckcgijklnloiaaGreat.K
namespace Go.Proofs.YtckcgijklnloiaaGreat.K
open Go.RowKit
noncomputable section
end
end Go.Proofs.YtckcgijklnloiaaGreat.K
