import Derived.Test.YtkngeegkjhipeaaGreatN8
set_option linter.unusedSimpArgs false
set_option linter.unusedVariables false
namespace Go.Proofs.YtkngeegkjhipeaaGreat.K
open Go.RowKit
noncomputable section
def Qbj (c : Qaa) : List Int × Int := bif QaC c then encE (bodyT c) else ([], 9)
theorem QF3 {c : Qaa} (h : QaC c = true) : Qbj c = (encT (bodyT c), 0) := by
 have := Qqu h
 rw [Qbj, h, cond_true, encE, if_neg (by omega)]
theorem Qy5 (c : Qaa) : (Qbj c).1.length ≤ 1000 := by
 cases h : QaC c with
 | true =>
  rw [QF3 h]
  exact Qqu h
 | false =>
  rw [Qbj, h]
  simp
noncomputable def QtV : TC := (.sq (.reg (rT Tryz.f118 0)) (.sq (.sq (.reg (rT Tryz.f118 1)) (.cd (.t 6) (.sq (.reg (rT Tryz.f118 2)) .rt) .sk)) (.sq (.reg (rT Tryz.f118 3)) .rt)))
def QB6 : List (RV × Option Ty) := [((.t 2), some (.sl (.int .u8))), ((.t 3), some tI)]
def Qxp : G := ⟨TYs, [], 12, EL [(91, QAw), (138, QA6), (139, QA5)], keeps, (fun _ _ => none), IL [], RL []⟩
def Qwq (p0 : Qaa) : Option (V × List VO) := br (QaB p0) (br (!(QaC p0)) (some (.tu [(.t (.sl (.int .u8)) ([] : List Int)), (.t tI 9)], [])) (br (Qe7 p0) (br (encOk (bodyT p0)) (some (.tu [(.t (.sl (.int .u8)) ((encE (bodyT p0)).1)), (.t tI ((encE (bodyT p0)).2))], [])) none) none)) none
theorem e_f118 (p0 : Qaa) : runF Qxp QtV QB6 false [.t Qab p0] [] = Qwq p0 := by kernel_rfl
theorem QQI : Qag Tryz.prog 118 := .inr ⟨by decide, _, Tryz.func118, by kernel_rfl, by kernel_rfl⟩
theorem QP5 : GOk Tryz.prog Qxp := Qal _ (gA (gC QML QMs (gC QQB QNR (gC QQA QNQ gN))))
theorem QOS : QtV.lok Qxp := by repeat (first | exact trivial | refine ⟨?_, ?_⟩)
theorem s_f118 (c : Qaa) (h : QaB c = true) : Qwq c = some (.tu [.t (.sl (.int .u8)) (Qbj c).1, .t tI (Qbj c).2], []) := by
 unfold Qbj
 cases hv : QaC c with
 | true => simp only [Qwq, h, hv, QMJ hv, show Qe7 c = true from by rw [Qe7, h, hv]; rfl, Bool.not_true, Qac, Qae, cond_true]
 | false => simp only [Qwq, h, hv, Bool.not_false, Qac, cond_false]
def QBd : Ent := spec (.pr Qab .nil) (fun x => (QaB x.1)) (fun x => (.tu [(.t (.sl (.int .u8)) ((Qbj x.1).1)), (.t tI ((Qbj x.1).2))]))
theorem QNY : Meets Tryz.prog 118 (strip QBd) := Qaf (R := runF Qxp QtV QB6 false) (mG Tryz.func118 (by kernel_rfl) Tryz.ntmps118 (by kernel_rfl) QP5 QOS) fun x hok => (e_f118 x.1).trans (s_f118 x.1 hok)
noncomputable def Qt4 : TC := (.sq (.reg (rT Tryz.f109 0)) (.sq (.sq (.reg (rT Tryz.f109 1)) (.cd (.t 6) (.sq (.reg (rT Tryz.f109 2)) .rt) .sk)) (.sq (.reg (rT Tryz.f109 3)) .rt)))
def QCf : List (RV × Option Ty) := [((.t 2), some (.sl (.int .u8))), ((.t 3), some tI)]
def Qxu : G := ⟨TYs, [], 12, EL [(97, QAv), (136, QA8), (137, QA7)], keeps, (fun _ _ => none), IL [], RL []⟩
def Qwr (p0 : Qaa) : Option (V × List VO) := br (QaB p0) (br (ine (Qd9 p0) 0) (some (.tu [(.t (.sl (.int .u8)) ([] : List Int)), (.t tI 9)], [])) (br (Qe7 p0) (br (encOk (bodyT p0)) (some (.tu [(.t (.sl (.int .u8)) ((encE (bodyT p0)).1)), (.t tI ((encE (bodyT p0)).2))], [])) none) none)) none
theorem e_f109 (p0 : Qaa) : runF Qxu Qt4 QCf false [.t Qab p0] [] = Qwr p0 := by kernel_rfl
theorem QQQ : Qag Tryz.prog 109 := .inr ⟨by decide, _, Tryz.func109, by kernel_rfl, by kernel_rfl⟩
theorem QQe : GOk Tryz.prog Qxu := Qal _ (gA (gC QMK QMr (gC QQD QNT (gC QQC QNS gN))))
theorem QO1 : Qt4.lok Qxu := by repeat (first | exact trivial | refine ⟨?_, ?_⟩)
theorem s_f109 (c : Qaa) (h : QaB c = true) : Qwr c = some (.tu [.t (.sl (.int .u8)) (Qbj c).1, .t tI (Qbj c).2], []) := by
 unfold Qbj
 cases hv : QaC c with
 | true => simp only [Qwr, h, hv, QfV, QMJ hv, show Qe7 c = true from by rw [Qe7, h, hv]; rfl, Bool.not_true, Qac, Qae, cond_true]
 | false => simp only [Qwr, h, hv, QfV, Bool.not_false, Qac, cond_false]
def QBl : Ent := spec (.pr Qab .nil) (fun x => (QaB x.1)) (fun x => (.tu [(.t (.sl (.int .u8)) ((Qbj x.1).1)), (.t tI ((Qbj x.1).2))]))
theorem QN6 : Meets Tryz.prog 109 (strip QBl) := Qaf (R := runF Qxu Qt4 QCf false) (mG Tryz.func109 (by kernel_rfl) Tryz.ntmps109 (by kernel_rfl) QQe QO1) fun x hok => (e_f109 x.1).trans (s_f109 x.1 hok)
def stepS (s x : Int) : Int := imul .u32 (ibxor .u32 s (icv .u32 x)) 16777619
def sumB (b : List Int) : Int := icv .i64 (b.foldl stepS 2166136261)
def lenB (b : List Int) : Bool := decide (b.length ≤ 100000)
def QfQ : Fg := ⟨[(3, some (.int .u32)), (6, some (.sl (.int .u8))), (7, some tI), (8, some tI)], []⟩
noncomputable def Qhn : TC := (.sq (.reg (rT Tryz.f119 3)) (.sq (.cd (.t 9) .sk (.fg ⟨[(3, some (.int .u32))], []⟩ (.ex 0))) (.sq (.bk 1 (.sq (.reg (rT Tryz.f119 4)) (.reg (rT Tryz.f119 5)))) (.reg (rT Tryz.f119 6)))))
noncomputable def QtU : TC := (.sq (.reg (rT Tryz.f119 0)) (.sq (.reg (rT Tryz.f119 1)) (.sq (.sq (.reg (rT Tryz.f119 2)) (.bk 0 (.lp 0 QfQ Qhn))) (.sq (.reg (rT Tryz.f119 7)) .rt))))
def QB5 : List (RV × Option Ty) := [((.t 2), some tI)]
abbrev Qmz : Sh := ⟨[(3, .ty (.int .u32)), (6, .ty (.sl (.int .u8))), (7, .ty tI), (8, .ty tI)], []⟩
def Ql4 (x3 : Int) (x6 : List Int) (x7 x8 : Int) : VS := Qmz.st (x3, x6, x7, x8, ()) ()
abbrev QrF : Sh := ⟨[(3, .ty (.int .u32))], []⟩
def Qdw (x3 : Int) : VS := QrF.st (x3, ()) ()
def QKu : VS → Option (Bool × List (Bool × Exit × VS)) := mkL Qmz (fun x y => (rngOk x.2.1 x.2.2.1 x.2.2.2.1)) (fun x y => [(true, .exit 0, Qdw ((x.2.1.drop x.2.2.2.1.toNat).foldl stepS x.1))])
def QjW : G := ⟨TYs, [], 20, EL [], keeps, (Ls [QKu]), IL [], RL []⟩
def Qyf (x3 : Int) (x6 : List Int) (x7 x8 : Int) : Option (Exit × VS) := br (ilt x8 x7) (br (cIx x6 x8) (some (.normal, Ql4 (imul .u32 (ibxor .u32 x3 (icv .u32 (lgt (.int .u8) x6 (Int.toNat x8)))) 16777619) x6 x7 (iadd .i64 x8 1))) none) (some (.exit 0, Qdw x3))
noncomputable def QhV (x3 : Int) (x6 : List Int) (x7 x8 : Int) : Option (Exit × VS) := loopF (Qai QjW QfQ Qhn) (Ql4 x3 x6 x7 x8)
noncomputable def QkK (x3 : Int) (x6 : List Int) (x7 x8 : Int) : Option (Exit × VS) := br (ilt x8 x7) (br (cIx x6 x8) (QhV (imul .u32 (ibxor .u32 x3 (icv .u32 (lgt (.int .u8) x6 (Int.toNat x8)))) 16777619) x6 x7 (iadd .i64 x8 1)) none) (some (.exit 0, Qdw x3))
def Qic (x3 : Int) (x6 : List Int) (x7 x8 : Int) : Option (Exit × VS) := some (.exit 0, Qdw ((x6.drop x8.toNat).foldl stepS x3))
theorem QGs (x3 : Int) (x6 : List Int) (x7 x8 : Int) : Qai QjW QfQ Qhn (Ql4 x3 x6 x7 x8) = Qyf x3 x6 x7 x8 := by kernel_rfl
theorem Qsz (x3 : Int) (x6 : List Int) (x7 x8 : Int) : QhV x3 x6 x7 x8 = QkK x3 x6 x7 x8 := (Qap _ _).trans (by
 rw [QGs]
 simp only [Qyf, QkK, QaE, nxt_n, nxt_r, nxt_e, nxt_0]
 rfl)
def QC1 (p0 : List Int) : Option (V × List VO) := br (rngOk p0 (llen p0) (0 : Int)) (some (.t tI (icv .i64 ((p0.drop (0 : Int).toNat).foldl stepS (2166136261 : Int))), [])) none
theorem e_f119 (p0 : List Int) : runF QjW QtU QB5 false [.t (.sl (.int .u8)) p0] [] = QC1 p0 := by kernel_rfl
theorem QQH : Qag Tryz.prog 119 := .inr ⟨by decide, _, Tryz.func119, by kernel_rfl, by kernel_rfl⟩
theorem QP4 : GOk Tryz.prog QjW := Qal _ (fun p hp => by cases hp)
theorem QIC (x3 : Int) (x6 : List Int) (x7 x8 : Int) (h : (rngOk x6 x7 x8) = true) : QhV x3 x6 x7 x8 = Qic x3 x6 x7 x8 := by
 obtain ⟨rfl, h3, k, rfl, hk⟩ := rng_k h
 clear h
 revert x3
 refine Qav x6 (fun k => ∀ x3 : Int, QhV x3 x6 (x6.length : Int) (k : Int) = Qic x3 x6 (x6.length : Int) (k : Int)) ?_ ?_ k hk
 ·intro x3
  rw [Qsz]
  simp only [QkK, Qic, Qaz, Nat.lt_irrefl, decide_false, Qae, Int.toNat_natCast, List.drop_length, List.foldl_nil]
 ·intro k hk ih x3
  rw [Qsz]
  simp only [QkK, Qaz, QaA, hk, decide_true, Qac, Int.toNat_natCast, add1 (show k < 4611686018427387904 by omega), QaF (y := .int .u8) hk, ih]
  simp only [Qic, Int.toNat_natCast, List.drop_eq_getElem_cons hk, List.foldl_cons, stepS]
theorem QEe : ∀ S l p, QjW.L 0 (fgt QfQ S) = some (true, l) → pickA l = some p → loopF (Qai QjW QfQ Qhn) S = some p :=
 QaG (s := Qmz) ⟨by decide, by decide⟩ (by kernel_rfl) fun x y hok p hp => by
 simp only [Qas, Qao] at hp
 exact (QIC x.1 x.2.1 x.2.2.1 x.2.2.2.1 (by simpa using hok)).trans hp
theorem QOR : QtU.lok QjW := by
 repeat (first | exact trivial | exact QEe | refine ⟨?_, ?_⟩)
theorem s_f119 (b : List Int) (h : lenB b = true) : QC1 b = some (.t tI (sumB b), []) := by
 simp only [lenB, decide_eq_true_eq] at h
 simp only [QC1, rng_0 h, Qac, Int.toNat_zero, List.drop_zero]
 rfl
def QBc : Ent := spec (.pr (.sl (.int .u8)) .nil) (fun x => (lenB x.1)) (fun x => (.t tI (sumB x.1)))
theorem QNX : Meets Tryz.prog 119 (strip QBc) := Qaf (R := runF QjW QtU QB5 false) (mG Tryz.func119 (by kernel_rfl) Tryz.ntmps119 (by kernel_rfl) QP4 QOR) fun x hok => (e_f119 x.1).trans (s_f119 x.1 hok)
def QfU : Fg := ⟨[(0, some (.sl (.int .u8))), (3, some (.int .u32)), (4, some tI)], []⟩
noncomputable def Qhr : TC := (.sq (.sq (.reg (rT Tryz.f110 3)) (.cd (.t 8) .sk (.fg ⟨[(3, some (.int .u32))], []⟩ (.ex 0)))) (.sq (.bk 1 (.reg (rT Tryz.f110 4))) (.reg (rT Tryz.f110 5))))
noncomputable def Qt3 : TC := (.sq (.reg (rT Tryz.f110 0)) (.sq (.reg (rT Tryz.f110 1)) (.sq (.sq (.reg (rT Tryz.f110 2)) (.bk 0 (.lp 0 QfU Qhr))) (.sq (.reg (rT Tryz.f110 6)) .rt))))
def QCe : List (RV × Option Ty) := [((.t 2), some tI)]
abbrev QmD : Sh := ⟨[(0, .ty (.sl (.int .u8))), (3, .ty (.int .u32)), (4, .ty tI)], []⟩
def Ql7 (x0 : List Int) (x3 x4 : Int) : VS := QmD.st (x0, x3, x4, ()) ()
abbrev QrJ : Sh := ⟨[(3, .ty (.int .u32))], []⟩
def QdA (x3 : Int) : VS := QrJ.st (x3, ()) ()
def QKy : VS → Option (Bool × List (Bool × Exit × VS)) := mkL QmD (fun x y => (idxOk x.1 x.2.2.1)) (fun x y => [(true, .exit 0, QdA ((x.1.drop x.2.2.1.toNat).foldl stepS x.2.1))])
def Qj0 : G := ⟨TYs, [], 21, EL [], keeps, (Ls [QKy]), IL [], RL []⟩
def Qyj (x0 : List Int) (x3 x4 : Int) : Option (Exit × VS) := br (ilt x4 (llen x0)) (br (cIx x0 x4) (some (.normal, Ql7 x0 (imul .u32 (ibxor .u32 x3 (icv .u32 (lgt (.int .u8) x0 (Int.toNat x4)))) 16777619) (iadd .i64 x4 1))) none) (some (.exit 0, QdA x3))
noncomputable def QhY (x0 : List Int) (x3 x4 : Int) : Option (Exit × VS) := loopF (Qai Qj0 QfU Qhr) (Ql7 x0 x3 x4)
noncomputable def QkO (x0 : List Int) (x3 x4 : Int) : Option (Exit × VS) := br (ilt x4 (llen x0)) (br (cIx x0 x4) (QhY x0 (imul .u32 (ibxor .u32 x3 (icv .u32 (lgt (.int .u8) x0 (Int.toNat x4)))) 16777619) (iadd .i64 x4 1)) none) (some (.exit 0, QdA x3))
def Qig (x0 : List Int) (x3 x4 : Int) : Option (Exit × VS) := some (.exit 0, QdA ((x0.drop x4.toNat).foldl stepS x3))
theorem QGw (x0 : List Int) (x3 x4 : Int) : Qai Qj0 QfU Qhr (Ql7 x0 x3 x4) = Qyj x0 x3 x4 := by kernel_rfl
theorem QsD (x0 : List Int) (x3 x4 : Int) : QhY x0 x3 x4 = QkO x0 x3 x4 := (Qap _ _).trans (by
 rw [QGw]
 simp only [Qyj, QkO, QaE, nxt_n, nxt_r, nxt_e, nxt_0]
 rfl)
def QC9 (p0 : List Int) : Option (V × List VO) := br (idxOk p0 (0 : Int)) (some (.t tI (icv .i64 ((p0.drop (0 : Int).toNat).foldl stepS (2166136261 : Int))), [])) none
theorem e_f110 (p0 : List Int) : runF Qj0 Qt3 QCe false [.t (.sl (.int .u8)) p0] [] = QC9 p0 := by kernel_rfl
theorem QQP : Qag Tryz.prog 110 := .inr ⟨by decide, _, Tryz.func110, by kernel_rfl, by kernel_rfl⟩
theorem QQd : GOk Tryz.prog Qj0 := Qal _ (fun p hp => by cases hp)
theorem QIG (x0 : List Int) (x3 x4 : Int) (h : (idxOk x0 x4) = true) : QhY x0 x3 x4 = Qig x0 x3 x4 := by
 simp only [idxOk, decide_eq_true_eq] at h
 obtain ⟨h0, h1, h2⟩ := h
 obtain ⟨k, rfl⟩ := Int.eq_ofNat_of_zero_le h0
 revert x3
 refine Qav x0 (fun k => ∀ x3 : Int, QhY x0 x3 (k : Int) = Qig x0 x3 (k : Int)) ?_ ?_ k (by omega)
 ·intro x3
  rw [QsD]
  simp only [QkO, Qig, show ilt (x0.length : Int) (llen x0) = false from decide_eq_false (by simp only [llen]; omega), Qae, Int.toNat_natCast, List.drop_length, List.foldl_nil]
 ·intro k hk ih x3
  rw [QsD]
  simp only [QkO, show ilt (k : Int) (llen x0) = true from decide_eq_true (by simp only [llen]; omega), QaA, hk, decide_true, Qac, Int.toNat_natCast, add1 (show k < 4611686018427387904 by omega), QaF (y := .int .u8) hk, ih]
  simp only [Qig, Int.toNat_natCast, List.drop_eq_getElem_cons hk, List.foldl_cons, stepS]
theorem QEi : ∀ S l p, Qj0.L 0 (fgt QfU S) = some (true, l) → pickA l = some p → loopF (Qai Qj0 QfU Qhr) S = some p :=
 QaG (s := QmD) ⟨by decide, by decide⟩ (by kernel_rfl) fun x y hok p hp => by
 simp only [Qas, Qao] at hp
 exact (QIG x.1 x.2.1 x.2.2.1 (by simpa using hok)).trans hp
theorem QO0 : Qt3.lok Qj0 := by
 repeat (first | exact trivial | exact QEi | refine ⟨?_, ?_⟩)
theorem s_f110 (b : List Int) (h : lenB b = true) : QC9 b = some (.t tI (sumB b), []) := by
 simp only [lenB, decide_eq_true_eq] at h
 simp only [QC9, show idxOk b 0 = true from decide_eq_true (by omega), Qac, Int.toNat_zero, List.drop_zero]
 rfl
def QBk : Ent := spec (.pr (.sl (.int .u8)) .nil) (fun x => (lenB x.1)) (fun x => (.t tI (sumB x.1)))
theorem QN5 : Meets Tryz.prog 110 (strip QBk) := Qaf (R := runF Qj0 Qt3 QCe false) (mG Tryz.func110 (by kernel_rfl) Tryz.ntmps110 (by kernel_rfl) QQd QO0) fun x hok => (e_f110 x.1).trans (s_f110 x.1 hok)
theorem QME (c : Qaa) : lenB (Qbj c).1 = true := decide_eq_true (by have := Qy5 c; omega)
def Qi5 (c : Qaa) (k : Int) : Bool := ieq (Qbj c).2 0 && (ieq (cSeal c).1 k && ieq (cSeal c).2.1 (sumB (Qbj c).1))
def Qbw (c : Qaa) (_k : Int) : Bool := QaB c
noncomputable def QJm : List DO := dT Tryz.f94 2
noncomputable def Qzu : TC := (.sq (.reg (rT Tryz.f94 0)) (.sq (.reg (rT Tryz.f94 1)) (.sq (.dr QJm [(0, []), (1, []), (2, []), (3, [2]), (4, [2]), (5, []), (6, []), (7, []), (8, []), (9, []), (10, []), (11, [])] (.of [0, 1, 2, 3, 4, 5, 6, 7, 8, 9, 10, 11])) .rt)))
def QLm : List (RV × Option Ty) := [((.t 4), some .bool)]
def g_f94 : G := ⟨TYs, [], 23, EL [(118, QBd), (119, QBc)], keeps, (fun _ _ => none), IL [], RL []⟩
def r_f94 (p0 : Qaa) (p1 : Int) : Option (V × List VO) := br (QaB p0) (br (ieq ((Qbj p0).2) 0) (br (lenB ((Qbj p0).1)) (some (.t .bool (and (ieq p0.2.2.2.2.2.2.2.2.2.2.2.1.1 p1) (and (ieq p0.2.2.2.2.2.2.2.2.2.2.2.1.2.1 (sumB ((Qbj p0).1))) true)), [])) none) (some (.t .bool false, []))) none
theorem e_f94 (p0 : Qaa) (p1 : Int) : runF g_f94 Qzu QLm false [.t Qab p0, .t tI p1] [] = r_f94 p0 p1 := by kernel_rfl
theorem en_f94 : Qag Tryz.prog 94 := .inr ⟨by decide, _, Tryz.func94, by kernel_rfl, by kernel_rfl⟩
theorem gk_f94 : GOk Tryz.prog g_f94 := Qal _ (gA (gC QQI QNY (gC QQH QNX gN)))
theorem lk_f94 : Qzu.lok g_f94 := by repeat (first | exact trivial | refine ⟨?_, ?_⟩)
theorem s_f94 (c : Qaa) (k : Int) (h : Qbw c k = true) : r_f94 c k = some (.t .bool (Qi5 c k), []) := by
 simp only [r_f94, show QaB c = true from h, QME, Qac, Bool.and_true]
 exact brA rfl
def QKG : Ent := spec (.pr Qab (.pr tI .nil)) (fun x => (Qbw x.1 x.2.1)) (fun x => (.t .bool (Qi5 x.1 x.2.1)))
theorem ms_f94 : Meets Tryz.prog 94 (strip QKG) := Qaf (R := runF g_f94 Qzu QLm false) (mG Tryz.func94 (by kernel_rfl) Tryz.ntmps94 (by kernel_rfl) gk_f94 lk_f94) fun x hok => (e_f94 x.1 x.2.1).trans (s_f94 x.1 x.2.1 hok)
def copyC (c : Qaa) : Qaa := c
noncomputable def QzB : TC := (.sq (.reg (rT Tryz.f86 0)) (.sq (.reg (rT Tryz.f86 1)) (.sq (.reg (rT Tryz.f86 2)) .rt)))
def QLt : List (RV × Option Ty) := [((.c 2 true 15), some Qab)]
def g_f86 : G := ⟨TYs, [3], 9, EL [], keeps, (fun _ _ => none), IL [], RL []⟩
def r_f86 (p0 : Qaa) : Option (V × List VO) := br (cApp ([] : List ByteArray) p0.2.2.2.2.2.2.2.2.2.2.1 16) (some (.t Qab (p0.1, (p0.2.1, (p0.2.2.1, ((p0.2.2.2.1.1, (p0.2.2.2.1.2.1, ())), (p0.2.2.2.2.1, ((p0.2.2.2.2.2.1.1, (p0.2.2.2.2.2.1.2.1, ())), (p0.2.2.2.2.2.2.1, (p0.2.2.2.2.2.2.2.1, (p0.2.2.2.2.2.2.2.2.1, (p0.2.2.2.2.2.2.2.2.2.1, ((([] : List ByteArray) ++ p0.2.2.2.2.2.2.2.2.2.2.1), ((p0.2.2.2.2.2.2.2.2.2.2.2.1.1, (p0.2.2.2.2.2.2.2.2.2.2.2.1.2.1, ())), ())))))))))))), [])) none
theorem e_f86 (p0 : Qaa) : runF g_f86 QzB QLt false [.t Qab p0] [] = r_f86 p0 := by kernel_rfl
theorem en_f86 : Qag Tryz.prog 86 := .inr ⟨by decide, _, Tryz.func86, by kernel_rfl, by kernel_rfl⟩
theorem gk_f86 : GOk Tryz.prog g_f86 := Qal _ (fun p hp => by cases hp)
theorem lk_f86 : QzB.lok g_f86 := by repeat (first | exact trivial | refine ⟨?_, ?_⟩)
theorem Qta {c : Qaa} (h : QaB c = true) : (QaD c).length ≤ 100000 := by
 simp only [QaB, QbB, Bool.and_eq_true, decide_eq_true_eq] at h
 exact h.2.2.1
theorem s_f86 (c : Qaa) (h : QaB c = true) : r_f86 c = some (.t Qab (copyC c), []) := by
 have hn : c.2.2.2.2.2.2.2.2.2.2.1.length ≤ 100000 := Qta h
 simp only [r_f86]
 rw [cAppN (by omega) (by simp only [List.length_nil]; omega), Qac]
 rfl
def QAz : Ent := spec (.pr Qab .nil) (fun x => (QaB x.1)) (fun x => (.t Qab (copyC x.1)))
theorem ms_f86 : Meets Tryz.prog 86 (strip QAz) := Qaf (R := runF g_f86 QzB QLt false) (mG Tryz.func86 (by kernel_rfl) Tryz.ntmps86 (by kernel_rfl) gk_f86 lk_f86) fun x hok => (e_f86 x.1).trans (s_f86 x.1 hok)
def sealC (c : Qaa) (s : Keep) : Qaa := (c.1, (c.2.1, (c.2.2.1, (c.2.2.2.1, (c.2.2.2.2.1, (c.2.2.2.2.2.1, (c.2.2.2.2.2.2.1, (c.2.2.2.2.2.2.2.1, (c.2.2.2.2.2.2.2.2.1, (c.2.2.2.2.2.2.2.2.2.1, (c.2.2.2.2.2.2.2.2.2.2.1, (s, ()))))))))))))
def unsC (c : Qaa) : Qaa := sealC c (0, (0, ()))
def Qmc (c : Qaa) (k : Int) : Bool := !QaC (unsC c) || (ilt k 0 || igt k 2147483648)
abbrev zCert : Qaa := Ty.zero Qab
def signC (c : Qaa) (k : Int) : Qaa × Int := bif Qmc c k then (zCert, 9) else (sealC c (k, (sumB (Qbj (unsC c)).1, ())), 0)
noncomputable def QzA : TC := (.sq (.reg (rT Tryz.f87 0)) (.sq (.reg (rT Tryz.f87 1)) (.sq (.reg (rT Tryz.f87 2)) (.sq (.sq (.reg (rT Tryz.f87 3)) (.cd (.t 22) (.sq (.reg (rT Tryz.f87 4)) .rt) .sk)) (.sq (.reg (rT Tryz.f87 5)) (.sq (.reg (rT Tryz.f87 6)) (.sq (.reg (rT Tryz.f87 7)) .rt)))))))
def QLs : List (RV × Option Ty) := [((.c 4 true 15), some Qab), ((.t 5), some tI)]
def g_f87 : G := ⟨TYs, [], 35, EL [(86, QAz), (97, QAv), (109, QBl), (110, QBk)], keeps, (fun _ _ => none), IL [], RL []⟩
def r_f87 (p0 : Qaa) (p1 : Int) : Option (V × List VO) :=
 let a4 := ((copyC p0).2)
 let a1 := ((((a4.2).2).2).2)
 let a5 := (((a1.2).2).2)
 let a2 := ((Qbj ((copyC p0).1, (a4.1, ((a4.2).1, (((a4.2).2).1, ((((a4.2).2).2).1, (a1.1, ((a1.2).1, (((a1.2).2).1, (a5.1, ((a5.2).1, (((a5.2).2).1, ((0, (0, ())), (((a5.2).2).2).2))))))))))))).1)
 let a3 := (QaB ((copyC p0).1, (a4.1, ((a4.2).1, (((a4.2).2).1, ((((a4.2).2).2).1, (a1.1, ((a1.2).1, (((a1.2).2).1, (a5.1, ((a5.2).1, (((a5.2).2).1, ((0, (0, ())), (((a5.2).2).2).2)))))))))))))
 let a6 := ByteArray.mk #[]
 br (QaB p0) (br a3 (br (ine (Qd9 ((copyC p0).1, (a4.1, ((a4.2).1, (((a4.2).2).1, ((((a4.2).2).2).1, (a1.1, ((a1.2).1, (((a1.2).2).1, (a5.1, ((a5.2).1, (((a5.2).2).1, ((0, (0, ())), (((a5.2).2).2).2))))))))))))) 0) (some (.tu [(.t Qab (0, (a6, (a6, ((0, (0, ())), (0, ((0, (0, ())), (0, (0, (false, (0, (([] : List ByteArray), ((0, (0, ())), ()))))))))))))), (.t tI 9)], [])) (br (ilt p1 0) (some (.tu [(.t Qab (0, (a6, (a6, ((0, (0, ())), (0, ((0, (0, ())), (0, (0, (false, (0, (([] : List ByteArray), ((0, (0, ())), ()))))))))))))), (.t tI 9)], [])) (br (igt p1 2147483648) (some (.tu [(.t Qab (0, (a6, (a6, ((0, (0, ())), (0, ((0, (0, ())), (0, (0, (false, (0, (([] : List ByteArray), ((0, (0, ())), ()))))))))))))), (.t tI 9)], [])) (br a3 (br (lenB a2) (some (.tu [(.t Qab ((copyC p0).1, (a4.1, ((a4.2).1, (((a4.2).2).1, ((((a4.2).2).2).1, (a1.1, ((a1.2).1, (((a1.2).2).1, (a5.1, ((a5.2).1, (((a5.2).2).1, ((p1, ((sumB a2), ())), (((a5.2).2).2).2))))))))))))), (.t tI 0)], [])) none) none)))) none) none
theorem e_f87 (p0 : Qaa) (p1 : Int) : runF g_f87 QzA QLs false [.t Qab p0, .t tI p1] [] = r_f87 p0 p1 := by kernel_rfl
theorem en_f87 : Qag Tryz.prog 87 := .inr ⟨by decide, _, Tryz.func87, by kernel_rfl, by kernel_rfl⟩
theorem gk_f87 : GOk Tryz.prog g_f87 := Qal _ (gA (gC en_f86 ms_f86 (gC QMK QMr (gC QQQ QN6 (gC QQP QN5 gN)))))
theorem lk_f87 : QzA.lok g_f87 := by repeat (first | exact trivial | refine ⟨?_, ?_⟩)
theorem s_f87 (c : Qaa) (k : Int) (h : Qbw c k = true) : r_f87 c k = some (.tu [.t Qab (signC c k).1, .t tI (signC c k).2], []) := by
 have h : QaB c = true := h
 have hu : QaB (unsC c) = true := h
 have e : ((copyC c).1, ((copyC c).2.1, ((copyC c).2.2.1, ((copyC c).2.2.2.1, ((copyC c).2.2.2.2.1, ((copyC c).2.2.2.2.2.1, ((copyC c).2.2.2.2.2.2.1, ((copyC c).2.2.2.2.2.2.2.1, ((copyC c).2.2.2.2.2.2.2.2.1, ((copyC c).2.2.2.2.2.2.2.2.2.1, ((copyC c).2.2.2.2.2.2.2.2.2.2.1, ((0, (0, ())), ())))))))))))) = unsC c := rfl
 simp only [r_f87, h, e, hu, QfV, QME, Qac]
 unfold signC Qmc
 cases QaC (unsC c) with
 | false => rfl
 | true =>
  rw [Bool.not_true, Qae, Bool.false_or]
  cases ilt k 0 with
  | true => rfl
  | false =>
   rw [Qae, Bool.false_or]
   cases igt k 2147483648 <;> rfl
def QKJ : Ent := spec (.pr Qab (.pr tI .nil)) (fun x => (Qbw x.1 x.2.1)) (fun x => (.tu [(.t Qab ((signC x.1 x.2.1).1)), (.t tI ((signC x.1 x.2.1).2))]))
theorem ms_f87 : Meets Tryz.prog 87 (strip QKJ) := Qaf (R := runF g_f87 QzA QLs false) (mG Tryz.func87 (by kernel_rfl) Tryz.ntmps87 (by kernel_rfl) gk_f87 lk_f87) fun x hok => (e_f87 x.1 x.2.1).trans (s_f87 x.1 x.2.1 hok)
def QaO (l : List Qaa) : Bool := decide (l.length ≤ 100000) && l.all QaB
def QxF : Fg := ⟨[(0, some (.sl Qab)), (3, none), (4, some tI)], [(3, none), (18, none)]⟩
noncomputable def Qv3 : TC := (.sq (.sq (.reg [(oV 5 4), (oV 6 0), (oP 7 (.len false (.t 6))), (oP 8 (.bin false .lss (.t 5) (.t 7)))]) (.cd (.t 8) .sk (.fg ⟨[(3, none)], [(3, none), (18, none)]⟩ (.ex 0)))) (.sq (.bk 1 (.reg [(oV 11 3), (oV 12 0), (oV 13 4), (oP 14 (.ix 15 (.t 12) (.t 13))), (oM 15 (.ld true 15 (.t 14))), (oC 16 86 [(.t 15)]), (oM 17 (.bs 98 15 1 [(.v (.int .i64 0)), (.v (.string (ByteArray.mk #[]))), (.v (.string (ByteArray.mk #[]))), (.v (.int .i64 0)), (.v (.int .i64 0)), (.v (.int .i64 0)), (.v (.int .i64 0)), (.v (.int .i64 0)), (.v (.int .i64 0)), (.v (.int .i64 0)), (.v (.bool false)), (.v (.int .i64 0)), (.v (.slice none 0 0)), (.v (.int .i64 0)), (.v (.int .i64 0))] [(0, 15, (.t 16))])), (oM 18 (.app 98 15 152 (.t 11) (.t 17))), (oV 3 18)])) (.reg [(oV 9 4), (oP 10 (.bin false .add (.t 9) (cI 1))), (oV 4 10)])))
abbrev Qwb : Sh := ⟨[(0, .ty (.sl Qab)), (3, .ms 3), (4, .ty tI)], [(3, .arr 98 Qab), (18, .no)]⟩
def QoN (x0 : List Qaa) (x4 : Int) (y3 : List Qaa) : VS := Qwb.st (x0, (), x4, ()) (y3, (), ())
abbrev Qux : Sh := ⟨[(3, .ms 3)], [(3, .arr 98 Qab), (18, .no)]⟩
def Qeo (y3 : List Qaa) : VS := Qux.st ((), ()) (y3, (), ())
def QRl : VS → Option (Bool × List (Bool × Exit × VS)) := mkL Qwb (fun x y => (decide (0 ≤ x.2.2.1 ∧ x.2.2.1 ≤ x.1.length ∧ y.1.length ≤ x.2.2.1.toNat) && QaO x.1)) (fun x y => [(true, .exit 0, Qeo (y.1 ++ x.1.drop x.2.2.1.toNat))])
def g_f53 : G := ⟨TYs, [], 20, EL [(86, QAz)], keeps, (Ls [QRl]), IL [], RL []⟩
def QGG (x0 : List Qaa) (x4 : Int) (y3 : List Qaa) : Option (Exit × VS) :=
 let a1 := (((copyC (lgt Qab x0 (Int.toNat x4))).2).2)
 let a2 := ((copyC (lgt Qab x0 (Int.toNat x4))).1, (((copyC (lgt Qab x0 (Int.toNat x4))).2).1, (a1.1, ((((a1.2).1).1, ((((a1.2).1).2).1, ())), (((a1.2).2).1, ((((((a1.2).2).2).1).1, ((((((a1.2).2).2).1).2).1, ())), (((((a1.2).2).2).2).1, ((((((a1.2).2).2).2).2).1, (((((((a1.2).2).2).2).2).2).1, ((((((((a1.2).2).2).2).2).2).2).1, (((((((((a1.2).2).2).2).2).2).2).2).1, ((((((((((((a1.2).2).2).2).2).2).2).2).2).1).1, ((((((((((((a1.2).2).2).2).2).2).2).2).2).1).2).1, ())), ()))))))))))))
 br (ilt x4 (llen x0)) (br (cIx x0 x4) (br (QaB (lgt Qab x0 (Int.toNat x4))) (br (cApp y3 ([a2]) 152) (some (.normal, QoN x0 (iadd .i64 x4 1) (y3 ++ ([a2])))) none) none) none) (some (.exit 0, Qeo y3))
noncomputable def QkV (x0 : List Qaa) (x4 : Int) (y3 : List Qaa) : Option (Exit × VS) := loopF (Qai g_f53 QxF Qv3) (QoN x0 x4 y3)
noncomputable def Qp2 (x0 : List Qaa) (x4 : Int) (y3 : List Qaa) : Option (Exit × VS) :=
 let a1 := (((copyC (lgt Qab x0 (Int.toNat x4))).2).2)
 let a2 := ((copyC (lgt Qab x0 (Int.toNat x4))).1, (((copyC (lgt Qab x0 (Int.toNat x4))).2).1, (a1.1, ((((a1.2).1).1, ((((a1.2).1).2).1, ())), (((a1.2).2).1, ((((((a1.2).2).2).1).1, ((((((a1.2).2).2).1).2).1, ())), (((((a1.2).2).2).2).1, ((((((a1.2).2).2).2).2).1, (((((((a1.2).2).2).2).2).2).1, ((((((((a1.2).2).2).2).2).2).2).1, (((((((((a1.2).2).2).2).2).2).2).2).1, ((((((((((((a1.2).2).2).2).2).2).2).2).2).1).1, ((((((((((((a1.2).2).2).2).2).2).2).2).2).1).2).1, ())), ()))))))))))))
 br (ilt x4 (llen x0)) (br (cIx x0 x4) (br (QaB (lgt Qab x0 (Int.toNat x4))) (br (cApp y3 ([a2]) 152) (QkV x0 (iadd .i64 x4 1) (y3 ++ ([a2]))) none) none) none) (some (.exit 0, Qeo y3))
def Qlb (x0 : List Qaa) (x4 : Int) (y3 : List Qaa) : Option (Exit × VS) := some (.exit 0, Qeo (y3 ++ x0.drop x4.toNat))
theorem QJX (x0 : List Qaa) (x4 : Int) (y3 : List Qaa) : Qai g_f53 QxF Qv3 (QoN x0 x4 y3) = QGG x0 x4 y3 := by kernel_rfl
theorem QwM (x0 : List Qaa) (x4 : Int) (y3 : List Qaa) : QkV x0 x4 y3 = Qp2 x0 x4 y3 := (Qap _ _).trans (by
 rw [QJX]
 simp only [QGG, Qp2, QaE, nxt_n, nxt_r, nxt_e, nxt_0]
 rfl)
theorem l_f53_0 (x0 : List Qaa) (x4 : Int) (y3 : List Qaa) (h : (decide (0 ≤ x4 ∧ x4 ≤ x0.length ∧ y3.length ≤ x4.toNat) && QaO x0) = true) : QkV x0 x4 y3 = Qlb x0 x4 y3 := by
 simp only [QaO, Bool.and_eq_true, decide_eq_true_eq, List.all_eq_true] at h
 obtain ⟨⟨h0, h1, h2⟩, h3, hc⟩ := h
 obtain ⟨k, rfl⟩ := Int.eq_ofNat_of_zero_le h0
 rw [Int.toNat_natCast] at h2
 revert y3
 refine Qav x0 (fun k => ∀ y3 : List Qaa, y3.length ≤ k → QkV x0 (k : Int) y3 = Qlb x0 (k : Int) y3) ?_ ?_ k (by omega)
 ·intro y3 _
  rw [QwM]
  simp only [Qp2, Qlb, show ilt (x0.length : Int) (llen x0) = false from decide_eq_false (by simp only [llen]; omega), Qae, Int.toNat_natCast, List.drop_length, List.append_nil]
 ·intro k hk ih y3 hy
  rw [QwM]
  have hx := hc x0[k] (List.getElem_mem hk)
  simp only [Qp2, show ilt (k : Int) (llen x0) = true from decide_eq_true (by simp only [llen]; omega), QaA, hk, decide_true, Qac, Int.toNat_natCast, add1 (show k < 4611686018427387904 by omega), QaF (y := Qab) hk, hx]
  rw [cAppN (by omega) (by simp only [List.length_singleton]; omega), Qac, ih _ (by simp only [List.length_append, List.length_singleton]; omega)]
  simp only [Qlb, Int.toNat_natCast, List.drop_eq_getElem_cons hk, List.append_assoc, List.singleton_append, copyC]
def Qjl (key : Keep) (id : Int) (l : List Qaa) : Bool := ieq (llen l) 0 || (((l.getD 0 zCert).2.2.2.1 == key) && ieq (l.getD 0 zCert).2.2.2.2.1 id)
def Qgw (key : Keep) (id : Int) (l : List Qaa) : Bool := Qcw key && (!ine (kindF key.1) 2 && (keyI id && (!igt (llen l) 8 && (l.all QaC && Qjl key id l))))
def Qmd (_key : Keep) (_id : Int) (l : List Qaa) : Bool := QaO l
theorem QyT (key : Keep) (id : Int) (l : List Qaa) : br (ieq (llen l) 0) (some (V.t .bool true, ([] : List VO))) (br (cIx l 0) (br ((lgt Qab l 0).2.2.2.1 == key) (br (cIx l 0) (some (V.t .bool (ieq (lgt Qab l 0).2.2.2.2.1 id), [])) none) (some (V.t .bool false, []))) none) = some (V.t .bool (Qjl key id l), []) := by
 unfold Qjl
 cases l with
 | nil => rfl
 | cons c l =>
  have h1 : ieq (llen (c :: l)) 0 = false := by
   simp only [ieq, llen, List.length_cons, beq_eq_false_iff_ne]
   omega
  have h2 : cIx (c :: l) 0 = true := by simp only [cIx, List.length_cons, decide_eq_true_eq]; omega
  rw [h1, Qae, h2, Qac, Bool.false_or, Qac]
  show br (c.2.2.2.1 == key) _ _ = some (V.t .bool ((c.2.2.2.1 == key) && ieq c.2.2.2.2.1 id), [])
  cases c.2.2.2.1 == key <;> rfl
noncomputable def QJn : List DO := dT Tryz.f78 9
def Qip : Fg := ⟨[(1, some tI), (2, some (.sl Qab)), (3, none), (28, some (.sl Qab)), (29, some tI), (30, some tI)], [(3, some Qaj)]⟩
noncomputable def Qj8 : TC := (.sq (.reg (rT Tryz.f78 4)) (.sq (.cd (.t 31) .sk (.fg ⟨[(1, some tI), (2, some (.sl Qab)), (3, none)], [(3, some Qaj)]⟩ (.ex 0))) (.sq (.bk 1 (.sq (.reg (rT Tryz.f78 5)) (.sq (.reg (rT Tryz.f78 6)) (.cd (.t 36) (.sq (.reg (rT Tryz.f78 7)) (.fg ⟨[(6, some .bool)], []⟩ .rt)) .sk)))) (.reg (rT Tryz.f78 8)))))
noncomputable def QzG : TC := (.sq (.reg (rT Tryz.f78 0)) (.sq (.sq (.reg (rT Tryz.f78 1)) (.cd (.t 27) (.sq (.reg (rT Tryz.f78 2)) .rt) .sk)) (.sq (.sq (.reg (rT Tryz.f78 3)) (.bk 0 (.lp 0 Qip Qj8))) (.sq (.dr QJn [(0, []), (1, []), (2, []), (3, []), (4, []), (5, []), (6, []), (7, []), (8, [3]), (9, []), (10, []), (11, []), (12, []), (13, []), (14, []), (15, []), (16, []), (17, []), (18, []), (19, [])] (.of [0, 1, 2, 3, 4, 5, 6, 7, 8, 9, 10, 11, 12, 13, 14, 15, 16, 17, 18, 19])) .rt))))
def QLy : List (RV × Option Ty) := [((.t 6), some .bool)]
abbrev Qo5 : Sh := ⟨[(1, .ty tI), (2, .ty (.sl Qab)), (3, .ptr 3 0), (28, .ty (.sl Qab)), (29, .ty tI), (30, .ty tI)], [(3, .box Qaj)]⟩
def QoJ (x1 : Int) (x2 x28 : List Qaa) (x29 x30 : Int) (y3 : Keep) : VS := Qo5.st (x1, x2, (), x28, x29, x30, ()) (y3, ())
abbrev Qrf : Sh := ⟨[(6, .ty .bool)], []⟩
def Qda (x6 : Bool) : VS := Qrf.st (x6, ()) ()
abbrev Qur : Sh := ⟨[(1, .ty tI), (2, .ty (.sl Qab)), (3, .ptr 3 0)], [(3, .box Qaj)]⟩
def Qei (x1 : Int) (x2 : List Qaa) (y3 : Keep) : VS := Qur.st (x1, x2, (), ()) (y3, ())
def QRf : VS → Option (Bool × List (Bool × Exit × VS)) := mkL Qo5 (fun x y => (rngOk x.2.2.2.1 x.2.2.2.2.1 x.2.2.2.2.2.1 && QaO x.2.2.2.1)) (fun x y => [((!(x.2.2.2.1.drop x.2.2.2.2.2.1.toNat).all QaC), .ret, Qda (false)), (true, .exit 0, Qei (x.1) (x.2.1) (y.1))])
def g_f78 : G := ⟨TYs, [], 57, EL [(62, QAB), (82, Qv5), (107, Quj), (108, QoY)], keeps, (Ls [QRf]), IL [], RL []⟩
def QGA (x1 : Int) (x2 x28 : List Qaa) (x29 x30 : Int) (y3 : Keep) : Option (Exit × VS) :=
 let a1 := lgt Qab x28 (Int.toNat x30)
 br (ilt x30 x29) (br (cIx x28 x30) (br (QaB a1) (br (ine (Qd9 a1) 0) (some (.ret, Qda false)) (some (.normal, QoJ x1 x2 x28 x29 (iadd .i64 x30 1) y3))) none) none) (some (.exit 0, Qei x1 x2 y3))
noncomputable def QkR (x1 : Int) (x2 x28 : List Qaa) (x29 x30 : Int) (y3 : Keep) : Option (Exit × VS) := loopF (Qai g_f78 Qip Qj8) (QoJ x1 x2 x28 x29 x30 y3)
noncomputable def QpX (x1 : Int) (x2 x28 : List Qaa) (x29 x30 : Int) (y3 : Keep) : Option (Exit × VS) :=
 let a1 := lgt Qab x28 (Int.toNat x30)
 br (ilt x30 x29) (br (cIx x28 x30) (br (QaB a1) (br (ine (Qd9 a1) 0) (some (.ret, Qda false)) (QkR x1 x2 x28 x29 (iadd .i64 x30 1) y3)) none) none) (some (.exit 0, Qei x1 x2 y3))
def Qk6 (x1 : Int) (x2 x28 : List Qaa) (x29 x30 : Int) (y3 : Keep) : Option (Exit × VS) := br (!(x28.drop x30.toNat).all QaC) (some (.ret, Qda (false))) <| some (.exit 0, Qei (x1) (x2) (y3))
theorem QJR (x1 : Int) (x2 x28 : List Qaa) (x29 x30 : Int) (y3 : Keep) : Qai g_f78 Qip Qj8 (QoJ x1 x2 x28 x29 x30 y3) = QGA x1 x2 x28 x29 x30 y3 := by kernel_rfl
theorem QwF (x1 : Int) (x2 x28 : List Qaa) (x29 x30 : Int) (y3 : Keep) : QkR x1 x2 x28 x29 x30 y3 = QpX x1 x2 x28 x29 x30 y3 := (Qap _ _).trans (by
 rw [QJR]
 simp only [QGA, QpX, QaE, nxt_n, nxt_r, nxt_e, nxt_0]
 rfl)
def r_f78 (p0 : Keep) (p1 : Int) (p2 : List Qaa) : Option (V × List VO) :=
 let a1 := ((((lgt Qab (p2) (Int.toNat 0)).2).2).2)
 br (!(Qcw p0)) (some (.t .bool false, [])) (br (ine (kindF p0.1) 2) (some (.t .bool false, [])) (br (!(keyI p1)) (some (.t .bool false, [])) (br (igt (llen p2) 8) (some (.t .bool false, [])) (br (rngOk p2 (llen p2) (0 : Int) && QaO p2) (br (!(p2.drop (0 : Int).toNat).all QaC) (some (.t .bool (false), [])) (br (ieq (llen (p2)) 0) (some (.t .bool true, [])) (br (cIx (p2) 0) (br (and (ieq ((a1.1).1) ((p0).1)) (and (ieq (((a1.1).2).1) (((p0).2).1)) true)) (br (cIx (p2) 0) (some (.t .bool (ieq ((a1.2).1) (p1)), [])) none) (some (.t .bool false, []))) none))) none))))
theorem e_f78 (p0 : Keep) (p1 : Int) (p2 : List Qaa) : runF g_f78 QzG QLy false [.t Qaj p0, .t tI p1, .t (.sl Qab) p2] [] = r_f78 p0 p1 p2 := by kernel_rfl
theorem en_f78 : Qag Tryz.prog 78 := .inr ⟨by decide, _, Tryz.func78, by kernel_rfl, by kernel_rfl⟩
theorem gk_f78 : GOk Tryz.prog g_f78 := Qal _ (gA (gC QMP QMw (gC QFc QDw (gC QFE QDP (gC QvK Qvg gN)))))
theorem QPa (x1 : Int) (x2 x28 : List Qaa) (x29 x30 : Int) (y3 : Keep) (h : (rngOk x28 x29 x30 && QaO x28) = true) : QkR x1 x2 x28 x29 x30 y3 = Qk6 x1 x2 x28 x29 x30 y3 := by
 simp only [Bool.and_eq_true] at h
 obtain ⟨h0, hc⟩ := h
 obtain ⟨rfl, h3, k, rfl, hk⟩ := rng_k h0
 clear h0
 simp only [QaO, Bool.and_eq_true, List.all_eq_true] at hc
 refine Qav x28 (fun k => QkR x1 x2 x28 (x28.length : Int) (k : Int) y3 = Qk6 x1 x2 x28 (x28.length : Int) (k : Int) y3) ?_ ?_ k hk
 ·rw [QwF]
  simp only [QpX, Qk6, Qaz, Nat.lt_irrefl, decide_false, Qae, Int.toNat_natCast, List.drop_length, List.all_nil, Bool.not_true]
 ·intro k hk ih
  rw [QwF]
  have hx := hc.2 x28[k] (List.getElem_mem hk)
  simp only [QpX, Qaz, QaA, hk, decide_true, Qac, Int.toNat_natCast, add1 (show k < 4611686018427387904 by omega), QaF (y := Qab) hk, hx, QfV, ih]
  simp only [Qk6, Int.toNat_natCast, List.drop_eq_getElem_cons hk, List.all_cons]
  cases QaC x28[k] <;> rfl
theorem QH0 : ∀ S l p, g_f78.L 0 (fgt Qip S) = some (true, l) → pickA l = some p → loopF (Qai g_f78 Qip Qj8) S = some p :=
 QaG (s := Qo5) ⟨by decide, by decide⟩ (by kernel_rfl) fun x y hok p hp => by
 simp only [Qas, Qao] at hp
 exact (QPa x.1 x.2.1 x.2.2.2.1 x.2.2.2.2.1 x.2.2.2.2.2.1 y.1 (by simpa using hok)).trans hp
theorem lk_f78 : QzG.lok g_f78 := by
 repeat (first | exact trivial | exact QH0 | refine ⟨?_, ?_⟩)
theorem s_f78 (key : Keep) (id : Int) (l : List Qaa) (h : Qmd key id l = true) : r_f78 key id l = some (.t .bool (Qgw key id l), []) := by
 have h : QaO l = true := h
 have hl : l.length ≤ 100000 := by simp only [QaO, Bool.and_eq_true, decide_eq_true_eq] at h; exact h.1
 simp only [r_f78, rng_0 hl, h, Bool.and_self, Qac, Int.toNat_zero, List.drop_zero, QPs]
 unfold Qgw
 refine (brB <| brB <| brB <| brB <| brB (QyT key id l)).trans ?_
 simp only [Bool.not_not]
def QKN : Ent := spec (.pr Qaj (.pr tI (.pr (.sl Qab) .nil))) (fun x => (Qmd x.1 x.2.1 x.2.2.1)) (fun x => (.t .bool (Qgw x.1 x.2.1 x.2.2.1)))
theorem ms_f78 : Meets Tryz.prog 78 (strip QKN) := Qaf (R := runF g_f78 QzG QLy false) (mG Tryz.func78 (by kernel_rfl) Tryz.ntmps78 (by kernel_rfl) gk_f78 lk_f78) fun x hok => (e_f78 x.1 x.2.1 x.2.2.1).trans (s_f78 x.1 x.2.1 x.2.2.1 hok)
end
end Go.Proofs.YtkngeegkjhipeaaGreat.K
