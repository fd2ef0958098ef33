import Derived.Test.YtkngeegkjhipeaaGreatN8
set_option linter.unusedSimpArgs false
set_option linter.unusedVariables false
namespace Go.Proofs.YtkngeegkjhipeaaGreat.K
open Go.RowKit
noncomputable section
def Qbg (c : Qaa) : List Int × Int := bif QaC c then encE (bodyT c) else ([], 9)
theorem QFZ {c : Qaa} (h : QaC c = true) : Qbg c = (encT (bodyT c), 0) := by
 have := Qqv h
 rw [Qbg, h, cond_true, encE, if_neg (by omega)]
theorem Qy0 (c : Qaa) : (Qbg c).1.length ≤ 1000 := by
 cases h : QaC c with
 | true =>
  rw [QFZ h]
  exact Qqv h
 | false =>
  rw [Qbg, h]
  simp
noncomputable def QtW : TC := (.sq (.reg (rT Tryz.f118 0)) (.sq (.sq (.reg (rT Tryz.f118 1)) (.cd (.t 6) (.sq (.reg (rT Tryz.f118 2)) .rt) .sk)) (.sq (.reg (rT Tryz.f118 3)) .rt)))
def QB0 : List (RV × Option Ty) := [((.t 2), some (.sl (.int .u8))), ((.t 3), some tI)]
def Qxl : G := ⟨TYs, [], 12, EL [(91, QAt), (138, QA0), (139, QAZ)], keeps, (fun _ _ => none), IL [], RL []⟩
def Qwm (p0 : Qaa) : Option (V × List VO) := br (QaB p0) (br (!(QaC p0)) (some (.tu [(.t (.sl (.int .u8)) ([] : List Int)), (.t tI 9)], [])) (br (Qe7 p0) (br (encOk (bodyT p0)) (some (.tu [(.t (.sl (.int .u8)) ((encE (bodyT p0)).1)), (.t tI ((encE (bodyT p0)).2))], [])) none) none)) none
theorem e_f118 (p0 : Qaa) : runF Qxl QtW QB0 false [.t Qab p0] [] = Qwm p0 := by kernel_rfl
theorem QQM : Qag Tryz.prog 118 := .inr ⟨by decide, _, Tryz.func118, by kernel_rfl, by kernel_rfl⟩
theorem QP9 : GOk Tryz.prog Qxl := Qan _ (gA (gC QMN QMw (gC QQF QNT (gC QQE QNS gN))))
theorem QOU : QtW.lok Qxl := by repeat (first | exact trivial | refine ⟨?_, ?_⟩)
theorem s_f118 (c : Qaa) (h : QaB c = true) : Qwm c = some (.tu [.t (.sl (.int .u8)) (Qbg c).1, .t tI (Qbg c).2], []) := by
 unfold Qbg
 cases hv : QaC c with
 | true => simp only [Qwm, h, hv, QML hv, show Qe7 c = true from by rw [Qe7, h, hv]; rfl, Bool.not_true, Qac, Qae, cond_true]
 | false => simp only [Qwm, h, hv, Bool.not_false, Qac, cond_false]
def QA7 : Ent := spec (.pr Qab .nil) (fun x => (QaB x.1)) (fun x => (.tu [(.t (.sl (.int .u8)) ((Qbg x.1).1)), (.t tI ((Qbg x.1).2))]))
theorem QN0 : Meets Tryz.prog 118 (strip QA7) := Qaf (R := runF Qxl QtW QB0 false) (mG Tryz.func118 (by kernel_rfl) Tryz.ntmps118 (by kernel_rfl) QP9 QOU) fun x hok => (e_f118 x.1).trans (s_f118 x.1 hok)
noncomputable def Qt5 : TC := (.sq (.reg (rT Tryz.f109 0)) (.sq (.sq (.reg (rT Tryz.f109 1)) (.cd (.t 6) (.sq (.reg (rT Tryz.f109 2)) .rt) .sk)) (.sq (.reg (rT Tryz.f109 3)) .rt)))
def QB9 : List (RV × Option Ty) := [((.t 2), some (.sl (.int .u8))), ((.t 3), some tI)]
def Qxq : G := ⟨TYs, [], 12, EL [(97, QAs), (136, QA2), (137, QA1)], keeps, (fun _ _ => none), IL [], RL []⟩
def Qwn (p0 : Qaa) : Option (V × List VO) := br (QaB p0) (br (ine (Qd6 p0) 0) (some (.tu [(.t (.sl (.int .u8)) ([] : List Int)), (.t tI 9)], [])) (br (Qe7 p0) (br (encOk (bodyT p0)) (some (.tu [(.t (.sl (.int .u8)) ((encE (bodyT p0)).1)), (.t tI ((encE (bodyT p0)).2))], [])) none) none)) none
theorem e_f109 (p0 : Qaa) : runF Qxq Qt5 QB9 false [.t Qab p0] [] = Qwn p0 := by kernel_rfl
theorem QQU : Qag Tryz.prog 109 := .inr ⟨by decide, _, Tryz.func109, by kernel_rfl, by kernel_rfl⟩
theorem QQi : GOk Tryz.prog Qxq := Qan _ (gA (gC QMM QMv (gC QQH QNV (gC QQG QNU gN))))
theorem QO3 : Qt5.lok Qxq := by repeat (first | exact trivial | refine ⟨?_, ?_⟩)
theorem s_f109 (c : Qaa) (h : QaB c = true) : Qwn c = some (.tu [.t (.sl (.int .u8)) (Qbg c).1, .t tI (Qbg c).2], []) := by
 unfold Qbg
 cases hv : QaC c with
 | true => simp only [Qwn, h, hv, QfU, QML hv, show Qe7 c = true from by rw [Qe7, h, hv]; rfl, Bool.not_true, Qac, Qae, cond_true]
 | false => simp only [Qwn, h, hv, QfU, Bool.not_false, Qac, cond_false]
def QBf : Ent := spec (.pr Qab .nil) (fun x => (QaB x.1)) (fun x => (.tu [(.t (.sl (.int .u8)) ((Qbg x.1).1)), (.t tI ((Qbg x.1).2))]))
theorem QN8 : Meets Tryz.prog 109 (strip QBf) := Qaf (R := runF Qxq Qt5 QB9 false) (mG Tryz.func109 (by kernel_rfl) Tryz.ntmps109 (by kernel_rfl) QQi QO3) fun x hok => (e_f109 x.1).trans (s_f109 x.1 hok)
def stepS (s x : Int) : Int := imul .u32 (ibxor .u32 s (icv .u32 x)) 16777619
def sumB (b : List Int) : Int := icv .i64 (b.foldl stepS 2166136261)
def lenB (b : List Int) : Bool := decide (b.length ≤ 100000)
def QfP : Fg := ⟨[(3, some (.int .u32)), (6, some (.sl (.int .u8))), (7, some tI), (8, some tI)], []⟩
noncomputable def Qhn : TC := (.sq (.reg (rT Tryz.f119 3)) (.sq (.cd (.t 9) .sk (.fg ⟨[(3, some (.int .u32))], []⟩ (.ex 0))) (.sq (.bk 1 (.sq (.reg (rT Tryz.f119 4)) (.reg (rT Tryz.f119 5)))) (.reg (rT Tryz.f119 6)))))
noncomputable def QtV : TC := (.sq (.reg (rT Tryz.f119 0)) (.sq (.reg (rT Tryz.f119 1)) (.sq (.sq (.reg (rT Tryz.f119 2)) (.bk 0 (.lp 0 QfP Qhn))) (.sq (.reg (rT Tryz.f119 7)) .rt))))
def QBZ : List (RV × Option Ty) := [((.t 2), some tI)]
abbrev Qmz : Sh := ⟨[(3, .ty (.int .u32)), (6, .ty (.sl (.int .u8))), (7, .ty tI), (8, .ty tI)], []⟩
def Ql4 (x3 : Int) (x6 : List Int) (x7 x8 : Int) : VS := Qmz.st (x3, x6, x7, x8, ()) ()
abbrev QrF : Sh := ⟨[(3, .ty (.int .u32))], []⟩
def Qdt (x3 : Int) : VS := QrF.st (x3, ()) ()
def QKt : VS → Option (Bool × List (Bool × Exit × VS)) := mkL Qmz (fun x y => (rngOk x.2.1 x.2.2.1 x.2.2.2.1)) (fun x y => [(true, .exit 0, Qdt ((x.2.1.drop x.2.2.2.1.toNat).foldl stepS x.1))])
def QjW : G := ⟨TYs, [], 20, EL [], keeps, (Ls [QKt]), IL [], RL []⟩
def Qya (x3 : Int) (x6 : List Int) (x7 x8 : Int) : Option (Exit × VS) := br (ilt x8 x7) (br (cIx x6 x8) (some (.normal, Ql4 (imul .u32 (ibxor .u32 x3 (icv .u32 (lgt (.int .u8) x6 (Int.toNat x8)))) 16777619) x6 x7 (iadd .i64 x8 1))) none) (some (.exit 0, Qdt x3))
noncomputable def QhW (x3 : Int) (x6 : List Int) (x7 x8 : Int) : Option (Exit × VS) := loopF (Qaj QjW QfP Qhn) (Ql4 x3 x6 x7 x8)
noncomputable def QkM (x3 : Int) (x6 : List Int) (x7 x8 : Int) : Option (Exit × VS) := br (ilt x8 x7) (br (cIx x6 x8) (QhW (imul .u32 (ibxor .u32 x3 (icv .u32 (lgt (.int .u8) x6 (Int.toNat x8)))) 16777619) x6 x7 (iadd .i64 x8 1)) none) (some (.exit 0, Qdt x3))
def Qie (x3 : Int) (x6 : List Int) (x7 x8 : Int) : Option (Exit × VS) := some (.exit 0, Qdt ((x6.drop x8.toNat).foldl stepS x3))
theorem QGn (x3 : Int) (x6 : List Int) (x7 x8 : Int) : Qaj QjW QfP Qhn (Ql4 x3 x6 x7 x8) = Qya x3 x6 x7 x8 := by kernel_rfl
theorem QsA (x3 : Int) (x6 : List Int) (x7 x8 : Int) : QhW x3 x6 x7 x8 = QkM x3 x6 x7 x8 := (Qaq _ _).trans (by
 rw [QGn]
 simp only [Qya, QkM, QaE, nxt_n, nxt_r, nxt_e, nxt_0]
 rfl)
def QCV (p0 : List Int) : Option (V × List VO) := br (rngOk p0 (llen p0) (0 : Int)) (some (.t tI (icv .i64 ((p0.drop (0 : Int).toNat).foldl stepS (2166136261 : Int))), [])) none
theorem e_f119 (p0 : List Int) : runF QjW QtV QBZ false [.t (.sl (.int .u8)) p0] [] = QCV p0 := by kernel_rfl
theorem QQL : Qag Tryz.prog 119 := .inr ⟨by decide, _, Tryz.func119, by kernel_rfl, by kernel_rfl⟩
theorem QP8 : GOk Tryz.prog QjW := Qan _ (fun p hp => by cases hp)
theorem QIy (x3 : Int) (x6 : List Int) (x7 x8 : Int) (h : (rngOk x6 x7 x8) = true) : QhW x3 x6 x7 x8 = Qie x3 x6 x7 x8 := by
 obtain ⟨rfl, h3, k, rfl, hk⟩ := rng_k h
 clear h
 revert x3
 refine Qav x6 (fun k => ∀ x3 : Int, QhW x3 x6 (x6.length : Int) (k : Int) = Qie x3 x6 (x6.length : Int) (k : Int)) ?_ ?_ k hk
 ·intro x3
  rw [QsA]
  simp only [QkM, Qie, Qaz, Nat.lt_irrefl, decide_false, Qae, Int.toNat_natCast, List.drop_length, List.foldl_nil]
 ·intro k hk ih x3
  rw [QsA]
  simp only [QkM, Qaz, Qay, hk, decide_true, Qac, Int.toNat_natCast, add1 (show k < 4611686018427387904 by omega), QaG (y := .int .u8) hk, ih]
  simp only [Qie, Int.toNat_natCast, List.drop_eq_getElem_cons hk, List.foldl_cons, stepS]
theorem QEa : ∀ S l p, QjW.L 0 (fgt QfP S) = some (true, l) → pickA l = some p → loopF (Qaj QjW QfP Qhn) S = some p :=
 QaF (s := Qmz) ⟨by decide, by decide⟩ (by kernel_rfl) fun x y hok p hp => by
 simp only [Qas, Qap] at hp
 exact (QIy x.1 x.2.1 x.2.2.1 x.2.2.2.1 (by simpa using hok)).trans hp
theorem QOT : QtV.lok QjW := by
 repeat (first | exact trivial | exact QEa | refine ⟨?_, ?_⟩)
theorem s_f119 (b : List Int) (h : lenB b = true) : QCV b = some (.t tI (sumB b), []) := by
 simp only [lenB, decide_eq_true_eq] at h
 simp only [QCV, rng_0 h, Qac, Int.toNat_zero, List.drop_zero]
 rfl
def QA6 : Ent := spec (.pr (.sl (.int .u8)) .nil) (fun x => (lenB x.1)) (fun x => (.t tI (sumB x.1)))
theorem QNZ : Meets Tryz.prog 119 (strip QA6) := Qaf (R := runF QjW QtV QBZ false) (mG Tryz.func119 (by kernel_rfl) Tryz.ntmps119 (by kernel_rfl) QP8 QOT) fun x hok => (e_f119 x.1).trans (s_f119 x.1 hok)
def QfT : Fg := ⟨[(0, some (.sl (.int .u8))), (3, some (.int .u32)), (4, some tI)], []⟩
noncomputable def Qhr : TC := (.sq (.sq (.reg (rT Tryz.f110 3)) (.cd (.t 8) .sk (.fg ⟨[(3, some (.int .u32))], []⟩ (.ex 0)))) (.sq (.bk 1 (.reg (rT Tryz.f110 4))) (.reg (rT Tryz.f110 5))))
noncomputable def Qt4 : TC := (.sq (.reg (rT Tryz.f110 0)) (.sq (.reg (rT Tryz.f110 1)) (.sq (.sq (.reg (rT Tryz.f110 2)) (.bk 0 (.lp 0 QfT Qhr))) (.sq (.reg (rT Tryz.f110 6)) .rt))))
def QB8 : List (RV × Option Ty) := [((.t 2), some tI)]
abbrev QmD : Sh := ⟨[(0, .ty (.sl (.int .u8))), (3, .ty (.int .u32)), (4, .ty tI)], []⟩
def Ql7 (x0 : List Int) (x3 x4 : Int) : VS := QmD.st (x0, x3, x4, ()) ()
abbrev QrJ : Sh := ⟨[(3, .ty (.int .u32))], []⟩
def Qdx (x3 : Int) : VS := QrJ.st (x3, ()) ()
def QKx : VS → Option (Bool × List (Bool × Exit × VS)) := mkL QmD (fun x y => (idxOk x.1 x.2.2.1)) (fun x y => [(true, .exit 0, Qdx ((x.1.drop x.2.2.1.toNat).foldl stepS x.2.1))])
def Qj0 : G := ⟨TYs, [], 21, EL [], keeps, (Ls [QKx]), IL [], RL []⟩
def Qye (x0 : List Int) (x3 x4 : Int) : Option (Exit × VS) := br (ilt x4 (llen x0)) (br (cIx x0 x4) (some (.normal, Ql7 x0 (imul .u32 (ibxor .u32 x3 (icv .u32 (lgt (.int .u8) x0 (Int.toNat x4)))) 16777619) (iadd .i64 x4 1))) none) (some (.exit 0, Qdx x3))
noncomputable def QhZ (x0 : List Int) (x3 x4 : Int) : Option (Exit × VS) := loopF (Qaj Qj0 QfT Qhr) (Ql7 x0 x3 x4)
noncomputable def QkQ (x0 : List Int) (x3 x4 : Int) : Option (Exit × VS) := br (ilt x4 (llen x0)) (br (cIx x0 x4) (QhZ x0 (imul .u32 (ibxor .u32 x3 (icv .u32 (lgt (.int .u8) x0 (Int.toNat x4)))) 16777619) (iadd .i64 x4 1)) none) (some (.exit 0, Qdx x3))
def Qii (x0 : List Int) (x3 x4 : Int) : Option (Exit × VS) := some (.exit 0, Qdx ((x0.drop x4.toNat).foldl stepS x3))
theorem QGr (x0 : List Int) (x3 x4 : Int) : Qaj Qj0 QfT Qhr (Ql7 x0 x3 x4) = Qye x0 x3 x4 := by kernel_rfl
theorem QsE (x0 : List Int) (x3 x4 : Int) : QhZ x0 x3 x4 = QkQ x0 x3 x4 := (Qaq _ _).trans (by
 rw [QGr]
 simp only [Qye, QkQ, QaE, nxt_n, nxt_r, nxt_e, nxt_0]
 rfl)
def QC3 (p0 : List Int) : Option (V × List VO) := br (idxOk p0 (0 : Int)) (some (.t tI (icv .i64 ((p0.drop (0 : Int).toNat).foldl stepS (2166136261 : Int))), [])) none
theorem e_f110 (p0 : List Int) : runF Qj0 Qt4 QB8 false [.t (.sl (.int .u8)) p0] [] = QC3 p0 := by kernel_rfl
theorem QQT : Qag Tryz.prog 110 := .inr ⟨by decide, _, Tryz.func110, by kernel_rfl, by kernel_rfl⟩
theorem QQh : GOk Tryz.prog Qj0 := Qan _ (fun p hp => by cases hp)
theorem QIC (x0 : List Int) (x3 x4 : Int) (h : (idxOk x0 x4) = true) : QhZ x0 x3 x4 = Qii x0 x3 x4 := by
 simp only [idxOk, decide_eq_true_eq] at h
 obtain ⟨h0, h1, h2⟩ := h
 obtain ⟨k, rfl⟩ := Int.eq_ofNat_of_zero_le h0
 revert x3
 refine Qav x0 (fun k => ∀ x3 : Int, QhZ x0 x3 (k : Int) = Qii x0 x3 (k : Int)) ?_ ?_ k (by omega)
 ·intro x3
  rw [QsE]
  simp only [QkQ, Qii, show ilt (x0.length : Int) (llen x0) = false from decide_eq_false (by simp only [llen]; omega), Qae, Int.toNat_natCast, List.drop_length, List.foldl_nil]
 ·intro k hk ih x3
  rw [QsE]
  simp only [QkQ, show ilt (k : Int) (llen x0) = true from decide_eq_true (by simp only [llen]; omega), Qay, hk, decide_true, Qac, Int.toNat_natCast, add1 (show k < 4611686018427387904 by omega), QaG (y := .int .u8) hk, ih]
  simp only [Qii, Int.toNat_natCast, List.drop_eq_getElem_cons hk, List.foldl_cons, stepS]
theorem QEe : ∀ S l p, Qj0.L 0 (fgt QfT S) = some (true, l) → pickA l = some p → loopF (Qaj Qj0 QfT Qhr) S = some p :=
 QaF (s := QmD) ⟨by decide, by decide⟩ (by kernel_rfl) fun x y hok p hp => by
 simp only [Qas, Qap] at hp
 exact (QIC x.1 x.2.1 x.2.2.1 (by simpa using hok)).trans hp
theorem QO2 : Qt4.lok Qj0 := by
 repeat (first | exact trivial | exact QEe | refine ⟨?_, ?_⟩)
theorem s_f110 (b : List Int) (h : lenB b = true) : QC3 b = some (.t tI (sumB b), []) := by
 simp only [lenB, decide_eq_true_eq] at h
 simp only [QC3, show idxOk b 0 = true from decide_eq_true (by omega), Qac, Int.toNat_zero, List.drop_zero]
 rfl
def QBe : Ent := spec (.pr (.sl (.int .u8)) .nil) (fun x => (lenB x.1)) (fun x => (.t tI (sumB x.1)))
theorem QN7 : Meets Tryz.prog 110 (strip QBe) := Qaf (R := runF Qj0 Qt4 QB8 false) (mG Tryz.func110 (by kernel_rfl) Tryz.ntmps110 (by kernel_rfl) QQh QO2) fun x hok => (e_f110 x.1).trans (s_f110 x.1 hok)
theorem QMG (c : Qaa) : lenB (Qbg c).1 = true := decide_eq_true (by have := Qy0 c; omega)
def Qi6 (c : Qaa) (k : Int) : Bool := ieq (Qbg c).2 0 && (ieq (cSeal c).1 k && ieq (cSeal c).2.1 (sumB (Qbg c).1))
def Qbu (c : Qaa) (_k : Int) : Bool := QaB c
noncomputable def QJl : List DO := dT Tryz.f94 2
noncomputable def Qzq : TC := (.sq (.reg (rT Tryz.f94 0)) (.sq (.reg (rT Tryz.f94 1)) (.sq (.dr QJl [(0, []), (1, []), (2, []), (3, [2]), (4, [2]), (5, []), (6, []), (7, []), (8, []), (9, []), (10, []), (11, [])] (.of [0, 1, 2, 3, 4, 5, 6, 7, 8, 9, 10, 11])) .rt)))
def QLp : List (RV × Option Ty) := [((.t 4), some .bool)]
def g_f94 : G := ⟨TYs, [], 23, EL [(118, QA7), (119, QA6)], keeps, (fun _ _ => none), IL [], RL []⟩
def r_f94 (p0 : Qaa) (p1 : Int) : Option (V × List VO) := br (QaB p0) (br (ieq ((Qbg p0).2) 0) (br (lenB ((Qbg p0).1)) (some (.t .bool (and (ieq p0.2.2.2.2.2.2.2.2.2.2.2.1.1 p1) (and (ieq p0.2.2.2.2.2.2.2.2.2.2.2.1.2.1 (sumB ((Qbg p0).1))) true)), [])) none) (some (.t .bool false, []))) none
theorem e_f94 (p0 : Qaa) (p1 : Int) : runF g_f94 Qzq QLp false [.t Qab p0, .t tI p1] [] = r_f94 p0 p1 := by kernel_rfl
theorem en_f94 : Qag Tryz.prog 94 := .inr ⟨by decide, _, Tryz.func94, by kernel_rfl, by kernel_rfl⟩
theorem gk_f94 : GOk Tryz.prog g_f94 := Qan _ (gA (gC QQM QN0 (gC QQL QNZ gN)))
theorem lk_f94 : Qzq.lok g_f94 := by repeat (first | exact trivial | refine ⟨?_, ?_⟩)
theorem s_f94 (c : Qaa) (k : Int) (h : Qbu c k = true) : r_f94 c k = some (.t .bool (Qi6 c k), []) := by
 simp only [r_f94, show QaB c = true from h, QMG, Qac, Bool.and_true]
 exact brA rfl
def QKF : Ent := spec (.pr Qab (.pr tI .nil)) (fun x => (Qbu x.1 x.2.1)) (fun x => (.t .bool (Qi6 x.1 x.2.1)))
theorem ms_f94 : Meets Tryz.prog 94 (strip QKF) := Qaf (R := runF g_f94 Qzq QLp false) (mG Tryz.func94 (by kernel_rfl) Tryz.ntmps94 (by kernel_rfl) gk_f94 lk_f94) fun x hok => (e_f94 x.1 x.2.1).trans (s_f94 x.1 x.2.1 hok)
def copyC (c : Qaa) : Qaa := c
noncomputable def Qzx : TC := (.sq (.reg (rT Tryz.f86 0)) (.sq (.reg (rT Tryz.f86 1)) (.sq (.reg (rT Tryz.f86 2)) .rt)))
def QLw : List (RV × Option Ty) := [((.c 2 true 15), some Qab)]
def g_f86 : G := ⟨TYs, [3], 9, EL [], keeps, (fun _ _ => none), IL [], RL []⟩
def r_f86 (p0 : Qaa) : Option (V × List VO) := br (cApp ([] : List ByteArray) p0.2.2.2.2.2.2.2.2.2.2.1 16) (some (.t Qab (p0.1, (p0.2.1, (p0.2.2.1, ((p0.2.2.2.1.1, (p0.2.2.2.1.2.1, ())), (p0.2.2.2.2.1, ((p0.2.2.2.2.2.1.1, (p0.2.2.2.2.2.1.2.1, ())), (p0.2.2.2.2.2.2.1, (p0.2.2.2.2.2.2.2.1, (p0.2.2.2.2.2.2.2.2.1, (p0.2.2.2.2.2.2.2.2.2.1, ((([] : List ByteArray) ++ p0.2.2.2.2.2.2.2.2.2.2.1), ((p0.2.2.2.2.2.2.2.2.2.2.2.1.1, (p0.2.2.2.2.2.2.2.2.2.2.2.1.2.1, ())), ())))))))))))), [])) none
theorem e_f86 (p0 : Qaa) : runF g_f86 Qzx QLw false [.t Qab p0] [] = r_f86 p0 := by kernel_rfl
theorem QMQ : Qag Tryz.prog 86 := .inr ⟨by decide, _, Tryz.func86, by kernel_rfl, by kernel_rfl⟩
theorem gk_f86 : GOk Tryz.prog g_f86 := Qan _ (fun p hp => by cases hp)
theorem lk_f86 : Qzx.lok g_f86 := by repeat (first | exact trivial | refine ⟨?_, ?_⟩)
theorem Qtc {c : Qaa} (h : QaB c = true) : (QaD c).length ≤ 100000 := by
 simp only [QaB, QbC, Bool.and_eq_true, decide_eq_true_eq] at h
 exact h.2.2.1
theorem s_f86 (c : Qaa) (h : QaB c = true) : r_f86 c = some (.t Qab (copyC c), []) := by
 have hn : c.2.2.2.2.2.2.2.2.2.2.1.length ≤ 100000 := Qtc h
 simp only [r_f86]
 rw [cAppN (by omega) (by simp only [List.length_nil]; omega), Qac]
 rfl
def QAw : Ent := spec (.pr Qab .nil) (fun x => (QaB x.1)) (fun x => (.t Qab (copyC x.1)))
theorem QMz : Meets Tryz.prog 86 (strip QAw) := Qaf (R := runF g_f86 Qzx QLw false) (mG Tryz.func86 (by kernel_rfl) Tryz.ntmps86 (by kernel_rfl) gk_f86 lk_f86) fun x hok => (e_f86 x.1).trans (s_f86 x.1 hok)
def sealC (c : Qaa) (s : Keep) : Qaa := (c.1, (c.2.1, (c.2.2.1, (c.2.2.2.1, (c.2.2.2.2.1, (c.2.2.2.2.2.1, (c.2.2.2.2.2.2.1, (c.2.2.2.2.2.2.2.1, (c.2.2.2.2.2.2.2.2.1, (c.2.2.2.2.2.2.2.2.2.1, (c.2.2.2.2.2.2.2.2.2.2.1, (s, ()))))))))))))
def unsC (c : Qaa) : Qaa := sealC c (0, (0, ()))
def Qmc (c : Qaa) (k : Int) : Bool := !QaC (unsC c) || (ilt k 0 || igt k 2147483648)
abbrev zCert : Qaa := Ty.zero Qab
def signC (c : Qaa) (k : Int) : Qaa × Int := bif Qmc c k then (zCert, 9) else (sealC c (k, (sumB (Qbg (unsC c)).1, ())), 0)
noncomputable def Qzw : TC := (.sq (.reg (rT Tryz.f87 0)) (.sq (.reg (rT Tryz.f87 1)) (.sq (.reg (rT Tryz.f87 2)) (.sq (.sq (.reg (rT Tryz.f87 3)) (.cd (.t 22) (.sq (.reg (rT Tryz.f87 4)) .rt) .sk)) (.sq (.reg (rT Tryz.f87 5)) (.sq (.reg (rT Tryz.f87 6)) (.sq (.reg (rT Tryz.f87 7)) .rt)))))))
def QLv : List (RV × Option Ty) := [((.c 4 true 15), some Qab), ((.t 5), some tI)]
def g_f87 : G := ⟨TYs, [], 35, EL [(86, QAw), (97, QAs), (109, QBf), (110, QBe)], keeps, (fun _ _ => none), IL [], RL []⟩
def r_f87 (p0 : Qaa) (p1 : Int) : Option (V × List VO) :=
 let a4 := ((copyC p0).2)
 let a1 := ((((a4.2).2).2).2)
 let a5 := (((a1.2).2).2)
 let a2 := ((Qbg ((copyC p0).1, (a4.1, ((a4.2).1, (((a4.2).2).1, ((((a4.2).2).2).1, (a1.1, ((a1.2).1, (((a1.2).2).1, (a5.1, ((a5.2).1, (((a5.2).2).1, ((0, (0, ())), (((a5.2).2).2).2))))))))))))).1)
 let a3 := (QaB ((copyC p0).1, (a4.1, ((a4.2).1, (((a4.2).2).1, ((((a4.2).2).2).1, (a1.1, ((a1.2).1, (((a1.2).2).1, (a5.1, ((a5.2).1, (((a5.2).2).1, ((0, (0, ())), (((a5.2).2).2).2)))))))))))))
 let a6 := ByteArray.mk #[]
 br (QaB p0) (br a3 (br (ine (Qd6 ((copyC p0).1, (a4.1, ((a4.2).1, (((a4.2).2).1, ((((a4.2).2).2).1, (a1.1, ((a1.2).1, (((a1.2).2).1, (a5.1, ((a5.2).1, (((a5.2).2).1, ((0, (0, ())), (((a5.2).2).2).2))))))))))))) 0) (some (.tu [(.t Qab (0, (a6, (a6, ((0, (0, ())), (0, ((0, (0, ())), (0, (0, (false, (0, (([] : List ByteArray), ((0, (0, ())), ()))))))))))))), (.t tI 9)], [])) (br (ilt p1 0) (some (.tu [(.t Qab (0, (a6, (a6, ((0, (0, ())), (0, ((0, (0, ())), (0, (0, (false, (0, (([] : List ByteArray), ((0, (0, ())), ()))))))))))))), (.t tI 9)], [])) (br (igt p1 2147483648) (some (.tu [(.t Qab (0, (a6, (a6, ((0, (0, ())), (0, ((0, (0, ())), (0, (0, (false, (0, (([] : List ByteArray), ((0, (0, ())), ()))))))))))))), (.t tI 9)], [])) (br a3 (br (lenB a2) (some (.tu [(.t Qab ((copyC p0).1, (a4.1, ((a4.2).1, (((a4.2).2).1, ((((a4.2).2).2).1, (a1.1, ((a1.2).1, (((a1.2).2).1, (a5.1, ((a5.2).1, (((a5.2).2).1, ((p1, ((sumB a2), ())), (((a5.2).2).2).2))))))))))))), (.t tI 0)], [])) none) none)))) none) none
theorem e_f87 (p0 : Qaa) (p1 : Int) : runF g_f87 Qzw QLv false [.t Qab p0, .t tI p1] [] = r_f87 p0 p1 := by kernel_rfl
theorem en_f87 : Qag Tryz.prog 87 := .inr ⟨by decide, _, Tryz.func87, by kernel_rfl, by kernel_rfl⟩
theorem gk_f87 : GOk Tryz.prog g_f87 := Qan _ (gA (gC QMQ QMz (gC QMM QMv (gC QQU QN8 (gC QQT QN7 gN)))))
theorem lk_f87 : Qzw.lok g_f87 := by repeat (first | exact trivial | refine ⟨?_, ?_⟩)
theorem s_f87 (c : Qaa) (k : Int) (h : Qbu c k = true) : r_f87 c k = some (.tu [.t Qab (signC c k).1, .t tI (signC c k).2], []) := by
 have h : QaB c = true := h
 have hu : QaB (unsC c) = true := h
 have e : ((copyC c).1, ((copyC c).2.1, ((copyC c).2.2.1, ((copyC c).2.2.2.1, ((copyC c).2.2.2.2.1, ((copyC c).2.2.2.2.2.1, ((copyC c).2.2.2.2.2.2.1, ((copyC c).2.2.2.2.2.2.2.1, ((copyC c).2.2.2.2.2.2.2.2.1, ((copyC c).2.2.2.2.2.2.2.2.2.1, ((copyC c).2.2.2.2.2.2.2.2.2.2.1, ((0, (0, ())), ())))))))))))) = unsC c := rfl
 simp only [r_f87, h, e, hu, QfU, QMG, Qac]
 unfold signC Qmc
 cases QaC (unsC c) with
 | false => rfl
 | true =>
  rw [Bool.not_true, Qae, Bool.false_or]
  cases ilt k 0 with
  | true => rfl
  | false =>
   rw [Qae, Bool.false_or]
   cases igt k 2147483648 <;> rfl
def QKI : Ent := spec (.pr Qab (.pr tI .nil)) (fun x => (Qbu x.1 x.2.1)) (fun x => (.tu [(.t Qab ((signC x.1 x.2.1).1)), (.t tI ((signC x.1 x.2.1).2))]))
theorem ms_f87 : Meets Tryz.prog 87 (strip QKI) := Qaf (R := runF g_f87 Qzw QLv false) (mG Tryz.func87 (by kernel_rfl) Tryz.ntmps87 (by kernel_rfl) gk_f87 lk_f87) fun x hok => (e_f87 x.1 x.2.1).trans (s_f87 x.1 x.2.1 hok)
def QaJ (l : List Qaa) : Bool := decide (l.length ≤ 100000) && l.all QaB
def Qs9 (l : List Qaa) : List Qaa := l
def Qix : Fg := ⟨[(0, some (.sl Qab)), (3, none), (4, some tI)], [(3, none), (18, none)]⟩
noncomputable def Qkf : TC := (.sq (.sq (.reg (rT Tryz.f53 3)) (.cd (.t 8) .sk (.fg ⟨[(3, none)], [(3, none), (18, none)]⟩ (.ex 0)))) (.sq (.bk 1 (.reg (rT Tryz.f53 4))) (.reg (rT Tryz.f53 5))))
noncomputable def QzU : TC := (.sq (.reg (rT Tryz.f53 0)) (.sq (.reg (rT Tryz.f53 1)) (.sq (.sq (.reg (rT Tryz.f53 2)) (.bk 0 (.nw 3 98 (.lp 0 Qix Qkf)))) (.sq (.reg (rT Tryz.f53 6)) .rt))))
def QLT : List (RV × Option Ty) := [((.t 2), some (.sl Qab))]
abbrev Qo8 : Sh := ⟨[(0, .ty (.sl Qab)), (3, .ms 3), (4, .ty tI)], [(3, .arr 98 Qab), (18, .no)]⟩
def QoK (x0 : List Qaa) (x4 : Int) (y3 : List Qaa) : VS := Qo8.st (x0, (), x4, ()) (y3, (), ())
abbrev QuB : Sh := ⟨[(3, .ms 3)], [(3, .arr 98 Qab), (18, .no)]⟩
def Qem (y3 : List Qaa) : VS := QuB.st ((), ()) (y3, (), ())
def QRn : VS → Option (Bool × List (Bool × Exit × VS)) := mkL Qo8 (fun x y => (decide (0 ≤ x.2.2.1 ∧ x.2.2.1 ≤ x.1.length ∧ y.1.length ≤ x.2.2.1.toNat) && QaJ x.1)) (fun x y => [(true, .exit 0, Qem (y.1 ++ x.1.drop x.2.2.1.toNat))])
def g_f53 : G := ⟨TYs, [], 20, EL [(86, QAw)], keeps, (Ls [QRn]), IL [], RL []⟩
def QGB (x0 : List Qaa) (x4 : Int) (y3 : List Qaa) : Option (Exit × VS) :=
 let a1 := (((copyC (lgt Qab x0 (Int.toNat x4))).2).2)
 let a2 := ((copyC (lgt Qab x0 (Int.toNat x4))).1, (((copyC (lgt Qab x0 (Int.toNat x4))).2).1, (a1.1, ((((a1.2).1).1, ((((a1.2).1).2).1, ())), (((a1.2).2).1, ((((((a1.2).2).2).1).1, ((((((a1.2).2).2).1).2).1, ())), (((((a1.2).2).2).2).1, ((((((a1.2).2).2).2).2).1, (((((((a1.2).2).2).2).2).2).1, ((((((((a1.2).2).2).2).2).2).2).1, (((((((((a1.2).2).2).2).2).2).2).2).1, ((((((((((((a1.2).2).2).2).2).2).2).2).2).1).1, ((((((((((((a1.2).2).2).2).2).2).2).2).2).1).2).1, ())), ()))))))))))))
 br (ilt x4 (llen x0)) (br (cIx x0 x4) (br (QaB (lgt Qab x0 (Int.toNat x4))) (br (cApp y3 ([a2]) 152) (some (.normal, QoK x0 (iadd .i64 x4 1) (y3 ++ ([a2])))) none) none) none) (some (.exit 0, Qem y3))
noncomputable def QkX (x0 : List Qaa) (x4 : Int) (y3 : List Qaa) : Option (Exit × VS) := loopF (Qaj g_f53 Qix Qkf) (QoK x0 x4 y3)
noncomputable def Qp0 (x0 : List Qaa) (x4 : Int) (y3 : List Qaa) : Option (Exit × VS) :=
 let a1 := (((copyC (lgt Qab x0 (Int.toNat x4))).2).2)
 let a2 := ((copyC (lgt Qab x0 (Int.toNat x4))).1, (((copyC (lgt Qab x0 (Int.toNat x4))).2).1, (a1.1, ((((a1.2).1).1, ((((a1.2).1).2).1, ())), (((a1.2).2).1, ((((((a1.2).2).2).1).1, ((((((a1.2).2).2).1).2).1, ())), (((((a1.2).2).2).2).1, ((((((a1.2).2).2).2).2).1, (((((((a1.2).2).2).2).2).2).1, ((((((((a1.2).2).2).2).2).2).2).1, (((((((((a1.2).2).2).2).2).2).2).2).1, ((((((((((((a1.2).2).2).2).2).2).2).2).2).1).1, ((((((((((((a1.2).2).2).2).2).2).2).2).2).1).2).1, ())), ()))))))))))))
 br (ilt x4 (llen x0)) (br (cIx x0 x4) (br (QaB (lgt Qab x0 (Int.toNat x4))) (br (cApp y3 ([a2]) 152) (QkX x0 (iadd .i64 x4 1) (y3 ++ ([a2]))) none) none) none) (some (.exit 0, Qem y3))
def Qlc (x0 : List Qaa) (x4 : Int) (y3 : List Qaa) : Option (Exit × VS) := some (.exit 0, Qem (y3 ++ x0.drop x4.toNat))
theorem QJW (x0 : List Qaa) (x4 : Int) (y3 : List Qaa) : Qaj g_f53 Qix Qkf (QoK x0 x4 y3) = QGB x0 x4 y3 := by kernel_rfl
theorem QwI (x0 : List Qaa) (x4 : Int) (y3 : List Qaa) : QkX x0 x4 y3 = Qp0 x0 x4 y3 := (Qaq _ _).trans (by
 rw [QJW]
 simp only [QGB, Qp0, QaE, nxt_n, nxt_r, nxt_e, nxt_0]
 rfl)
def r_f53 (p0 : List Qaa) : Option (V × List VO) := br (decide (0 ≤ (0 : Int) ∧ (0 : Int) ≤ p0.length ∧ ([] : List Qaa).length ≤ (0 : Int).toNat) && QaJ p0) (some (.t (.sl Qab) (([] : List Qaa) ++ p0.drop (0 : Int).toNat), [])) none
theorem e_f53 (p0 : List Qaa) : runF g_f53 QzU QLT false [.t (.sl Qab) p0] [] = r_f53 p0 := by kernel_rfl
theorem en_f53 : Qag Tryz.prog 53 := .inr ⟨by decide, _, Tryz.func53, by kernel_rfl, by kernel_rfl⟩
theorem gk_f53 : GOk Tryz.prog g_f53 := Qan _ (gA (gC QMQ QMz gN))
theorem QPi (x0 : List Qaa) (x4 : Int) (y3 : List Qaa) (h : (decide (0 ≤ x4 ∧ x4 ≤ x0.length ∧ y3.length ≤ x4.toNat) && QaJ x0) = true) : QkX x0 x4 y3 = Qlc x0 x4 y3 := by
 simp only [QaJ, Bool.and_eq_true, decide_eq_true_eq, List.all_eq_true] at h
 obtain ⟨⟨h0, h1, h2⟩, h3, hc⟩ := h
 obtain ⟨k, rfl⟩ := Int.eq_ofNat_of_zero_le h0
 rw [Int.toNat_natCast] at h2
 revert y3
 refine Qav x0 (fun k => ∀ y3 : List Qaa, y3.length ≤ k → QkX x0 (k : Int) y3 = Qlc x0 (k : Int) y3) ?_ ?_ k (by omega)
 ·intro y3 _
  rw [QwI]
  simp only [Qp0, Qlc, show ilt (x0.length : Int) (llen x0) = false from decide_eq_false (by simp only [llen]; omega), Qae, Int.toNat_natCast, List.drop_length, List.append_nil]
 ·intro k hk ih y3 hy
  rw [QwI]
  have hx := hc x0[k] (List.getElem_mem hk)
  simp only [Qp0, show ilt (k : Int) (llen x0) = true from decide_eq_true (by simp only [llen]; omega), Qay, hk, decide_true, Qac, Int.toNat_natCast, add1 (show k < 4611686018427387904 by omega), QaG (y := Qab) hk, hx]
  rw [cAppN (by omega) (by simp only [List.length_singleton]; omega), Qac, ih _ (by simp only [List.length_append, List.length_singleton]; omega)]
  simp only [Qlc, Int.toNat_natCast, List.drop_eq_getElem_cons hk, List.append_assoc, List.singleton_append, copyC]
theorem QH1 : ∀ S l p, g_f53.L 0 (fgt Qix S) = some (true, l) → pickA l = some p → loopF (Qaj g_f53 Qix Qkf) S = some p :=
 QaF (s := Qo8) ⟨by decide, by decide⟩ (by kernel_rfl) fun x y hok p hp => by
 simp only [Qas, Qap] at hp
 exact (QPi x.1 x.2.2.1 y.1 (by simpa using hok)).trans hp
theorem lk_f53 : QzU.lok g_f53 := by
 repeat (first | exact trivial | exact QH1 | refine ⟨?_, ?_⟩)
theorem s_f53 (l : List Qaa) (h : QaJ l = true) : r_f53 l = some (.t (.sl Qab) (Qs9 l), []) := by
 have hl : l.length ≤ 100000 := by simp only [QaJ, Bool.and_eq_true, decide_eq_true_eq] at h; exact h.1
 have hd : (0 : Int) ≤ 0 ∧ (0 : Int) ≤ l.length ∧ ([] : List Qaa).length ≤ 0 := ⟨by omega, by omega, by simp⟩
 simp only [r_f53, h, Bool.and_true, Int.toNat_zero, List.drop_zero, List.nil_append]
 rw [decide_eq_true hd]
 rfl
def QK1 : Ent := spec (.pr (.sl Qab) .nil) (fun x => (QaJ x.1)) (fun x => (.t (.sl Qab) (Qs9 x.1)))
theorem ms_f53 : Meets Tryz.prog 53 (strip QK1) := Qaf (R := runF g_f53 QzU QLT false) (mG Tryz.func53 (by kernel_rfl) Tryz.ntmps53 (by kernel_rfl) gk_f53 lk_f53) fun x hok => (e_f53 x.1).trans (s_f53 x.1 hok)
def Qjl (key : Keep) (id : Int) (l : List Qaa) : Bool := ieq (llen l) 0 || (((l.getD 0 zCert).2.2.2.1 == key) && ieq (l.getD 0 zCert).2.2.2.2.1 id)
def Qgv (key : Keep) (id : Int) (l : List Qaa) : Bool := Qcv key && (!ine (kindF key.1) 2 && (keyI id && (!igt (llen l) 8 && (l.all QaC && Qjl key id l))))
def Qmd (_key : Keep) (_id : Int) (l : List Qaa) : Bool := QaJ l
theorem QyO (key : Keep) (id : Int) (l : List Qaa) : br (ieq (llen l) 0) (some (V.t .bool true, ([] : List VO))) (br (cIx l 0) (br ((lgt Qab l 0).2.2.2.1 == key) (br (cIx l 0) (some (V.t .bool (ieq (lgt Qab l 0).2.2.2.2.1 id), [])) none) (some (V.t .bool false, []))) none) = some (V.t .bool (Qjl key id l), []) := by
 unfold Qjl
 cases l with
 | nil => rfl
 | cons c l =>
  have h1 : ieq (llen (c :: l)) 0 = false := by
   simp only [ieq, llen, List.length_cons, beq_eq_false_iff_ne]
   omega
  have h2 : cIx (c :: l) 0 = true := by simp only [cIx, List.length_cons, decide_eq_true_eq]; omega
  rw [h1, Qae, h2, Qac, Bool.false_or, Qac]
  show br (c.2.2.2.1 == key) _ _ = some (V.t .bool ((c.2.2.2.1 == key) && ieq c.2.2.2.2.1 id), [])
  cases c.2.2.2.1 == key <;> rfl
noncomputable def QJm : List DO := dT Tryz.f78 9
def Qir : Fg := ⟨[(1, some tI), (2, some (.sl Qab)), (3, none), (28, some (.sl Qab)), (29, some tI), (30, some tI)], [(3, some Qam)]⟩
noncomputable def Qj9 : TC := (.sq (.reg (rT Tryz.f78 4)) (.sq (.cd (.t 31) .sk (.fg ⟨[(1, some tI), (2, some (.sl Qab)), (3, none)], [(3, some Qam)]⟩ (.ex 0))) (.sq (.bk 1 (.sq (.reg (rT Tryz.f78 5)) (.sq (.reg (rT Tryz.f78 6)) (.cd (.t 36) (.sq (.reg (rT Tryz.f78 7)) (.fg ⟨[(6, some .bool)], []⟩ .rt)) .sk)))) (.reg (rT Tryz.f78 8)))))
noncomputable def QzC : TC := (.sq (.reg (rT Tryz.f78 0)) (.sq (.sq (.reg (rT Tryz.f78 1)) (.cd (.t 27) (.sq (.reg (rT Tryz.f78 2)) .rt) .sk)) (.sq (.sq (.reg (rT Tryz.f78 3)) (.bk 0 (.lp 0 Qir Qj9))) (.sq (.dr QJm [(0, []), (1, []), (2, []), (3, []), (4, []), (5, []), (6, []), (7, []), (8, [3]), (9, []), (10, []), (11, []), (12, []), (13, []), (14, []), (15, []), (16, []), (17, []), (18, []), (19, [])] (.of [0, 1, 2, 3, 4, 5, 6, 7, 8, 9, 10, 11, 12, 13, 14, 15, 16, 17, 18, 19])) .rt))))
def QLB : List (RV × Option Ty) := [((.t 6), some .bool)]
abbrev Qo2 : Sh := ⟨[(1, .ty tI), (2, .ty (.sl Qab)), (3, .ptr 3 0), (28, .ty (.sl Qab)), (29, .ty tI), (30, .ty tI)], [(3, .box Qam)]⟩
def QoG (x1 : Int) (x2 x28 : List Qaa) (x29 x30 : Int) (y3 : Keep) : VS := Qo2.st (x1, x2, (), x28, x29, x30, ()) (y3, ())
abbrev Qrg : Sh := ⟨[(6, .ty .bool)], []⟩
def Qc8 (x6 : Bool) : VS := Qrg.st (x6, ()) ()
abbrev Qut : Sh := ⟨[(1, .ty tI), (2, .ty (.sl Qab)), (3, .ptr 3 0)], [(3, .box Qam)]⟩
def Qef (x1 : Int) (x2 : List Qaa) (y3 : Keep) : VS := Qut.st (x1, x2, (), ()) (y3, ())
def QRh : VS → Option (Bool × List (Bool × Exit × VS)) := mkL Qo2 (fun x y => (rngOk x.2.2.2.1 x.2.2.2.2.1 x.2.2.2.2.2.1 && QaJ x.2.2.2.1)) (fun x y => [((!(x.2.2.2.1.drop x.2.2.2.2.2.1.toNat).all QaC), .ret, Qc8 (false)), (true, .exit 0, Qef (x.1) (x.2.1) (y.1))])
def g_f78 : G := ⟨TYs, [], 57, EL [(62, QAy), (82, Qv5), (107, Qul), (108, QoV)], keeps, (Ls [QRh]), IL [], RL []⟩
def QGv (x1 : Int) (x2 x28 : List Qaa) (x29 x30 : Int) (y3 : Keep) : Option (Exit × VS) :=
 let a1 := lgt Qab x28 (Int.toNat x30)
 br (ilt x30 x29) (br (cIx x28 x30) (br (QaB a1) (br (ine (Qd6 a1) 0) (some (.ret, Qc8 false)) (some (.normal, QoG x1 x2 x28 x29 (iadd .i64 x30 1) y3))) none) none) (some (.exit 0, Qef x1 x2 y3))
noncomputable def QkT (x1 : Int) (x2 x28 : List Qaa) (x29 x30 : Int) (y3 : Keep) : Option (Exit × VS) := loopF (Qaj g_f78 Qir Qj9) (QoG x1 x2 x28 x29 x30 y3)
noncomputable def QpV (x1 : Int) (x2 x28 : List Qaa) (x29 x30 : Int) (y3 : Keep) : Option (Exit × VS) :=
 let a1 := lgt Qab x28 (Int.toNat x30)
 br (ilt x30 x29) (br (cIx x28 x30) (br (QaB a1) (br (ine (Qd6 a1) 0) (some (.ret, Qc8 false)) (QkT x1 x2 x28 x29 (iadd .i64 x30 1) y3)) none) none) (some (.exit 0, Qef x1 x2 y3))
def Qk7 (x1 : Int) (x2 x28 : List Qaa) (x29 x30 : Int) (y3 : Keep) : Option (Exit × VS) := br (!(x28.drop x30.toNat).all QaC) (some (.ret, Qc8 (false))) <| some (.exit 0, Qef (x1) (x2) (y3))
theorem QJQ (x1 : Int) (x2 x28 : List Qaa) (x29 x30 : Int) (y3 : Keep) : Qaj g_f78 Qir Qj9 (QoG x1 x2 x28 x29 x30 y3) = QGv x1 x2 x28 x29 x30 y3 := by kernel_rfl
theorem QwB (x1 : Int) (x2 x28 : List Qaa) (x29 x30 : Int) (y3 : Keep) : QkT x1 x2 x28 x29 x30 y3 = QpV x1 x2 x28 x29 x30 y3 := (Qaq _ _).trans (by
 rw [QJQ]
 simp only [QGv, QpV, QaE, nxt_n, nxt_r, nxt_e, nxt_0]
 rfl)
def r_f78 (p0 : Keep) (p1 : Int) (p2 : List Qaa) : Option (V × List VO) :=
 let a1 := ((((lgt Qab (p2) (Int.toNat 0)).2).2).2)
 br (!(Qcv p0)) (some (.t .bool false, [])) (br (ine (kindF p0.1) 2) (some (.t .bool false, [])) (br (!(keyI p1)) (some (.t .bool false, [])) (br (igt (llen p2) 8) (some (.t .bool false, [])) (br (rngOk p2 (llen p2) (0 : Int) && QaJ p2) (br (!(p2.drop (0 : Int).toNat).all QaC) (some (.t .bool (false), [])) (br (ieq (llen (p2)) 0) (some (.t .bool true, [])) (br (cIx (p2) 0) (br (and (ieq ((a1.1).1) ((p0).1)) (and (ieq (((a1.1).2).1) (((p0).2).1)) true)) (br (cIx (p2) 0) (some (.t .bool (ieq ((a1.2).1) (p1)), [])) none) (some (.t .bool false, []))) none))) none))))
theorem e_f78 (p0 : Keep) (p1 : Int) (p2 : List Qaa) : runF g_f78 QzC QLB false [.t Qam p0, .t tI p1, .t (.sl Qab) p2] [] = r_f78 p0 p1 p2 := by kernel_rfl
theorem en_f78 : Qag Tryz.prog 78 := .inr ⟨by decide, _, Tryz.func78, by kernel_rfl, by kernel_rfl⟩
theorem gk_f78 : GOk Tryz.prog g_f78 := Qan _ (gA (gC QMS QMB (gC QE9 QDs (gC QFA QDL (gC QvM Qvi gN)))))
theorem QPc (x1 : Int) (x2 x28 : List Qaa) (x29 x30 : Int) (y3 : Keep) (h : (rngOk x28 x29 x30 && QaJ x28) = true) : QkT x1 x2 x28 x29 x30 y3 = Qk7 x1 x2 x28 x29 x30 y3 := by
 simp only [Bool.and_eq_true] at h
 obtain ⟨h0, hc⟩ := h
 obtain ⟨rfl, h3, k, rfl, hk⟩ := rng_k h0
 clear h0
 simp only [QaJ, Bool.and_eq_true, List.all_eq_true] at hc
 refine Qav x28 (fun k => QkT x1 x2 x28 (x28.length : Int) (k : Int) y3 = Qk7 x1 x2 x28 (x28.length : Int) (k : Int) y3) ?_ ?_ k hk
 ·rw [QwB]
  simp only [QpV, Qk7, Qaz, Nat.lt_irrefl, decide_false, Qae, Int.toNat_natCast, List.drop_length, List.all_nil, Bool.not_true]
 ·intro k hk ih
  rw [QwB]
  have hx := hc.2 x28[k] (List.getElem_mem hk)
  simp only [QpV, Qaz, Qay, hk, decide_true, Qac, Int.toNat_natCast, add1 (show k < 4611686018427387904 by omega), QaG (y := Qab) hk, hx, QfU, ih]
  simp only [Qk7, Int.toNat_natCast, List.drop_eq_getElem_cons hk, List.all_cons]
  cases QaC x28[k] <;> rfl
theorem QHV : ∀ S l p, g_f78.L 0 (fgt Qir S) = some (true, l) → pickA l = some p → loopF (Qaj g_f78 Qir Qj9) S = some p :=
 QaF (s := Qo2) ⟨by decide, by decide⟩ (by kernel_rfl) fun x y hok p hp => by
 simp only [Qas, Qap] at hp
 exact (QPc x.1 x.2.1 x.2.2.2.1 x.2.2.2.2.1 x.2.2.2.2.2.1 y.1 (by simpa using hok)).trans hp
theorem lk_f78 : QzC.lok g_f78 := by
 repeat (first | exact trivial | exact QHV | refine ⟨?_, ?_⟩)
theorem s_f78 (key : Keep) (id : Int) (l : List Qaa) (h : Qmd key id l = true) : r_f78 key id l = some (.t .bool (Qgv key id l), []) := by
 have h : QaJ l = true := h
 have hl : l.length ≤ 100000 := by simp only [QaJ, Bool.and_eq_true, decide_eq_true_eq] at h; exact h.1
 simp only [r_f78, rng_0 hl, h, Bool.and_self, Qac, Int.toNat_zero, List.drop_zero, QPv]
 unfold Qgv
 refine (brB <| brB <| brB <| brB <| brB (QyO key id l)).trans ?_
 simp only [Bool.not_not]
def QKM : Ent := spec (.pr Qam (.pr tI (.pr (.sl Qab) .nil))) (fun x => (Qmd x.1 x.2.1 x.2.2.1)) (fun x => (.t .bool (Qgv x.1 x.2.1 x.2.2.1)))
theorem ms_f78 : Meets Tryz.prog 78 (strip QKM) := Qaf (R := runF g_f78 QzC QLB false) (mG Tryz.func78 (by kernel_rfl) Tryz.ntmps78 (by kernel_rfl) gk_f78 lk_f78) fun x hok => (e_f78 x.1 x.2.1 x.2.2.1).trans (s_f78 x.1 x.2.1 x.2.2.1 hok)
end
end Go.Proofs.YtkngeegkjhipeaaGreat.K
