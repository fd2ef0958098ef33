import Derived.Test.YtkngeegkjhipeaaGreatN8
set_option linter.unusedSimpArgs false
set_option linter.unusedVariables false
namespace Go.Proofs.YtkngeegkjhipeaaGreat.K
open Go.RowKit
noncomputable section
def Qbg (c : Qaa) : List Int × Int := bif QaB c then encE (bodyT c) else ([], 9)
theorem QGG {c : Qaa} (h : QaB c = true) : Qbg c = (encT (bodyT c), 0) := by
 have := QqN h
 rw [Qbg, h, cond_true, encE, if_neg (by omega)]
theorem QzE (c : Qaa) : (Qbg c).1.length ≤ 1000 := by
 cases h : QaB c with
 | true =>
  rw [QGG h]
  exact QqN h
 | false =>
  rw [Qbg, h]
  simp
noncomputable def Qun : TC := (.sq (.reg (rT Tryz.f118 0)) (.sq (.sq (.reg (rT Tryz.f118 1)) (.cd (.t 6) (.sq (.reg (rT Tryz.f118 2)) .rt) .sk)) (.sq (.reg (rT Tryz.f118 3)) .rt)))
def QCH : List (RV × Option Ty) := [((.t 2), some (.sl (.int .u8))), ((.t 3), some tI)]
def QxZ : G := ⟨TYs, [], 12, EL [(91, QA8), (138, QBG), (139, QBF)], keeps, (fun _ _ => none), IL [], RL []⟩
def QwX (p0 : Qaa) : Option (V × List VO) := br (QaA p0) (br (!(QaB p0)) (some (.tu [(.t (.sl (.int .u8)) ([] : List Int)), (.t tI 9)], [])) (br (Qe7 p0) (br (encOk (bodyT p0)) (some (.tu [(.t (.sl (.int .u8)) ((encE (bodyT p0)).1)), (.t tI ((encE (bodyT p0)).2))], [])) none) none)) none
theorem e_f118 (p0 : Qaa) : runF QxZ Qun QCH false [.t Qab p0] [] = QwX p0 := by kernel_rfl
theorem QRz : Qag Tryz.prog 118 := .inr ⟨by decide, _, Tryz.func118, by kernel_rfl, by kernel_rfl⟩
theorem QQX : GOk Tryz.prog QxZ := Qao _ (gA (gC QNy QNf (gC QRs QOG (gC QRr QOF gN))))
theorem QPI : Qun.lok QxZ := by repeat (first | exact trivial | refine ⟨?_, ?_⟩)
theorem s_f118 (c : Qaa) (h : QaA c = true) : QwX c = some (.tu [.t (.sl (.int .u8)) (Qbg c).1, .t tI (Qbg c).2], []) := by
 unfold Qbg
 cases hv : QaB c with
 | true => simp only [QwX, h, hv, QNw hv, show Qe7 c = true from by rw [Qe7, h, hv]; rfl, Bool.not_true, Qac, Qae, cond_true]
 | false => simp only [QwX, h, hv, Bool.not_false, Qac, cond_false]
def QBN : Ent := spec (.pr Qab .nil) (fun x => (QaA x.1)) (fun x => (.tu [(.t (.sl (.int .u8)) ((Qbg x.1).1)), (.t tI ((Qbg x.1).2))]))
theorem QON : Meets Tryz.prog 118 (strip QBN) := Qaf (R := runF QxZ Qun QCH false) (mG Tryz.func118 (by kernel_rfl) Tryz.ntmps118 (by kernel_rfl) QQX QPI) fun x hok => (e_f118 x.1).trans (s_f118 x.1 hok)
noncomputable def Quw : TC := (.sq (.reg (rT Tryz.f109 0)) (.sq (.sq (.reg (rT Tryz.f109 1)) (.cd (.t 6) (.sq (.reg (rT Tryz.f109 2)) .rt) .sk)) (.sq (.reg (rT Tryz.f109 3)) .rt)))
def QCQ : List (RV × Option Ty) := [((.t 2), some (.sl (.int .u8))), ((.t 3), some tI)]
def Qx4 : G := ⟨TYs, [], 12, EL [(97, QA7), (136, QBI), (137, QBH)], keeps, (fun _ _ => none), IL [], RL []⟩
def QwY (p0 : Qaa) : Option (V × List VO) := br (QaA p0) (br (ine (Qd6 p0) 0) (some (.tu [(.t (.sl (.int .u8)) ([] : List Int)), (.t tI 9)], [])) (br (Qe7 p0) (br (encOk (bodyT p0)) (some (.tu [(.t (.sl (.int .u8)) ((encE (bodyT p0)).1)), (.t tI ((encE (bodyT p0)).2))], [])) none) none)) none
theorem e_f109 (p0 : Qaa) : runF Qx4 Quw QCQ false [.t Qab p0] [] = QwY p0 := by kernel_rfl
theorem QRH : Qag Tryz.prog 109 := .inr ⟨by decide, _, Tryz.func109, by kernel_rfl, by kernel_rfl⟩
theorem QQ6 : GOk Tryz.prog Qx4 := Qao _ (gA (gC QNx QNe (gC QRu QOI (gC QRt QOH gN))))
theorem QPR : Quw.lok Qx4 := by repeat (first | exact trivial | refine ⟨?_, ?_⟩)
theorem s_f109 (c : Qaa) (h : QaA c = true) : QwY c = some (.tu [.t (.sl (.int .u8)) (Qbg c).1, .t tI (Qbg c).2], []) := by
 unfold Qbg
 cases hv : QaB c with
 | true => simp only [QwY, h, hv, QfT, QNw hv, show Qe7 c = true from by rw [Qe7, h, hv]; rfl, Bool.not_true, Qac, Qae, cond_true]
 | false => simp only [QwY, h, hv, QfT, Bool.not_false, Qac, cond_false]
def QBV : Ent := spec (.pr Qab .nil) (fun x => (QaA x.1)) (fun x => (.tu [(.t (.sl (.int .u8)) ((Qbg x.1).1)), (.t tI ((Qbg x.1).2))]))
theorem QOV : Meets Tryz.prog 109 (strip QBV) := Qaf (R := runF Qx4 Quw QCQ false) (mG Tryz.func109 (by kernel_rfl) Tryz.ntmps109 (by kernel_rfl) QQ6 QPR) fun x hok => (e_f109 x.1).trans (s_f109 x.1 hok)
def stepS (s x : Int) : Int := imul .u32 (ibxor .u32 s (icv .u32 x)) 16777619
def sumB (b : List Int) : Int := icv .i64 (b.foldl stepS 2166136261)
def lenB (b : List Int) : Bool := decide (b.length ≤ 100000)
def QfO : Fg := ⟨[(3, some (.int .u32)), (6, some (.sl (.int .u8))), (7, some tI), (8, some tI)], []⟩
noncomputable def Qho : TC := (.sq (.reg (rT Tryz.f119 3)) (.sq (.cd (.t 9) .sk (.fg ⟨[(3, some (.int .u32))], []⟩ (.ex 0))) (.sq (.bk 1 (.sq (.reg (rT Tryz.f119 4)) (.reg (rT Tryz.f119 5)))) (.reg (rT Tryz.f119 6)))))
noncomputable def Qum : TC := (.sq (.reg (rT Tryz.f119 0)) (.sq (.reg (rT Tryz.f119 1)) (.sq (.sq (.reg (rT Tryz.f119 2)) (.bk 0 (.lp 0 QfO Qho))) (.sq (.reg (rT Tryz.f119 7)) .rt))))
def QCG : List (RV × Option Ty) := [((.t 2), some tI)]
abbrev QmI : Sh := ⟨[(3, .ty (.int .u32)), (6, .ty (.sl (.int .u8))), (7, .ty tI), (8, .ty tI)], []⟩
def Qmd (x3 : Int) (x6 : List Int) (x7 x8 : Int) : VS := QmI.st (x3, x6, x7, x8, ()) ()
abbrev QrX : Sh := ⟨[(3, .ty (.int .u32))], []⟩
def Qdt (x3 : Int) : VS := QrX.st (x3, ()) ()
def QK9 : VS → Option (Bool × List (Bool × Exit × VS)) := mkL QmI (fun x y => (rngOk x.2.1 x.2.2.1 x.2.2.2.1)) (fun x y => [(true, .exit 0, Qdt ((x.2.1.drop x.2.2.2.1.toNat).foldl stepS x.1))])
def Qj2 : G := ⟨TYs, [], 20, EL [], keeps, (Ls [QK9]), IL [], RL []⟩
def QyN (x3 : Int) (x6 : List Int) (x7 x8 : Int) : Option (Exit × VS) := br (ilt x8 x7) (br (cIx x6 x8) (some (.normal, Qmd (imul .u32 (ibxor .u32 x3 (icv .u32 (lgt (.int .u8) x6 (Int.toNat x8)))) 16777619) x6 x7 (iadd .i64 x8 1))) none) (some (.exit 0, Qdt x3))
noncomputable def QhZ (x3 : Int) (x6 : List Int) (x7 x8 : Int) : Option (Exit × VS) := loopF (Qaj Qj2 QfO Qho) (Qmd x3 x6 x7 x8)
noncomputable def QkS (x3 : Int) (x6 : List Int) (x7 x8 : Int) : Option (Exit × VS) := br (ilt x8 x7) (br (cIx x6 x8) (QhZ (imul .u32 (ibxor .u32 x3 (icv .u32 (lgt (.int .u8) x6 (Int.toNat x8)))) 16777619) x6 x7 (iadd .i64 x8 1)) none) (some (.exit 0, Qdt x3))
def Qih (x3 : Int) (x6 : List Int) (x7 x8 : Int) : Option (Exit × VS) := some (.exit 0, Qdt ((x6.drop x8.toNat).foldl stepS x3))
theorem QG4 (x3 : Int) (x6 : List Int) (x7 x8 : Int) : Qaj Qj2 QfO Qho (Qmd x3 x6 x7 x8) = QyN x3 x6 x7 x8 := by kernel_rfl
theorem Qs0 (x3 : Int) (x6 : List Int) (x7 x8 : Int) : QhZ x3 x6 x7 x8 = QkS x3 x6 x7 x8 := (Qaq _ _).trans (by
 rw [QG4]
 simp only [QyN, QkS, QaE, nxt_n, nxt_r, nxt_e, nxt_0]
 rfl)
def QDC (p0 : List Int) : Option (V × List VO) := br (rngOk p0 (llen p0) (0 : Int)) (some (.t tI (icv .i64 ((p0.drop (0 : Int).toNat).foldl stepS (2166136261 : Int))), [])) none
theorem e_f119 (p0 : List Int) : runF Qj2 Qum QCG false [.t (.sl (.int .u8)) p0] [] = QDC p0 := by kernel_rfl
theorem QRy : Qag Tryz.prog 119 := .inr ⟨by decide, _, Tryz.func119, by kernel_rfl, by kernel_rfl⟩
theorem QQW : GOk Tryz.prog Qj2 := Qao _ (fun p hp => by cases hp)
theorem QJg (x3 : Int) (x6 : List Int) (x7 x8 : Int) (h : (rngOk x6 x7 x8) = true) : QhZ x3 x6 x7 x8 = Qih x3 x6 x7 x8 := by
 obtain ⟨rfl, h3, k, rfl, hk⟩ := rng_k h
 clear h
 revert x3
 refine Qav x6 (fun k => ∀ x3 : Int, QhZ x3 x6 (x6.length : Int) (k : Int) = Qih x3 x6 (x6.length : Int) (k : Int)) ?_ ?_ k hk
 ·intro x3
  rw [Qs0]
  simp only [QkS, Qih, Qaz, Nat.lt_irrefl, decide_false, Qae, Int.toNat_natCast, List.drop_length, List.foldl_nil]
 ·intro k hk ih x3
  rw [Qs0]
  simp only [QkS, Qaz, Qay, hk, decide_true, Qac, Int.toNat_natCast, add1 (show k < 4611686018427387904 by omega), QaG (y := .int .u8) hk, ih]
  simp only [Qih, Int.toNat_natCast, List.drop_eq_getElem_cons hk, List.foldl_cons, stepS]
theorem QEQ : ∀ S l p, Qj2.L 0 (fgt QfO S) = some (true, l) → pickA l = some p → loopF (Qaj Qj2 QfO Qho) S = some p :=
 QaF (s := QmI) ⟨by decide, by decide⟩ (by kernel_rfl) fun x y hok p hp => by
 simp only [Qar, Qap] at hp
 exact (QJg x.1 x.2.1 x.2.2.1 x.2.2.2.1 (by simpa using hok)).trans hp
theorem QPH : Qum.lok Qj2 := by
 repeat (first | exact trivial | exact QEQ | refine ⟨?_, ?_⟩)
theorem s_f119 (b : List Int) (h : lenB b = true) : QDC b = some (.t tI (sumB b), []) := by
 simp only [lenB, decide_eq_true_eq] at h
 simp only [QDC, rng_0 h, Qac, Int.toNat_zero, List.drop_zero]
 rfl
def QBM : Ent := spec (.pr (.sl (.int .u8)) .nil) (fun x => (lenB x.1)) (fun x => (.t tI (sumB x.1)))
theorem QOM : Meets Tryz.prog 119 (strip QBM) := Qaf (R := runF Qj2 Qum QCG false) (mG Tryz.func119 (by kernel_rfl) Tryz.ntmps119 (by kernel_rfl) QQW QPH) fun x hok => (e_f119 x.1).trans (s_f119 x.1 hok)
def QfS : Fg := ⟨[(0, some (.sl (.int .u8))), (3, some (.int .u32)), (4, some tI)], []⟩
noncomputable def Qhs : TC := (.sq (.sq (.reg (rT Tryz.f110 3)) (.cd (.t 8) .sk (.fg ⟨[(3, some (.int .u32))], []⟩ (.ex 0)))) (.sq (.bk 1 (.reg (rT Tryz.f110 4))) (.reg (rT Tryz.f110 5))))
noncomputable def Quv : TC := (.sq (.reg (rT Tryz.f110 0)) (.sq (.reg (rT Tryz.f110 1)) (.sq (.sq (.reg (rT Tryz.f110 2)) (.bk 0 (.lp 0 QfS Qhs))) (.sq (.reg (rT Tryz.f110 6)) .rt))))
def QCP : List (RV × Option Ty) := [((.t 2), some tI)]
abbrev QmM : Sh := ⟨[(0, .ty (.sl (.int .u8))), (3, .ty (.int .u32)), (4, .ty tI)], []⟩
def Qmg (x0 : List Int) (x3 x4 : Int) : VS := QmM.st (x0, x3, x4, ()) ()
abbrev Qr1 : Sh := ⟨[(3, .ty (.int .u32))], []⟩
def Qdx (x3 : Int) : VS := Qr1.st (x3, ()) ()
def QLd : VS → Option (Bool × List (Bool × Exit × VS)) := mkL QmM (fun x y => (idxOk x.1 x.2.2.1)) (fun x y => [(true, .exit 0, Qdx ((x.1.drop x.2.2.1.toNat).foldl stepS x.2.1))])
def Qj6 : G := ⟨TYs, [], 21, EL [], keeps, (Ls [QLd]), IL [], RL []⟩
def QyR (x0 : List Int) (x3 x4 : Int) : Option (Exit × VS) := br (ilt x4 (llen x0)) (br (cIx x0 x4) (some (.normal, Qmg x0 (imul .u32 (ibxor .u32 x3 (icv .u32 (lgt (.int .u8) x0 (Int.toNat x4)))) 16777619) (iadd .i64 x4 1))) none) (some (.exit 0, Qdx x3))
noncomputable def Qh2 (x0 : List Int) (x3 x4 : Int) : Option (Exit × VS) := loopF (Qaj Qj6 QfS Qhs) (Qmg x0 x3 x4)
noncomputable def QkW (x0 : List Int) (x3 x4 : Int) : Option (Exit × VS) := br (ilt x4 (llen x0)) (br (cIx x0 x4) (Qh2 x0 (imul .u32 (ibxor .u32 x3 (icv .u32 (lgt (.int .u8) x0 (Int.toNat x4)))) 16777619) (iadd .i64 x4 1)) none) (some (.exit 0, Qdx x3))
def Qil (x0 : List Int) (x3 x4 : Int) : Option (Exit × VS) := some (.exit 0, Qdx ((x0.drop x4.toNat).foldl stepS x3))
theorem QG8 (x0 : List Int) (x3 x4 : Int) : Qaj Qj6 QfS Qhs (Qmg x0 x3 x4) = QyR x0 x3 x4 := by kernel_rfl
theorem Qs4 (x0 : List Int) (x3 x4 : Int) : Qh2 x0 x3 x4 = QkW x0 x3 x4 := (Qaq _ _).trans (by
 rw [QG8]
 simp only [QyR, QkW, QaE, nxt_n, nxt_r, nxt_e, nxt_0]
 rfl)
def QDK (p0 : List Int) : Option (V × List VO) := br (idxOk p0 (0 : Int)) (some (.t tI (icv .i64 ((p0.drop (0 : Int).toNat).foldl stepS (2166136261 : Int))), [])) none
theorem e_f110 (p0 : List Int) : runF Qj6 Quv QCP false [.t (.sl (.int .u8)) p0] [] = QDK p0 := by kernel_rfl
theorem QRG : Qag Tryz.prog 110 := .inr ⟨by decide, _, Tryz.func110, by kernel_rfl, by kernel_rfl⟩
theorem QQ5 : GOk Tryz.prog Qj6 := Qao _ (fun p hp => by cases hp)
theorem QJk (x0 : List Int) (x3 x4 : Int) (h : (idxOk x0 x4) = true) : Qh2 x0 x3 x4 = Qil x0 x3 x4 := by
 simp only [idxOk, decide_eq_true_eq] at h
 obtain ⟨h0, h1, h2⟩ := h
 obtain ⟨k, rfl⟩ := Int.eq_ofNat_of_zero_le h0
 revert x3
 refine Qav x0 (fun k => ∀ x3 : Int, Qh2 x0 x3 (k : Int) = Qil x0 x3 (k : Int)) ?_ ?_ k (by omega)
 ·intro x3
  rw [Qs4]
  simp only [QkW, Qil, show ilt (x0.length : Int) (llen x0) = false from decide_eq_false (by simp only [llen]; omega), Qae, Int.toNat_natCast, List.drop_length, List.foldl_nil]
 ·intro k hk ih x3
  rw [Qs4]
  simp only [QkW, show ilt (k : Int) (llen x0) = true from decide_eq_true (by simp only [llen]; omega), Qay, hk, decide_true, Qac, Int.toNat_natCast, add1 (show k < 4611686018427387904 by omega), QaG (y := .int .u8) hk, ih]
  simp only [Qil, Int.toNat_natCast, List.drop_eq_getElem_cons hk, List.foldl_cons, stepS]
theorem QEU : ∀ S l p, Qj6.L 0 (fgt QfS S) = some (true, l) → pickA l = some p → loopF (Qaj Qj6 QfS Qhs) S = some p :=
 QaF (s := QmM) ⟨by decide, by decide⟩ (by kernel_rfl) fun x y hok p hp => by
 simp only [Qar, Qap] at hp
 exact (QJk x.1 x.2.1 x.2.2.1 (by simpa using hok)).trans hp
theorem QPQ : Quv.lok Qj6 := by
 repeat (first | exact trivial | exact QEU | refine ⟨?_, ?_⟩)
theorem s_f110 (b : List Int) (h : lenB b = true) : QDK b = some (.t tI (sumB b), []) := by
 simp only [lenB, decide_eq_true_eq] at h
 simp only [QDK, show idxOk b 0 = true from decide_eq_true (by omega), Qac, Int.toNat_zero, List.drop_zero]
 rfl
def QBU : Ent := spec (.pr (.sl (.int .u8)) .nil) (fun x => (lenB x.1)) (fun x => (.t tI (sumB x.1)))
theorem QOU : Meets Tryz.prog 110 (strip QBU) := Qaf (R := runF Qj6 Quv QCP false) (mG Tryz.func110 (by kernel_rfl) Tryz.ntmps110 (by kernel_rfl) QQ5 QPQ) fun x hok => (e_f110 x.1).trans (s_f110 x.1 hok)
theorem QNq (c : Qaa) : lenB (Qbg c).1 = true := decide_eq_true (by have := QzE c; omega)
def Qjd (c : Qaa) (k : Int) : Bool := ieq (Qbg c).2 0 && (ieq (cSeal c).1 k && ieq (cSeal c).2.1 (sumB (Qbg c).1))
def Qbx (c : Qaa) (_k : Int) : Bool := QaA c
noncomputable def QJZ : List DO := dT Tryz.f94 2
noncomputable def Qz3 : TC := (.sq (.reg (rT Tryz.f94 0)) (.sq (.reg (rT Tryz.f94 1)) (.sq (.dr QJZ [(0, []), (1, []), (2, []), (3, [2]), (4, [2]), (5, []), (6, []), (7, []), (8, []), (9, []), (10, []), (11, [])] (.of [0, 1, 2, 3, 4, 5, 6, 7, 8, 9, 10, 11])) .rt)))
def QL5 : List (RV × Option Ty) := [((.t 4), some .bool)]
def g_f94 : G := ⟨TYs, [], 23, EL [(118, QBN), (119, QBM)], keeps, (fun _ _ => none), IL [], RL []⟩
def r_f94 (p0 : Qaa) (p1 : Int) : Option (V × List VO) := br (QaA p0) (br (ieq ((Qbg p0).2) 0) (br (lenB ((Qbg p0).1)) (some (.t .bool (and (ieq p0.2.2.2.2.2.2.2.2.2.2.2.1.1 p1) (and (ieq p0.2.2.2.2.2.2.2.2.2.2.2.1.2.1 (sumB ((Qbg p0).1))) true)), [])) none) (some (.t .bool false, []))) none
theorem e_f94 (p0 : Qaa) (p1 : Int) : runF g_f94 Qz3 QL5 false [.t Qab p0, .t tI p1] [] = r_f94 p0 p1 := by kernel_rfl
theorem en_f94 : Qag Tryz.prog 94 := .inr ⟨by decide, _, Tryz.func94, by kernel_rfl, by kernel_rfl⟩
theorem gk_f94 : GOk Tryz.prog g_f94 := Qao _ (gA (gC QRz QON (gC QRy QOM gN)))
theorem lk_f94 : Qz3.lok g_f94 := by repeat (first | exact trivial | refine ⟨?_, ?_⟩)
theorem s_f94 (c : Qaa) (k : Int) (h : Qbx c k = true) : r_f94 c k = some (.t .bool (Qjd c k), []) := by
 simp only [r_f94, show QaA c = true from h, QNq, Qac, Bool.and_true]
 exact brA rfl
def QLl : Ent := spec (.pr Qab (.pr tI .nil)) (fun x => (Qbx x.1 x.2.1)) (fun x => (.t .bool (Qjd x.1 x.2.1)))
theorem ms_f94 : Meets Tryz.prog 94 (strip QLl) := Qaf (R := runF g_f94 Qz3 QL5 false) (mG Tryz.func94 (by kernel_rfl) Tryz.ntmps94 (by kernel_rfl) gk_f94 lk_f94) fun x hok => (e_f94 x.1 x.2.1).trans (s_f94 x.1 x.2.1 hok)
def copyC (c : Qaa) : Qaa := c
noncomputable def QAa : TC := (.sq (.reg (rT Tryz.f86 0)) (.sq (.reg (rT Tryz.f86 1)) (.sq (.reg (rT Tryz.f86 2)) .rt)))
def QMc : List (RV × Option Ty) := [((.c 2 true 15), some Qab)]
def g_f86 : G := ⟨TYs, [3], 9, EL [], keeps, (fun _ _ => none), IL [], RL []⟩
def r_f86 (p0 : Qaa) : Option (V × List VO) := br (cApp ([] : List ByteArray) p0.2.2.2.2.2.2.2.2.2.2.1 16) (some (.t Qab (p0.1, (p0.2.1, (p0.2.2.1, ((p0.2.2.2.1.1, (p0.2.2.2.1.2.1, ())), (p0.2.2.2.2.1, ((p0.2.2.2.2.2.1.1, (p0.2.2.2.2.2.1.2.1, ())), (p0.2.2.2.2.2.2.1, (p0.2.2.2.2.2.2.2.1, (p0.2.2.2.2.2.2.2.2.1, (p0.2.2.2.2.2.2.2.2.2.1, ((([] : List ByteArray) ++ p0.2.2.2.2.2.2.2.2.2.2.1), ((p0.2.2.2.2.2.2.2.2.2.2.2.1.1, (p0.2.2.2.2.2.2.2.2.2.2.2.1.2.1, ())), ())))))))))))), [])) none
theorem e_f86 (p0 : Qaa) : runF g_f86 QAa QMc false [.t Qab p0] [] = r_f86 p0 := by kernel_rfl
theorem QNB : Qag Tryz.prog 86 := .inr ⟨by decide, _, Tryz.func86, by kernel_rfl, by kernel_rfl⟩
theorem gk_f86 : GOk Tryz.prog g_f86 := Qao _ (fun p hp => by cases hp)
theorem lk_f86 : QAa.lok g_f86 := by repeat (first | exact trivial | refine ⟨?_, ?_⟩)
theorem QtD {c : Qaa} (h : QaA c = true) : (QaD c).length ≤ 100000 := by
 simp only [QaA, QbD, Bool.and_eq_true, decide_eq_true_eq] at h
 exact h.2.2.1
theorem s_f86 (c : Qaa) (h : QaA c = true) : r_f86 c = some (.t Qab (copyC c), []) := by
 have hn : c.2.2.2.2.2.2.2.2.2.2.1.length ≤ 100000 := QtD h
 simp only [r_f86]
 rw [cAppN (by omega) (by simp only [List.length_nil]; omega), Qac]
 rfl
def QBb : Ent := spec (.pr Qab .nil) (fun x => (QaA x.1)) (fun x => (.t Qab (copyC x.1)))
theorem QNi : Meets Tryz.prog 86 (strip QBb) := Qaf (R := runF g_f86 QAa QMc false) (mG Tryz.func86 (by kernel_rfl) Tryz.ntmps86 (by kernel_rfl) gk_f86 lk_f86) fun x hok => (e_f86 x.1).trans (s_f86 x.1 hok)
def sealC (c : Qaa) (s : Keep) : Qaa := (c.1, (c.2.1, (c.2.2.1, (c.2.2.2.1, (c.2.2.2.2.1, (c.2.2.2.2.2.1, (c.2.2.2.2.2.2.1, (c.2.2.2.2.2.2.2.1, (c.2.2.2.2.2.2.2.2.1, (c.2.2.2.2.2.2.2.2.2.1, (c.2.2.2.2.2.2.2.2.2.2.1, (s, ()))))))))))))
def unsC (c : Qaa) : Qaa := sealC c (0, (0, ()))
def Qml (c : Qaa) (k : Int) : Bool := !QaB (unsC c) || (ilt k 0 || igt k 2147483648)
abbrev zCert : Qaa := Ty.zero Qab
def signC (c : Qaa) (k : Int) : Qaa × Int := bif Qml c k then (zCert, 9) else (sealC c (k, (sumB (Qbg (unsC c)).1, ())), 0)
noncomputable def Qz9 : TC := (.sq (.reg (rT Tryz.f87 0)) (.sq (.reg (rT Tryz.f87 1)) (.sq (.reg (rT Tryz.f87 2)) (.sq (.sq (.reg (rT Tryz.f87 3)) (.cd (.t 22) (.sq (.reg (rT Tryz.f87 4)) .rt) .sk)) (.sq (.reg (rT Tryz.f87 5)) (.sq (.reg (rT Tryz.f87 6)) (.sq (.reg (rT Tryz.f87 7)) .rt)))))))
def QMb : List (RV × Option Ty) := [((.c 4 true 15), some Qab), ((.t 5), some tI)]
def g_f87 : G := ⟨TYs, [], 35, EL [(86, QBb), (97, QA7), (109, QBV), (110, QBU)], keeps, (fun _ _ => none), IL [], RL []⟩
def r_f87 (p0 : Qaa) (p1 : Int) : Option (V × List VO) :=
 let a4 := ((copyC p0).2)
 let a1 := ((((a4.2).2).2).2)
 let a5 := (((a1.2).2).2)
 let a2 := ((Qbg ((copyC p0).1, (a4.1, ((a4.2).1, (((a4.2).2).1, ((((a4.2).2).2).1, (a1.1, ((a1.2).1, (((a1.2).2).1, (a5.1, ((a5.2).1, (((a5.2).2).1, ((0, (0, ())), (((a5.2).2).2).2))))))))))))).1)
 let a3 := (QaA ((copyC p0).1, (a4.1, ((a4.2).1, (((a4.2).2).1, ((((a4.2).2).2).1, (a1.1, ((a1.2).1, (((a1.2).2).1, (a5.1, ((a5.2).1, (((a5.2).2).1, ((0, (0, ())), (((a5.2).2).2).2)))))))))))))
 let a6 := ByteArray.mk #[]
 br (QaA p0) (br a3 (br (ine (Qd6 ((copyC p0).1, (a4.1, ((a4.2).1, (((a4.2).2).1, ((((a4.2).2).2).1, (a1.1, ((a1.2).1, (((a1.2).2).1, (a5.1, ((a5.2).1, (((a5.2).2).1, ((0, (0, ())), (((a5.2).2).2).2))))))))))))) 0) (some (.tu [(.t Qab (0, (a6, (a6, ((0, (0, ())), (0, ((0, (0, ())), (0, (0, (false, (0, (([] : List ByteArray), ((0, (0, ())), ()))))))))))))), (.t tI 9)], [])) (br (ilt p1 0) (some (.tu [(.t Qab (0, (a6, (a6, ((0, (0, ())), (0, ((0, (0, ())), (0, (0, (false, (0, (([] : List ByteArray), ((0, (0, ())), ()))))))))))))), (.t tI 9)], [])) (br (igt p1 2147483648) (some (.tu [(.t Qab (0, (a6, (a6, ((0, (0, ())), (0, ((0, (0, ())), (0, (0, (false, (0, (([] : List ByteArray), ((0, (0, ())), ()))))))))))))), (.t tI 9)], [])) (br a3 (br (lenB a2) (some (.tu [(.t Qab ((copyC p0).1, (a4.1, ((a4.2).1, (((a4.2).2).1, ((((a4.2).2).2).1, (a1.1, ((a1.2).1, (((a1.2).2).1, (a5.1, ((a5.2).1, (((a5.2).2).1, ((p1, ((sumB a2), ())), (((a5.2).2).2).2))))))))))))), (.t tI 0)], [])) none) none)))) none) none
theorem e_f87 (p0 : Qaa) (p1 : Int) : runF g_f87 Qz9 QMb false [.t Qab p0, .t tI p1] [] = r_f87 p0 p1 := by kernel_rfl
theorem en_f87 : Qag Tryz.prog 87 := .inr ⟨by decide, _, Tryz.func87, by kernel_rfl, by kernel_rfl⟩
theorem gk_f87 : GOk Tryz.prog g_f87 := Qao _ (gA (gC QNB QNi (gC QNx QNe (gC QRH QOV (gC QRG QOU gN)))))
theorem lk_f87 : Qz9.lok g_f87 := by repeat (first | exact trivial | refine ⟨?_, ?_⟩)
theorem s_f87 (c : Qaa) (k : Int) (h : Qbx c k = true) : r_f87 c k = some (.tu [.t Qab (signC c k).1, .t tI (signC c k).2], []) := by
 have h : QaA c = true := h
 have hu : QaA (unsC c) = true := h
 have e : ((copyC c).1, ((copyC c).2.1, ((copyC c).2.2.1, ((copyC c).2.2.2.1, ((copyC c).2.2.2.2.1, ((copyC c).2.2.2.2.2.1, ((copyC c).2.2.2.2.2.2.1, ((copyC c).2.2.2.2.2.2.2.1, ((copyC c).2.2.2.2.2.2.2.2.1, ((copyC c).2.2.2.2.2.2.2.2.2.1, ((copyC c).2.2.2.2.2.2.2.2.2.2.1, ((0, (0, ())), ())))))))))))) = unsC c := rfl
 simp only [r_f87, h, e, hu, QfT, QNq, Qac]
 unfold signC Qml
 cases QaB (unsC c) with
 | false => rfl
 | true =>
  rw [Bool.not_true, Qae, Bool.false_or]
  cases ilt k 0 with
  | true => rfl
  | false =>
   rw [Qae, Bool.false_or]
   cases igt k 2147483648 <;> rfl
def QLo : Ent := spec (.pr Qab (.pr tI .nil)) (fun x => (Qbx x.1 x.2.1)) (fun x => (.tu [(.t Qab ((signC x.1 x.2.1).1)), (.t tI ((signC x.1 x.2.1).2))]))
theorem ms_f87 : Meets Tryz.prog 87 (strip QLo) := Qaf (R := runF g_f87 Qz9 QMb false) (mG Tryz.func87 (by kernel_rfl) Tryz.ntmps87 (by kernel_rfl) gk_f87 lk_f87) fun x hok => (e_f87 x.1 x.2.1).trans (s_f87 x.1 x.2.1 hok)
def QaJ (l : List Qaa) : Bool := decide (l.length ≤ 100000) && l.all QaA
def Qty (l : List Qaa) : List Qaa := l
def QiB : Fg := ⟨[(0, some (.sl Qab)), (3, none), (4, some tI)], [(3, none), (18, none)]⟩
noncomputable def Qkk : TC := (.sq (.sq (.reg (rT Tryz.f53 3)) (.cd (.t 8) .sk (.fg ⟨[(3, none)], [(3, none), (18, none)]⟩ (.ex 0)))) (.sq (.bk 1 (.reg (rT Tryz.f53 4))) (.reg (rT Tryz.f53 5))))
noncomputable def QAx : TC := (.sq (.reg (rT Tryz.f53 0)) (.sq (.reg (rT Tryz.f53 1)) (.sq (.sq (.reg (rT Tryz.f53 2)) (.bk 0 (.nw 3 98 (.lp 0 QiB Qkk)))) (.sq (.reg (rT Tryz.f53 6)) .rt))))
def QMz : List (RV × Option Ty) := [((.t 2), some (.sl Qab))]
abbrev Qpq : Sh := ⟨[(0, .ty (.sl Qab)), (3, .ms 3), (4, .ty tI)], [(3, .arr 98 Qab), (18, .no)]⟩
def Qo1 (x0 : List Qaa) (x4 : Int) (y3 : List Qaa) : VS := Qpq.st (x0, (), x4, ()) (y3, (), ())
abbrev Qu4 : Sh := ⟨[(3, .ms 3)], [(3, .arr 98 Qab), (18, .no)]⟩
def Qel (y3 : List Qaa) : VS := Qu4.st ((), ()) (y3, (), ())
def QSe : VS → Option (Bool × List (Bool × Exit × VS)) := mkL Qpq (fun x y => (decide (0 ≤ x.2.2.1 ∧ x.2.2.1 ≤ x.1.length ∧ y.1.length ≤ x.2.2.1.toNat) && QaJ x.1)) (fun x y => [(true, .exit 0, Qel (y.1 ++ x.1.drop x.2.2.1.toNat))])
def g_f53 : G := ⟨TYs, [], 20, EL [(86, QBb)], keeps, (Ls [QSe]), IL [], RL []⟩
def QHi (x0 : List Qaa) (x4 : Int) (y3 : List Qaa) : Option (Exit × VS) :=
 let a1 := (((copyC (lgt Qab x0 (Int.toNat x4))).2).2)
 let a2 := ((copyC (lgt Qab x0 (Int.toNat x4))).1, (((copyC (lgt Qab x0 (Int.toNat x4))).2).1, (a1.1, ((((a1.2).1).1, ((((a1.2).1).2).1, ())), (((a1.2).2).1, ((((((a1.2).2).2).1).1, ((((((a1.2).2).2).1).2).1, ())), (((((a1.2).2).2).2).1, ((((((a1.2).2).2).2).2).1, (((((((a1.2).2).2).2).2).2).1, ((((((((a1.2).2).2).2).2).2).2).1, (((((((((a1.2).2).2).2).2).2).2).2).1, ((((((((((((a1.2).2).2).2).2).2).2).2).2).1).1, ((((((((((((a1.2).2).2).2).2).2).2).2).2).1).2).1, ())), ()))))))))))))
 br (ilt x4 (llen x0)) (br (cIx x0 x4) (br (QaA (lgt Qab x0 (Int.toNat x4))) (br (cApp y3 ([a2]) 152) (some (.normal, Qo1 x0 (iadd .i64 x4 1) (y3 ++ ([a2])))) none) none) none) (some (.exit 0, Qel y3))
noncomputable def Qk3 (x0 : List Qaa) (x4 : Int) (y3 : List Qaa) : Option (Exit × VS) := loopF (Qaj g_f53 QiB Qkk) (Qo1 x0 x4 y3)
noncomputable def Qqk (x0 : List Qaa) (x4 : Int) (y3 : List Qaa) : Option (Exit × VS) :=
 let a1 := (((copyC (lgt Qab x0 (Int.toNat x4))).2).2)
 let a2 := ((copyC (lgt Qab x0 (Int.toNat x4))).1, (((copyC (lgt Qab x0 (Int.toNat x4))).2).1, (a1.1, ((((a1.2).1).1, ((((a1.2).1).2).1, ())), (((a1.2).2).1, ((((((a1.2).2).2).1).1, ((((((a1.2).2).2).1).2).1, ())), (((((a1.2).2).2).2).1, ((((((a1.2).2).2).2).2).1, (((((((a1.2).2).2).2).2).2).1, ((((((((a1.2).2).2).2).2).2).2).1, (((((((((a1.2).2).2).2).2).2).2).2).1, ((((((((((((a1.2).2).2).2).2).2).2).2).2).1).1, ((((((((((((a1.2).2).2).2).2).2).2).2).2).1).2).1, ())), ()))))))))))))
 br (ilt x4 (llen x0)) (br (cIx x0 x4) (br (QaA (lgt Qab x0 (Int.toNat x4))) (br (cApp y3 ([a2]) 152) (Qk3 x0 (iadd .i64 x4 1) (y3 ++ ([a2]))) none) none) none) (some (.exit 0, Qel y3))
def Qlj (x0 : List Qaa) (x4 : Int) (y3 : List Qaa) : Option (Exit × VS) := some (.exit 0, Qel (y3 ++ x0.drop x4.toNat))
theorem QKB (x0 : List Qaa) (x4 : Int) (y3 : List Qaa) : Qaj g_f53 QiB Qkk (Qo1 x0 x4 y3) = QHi x0 x4 y3 := by kernel_rfl
theorem Qxj (x0 : List Qaa) (x4 : Int) (y3 : List Qaa) : Qk3 x0 x4 y3 = Qqk x0 x4 y3 := (Qaq _ _).trans (by
 rw [QKB]
 simp only [QHi, Qqk, QaE, nxt_n, nxt_r, nxt_e, nxt_0]
 rfl)
def r_f53 (p0 : List Qaa) : Option (V × List VO) := br (decide (0 ≤ (0 : Int) ∧ (0 : Int) ≤ p0.length ∧ ([] : List Qaa).length ≤ (0 : Int).toNat) && QaJ p0) (some (.t (.sl Qab) (([] : List Qaa) ++ p0.drop (0 : Int).toNat), [])) none
theorem e_f53 (p0 : List Qaa) : runF g_f53 QAx QMz false [.t (.sl Qab) p0] [] = r_f53 p0 := by kernel_rfl
theorem en_f53 : Qag Tryz.prog 53 := .inr ⟨by decide, _, Tryz.func53, by kernel_rfl, by kernel_rfl⟩
theorem gk_f53 : GOk Tryz.prog g_f53 := Qao _ (gA (gC QNB QNi gN))
theorem QP6 (x0 : List Qaa) (x4 : Int) (y3 : List Qaa) (h : (decide (0 ≤ x4 ∧ x4 ≤ x0.length ∧ y3.length ≤ x4.toNat) && QaJ x0) = true) : Qk3 x0 x4 y3 = Qlj x0 x4 y3 := by
 simp only [QaJ, Bool.and_eq_true, decide_eq_true_eq, List.all_eq_true] at h
 obtain ⟨⟨h0, h1, h2⟩, h3, hc⟩ := h
 obtain ⟨k, rfl⟩ := Int.eq_ofNat_of_zero_le h0
 rw [Int.toNat_natCast] at h2
 revert y3
 refine Qav x0 (fun k => ∀ y3 : List Qaa, y3.length ≤ k → Qk3 x0 (k : Int) y3 = Qlj x0 (k : Int) y3) ?_ ?_ k (by omega)
 ·intro y3 _
  rw [Qxj]
  simp only [Qqk, Qlj, show ilt (x0.length : Int) (llen x0) = false from decide_eq_false (by simp only [llen]; omega), Qae, Int.toNat_natCast, List.drop_length, List.append_nil]
 ·intro k hk ih y3 hy
  rw [Qxj]
  have hx := hc x0[k] (List.getElem_mem hk)
  simp only [Qqk, show ilt (k : Int) (llen x0) = true from decide_eq_true (by simp only [llen]; omega), Qay, hk, decide_true, Qac, Int.toNat_natCast, add1 (show k < 4611686018427387904 by omega), QaG (y := Qab) hk, hx]
  rw [cAppN (by omega) (by simp only [List.length_singleton]; omega), Qac, ih _ (by simp only [List.length_append, List.length_singleton]; omega)]
  simp only [Qlj, Int.toNat_natCast, List.drop_eq_getElem_cons hk, List.append_assoc, List.singleton_append, copyC]
theorem QII : ∀ S l p, g_f53.L 0 (fgt QiB S) = some (true, l) → pickA l = some p → loopF (Qaj g_f53 QiB Qkk) S = some p :=
 QaF (s := Qpq) ⟨by decide, by decide⟩ (by kernel_rfl) fun x y hok p hp => by
 simp only [Qar, Qap] at hp
 exact (QP6 x.1 x.2.2.1 y.1 (by simpa using hok)).trans hp
theorem lk_f53 : QAx.lok g_f53 := by
 repeat (first | exact trivial | exact QII | refine ⟨?_, ?_⟩)
theorem s_f53 (l : List Qaa) (h : QaJ l = true) : r_f53 l = some (.t (.sl Qab) (Qty l), []) := by
 have hl : l.length ≤ 100000 := by simp only [QaJ, Bool.and_eq_true, decide_eq_true_eq] at h; exact h.1
 have hd : (0 : Int) ≤ 0 ∧ (0 : Int) ≤ l.length ∧ ([] : List Qaa).length ≤ 0 := ⟨by omega, by omega, by simp⟩
 simp only [r_f53, h, Bool.and_true, Int.toNat_zero, List.drop_zero, List.nil_append]
 rw [decide_eq_true hd]
 rfl
def QLH : Ent := spec (.pr (.sl Qab) .nil) (fun x => (QaJ x.1)) (fun x => (.t (.sl Qab) (Qty x.1)))
theorem ms_f53 : Meets Tryz.prog 53 (strip QLH) := Qaf (R := runF g_f53 QAx QMz false) (mG Tryz.func53 (by kernel_rfl) Tryz.ntmps53 (by kernel_rfl) gk_f53 lk_f53) fun x hok => (e_f53 x.1).trans (s_f53 x.1 hok)
def Qjr (key : Keep) (id : Int) (l : List Qaa) : Bool := ieq (llen l) 0 || (((l.getD 0 zCert).2.2.2.1 == key) && ieq (l.getD 0 zCert).2.2.2.2.1 id)
def Qgw (key : Keep) (id : Int) (l : List Qaa) : Bool := Qct key && (!ine (kindF key.1) 2 && (keyI id && (!igt (llen l) 8 && (l.all QaB && Qjr key id l))))
def Qmm (_key : Keep) (_id : Int) (l : List Qaa) : Bool := QaJ l
theorem Qzs (key : Keep) (id : Int) (l : List Qaa) : br (ieq (llen l) 0) (some (V.t .bool true, ([] : List VO))) (br (cIx l 0) (br ((lgt Qab l 0).2.2.2.1 == key) (br (cIx l 0) (some (V.t .bool (ieq (lgt Qab l 0).2.2.2.2.1 id), [])) none) (some (V.t .bool false, []))) none) = some (V.t .bool (Qjr key id l), []) := by
 unfold Qjr
 cases l with
 | nil => rfl
 | cons c l =>
  have h1 : ieq (llen (c :: l)) 0 = false := by
   simp only [ieq, llen, List.length_cons, beq_eq_false_iff_ne]
   omega
  have h2 : cIx (c :: l) 0 = true := by simp only [cIx, List.length_cons, decide_eq_true_eq]; omega
  rw [h1, Qae, h2, Qac, Bool.false_or, Qac]
  show br (c.2.2.2.1 == key) _ _ = some (V.t .bool ((c.2.2.2.1 == key) && ieq c.2.2.2.2.1 id), [])
  cases c.2.2.2.1 == key <;> rfl
noncomputable def QJ0 : List DO := dT Tryz.f78 9
def Qiv : Fg := ⟨[(1, some tI), (2, some (.sl Qab)), (3, none), (28, some (.sl Qab)), (29, some tI), (30, some tI)], [(3, some Qan)]⟩
noncomputable def Qke : TC := (.sq (.reg (rT Tryz.f78 4)) (.sq (.cd (.t 31) .sk (.fg ⟨[(1, some tI), (2, some (.sl Qab)), (3, none)], [(3, some Qan)]⟩ (.ex 0))) (.sq (.bk 1 (.sq (.reg (rT Tryz.f78 5)) (.sq (.reg (rT Tryz.f78 6)) (.cd (.t 36) (.sq (.reg (rT Tryz.f78 7)) (.fg ⟨[(6, some .bool)], []⟩ .rt)) .sk)))) (.reg (rT Tryz.f78 8)))))
noncomputable def QAf : TC := (.sq (.reg (rT Tryz.f78 0)) (.sq (.sq (.reg (rT Tryz.f78 1)) (.cd (.t 27) (.sq (.reg (rT Tryz.f78 2)) .rt) .sk)) (.sq (.sq (.reg (rT Tryz.f78 3)) (.bk 0 (.lp 0 Qiv Qke))) (.sq (.dr QJ0 [(0, []), (1, []), (2, []), (3, []), (4, []), (5, []), (6, []), (7, []), (8, [3]), (9, []), (10, []), (11, []), (12, []), (13, []), (14, []), (15, []), (16, []), (17, []), (18, []), (19, [])] (.of [0, 1, 2, 3, 4, 5, 6, 7, 8, 9, 10, 11, 12, 13, 14, 15, 16, 17, 18, 19])) .rt))))
def QMh : List (RV × Option Ty) := [((.t 6), some .bool)]
abbrev Qpk : Sh := ⟨[(1, .ty tI), (2, .ty (.sl Qab)), (3, .ptr 3 0), (28, .ty (.sl Qab)), (29, .ty tI), (30, .ty tI)], [(3, .box Qan)]⟩
def QoX (x1 : Int) (x2 x28 : List Qaa) (x29 x30 : Int) (y3 : Keep) : VS := Qpk.st (x1, x2, (), x28, x29, x30, ()) (y3, ())
abbrev Qrx : Sh := ⟨[(6, .ty .bool)], []⟩
def Qc7 (x6 : Bool) : VS := Qrx.st (x6, ()) ()
abbrev QuW : Sh := ⟨[(1, .ty tI), (2, .ty (.sl Qab)), (3, .ptr 3 0)], [(3, .box Qan)]⟩
def Qef (x1 : Int) (x2 : List Qaa) (y3 : Keep) : VS := QuW.st (x1, x2, (), ()) (y3, ())
def QR8 : VS → Option (Bool × List (Bool × Exit × VS)) := mkL Qpk (fun x y => (rngOk x.2.2.2.1 x.2.2.2.2.1 x.2.2.2.2.2.1 && QaJ x.2.2.2.1)) (fun x y => [((!(x.2.2.2.1.drop x.2.2.2.2.2.1.toNat).all QaB), .ret, Qc7 (false)), (true, .exit 0, Qef (x.1) (x.2.1) (y.1))])
def g_f78 : G := ⟨TYs, [], 57, EL [(62, QBd), (82, QwB), (107, QuO), (108, Qpd)], keeps, (Ls [QR8]), IL [], RL []⟩
def QHc (x1 : Int) (x2 x28 : List Qaa) (x29 x30 : Int) (y3 : Keep) : Option (Exit × VS) :=
 let a1 := lgt Qab x28 (Int.toNat x30)
 br (ilt x30 x29) (br (cIx x28 x30) (br (QaA a1) (br (ine (Qd6 a1) 0) (some (.ret, Qc7 false)) (some (.normal, QoX x1 x2 x28 x29 (iadd .i64 x30 1) y3))) none) none) (some (.exit 0, Qef x1 x2 y3))
noncomputable def QkZ (x1 : Int) (x2 x28 : List Qaa) (x29 x30 : Int) (y3 : Keep) : Option (Exit × VS) := loopF (Qaj g_f78 Qiv Qke) (QoX x1 x2 x28 x29 x30 y3)
noncomputable def Qqf (x1 : Int) (x2 x28 : List Qaa) (x29 x30 : Int) (y3 : Keep) : Option (Exit × VS) :=
 let a1 := lgt Qab x28 (Int.toNat x30)
 br (ilt x30 x29) (br (cIx x28 x30) (br (QaA a1) (br (ine (Qd6 a1) 0) (some (.ret, Qc7 false)) (QkZ x1 x2 x28 x29 (iadd .i64 x30 1) y3)) none) none) (some (.exit 0, Qef x1 x2 y3))
def Qle (x1 : Int) (x2 x28 : List Qaa) (x29 x30 : Int) (y3 : Keep) : Option (Exit × VS) := br (!(x28.drop x30.toNat).all QaB) (some (.ret, Qc7 (false))) <| some (.exit 0, Qef (x1) (x2) (y3))
theorem QKv (x1 : Int) (x2 x28 : List Qaa) (x29 x30 : Int) (y3 : Keep) : Qaj g_f78 Qiv Qke (QoX x1 x2 x28 x29 x30 y3) = QHc x1 x2 x28 x29 x30 y3 := by kernel_rfl
theorem Qxc (x1 : Int) (x2 x28 : List Qaa) (x29 x30 : Int) (y3 : Keep) : QkZ x1 x2 x28 x29 x30 y3 = Qqf x1 x2 x28 x29 x30 y3 := (Qaq _ _).trans (by
 rw [QKv]
 simp only [QHc, Qqf, QaE, nxt_n, nxt_r, nxt_e, nxt_0]
 rfl)
def r_f78 (p0 : Keep) (p1 : Int) (p2 : List Qaa) : Option (V × List VO) :=
 let a1 := ((((lgt Qab (p2) (Int.toNat 0)).2).2).2)
 br (!(Qct p0)) (some (.t .bool false, [])) (br (ine (kindF p0.1) 2) (some (.t .bool false, [])) (br (!(keyI p1)) (some (.t .bool false, [])) (br (igt (llen p2) 8) (some (.t .bool false, [])) (br (rngOk p2 (llen p2) (0 : Int) && QaJ p2) (br (!(p2.drop (0 : Int).toNat).all QaB) (some (.t .bool (false), [])) (br (ieq (llen (p2)) 0) (some (.t .bool true, [])) (br (cIx (p2) 0) (br (and (ieq ((a1.1).1) ((p0).1)) (and (ieq (((a1.1).2).1) (((p0).2).1)) true)) (br (cIx (p2) 0) (some (.t .bool (ieq ((a1.2).1) (p1)), [])) none) (some (.t .bool false, []))) none))) none))))
theorem e_f78 (p0 : Keep) (p1 : Int) (p2 : List Qaa) : runF g_f78 QAf QMh false [.t Qan p0, .t tI p1, .t (.sl Qab) p2] [] = r_f78 p0 p1 p2 := by kernel_rfl
theorem en_f78 : Qag Tryz.prog 78 := .inr ⟨by decide, _, Tryz.func78, by kernel_rfl, by kernel_rfl⟩
theorem gk_f78 : GOk Tryz.prog g_f78 := Qao _ (gA (gC QND QNk (gC QFQ QD7 (gC QGi QEr (gC Qwg QvM gN)))))
theorem QP0 (x1 : Int) (x2 x28 : List Qaa) (x29 x30 : Int) (y3 : Keep) (h : (rngOk x28 x29 x30 && QaJ x28) = true) : QkZ x1 x2 x28 x29 x30 y3 = Qle x1 x2 x28 x29 x30 y3 := by
 simp only [Bool.and_eq_true] at h
 obtain ⟨h0, hc⟩ := h
 obtain ⟨rfl, h3, k, rfl, hk⟩ := rng_k h0
 clear h0
 simp only [QaJ, Bool.and_eq_true, List.all_eq_true] at hc
 refine Qav x28 (fun k => QkZ x1 x2 x28 (x28.length : Int) (k : Int) y3 = Qle x1 x2 x28 (x28.length : Int) (k : Int) y3) ?_ ?_ k hk
 ·rw [Qxc]
  simp only [Qqf, Qle, Qaz, Nat.lt_irrefl, decide_false, Qae, Int.toNat_natCast, List.drop_length, List.all_nil, Bool.not_true]
 ·intro k hk ih
  rw [Qxc]
  have hx := hc.2 x28[k] (List.getElem_mem hk)
  simp only [Qqf, Qaz, Qay, hk, decide_true, Qac, Int.toNat_natCast, add1 (show k < 4611686018427387904 by omega), QaG (y := Qab) hk, hx, QfT, ih]
  simp only [Qle, Int.toNat_natCast, List.drop_eq_getElem_cons hk, List.all_cons]
  cases QaB x28[k] <;> rfl
theorem QIC : ∀ S l p, g_f78.L 0 (fgt Qiv S) = some (true, l) → pickA l = some p → loopF (Qaj g_f78 Qiv Qke) S = some p :=
 QaF (s := Qpk) ⟨by decide, by decide⟩ (by kernel_rfl) fun x y hok p hp => by
 simp only [Qar, Qap] at hp
 exact (QP0 x.1 x.2.1 x.2.2.2.1 x.2.2.2.2.1 x.2.2.2.2.2.1 y.1 (by simpa using hok)).trans hp
theorem lk_f78 : QAf.lok g_f78 := by
 repeat (first | exact trivial | exact QIC | refine ⟨?_, ?_⟩)
theorem s_f78 (key : Keep) (id : Int) (l : List Qaa) (h : Qmm key id l = true) : r_f78 key id l = some (.t .bool (Qgw key id l), []) := by
 have h : QaJ l = true := h
 have hl : l.length ≤ 100000 := by simp only [QaJ, Bool.and_eq_true, decide_eq_true_eq] at h; exact h.1
 simp only [r_f78, rng_0 hl, h, Bool.and_self, Qac, Int.toNat_zero, List.drop_zero, QQk]
 unfold Qgw
 refine (brB <| brB <| brB <| brB <| brB (Qzs key id l)).trans ?_
 simp only [Bool.not_not]
def QLs : Ent := spec (.pr Qan (.pr tI (.pr (.sl Qab) .nil))) (fun x => (Qmm x.1 x.2.1 x.2.2.1)) (fun x => (.t .bool (Qgw x.1 x.2.1 x.2.2.1)))
theorem ms_f78 : Meets Tryz.prog 78 (strip QLs) := Qaf (R := runF g_f78 QAf QMh false) (mG Tryz.func78 (by kernel_rfl) Tryz.ntmps78 (by kernel_rfl) gk_f78 lk_f78) fun x hok => (e_f78 x.1 x.2.1 x.2.2.1).trans (s_f78 x.1 x.2.1 x.2.2.1 hok)
end
end Go.Proofs.YtkngeegkjhipeaaGreat.K
