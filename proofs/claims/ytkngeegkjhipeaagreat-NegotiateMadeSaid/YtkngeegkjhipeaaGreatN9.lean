import Derived.Test.YtkngeegkjhipeaaGreatN8
set_option linter.unusedSimpArgs false
set_option linter.unusedVariables false
namespace Go.Proofs.YtkngeegkjhipeaaGreat.K
open Go.RowKit
noncomputable section
def Qbk (c : Qaa) : List Int × Int := bif QaH c then encE (bodyT c) else ([], 9)
theorem QJB {c : Qaa} (h : QaH c = true) : Qbk c = (encT (bodyT c), 0) := by
 have := QsP h
 rw [Qbk, h, cond_true, encE, if_neg (by omega)]
theorem QCj (c : Qaa) : (Qbk c).1.length ≤ 1000 := by
 cases h : QaH c with
 | true =>
  rw [QJB h]
  exact QsP h
 | false =>
  rw [Qbk, h]
  simp
noncomputable def Qwy : TC := (.sq (.reg (rT Tryz.f118 0)) (.sq (.sq (.reg (rT Tryz.f118 1)) (.cd (.t 6) (.sq (.reg (rT Tryz.f118 2)) .rt) .sk)) (.sq (.reg (rT Tryz.f118 3)) .rt)))
def QFC : List (RV × Option Ty) := [((.t 2), some (.sl (.int .u8))), ((.t 3), some tI)]
def QAI : G := ⟨TYs, [], 12, EL [(91, QDY), (138, QEA), (139, QEz)], keeps, (fun _ _ => none), IL [], RL []⟩
def Qzo (p0 : Qaa) : Option (V × List VO) := br (QaC p0) (br (!(QaH p0)) (some (.tu [(.t (.sl (.int .u8)) ([] : List Int)), (.t tI 9)], [])) (br (QfH p0) (br (encOk (bodyT p0)) (some (.tu [(.t (.sl (.int .u8)) ((encE (bodyT p0)).1)), (.t tI ((encE (bodyT p0)).2))], [])) none) none)) none
theorem e_f118 (p0 : Qaa) : runF QAI Qwy QFC false [.t Qab p0] [] = Qzo p0 := by kernel_rfl
theorem QVz : Qai Tryz.prog 118 := .inr ⟨by decide, _, Tryz.func118, by kernel_rfl, by kernel_rfl⟩
theorem QUV : GOk Tryz.prog QAI := Qal _ (gA (gC QRo QQ2 (gC QVs QSt (gC QVr QSs gN))))
theorem QTu : Qwy.lok QAI := by repeat (first | exact trivial | refine ⟨?_, ?_⟩)
theorem s_f118 (c : Qaa) (h : QaC c = true) : Qzo c = some (.tu [.t (.sl (.int .u8)) (Qbk c).1, .t tI (Qbk c).2], []) := by
 unfold Qbk
 cases hv : QaH c with
 | true => simp only [Qzo, h, hv, QRm hv, show QfH c = true from by rw [QfH, h, hv]; rfl, Bool.not_true, Qac, Qaf, cond_true]
 | false => simp only [Qzo, h, hv, Bool.not_false, Qac, cond_false]
def QEI : Ent := spec (.pr Qab .nil) (fun x => (QaC x.1)) (fun x => (.tu [(.t (.sl (.int .u8)) ((Qbk x.1).1)), (.t tI ((Qbk x.1).2))]))
theorem QSA : Meets Tryz.prog 118 (strip QEI) := Qag (R := runF QAI Qwy QFC false) (mG Tryz.func118 (by kernel_rfl) Tryz.ntmps118 (by kernel_rfl) QUV QTu) fun x hok => (e_f118 x.1).trans (s_f118 x.1 hok)
noncomputable def QwH : TC := (.sq (.reg (rT Tryz.f109 0)) (.sq (.sq (.reg (rT Tryz.f109 1)) (.cd (.t 6) (.sq (.reg (rT Tryz.f109 2)) .rt) .sk)) (.sq (.reg (rT Tryz.f109 3)) .rt)))
def QFL : List (RV × Option Ty) := [((.t 2), some (.sl (.int .u8))), ((.t 3), some tI)]
def QAN : G := ⟨TYs, [], 12, EL [(97, Qtd), (136, QEC), (137, QEB)], keeps, (fun _ _ => none), IL [], RL []⟩
def Qzp (p0 : Qaa) : Option (V × List VO) := br (QaC p0) (br (ine (QcK p0) 0) (some (.tu [(.t (.sl (.int .u8)) ([] : List Int)), (.t tI 9)], [])) (br (QfH p0) (br (encOk (bodyT p0)) (some (.tu [(.t (.sl (.int .u8)) ((encE (bodyT p0)).1)), (.t tI ((encE (bodyT p0)).2))], [])) none) none)) none
theorem e_f109 (p0 : Qaa) : runF QAN QwH QFL false [.t Qab p0] [] = Qzp p0 := by kernel_rfl
theorem QJe : Qai Tryz.prog 109 := .inr ⟨by decide, _, Tryz.func109, by kernel_rfl, by kernel_rfl⟩
theorem QU4 : GOk Tryz.prog QAN := Qal _ (gA (gC QA5 Qzx (gC QVu QSv (gC QVt QSu gN))))
theorem QTD : QwH.lok QAN := by repeat (first | exact trivial | refine ⟨?_, ?_⟩)
theorem s_f109 (c : Qaa) (h : QaC c = true) : Qzp c = some (.tu [.t (.sl (.int .u8)) (Qbk c).1, .t tI (Qbk c).2], []) := by
 unfold Qbk
 cases hv : QaH c with
 | true => simp only [Qzp, h, hv, Qdg, QRm hv, show QfH c = true from by rw [QfH, h, hv]; rfl, Bool.not_true, Qac, Qaf, cond_true]
 | false => simp only [Qzp, h, hv, Qdg, Bool.not_false, Qac, cond_false]
def QwZ : Ent := spec (.pr Qab .nil) (fun x => (QaC x.1)) (fun x => (.tu [(.t (.sl (.int .u8)) ((Qbk x.1).1)), (.t tI ((Qbk x.1).2))]))
theorem QHp : Meets Tryz.prog 109 (strip QwZ) := Qag (R := runF QAN QwH QFL false) (mG Tryz.func109 (by kernel_rfl) Tryz.ntmps109 (by kernel_rfl) QU4 QTD) fun x hok => (e_f109 x.1).trans (s_f109 x.1 hok)
def stepS (s x : Int) : Int := imul .u32 (ibxor .u32 s (icv .u32 x)) 16777619
def sumB (b : List Int) : Int := icv .i64 (b.foldl stepS 2166136261)
def lenB (b : List Int) : Bool := decide (b.length ≤ 100000)
def Qgq : Fg := ⟨[(3, some (.int .u32)), (6, some (.sl (.int .u8))), (7, some tI), (8, some tI)], []⟩
noncomputable def QhY : TC := (.sq (.reg (rT Tryz.f119 3)) (.sq (.cd (.t 9) .sk (.fg ⟨[(3, some (.int .u32))], []⟩ (.ex 0))) (.sq (.bk 1 (.sq (.reg (rT Tryz.f119 4)) (.reg (rT Tryz.f119 5)))) (.reg (rT Tryz.f119 6)))))
noncomputable def Qwx : TC := (.sq (.reg (rT Tryz.f119 0)) (.sq (.reg (rT Tryz.f119 1)) (.sq (.sq (.reg (rT Tryz.f119 2)) (.bk 0 (.lp 0 Qgq QhY))) (.sq (.reg (rT Tryz.f119 7)) .rt))))
def QFB : List (RV × Option Ty) := [((.t 2), some tI)]
abbrev Qof : Sh := ⟨[(3, .ty (.int .u32)), (6, .ty (.sl (.int .u8))), (7, .ty tI), (8, .ty tI)], []⟩
def QnM (x3 : Int) (x6 : List Int) (x7 x8 : Int) : VS := Qof.st (x3, x6, x7, x8, ()) ()
abbrev Qud : Sh := ⟨[(3, .ty (.int .u32))], []⟩
def QdS (x3 : Int) : VS := Qud.st (x3, ()) ()
def QOJ : VS → Option (Bool × List (Bool × Exit × VS)) := mkL Qof (fun x y => (rngOk x.2.1 x.2.2.1 x.2.2.2.1)) (fun x y => [(true, .exit 0, QdS ((x.2.1.drop x.2.2.2.1.toNat).foldl stepS x.1))])
def Qk2 : G := ⟨TYs, [], 20, EL [], keeps, (Ls [QOJ]), IL [], RL []⟩
def QBB (x3 : Int) (x6 : List Int) (x7 x8 : Int) : Option (Exit × VS) := br (ilt x8 x7) (br (cIx x6 x8) (some (.normal, QnM (imul .u32 (ibxor .u32 x3 (icv .u32 (lgt (.int .u8) x6 (Int.toNat x8)))) 16777619) x6 x7 (iadd .i64 x8 1))) none) (some (.exit 0, QdS x3))
noncomputable def QiD (x3 : Int) (x6 : List Int) (x7 x8 : Int) : Option (Exit × VS) := loopF (Qaj Qk2 Qgq QhY) (QnM x3 x6 x7 x8)
noncomputable def Ql6 (x3 : Int) (x6 : List Int) (x7 x8 : Int) : Option (Exit × VS) := br (ilt x8 x7) (br (cIx x6 x8) (QiD (imul .u32 (ibxor .u32 x3 (icv .u32 (lgt (.int .u8) x6 (Int.toNat x8)))) 16777619) x6 x7 (iadd .i64 x8 1)) none) (some (.exit 0, QdS x3))
def QiV (x3 : Int) (x6 : List Int) (x7 x8 : Int) : Option (Exit × VS) := some (.exit 0, QdS ((x6.drop x8.toNat).foldl stepS x3))
theorem QJZ (x3 : Int) (x6 : List Int) (x7 x8 : Int) : Qaj Qk2 Qgq QhY (QnM x3 x6 x7 x8) = QBB x3 x6 x7 x8 := by kernel_rfl
theorem Qve (x3 : Int) (x6 : List Int) (x7 x8 : Int) : QiD x3 x6 x7 x8 = Ql6 x3 x6 x7 x8 := (Qap _ _).trans (by
 rw [QJZ]
 simp only [QBB, Ql6, QaB, nxt_n, nxt_r, nxt_e, nxt_0]
 rfl)
def QGA (p0 : List Int) : Option (V × List VO) := br (rngOk p0 (llen p0) (0 : Int)) (some (.t tI (icv .i64 ((p0.drop (0 : Int).toNat).foldl stepS (2166136261 : Int))), [])) none
theorem e_f119 (p0 : List Int) : runF Qk2 Qwx QFB false [.t (.sl (.int .u8)) p0] [] = QGA p0 := by kernel_rfl
theorem QVy : Qai Tryz.prog 119 := .inr ⟨by decide, _, Tryz.func119, by kernel_rfl, by kernel_rfl⟩
theorem QUU : GOk Tryz.prog Qk2 := Qal _ (fun p hp => by cases hp)
theorem QMv (x3 : Int) (x6 : List Int) (x7 x8 : Int) (h : (rngOk x6 x7 x8) = true) : QiD x3 x6 x7 x8 = QiV x3 x6 x7 x8 := by
 obtain ⟨rfl, h3, k, rfl, hk⟩ := rng_k h
 clear h
 revert x3
 refine Qas x6 (fun k => ∀ x3 : Int, QiD x3 x6 (x6.length : Int) (k : Int) = QiV x3 x6 (x6.length : Int) (k : Int)) ?_ ?_ k hk
 ·intro x3
  rw [Qve]
  simp only [Ql6, QiV, QaA, Nat.lt_irrefl, decide_false, Qaf, Int.toNat_natCast, List.drop_length, List.foldl_nil]
 ·intro k hk ih x3
  rw [Qve]
  simp only [Ql6, QaA, Qaw, hk, decide_true, Qac, Int.toNat_natCast, add1 (show k < 4611686018427387904 by omega), QaE (y := .int .u8) hk, ih]
  simp only [QiV, Int.toNat_natCast, List.drop_eq_getElem_cons hk, List.foldl_cons, stepS]
theorem QHP : ∀ S l p, Qk2.L 0 (fgt Qgq S) = some (true, l) → pickA l = some p → loopF (Qaj Qk2 Qgq QhY) S = some p :=
 QaD (s := Qof) ⟨by decide, by decide⟩ (by kernel_rfl) fun x y hok p hp => by
 simp only [Qar, Qao] at hp
 exact (QMv x.1 x.2.1 x.2.2.1 x.2.2.2.1 (by simpa using hok)).trans hp
theorem QTt : Qwx.lok Qk2 := by
 repeat (first | exact trivial | exact QHP | refine ⟨?_, ?_⟩)
theorem s_f119 (b : List Int) (h : lenB b = true) : QGA b = some (.t tI (sumB b), []) := by
 simp only [lenB, decide_eq_true_eq] at h
 simp only [QGA, rng_0 h, Qac, Int.toNat_zero, List.drop_zero]
 rfl
def QEH : Ent := spec (.pr (.sl (.int .u8)) .nil) (fun x => (lenB x.1)) (fun x => (.t tI (sumB x.1)))
theorem QSz : Meets Tryz.prog 119 (strip QEH) := Qag (R := runF Qk2 Qwx QFB false) (mG Tryz.func119 (by kernel_rfl) Tryz.ntmps119 (by kernel_rfl) QUU QTt) fun x hok => (e_f119 x.1).trans (s_f119 x.1 hok)
def Qgu : Fg := ⟨[(0, some (.sl (.int .u8))), (3, some (.int .u32)), (4, some tI)], []⟩
noncomputable def Qh2 : TC := (.sq (.sq (.reg (rT Tryz.f110 3)) (.cd (.t 8) .sk (.fg ⟨[(3, some (.int .u32))], []⟩ (.ex 0)))) (.sq (.bk 1 (.reg (rT Tryz.f110 4))) (.reg (rT Tryz.f110 5))))
noncomputable def QwG : TC := (.sq (.reg (rT Tryz.f110 0)) (.sq (.reg (rT Tryz.f110 1)) (.sq (.sq (.reg (rT Tryz.f110 2)) (.bk 0 (.lp 0 Qgu Qh2))) (.sq (.reg (rT Tryz.f110 6)) .rt))))
def QFK : List (RV × Option Ty) := [((.t 2), some tI)]
abbrev Qoj : Sh := ⟨[(0, .ty (.sl (.int .u8))), (3, .ty (.int .u32)), (4, .ty tI)], []⟩
def QnP (x0 : List Int) (x3 x4 : Int) : VS := Qoj.st (x0, x3, x4, ()) ()
abbrev Quh : Sh := ⟨[(3, .ty (.int .u32))], []⟩
def QdW (x3 : Int) : VS := Quh.st (x3, ()) ()
def QON : VS → Option (Bool × List (Bool × Exit × VS)) := mkL Qoj (fun x y => (idxOk x.1 x.2.2.1)) (fun x y => [(true, .exit 0, QdW ((x.1.drop x.2.2.1.toNat).foldl stepS x.2.1))])
def Qk6 : G := ⟨TYs, [], 21, EL [], keeps, (Ls [QON]), IL [], RL []⟩
def QBF (x0 : List Int) (x3 x4 : Int) : Option (Exit × VS) := br (ilt x4 (llen x0)) (br (cIx x0 x4) (some (.normal, QnP x0 (imul .u32 (ibxor .u32 x3 (icv .u32 (lgt (.int .u8) x0 (Int.toNat x4)))) 16777619) (iadd .i64 x4 1))) none) (some (.exit 0, QdW x3))
noncomputable def QiG (x0 : List Int) (x3 x4 : Int) : Option (Exit × VS) := loopF (Qaj Qk6 Qgu Qh2) (QnP x0 x3 x4)
noncomputable def Qma (x0 : List Int) (x3 x4 : Int) : Option (Exit × VS) := br (ilt x4 (llen x0)) (br (cIx x0 x4) (QiG x0 (imul .u32 (ibxor .u32 x3 (icv .u32 (lgt (.int .u8) x0 (Int.toNat x4)))) 16777619) (iadd .i64 x4 1)) none) (some (.exit 0, QdW x3))
def QiZ (x0 : List Int) (x3 x4 : Int) : Option (Exit × VS) := some (.exit 0, QdW ((x0.drop x4.toNat).foldl stepS x3))
theorem QJ3 (x0 : List Int) (x3 x4 : Int) : Qaj Qk6 Qgu Qh2 (QnP x0 x3 x4) = QBF x0 x3 x4 := by kernel_rfl
theorem Qvi (x0 : List Int) (x3 x4 : Int) : QiG x0 x3 x4 = Qma x0 x3 x4 := (Qap _ _).trans (by
 rw [QJ3]
 simp only [QBF, Qma, QaB, nxt_n, nxt_r, nxt_e, nxt_0]
 rfl)
def QGI (p0 : List Int) : Option (V × List VO) := br (idxOk p0 (0 : Int)) (some (.t tI (icv .i64 ((p0.drop (0 : Int).toNat).foldl stepS (2166136261 : Int))), [])) none
theorem e_f110 (p0 : List Int) : runF Qk6 QwG QFK false [.t (.sl (.int .u8)) p0] [] = QGI p0 := by kernel_rfl
theorem QJd : Qai Tryz.prog 110 := .inr ⟨by decide, _, Tryz.func110, by kernel_rfl, by kernel_rfl⟩
theorem QU3 : GOk Tryz.prog Qk6 := Qal _ (fun p hp => by cases hp)
theorem QMz (x0 : List Int) (x3 x4 : Int) (h : (idxOk x0 x4) = true) : QiG x0 x3 x4 = QiZ x0 x3 x4 := by
 simp only [idxOk, decide_eq_true_eq] at h
 obtain ⟨h0, h1, h2⟩ := h
 obtain ⟨k, rfl⟩ := Int.eq_ofNat_of_zero_le h0
 revert x3
 refine Qas x0 (fun k => ∀ x3 : Int, QiG x0 x3 (k : Int) = QiZ x0 x3 (k : Int)) ?_ ?_ k (by omega)
 ·intro x3
  rw [Qvi]
  simp only [Qma, QiZ, show ilt (x0.length : Int) (llen x0) = false from decide_eq_false (by simp only [llen]; omega), Qaf, Int.toNat_natCast, List.drop_length, List.foldl_nil]
 ·intro k hk ih x3
  rw [Qvi]
  simp only [Qma, show ilt (k : Int) (llen x0) = true from decide_eq_true (by simp only [llen]; omega), Qaw, hk, decide_true, Qac, Int.toNat_natCast, add1 (show k < 4611686018427387904 by omega), QaE (y := .int .u8) hk, ih]
  simp only [QiZ, Int.toNat_natCast, List.drop_eq_getElem_cons hk, List.foldl_cons, stepS]
theorem QHT : ∀ S l p, Qk6.L 0 (fgt Qgu S) = some (true, l) → pickA l = some p → loopF (Qaj Qk6 Qgu Qh2) S = some p :=
 QaD (s := Qoj) ⟨by decide, by decide⟩ (by kernel_rfl) fun x y hok p hp => by
 simp only [Qar, Qao] at hp
 exact (QMz x.1 x.2.1 x.2.2.1 (by simpa using hok)).trans hp
theorem QTC : QwG.lok Qk6 := by
 repeat (first | exact trivial | exact QHT | refine ⟨?_, ?_⟩)
theorem s_f110 (b : List Int) (h : lenB b = true) : QGI b = some (.t tI (sumB b), []) := by
 simp only [lenB, decide_eq_true_eq] at h
 simp only [QGI, show idxOk b 0 = true from decide_eq_true (by omega), Qac, Int.toNat_zero, List.drop_zero]
 rfl
def QwY : Ent := spec (.pr (.sl (.int .u8)) .nil) (fun x => (lenB x.1)) (fun x => (.t tI (sumB x.1)))
theorem QHo : Meets Tryz.prog 110 (strip QwY) := Qag (R := runF Qk6 QwG QFK false) (mG Tryz.func110 (by kernel_rfl) Tryz.ntmps110 (by kernel_rfl) QU3 QTC) fun x hok => (e_f110 x.1).trans (s_f110 x.1 hok)
theorem QH9 (c : Qaa) : lenB (Qbk c).1 = true := decide_eq_true (by have := QCj c; omega)
def Qc4 (c : Qaa) (k : Int) : Bool := ieq (Qbk c).2 0 && (ieq (cSeal c).1 k && ieq (cSeal c).2.1 (sumB (Qbk c).1))
def Qa0 (c : Qaa) (_k : Int) : Bool := QaC c
noncomputable def QNc : List DO := dT Tryz.f94 2
noncomputable def QCJ : TC := (.sq (.reg (rT Tryz.f94 0)) (.sq (.reg (rT Tryz.f94 1)) (.sq (.dr QNc [(0, []), (1, []), (2, []), (3, [2]), (4, [2]), (5, []), (6, []), (7, []), (8, []), (9, []), (10, []), (11, [])] (.of [0, 1, 2, 3, 4, 5, 6, 7, 8, 9, 10, 11])) .rt)))
def QPI : List (RV × Option Ty) := [((.t 4), some .bool)]
def g_f94 : G := ⟨TYs, [], 23, EL [(118, QEI), (119, QEH)], keeps, (fun _ _ => none), IL [], RL []⟩
def r_f94 (p0 : Qaa) (p1 : Int) : Option (V × List VO) := br (QaC p0) (br (ieq ((Qbk p0).2) 0) (br (lenB ((Qbk p0).1)) (some (.t .bool (and (ieq p0.2.2.2.2.2.2.2.2.2.2.2.1.1 p1) (and (ieq p0.2.2.2.2.2.2.2.2.2.2.2.1.2.1 (sumB ((Qbk p0).1))) true)), [])) none) (some (.t .bool false, []))) none
theorem e_f94 (p0 : Qaa) (p1 : Int) : runF g_f94 QCJ QPI false [.t Qab p0, .t tI p1] [] = r_f94 p0 p1 := by kernel_rfl
theorem en_f94 : Qai Tryz.prog 94 := .inr ⟨by decide, _, Tryz.func94, by kernel_rfl, by kernel_rfl⟩
theorem gk_f94 : GOk Tryz.prog g_f94 := Qal _ (gA (gC QVz QSA (gC QVy QSz gN)))
theorem lk_f94 : QCJ.lok g_f94 := by repeat (first | exact trivial | refine ⟨?_, ?_⟩)
theorem s_f94 (c : Qaa) (k : Int) (h : Qa0 c k = true) : r_f94 c k = some (.t .bool (Qc4 c k), []) := by
 simp only [r_f94, show QaC c = true from h, QH9, Qac, Bool.and_true]
 exact brA rfl
def QOV : Ent := spec (.pr Qab (.pr tI .nil)) (fun x => (Qa0 x.1 x.2.1)) (fun x => (.t .bool (Qc4 x.1 x.2.1)))
theorem ms_f94 : Meets Tryz.prog 94 (strip QOV) := Qag (R := runF g_f94 QCJ QPI false) (mG Tryz.func94 (by kernel_rfl) Tryz.ntmps94 (by kernel_rfl) gk_f94 lk_f94) fun x hok => (e_f94 x.1 x.2.1).trans (s_f94 x.1 x.2.1 hok)
noncomputable def QJn : List DO := dT Tryz.f101 2
noncomputable def QwM : TC := (.sq (.reg (rT Tryz.f101 0)) (.sq (.reg (rT Tryz.f101 1)) (.sq (.dr QJn [(0, []), (1, []), (2, []), (3, [2]), (4, [2]), (5, [2]), (6, []), (7, []), (8, []), (9, []), (10, [2]), (11, [2]), (12, [2]), (13, []), (14, []), (15, []), (16, []), (17, [])] (.of [0, 1, 2, 3, 4, 5, 6, 7, 8, 9, 10, 11, 12, 13, 14, 15, 16, 17])) .rt)))
def QFQ : List (RV × Option Ty) := [((.t 4), some .bool)]
def QAS : G := ⟨TYs, [], 29, EL [(109, QwZ), (110, QwY)], keeps, (fun _ _ => none), IL [], RL []⟩
def QGK (p0 : Qaa) (p1 : Int) : Option (V × List VO) := br (QaC p0) (br (ieq ((Qbk p0).2) 0) (br (ieq p0.2.2.2.2.2.2.2.2.2.2.2.1.1 p1) (br (lenB ((Qbk p0).1)) (some (.t .bool (ieq p0.2.2.2.2.2.2.2.2.2.2.2.1.2.1 (sumB ((Qbk p0).1))), [])) none) (some (.t .bool false, []))) (some (.t .bool false, []))) none
theorem e_f101 (p0 : Qaa) (p1 : Int) : runF QAS QwM QFQ false [.t Qab p0, .t tI p1] [] = QGK p0 p1 := by kernel_rfl
theorem QVI : Qai Tryz.prog 101 := .inr ⟨by decide, _, Tryz.func101, by kernel_rfl, by kernel_rfl⟩
theorem QU9 : GOk Tryz.prog QAS := Qal _ (gA (gC QJe QHp (gC QJd QHo gN)))
theorem QTI : QwM.lok QAS := by repeat (first | exact trivial | refine ⟨?_, ?_⟩)
theorem s_f101 (c : Qaa) (k : Int) (h : Qa0 c k = true) : QGK c k = some (.t .bool (Qc4 c k), []) := by
 simp only [QGK, show QaC c = true from h, QH9, Qac]
 exact brA (brA rfl)
def QER : Ent := spec (.pr Qab (.pr tI .nil)) (fun x => (Qa0 x.1 x.2.1)) (fun x => (.t .bool (Qc4 x.1 x.2.1)))
theorem QSJ : Meets Tryz.prog 101 (strip QER) := Qag (R := runF QAS QwM QFQ false) (mG Tryz.func101 (by kernel_rfl) Tryz.ntmps101 (by kernel_rfl) QU9 QTI) fun x hok => (e_f101 x.1 x.2.1).trans (s_f101 x.1 x.2.1 hok)
def copyC (c : Qaa) : Qaa := c
noncomputable def QCQ : TC := (.sq (.reg (rT Tryz.f86 0)) (.sq (.reg (rT Tryz.f86 1)) (.sq (.reg (rT Tryz.f86 2)) .rt)))
def QPP : List (RV × Option Ty) := [((.c 2 true 15), some Qab)]
def g_f86 : G := ⟨TYs, [3], 9, EL [], keeps, (fun _ _ => none), IL [], RL []⟩
def r_f86 (p0 : Qaa) : Option (V × List VO) := br (cApp ([] : List ByteArray) p0.2.2.2.2.2.2.2.2.2.2.1 16) (some (.t Qab (p0.1, (p0.2.1, (p0.2.2.1, ((p0.2.2.2.1.1, (p0.2.2.2.1.2.1, ())), (p0.2.2.2.2.1, ((p0.2.2.2.2.2.1.1, (p0.2.2.2.2.2.1.2.1, ())), (p0.2.2.2.2.2.2.1, (p0.2.2.2.2.2.2.2.1, (p0.2.2.2.2.2.2.2.2.1, (p0.2.2.2.2.2.2.2.2.2.1, ((([] : List ByteArray) ++ p0.2.2.2.2.2.2.2.2.2.2.1), ((p0.2.2.2.2.2.2.2.2.2.2.2.1.1, (p0.2.2.2.2.2.2.2.2.2.2.2.1.2.1, ())), ())))))))))))), [])) none
theorem e_f86 (p0 : Qaa) : runF g_f86 QCQ QPP false [.t Qab p0] [] = r_f86 p0 := by kernel_rfl
theorem en_f86 : Qai Tryz.prog 86 := .inr ⟨by decide, _, Tryz.func86, by kernel_rfl, by kernel_rfl⟩
theorem gk_f86 : GOk Tryz.prog g_f86 := Qal _ (fun p hp => by cases hp)
theorem lk_f86 : QCQ.lok g_f86 := by repeat (first | exact trivial | refine ⟨?_, ?_⟩)
theorem QvQ {c : Qaa} (h : QaC c = true) : (QaF c).length ≤ 100000 := by
 simp only [QaC, QbK, Bool.and_eq_true, decide_eq_true_eq] at h
 exact h.2.2.1
theorem s_f86 (c : Qaa) (h : QaC c = true) : r_f86 c = some (.t Qab (copyC c), []) := by
 have hn : c.2.2.2.2.2.2.2.2.2.2.1.length ≤ 100000 := QvQ h
 simp only [r_f86]
 rw [cAppN (by omega) (by simp only [List.length_nil]; omega), Qac]
 rfl
def QD1 : Ent := spec (.pr Qab .nil) (fun x => (QaC x.1)) (fun x => (.t Qab (copyC x.1)))
theorem ms_f86 : Meets Tryz.prog 86 (strip QD1) := Qag (R := runF g_f86 QCQ QPP false) (mG Tryz.func86 (by kernel_rfl) Tryz.ntmps86 (by kernel_rfl) gk_f86 lk_f86) fun x hok => (e_f86 x.1).trans (s_f86 x.1 hok)
def sealC (c : Qaa) (s : Keep) : Qaa := (c.1, (c.2.1, (c.2.2.1, (c.2.2.2.1, (c.2.2.2.2.1, (c.2.2.2.2.2.1, (c.2.2.2.2.2.2.1, (c.2.2.2.2.2.2.2.1, (c.2.2.2.2.2.2.2.2.1, (c.2.2.2.2.2.2.2.2.2.1, (c.2.2.2.2.2.2.2.2.2.2.1, (s, ()))))))))))))
def unsC (c : Qaa) : Qaa := sealC c (0, (0, ()))
def Qw5 (c : Qaa) (k : Int) : Bool := !QaH (unsC c) || (ilt k 0 || igt k 2147483648)
abbrev zCert : Qaa := Ty.zero Qab
def signC (c : Qaa) (k : Int) : Qaa × Int := bif Qw5 c k then (zCert, 9) else (sealC c (k, (sumB (Qbk (unsC c)).1, ())), 0)
noncomputable def QCP : TC := (.sq (.reg (rT Tryz.f87 0)) (.sq (.reg (rT Tryz.f87 1)) (.sq (.reg (rT Tryz.f87 2)) (.sq (.sq (.reg (rT Tryz.f87 3)) (.cd (.t 22) (.sq (.reg (rT Tryz.f87 4)) .rt) .sk)) (.sq (.reg (rT Tryz.f87 5)) (.sq (.reg (rT Tryz.f87 6)) (.sq (.reg (rT Tryz.f87 7)) .rt)))))))
def QPO : List (RV × Option Ty) := [((.c 4 true 15), some Qab), ((.t 5), some tI)]
def g_f87 : G := ⟨TYs, [], 35, EL [(86, QD1), (97, Qtd), (109, QwZ), (110, QwY)], keeps, (fun _ _ => none), IL [], RL []⟩
def r_f87 (p0 : Qaa) (p1 : Int) : Option (V × List VO) :=
 let a4 := ((copyC p0).2)
 let a1 := ((((a4.2).2).2).2)
 let a5 := (((a1.2).2).2)
 let a2 := ((Qbk ((copyC p0).1, (a4.1, ((a4.2).1, (((a4.2).2).1, ((((a4.2).2).2).1, (a1.1, ((a1.2).1, (((a1.2).2).1, (a5.1, ((a5.2).1, (((a5.2).2).1, ((0, (0, ())), (((a5.2).2).2).2))))))))))))).1)
 let a3 := (QaC ((copyC p0).1, (a4.1, ((a4.2).1, (((a4.2).2).1, ((((a4.2).2).2).1, (a1.1, ((a1.2).1, (((a1.2).2).1, (a5.1, ((a5.2).1, (((a5.2).2).1, ((0, (0, ())), (((a5.2).2).2).2)))))))))))))
 let a6 := ByteArray.mk #[]
 br (QaC p0) (br a3 (br (ine (QcK ((copyC p0).1, (a4.1, ((a4.2).1, (((a4.2).2).1, ((((a4.2).2).2).1, (a1.1, ((a1.2).1, (((a1.2).2).1, (a5.1, ((a5.2).1, (((a5.2).2).1, ((0, (0, ())), (((a5.2).2).2).2))))))))))))) 0) (some (.tu [(.t Qab (0, (a6, (a6, ((0, (0, ())), (0, ((0, (0, ())), (0, (0, (false, (0, (([] : List ByteArray), ((0, (0, ())), ()))))))))))))), (.t tI 9)], [])) (br (ilt p1 0) (some (.tu [(.t Qab (0, (a6, (a6, ((0, (0, ())), (0, ((0, (0, ())), (0, (0, (false, (0, (([] : List ByteArray), ((0, (0, ())), ()))))))))))))), (.t tI 9)], [])) (br (igt p1 2147483648) (some (.tu [(.t Qab (0, (a6, (a6, ((0, (0, ())), (0, ((0, (0, ())), (0, (0, (false, (0, (([] : List ByteArray), ((0, (0, ())), ()))))))))))))), (.t tI 9)], [])) (br a3 (br (lenB a2) (some (.tu [(.t Qab ((copyC p0).1, (a4.1, ((a4.2).1, (((a4.2).2).1, ((((a4.2).2).2).1, (a1.1, ((a1.2).1, (((a1.2).2).1, (a5.1, ((a5.2).1, (((a5.2).2).1, ((p1, ((sumB a2), ())), (((a5.2).2).2).2))))))))))))), (.t tI 0)], [])) none) none)))) none) none
theorem e_f87 (p0 : Qaa) (p1 : Int) : runF g_f87 QCP QPO false [.t Qab p0, .t tI p1] [] = r_f87 p0 p1 := by kernel_rfl
theorem en_f87 : Qai Tryz.prog 87 := .inr ⟨by decide, _, Tryz.func87, by kernel_rfl, by kernel_rfl⟩
theorem gk_f87 : GOk Tryz.prog g_f87 := Qal _ (gA (gC en_f86 ms_f86 (gC QA5 Qzx (gC QJe QHp (gC QJd QHo gN)))))
theorem lk_f87 : QCP.lok g_f87 := by repeat (first | exact trivial | refine ⟨?_, ?_⟩)
theorem s_f87 (c : Qaa) (k : Int) (h : Qa0 c k = true) : r_f87 c k = some (.tu [.t Qab (signC c k).1, .t tI (signC c k).2], []) := by
 have h : QaC c = true := h
 have hu : QaC (unsC c) = true := h
 have e : ((copyC c).1, ((copyC c).2.1, ((copyC c).2.2.1, ((copyC c).2.2.2.1, ((copyC c).2.2.2.2.1, ((copyC c).2.2.2.2.2.1, ((copyC c).2.2.2.2.2.2.1, ((copyC c).2.2.2.2.2.2.2.1, ((copyC c).2.2.2.2.2.2.2.2.1, ((copyC c).2.2.2.2.2.2.2.2.2.1, ((copyC c).2.2.2.2.2.2.2.2.2.2.1, ((0, (0, ())), ())))))))))))) = unsC c := rfl
 simp only [r_f87, h, e, hu, Qdg, QH9, Qac]
 unfold signC Qw5
 cases QaH (unsC c) with
 | false => rfl
 | true =>
  rw [Bool.not_true, Qaf, Bool.false_or]
  cases ilt k 0 with
  | true => rfl
  | false =>
   rw [Qaf, Bool.false_or]
   cases igt k 2147483648 <;> rfl
def QOY : Ent := spec (.pr Qab (.pr tI .nil)) (fun x => (Qa0 x.1 x.2.1)) (fun x => (.tu [(.t Qab ((signC x.1 x.2.1).1)), (.t tI ((signC x.1 x.2.1).2))]))
theorem ms_f87 : Meets Tryz.prog 87 (strip QOY) := Qag (R := runF g_f87 QCP QPO false) (mG Tryz.func87 (by kernel_rfl) Tryz.ntmps87 (by kernel_rfl) gk_f87 lk_f87) fun x hok => (e_f87 x.1 x.2.1).trans (s_f87 x.1 x.2.1 hok)
def QaI (l : List Qaa) : Bool := decide (l.length ≤ 100000) && l.all QaC
def copyCh (l : List Qaa) : List Qaa := l
def QA0 : Fg := ⟨[(0, some (.sl Qab)), (3, none), (4, some tI)], [(3, none), (18, none)]⟩
noncomputable def Qy3 : TC := (.sq (.sq (.reg [(oV 5 4), (oV 6 0), (oP 7 (.len false (.t 6))), (oP 8 (.bin false .lss (.t 5) (.t 7)))]) (.cd (.t 8) .sk (.fg ⟨[(3, none)], [(3, none), (18, none)]⟩ (.ex 0)))) (.sq (.bk 1 (.reg [(oV 11 3), (oV 12 0), (oV 13 4), (oP 14 (.ix 15 (.t 12) (.t 13))), (oM 15 (.ld true 15 (.t 14))), (oC 16 86 [(.t 15)]), (oM 17 (.bs 98 15 1 [(.v (.int .i64 0)), (.v (.string (ByteArray.mk #[]))), (.v (.string (ByteArray.mk #[]))), (.v (.int .i64 0)), (.v (.int .i64 0)), (.v (.int .i64 0)), (.v (.int .i64 0)), (.v (.int .i64 0)), (.v (.int .i64 0)), (.v (.int .i64 0)), (.v (.bool false)), (.v (.int .i64 0)), (.v (.slice none 0 0)), (.v (.int .i64 0)), (.v (.int .i64 0))] [(0, 15, (.t 16))])), (oM 18 (.app 98 15 152 (.t 11) (.t 17))), (oV 3 18)])) (.reg [(oV 9 4), (oP 10 (.bin false .add (.t 9) (cI 1))), (oV 4 10)])))
abbrev Qzc : Sh := ⟨[(0, .ty (.sl Qab)), (3, .ms 3), (4, .ty tI)], [(3, .arr 98 Qab), (18, .no)]⟩
def QqA (x0 : List Qaa) (x4 : Int) (y3 : List Qaa) : VS := Qzc.st (x0, (), x4, ()) (y3, (), ())
abbrev Qxi : Sh := ⟨[(3, .ms 3)], [(3, .arr 98 Qab), (18, .no)]⟩
def QeN (y3 : List Qaa) : VS := Qxi.st ((), ()) (y3, (), ())
def QWc : VS → Option (Bool × List (Bool × Exit × VS)) := mkL Qzc (fun x y => (decide (0 ≤ x.2.2.1 ∧ x.2.2.1 ≤ x.1.length ∧ y.1.length ≤ x.2.2.1.toNat) && QaI x.1)) (fun x y => [(true, .exit 0, QeN (y.1 ++ x.1.drop x.2.2.1.toNat))])
def g_f53 : G := ⟨TYs, [], 20, EL [(86, QD1)], keeps, (Ls [QWc]), IL [], RL []⟩
def QKg (x0 : List Qaa) (x4 : Int) (y3 : List Qaa) : Option (Exit × VS) :=
 let a1 := (((copyC (lgt Qab x0 (Int.toNat x4))).2).2)
 let a2 := ((copyC (lgt Qab x0 (Int.toNat x4))).1, (((copyC (lgt Qab x0 (Int.toNat x4))).2).1, (a1.1, ((((a1.2).1).1, ((((a1.2).1).2).1, ())), (((a1.2).2).1, ((((((a1.2).2).2).1).1, ((((((a1.2).2).2).1).2).1, ())), (((((a1.2).2).2).2).1, ((((((a1.2).2).2).2).2).1, (((((((a1.2).2).2).2).2).2).1, ((((((((a1.2).2).2).2).2).2).2).1, (((((((((a1.2).2).2).2).2).2).2).2).1, ((((((((((((a1.2).2).2).2).2).2).2).2).2).1).1, ((((((((((((a1.2).2).2).2).2).2).2).2).2).1).2).1, ())), ()))))))))))))
 br (ilt x4 (llen x0)) (br (cIx x0 x4) (br (QaC (lgt Qab x0 (Int.toNat x4))) (br (cApp y3 ([a2]) 152) (some (.normal, QqA x0 (iadd .i64 x4 1) (y3 ++ ([a2])))) none) none) none) (some (.exit 0, QeN y3))
noncomputable def Qmj (x0 : List Qaa) (x4 : Int) (y3 : List Qaa) : Option (Exit × VS) := loopF (Qaj g_f53 QA0 Qy3) (QqA x0 x4 y3)
noncomputable def Qsd (x0 : List Qaa) (x4 : Int) (y3 : List Qaa) : Option (Exit × VS) :=
 let a1 := (((copyC (lgt Qab x0 (Int.toNat x4))).2).2)
 let a2 := ((copyC (lgt Qab x0 (Int.toNat x4))).1, (((copyC (lgt Qab x0 (Int.toNat x4))).2).1, (a1.1, ((((a1.2).1).1, ((((a1.2).1).2).1, ())), (((a1.2).2).1, ((((((a1.2).2).2).1).1, ((((((a1.2).2).2).1).2).1, ())), (((((a1.2).2).2).2).1, ((((((a1.2).2).2).2).2).1, (((((((a1.2).2).2).2).2).2).1, ((((((((a1.2).2).2).2).2).2).2).1, (((((((((a1.2).2).2).2).2).2).2).2).1, ((((((((((((a1.2).2).2).2).2).2).2).2).2).1).1, ((((((((((((a1.2).2).2).2).2).2).2).2).2).1).2).1, ())), ()))))))))))))
 br (ilt x4 (llen x0)) (br (cIx x0 x4) (br (QaC (lgt Qab x0 (Int.toNat x4))) (br (cApp y3 ([a2]) 152) (Qmj x0 (iadd .i64 x4 1) (y3 ++ ([a2]))) none) none) none) (some (.exit 0, QeN y3))
def QmK (x0 : List Qaa) (x4 : Int) (y3 : List Qaa) : Option (Exit × VS) := some (.exit 0, QeN (y3 ++ x0.drop x4.toNat))
theorem QN1 (x0 : List Qaa) (x4 : Int) (y3 : List Qaa) : Qaj g_f53 QA0 Qy3 (QqA x0 x4 y3) = QKg x0 x4 y3 := by kernel_rfl
theorem QzS (x0 : List Qaa) (x4 : Int) (y3 : List Qaa) : Qmj x0 x4 y3 = Qsd x0 x4 y3 := (Qap _ _).trans (by
 rw [QN1]
 simp only [QKg, Qsd, QaB, nxt_n, nxt_r, nxt_e, nxt_0]
 rfl)
def r_f53 (p0 : List Qaa) : Option (V × List VO) := br (decide (0 ≤ (0 : Int) ∧ (0 : Int) ≤ p0.length ∧ ([] : List Qaa).length ≤ (0 : Int).toNat) && QaI p0) (some (.t (.sl Qab) (([] : List Qaa) ++ p0.drop (0 : Int).toNat), [])) none
theorem l_f53_0 (x0 : List Qaa) (x4 : Int) (y3 : List Qaa) (h : (decide (0 ≤ x4 ∧ x4 ≤ x0.length ∧ y3.length ≤ x4.toNat) && QaI x0) = true) : Qmj x0 x4 y3 = QmK x0 x4 y3 := by
 simp only [QaI, Bool.and_eq_true, decide_eq_true_eq, List.all_eq_true] at h
 obtain ⟨⟨h0, h1, h2⟩, h3, hc⟩ := h
 obtain ⟨k, rfl⟩ := Int.eq_ofNat_of_zero_le h0
 rw [Int.toNat_natCast] at h2
 revert y3
 refine Qas x0 (fun k => ∀ y3 : List Qaa, y3.length ≤ k → Qmj x0 (k : Int) y3 = QmK x0 (k : Int) y3) ?_ ?_ k (by omega)
 ·intro y3 _
  rw [QzS]
  simp only [Qsd, QmK, show ilt (x0.length : Int) (llen x0) = false from decide_eq_false (by simp only [llen]; omega), Qaf, Int.toNat_natCast, List.drop_length, List.append_nil]
 ·intro k hk ih y3 hy
  rw [QzS]
  have hx := hc x0[k] (List.getElem_mem hk)
  simp only [Qsd, show ilt (k : Int) (llen x0) = true from decide_eq_true (by simp only [llen]; omega), Qaw, hk, decide_true, Qac, Int.toNat_natCast, add1 (show k < 4611686018427387904 by omega), QaE (y := Qab) hk, hx]
  rw [cAppN (by omega) (by simp only [List.length_singleton]; omega), Qac, ih _ (by simp only [List.length_append, List.length_singleton]; omega)]
  simp only [QmK, Int.toNat_natCast, List.drop_eq_getElem_cons hk, List.append_assoc, List.singleton_append, copyC]
theorem s_f53 (l : List Qaa) (h : QaI l = true) : r_f53 l = some (.t (.sl Qab) (copyCh l), []) := by
 have hl : l.length ≤ 100000 := by simp only [QaI, Bool.and_eq_true, decide_eq_true_eq] at h; exact h.1
 have hd : (0 : Int) ≤ 0 ∧ (0 : Int) ≤ l.length ∧ ([] : List Qaa).length ≤ 0 := ⟨by omega, by omega, by simp⟩
 simp only [r_f53, h, Bool.and_true, Int.toNat_zero, List.drop_zero, List.nil_append]
 rw [decide_eq_true hd]
 rfl
def Qyz (key : Keep) (id : Int) (l : List Qaa) : Bool := ieq (llen l) 0 || (((l.getD 0 zCert).2.2.2.1 == key) && ieq (l.getD 0 zCert).2.2.2.2.1 id)
def Qej (key : Keep) (id : Int) (l : List Qaa) : Bool := QfA key && (!ine (kindF key.1) 2 && (keyI id && (!igt (llen l) 8 && (l.all QaH && Qyz key id l))))
def Qeb (_key : Keep) (_id : Int) (l : List Qaa) : Bool := QaI l
theorem Qp8 (key : Keep) (id : Int) (l : List Qaa) : br (ieq (llen l) 0) (some (V.t .bool true, ([] : List VO))) (br (cIx l 0) (br ((lgt Qab l 0).2.2.2.1 == key) (br (cIx l 0) (some (V.t .bool (ieq (lgt Qab l 0).2.2.2.2.1 id), [])) none) (some (V.t .bool false, []))) none) = some (V.t .bool (Qyz key id l), []) := by
 unfold Qyz
 cases l with
 | nil => rfl
 | cons c l =>
  have h1 : ieq (llen (c :: l)) 0 = false := by
   simp only [ieq, llen, List.length_cons, beq_eq_false_iff_ne]
   omega
  have h2 : cIx (c :: l) 0 = true := by simp only [cIx, List.length_cons, decide_eq_true_eq]; omega
  rw [h1, Qaf, h2, Qac, Bool.false_or, Qac]
  show br (c.2.2.2.1 == key) _ _ = some (V.t .bool ((c.2.2.2.1 == key) && ieq c.2.2.2.2.1 id), [])
  cases c.2.2.2.1 == key <;> rfl
noncomputable def QNd : List DO := dT Tryz.f78 9
def Qja : Fg := ⟨[(1, some tI), (2, some (.sl Qab)), (3, none), (28, some (.sl Qab)), (29, some tI), (30, some tI)], [(3, some Qah)]⟩
noncomputable def Qlf : TC := (.sq (.reg (rT Tryz.f78 4)) (.sq (.cd (.t 31) .sk (.fg ⟨[(1, some tI), (2, some (.sl Qab)), (3, none)], [(3, some Qah)]⟩ (.ex 0))) (.sq (.bk 1 (.sq (.reg (rT Tryz.f78 5)) (.sq (.reg (rT Tryz.f78 6)) (.cd (.t 36) (.sq (.reg (rT Tryz.f78 7)) (.fg ⟨[(6, some .bool)], []⟩ .rt)) .sk)))) (.reg (rT Tryz.f78 8)))))
noncomputable def QCV : TC := (.sq (.reg (rT Tryz.f78 0)) (.sq (.sq (.reg (rT Tryz.f78 1)) (.cd (.t 27) (.sq (.reg (rT Tryz.f78 2)) .rt) .sk)) (.sq (.sq (.reg (rT Tryz.f78 3)) (.bk 0 (.lp 0 Qja Qlf))) (.sq (.dr QNd [(0, []), (1, []), (2, []), (3, []), (4, []), (5, []), (6, []), (7, []), (8, [3]), (9, []), (10, []), (11, []), (12, []), (13, []), (14, []), (15, []), (16, []), (17, []), (18, []), (19, [])] (.of [0, 1, 2, 3, 4, 5, 6, 7, 8, 9, 10, 11, 12, 13, 14, 15, 16, 17, 18, 19])) .rt))))
def QPU : List (RV × Option Ty) := [((.t 6), some .bool)]
abbrev Qq1 : Sh := ⟨[(1, .ty tI), (2, .ty (.sl Qab)), (3, .ptr 3 0), (28, .ty (.sl Qab)), (29, .ty tI), (30, .ty tI)], [(3, .box Qah)]⟩
def Qqv (x1 : Int) (x2 x28 : List Qaa) (x29 x30 : Int) (y3 : Keep) : VS := Qq1.st (x1, x2, (), x28, x29, x30, ()) (y3, ())
abbrev QtC : Sh := ⟨[(6, .ty .bool)], []⟩
def Qdp (x6 : Bool) : VS := QtC.st (x6, ()) ()
abbrev Qxa : Sh := ⟨[(1, .ty tI), (2, .ty (.sl Qab)), (3, .ptr 3 0)], [(3, .box Qah)]⟩
def QeF (x1 : Int) (x2 : List Qaa) (y3 : Keep) : VS := Qxa.st (x1, x2, (), ()) (y3, ())
def QV4 : VS → Option (Bool × List (Bool × Exit × VS)) := mkL Qq1 (fun x y => (rngOk x.2.2.2.1 x.2.2.2.2.1 x.2.2.2.2.2.1 && QaI x.2.2.2.1)) (fun x y => [((!(x.2.2.2.1.drop x.2.2.2.2.2.1.toNat).all QaH), .ret, Qdp (false)), (true, .exit 0, QeF (x.1) (x.2.1) (y.1))])
def g_f78 : G := ⟨TYs, [], 57, EL [(62, QD2), (82, Qy6), (107, Qw0), (108, QqT)], keeps, (Ls [QV4]), IL [], RL []⟩
def QJ8 (x1 : Int) (x2 x28 : List Qaa) (x29 x30 : Int) (y3 : Keep) : Option (Exit × VS) :=
 let a1 := lgt Qab x28 (Int.toNat x30)
 br (ilt x30 x29) (br (cIx x28 x30) (br (QaC a1) (br (ine (QcK a1) 0) (some (.ret, Qdp false)) (some (.normal, Qqv x1 x2 x28 x29 (iadd .i64 x30 1) y3))) none) none) (some (.exit 0, QeF x1 x2 y3))
noncomputable def Qme (x1 : Int) (x2 x28 : List Qaa) (x29 x30 : Int) (y3 : Keep) : Option (Exit × VS) := loopF (Qaj g_f78 Qja Qlf) (Qqv x1 x2 x28 x29 x30 y3)
noncomputable def Qr6 (x1 : Int) (x2 x28 : List Qaa) (x29 x30 : Int) (y3 : Keep) : Option (Exit × VS) :=
 let a1 := lgt Qab x28 (Int.toNat x30)
 br (ilt x30 x29) (br (cIx x28 x30) (br (QaC a1) (br (ine (QcK a1) 0) (some (.ret, Qdp false)) (Qme x1 x2 x28 x29 (iadd .i64 x30 1) y3)) none) none) (some (.exit 0, QeF x1 x2 y3))
def QmD (x1 : Int) (x2 x28 : List Qaa) (x29 x30 : Int) (y3 : Keep) : Option (Exit × VS) := br (!(x28.drop x30.toNat).all QaH) (some (.ret, Qdp (false))) <| some (.exit 0, QeF (x1) (x2) (y3))
theorem QNT (x1 : Int) (x2 x28 : List Qaa) (x29 x30 : Int) (y3 : Keep) : Qaj g_f78 Qja Qlf (Qqv x1 x2 x28 x29 x30 y3) = QJ8 x1 x2 x28 x29 x30 y3 := by kernel_rfl
theorem QzJ (x1 : Int) (x2 x28 : List Qaa) (x29 x30 : Int) (y3 : Keep) : Qme x1 x2 x28 x29 x30 y3 = Qr6 x1 x2 x28 x29 x30 y3 := (Qap _ _).trans (by
 rw [QNT]
 simp only [QJ8, Qr6, QaB, nxt_n, nxt_r, nxt_e, nxt_0]
 rfl)
def r_f78 (p0 : Keep) (p1 : Int) (p2 : List Qaa) : Option (V × List VO) :=
 let a1 := ((((lgt Qab (p2) (Int.toNat 0)).2).2).2)
 br (!(QfA p0)) (some (.t .bool false, [])) (br (ine (kindF p0.1) 2) (some (.t .bool false, [])) (br (!(keyI p1)) (some (.t .bool false, [])) (br (igt (llen p2) 8) (some (.t .bool false, [])) (br (rngOk p2 (llen p2) (0 : Int) && QaI p2) (br (!(p2.drop (0 : Int).toNat).all QaH) (some (.t .bool (false), [])) (br (ieq (llen (p2)) 0) (some (.t .bool true, [])) (br (cIx (p2) 0) (br (and (ieq ((a1.1).1) ((p0).1)) (and (ieq (((a1.1).2).1) (((p0).2).1)) true)) (br (cIx (p2) 0) (some (.t .bool (ieq ((a1.2).1) (p1)), [])) none) (some (.t .bool false, []))) none))) none))))
theorem e_f78 (p0 : Keep) (p1 : Int) (p2 : List Qaa) : runF g_f78 QCV QPU false [.t Qah p0, .t tI p1, .t (.sl Qab) p2] [] = r_f78 p0 p1 p2 := by kernel_rfl
theorem en_f78 : Qai Tryz.prog 78 := .inr ⟨by decide, _, Tryz.func78, by kernel_rfl, by kernel_rfl⟩
theorem gk_f78 : GOk Tryz.prog g_f78 := Qal _ (gA (gC QRr QQ5 (gC QIK QG3 (gC QJf QHq (gC QyH Qyd gN)))))
theorem QTP (x1 : Int) (x2 x28 : List Qaa) (x29 x30 : Int) (y3 : Keep) (h : (rngOk x28 x29 x30 && QaI x28) = true) : Qme x1 x2 x28 x29 x30 y3 = QmD x1 x2 x28 x29 x30 y3 := by
 simp only [Bool.and_eq_true] at h
 obtain ⟨h0, hc⟩ := h
 obtain ⟨rfl, h3, k, rfl, hk⟩ := rng_k h0
 clear h0
 simp only [QaI, Bool.and_eq_true, List.all_eq_true] at hc
 refine Qas x28 (fun k => Qme x1 x2 x28 (x28.length : Int) (k : Int) y3 = QmD x1 x2 x28 (x28.length : Int) (k : Int) y3) ?_ ?_ k hk
 ·rw [QzJ]
  simp only [Qr6, QmD, QaA, Nat.lt_irrefl, decide_false, Qaf, Int.toNat_natCast, List.drop_length, List.all_nil, Bool.not_true]
 ·intro k hk ih
  rw [QzJ]
  have hx := hc.2 x28[k] (List.getElem_mem hk)
  simp only [Qr6, QaA, Qaw, hk, decide_true, Qac, Int.toNat_natCast, add1 (show k < 4611686018427387904 by omega), QaE (y := Qab) hk, hx, Qdg, ih]
  simp only [QmD, Int.toNat_natCast, List.drop_eq_getElem_cons hk, List.all_cons]
  cases QaH x28[k] <;> rfl
theorem QLG : ∀ S l p, g_f78.L 0 (fgt Qja S) = some (true, l) → pickA l = some p → loopF (Qaj g_f78 Qja Qlf) S = some p :=
 QaD (s := Qq1) ⟨by decide, by decide⟩ (by kernel_rfl) fun x y hok p hp => by
 simp only [Qar, Qao] at hp
 exact (QTP x.1 x.2.1 x.2.2.2.1 x.2.2.2.2.1 x.2.2.2.2.2.1 y.1 (by simpa using hok)).trans hp
theorem lk_f78 : QCV.lok g_f78 := by
 repeat (first | exact trivial | exact QLG | refine ⟨?_, ?_⟩)
theorem s_f78 (key : Keep) (id : Int) (l : List Qaa) (h : Qeb key id l = true) : r_f78 key id l = some (.t .bool (Qej key id l), []) := by
 have h : QaI l = true := h
 have hl : l.length ≤ 100000 := by simp only [QaI, Bool.and_eq_true, decide_eq_true_eq] at h; exact h.1
 simp only [r_f78, rng_0 hl, h, Bool.and_self, Qac, Int.toNat_zero, List.drop_zero, Qys]
 unfold Qej
 refine (brB <| brB <| brB <| brB <| brB (Qp8 key id l)).trans ?_
 simp only [Bool.not_not]
def QO2 : Ent := spec (.pr Qah (.pr tI (.pr (.sl Qab) .nil))) (fun x => (Qeb x.1 x.2.1 x.2.2.1)) (fun x => (.t .bool (Qej x.1 x.2.1 x.2.2.1)))
theorem ms_f78 : Meets Tryz.prog 78 (strip QO2) := Qag (R := runF g_f78 QCV QPU false) (mG Tryz.func78 (by kernel_rfl) Tryz.ntmps78 (by kernel_rfl) gk_f78 lk_f78) fun x hok => (e_f78 x.1 x.2.1 x.2.2.1).trans (s_f78 x.1 x.2.1 x.2.2.1 hok)
noncomputable def QNi : List DO := dT Tryz.f68 8
def Qjf : Fg := ⟨[(1, some tI), (2, some (.sl Qab)), (3, none), (7, some tI)], [(3, some Qah)]⟩
noncomputable def Qlk : TC := (.sq (.sq (.reg (rT Tryz.f68 4)) (.cd (.t 27) .sk (.fg ⟨[(1, some tI), (2, some (.sl Qab)), (3, none)], [(3, some Qah)]⟩ (.ex 0)))) (.sq (.bk 1 (.sq (.reg (rT Tryz.f68 5)) (.cd (.t 35) (.sq (.reg (rT Tryz.f68 6)) (.fg ⟨[(6, some .bool)], []⟩ .rt)) .sk))) (.reg (rT Tryz.f68 7))))
noncomputable def QC2 : TC := (.sq (.reg (rT Tryz.f68 0)) (.sq (.sq (.reg (rT Tryz.f68 1)) (.cd (.t 23) (.sq (.reg (rT Tryz.f68 2)) .rt) .sk)) (.sq (.sq (.reg (rT Tryz.f68 3)) (.bk 0 (.lp 0 Qjf Qlk))) (.sq (.dr QNi [(0, []), (1, []), (2, []), (3, []), (4, []), (5, []), (6, []), (7, []), (8, [3]), (9, []), (10, []), (11, []), (12, []), (13, []), (14, []), (15, []), (16, []), (17, []), (18, []), (19, [])] (.of [0, 1, 2, 3, 4, 5, 6, 7, 8, 9, 10, 11, 12, 13, 14, 15, 16, 17, 18, 19])) .rt))))
def QP1 : List (RV × Option Ty) := [((.t 6), some .bool)]
abbrev Qq6 : Sh := ⟨[(1, .ty tI), (2, .ty (.sl Qab)), (3, .ptr 3 0), (7, .ty tI)], [(3, .box Qah)]⟩
def Qqz (x1 : Int) (x2 : List Qaa) (x7 : Int) (y3 : Keep) : VS := Qq6.st (x1, x2, (), x7, ()) (y3, ())
abbrev QtG : Sh := ⟨[(6, .ty .bool)], []⟩
def Qds (x6 : Bool) : VS := QtG.st (x6, ()) ()
abbrev Qxf : Sh := ⟨[(1, .ty tI), (2, .ty (.sl Qab)), (3, .ptr 3 0)], [(3, .box Qah)]⟩
def QeK (x1 : Int) (x2 : List Qaa) (y3 : Keep) : VS := Qxf.st (x1, x2, (), ()) (y3, ())
def QV9 : VS → Option (Bool × List (Bool × Exit × VS)) := mkL Qq6 (fun x y => (decide (0 ≤ x.2.2.2.1 ∧ x.2.2.2.1 ≤ x.2.1.length) && QaI x.2.1)) (fun x y => [((!(x.2.1.drop x.2.2.2.1.toNat).all QaH), .ret, Qds (false)), (true, .exit 0, QeK (x.1) (x.2.1) (y.1))])
def g_f68 : G := ⟨TYs, [], 55, EL [(96, QDX), (97, Qtd)], keeps, (Ls [QV9]), IL [], RL []⟩
def QKd (x1 : Int) (x2 : List Qaa) (x7 : Int) (y3 : Keep) : Option (Exit × VS) :=
 let a1 := lgt Qab x2 (Int.toNat x7)
 br (ilt x7 (llen x2)) (br (cIx x2 x7) (br (QaC a1) (br (ine (QcK a1) 0) (some (.ret, Qds false)) (some (.normal, Qqz x1 x2 (iadd .i64 x7 1) y3))) none) none) (some (.exit 0, QeK x1 x2 y3))
noncomputable def Qmi (x1 : Int) (x2 : List Qaa) (x7 : Int) (y3 : Keep) : Option (Exit × VS) := loopF (Qaj g_f68 Qjf Qlk) (Qqz x1 x2 x7 y3)
noncomputable def Qsa (x1 : Int) (x2 : List Qaa) (x7 : Int) (y3 : Keep) : Option (Exit × VS) :=
 let a1 := lgt Qab x2 (Int.toNat x7)
 br (ilt x7 (llen x2)) (br (cIx x2 x7) (br (QaC a1) (br (ine (QcK a1) 0) (some (.ret, Qds false)) (Qmi x1 x2 (iadd .i64 x7 1) y3)) none) none) (some (.exit 0, QeK x1 x2 y3))
def QmH (x1 : Int) (x2 : List Qaa) (x7 : Int) (y3 : Keep) : Option (Exit × VS) := br (!(x2.drop x7.toNat).all QaH) (some (.ret, Qds (false))) <| some (.exit 0, QeK (x1) (x2) (y3))
theorem QNY (x1 : Int) (x2 : List Qaa) (x7 : Int) (y3 : Keep) : Qaj g_f68 Qjf Qlk (Qqz x1 x2 x7 y3) = QKd x1 x2 x7 y3 := by kernel_rfl
theorem QzO (x1 : Int) (x2 : List Qaa) (x7 : Int) (y3 : Keep) : Qmi x1 x2 x7 y3 = Qsa x1 x2 x7 y3 := (Qap _ _).trans (by
 rw [QNY]
 simp only [QKd, Qsa, QaB, nxt_n, nxt_r, nxt_e, nxt_0]
 rfl)
def r_f68 (p0 : Keep) (p1 : Int) (p2 : List Qaa) : Option (V × List VO) :=
 let a1 := ((((lgt Qab (p2) (Int.toNat 0)).2).2).2)
 br (!(signU p0)) (some (.t .bool false, [])) (br (ilt p1 0) (some (.t .bool false, [])) (br (igt p1 2147483648) (some (.t .bool false, [])) (br (igt (llen p2) 8) (some (.t .bool false, [])) (br (decide (0 ≤ (0 : Int) ∧ (0 : Int) ≤ p2.length) && QaI p2) (br (!(p2.drop (0 : Int).toNat).all QaH) (some (.t .bool (false), [])) (br (ieq (llen (p2)) 0) (some (.t .bool true, [])) (br (cIx (p2) 0) (br (and (ieq ((a1.1).1) ((p0).1)) (and (ieq (((a1.1).2).1) (((p0).2).1)) true)) (br (cIx (p2) 0) (some (.t .bool (ieq ((a1.2).1) (p1)), [])) none) (some (.t .bool false, []))) none))) none))))
theorem e_f68 (p0 : Keep) (p1 : Int) (p2 : List Qaa) : runF g_f68 QC2 QP1 false [.t Qah p0, .t tI p1, .t (.sl Qab) p2] [] = r_f68 p0 p1 p2 := by kernel_rfl
theorem en_f68 : Qai Tryz.prog 68 := .inr ⟨by decide, _, Tryz.func68, by kernel_rfl, by kernel_rfl⟩
theorem gk_f68 : GOk Tryz.prog g_f68 := Qal _ (gA (gC QRn QQ1 (gC QA5 Qzx gN)))
theorem QTU (x1 : Int) (x2 : List Qaa) (x7 : Int) (y3 : Keep) (h : (decide (0 ≤ x7 ∧ x7 ≤ x2.length) && QaI x2) = true) : Qmi x1 x2 x7 y3 = QmH x1 x2 x7 y3 := by
 simp only [QaI, Bool.and_eq_true, decide_eq_true_eq, List.all_eq_true] at h
 obtain ⟨⟨h0, h1⟩, h3, hc⟩ := h
 obtain ⟨k, rfl⟩ := Int.eq_ofNat_of_zero_le h0
 refine Qas x2 (fun k => Qmi x1 x2 (k : Int) y3 = QmH x1 x2 (k : Int) y3) ?_ ?_ k (by omega)
 ·rw [QzO]
  simp only [Qsa, QmH, show ilt (x2.length : Int) (llen x2) = false from decide_eq_false (by simp only [llen]; omega), Qaf, Int.toNat_natCast, List.drop_length, List.all_nil, Bool.not_true]
 ·intro k hk ih
  rw [QzO]
  have hx := hc x2[k] (List.getElem_mem hk)
  simp only [Qsa, show ilt (k : Int) (llen x2) = true from decide_eq_true (by simp only [llen]; omega), Qaw, hk, decide_true, Qac, Int.toNat_natCast, add1 (show k < 4611686018427387904 by omega), QaE (y := Qab) hk, hx, Qdg, ih]
  simp only [QmH, Int.toNat_natCast, List.drop_eq_getElem_cons hk, List.all_cons]
  cases QaH x2[k] <;> rfl
theorem QLL : ∀ S l p, g_f68.L 0 (fgt Qjf S) = some (true, l) → pickA l = some p → loopF (Qaj g_f68 Qjf Qlk) S = some p :=
 QaD (s := Qq6) ⟨by decide, by decide⟩ (by kernel_rfl) fun x y hok p hp => by
 simp only [Qar, Qao] at hp
 exact (QTU x.1 x.2.1 x.2.2.2.1 y.1 (by simpa using hok)).trans hp
theorem lk_f68 : QC2.lok g_f68 := by
 repeat (first | exact trivial | exact QLL | refine ⟨?_, ?_⟩)
theorem s_f68 (key : Keep) (id : Int) (l : List Qaa) (h : Qeb key id l = true) : r_f68 key id l = some (.t .bool (Qej key id l), []) := by
 have h : QaI l = true := h
 have hl : l.length ≤ 100000 := by simp only [QaI, Bool.and_eq_true, decide_eq_true_eq] at h; exact h.1
 have hd : (0 : Int) ≤ 0 ∧ (0 : Int) ≤ l.length := ⟨by omega, by omega⟩
 simp only [r_f68, h, decide_eq_true hd, Bool.and_self, Qac, Int.toNat_zero, List.drop_zero, Qys]
 unfold Qej signU kindU keyI
 refine (brB <| brB <| brB <| brB <| brB (Qp8 key id l)).trans ?_
 simp only [Bool.not_not, Qkk, Bool.and_assoc]
def QO9 : Ent := spec (.pr Qah (.pr tI (.pr (.sl Qab) .nil))) (fun x => (Qeb x.1 x.2.1 x.2.2.1)) (fun x => (.t .bool (Qej x.1 x.2.1 x.2.2.1)))
theorem ms_f68 : Meets Tryz.prog 68 (strip QO9) := Qag (R := runF g_f68 QC2 QP1 false) (mG Tryz.func68 (by kernel_rfl) Tryz.ntmps68 (by kernel_rfl) gk_f68 lk_f68) fun x hok => (e_f68 x.1 x.2.1 x.2.2.1).trans (s_f68 x.1 x.2.1 x.2.2.1 hok)
end
end Go.Proofs.YtkngeegkjhipeaaGreat.K
