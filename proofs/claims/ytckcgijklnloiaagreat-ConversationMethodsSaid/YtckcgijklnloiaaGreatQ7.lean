import Derived.Test.YtckcgijklnloiaaGreatQ6
import Derived.Test.YtckcgijklnloiaaGreatQ3
import Derived.Shelf.Small.Strs
import Derived.Ground.NamesProg
set_option linter.unusedSimpArgs false
set_option linter.unusedVariables false
namespace Go.Proofs.YtckcgijklnloiaaGreat.K
open Go.RowKit
noncomputable section
def QbR (c : Qaa) : List Int × Int := bif QaE c then encE (bodyT c) else ([], 9)
theorem QNK {c : Qaa} (h : QaE c = true) : QbR c = (encT (bodyT c), 0) := by
 have := Qu9 h
 rw [QbR, h, cond_true, encE, if_neg (by omega)]
theorem QFm (c : Qaa) : (QbR c).1.length ≤ 1000 := by
 cases h : QaE c with
 | true =>
  rw [QNK h]
  exact Qu9 h
 | false =>
  rw [QbR, h]
  simp
noncomputable def QyB : TC := (.sq (.reg (rT Tryz.f166 0)) (.sq (.sq (.reg (rT Tryz.f166 1)) (.cd (.t 6) (.sq (.reg (rT Tryz.f166 2)) .rt) .sk)) (.sq (.reg (rT Tryz.f166 3)) .rt)))
def QIE : List (RV × Option Ty) := [((.t 2), some (.sl (.int .u8))), ((.t 3), some tI)]
def QCU : G := ⟨TYs, [], 12, EL [(138, Qzq), (201, QG3), (202, QG2)], keeps, (fun _ _ => none), IL [], RL []⟩
def QBR (p0 : Qaa) : Option (V × List VO) := br (QaI p0) (br (!(QaE p0)) (some (.tu [(.t (.sl (.int .u8)) ([] : List Int)), (.t tI 9)], [])) (br (Qgh p0) (br (encOk (bodyT p0)) (some (.tu [(.t (.sl (.int .u8)) ((encE (bodyT p0)).1)), (.t tI ((encE (bodyT p0)).2))], [])) none) none)) none
theorem e_f166 (p0 : Qaa) : runF QCU QyB QIE false [.t Qac p0] [] = QBR p0 := by kernel_rfl
theorem QZ9 : Qai Tryz.prog 166 := .inr ⟨by decide, _, Tryz.func166, by kernel_rfl, by kernel_rfl⟩
theorem QY2 : GOk Tryz.prog QCU := Qal _ (gA (gC QM8 QLc (gC QZZ QVQ (gC QZY QVP gN))))
theorem QXh : QyB.lok QCU := by repeat (first | exact trivial | refine ⟨?_, ?_⟩)
theorem s_f166 (c : Qaa) (h : QaI c = true) : QBR c = some (.tu [.t (.sl (.int .u8)) (QbR c).1, .t tI (QbR c).2], []) := by
 unfold QbR
 cases hv : QaE c with
 | true => simp only [QBR, h, hv, QUQ hv, show Qgh c = true from by rw [Qgh, h, hv]; rfl, Bool.not_true, Qad, Qaf, cond_true]
 | false => simp only [QBR, h, hv, Bool.not_false, Qad, cond_false]
def QHg : Ent := spec (.pr Qac .nil) (fun x => (QaI x.1)) (fun x => (.tu [(.t (.sl (.int .u8)) ((QbR x.1).1)), (.t tI ((QbR x.1).2))]))
theorem QV3 : Meets Tryz.prog 166 (strip QHg) := Qah (R := runF QCU QyB QIE false) (mG Tryz.func166 (by kernel_rfl) Tryz.ntmps166 (by kernel_rfl) QY2 QXh) fun x hok => (e_f166 x.1).trans (s_f166 x.1 hok)
noncomputable def QyX : TC := (.sq (.reg (rT Tryz.f131 0)) (.sq (.sq (.reg (rT Tryz.f131 1)) (.cd (.t 6) (.sq (.reg (rT Tryz.f131 2)) .rt) .sk)) (.sq (.reg (rT Tryz.f131 3)) .rt)))
def QI0 : List (RV × Option Ty) := [((.t 2), some (.sl (.int .u8))), ((.t 3), some tI)]
def QC9 : G := ⟨TYs, [], 12, EL [(130, Qtb), (157, QHm), (158, QHl)], keeps, (fun _ _ => none), IL [], RL []⟩
def QBS (p0 : Qaa) : Option (V × List VO) := br (QaI p0) (br (ine (QdO p0) 0) (some (.tu [(.t (.sl (.int .u8)) ([] : List Int)), (.t tI 9)], [])) (br (Qgh p0) (br (encOk (bodyT p0)) (some (.tu [(.t (.sl (.int .u8)) ((encE (bodyT p0)).1)), (.t tI ((encE (bodyT p0)).2))], [])) none) none)) none
theorem e_f131 (p0 : Qaa) : runF QC9 QyX QI0 false [.t Qac p0] [] = QBS p0 := by kernel_rfl
theorem Q0r : Qai Tryz.prog 131 := .inr ⟨by decide, _, Tryz.func131, by kernel_rfl, by kernel_rfl⟩
theorem QZo : GOk Tryz.prog QC9 := Qal _ (gA (gC QA7 QAf (gC Q0f QV9 (gC Q0e QV8 gN))))
theorem QXD : QyX.lok QC9 := by repeat (first | exact trivial | refine ⟨?_, ?_⟩)
theorem s_f131 (c : Qaa) (h : QaI c = true) : QBS c = some (.tu [.t (.sl (.int .u8)) (QbR c).1, .t tI (QbR c).2], []) := by
 unfold QbR
 cases hv : QaE c with
 | true => simp only [QBS, h, hv, Qfb, QUQ hv, show Qgh c = true from by rw [Qgh, h, hv]; rfl, Bool.not_true, Qad, Qaf, cond_true]
 | false => simp only [QBS, h, hv, Qfb, Bool.not_false, Qad, cond_false]
def QHz : Ent := spec (.pr Qac .nil) (fun x => (QaI x.1)) (fun x => (.tu [(.t (.sl (.int .u8)) ((QbR x.1).1)), (.t tI ((QbR x.1).2))]))
theorem QWl : Meets Tryz.prog 131 (strip QHz) := Qah (R := runF QC9 QyX QI0 false) (mG Tryz.func131 (by kernel_rfl) Tryz.ntmps131 (by kernel_rfl) QZo QXD) fun x hok => (e_f131 x.1).trans (s_f131 x.1 hok)
def stepS (s x : Int) : Int := imul .u32 (ibxor .u32 s (icv .u32 x)) 16777619
def sumB (b : List Int) : Int := icv .i64 (b.foldl stepS 2166136261)
def lenB (b : List Int) : Bool := decide (b.length ≤ 100000)
def Qhf : Fg := ⟨[(3, some (.int .u32)), (6, some (.sl (.int .u8))), (7, some tI), (8, some tI)], []⟩
noncomputable def Qi7 : TC := (.sq (.reg (rT Tryz.f167 3)) (.sq (.cd (.t 9) .sk (.fg ⟨[(3, some (.int .u32))], []⟩ (.ex 0))) (.sq (.bk 1 (.sq (.reg (rT Tryz.f167 4)) (.reg (rT Tryz.f167 5)))) (.reg (rT Tryz.f167 6)))))
noncomputable def QyA : TC := (.sq (.reg (rT Tryz.f167 0)) (.sq (.reg (rT Tryz.f167 1)) (.sq (.sq (.reg (rT Tryz.f167 2)) (.bk 0 (.lp 0 Qhf Qi7))) (.sq (.reg (rT Tryz.f167 7)) .rt))))
def QID : List (RV × Option Ty) := [((.t 2), some tI)]
abbrev QpP : Sh := ⟨[(3, .ty (.int .u32)), (6, .ty (.sl (.int .u8))), (7, .ty tI), (8, .ty tI)], []⟩
def Qo7 (x3 : Int) (x6 : List Int) (x7 x8 : Int) : VS := QpP.st (x3, x6, x7, x8, ()) ()
abbrev Qwc : Sh := ⟨[(3, .ty (.int .u32))], []⟩
def Qed (x3 : Int) : VS := Qwc.st (x3, ()) ()
def QSE : VS → Option (Bool × List (Bool × Exit × VS)) := mkL QpP (fun x y => (rngOk x.2.1 x.2.2.1 x.2.2.2.1)) (fun x y => [(true, .exit 0, Qed ((x.2.1.drop x.2.2.2.1.toNat).foldl stepS x.1))])
def Qmn : G := ⟨TYs, [], 20, EL [], keeps, (Ls [QSE]), IL [], RL []⟩
def QDY (x3 : Int) (x6 : List Int) (x7 x8 : Int) : Option (Exit × VS) := br (ilt x8 x7) (br (cIx x6 x8) (some (.normal, Qo7 (imul .u32 (ibxor .u32 x3 (icv .u32 (lgt (.int .u8) x6 (Int.toNat x8)))) 16777619) x6 x7 (iadd .i64 x8 1))) none) (some (.exit 0, Qed x3))
noncomputable def QjW (x3 : Int) (x6 : List Int) (x7 x8 : Int) : Option (Exit × VS) := loopF (Qaj Qmn Qhf Qi7) (Qo7 x3 x6 x7 x8)
noncomputable def QnJ (x3 : Int) (x6 : List Int) (x7 x8 : Int) : Option (Exit × VS) := br (ilt x8 x7) (br (cIx x6 x8) (QjW (imul .u32 (ibxor .u32 x3 (icv .u32 (lgt (.int .u8) x6 (Int.toNat x8)))) 16777619) x6 x7 (iadd .i64 x8 1)) none) (some (.exit 0, Qed x3))
def Qkp (x3 : Int) (x6 : List Int) (x7 x8 : Int) : Option (Exit × VS) := some (.exit 0, Qed ((x6.drop x8.toNat).foldl stepS x3))
theorem QN6 (x3 : Int) (x6 : List Int) (x7 x8 : Int) : Qaj Qmn Qhf Qi7 (Qo7 x3 x6 x7 x8) = QDY x3 x6 x7 x8 := by kernel_rfl
theorem Qxb (x3 : Int) (x6 : List Int) (x7 x8 : Int) : QjW x3 x6 x7 x8 = QnJ x3 x6 x7 x8 := (Qan _ _).trans (by
 rw [QN6]
 simp only [QDY, QnJ, Qay, nxt_n, nxt_r, nxt_e, nxt_0]
 rfl)
def QJ4 (p0 : List Int) : Option (V × List VO) := br (rngOk p0 (llen p0) (0 : Int)) (some (.t tI (icv .i64 ((p0.drop (0 : Int).toNat).foldl stepS (2166136261 : Int))), [])) none
theorem e_f167 (p0 : List Int) : runF Qmn QyA QID false [.t (.sl (.int .u8)) p0] [] = QJ4 p0 := by kernel_rfl
theorem QZ8 : Qai Tryz.prog 167 := .inr ⟨by decide, _, Tryz.func167, by kernel_rfl, by kernel_rfl⟩
theorem QY1 : GOk Tryz.prog Qmn := Qal _ (fun p hp => by cases hp)
theorem QQx (x3 : Int) (x6 : List Int) (x7 x8 : Int) (h : (rngOk x6 x7 x8) = true) : QjW x3 x6 x7 x8 = Qkp x3 x6 x7 x8 := by
 obtain ⟨rfl, h3, k, rfl, hk⟩ := rng_k h
 clear h
 revert x3
 refine Qar x6 (fun k => ∀ x3 : Int, QjW x3 x6 (x6.length : Int) (k : Int) = Qkp x3 x6 (x6.length : Int) (k : Int)) ?_ ?_ k hk
 ·intro x3
  rw [Qxb]
  simp only [QnJ, Qkp, Qas, Nat.lt_irrefl, decide_false, Qaf, Int.toNat_natCast, List.drop_length, List.foldl_nil]
 ·intro k hk ih x3
  rw [Qxb]
  simp only [QnJ, Qas, Qaw, hk, decide_true, Qad, Int.toNat_natCast, add1 (show k < 4611686018427387904 by omega), QaA (y := .int .u8) hk, ih]
  simp only [Qkp, Int.toNat_natCast, List.drop_eq_getElem_cons hk, List.foldl_cons, stepS]
theorem QLE : ∀ S l p, Qmn.L 0 (fgt Qhf S) = some (true, l) → pickA l = some p → loopF (Qaj Qmn Qhf Qi7) S = some p :=
 QaB (s := QpP) ⟨by decide, by decide⟩ (by kernel_rfl) fun x y hok p hp => by
 simp only [Qao, Qam] at hp
 exact (QQx x.1 x.2.1 x.2.2.1 x.2.2.2.1 (by simpa using hok)).trans hp
theorem QXg : QyA.lok Qmn := by
 repeat (first | exact trivial | exact QLE | refine ⟨?_, ?_⟩)
theorem s_f167 (b : List Int) (h : lenB b = true) : QJ4 b = some (.t tI (sumB b), []) := by
 simp only [lenB, decide_eq_true_eq] at h
 simp only [QJ4, rng_0 h, Qad, Int.toNat_zero, List.drop_zero]
 rfl
def QHf : Ent := spec (.pr (.sl (.int .u8)) .nil) (fun x => (lenB x.1)) (fun x => (.t tI (sumB x.1)))
theorem QV2 : Meets Tryz.prog 167 (strip QHf) := Qah (R := runF Qmn QyA QID false) (mG Tryz.func167 (by kernel_rfl) Tryz.ntmps167 (by kernel_rfl) QY1 QXg) fun x hok => (e_f167 x.1).trans (s_f167 x.1 hok)
def Qhm : Fg := ⟨[(0, some (.sl (.int .u8))), (3, some (.int .u32)), (4, some tI)], []⟩
noncomputable def Qje : TC := (.sq (.sq (.reg (rT Tryz.f132 3)) (.cd (.t 8) .sk (.fg ⟨[(3, some (.int .u32))], []⟩ (.ex 0)))) (.sq (.bk 1 (.reg (rT Tryz.f132 4))) (.reg (rT Tryz.f132 5))))
noncomputable def QyW : TC := (.sq (.reg (rT Tryz.f132 0)) (.sq (.reg (rT Tryz.f132 1)) (.sq (.sq (.reg (rT Tryz.f132 2)) (.bk 0 (.lp 0 Qhm Qje))) (.sq (.reg (rT Tryz.f132 6)) .rt))))
def QIZ : List (RV × Option Ty) := [((.t 2), some tI)]
abbrev QpZ : Sh := ⟨[(0, .ty (.sl (.int .u8))), (3, .ty (.int .u32)), (4, .ty tI)], []⟩
def Qpd (x0 : List Int) (x3 x4 : Int) : VS := QpZ.st (x0, x3, x4, ()) ()
abbrev Qwj : Sh := ⟨[(3, .ty (.int .u32))], []⟩
def Qek (x3 : Int) : VS := Qwj.st (x3, ()) ()
def QSL : VS → Option (Bool × List (Bool × Exit × VS)) := mkL QpZ (fun x y => (idxOk x.1 x.2.2.1)) (fun x y => [(true, .exit 0, Qek ((x.1.drop x.2.2.1.toNat).foldl stepS x.2.1))])
def Qmu : G := ⟨TYs, [], 21, EL [], keeps, (Ls [QSL]), IL [], RL []⟩
def QD5 (x0 : List Int) (x3 x4 : Int) : Option (Exit × VS) := br (ilt x4 (llen x0)) (br (cIx x0 x4) (some (.normal, Qpd x0 (imul .u32 (ibxor .u32 x3 (icv .u32 (lgt (.int .u8) x0 (Int.toNat x4)))) 16777619) (iadd .i64 x4 1))) none) (some (.exit 0, Qek x3))
noncomputable def Qj3 (x0 : List Int) (x3 x4 : Int) : Option (Exit × VS) := loopF (Qaj Qmu Qhm Qje) (Qpd x0 x3 x4)
noncomputable def QnP (x0 : List Int) (x3 x4 : Int) : Option (Exit × VS) := br (ilt x4 (llen x0)) (br (cIx x0 x4) (Qj3 x0 (imul .u32 (ibxor .u32 x3 (icv .u32 (lgt (.int .u8) x0 (Int.toNat x4)))) 16777619) (iadd .i64 x4 1)) none) (some (.exit 0, Qek x3))
def Qkv (x0 : List Int) (x3 x4 : Int) : Option (Exit × VS) := some (.exit 0, Qek ((x0.drop x4.toNat).foldl stepS x3))
theorem QOd (x0 : List Int) (x3 x4 : Int) : Qaj Qmu Qhm Qje (Qpd x0 x3 x4) = QD5 x0 x3 x4 := by kernel_rfl
theorem Qxi (x0 : List Int) (x3 x4 : Int) : Qj3 x0 x3 x4 = QnP x0 x3 x4 := (Qan _ _).trans (by
 rw [QOd]
 simp only [QD5, QnP, Qay, nxt_n, nxt_r, nxt_e, nxt_0]
 rfl)
def QKj (p0 : List Int) : Option (V × List VO) := br (idxOk p0 (0 : Int)) (some (.t tI (icv .i64 ((p0.drop (0 : Int).toNat).foldl stepS (2166136261 : Int))), [])) none
theorem e_f132 (p0 : List Int) : runF Qmu QyW QIZ false [.t (.sl (.int .u8)) p0] [] = QKj p0 := by kernel_rfl
theorem Q0q : Qai Tryz.prog 132 := .inr ⟨by decide, _, Tryz.func132, by kernel_rfl, by kernel_rfl⟩
theorem QZn : GOk Tryz.prog Qmu := Qal _ (fun p hp => by cases hp)
theorem QQE (x0 : List Int) (x3 x4 : Int) (h : (idxOk x0 x4) = true) : Qj3 x0 x3 x4 = Qkv x0 x3 x4 := by
 simp only [idxOk, decide_eq_true_eq] at h
 obtain ⟨h0, h1, h2⟩ := h
 obtain ⟨k, rfl⟩ := Int.eq_ofNat_of_zero_le h0
 revert x3
 refine Qar x0 (fun k => ∀ x3 : Int, Qj3 x0 x3 (k : Int) = Qkv x0 x3 (k : Int)) ?_ ?_ k (by omega)
 ·intro x3
  rw [Qxi]
  simp only [QnP, Qkv, show ilt (x0.length : Int) (llen x0) = false from decide_eq_false (by simp only [llen]; omega), Qaf, Int.toNat_natCast, List.drop_length, List.foldl_nil]
 ·intro k hk ih x3
  rw [Qxi]
  simp only [QnP, show ilt (k : Int) (llen x0) = true from decide_eq_true (by simp only [llen]; omega), Qaw, hk, decide_true, Qad, Int.toNat_natCast, add1 (show k < 4611686018427387904 by omega), QaA (y := .int .u8) hk, ih]
  simp only [Qkv, Int.toNat_natCast, List.drop_eq_getElem_cons hk, List.foldl_cons, stepS]
theorem QLL : ∀ S l p, Qmu.L 0 (fgt Qhm S) = some (true, l) → pickA l = some p → loopF (Qaj Qmu Qhm Qje) S = some p :=
 QaB (s := QpZ) ⟨by decide, by decide⟩ (by kernel_rfl) fun x y hok p hp => by
 simp only [Qao, Qam] at hp
 exact (QQE x.1 x.2.1 x.2.2.1 (by simpa using hok)).trans hp
theorem QXC : QyW.lok Qmu := by
 repeat (first | exact trivial | exact QLL | refine ⟨?_, ?_⟩)
theorem s_f132 (b : List Int) (h : lenB b = true) : QKj b = some (.t tI (sumB b), []) := by
 simp only [lenB, decide_eq_true_eq] at h
 simp only [QKj, show idxOk b 0 = true from decide_eq_true (by omega), Qad, Int.toNat_zero, List.drop_zero]
 rfl
def QHy : Ent := spec (.pr (.sl (.int .u8)) .nil) (fun x => (lenB x.1)) (fun x => (.t tI (sumB x.1)))
theorem QWk : Meets Tryz.prog 132 (strip QHy) := Qah (R := runF Qmu QyW QIZ false) (mG Tryz.func132 (by kernel_rfl) Tryz.ntmps132 (by kernel_rfl) QZn QXC) fun x hok => (e_f132 x.1).trans (s_f132 x.1 hok)
theorem QUL (c : Qaa) : lenB (QbR c).1 = true := decide_eq_true (by have := QFm c; omega)
def Qlt (c : Qaa) (k : Int) : Bool := ieq (QbR c).2 0 && (ieq (cSeal c).1 k && ieq (cSeal c).2.1 (sumB (QbR c).1))
def QeQ (c : Qaa) (_k : Int) : Bool := QaI c
noncomputable def QNo : List DO := dT Tryz.f141 2
noncomputable def QyR : TC := (.sq (.reg (rT Tryz.f141 0)) (.sq (.reg (rT Tryz.f141 1)) (.sq (.dr QNo [(0, []), (1, []), (2, []), (3, [2]), (4, [2]), (5, []), (6, []), (7, []), (8, []), (9, []), (10, []), (11, [])] (.of [0, 1, 2, 3, 4, 5, 6, 7, 8, 9, 10, 11])) .rt)))
def QIU : List (RV × Option Ty) := [((.t 4), some .bool)]
def QC6 : G := ⟨TYs, [], 23, EL [(166, QHg), (167, QHf)], keeps, (fun _ _ => none), IL [], RL []⟩
def QKf (p0 : Qaa) (p1 : Int) : Option (V × List VO) := br (QaI p0) (br (ieq ((QbR p0).2) 0) (br (lenB ((QbR p0).1)) (some (.t .bool (and (ieq p0.2.2.2.2.2.2.2.2.2.2.2.1.1 p1) (and (ieq p0.2.2.2.2.2.2.2.2.2.2.2.1.2.1 (sumB ((QbR p0).1))) true)), [])) none) (some (.t .bool false, []))) none
theorem e_f141 (p0 : Qaa) (p1 : Int) : runF QC6 QyR QIU false [.t Qac p0, .t tI p1] [] = QKf p0 p1 := by kernel_rfl
theorem Q0l : Qai Tryz.prog 141 := .inr ⟨by decide, _, Tryz.func141, by kernel_rfl, by kernel_rfl⟩
theorem QZi : GOk Tryz.prog QC6 := Qal _ (gA (gC QZ9 QV3 (gC QZ8 QV2 gN)))
theorem QXx : QyR.lok QC6 := by repeat (first | exact trivial | refine ⟨?_, ?_⟩)
theorem s_f141 (c : Qaa) (k : Int) (h : QeQ c k = true) : QKf c k = some (.t .bool (Qlt c k), []) := by
 simp only [QKf, show QaI c = true from h, QUL, Qad, Bool.and_true]
 exact brA rfl
def QHt : Ent := spec (.pr Qac (.pr tI .nil)) (fun x => (QeQ x.1 x.2.1)) (fun x => (.t .bool (Qlt x.1 x.2.1)))
theorem QWf : Meets Tryz.prog 141 (strip QHt) := Qah (R := runF QC6 QyR QIU false) (mG Tryz.func141 (by kernel_rfl) Tryz.ntmps141 (by kernel_rfl) QZi QXx) fun x hok => (e_f141 x.1 x.2.1).trans (s_f141 x.1 x.2.1 hok)
def copyC (c : Qaa) : Qaa := c
noncomputable def QyZ : TC := (.sq (.reg (rT Tryz.f129 0)) (.sq (.reg (rT Tryz.f129 1)) (.sq (.reg (rT Tryz.f129 2)) .rt)))
def QI2 : List (RV × Option Ty) := [((.c 2 true 15), some Qac)]
def QDa : G := ⟨TYs, [3], 9, EL [], keeps, (fun _ _ => none), IL [], RL []⟩
def QKl (p0 : Qaa) : Option (V × List VO) := br (cApp ([] : List ByteArray) p0.2.2.2.2.2.2.2.2.2.2.1 16) (some (.t Qac (p0.1, (p0.2.1, (p0.2.2.1, ((p0.2.2.2.1.1, (p0.2.2.2.1.2.1, ())), (p0.2.2.2.2.1, ((p0.2.2.2.2.2.1.1, (p0.2.2.2.2.2.1.2.1, ())), (p0.2.2.2.2.2.2.1, (p0.2.2.2.2.2.2.2.1, (p0.2.2.2.2.2.2.2.2.1, (p0.2.2.2.2.2.2.2.2.2.1, ((([] : List ByteArray) ++ p0.2.2.2.2.2.2.2.2.2.2.1), ((p0.2.2.2.2.2.2.2.2.2.2.2.1.1, (p0.2.2.2.2.2.2.2.2.2.2.2.1.2.1, ())), ())))))))))))), [])) none
theorem e_f129 (p0 : Qaa) : runF QDa QyZ QI2 false [.t Qac p0] [] = QKl p0 := by kernel_rfl
theorem Q0s : Qai Tryz.prog 129 := .inr ⟨by decide, _, Tryz.func129, by kernel_rfl, by kernel_rfl⟩
theorem QZq : GOk Tryz.prog QDa := Qal _ (fun p hp => by cases hp)
theorem QXF : QyZ.lok QDa := by repeat (first | exact trivial | refine ⟨?_, ?_⟩)
theorem QxP {c : Qaa} (h : QaI c = true) : (QaF c).length ≤ 100000 := by
 simp only [QaI, Qb2, Bool.and_eq_true, decide_eq_true_eq] at h
 exact h.2.2.1
theorem s_f129 (c : Qaa) (h : QaI c = true) : QKl c = some (.t Qac (copyC c), []) := by
 have hn : c.2.2.2.2.2.2.2.2.2.2.1.length ≤ 100000 := QxP h
 simp only [QKl]
 rw [cAppN (by omega) (by simp only [List.length_nil]; omega), Qad]
 rfl
def QHA : Ent := spec (.pr Qac .nil) (fun x => (QaI x.1)) (fun x => (.t Qac (copyC x.1)))
theorem QWm : Meets Tryz.prog 129 (strip QHA) := Qah (R := runF QDa QyZ QI2 false) (mG Tryz.func129 (by kernel_rfl) Tryz.ntmps129 (by kernel_rfl) QZq QXF) fun x hok => (e_f129 x.1).trans (s_f129 x.1 hok)
def sealC (c : Qaa) (s : Keep) : Qaa := (c.1, (c.2.1, (c.2.2.1, (c.2.2.2.1, (c.2.2.2.2.1, (c.2.2.2.2.2.1, (c.2.2.2.2.2.2.1, (c.2.2.2.2.2.2.2.1, (c.2.2.2.2.2.2.2.2.1, (c.2.2.2.2.2.2.2.2.2.1, (c.2.2.2.2.2.2.2.2.2.2.1, (s, ()))))))))))))
def unsC (c : Qaa) : Qaa := sealC c (0, (0, ()))
def QHV (c : Qaa) (k : Int) : Bool := !QaE (unsC c) || (ilt k 0 || igt k 2147483648)
abbrev zCert : Qaa := Ty.zero Qac
def signC (c : Qaa) (k : Int) : Qaa × Int := bif QHV c k then (zCert, 9) else (sealC c (k, (sumB (QbR (unsC c)).1, ())), 0)
noncomputable def QFS : TC := (.sq (.reg (rT Tryz.f84 0)) (.sq (.reg (rT Tryz.f84 1)) (.sq (.reg (rT Tryz.f84 2)) (.sq (.sq (.reg (rT Tryz.f84 3)) (.cd (.t 22) (.sq (.reg (rT Tryz.f84 4)) .rt) .sk)) (.sq (.reg (rT Tryz.f84 5)) (.sq (.reg (rT Tryz.f84 6)) (.sq (.reg (rT Tryz.f84 7)) .rt)))))))
def QTE : List (RV × Option Ty) := [((.c 4 true 15), some Qac), ((.t 5), some tI)]
def g_f84 : G := ⟨TYs, [], 35, EL [(129, QHA), (130, Qtb), (131, QHz), (132, QHy)], keeps, (fun _ _ => none), IL [], RL []⟩
def r_f84 (p0 : Qaa) (p1 : Int) : Option (V × List VO) :=
 let a4 := ((copyC p0).2)
 let a1 := ((((a4.2).2).2).2)
 let a5 := (((a1.2).2).2)
 let a2 := ((QbR ((copyC p0).1, (a4.1, ((a4.2).1, (((a4.2).2).1, ((((a4.2).2).2).1, (a1.1, ((a1.2).1, (((a1.2).2).1, (a5.1, ((a5.2).1, (((a5.2).2).1, ((0, (0, ())), (((a5.2).2).2).2))))))))))))).1)
 let a3 := (QaI ((copyC p0).1, (a4.1, ((a4.2).1, (((a4.2).2).1, ((((a4.2).2).2).1, (a1.1, ((a1.2).1, (((a1.2).2).1, (a5.1, ((a5.2).1, (((a5.2).2).1, ((0, (0, ())), (((a5.2).2).2).2)))))))))))))
 let a6 := ByteArray.mk #[]
 br (QaI p0) (br a3 (br (ine (QdO ((copyC p0).1, (a4.1, ((a4.2).1, (((a4.2).2).1, ((((a4.2).2).2).1, (a1.1, ((a1.2).1, (((a1.2).2).1, (a5.1, ((a5.2).1, (((a5.2).2).1, ((0, (0, ())), (((a5.2).2).2).2))))))))))))) 0) (some (.tu [(.t Qac (0, (a6, (a6, ((0, (0, ())), (0, ((0, (0, ())), (0, (0, (false, (0, (([] : List ByteArray), ((0, (0, ())), ()))))))))))))), (.t tI 9)], [])) (br (ilt p1 0) (some (.tu [(.t Qac (0, (a6, (a6, ((0, (0, ())), (0, ((0, (0, ())), (0, (0, (false, (0, (([] : List ByteArray), ((0, (0, ())), ()))))))))))))), (.t tI 9)], [])) (br (igt p1 2147483648) (some (.tu [(.t Qac (0, (a6, (a6, ((0, (0, ())), (0, ((0, (0, ())), (0, (0, (false, (0, (([] : List ByteArray), ((0, (0, ())), ()))))))))))))), (.t tI 9)], [])) (br a3 (br (lenB a2) (some (.tu [(.t Qac ((copyC p0).1, (a4.1, ((a4.2).1, (((a4.2).2).1, ((((a4.2).2).2).1, (a1.1, ((a1.2).1, (((a1.2).2).1, (a5.1, ((a5.2).1, (((a5.2).2).1, ((p1, ((sumB a2), ())), (((a5.2).2).2).2))))))))))))), (.t tI 0)], [])) none) none)))) none) none
theorem e_f84 (p0 : Qaa) (p1 : Int) : runF g_f84 QFS QTE false [.t Qac p0, .t tI p1] [] = r_f84 p0 p1 := by kernel_rfl
theorem en_f84 : Qai Tryz.prog 84 := .inr ⟨by decide, _, Tryz.func84, by kernel_rfl, by kernel_rfl⟩
theorem gk_f84 : GOk Tryz.prog g_f84 := Qal _ (gA (gC Q0s QWm (gC QA7 QAf (gC Q0r QWl (gC Q0q QWk gN)))))
theorem lk_f84 : QFS.lok g_f84 := by repeat (first | exact trivial | refine ⟨?_, ?_⟩)
theorem s_f84 (c : Qaa) (k : Int) (h : QeQ c k = true) : r_f84 c k = some (.tu [.t Qac (signC c k).1, .t tI (signC c k).2], []) := by
 have h : QaI c = true := h
 have hu : QaI (unsC c) = true := h
 have e : ((copyC c).1, ((copyC c).2.1, ((copyC c).2.2.1, ((copyC c).2.2.2.1, ((copyC c).2.2.2.2.1, ((copyC c).2.2.2.2.2.1, ((copyC c).2.2.2.2.2.2.1, ((copyC c).2.2.2.2.2.2.2.1, ((copyC c).2.2.2.2.2.2.2.2.1, ((copyC c).2.2.2.2.2.2.2.2.2.1, ((copyC c).2.2.2.2.2.2.2.2.2.2.1, ((0, (0, ())), ())))))))))))) = unsC c := rfl
 simp only [r_f84, h, e, hu, Qfb, QUL, Qad]
 unfold signC QHV
 cases QaE (unsC c) with
 | false => rfl
 | true =>
  rw [Bool.not_true, Qaf, Bool.false_or]
  cases ilt k 0 with
  | true => rfl
  | false =>
   rw [Qaf, Bool.false_or]
   cases igt k 2147483648 <;> rfl
def QS5 : Ent := spec (.pr Qac (.pr tI .nil)) (fun x => (QeQ x.1 x.2.1)) (fun x => (.tu [(.t Qac ((signC x.1 x.2.1).1)), (.t tI ((signC x.1 x.2.1).2))]))
theorem ms_f84 : Meets Tryz.prog 84 (strip QS5) := Qah (R := runF g_f84 QFS QTE false) (mG Tryz.func84 (by kernel_rfl) Tryz.ntmps84 (by kernel_rfl) gk_f84 lk_f84) fun x hok => (e_f84 x.1 x.2.1).trans (s_f84 x.1 x.2.1 hok)
def QaQ (l : List Qaa) : Bool := decide (l.length ≤ 100000) && l.all QaI
def Qrl (key : Keep) (id : Int) (l : List Qaa) : Bool := ieq (llen l) 0 || (((l.getD 0 zCert).2.2.2.1 == key) && ieq (l.getD 0 zCert).2.2.2.2.1 id)
def QdE (key : Keep) (id : Int) (l : List Qaa) : Bool := QbS key && (!ine (kindF key.1) 2 && (keyI id && (!igt (llen l) 8 && (l.all QaE && Qrl key id l))))
def QeT (_key : Keep) (_id : Int) (l : List Qaa) : Bool := QaQ l
theorem QsC (key : Keep) (id : Int) (l : List Qaa) : br (ieq (llen l) 0) (some (V.t .bool true, ([] : List VO))) (br (cIx l 0) (br ((lgt Qac l 0).2.2.2.1 == key) (br (cIx l 0) (some (V.t .bool (ieq (lgt Qac l 0).2.2.2.2.1 id), [])) none) (some (V.t .bool false, []))) none) = some (V.t .bool (Qrl key id l), []) := by
 unfold Qrl
 cases l with
 | nil => rfl
 | cons c l =>
  have h1 : ieq (llen (c :: l)) 0 = false := by
   simp only [ieq, llen, List.length_cons, beq_eq_false_iff_ne]
   omega
  have h2 : cIx (c :: l) 0 = true := by simp only [cIx, List.length_cons, decide_eq_true_eq]; omega
  rw [h1, Qaf, h2, Qad, Bool.false_or, Qad]
  show br (c.2.2.2.1 == key) _ _ = some (V.t .bool ((c.2.2.2.1 == key) && ieq c.2.2.2.2.1 id), [])
  cases c.2.2.2.1 == key <;> rfl
noncomputable def QNr : List DO := dT Tryz.f117 9
def Qhp : Fg := ⟨[(1, some tI), (2, some (.sl Qac)), (3, none), (28, some (.sl Qac)), (29, some tI), (30, some tI)], [(3, some Qag)]⟩
noncomputable def Qjh : TC := (.sq (.reg (rT Tryz.f117 4)) (.sq (.cd (.t 31) .sk (.fg ⟨[(1, some tI), (2, some (.sl Qac)), (3, none)], [(3, some Qag)]⟩ (.ex 0))) (.sq (.bk 1 (.sq (.reg (rT Tryz.f117 5)) (.sq (.reg (rT Tryz.f117 6)) (.cd (.t 36) (.sq (.reg (rT Tryz.f117 7)) (.fg ⟨[(6, some .bool)], []⟩ .rt)) .sk)))) (.reg (rT Tryz.f117 8)))))
noncomputable def Qy6 : TC := (.sq (.reg (rT Tryz.f117 0)) (.sq (.sq (.reg (rT Tryz.f117 1)) (.cd (.t 27) (.sq (.reg (rT Tryz.f117 2)) .rt) .sk)) (.sq (.sq (.reg (rT Tryz.f117 3)) (.bk 0 (.lp 0 Qhp Qjh))) (.sq (.dr QNr [(0, []), (1, []), (2, []), (3, []), (4, []), (5, []), (6, []), (7, []), (8, [3]), (9, []), (10, []), (11, []), (12, []), (13, []), (14, []), (15, []), (16, []), (17, []), (18, []), (19, [])] (.of [0, 1, 2, 3, 4, 5, 6, 7, 8, 9, 10, 11, 12, 13, 14, 15, 16, 17, 18, 19])) .rt))))
def QI9 : List (RV × Option Ty) := [((.t 6), some .bool)]
abbrev Qp4 : Sh := ⟨[(1, .ty tI), (2, .ty (.sl Qac)), (3, .ptr 3 0), (28, .ty (.sl Qac)), (29, .ty tI), (30, .ty tI)], [(3, .box Qag)]⟩
def Qpf (x1 : Int) (x2 x28 : List Qaa) (x29 x30 : Int) (y3 : Keep) : VS := Qp4.st (x1, x2, (), x28, x29, x30, ()) (y3, ())
abbrev QtQ : Sh := ⟨[(6, .ty .bool)], []⟩
def Qdm (x6 : Bool) : VS := QtQ.st (x6, ()) ()
abbrev Qwm : Sh := ⟨[(1, .ty tI), (2, .ty (.sl Qac)), (3, .ptr 3 0)], [(3, .box Qag)]⟩
def Qen (x1 : Int) (x2 : List Qaa) (y3 : Keep) : VS := Qwm.st (x1, x2, (), ()) (y3, ())
def QSO : VS → Option (Bool × List (Bool × Exit × VS)) := mkL Qp4 (fun x y => (rngOk x.2.2.2.1 x.2.2.2.2.1 x.2.2.2.2.2.1 && QaQ x.2.2.2.1)) (fun x y => [((!(x.2.2.2.1.drop x.2.2.2.2.2.1.toNat).all QaE), .ret, Qdm (false)), (true, .exit 0, Qen (x.1) (x.2.1) (y.1))])
def Qmx : G := ⟨TYs, [], 57, EL [(96, QGB), (121, Qte), (125, Qtc), (155, Qta)], keeps, (Ls [QSO]), IL [], RL []⟩
def QD8 (x1 : Int) (x2 x28 : List Qaa) (x29 x30 : Int) (y3 : Keep) : Option (Exit × VS) :=
 let a1 := lgt Qac x28 (Int.toNat x30)
 br (ilt x30 x29) (br (cIx x28 x30) (br (QaI a1) (br (ine (QdO a1) 0) (some (.ret, Qdm false)) (some (.normal, Qpf x1 x2 x28 x29 (iadd .i64 x30 1) y3))) none) none) (some (.exit 0, Qen x1 x2 y3))
noncomputable def Qj5 (x1 : Int) (x2 x28 : List Qaa) (x29 x30 : Int) (y3 : Keep) : Option (Exit × VS) := loopF (Qaj Qmx Qhp Qjh) (Qpf x1 x2 x28 x29 x30 y3)
noncomputable def QnS (x1 : Int) (x2 x28 : List Qaa) (x29 x30 : Int) (y3 : Keep) : Option (Exit × VS) :=
 let a1 := lgt Qac x28 (Int.toNat x30)
 br (ilt x30 x29) (br (cIx x28 x30) (br (QaI a1) (br (ine (QdO a1) 0) (some (.ret, Qdm false)) (Qj5 x1 x2 x28 x29 (iadd .i64 x30 1) y3)) none) none) (some (.exit 0, Qen x1 x2 y3))
def Qky (x1 : Int) (x2 x28 : List Qaa) (x29 x30 : Int) (y3 : Keep) : Option (Exit × VS) := br (!(x28.drop x30.toNat).all QaE) (some (.ret, Qdm (false))) <| some (.exit 0, Qen (x1) (x2) (y3))
theorem QOg (x1 : Int) (x2 x28 : List Qaa) (x29 x30 : Int) (y3 : Keep) : Qaj Qmx Qhp Qjh (Qpf x1 x2 x28 x29 x30 y3) = QD8 x1 x2 x28 x29 x30 y3 := by kernel_rfl
theorem Qxl (x1 : Int) (x2 x28 : List Qaa) (x29 x30 : Int) (y3 : Keep) : Qj5 x1 x2 x28 x29 x30 y3 = QnS x1 x2 x28 x29 x30 y3 := (Qan _ _).trans (by
 rw [QOg]
 simp only [QD8, QnS, Qay, nxt_n, nxt_r, nxt_e, nxt_0]
 rfl)
def QKo (p0 : Keep) (p1 : Int) (p2 : List Qaa) : Option (V × List VO) :=
 let a1 := ((((lgt Qac (p2) (Int.toNat 0)).2).2).2)
 br (!(QbS p0)) (some (.t .bool false, [])) (br (ine (kindF p0.1) 2) (some (.t .bool false, [])) (br (!(keyI p1)) (some (.t .bool false, [])) (br (igt (llen p2) 8) (some (.t .bool false, [])) (br (rngOk p2 (llen p2) (0 : Int) && QaQ p2) (br (!(p2.drop (0 : Int).toNat).all QaE) (some (.t .bool (false), [])) (br (ieq (llen (p2)) 0) (some (.t .bool true, [])) (br (cIx (p2) 0) (br (and (ieq ((a1.1).1) ((p0).1)) (and (ieq (((a1.1).2).1) (((p0).2).1)) true)) (br (cIx (p2) 0) (some (.t .bool (ieq ((a1.2).1) (p1)), [])) none) (some (.t .bool false, []))) none))) none))))
theorem e_f117 (p0 : Keep) (p1 : Int) (p2 : List Qaa) : runF Qmx Qy6 QI9 false [.t Qag p0, .t tI p1, .t (.sl Qac) p2] [] = QKo p0 p1 p2 := by kernel_rfl
theorem Q0w : Qai Tryz.prog 117 := .inr ⟨by decide, _, Tryz.func117, by kernel_rfl, by kernel_rfl⟩
theorem QZx : GOk Tryz.prog Qmx := Qal _ (gA (gC QUR QUB (gC QBa QAi (gC QA8 QAg (gC QA5 QAd gN)))))
theorem QQH (x1 : Int) (x2 x28 : List Qaa) (x29 x30 : Int) (y3 : Keep) (h : (rngOk x28 x29 x30 && QaQ x28) = true) : Qj5 x1 x2 x28 x29 x30 y3 = Qky x1 x2 x28 x29 x30 y3 := by
 simp only [Bool.and_eq_true] at h
 obtain ⟨h0, hc⟩ := h
 obtain ⟨rfl, h3, k, rfl, hk⟩ := rng_k h0
 clear h0
 simp only [QaQ, Bool.and_eq_true, List.all_eq_true] at hc
 refine Qar x28 (fun k => Qj5 x1 x2 x28 (x28.length : Int) (k : Int) y3 = Qky x1 x2 x28 (x28.length : Int) (k : Int) y3) ?_ ?_ k hk
 ·rw [Qxl]
  simp only [QnS, Qky, Qas, Nat.lt_irrefl, decide_false, Qaf, Int.toNat_natCast, List.drop_length, List.all_nil, Bool.not_true]
 ·intro k hk ih
  rw [Qxl]
  have hx := hc.2 x28[k] (List.getElem_mem hk)
  simp only [QnS, Qas, Qaw, hk, decide_true, Qad, Int.toNat_natCast, add1 (show k < 4611686018427387904 by omega), QaA (y := Qac) hk, hx, Qfb, ih]
  simp only [Qky, Int.toNat_natCast, List.drop_eq_getElem_cons hk, List.all_cons]
  cases QaE x28[k] <;> rfl
theorem QLO : ∀ S l p, Qmx.L 0 (fgt Qhp S) = some (true, l) → pickA l = some p → loopF (Qaj Qmx Qhp Qjh) S = some p :=
 QaB (s := Qp4) ⟨by decide, by decide⟩ (by kernel_rfl) fun x y hok p hp => by
 simp only [Qao, Qam] at hp
 exact (QQH x.1 x.2.1 x.2.2.2.1 x.2.2.2.2.1 x.2.2.2.2.2.1 y.1 (by simpa using hok)).trans hp
theorem QXM : Qy6.lok Qmx := by
 repeat (first | exact trivial | exact QLO | refine ⟨?_, ?_⟩)
theorem s_f117 (key : Keep) (id : Int) (l : List Qaa) (h : QeT key id l = true) : QKo key id l = some (.t .bool (QdE key id l), []) := by
 have h : QaQ l = true := h
 have hl : l.length ≤ 100000 := by simp only [QaQ, Bool.and_eq_true, decide_eq_true_eq] at h; exact h.1
 simp only [QKo, rng_0 hl, h, Bool.and_self, Qad, Int.toNat_zero, List.drop_zero, QL9]
 unfold QdE
 refine (brB <| brB <| brB <| brB <| brB (QsC key id l)).trans ?_
 simp only [Bool.not_not]
def QHE : Ent := spec (.pr Qag (.pr tI (.pr (.sl Qac) .nil))) (fun x => (QeT x.1 x.2.1 x.2.2.1)) (fun x => (.t .bool (QdE x.1 x.2.1 x.2.2.1)))
theorem QWq : Meets Tryz.prog 117 (strip QHE) := Qah (R := runF Qmx Qy6 QI9 false) (mG Tryz.func117 (by kernel_rfl) Tryz.ntmps117 (by kernel_rfl) QZx QXM) fun x hok => (e_f117 x.1 x.2.1 x.2.2.1).trans (s_f117 x.1 x.2.1 x.2.2.1 hok)
noncomputable def QNt : List DO := dT Tryz.f105 8
def Qht : Fg := ⟨[(1, some tI), (2, some (.sl Qac)), (3, none), (7, some tI)], [(3, some Qag)]⟩
noncomputable def Qjl : TC := (.sq (.sq (.reg (rT Tryz.f105 4)) (.cd (.t 27) .sk (.fg ⟨[(1, some tI), (2, some (.sl Qac)), (3, none)], [(3, some Qag)]⟩ (.ex 0)))) (.sq (.bk 1 (.sq (.reg (rT Tryz.f105 5)) (.cd (.t 35) (.sq (.reg (rT Tryz.f105 6)) (.fg ⟨[(6, some .bool)], []⟩ .rt)) .sk))) (.reg (rT Tryz.f105 7))))
noncomputable def Qzb : TC := (.sq (.reg (rT Tryz.f105 0)) (.sq (.sq (.reg (rT Tryz.f105 1)) (.cd (.t 23) (.sq (.reg (rT Tryz.f105 2)) .rt) .sk)) (.sq (.sq (.reg (rT Tryz.f105 3)) (.bk 0 (.lp 0 Qht Qjl))) (.sq (.dr QNt [(0, []), (1, []), (2, []), (3, []), (4, []), (5, []), (6, []), (7, []), (8, [3]), (9, []), (10, []), (11, []), (12, []), (13, []), (14, []), (15, []), (16, []), (17, []), (18, []), (19, [])] (.of [0, 1, 2, 3, 4, 5, 6, 7, 8, 9, 10, 11, 12, 13, 14, 15, 16, 17, 18, 19])) .rt))))
def QJe : List (RV × Option Ty) := [((.t 6), some .bool)]
abbrev Qp8 : Sh := ⟨[(1, .ty tI), (2, .ty (.sl Qac)), (3, .ptr 3 0), (7, .ty tI)], [(3, .box Qag)]⟩
def Qpi (x1 : Int) (x2 : List Qaa) (x7 : Int) (y3 : Keep) : VS := Qp8.st (x1, x2, (), x7, ()) (y3, ())
abbrev QtU : Sh := ⟨[(6, .ty .bool)], []⟩
def Qdp (x6 : Bool) : VS := QtU.st (x6, ()) ()
abbrev Qwq : Sh := ⟨[(1, .ty tI), (2, .ty (.sl Qac)), (3, .ptr 3 0)], [(3, .box Qag)]⟩
def Qer (x1 : Int) (x2 : List Qaa) (y3 : Keep) : VS := Qwq.st (x1, x2, (), ()) (y3, ())
def QSS : VS → Option (Bool × List (Bool × Exit × VS)) := mkL Qp8 (fun x y => (decide (0 ≤ x.2.2.2.1 ∧ x.2.2.2.1 ≤ x.2.1.length) && QaQ x.2.1)) (fun x y => [((!(x.2.1.drop x.2.2.2.1.toNat).all QaE), .ret, Qdp (false)), (true, .exit 0, Qer (x.1) (x.2.1) (y.1))])
def QmB : G := ⟨TYs, [], 55, EL [(130, Qtb), (145, Qzo)], keeps, (Ls [QSS]), IL [], RL []⟩
def QEc (x1 : Int) (x2 : List Qaa) (x7 : Int) (y3 : Keep) : Option (Exit × VS) :=
 let a1 := lgt Qac x2 (Int.toNat x7)
 br (ilt x7 (llen x2)) (br (cIx x2 x7) (br (QaI a1) (br (ine (QdO a1) 0) (some (.ret, Qdp false)) (some (.normal, Qpi x1 x2 (iadd .i64 x7 1) y3))) none) none) (some (.exit 0, Qer x1 x2 y3))
noncomputable def Qj8 (x1 : Int) (x2 : List Qaa) (x7 : Int) (y3 : Keep) : Option (Exit × VS) := loopF (Qaj QmB Qht Qjl) (Qpi x1 x2 x7 y3)
noncomputable def QnW (x1 : Int) (x2 : List Qaa) (x7 : Int) (y3 : Keep) : Option (Exit × VS) :=
 let a1 := lgt Qac x2 (Int.toNat x7)
 br (ilt x7 (llen x2)) (br (cIx x2 x7) (br (QaI a1) (br (ine (QdO a1) 0) (some (.ret, Qdp false)) (Qj8 x1 x2 (iadd .i64 x7 1) y3)) none) none) (some (.exit 0, Qer x1 x2 y3))
def QkC (x1 : Int) (x2 : List Qaa) (x7 : Int) (y3 : Keep) : Option (Exit × VS) := br (!(x2.drop x7.toNat).all QaE) (some (.ret, Qdp (false))) <| some (.exit 0, Qer (x1) (x2) (y3))
theorem QOk (x1 : Int) (x2 : List Qaa) (x7 : Int) (y3 : Keep) : Qaj QmB Qht Qjl (Qpi x1 x2 x7 y3) = QEc x1 x2 x7 y3 := by kernel_rfl
theorem Qxp (x1 : Int) (x2 : List Qaa) (x7 : Int) (y3 : Keep) : Qj8 x1 x2 x7 y3 = QnW x1 x2 x7 y3 := (Qan _ _).trans (by
 rw [QOk]
 simp only [QEc, QnW, Qay, nxt_n, nxt_r, nxt_e, nxt_0]
 rfl)
def QKs (p0 : Keep) (p1 : Int) (p2 : List Qaa) : Option (V × List VO) :=
 let a1 := ((((lgt Qac (p2) (Int.toNat 0)).2).2).2)
 br (!(signU p0)) (some (.t .bool false, [])) (br (ilt p1 0) (some (.t .bool false, [])) (br (igt p1 2147483648) (some (.t .bool false, [])) (br (igt (llen p2) 8) (some (.t .bool false, [])) (br (decide (0 ≤ (0 : Int) ∧ (0 : Int) ≤ p2.length) && QaQ p2) (br (!(p2.drop (0 : Int).toNat).all QaE) (some (.t .bool (false), [])) (br (ieq (llen (p2)) 0) (some (.t .bool true, [])) (br (cIx (p2) 0) (br (and (ieq ((a1.1).1) ((p0).1)) (and (ieq (((a1.1).2).1) (((p0).2).1)) true)) (br (cIx (p2) 0) (some (.t .bool (ieq ((a1.2).1) (p1)), [])) none) (some (.t .bool false, []))) none))) none))))
theorem e_f105 (p0 : Keep) (p1 : Int) (p2 : List Qaa) : runF QmB Qzb QJe false [.t Qag p0, .t tI p1, .t (.sl Qac) p2] [] = QKs p0 p1 p2 := by kernel_rfl
theorem Q0B : Qai Tryz.prog 105 := .inr ⟨by decide, _, Tryz.func105, by kernel_rfl, by kernel_rfl⟩
theorem QZC : GOk Tryz.prog QmB := Qal _ (gA (gC QA7 QAf (gC QM6 QLa gN)))
theorem QQL (x1 : Int) (x2 : List Qaa) (x7 : Int) (y3 : Keep) (h : (decide (0 ≤ x7 ∧ x7 ≤ x2.length) && QaQ x2) = true) : Qj8 x1 x2 x7 y3 = QkC x1 x2 x7 y3 := by
 simp only [QaQ, Bool.and_eq_true, decide_eq_true_eq, List.all_eq_true] at h
 obtain ⟨⟨h0, h1⟩, h3, hc⟩ := h
 obtain ⟨k, rfl⟩ := Int.eq_ofNat_of_zero_le h0
 refine Qar x2 (fun k => Qj8 x1 x2 (k : Int) y3 = QkC x1 x2 (k : Int) y3) ?_ ?_ k (by omega)
 ·rw [Qxp]
  simp only [QnW, QkC, show ilt (x2.length : Int) (llen x2) = false from decide_eq_false (by simp only [llen]; omega), Qaf, Int.toNat_natCast, List.drop_length, List.all_nil, Bool.not_true]
 ·intro k hk ih
  rw [Qxp]
  have hx := hc x2[k] (List.getElem_mem hk)
  simp only [QnW, show ilt (k : Int) (llen x2) = true from decide_eq_true (by simp only [llen]; omega), Qaw, hk, decide_true, Qad, Int.toNat_natCast, add1 (show k < 4611686018427387904 by omega), QaA (y := Qac) hk, hx, Qfb, ih]
  simp only [QkC, Int.toNat_natCast, List.drop_eq_getElem_cons hk, List.all_cons]
  cases QaE x2[k] <;> rfl
theorem QLS : ∀ S l p, QmB.L 0 (fgt Qht S) = some (true, l) → pickA l = some p → loopF (Qaj QmB Qht Qjl) S = some p :=
 QaB (s := Qp8) ⟨by decide, by decide⟩ (by kernel_rfl) fun x y hok p hp => by
 simp only [Qao, Qam] at hp
 exact (QQL x.1 x.2.1 x.2.2.2.1 y.1 (by simpa using hok)).trans hp
theorem QXR : Qzb.lok QmB := by
 repeat (first | exact trivial | exact QLS | refine ⟨?_, ?_⟩)
theorem s_f105 (key : Keep) (id : Int) (l : List Qaa) (h : QeT key id l = true) : QKs key id l = some (.t .bool (QdE key id l), []) := by
 have h : QaQ l = true := h
 have hl : l.length ≤ 100000 := by simp only [QaQ, Bool.and_eq_true, decide_eq_true_eq] at h; exact h.1
 have hd : (0 : Int) ≤ 0 ∧ (0 : Int) ≤ l.length := ⟨by omega, by omega⟩
 simp only [QKs, h, decide_eq_true hd, Bool.and_self, Qad, Int.toNat_zero, List.drop_zero, QL9]
 unfold QdE signU kindU keyI
 refine (brB <| brB <| brB <| brB <| brB (QsC key id l)).trans ?_
 simp only [Bool.not_not, QiJ, Bool.and_assoc]
def QHJ : Ent := spec (.pr Qag (.pr tI (.pr (.sl Qac) .nil))) (fun x => (QeT x.1 x.2.1 x.2.2.1)) (fun x => (.t .bool (QdE x.1 x.2.1 x.2.2.1)))
theorem QWv : Meets Tryz.prog 105 (strip QHJ) := Qah (R := runF QmB Qzb QJe false) (mG Tryz.func105 (by kernel_rfl) Tryz.ntmps105 (by kernel_rfl) QZC QXR) fun x hok => (e_f105 x.1 x.2.1 x.2.2.1).trans (s_f105 x.1 x.2.1 x.2.2.1 hok)
end
end Go.Proofs.YtckcgijklnloiaaGreat.K
namespace Go.Proofs
open Go.Shelf
def Tryz.lays137_ren : Go.Shelf.Ren := ⟨fun | 137 => 179 | 217 => 208 | 266 => 229 | n => n, fun | 9 => 9 | 5 => 5 | 3 => 3 | n => n, fun | n => n⟩
theorem Tryz.lays137 : Go.Proofs.Lays.n137 Tryz.prog Tryz.lays137_ren := {
 mixed := by kernel_rfl
 f137 := Tryz.func179.trans (congrArg some (by kernel_rfl))
 f217 := Tryz.func208.trans (congrArg some (by kernel_rfl))
 f266 := Tryz.func229.trans (congrArg some (by kernel_rfl))
 t3 := Tryz.underlying3
 a3 := Tryz.isAgg3
 z3 := Tryz.sizeOf3
 v3 := Tryz.zeroValue3
 t5 := Tryz.underlying5
 a5 := Tryz.isAgg5
 z5 := Tryz.sizeOf5
 v5 := Tryz.zeroValue5
 t9 := Tryz.underlying9
 a9 := Tryz.isAgg9
 z9 := Tryz.sizeOf9
 v9 := Tryz.zeroValue9 }
end Go.Proofs
namespace Go.Proofs.YtckcgijklnloiaaGreat.K
open Go.RowKit Go.Shelf
noncomputable section
def ixB (s : ByteArray) (c : Int) : Int := Lib.indexByte s.data.toList c.toNat.toUInt8
def QHb : Ent := spec (.pr .str (.pr (.int .u8) .nil)) (fun x => true) (fun x => (.t tI (ixB x.1 x.2.1)))
theorem QZ4 : Qai Tryz.prog 179 := .inr ⟨by decide, _, Tryz.func179, by kernel_rfl, by kernel_rfl⟩
theorem QVY : Meets Tryz.prog 179 (strip QHb) := QAr fun x hok X w σ vs hfin hc => by
 obtain ⟨s, c, u⟩ := x
 simp only [Ty.canon, V.ds, V.d, Ty.d, Cs, C] at hc
 obtain ⟨v1, r1, rfl, ⟨rfl, _⟩, v2, r2, rfl, ⟨rfl, _⟩, rfl⟩ := hc
 refine (Any.strings_IndexByte Tryz.lays137 s c w).mono ?_
 rintro e w' ⟨rfl, rfl⟩
 refine ⟨_, rfl, ?_, Below.refl _ _⟩
 simp only [V.d, Ty.d, C]
 exact ⟨rfl, rfl⟩
def QiI (c : Int) (o : ByteArray) : Bool := (ige c 97 && ile c 122) || ((ige c 65 && ile c 90) || ((ige c 48 && ile c 57) || ige (ixB o c) 0))
noncomputable def QyK : TC := (.sq (.reg (rT Tryz.f154 0)) (.sq (.reg (rT Tryz.f154 1)) .rt))
def QIN : List (RV × Option Ty) := [((.t 4), some .bool)]
def QC1 : G := ⟨TYs, [], 33, EL [(179, QHb)], keeps, (fun _ _ => none), IL [], RL []⟩
def Quj (p0 : Int) (p1 : ByteArray) : Option (V × List VO) := br (ige p0 48) (br (ile p0 57) (some (.t .bool true, [])) (some (.t .bool (ige (ixB p1 p0) 0), []))) (some (.t .bool (ige (ixB p1 p0) 0), []))
def Quk (p0 : Int) (p1 : ByteArray) : Option (V × List VO) := br (ige p0 65) (br (ile p0 90) (some (.t .bool true, [])) (Quj p0 p1)) (Quj p0 p1)
def QKa (p0 : Int) (p1 : ByteArray) : Option (V × List VO) := br (ige p0 97) (br (ile p0 122) (some (.t .bool true, [])) (Quk p0 p1)) (Quk p0 p1)
theorem e_f154 (p0 : Int) (p1 : ByteArray) : runF QC1 QyK QIN false [.t (.int .u8) p0, .t .str p1] [] = QKa p0 p1 := by kernel_rfl
theorem Q0h : Qai Tryz.prog 154 := .inr ⟨by decide, _, Tryz.func154, by kernel_rfl, by kernel_rfl⟩
theorem QZb : GOk Tryz.prog QC1 := Qal _ (gA (gC QZ4 QVY gN))
theorem QXq : QyK.lok QC1 := by repeat (first | exact trivial | refine ⟨?_, ?_⟩)
theorem brO {a b r : Bool} {X : Option (V × List VO)} (h : X = some (.t .bool r, [])) : br a (br b (some (.t .bool true, [])) X) X = some (.t .bool ((a && b) || r), []) := by
 subst h
 cases a <;> cases b <;> rfl
theorem s_f154 (c : Int) (o : ByteArray) : QKa c o = some (.t .bool (QiI c o), []) := by
 simp only [QKa, Quk, Quj]
 exact brO (brO (brO rfl))
def QHo : Ent := spec (.pr (.int .u8) (.pr .str .nil)) (fun x => true) (fun x => (.t .bool (QiI x.1 x.2.1)))
theorem QWb : Meets Tryz.prog 154 (strip QHo) := Qah (R := runF QC1 QyK QIN false) (mG Tryz.func154 (by kernel_rfl) Tryz.ntmps154 (by kernel_rfl) QZb QXq) fun x _ => (e_f154 x.1 x.2.1).trans (s_f154 x.1 x.2.1)
def wordC (c : Int) : Bool := !(ilt c 97 || igt c 122) || (!(ilt c 65 || igt c 90) || (!(ilt c 48 || igt c 57) || (ieq c 45 || (ieq c 95 || ieq c 46))))
def wordF (s : ByteArray) : Bool := (QaG s).all wordC && decide (1 ≤ s.size ∧ s.size ≤ 32)
set_option maxRecDepth 100000 in
theorem QXZ : ((List.range 256).all fun n => QiI (n : Int) (ByteArray.mk #[45, 95, 46]) == wordC (n : Int)) = true := by kernel_rfl
theorem QQf {s : ByteArray} {c : Int} (h : c ∈ QaG s) : QiI c (ByteArray.mk #[45, 95, 46]) = wordC c := by
 obtain ⟨b, _, rfl⟩ := List.mem_map.1 h
 have := List.all_eq_true.1 QXZ b.toNat (by rw [List.mem_range]; exact b.toNat_lt)
 exact eq_of_beq this
def Qhs : Fg := ⟨[(0, some .str), (6, some (.sl (.int .u8))), (7, some tI), (8, some tI)], []⟩
noncomputable def Qjk : TC := (.sq (.reg (rT Tryz.f114 2)) (.sq (.cd (.t 9) .sk (.fg ⟨[(0, some .str)], []⟩ (.ex 0))) (.sq (.bk 1 (.sq (.reg (rT Tryz.f114 3)) (.sq (.reg (rT Tryz.f114 4)) (.cd (.t 14) (.sq (.reg (rT Tryz.f114 5)) (.fg ⟨[(2, some .bool)], []⟩ .rt)) .sk)))) (.reg (rT Tryz.f114 6)))))
noncomputable def Qy9 : TC := (.sq (.reg (rT Tryz.f114 0)) (.sq (.sq (.reg (rT Tryz.f114 1)) (.bk 0 (.lp 0 Qhs Qjk))) (.sq (.reg (rT Tryz.f114 7)) .rt)))
def QJc : List (RV × Option Ty) := [((.t 2), some .bool)]
abbrev Qp7 : Sh := ⟨[(0, .ty .str), (6, .ty (.sl (.int .u8))), (7, .ty tI), (8, .ty tI)], []⟩
def Qph (x0 : ByteArray) (x6 : List Int) (x7 x8 : Int) : VS := Qp7.st (x0, x6, x7, x8, ()) ()
abbrev QtT : Sh := ⟨[(2, .ty .bool)], []⟩
def Qdo (x2 : Bool) : VS := QtT.st (x2, ()) ()
abbrev Qwp : Sh := ⟨[(0, .ty .str)], []⟩
def Qeq (x0 : ByteArray) : VS := Qwp.st (x0, ()) ()
def QSR : VS → Option (Bool × List (Bool × Exit × VS)) := mkL Qp7 (fun x y => (rngG x.2.1 x.2.2.1 x.2.2.2.1 && samB x.2.1 (QaG x.1))) (fun x y => [((!((x.2.1.drop x.2.2.2.1.toNat).all wordC)), .ret, Qdo (false)), (true, .exit 0, Qeq (x.1))])
def QmA : G := ⟨TYs, [], 24, EL [(154, QHo), (30120144, Qa6)], keeps, (Ls [QSR]), IL [], RL []⟩
def QEb (x0 : ByteArray) (x6 : List Int) (x7 x8 : Int) : Option (Exit × VS) := br (ilt x8 x7) (br (cIx x6 x8) (br (!(QiI (lgt (.int .u8) x6 (Int.toNat x8)) (ByteArray.mk #[45, 95, 46]))) (some (.ret, Qdo false)) (some (.normal, Qph x0 x6 x7 (iadd .i64 x8 1)))) none) (some (.exit 0, Qeq x0))
noncomputable def Qj7 (x0 : ByteArray) (x6 : List Int) (x7 x8 : Int) : Option (Exit × VS) := loopF (Qaj QmA Qhs Qjk) (Qph x0 x6 x7 x8)
noncomputable def QnV (x0 : ByteArray) (x6 : List Int) (x7 x8 : Int) : Option (Exit × VS) := br (ilt x8 x7) (br (cIx x6 x8) (br (!(QiI (lgt (.int .u8) x6 (Int.toNat x8)) (ByteArray.mk #[45, 95, 46]))) (some (.ret, Qdo false)) (Qj7 x0 x6 x7 (iadd .i64 x8 1))) none) (some (.exit 0, Qeq x0))
def QkB (x0 : ByteArray) (x6 : List Int) (x7 x8 : Int) : Option (Exit × VS) := br (!((x6.drop x8.toNat).all wordC)) (some (.ret, Qdo (false))) <| some (.exit 0, Qeq (x0))
theorem QOj (x0 : ByteArray) (x6 : List Int) (x7 x8 : Int) : Qaj QmA Qhs Qjk (Qph x0 x6 x7 x8) = QEb x0 x6 x7 x8 := by kernel_rfl
theorem Qxo (x0 : ByteArray) (x6 : List Int) (x7 x8 : Int) : Qj7 x0 x6 x7 x8 = QnV x0 x6 x7 x8 := (Qan _ _).trans (by
 rw [QOj]
 simp only [QEb, QnV, Qay, nxt_n, nxt_r, nxt_e, nxt_0]
 rfl)
def QKr (p0 : ByteArray) : Option (V × List VO) := br (Qbh p0) (br (rngG (QaG p0) (llen (QaG p0)) (0 : Int) && samB (QaG p0) (QaG p0)) (br (!(((QaG p0).drop (0 : Int).toNat).all wordC)) (some (.t .bool (false), [])) (br (ige (slen (p0)) 1) (some (.t .bool (ile (slen (p0)) 32), [])) (some (.t .bool false, [])))) none) none
theorem e_f114 (p0 : ByteArray) : runF QmA Qy9 QJc false [.t .str p0] [] = QKr p0 := by kernel_rfl
theorem Q0z : Qai Tryz.prog 114 := .inr ⟨by decide, _, Tryz.func114, by kernel_rfl, by kernel_rfl⟩
theorem QZA : GOk Tryz.prog QmA := Qal _ (gA (gC Q0h QWb (gC Qbt Qbs gN)))
theorem QQK (x0 : ByteArray) (x6 : List Int) (x7 x8 : Int) (h : (rngG x6 x7 x8 && samB x6 (QaG x0)) = true) : Qj7 x0 x6 x7 x8 = QkB x0 x6 x7 x8 := by
 simp only [Bool.and_eq_true] at h
 obtain ⟨h, hs⟩ := h
 have hs := QzU hs
 obtain ⟨rfl, h3, k, rfl, hk⟩ := QJq h
 clear h
 refine Qar x6 (fun k => Qj7 x0 x6 (x6.length : Int) (k : Int) = QkB x0 x6 (x6.length : Int) (k : Int)) ?_ ?_ k hk
 ·rw [Qxo]
  simp [QnV, QkB, Qas, Qaf]
 ·intro k hk ih
  rw [Qxo]
  have hw : QiI x6[k] (ByteArray.mk #[45, 95, 46]) = wordC x6[k] := QQf (s := x0) (by rw [← hs]; exact List.getElem_mem hk)
  simp only [QnV, Qas, Qaw, hk, decide_true, Qad, Int.toNat_natCast, add1G (show k < 9223372036854775807 by omega), QaA (y := .int .u8) hk, ih, hw]
  simp only [QkB, Int.toNat_natCast, List.drop_eq_getElem_cons hk, List.all_cons]
  cases wordC x6[k] <;> rfl
theorem QLR : ∀ S l p, QmA.L 0 (fgt Qhs S) = some (true, l) → pickA l = some p → loopF (Qaj QmA Qhs Qjk) S = some p :=
 QaB (s := Qp7) ⟨by decide, by decide⟩ (by kernel_rfl) fun x y hok p hp => by
 simp only [Qao, Qam] at hp
 exact (QQK x.1 x.2.1 x.2.2.1 x.2.2.2.1 (by simpa using hok)).trans hp
theorem QXP : Qy9.lok QmA := by
 repeat (first | exact trivial | exact QLR | refine ⟨?_, ?_⟩)
theorem s_f114 (s : ByteArray) (h : nameG s = true) : QKr s = some (.t .bool (wordF s), []) := by
 simp only [nameG, decide_eq_true_eq] at h
 have hl := QcH s
 simp only [QKr, show Qbh s = true from decide_eq_true (by omega), QJr (show (QaG s).length ≤ 9223372036854775807 by omega), Qqe, Bool.and_self, Qad, Int.toNat_zero, List.drop_zero, wordF]
 cases (QaG s).all wordC with
 | false => rfl
 | true =>
  simp only [Bool.not_true, Qaf, Bool.true_and]
  refine QaD (fun g => ?_) (fun g => ?_)
  ·simp only [ige, slen, decide_eq_true_eq] at g
   apply QvI
   rw [Bool.eq_iff_iff]
   simp only [ile, slen, decide_eq_true_eq]
   omega
  ·simp only [ige, slen, decide_eq_false_iff_not] at g
   apply QvI
   rw [eq_comm, decide_eq_false_iff_not]
   omega
def QHH : Ent := spec (.pr .str .nil) (fun x => (nameG x.1)) (fun x => (.t .bool (wordF x.1)))
theorem QWt : Meets Tryz.prog 114 (strip QHH) := Qah (R := runF QmA Qy9 QJc false) (mG Tryz.func114 (by kernel_rfl) Tryz.ntmps114 (by kernel_rfl) QZA QXP) fun x hok => (e_f114 x.1).trans (s_f114 x.1 hok)
def Qhv : Fg := ⟨[(0, some .str), (3, some tI)], []⟩
noncomputable def Qjn : TC := (.sq (.sq (.reg (rT Tryz.f102 4)) (.cd (.t 16) .sk (.fg ⟨[], []⟩ (.ex 0)))) (.sq (.bk 1 (.sq (.reg (rT Tryz.f102 5)) (.sq (.reg (rT Tryz.f102 6)) (.cd (.t 55) (.sq (.reg (rT Tryz.f102 7)) (.fg ⟨[(2, some .bool)], []⟩ .rt)) .sk)))) (.reg (rT Tryz.f102 8))))
noncomputable def Qze : TC := (.sq (.reg (rT Tryz.f102 0)) (.sq (.sq (.reg (rT Tryz.f102 1)) (.cd (.t 12) (.sq (.reg (rT Tryz.f102 2)) .rt) .sk)) (.sq (.sq (.reg (rT Tryz.f102 3)) (.bk 0 (.lp 0 Qhv Qjn))) (.sq (.reg (rT Tryz.f102 9)) .rt))))
def QJh : List (RV × Option Ty) := [((.t 2), some .bool)]
abbrev Qqa : Sh := ⟨[(0, .ty .str), (3, .ty tI)], []⟩
def QcR (x0 : ByteArray) (x3 : Int) : VS := Qqa.st (x0, x3, ()) ()
abbrev QtW : Sh := ⟨[(2, .ty .bool)], []⟩
def Qdr (x2 : Bool) : VS := QtW.st (x2, ()) ()
abbrev Qws : Sh := ⟨[], []⟩
def Qet  : VS := Qws.st () ()
def QSU : VS → Option (Bool × List (Bool × Exit × VS)) := mkL Qqa (fun x y => (nameG x.1 && decide (0 ≤ x.2.1 ∧ x.2.1 ≤ x.1.size))) (fun x y => [((!(((QaG x.1).drop x.2.1.toNat).all wordC)), .ret, Qdr (false)), (true, .exit 0, Qet)])
def QmD : G := ⟨TYs, [], 56, EL [], keeps, (Ls [QSU]), IL [], RL []⟩
def QlW (x0 : ByteArray) (x3 : Int) : Option (Exit × VS) :=
 let a1 := iadd .i64 x3 1
 br (ine (sgt x0 x3) 45) (br (ine (sgt x0 x3) 95) (br (ine (sgt x0 x3) 46) (some (.ret, Qdr false)) (some (.normal, QcR x0 a1))) (some (.normal, QcR x0 a1))) (some (.normal, QcR x0 a1))
def QlX (x0 : ByteArray) (x3 : Int) : Option (Exit × VS) := br (ilt (sgt x0 x3) 48) (QlW x0 x3) (br (igt (sgt x0 x3) 57) (QlW x0 x3) (some (.normal, QcR x0 (iadd .i64 x3 1))))
def QlY (x0 : ByteArray) (x3 : Int) : Option (Exit × VS) := br (ilt (sgt x0 x3) 65) (QlX x0 x3) (br (igt (sgt x0 x3) 90) (QlX x0 x3) (some (.normal, QcR x0 (iadd .i64 x3 1))))
def QEe (x0 : ByteArray) (x3 : Int) : Option (Exit × VS) := br (ilt x3 (slen x0)) (br (cSx x0 x3) (br (ilt (sgt x0 x3) 97) (QlY x0 x3) (br (igt (sgt x0 x3) 122) (QlY x0 x3) (some (.normal, QcR x0 (iadd .i64 x3 1))))) none) (some (.exit 0, Qet))
noncomputable def Qcq (x0 : ByteArray) (x3 : Int) : Option (Exit × VS) := loopF (Qaj QmD Qhv Qjn) (QcR x0 x3)
noncomputable def QhP (x0 : ByteArray) (x3 : Int) : Option (Exit × VS) :=
 let a1 := iadd .i64 x3 1
 br (ine (sgt x0 x3) 45) (br (ine (sgt x0 x3) 95) (br (ine (sgt x0 x3) 46) (some (.ret, Qdr false)) (Qcq x0 a1)) (Qcq x0 a1)) (Qcq x0 a1)
noncomputable def QhQ (x0 : ByteArray) (x3 : Int) : Option (Exit × VS) := br (ilt (sgt x0 x3) 48) (QhP x0 x3) (br (igt (sgt x0 x3) 57) (QhP x0 x3) (Qcq x0 (iadd .i64 x3 1)))
noncomputable def QhR (x0 : ByteArray) (x3 : Int) : Option (Exit × VS) := br (ilt (sgt x0 x3) 65) (QhQ x0 x3) (br (igt (sgt x0 x3) 90) (QhQ x0 x3) (Qcq x0 (iadd .i64 x3 1)))
noncomputable def QnY (x0 : ByteArray) (x3 : Int) : Option (Exit × VS) := br (ilt x3 (slen x0)) (br (cSx x0 x3) (br (ilt (sgt x0 x3) 97) (QhR x0 x3) (br (igt (sgt x0 x3) 122) (QhR x0 x3) (Qcq x0 (iadd .i64 x3 1)))) none) (some (.exit 0, Qet))
def QkE (x0 : ByteArray) (x3 : Int) : Option (Exit × VS) := br (!(((QaG x0).drop x3.toNat).all wordC)) (some (.ret, Qdr (false))) <| some (.exit 0, Qet)
theorem QOm (x0 : ByteArray) (x3 : Int) : Qaj QmD Qhv Qjn (QcR x0 x3) = QEe x0 x3 := by kernel_rfl
theorem Qxr (x0 : ByteArray) (x3 : Int) : Qcq x0 x3 = QnY x0 x3 := (Qan _ _).trans (by
 rw [QOm]
 simp only [QEe, QlY, QlX, QlW, QnY, QhR, QhQ, QhP, Qay, nxt_n, nxt_r, nxt_e, nxt_0]
 rfl)
def QKv (p0 : ByteArray) : Option (V × List VO) := br (ilt (slen p0) 1) (some (.t .bool false, [])) (br (igt (slen p0) 32) (some (.t .bool false, [])) (br (nameG p0 && decide (0 ≤ (0 : Int) ∧ (0 : Int) ≤ p0.size)) (br (!(((QaG p0).drop (0 : Int).toNat).all wordC)) (some (.t .bool (false), [])) (some (.t .bool true, []))) none))
theorem e_f102 (p0 : ByteArray) : runF QmD Qze QJh false [.t .str p0] [] = QKv p0 := by kernel_rfl
theorem Q0C : Qai Tryz.prog 102 := .inr ⟨by decide, _, Tryz.func102, by kernel_rfl, by kernel_rfl⟩
theorem QZF : GOk Tryz.prog QmD := Qal _ (fun p hp => by cases hp)
theorem QFx {β : Type} (c : Int) (bad ok : Option β) : (br (ilt c 97) (br (ilt c 65) (br (ilt c 48) (br (ine c 45) (br (ine c 95) (br (ine c 46) bad ok) ok) ok) (br (igt c 57) (br (ine c 45) (br (ine c 95) (br (ine c 46) bad ok) ok) ok) ok)) (br (igt c 90) (br (ilt c 48) (br (ine c 45) (br (ine c 95) (br (ine c 46) bad ok) ok) ok) (br (igt c 57) (br (ine c 45) (br (ine c 95) (br (ine c 46) bad ok) ok) ok) ok)) ok)) (br (igt c 122) (br (ilt c 65) (br (ilt c 48) (br (ine c 45) (br (ine c 95) (br (ine c 46) bad ok) ok) ok) (br (igt c 57) (br (ine c 45) (br (ine c 95) (br (ine c 46) bad ok) ok) ok) ok)) (br (igt c 90) (br (ilt c 48) (br (ine c 45) (br (ine c 95) (br (ine c 46) bad ok) ok) ok) (br (igt c 57) (br (ine c 45) (br (ine c 95) (br (ine c 46) bad ok) ok) ok) ok)) ok)) ok)) = br (wordC c) ok bad := by
 simp only [wordC, QiJ]
 cases ilt c 97 <;> cases igt c 122 <;> cases ilt c 65 <;> cases igt c 90 <;> cases ilt c 48 <;> cases igt c 57 <;> cases ieq c 45 <;> cases ieq c 95 <;> cases ieq c 46 <;> rfl
theorem QQN (x0 : ByteArray) (x3 : Int) (h : (nameG x0 && decide (0 ≤ x3 ∧ x3 ≤ x0.size)) = true) : Qcq x0 x3 = QkE x0 x3 := by
 simp only [nameG, Bool.and_eq_true, decide_eq_true_eq] at h
 obtain ⟨h0, h1, h2⟩ := h
 obtain ⟨k, rfl⟩ := Int.eq_ofNat_of_zero_le h1
 have hl := QcH x0
 refine Qar (QaG x0) (fun k => Qcq x0 (k : Int) = QkE x0 (k : Int)) ?_ ?_ k (by omega)
 ·rw [Qxr]
  simp [QnY, QkE, ilt, slen, hl, Qaf, List.drop_eq_nil_of_le (show (QaG x0).length ≤ x0.size by omega)]
 ·intro k hk ih
  have hk2 : k < x0.size := by omega
  rw [Qxr]
  simp only [QnY, QhR, QhQ, QhP, show ilt (k : Int) (slen x0) = true from by simp only [ilt, slen, decide_eq_true_eq]; omega, show cSx x0 (k : Int) = true from by simp only [cSx, decide_eq_true_eq]; omega, Qad, QHY hk2, add1G (show k < 9223372036854775807 by omega), ih, QFx]
  simp only [QkE, Int.toNat_natCast, List.drop_eq_getElem_cons hk, List.all_cons]
  cases wordC (QaG x0)[k] <;> rfl
theorem QLU : ∀ S l p, QmD.L 0 (fgt Qhv S) = some (true, l) → pickA l = some p → loopF (Qaj QmD Qhv Qjn) S = some p :=
 QaB (s := Qqa) ⟨by decide, by decide⟩ (by kernel_rfl) fun x y hok p hp => by
 simp only [Qao, Qam] at hp
 exact (QQN x.1 x.2.1 (by simpa using hok)).trans hp
theorem QXU : Qze.lok QmD := by
 repeat (first | exact trivial | exact QLU | refine ⟨?_, ?_⟩)
theorem s_f102 (s : ByteArray) (h : nameG s = true) : QKv s = some (.t .bool (wordF s), []) := by
 simp only [QKv]
 unfold wordF
 refine QaD (fun g => ?_) (fun g => QaD (fun g2 => ?_) (fun g2 => ?_))
 ·simp only [ilt, slen, decide_eq_true_eq] at g
  rw [decide_eq_false (show ¬ (1 ≤ s.size ∧ s.size ≤ 32) by omega), Bool.and_false]
 ·simp only [igt, slen, decide_eq_true_eq] at g2
  rw [decide_eq_false (show ¬ (1 ≤ s.size ∧ s.size ≤ 32) by omega), Bool.and_false]
 ·simp only [ilt, igt, slen, decide_eq_false_iff_not] at g g2
  rw [h, decide_eq_true (show (0 : Int) ≤ 0 ∧ (0 : Int) ≤ s.size by omega), decide_eq_true (show 1 ≤ s.size ∧ s.size ≤ 32 by omega), Bool.and_true, Bool.and_true, Qad, Int.toNat_zero, List.drop_zero]
  cases (QaG s).all wordC <;> rfl
def QHK : Ent := spec (.pr .str .nil) (fun x => (nameG x.1)) (fun x => (.t .bool (wordF x.1)))
theorem QWw : Meets Tryz.prog 102 (strip QHK) := Qah (R := runF QmD Qze QJh false) (mG Tryz.func102 (by kernel_rfl) Tryz.ntmps102 (by kernel_rfl) QZF QXU) fun x hok => (e_f102 x.1).trans (s_f102 x.1 hok)
def Qbr {α : Type} (l : List α) : Bool := decide (l.length ≤ 100000)
def ascUp (l : List Int) (k : Nat) : Bool := (List.range' k (l.length - k)).all fun j => decide (j = 0) || ilt (l.getD (j - 1) 0) (l.getD j 0)
def ascF (l : List Int) : Bool := ascUp l 0
theorem QrP (l : List Int) : ascUp l l.length = true := by
 unfold ascUp
 rw [Nat.sub_self]
 rfl
theorem QlZ {l : List Int} {k : Nat} (hk : k < l.length) : ascUp l k = ((decide (k = 0) || ilt (l.getD (k - 1) 0) l[k]) && ascUp l (k + 1)) := by
 have : l.length - k = (l.length - (k + 1)) + 1 := by omega
 unfold ascUp
 rw [this, List.range'_succ, List.all_cons]
 simp only [List.getD_eq_getElem?_getD, List.getElem?_eq_getElem hk, Option.getD_some]
theorem QON {β : Type} {l : List Int} {k : Nat} (hk : k < l.length) (hb : k < 4611686018427387904) (bad ok : Option β) :
  br (igt (k : Int) 0) (br (cIx l (isub .i64 (k : Int) 1)) (br (ige (lgt tI l (Int.toNat (isub .i64 (k : Int) 1))) l[k]) bad ok) none) ok = br (decide (k = 0) || ilt (l.getD (k - 1) 0) l[k]) ok bad := by
 by_cases h0 : k = 0
 ·subst h0
  rw [show igt ((0 : Nat) : Int) 0 = false from rfl, Qaf, decide_eq_true rfl, Bool.true_or, Qad]
 ·have e : isub .i64 (k : Int) 1 = ((k - 1 : Nat) : Int) := by rw [Qb3 (by omega)]; omega
  rw [show igt (k : Int) 0 = true from decide_eq_true (by omega), Qad, e, Int.toNat_natCast, Qaw, decide_eq_true (show k - 1 < l.length by omega), Qad, decide_eq_false h0, Bool.false_or, QuY]
  show br (!ilt (l.getD (k - 1) 0) l[k]) bad ok = _
  cases ilt (l.getD (k - 1) 0) l[k] <;> rfl
noncomputable def QNs : List DO := dT Tryz.f116 4
def Qhq : Fg := ⟨[(0, some (.sl tI)), (5, some tI), (6, some tI)], []⟩
noncomputable def Qji : TC := (.sq (.reg (rT Tryz.f116 2)) (.sq (.cd (.t 7) .sk (.fg ⟨[], []⟩ (.ex 0))) (.sq (.bk 1 (.sq (.reg (rT Tryz.f116 3)) (.sq (.dr QNs [(0, []), (1, []), (2, []), (3, []), (4, []), (5, []), (6, []), (7, []), (8, []), (9, []), (10, []), (11, []), (12, []), (13, [])] (.of [0, 1, 2, 3, 4, 5, 6, 7, 8, 9, 10, 11, 12, 13])) (.cd (.t 22) (.sq (.reg (rT Tryz.f116 5)) (.fg ⟨[(2, some .bool)], []⟩ .rt)) .sk)))) (.reg (rT Tryz.f116 6)))))
noncomputable def Qy7 : TC := (.sq (.reg (rT Tryz.f116 0)) (.sq (.sq (.reg (rT Tryz.f116 1)) (.bk 0 (.lp 0 Qhq Qji))) (.sq (.reg (rT Tryz.f116 7)) .rt)))
def QJa : List (RV × Option Ty) := [((.t 2), some .bool)]
abbrev Qp5 : Sh := ⟨[(0, .ty (.sl tI)), (5, .ty tI), (6, .ty tI)], []⟩
def Qju (x0 : List Int) (x5 x6 : Int) : VS := Qp5.st (x0, x5, x6, ()) ()
abbrev QtR : Sh := ⟨[(2, .ty .bool)], []⟩
def Qdn (x2 : Bool) : VS := QtR.st (x2, ()) ()
abbrev Qwn : Sh := ⟨[], []⟩
def Qeo  : VS := Qwn.st () ()
def QSP : VS → Option (Bool × List (Bool × Exit × VS)) := mkL Qp5 (fun x y => (rngOk x.1 x.2.1 x.2.2.1)) (fun x y => [((!ascUp x.1 x.2.2.1.toNat), .ret, Qdn (false)), (true, .exit 0, Qeo)])
def Qmy : G := ⟨TYs, [], 24, EL [], keeps, (Ls [QSP]), IL [], RL []⟩
def QD9 (x0 : List Int) (x5 x6 : Int) : Option (Exit × VS) := br (ilt x6 x5) (br (igt x6 0) (br (cIx x0 (isub .i64 x6 1)) (br (cIx x0 x6) (br (ige (lgt tI x0 (Int.toNat (isub .i64 x6 1))) (lgt tI x0 (Int.toNat x6))) (some (.ret, Qdn false)) (some (.normal, Qju x0 x5 (iadd .i64 x6 1)))) none) none) (some (.normal, Qju x0 x5 (iadd .i64 x6 1)))) (some (.exit 0, Qeo))
noncomputable def QgV (x0 : List Int) (x5 x6 : Int) : Option (Exit × VS) := loopF (Qaj Qmy Qhq Qji) (Qju x0 x5 x6)
noncomputable def QnT (x0 : List Int) (x5 x6 : Int) : Option (Exit × VS) := br (ilt x6 x5) (br (igt x6 0) (br (cIx x0 (isub .i64 x6 1)) (br (cIx x0 x6) (br (ige (lgt tI x0 (Int.toNat (isub .i64 x6 1))) (lgt tI x0 (Int.toNat x6))) (some (.ret, Qdn false)) (QgV x0 x5 (iadd .i64 x6 1))) none) none) (QgV x0 x5 (iadd .i64 x6 1))) (some (.exit 0, Qeo))
def Qkz (x0 : List Int) (x5 x6 : Int) : Option (Exit × VS) := br (!ascUp x0 x6.toNat) (some (.ret, Qdn (false))) <| some (.exit 0, Qeo)
theorem QOh (x0 : List Int) (x5 x6 : Int) : Qaj Qmy Qhq Qji (Qju x0 x5 x6) = QD9 x0 x5 x6 := by kernel_rfl
theorem Qxm (x0 : List Int) (x5 x6 : Int) : QgV x0 x5 x6 = QnT x0 x5 x6 := (Qan _ _).trans (by
 rw [QOh]
 simp only [QD9, QnT, Qay, nxt_n, nxt_r, nxt_e, nxt_0]
 rfl)
def QKp (p0 : List Int) : Option (V × List VO) := br (rngOk p0 (llen p0) (0 : Int)) (br (!ascUp p0 (0 : Int).toNat) (some (.t .bool (false), [])) (some (.t .bool true, []))) none
theorem e_f116 (p0 : List Int) : runF Qmy Qy7 QJa false [.t (.sl tI) p0] [] = QKp p0 := by kernel_rfl
theorem Q0x : Qai Tryz.prog 116 := .inr ⟨by decide, _, Tryz.func116, by kernel_rfl, by kernel_rfl⟩
theorem QZy : GOk Tryz.prog Qmy := Qal _ (fun p hp => by cases hp)
theorem QQI (x0 : List Int) (x5 x6 : Int) (h : (rngOk x0 x5 x6) = true) : QgV x0 x5 x6 = Qkz x0 x5 x6 := by
 obtain ⟨rfl, h3, k, rfl, hk⟩ := rng_k h
 clear h
 refine Qar x0 (fun k => QgV x0 (x0.length : Int) (k : Int) = Qkz x0 (x0.length : Int) (k : Int)) ?_ ?_ k hk
 ·rw [Qxm]
  simp only [QnT, Qkz, Qas, Nat.lt_irrefl, decide_false, Qaf, Int.toNat_natCast, QrP, Bool.not_true]
 ·intro k hk ih
  rw [Qxm]
  simp only [QnT, Qas, Qaw, hk, decide_true, Qad, Int.toNat_natCast, add1 (show k < 4611686018427387904 by omega), QaA (y := tI) hk, ih, QON hk (show k < 4611686018427387904 by omega)]
  simp only [Qkz, Int.toNat_natCast, QlZ hk]
  cases decide (k = 0) || ilt (x0.getD (k - 1) 0) x0[k] <;> rfl
theorem QLP : ∀ S l p, Qmy.L 0 (fgt Qhq S) = some (true, l) → pickA l = some p → loopF (Qaj Qmy Qhq Qji) S = some p :=
 QaB (s := Qp5) ⟨by decide, by decide⟩ (by kernel_rfl) fun x y hok p hp => by
 simp only [Qao, Qam] at hp
 exact (QQI x.1 x.2.1 x.2.2.1 (by simpa using hok)).trans hp
theorem QXN : Qy7.lok Qmy := by
 repeat (first | exact trivial | exact QLP | refine ⟨?_, ?_⟩)
theorem s_f116 (l : List Int) (h : Qbr l = true) : QKp l = some (.t .bool (ascF l), []) := by
 simp only [Qbr, decide_eq_true_eq] at h
 simp only [QKp, rng_0 h, Qad, Int.toNat_zero]
 unfold ascF
 cases ascUp l 0 <;> rfl
def QHF : Ent := spec (.pr (.sl tI) .nil) (fun x => (Qbr x.1)) (fun x => (.t .bool (ascF x.1)))
theorem QWr : Meets Tryz.prog 116 (strip QHF) := Qah (R := runF Qmy Qy7 QJa false) (mG Tryz.func116 (by kernel_rfl) Tryz.ntmps116 (by kernel_rfl) QZy QXN) fun x hok => (e_f116 x.1).trans (s_f116 x.1 hok)
def hashF (a : Int) : Bool := ieq (kindF a) 1
noncomputable def Qy4 : TC := (.sq (.reg (rT Tryz.f122 0)) (.sq (.reg (rT Tryz.f122 1)) .rt))
def QI7 : List (RV × Option Ty) := [((.t 2), some .bool)]
def QDe : G := ⟨TYs, [], 6, EL [(155, Qta)], keeps, (fun _ _ => none), IL [], RL []⟩
def QUy (p0 : Int) : Option (V × List VO) := some (.t .bool (ieq (kindF p0) 1), [])
theorem e_f122 (p0 : Int) : runF QDe Qy4 QI7 false [.t tI p0] [] = QUy p0 := by kernel_rfl
theorem Q0v : Qai Tryz.prog 122 := .inr ⟨by decide, _, Tryz.func122, by kernel_rfl, by kernel_rfl⟩
theorem QZv : GOk Tryz.prog QDe := Qal _ (gA (gC QA5 QAd gN))
theorem QXK : Qy4.lok QDe := by repeat (first | exact trivial | refine ⟨?_, ?_⟩)
theorem s_f122 (a : Int) : QUy a = some (.t .bool (hashF a), []) := rfl
def QHD : Ent := spec (.pr tI .nil) (fun x => true) (fun x => (.t .bool (hashF x.1)))
theorem QWp : Meets Tryz.prog 122 (strip QHD) := Qah (R := runF QDe Qy4 QI7 false) (mG Tryz.func122 (by kernel_rfl) Tryz.ntmps122 (by kernel_rfl) QZv QXK) fun x _ => (e_f122 x.1).trans (s_f122 x.1)
def QdB (l : List Int) (k : Nat) : Bool := (List.range' k (l.length - k)).all fun j => ieq (QaC (l.getD j 0)).2 0 && !hasF (l.take j) (l.getD j 0)
def suitF (l : List Int) : Bool := QdB l 0
theorem Qsc (l : List Int) : QdB l l.length = true := by
 unfold QdB
 rw [Nat.sub_self]
 rfl
theorem QoQ {l : List Int} {k : Nat} (hk : k < l.length) : QdB l k = ((ieq (QaC l[k]).2 0 && !hasF (l.take k) l[k]) && QdB l (k + 1)) := by
 have : l.length - k = (l.length - (k + 1)) + 1 := by omega
 unfold QdB
 rw [this, List.range'_succ, List.all_cons]
 simp only [List.getD_eq_getElem?_getD, List.getElem?_eq_getElem hk, Option.getD_some]
theorem QB3 (l : List Int) (k : Nat) : lsl l 0 (k : Int) = l.take k := by
 simp [lsl]
theorem QDG {l : List Int} {k : Nat} (hk : k ≤ l.length) : cSl l 0 (k : Int) ((List.length l : Nat) : Int) = true := by
 simp only [cSl, decide_eq_true_eq]
 omega
def Qhr : Fg := ⟨[(0, some (.sl tI)), (7, some (.sl tI)), (8, some tI), (9, some tI)], []⟩
noncomputable def Qjj : TC := (.sq (.reg (rT Tryz.f115 2)) (.sq (.cd (.t 10) .sk (.fg ⟨[], []⟩ (.ex 0))) (.sq (.bk 1 (.sq (.reg (rT Tryz.f115 3)) (.sq (.reg (rT Tryz.f115 4)) (.sq (.reg (rT Tryz.f115 5)) (.cd (.t 27) (.sq (.reg (rT Tryz.f115 6)) (.fg ⟨[(2, some .bool)], []⟩ .rt)) .sk))))) (.reg (rT Tryz.f115 7)))))
noncomputable def Qy8 : TC := (.sq (.reg (rT Tryz.f115 0)) (.sq (.sq (.reg (rT Tryz.f115 1)) (.bk 0 (.lp 0 Qhr Qjj))) (.sq (.reg (rT Tryz.f115 8)) .rt)))
def QJb : List (RV × Option Ty) := [((.t 2), some .bool)]
abbrev Qp6 : Sh := ⟨[(0, .ty (.sl tI)), (7, .ty (.sl tI)), (8, .ty tI), (9, .ty tI)], []⟩
def Qpg (x0 x7 : List Int) (x8 x9 : Int) : VS := Qp6.st (x0, x7, x8, x9, ()) ()
abbrev QtS : Sh := ⟨[(2, .ty .bool)], []⟩
def QbK (x2 : Bool) : VS := QtS.st (x2, ()) ()
abbrev Qwo : Sh := ⟨[], []⟩
def Qep  : VS := Qwo.st () ()
def QSQ : VS → Option (Bool × List (Bool × Exit × VS)) := mkL Qp6 (fun x y => (rngOk x.2.1 x.2.2.1 x.2.2.2.1 && samB x.1 x.2.1)) (fun x y => [((!QdB x.2.1 x.2.2.2.1.toNat), .ret, QbK (false)), (true, .exit 0, Qep)])
def Qmz : G := ⟨TYs, [], 29, EL [(85, QvC), (101, Qlr)], keeps, (Ls [QSQ]), IL [], RL []⟩
def QEa (x0 x7 : List Int) (x8 x9 : Int) : Option (Exit × VS) :=
 let a1 := lgt tI x7 (Int.toNat x9)
 br (ilt x9 x8) (br (cIx x7 x9) (br (ine ((QaC a1).2) 0) (some (.ret, QbK false)) (br (cSl x0 0 x9 ((List.length x0 : Nat) : Int)) (br (Qa3 (lsl x0 0 x9) a1) (br (hasF (lsl x0 0 x9) a1) (some (.ret, QbK false)) (some (.normal, Qpg x0 x7 x8 (iadd .i64 x9 1)))) none) none)) none) (some (.exit 0, Qep))
noncomputable def Qj6 (x0 x7 : List Int) (x8 x9 : Int) : Option (Exit × VS) := loopF (Qaj Qmz Qhr Qjj) (Qpg x0 x7 x8 x9)
noncomputable def QnU (x0 x7 : List Int) (x8 x9 : Int) : Option (Exit × VS) :=
 let a1 := lgt tI x7 (Int.toNat x9)
 br (ilt x9 x8) (br (cIx x7 x9) (br (ine ((QaC a1).2) 0) (some (.ret, QbK false)) (br (cSl x0 0 x9 ((List.length x0 : Nat) : Int)) (br (Qa3 (lsl x0 0 x9) a1) (br (hasF (lsl x0 0 x9) a1) (some (.ret, QbK false)) (Qj6 x0 x7 x8 (iadd .i64 x9 1))) none) none)) none) (some (.exit 0, Qep))
def QkA (x0 x7 : List Int) (x8 x9 : Int) : Option (Exit × VS) := br (!QdB x7 x9.toNat) (some (.ret, QbK (false))) <| some (.exit 0, Qep)
theorem QOi (x0 x7 : List Int) (x8 x9 : Int) : Qaj Qmz Qhr Qjj (Qpg x0 x7 x8 x9) = QEa x0 x7 x8 x9 := by kernel_rfl
theorem Qxn (x0 x7 : List Int) (x8 x9 : Int) : Qj6 x0 x7 x8 x9 = QnU x0 x7 x8 x9 := (Qan _ _).trans (by
 rw [QOi]
 simp only [QEa, QnU, Qay, nxt_n, nxt_r, nxt_e, nxt_0]
 rfl)
def QKq (p0 : List Int) : Option (V × List VO) := br (rngOk p0 (llen p0) (0 : Int) && samB p0 p0) (br (!QdB p0 (0 : Int).toNat) (some (.t .bool (false), [])) (some (.t .bool true, []))) none
theorem e_f115 (p0 : List Int) : runF Qmz Qy8 QJb false [.t (.sl tI) p0] [] = QKq p0 := by kernel_rfl
theorem Q0y : Qai Tryz.prog 115 := .inr ⟨by decide, _, Tryz.func115, by kernel_rfl, by kernel_rfl⟩
theorem QZz : GOk Tryz.prog Qmz := Qal _ (gA (gC QDu QB1 (gC QrC QqM gN)))
theorem QQJ (x0 x7 : List Int) (x8 x9 : Int) (h : (rngOk x7 x8 x9 && samB x0 x7) = true) : Qj6 x0 x7 x8 x9 = QkA x0 x7 x8 x9 := by
 simp only [Bool.and_eq_true] at h
 obtain ⟨h0, hs⟩ := h
 have hs := QzU hs
 subst hs
 obtain ⟨rfl, h3, k, rfl, hk⟩ := rng_k h0
 clear h0
 refine Qar x0 (fun k => Qj6 x0 x0 (x0.length : Int) (k : Int) = QkA x0 x0 (x0.length : Int) (k : Int)) ?_ ?_ k hk
 ·rw [Qxn]
  simp only [QnU, QkA, Qas, Nat.lt_irrefl, decide_false, Qaf, Int.toNat_natCast, Qsc, Bool.not_true]
 ·intro k hk ih
  rw [Qxn]
  have hi : Qa3 (x0.take k) x0[k] = true := decide_eq_true (by rw [List.length_take]; omega)
  simp only [QnU, Qas, Qaw, hk, decide_true, Qad, Int.toNat_natCast, add1 (show k < 4611686018427387904 by omega), QaA (y := tI) hk, ih, QB3, QDG (show k ≤ x0.length by omega), hi, QiJ]
  simp only [QkA, Int.toNat_natCast, QoQ hk]
  cases ieq (QaC x0[k]).2 0 <;> cases hasF (x0.take k) x0[k] <;> rfl
theorem QLQ : ∀ S l p, Qmz.L 0 (fgt Qhr S) = some (true, l) → pickA l = some p → loopF (Qaj Qmz Qhr Qjj) S = some p :=
 QaB (s := Qp6) ⟨by decide, by decide⟩ (by kernel_rfl) fun x y hok p hp => by
 simp only [Qao, Qam] at hp
 exact (QQJ x.1 x.2.1 x.2.2.1 x.2.2.2.1 (by simpa using hok)).trans hp
theorem QXO : Qy8.lok Qmz := by
 repeat (first | exact trivial | exact QLQ | refine ⟨?_, ?_⟩)
theorem s_f115 (l : List Int) (h : Qbr l = true) : QKq l = some (.t .bool (suitF l), []) := by
 simp only [Qbr, decide_eq_true_eq] at h
 simp only [QKq, rng_0 h, Qqe, Bool.and_self, Qad, Int.toNat_zero]
 unfold suitF
 cases QdB l 0 <;> rfl
def QHG : Ent := spec (.pr (.sl tI) .nil) (fun x => (Qbr x.1)) (fun x => (.t .bool (suitF x.1)))
theorem QWs : Meets Tryz.prog 115 (strip QHG) := Qah (R := runF Qmz Qy8 QJb false) (mG Tryz.func115 (by kernel_rfl) Tryz.ntmps115 (by kernel_rfl) QZz QXO) fun x hok => (e_f115 x.1).trans (s_f115 x.1 hok)
def nKey (n : Int) : Bool := !keyI n
noncomputable def Qis : TC := (.sq (.reg (rT Tryz.f119 0)) (.sq (.reg (rT Tryz.f119 1)) .rt))
def Qql : List (RV × Option Ty) := [((.t 3), some .bool)]
def Qh3 : G := ⟨TYs, [], 8, EL [(121, Qte)], keeps, (fun _ _ => none), IL [], RL []⟩
def QlC (p0 : Int) : Option (V × List VO) := some (.t .bool (!(keyI p0)), [.box (.c (.func (.func 121) #[] #[]))])
theorem QFe (p0 : Int) : runF Qh3 Qis Qql false [.t tI p0, .ptr 50000 0] [.box (.c (.func (.func 121) ⟨[]⟩ ⟨[]⟩))] = QlC p0 := by kernel_rfl
theorem QBc : Qai Tryz.prog 119 := .inr ⟨by decide, _, Tryz.func119, by kernel_rfl, by kernel_rfl⟩
theorem QAT : GOk Tryz.prog Qh3 := Qal _ (gA (gC QBa QAi gN))
theorem QAD : Qis.lok Qh3 := by repeat (first | exact trivial | refine ⟨?_, ?_⟩)
theorem QEB (n : Int) : QlC n = some (.t .bool (nKey n), [.box (.c (.func (.func 121) #[] #[]))]) := by
 simp only [QlC]
 rfl
def Qpp : Ent := specB [.ty tI, .ptr 50000 0] [.bc 121] (fun x y => true) (fun x y => (.t .bool (nKey x.1))) (fun x y => [.box (.c (.func (.func 121) #[] #[]))])
theorem QAk : Meets Tryz.prog 119 (strip Qpp) := QcF (QaV (R := runF Qh3 Qis Qql false) (mG Tryz.func119 (by kernel_rfl) Tryz.ntmps119 (by kernel_rfl) QAT QAD) fun x y _ => (QFe x.1).trans (QEB x.1))
def ixKey (l : List Int) : Int := match fstG nKey l with | some k => (k : Int) | none => -1
def Qbl : Fg := ⟨[(0, some (.sl tI)), (1, none), (7, some tI), (8, some tI)], [(50000, none)]⟩
noncomputable def QbE : TC := (.sq (.reg (rT Tryz.f128 2)) (.sq (.cd (.t 9) .sk (.fg ⟨[], [(50000, none)]⟩ (.ex 0))) (.sq (.bk 1 (.sq (.reg (rT Tryz.f128 3)) (.sq (.reg (rT Tryz.f128 4)) (.cd (.t 16) (.sq (.reg (rT Tryz.f128 5)) (.fg ⟨[(4, some tI)], [(50000, none)]⟩ .rt)) .sk)))) (.reg (rT Tryz.f128 6)))))
noncomputable def Qdy : TC := (.sq (.reg (rT Tryz.f128 0)) (.sq (.sq (.reg (rT Tryz.f128 1)) (.bk 0 (.lp 0 Qbl QbE))) (.sq (.reg (rT Tryz.f128 7)) .rt)))
def QgH : List (RV × Option Ty) := [((.t 4), some tI)]
abbrev QcA : Sh := ⟨[(0, .ty (.sl tI)), (1, .fn 119 [(50000, 0)]), (7, .ty tI), (8, .ty tI)], [(50000, .bc 121)]⟩
def Qcy (x0 : List Int) (x7 x8 : Int) : VS := QcA.st (x0, (), x7, x8, ()) ((), ())
abbrev QgB : Sh := ⟨[(4, .ty tI)], [(50000, .bc 121)]⟩
def Qbc (x4 : Int) : VS := QgB.st (x4, ()) ((), ())
abbrev Qie : Sh := ⟨[], [(50000, .bc 121)]⟩
def Qbj  : VS := Qie.st () ((), ())
def QmU : VS → Option (Bool × List (Bool × Exit × VS)) := mkL QcA (fun x y => (rngOk x.1 x.2.2.1 x.2.2.2.1)) (fun x y => [(((fstG nKey (x.1.drop x.2.2.2.1.toNat)).isSome), .ret, Qbc (x.2.2.2.1 + ((fstG nKey (x.1.drop x.2.2.2.1.toNat)).getD 0 : Nat))), (true, .exit 0, Qbj)])
def Qa5 : G := ⟨TYs, [], 19, EL [(119, Qpp)], keeps, (Ls [QmU]), IL [], RL []⟩
def Qgj (x0 : List Int) (x7 x8 : Int) : Option (Exit × VS) := br (ilt x8 x7) (br (cIx x0 x8) (br (nKey (lgt tI x0 (Int.toNat x8))) (some (.ret, Qbc x8)) (some (.normal, Qcy x0 x7 (iadd .i64 x8 1)))) none) (some (.exit 0, Qbj))
noncomputable def QbN (x0 : List Int) (x7 x8 : Int) : Option (Exit × VS) := loopF (Qaj Qa5 Qbl QbE) (Qcy x0 x7 x8)
noncomputable def Qb0 (x0 : List Int) (x7 x8 : Int) : Option (Exit × VS) := br (ilt x8 x7) (br (cIx x0 x8) (br (nKey (lgt tI x0 (Int.toNat x8))) (some (.ret, Qbc x8)) (QbN x0 x7 (iadd .i64 x8 1))) none) (some (.exit 0, Qbj))
def QbP (x0 : List Int) (x7 x8 : Int) : Option (Exit × VS) :=
 let a1 := fstG nKey (x0.drop x8.toNat)
 br (a1.isSome) (some (.ret, Qbc (x8 + (a1.getD 0 : Nat)))) <| some (.exit 0, Qbj)
theorem QlR (x0 : List Int) (x7 x8 : Int) : Qaj Qa5 Qbl QbE (Qcy x0 x7 x8) = Qgj x0 x7 x8 := by kernel_rfl
theorem Qfa (x0 : List Int) (x7 x8 : Int) : QbN x0 x7 x8 = Qb0 x0 x7 x8 := (Qan _ _).trans (by
 rw [QlR]
 simp only [Qgj, Qb0, Qay, nxt_n, nxt_r, nxt_e, nxt_0]
 rfl)
def QeV (p0 : List Int) : Option (V × List VO) :=
 let a1 := (fstG nKey (p0.drop (0 : Int).toNat))
 br (rngOk p0 (llen p0) (0 : Int)) (br (a1.isSome) (some (.t tI ((0 : Int) + (a1.getD 0 : Nat)), [.box (.c (.func (.func 121) #[] #[]))])) (some (.t tI (-1), [.box (.c (.func (.func 121) #[] #[]))]))) none
theorem Qr5 (p0 : List Int) : runF Qa5 Qdy QgH false [.t (.sl tI) p0, .fn 119 [(.ptr 50000 0)]] [.box (.c (.func (.func 121) ⟨[]⟩ ⟨[]⟩))] = QeV p0 := by kernel_rfl
theorem Qrz : Qai Tryz.prog 128 := .inr ⟨by decide, _, Tryz.func128, by kernel_rfl, by kernel_rfl⟩
theorem Qrg : GOk Tryz.prog Qa5 := Qal _ (gA (gC QBc QAk gN))
theorem QmR (x0 : List Int) (x7 x8 : Int) (h : (rngOk x0 x7 x8) = true) : QbN x0 x7 x8 = QbP x0 x7 x8 := by
 obtain ⟨rfl, h3, k, rfl, hk⟩ := rng_k h
 clear h
 refine Qar x0 (fun k => QbN x0 (x0.length : Int) (k : Int) = QbP x0 (x0.length : Int) (k : Int)) ?_ ?_ k hk
 ·rw [Qfa]
  simp [Qb0, QbP, Qas, Qaf, fstG]
 ·intro k hk ih
  rw [Qfa]
  simp only [Qb0, Qas, Qaw, hk, decide_true, Qad, Int.toNat_natCast, add1 (show k < 4611686018427387904 by omega), ih, QaA (y := tI) hk]
  simp only [QbP, Int.toNat_natCast, List.drop_eq_getElem_cons hk, fstG]
  cases h : nKey x0[k] with
  | true => simp [Qad]
  | false =>
   simp only [Qaf, Bool.false_eq_true, if_false]
   cases hq : fstG nKey (x0.drop (k + 1)) with
   | none => rfl
   | some j =>
    simp only [Option.map_some, Option.isSome_some, Option.getD_some, Qad]
    congr 3
    omega
theorem QlI : ∀ S l p, Qa5.L 0 (fgt Qbl S) = some (true, l) → pickA l = some p → loopF (Qaj Qa5 Qbl QbE) S = some p :=
 QaB (s := QcA) ⟨by decide, by decide⟩ (by kernel_rfl) fun x y hok p hp => by
 simp only [Qao, Qam] at hp
 exact (QmR x.1 x.2.2.1 x.2.2.2.1 (by simpa using hok)).trans hp
theorem QqZ : Qdy.lok Qa5 := by
 repeat (first | exact trivial | exact QlI | refine ⟨?_, ?_⟩)
theorem QrX (l : List Int) (h : Qbr l = true) : QeV l = some (.t tI (ixKey l), [.box (.c (.func (.func 121) #[] #[]))]) := by
 simp only [Qbr, decide_eq_true_eq] at h
 simp only [QeV, rng_0 h, Qad, Int.toNat_zero, List.drop_zero, ixKey]
 cases fstG nKey l <;> simp [Qad, Qaf]
def Qgu : Ent := specB [.ty (.sl tI), .fn 119 [(50000, 0)]] [.bc 121] (fun x y => (Qbr x.1)) (fun x y => (.t tI (ixKey x.1))) (fun x y => [.box (.c (.func (.func 121) #[] #[]))])
theorem QqJ : Meets Tryz.prog 128 (strip Qgu) := QcF (QaV (R := runF Qa5 Qdy QgH false) (mG Tryz.func128 (by kernel_rfl) Tryz.ntmps128 (by kernel_rfl) Qrg QqZ) fun x y hok => (Qr5 x.1).trans (QrX x.1 hok))
def QrQ (l : List Int) : Bool := !l.all keyI
noncomputable def QdA : TC := (.sq (.reg (rT Tryz.f120 0)) (.sq (.reg (rT Tryz.f120 1)) .rt))
def QgJ : List (RV × Option Ty) := [((.t 4), some .bool)]
def QcN : G := ⟨TYs, [], 9, EL [(128, Qgu)], keeps, (fun _ _ => none), IL [], RL []⟩
def QeX (p0 : List Int) : Option (V × List VO) := br (Qbr p0) (some (.t .bool (ige (ixKey p0) 0), [.box (.c (.func (.func 121) #[] #[]))])) none
theorem Qr7 (p0 : List Int) : runF QcN QdA QgJ false [.t (.sl tI) p0, .fn 119 [(.ptr 50000 0)]] [.box (.c (.func (.func 121) ⟨[]⟩ ⟨[]⟩))] = QeX p0 := by kernel_rfl
theorem QrB : Qai Tryz.prog 120 := .inr ⟨by decide, _, Tryz.func120, by kernel_rfl, by kernel_rfl⟩
theorem Qri : GOk Tryz.prog QcN := Qal _ (gA (gC Qrz QqJ gN))
theorem Qq1 : QdA.lok QcN := by repeat (first | exact trivial | refine ⟨?_, ?_⟩)
theorem QrZ (l : List Int) (h : Qbr l = true) : QeX l = some (.t .bool (QrQ l), [.box (.c (.func (.func 121) #[] #[]))]) := by
 simp only [QeX, h, Qad]
 have e : ige (ixKey l) 0 = QrQ l := by
  have e2 : QrQ l = l.any nKey := by
   unfold QrQ
   rw [List.not_all_eq_any_not]
   rfl
  rw [e2]
  unfold ixKey
  cases hq : fstG nKey l with
  | none => rw [QbT.1 hq]; rfl
  | some k =>
   rw [← QbA, hq]
   simp only [ige, Option.isSome_some, decide_eq_true_eq]
   omega
 rw [e]
def Qgw : Ent := specB [.ty (.sl tI), .fn 119 [(50000, 0)]] [.bc 121] (fun x y => (Qbr x.1)) (fun x y => (.t .bool (QrQ x.1))) (fun x y => [.box (.c (.func (.func 121) #[] #[]))])
theorem QqL : Meets Tryz.prog 120 (strip Qgw) := QcF (QaV (R := runF QcN QdA QgJ false) (mG Tryz.func120 (by kernel_rfl) Tryz.ntmps120 (by kernel_rfl) Qri Qq1) fun x y hok => (Qr7 x.1).trans (QrZ x.1 hok))
noncomputable def Qiu : TC := (.sq (.reg (rT Tryz.f118 0)) (.sq (.reg (rT Tryz.f118 1)) .rt))
def Qqn : List (RV × Option Ty) := [((.t 2), none)]
def Qh5 : G := ⟨TYs, [], 4, EL [], keeps, (fun _ _ => none), IL [], RL []⟩
def Qst  : Option (V × List VO) := some (.fn 119 [(.ptr 50000 0)], [.box (.c (.func (.func 121) #[] #[]))])
theorem QFg  : runF Qh5 Qiu Qqn true [.c (.func (.func 121) ⟨[]⟩ ⟨[]⟩)] [] = Qst  := by kernel_rfl
theorem QBe : Qai Tryz.prog 118 := .inr ⟨by decide, _, Tryz.func118, by kernel_rfl, by kernel_rfl⟩
theorem QAV : GOk Tryz.prog Qh5 := Qal _ (fun p hp => by cases hp)
theorem QAF : Qiu.lok Qh5 := by repeat (first | exact trivial | refine ⟨?_, ?_⟩)
theorem QED : Qst = some (.fn 119 [.ptr 50000 0], [.box (.c (.func (.func 121) #[] #[]))]) := rfl
def Qpr : Ent := specB [.cf 121] [] (fun x y => true) (fun x y => (.fn 119 [(.ptr 50000 0)])) (fun x y => [.box (.c (.func (.func 121) #[] #[]))])
theorem QAm : Meets Tryz.prog 118 (strip Qpr) := QcF (QaV (R := runF Qh5 Qiu Qqn true) (mG Tryz.func118 (by kernel_rfl) Tryz.ntmps118 (by kernel_rfl) QAV QAF) fun x y _ => (QFg ).trans (QED ))
def nHash (n : Int) : Bool := !hashF n
noncomputable def Qir : TC := (.sq (.reg (rT Tryz.f119 0)) (.sq (.reg (rT Tryz.f119 1)) .rt))
def Qqk : List (RV × Option Ty) := [((.t 3), some .bool)]
def Qh2 : G := ⟨TYs, [], 8, EL [(122, QHD)], keeps, (fun _ _ => none), IL [], RL []⟩
def QlB (p0 : Int) : Option (V × List VO) := some (.t .bool (!(hashF p0)), [.box (.c (.func (.func 122) #[] #[]))])
theorem QFd (p0 : Int) : runF Qh2 Qir Qqk false [.t tI p0, .ptr 50000 0] [.box (.c (.func (.func 122) ⟨[]⟩ ⟨[]⟩))] = QlB p0 := by kernel_rfl
theorem QBb : Qai Tryz.prog 119 := .inr ⟨by decide, _, Tryz.func119, by kernel_rfl, by kernel_rfl⟩
theorem QAS : GOk Tryz.prog Qh2 := Qal _ (gA (gC Q0v QWp gN))
theorem QAC : Qir.lok Qh2 := by repeat (first | exact trivial | refine ⟨?_, ?_⟩)
theorem QEA (n : Int) : QlB n = some (.t .bool (nHash n), [.box (.c (.func (.func 122) #[] #[]))]) := by
 simp only [QlB]
 rfl
def Qpo : Ent := specB [.ty tI, .ptr 50000 0] [.bc 122] (fun x y => true) (fun x y => (.t .bool (nHash x.1))) (fun x y => [.box (.c (.func (.func 122) #[] #[]))])
theorem QAj : Meets Tryz.prog 119 (strip Qpo) := QcF (QaV (R := runF Qh2 Qir Qqk false) (mG Tryz.func119 (by kernel_rfl) Tryz.ntmps119 (by kernel_rfl) QAS QAC) fun x y _ => (QFd x.1).trans (QEA x.1))
def QsB (l : List Int) : Int := match fstG nHash l with | some k => (k : Int) | none => -1
def Qbk : Fg := ⟨[(0, some (.sl tI)), (1, none), (7, some tI), (8, some tI)], [(50000, none)]⟩
noncomputable def QbD : TC := (.sq (.reg (rT Tryz.f128 2)) (.sq (.cd (.t 9) .sk (.fg ⟨[], [(50000, none)]⟩ (.ex 0))) (.sq (.bk 1 (.sq (.reg (rT Tryz.f128 3)) (.sq (.reg (rT Tryz.f128 4)) (.cd (.t 16) (.sq (.reg (rT Tryz.f128 5)) (.fg ⟨[(4, some tI)], [(50000, none)]⟩ .rt)) .sk)))) (.reg (rT Tryz.f128 6)))))
noncomputable def Qdx : TC := (.sq (.reg (rT Tryz.f128 0)) (.sq (.sq (.reg (rT Tryz.f128 1)) (.bk 0 (.lp 0 Qbk QbD))) (.sq (.reg (rT Tryz.f128 7)) .rt)))
def QgG : List (RV × Option Ty) := [((.t 4), some tI)]
abbrev Qcz : Sh := ⟨[(0, .ty (.sl tI)), (1, .fn 119 [(50000, 0)]), (7, .ty tI), (8, .ty tI)], [(50000, .bc 122)]⟩
def Qcx (x0 : List Int) (x7 x8 : Int) : VS := Qcz.st (x0, (), x7, x8, ()) ((), ())
abbrev QgA : Sh := ⟨[(4, .ty tI)], [(50000, .bc 122)]⟩
def Qbb (x4 : Int) : VS := QgA.st (x4, ()) ((), ())
abbrev Qid : Sh := ⟨[], [(50000, .bc 122)]⟩
def Qbi  : VS := Qid.st () ((), ())
def QmT : VS → Option (Bool × List (Bool × Exit × VS)) := mkL Qcz (fun x y => (rngOk x.1 x.2.2.1 x.2.2.2.1)) (fun x y => [(((fstG nHash (x.1.drop x.2.2.2.1.toNat)).isSome), .ret, Qbb (x.2.2.2.1 + ((fstG nHash (x.1.drop x.2.2.2.1.toNat)).getD 0 : Nat))), (true, .exit 0, Qbi)])
def Qa4 : G := ⟨TYs, [], 19, EL [(119, Qpo)], keeps, (Ls [QmT]), IL [], RL []⟩
def Qgi (x0 : List Int) (x7 x8 : Int) : Option (Exit × VS) := br (ilt x8 x7) (br (cIx x0 x8) (br (nHash (lgt tI x0 (Int.toNat x8))) (some (.ret, Qbb x8)) (some (.normal, Qcx x0 x7 (iadd .i64 x8 1)))) none) (some (.exit 0, Qbi))
noncomputable def QbM (x0 : List Int) (x7 x8 : Int) : Option (Exit × VS) := loopF (Qaj Qa4 Qbk QbD) (Qcx x0 x7 x8)
noncomputable def QbZ (x0 : List Int) (x7 x8 : Int) : Option (Exit × VS) := br (ilt x8 x7) (br (cIx x0 x8) (br (nHash (lgt tI x0 (Int.toNat x8))) (some (.ret, Qbb x8)) (QbM x0 x7 (iadd .i64 x8 1))) none) (some (.exit 0, Qbi))
def QbO (x0 : List Int) (x7 x8 : Int) : Option (Exit × VS) :=
 let a1 := fstG nHash (x0.drop x8.toNat)
 br (a1.isSome) (some (.ret, Qbb (x8 + (a1.getD 0 : Nat)))) <| some (.exit 0, Qbi)
theorem QlQ (x0 : List Int) (x7 x8 : Int) : Qaj Qa4 Qbk QbD (Qcx x0 x7 x8) = Qgi x0 x7 x8 := by kernel_rfl
theorem Qe9 (x0 : List Int) (x7 x8 : Int) : QbM x0 x7 x8 = QbZ x0 x7 x8 := (Qan _ _).trans (by
 rw [QlQ]
 simp only [Qgi, QbZ, Qay, nxt_n, nxt_r, nxt_e, nxt_0]
 rfl)
def QeU (p0 : List Int) : Option (V × List VO) :=
 let a1 := (fstG nHash (p0.drop (0 : Int).toNat))
 br (rngOk p0 (llen p0) (0 : Int)) (br (a1.isSome) (some (.t tI ((0 : Int) + (a1.getD 0 : Nat)), [.box (.c (.func (.func 122) #[] #[]))])) (some (.t tI (-1), [.box (.c (.func (.func 122) #[] #[]))]))) none
theorem Qr4 (p0 : List Int) : runF Qa4 Qdx QgG false [.t (.sl tI) p0, .fn 119 [(.ptr 50000 0)]] [.box (.c (.func (.func 122) ⟨[]⟩ ⟨[]⟩))] = QeU p0 := by kernel_rfl
theorem Qry : Qai Tryz.prog 128 := .inr ⟨by decide, _, Tryz.func128, by kernel_rfl, by kernel_rfl⟩
theorem Qrf : GOk Tryz.prog Qa4 := Qal _ (gA (gC QBb QAj gN))
theorem QmQ (x0 : List Int) (x7 x8 : Int) (h : (rngOk x0 x7 x8) = true) : QbM x0 x7 x8 = QbO x0 x7 x8 := by
 obtain ⟨rfl, h3, k, rfl, hk⟩ := rng_k h
 clear h
 refine Qar x0 (fun k => QbM x0 (x0.length : Int) (k : Int) = QbO x0 (x0.length : Int) (k : Int)) ?_ ?_ k hk
 ·rw [Qe9]
  simp [QbZ, QbO, Qas, Qaf, fstG]
 ·intro k hk ih
  rw [Qe9]
  simp only [QbZ, Qas, Qaw, hk, decide_true, Qad, Int.toNat_natCast, add1 (show k < 4611686018427387904 by omega), ih, QaA (y := tI) hk]
  simp only [QbO, Int.toNat_natCast, List.drop_eq_getElem_cons hk, fstG]
  cases h : nHash x0[k] with
  | true => simp [Qad]
  | false =>
   simp only [Qaf, Bool.false_eq_true, if_false]
   cases hq : fstG nHash (x0.drop (k + 1)) with
   | none => rfl
   | some j =>
    simp only [Option.map_some, Option.isSome_some, Option.getD_some, Qad]
    congr 3
    omega
theorem QlH : ∀ S l p, Qa4.L 0 (fgt Qbk S) = some (true, l) → pickA l = some p → loopF (Qaj Qa4 Qbk QbD) S = some p :=
 QaB (s := Qcz) ⟨by decide, by decide⟩ (by kernel_rfl) fun x y hok p hp => by
 simp only [Qao, Qam] at hp
 exact (QmQ x.1 x.2.2.1 x.2.2.2.1 (by simpa using hok)).trans hp
theorem QqY : Qdx.lok Qa4 := by
 repeat (first | exact trivial | exact QlH | refine ⟨?_, ?_⟩)
theorem QrW (l : List Int) (h : Qbr l = true) : QeU l = some (.t tI (QsB l), [.box (.c (.func (.func 122) #[] #[]))]) := by
 simp only [Qbr, decide_eq_true_eq] at h
 simp only [QeU, rng_0 h, Qad, Int.toNat_zero, List.drop_zero, QsB]
 cases fstG nHash l <;> simp [Qad, Qaf]
def Qgt : Ent := specB [.ty (.sl tI), .fn 119 [(50000, 0)]] [.bc 122] (fun x y => (Qbr x.1)) (fun x y => (.t tI (QsB x.1))) (fun x y => [.box (.c (.func (.func 122) #[] #[]))])
theorem QqI : Meets Tryz.prog 128 (strip Qgt) := QcF (QaV (R := runF Qa4 Qdx QgG false) (mG Tryz.func128 (by kernel_rfl) Tryz.ntmps128 (by kernel_rfl) Qrf QqY) fun x y hok => (Qr4 x.1).trans (QrW x.1 hok))
def QiN (l : List Int) : Bool := !l.all hashF
noncomputable def Qdz : TC := (.sq (.reg (rT Tryz.f120 0)) (.sq (.reg (rT Tryz.f120 1)) .rt))
def QgI : List (RV × Option Ty) := [((.t 4), some .bool)]
def QcM : G := ⟨TYs, [], 9, EL [(128, Qgt)], keeps, (fun _ _ => none), IL [], RL []⟩
def QeW (p0 : List Int) : Option (V × List VO) := br (Qbr p0) (some (.t .bool (ige (QsB p0) 0), [.box (.c (.func (.func 122) #[] #[]))])) none
theorem Qr6 (p0 : List Int) : runF QcM Qdz QgI false [.t (.sl tI) p0, .fn 119 [(.ptr 50000 0)]] [.box (.c (.func (.func 122) ⟨[]⟩ ⟨[]⟩))] = QeW p0 := by kernel_rfl
theorem QrA : Qai Tryz.prog 120 := .inr ⟨by decide, _, Tryz.func120, by kernel_rfl, by kernel_rfl⟩
theorem Qrh : GOk Tryz.prog QcM := Qal _ (gA (gC Qry QqI gN))
theorem Qq0 : Qdz.lok QcM := by repeat (first | exact trivial | refine ⟨?_, ?_⟩)
theorem QrY (l : List Int) (h : Qbr l = true) : QeW l = some (.t .bool (QiN l), [.box (.c (.func (.func 122) #[] #[]))]) := by
 simp only [QeW, h, Qad]
 have e : ige (QsB l) 0 = QiN l := by
  have e2 : QiN l = l.any nHash := by
   unfold QiN
   rw [List.not_all_eq_any_not]
   rfl
  rw [e2]
  unfold QsB
  cases hq : fstG nHash l with
  | none => rw [QbT.1 hq]; rfl
  | some k =>
   rw [← QbA, hq]
   simp only [ige, Option.isSome_some, decide_eq_true_eq]
   omega
 rw [e]
def Qgv : Ent := specB [.ty (.sl tI), .fn 119 [(50000, 0)]] [.bc 122] (fun x y => (Qbr x.1)) (fun x y => (.t .bool (QiN x.1))) (fun x y => [.box (.c (.func (.func 122) #[] #[]))])
theorem QqK : Meets Tryz.prog 120 (strip Qgv) := QcF (QaV (R := runF QcM Qdz QgI false) (mG Tryz.func120 (by kernel_rfl) Tryz.ntmps120 (by kernel_rfl) Qrh Qq0) fun x y hok => (Qr6 x.1).trans (QrY x.1 hok))
noncomputable def Qit : TC := (.sq (.reg (rT Tryz.f118 0)) (.sq (.reg (rT Tryz.f118 1)) .rt))
def Qqm : List (RV × Option Ty) := [((.t 2), none)]
def Qh4 : G := ⟨TYs, [], 4, EL [], keeps, (fun _ _ => none), IL [], RL []⟩
def Qss  : Option (V × List VO) := some (.fn 119 [(.ptr 50000 0)], [.box (.c (.func (.func 122) #[] #[]))])
theorem QFf  : runF Qh4 Qit Qqm true [.c (.func (.func 122) ⟨[]⟩ ⟨[]⟩)] [] = Qss  := by kernel_rfl
theorem QBd : Qai Tryz.prog 118 := .inr ⟨by decide, _, Tryz.func118, by kernel_rfl, by kernel_rfl⟩
theorem QAU : GOk Tryz.prog Qh4 := Qal _ (fun p hp => by cases hp)
theorem QAE : Qit.lok Qh4 := by repeat (first | exact trivial | refine ⟨?_, ?_⟩)
theorem QEC : Qss = some (.fn 119 [.ptr 50000 0], [.box (.c (.func (.func 122) #[] #[]))]) := rfl
def Qpq : Ent := specB [.cf 122] [] (fun x y => true) (fun x y => (.fn 119 [(.ptr 50000 0)])) (fun x y => [.box (.c (.func (.func 122) #[] #[]))])
theorem QAl : Meets Tryz.prog 118 (strip Qpq) := QcF (QaV (R := runF Qh4 Qit Qqm true) (mG Tryz.func118 (by kernel_rfl) Tryz.ntmps118 (by kernel_rfl) QAU QAE) fun x y _ => (QFf ).trans (QEC ))
end
end Go.Proofs.YtckcgijklnloiaaGreat.K
namespace Go.Proofs.YtckcgijklnloiaaGreat.K
open Go.RowKit
noncomputable section
theorem QoP {c : Int} (h : ieq (QaC c).2 0 = true) : 1 ≤ c ∧ c ≤ 16 := by
 unfold QaC at h
 split at h
 ·simp [ieq] at h
 ·omega
theorem Qlq {l : List Int} (h : suitF l = true) : ∀ (k : Nat) (hk : k < l.length), (1 ≤ l[k] ∧ l[k] ≤ 16) ∧ ¬ l[k] ∈ l.take k := by
 intro k hk
 simp only [suitF, QdB, List.all_eq_true, List.mem_range'_1, Bool.and_eq_true, Bool.not_eq_true'] at h
 obtain ⟨h1, h2⟩ := h k ⟨by omega, by omega⟩
 simp only [List.getD_eq_getElem?_getD, List.getElem?_eq_getElem hk, Option.getD_some] at h1 h2
 refine ⟨QoP h1, fun hm => ?_⟩
 simp only [hasF] at h2
 rw [List.contains_iff_mem.2 hm] at h2
 cases h2
theorem Qsb {l : List Int} (h : suitF l = true) : l.Nodup := by
 have h2 := Qlq h
 rw [List.nodup_iff_pairwise_ne, List.pairwise_iff_getElem]
 intro i j hi hj hij he
 refine (h2 j hj).2 ?_
 rw [← he]
 exact List.mem_iff_getElem.2 ⟨i, by rw [List.length_take]; omega, by rw [List.getElem_take]⟩
theorem QBy {l : List Int} (h : suitF l = true) : l.length ≤ 16 := by
 have h1 := Qsb h
 have h2 := Qlq h
 have h3 : l ⊆ [1, 2, 3, 4, 5, 6, 7, 8, 9, 10, 11, 12, 13, 14, 15, 16] := by
  intro x hx
  obtain ⟨k, hk, rfl⟩ := List.mem_iff_getElem.1 hx
  have := (h2 k hk).1
  simp only [List.mem_cons, List.not_mem_nil, or_false]
  omega
 exact h1.length_le_of_subset h3
abbrev Qap (e : Qab) : List Int := e.2.2.2.1
abbrev eIds (e : Qab) : List QaH := e.2.2.2.2.2.1
abbrev eAnch (e : Qab) : List Int := e.2.2.2.2.2.2.1
abbrev eHash (e : Qab) : List Int := e.2.2.2.2.2.2.2.1
def idOk (x : QaH) : Bool := QdE x.1 x.2.1 x.2.2.1
def idLen (x : QaH) : Bool := QaQ x.2.2.1
def QaZ (e : Qab) : Bool := nameG e.1 && decide ((Qap e).length ≤ 100000 ∧ (eIds e).length ≤ 100000 ∧ (eAnch e).length ≤ 100000 ∧ (eHash e).length ≤ 100000) && (eIds e).all idLen
def QaJ (e : Qab) : Bool :=
 wordF e.1 && (!ilt e.2.1 1 && (!igt e.2.1 e.2.2.1 && (!igt e.2.2.1 4 && (suitF (Qap e) && (!igt (llen (eIds e)) 4 && (!igt (llen (eAnch e)) 16 && (ascF (eAnch e) && (ascF (eHash e) && ((eIds e).all idOk && ((eAnch e).all keyI && (eHash e).all hashF))))))))))
def Qcu (e : Qab) : Int := bif QaJ e then 0 else 19
theorem QNE (e : Qab) : ieq (Qcu e) 0 = QaJ e := by
 unfold Qcu
 cases QaJ e <;> rfl
theorem QrH (e : Qab) : ine (Qcu e) 0 = !QaJ e := by
 unfold Qcu
 cases QaJ e <;> rfl
noncomputable def QRy : List DO := dT Tryz.f76 12
def QkP : Fg := ⟨[(1, none), (56, some (.sl Qat)), (57, some tI), (58, some tI)], [(1, some Qae)]⟩
noncomputable def QmX : TC := (.sq (.reg (rT Tryz.f76 6)) (.sq (.cd (.t 59) .sk (.fg ⟨[(1, none)], [(1, some Qae)]⟩ (.ex 0))) (.sq (.bk 1 (.sq (.reg (rT Tryz.f76 7)) (.sq (.reg (rT Tryz.f76 8)) (.cd (.t 69) (.sq (.reg (rT Tryz.f76 9)) (.fg ⟨[(2, some tI)], []⟩ .rt)) .sk)))) (.reg (rT Tryz.f76 10)))))
noncomputable def QFY : TC := (.sq (.reg (rT Tryz.f76 0)) (.sq (.sq (.reg (rT Tryz.f76 1)) (.cd (.t 32) (.sq (.reg (rT Tryz.f76 2)) .rt) .sk)) (.sq (.sq (.reg (rT Tryz.f76 3)) (.cd (.t 54) (.sq (.reg (rT Tryz.f76 4)) .rt) .sk)) (.sq (.sq (.reg (rT Tryz.f76 5)) (.bk 0 (.lp 0 QkP QmX))) (.sq (.reg (rT Tryz.f76 11)) (.sq (.sq (.dr QRy [(0, [1]), (1, [1]), (2, []), (3, [74, 5074, 10074, 15074]), (4, [74, 75, 5074, 5075, 10074, 10075, 15074, 15075]), (5, []), (6, [1]), (7, [1]), (8, []), (9, [80, 5080, 10080, 15080]), (10, [80, 81, 5080, 5081, 10080, 10081, 15080, 15081]), (11, [])] (.of [0, 1, 2, 3, 4, 5, 6, 7, 8, 9, 10, 11])) (.cd (.t 82) (.sq (.reg (rT Tryz.f76 13)) .rt) .sk)) (.sq (.reg (rT Tryz.f76 14)) .rt)))))))
def QTK : List (RV × Option Ty) := [((.t 2), some tI)]
abbrev Qtl : Sh := ⟨[(1, .ptr 1 0), (56, .ty (.sl Qat)), (57, .ty tI), (58, .ty tI)], [(1, .box Qae)]⟩
def QsW (x56 : List QaH) (x57 x58 : Int) (y1 : Qab) : VS := Qtl.st ((), x56, x57, x58, ()) (y1, ())
abbrev QvN : Sh := ⟨[(2, .ty tI)], []⟩
def QdV (x2 : Int) : VS := QvN.st (x2, ()) ()
abbrev Qzy : Sh := ⟨[(1, .ptr 1 0)], [(1, .box Qae)]⟩
def Qfh (y1 : Qab) : VS := Qzy.st ((), ()) (y1, ())
def Q0W : VS → Option (Bool × List (Bool × Exit × VS)) := mkL Qtl (fun x y => (rngOk x.2.1 x.2.2.1 x.2.2.2.1 && x.2.1.all idLen)) (fun x y => [((!(x.2.1.drop x.2.2.2.1.toNat).all idOk), .ret, QdV (19)), (true, .exit 0, Qfh (y.1))])
def g_f76 : G := ⟨TYs, [], 83, EL [(114, QHH), (115, QHG), (116, QHF), (117, QHE), (118, Qpr), (118, Qpq), (120, Qgw), (120, Qgv)], keeps, (Ls [Q0W]), IL [], RL []⟩
def QOq (x56 : List QaH) (x57 x58 : Int) (y1 : Qab) : Option (Exit × VS) :=
 let a1 := lgt Qat x56 (Int.toNat x58)
 br (ilt x58 x57) (br (cIx x56 x58) (br (QeT (a1.1) ((a1.2).1) (((a1.2).2).1)) (br (!(QdE (a1.1) ((a1.2).1) (((a1.2).2).1))) (some (.ret, QdV 19)) (some (.normal, QsW x56 x57 (iadd .i64 x58 1) y1))) none) none) (some (.exit 0, Qfh y1))
noncomputable def Qn0 (x56 : List QaH) (x57 x58 : Int) (y1 : Qab) : Option (Exit × VS) := loopF (Qaj g_f76 QkP QmX) (QsW x56 x57 x58 y1)
noncomputable def Qur (x56 : List QaH) (x57 x58 : Int) (y1 : Qab) : Option (Exit × VS) :=
 let a1 := lgt Qat x56 (Int.toNat x58)
 br (ilt x58 x57) (br (cIx x56 x58) (br (QeT (a1.1) ((a1.2).1) (((a1.2).2).1)) (br (!(QdE (a1.1) ((a1.2).1) (((a1.2).2).1))) (some (.ret, QdV 19)) (Qn0 x56 x57 (iadd .i64 x58 1) y1)) none) none) (some (.exit 0, Qfh y1))
def Qob (x56 : List QaH) (x57 x58 : Int) (y1 : Qab) : Option (Exit × VS) := br (!(x56.drop x58.toNat).all idOk) (some (.ret, QdV (19))) <| some (.exit 0, Qfh (y1))
theorem QRZ (x56 : List QaH) (x57 x58 : Int) (y1 : Qab) : Qaj g_f76 QkP QmX (QsW x56 x57 x58 y1) = QOq x56 x57 x58 y1 := by kernel_rfl
theorem QB7 (x56 : List QaH) (x57 x58 : Int) (y1 : Qab) : Qn0 x56 x57 x58 y1 = Qur x56 x57 x58 y1 := (Qan _ _).trans (by
 rw [QRZ]
 simp only [QOq, Qur, Qay, nxt_n, nxt_r, nxt_e, nxt_0]
 rfl)
def r_f76 (p0 : Qab) : Option (V × List VO) :=
 let a1 := (((((((p0).2).2).2).2).2).2)
 br (nameG p0.1) (br (!(wordF p0.1)) (some (.t tI 19, [])) (br (ilt p0.2.1 1) (some (.t tI 19, [])) (br (igt p0.2.1 p0.2.2.1) (some (.t tI 19, [])) (br (igt p0.2.2.1 4) (some (.t tI 19, [])) (br (Qbr p0.2.2.2.1) (br (!(suitF p0.2.2.2.1)) (some (.t tI 19, [])) (br (igt (llen p0.2.2.2.2.2.1) 4) (some (.t tI 19, [])) (br (igt (llen p0.2.2.2.2.2.2.1) 16) (some (.t tI 19, [])) (br (Qbr p0.2.2.2.2.2.2.1) (br (!(ascF p0.2.2.2.2.2.2.1)) (some (.t tI 19, [])) (br (Qbr p0.2.2.2.2.2.2.2.1) (br (!(ascF p0.2.2.2.2.2.2.2.1)) (some (.t tI 19, [])) (br (rngOk p0.2.2.2.2.2.1 (llen p0.2.2.2.2.2.1) (0 : Int) && p0.2.2.2.2.2.1.all idLen) (br (!(p0.2.2.2.2.2.1.drop (0 : Int).toNat).all idOk) (some (.t tI (19), [])) (br (Qbr (a1.1)) (br (QrQ (a1.1)) (some (.t tI 19, [])) (br (Qbr ((a1.2).1)) (br (QiN ((a1.2).1)) (some (.t tI 19, [])) (some (.t tI 0, []))) none)) none)) none)) none)) none)))) none))))) none
theorem e_f76 (p0 : Qab) : runF g_f76 QFY QTK false [.t Qae p0] [] = r_f76 p0 := by kernel_rfl
theorem QMM : Qai Tryz.prog 76 := .inr ⟨by decide, _, Tryz.func76, by kernel_rfl, by kernel_rfl⟩
theorem gk_f76 : GOk Tryz.prog g_f76 := Qal _ (gA (gC Q0z QWt (gC Q0y QWs (gC Q0x QWr (gC Q0w QWq (gC QBe QAm (gC QBd QAl (gC QrB QqL (gC QrA QqK gN)))))))))
theorem QX2 (x56 : List QaH) (x57 x58 : Int) (y1 : Qab) (h : (rngOk x56 x57 x58 && x56.all idLen) = true) : Qn0 x56 x57 x58 y1 = Qob x56 x57 x58 y1 := by
 simp only [Bool.and_eq_true, List.all_eq_true] at h
 obtain ⟨h0, hc⟩ := h
 obtain ⟨rfl, h3, k, rfl, hk⟩ := rng_k h0
 clear h0
 refine Qar x56 (fun k => Qn0 x56 (x56.length : Int) (k : Int) y1 = Qob x56 (x56.length : Int) (k : Int) y1) ?_ ?_ k hk
 ·rw [QB7]
  simp only [Qur, Qob, Qas, Nat.lt_irrefl, decide_false, Qaf, Int.toNat_natCast, List.drop_length, List.all_nil, Bool.not_true]
 ·intro k hk ih
  rw [QB7]
  have hx : QeT x56[k].1 x56[k].2.1 x56[k].2.2.1 = true := hc x56[k] (List.getElem_mem hk)
  simp only [Qur, Qas, Qaw, hk, decide_true, Qad, Int.toNat_natCast, add1 (show k < 4611686018427387904 by omega), QaA (y := Qat) hk, hx, ih]
  simp only [Qob, Int.toNat_natCast, List.drop_eq_getElem_cons hk, List.all_cons, idOk]
  cases QdE x56[k].1 x56[k].2.1 x56[k].2.2.1 <;> rfl
theorem QPP : ∀ S l p, g_f76.L 0 (fgt QkP S) = some (true, l) → pickA l = some p → loopF (Qaj g_f76 QkP QmX) S = some p :=
 QaB (s := Qtl) ⟨by decide, by decide⟩ (by kernel_rfl) fun x y hok p hp => by
 simp only [Qao, Qam] at hp
 exact (QX2 x.2.1 x.2.2.1 x.2.2.2.1 y.1 (by simpa using hok)).trans hp
theorem lk_f76 : QFY.lok g_f76 := by
 repeat (first | exact trivial | exact QPP | refine ⟨?_, ?_⟩)
theorem s_f76 (e : Qab) (h : QaZ e = true) : r_f76 e = some (.t tI (Qcu e), []) := by
 simp only [QaZ, Bool.and_eq_true, decide_eq_true_eq] at h
 obtain ⟨⟨h1, h2, h3, h4, h5⟩, h6⟩ := h
 have q2 : Qbr (Qap e) = true := decide_eq_true h2
 have q4 : Qbr (eAnch e) = true := decide_eq_true h4
 have q5 : Qbr (eHash e) = true := decide_eq_true h5
 unfold Qcu
 simp only [r_f76, h1, q2, q4, q5, rng_0 h3, h6, Bool.and_self, Qad, Int.toNat_zero, List.drop_zero, QrQ, QiN]
 refine br9 (fun g => by simp only [Bool.not_eq_true'] at g; simp [QaJ, g]) fun g1 => br9 (fun g => by simp [QaJ, g]) fun g2 => br9 (fun g => by simp [QaJ, g]) fun g3 => br9 (fun g => by simp [QaJ, g]) fun g4 => br9 (fun g => by simp only [Bool.not_eq_true'] at g; simp [QaJ, g]) fun g5 => br9 (fun g => by simp [QaJ, g]) fun g6 => br9 (fun g => by simp [QaJ, g]) fun g7 => br9 (fun g => by simp only [Bool.not_eq_true'] at g; simp [QaJ, g]) fun g8 => br9 (fun g => by simp only [Bool.not_eq_true'] at g; simp [QaJ, g]) fun g9 => br9 (fun g => by simp only [Bool.not_eq_true'] at g; simp [QaJ, g]) fun g10 => br9 (fun g => by simp only [Bool.not_eq_true'] at g; simp [QaJ, g]) fun g11 => br9 (fun g => by simp only [Bool.not_eq_true'] at g; simp [QaJ, g]) fun g12 => ?_
 simp only [Bool.not_eq_false'] at g1 g5 g8 g9 g10 g11 g12
 have : QaJ e = true := by
  simp only [QaJ, g1, g2, g3, g4, g5, g6, g7, g8, g9, g10, g11, g12, Bool.not_false, Bool.and_self]
 rw [this]
 rfl
def QBB : Ent := spec (.pr Qae .nil) (fun x => (QaZ x.1)) (fun x => (.t tI (Qcu x.1)))
theorem QKY : Meets Tryz.prog 76 (strip QBB) := Qah (R := runF g_f76 QFY QTK false) (mG Tryz.func76 (by kernel_rfl) Tryz.ntmps76 (by kernel_rfl) gk_f76 lk_f76) fun x hok => (e_f76 x.1).trans (s_f76 x.1 hok)
noncomputable def QRD : List DO := dT Tryz.f58 6
noncomputable def QRC : List DO := dT Tryz.f58 11
noncomputable def QRB : List DO := dT Tryz.f58 16
noncomputable def QRA : List DO := dT Tryz.f58 21
def QkV : Fg := ⟨[(1, none), (3, some tI)], [(1, some Qae)]⟩
noncomputable def Qm3 : TC := (.sq (.sq (.reg (rT Tryz.f58 4)) (.cd (.t 52) .sk (.fg ⟨[(1, none)], [(1, some Qae)]⟩ (.ex 0)))) (.sq (.bk 1 (.sq (.reg (rT Tryz.f58 5)) (.sq (.dr QRD [(0, []), (1, []), (2, []), (3, [1]), (4, [1]), (5, []), (6, []), (7, [1]), (8, [1]), (9, []), (10, []), (11, []), (12, []), (13, [])] (.of [0, 1, 2, 3, 4, 5, 6, 7, 8, 9, 10, 11, 12, 13])) (.cd (.t 77) (.sq (.reg (rT Tryz.f58 7)) (.fg ⟨[(2, some tI)], []⟩ .rt)) .sk)))) (.reg (rT Tryz.f58 8))))
def QkU : Fg := ⟨[(1, none), (6, some tI)], [(1, some Qae)]⟩
noncomputable def Qm2 : TC := (.sq (.sq (.reg (rT Tryz.f58 10)) (.cd (.t 82) .sk (.fg ⟨[(1, none)], [(1, some Qae)]⟩ (.ex 2)))) (.sq (.bk 3 (.sq (.dr QRC [(0, [1]), (1, [1]), (2, []), (3, []), (4, []), (5, []), (6, [1]), (7, [1]), (8, []), (9, []), (10, []), (11, []), (12, [1]), (13, [1]), (14, []), (15, []), (16, []), (17, []), (18, []), (19, [])] (.of [0, 1, 2, 3, 4, 5, 6, 7, 8, 9, 10, 11, 12, 13, 14, 15, 16, 17, 18, 19])) (.cd (.t 104) (.sq (.reg (rT Tryz.f58 12)) (.fg ⟨[(2, some tI)], []⟩ .rt)) .sk))) (.reg (rT Tryz.f58 13))))
def QkT : Fg := ⟨[(1, none), (7, some tI)], [(1, some Qae)]⟩
noncomputable def Qm1 : TC := (.sq (.sq (.reg (rT Tryz.f58 15)) (.cd (.t 109) .sk (.fg ⟨[(1, none)], [(1, some Qae)]⟩ (.ex 4)))) (.sq (.bk 5 (.sq (.dr QRB [(0, [1]), (1, [1]), (2, []), (3, []), (4, []), (5, []), (6, []), (7, [1]), (8, [1]), (9, []), (10, []), (11, []), (12, []), (13, []), (14, []), (15, []), (16, []), (17, []), (18, [1]), (19, [1]), (20, []), (21, []), (22, []), (23, []), (24, [1]), (25, [1]), (26, []), (27, []), (28, []), (29, []), (30, []), (31, [])] (.of [0, 1, 2, 3, 4, 5, 6, 7, 8, 9, 10, 11, 12, 13, 14, 15, 16, 17, 18, 19, 20, 21, 22, 23, 24, 25, 26, 27, 28, 29, 30, 31])) (.cd (.t 143) (.sq (.reg (rT Tryz.f58 17)) (.fg ⟨[(2, some tI)], []⟩ .rt)) .sk))) (.reg (rT Tryz.f58 18))))
def QkS : Fg := ⟨[(1, none), (8, some tI)], [(1, some Qae)]⟩
noncomputable def Qm0 : TC := (.sq (.sq (.reg (rT Tryz.f58 20)) (.cd (.t 148) .sk (.fg ⟨[], []⟩ (.ex 6)))) (.sq (.bk 7 (.sq (.dr QRA [(0, [1]), (1, [1]), (2, []), (3, []), (4, []), (5, []), (6, []), (7, []), (8, []), (9, []), (10, []), (11, [1]), (12, [1]), (13, []), (14, []), (15, []), (16, []), (17, [1]), (18, [1]), (19, []), (20, []), (21, []), (22, []), (23, []), (24, [])] (.of [0, 1, 2, 3, 4, 5, 6, 7, 8, 9, 10, 11, 12, 13, 14, 15, 16, 17, 18, 19, 20, 21, 22, 23, 24])) (.cd (.t 175) (.sq (.reg (rT Tryz.f58 22)) (.fg ⟨[(2, some tI)], []⟩ .rt)) .sk))) (.reg (rT Tryz.f58 23))))
noncomputable def QF3 : TC := (.sq (.reg (rT Tryz.f58 0)) (.sq (.sq (.reg (rT Tryz.f58 1)) (.cd (.t 47) (.sq (.reg (rT Tryz.f58 2)) .rt) .sk)) (.sq (.sq (.reg (rT Tryz.f58 3)) (.bk 0 (.lp 0 QkV Qm3))) (.sq (.sq (.reg (rT Tryz.f58 9)) (.bk 2 (.lp 1 QkU Qm2))) (.sq (.sq (.reg (rT Tryz.f58 14)) (.bk 4 (.lp 2 QkT Qm1))) (.sq (.sq (.reg (rT Tryz.f58 19)) (.bk 6 (.lp 3 QkS Qm0))) (.sq (.reg (rT Tryz.f58 24)) .rt)))))))
def QTP : List (RV × Option Ty) := [((.t 2), some tI)]
abbrev Qtr : Sh := ⟨[(1, .ptr 1 0), (3, .ty tI)], [(1, .box Qae)]⟩
def Qs0 (x3 : Int) (y1 : Qab) : VS := Qtr.st ((), x3, ()) (y1, ())
abbrev QvS : Sh := ⟨[(2, .ty tI)], []⟩
def Qb7 (x2 : Int) : VS := QvS.st (x2, ()) ()
abbrev QzG : Sh := ⟨[(1, .ptr 1 0)], [(1, .box Qae)]⟩
def Qfn (y1 : Qab) : VS := QzG.st ((), ()) (y1, ())
abbrev Qtq : Sh := ⟨[(1, .ptr 1 0), (6, .ty tI)], [(1, .box Qae)]⟩
def QsZ (x6 : Int) (y1 : Qab) : VS := Qtq.st ((), x6, ()) (y1, ())
abbrev QvR : Sh := ⟨[(2, .ty tI)], []⟩
def QdW (x2 : Int) : VS := QvR.st (x2, ()) ()
abbrev QzF : Sh := ⟨[(1, .ptr 1 0)], [(1, .box Qae)]⟩
def Qfm (y1 : Qab) : VS := QzF.st ((), ()) (y1, ())
abbrev Qtp : Sh := ⟨[(1, .ptr 1 0), (7, .ty tI)], [(1, .box Qae)]⟩
def Qnn (x7 : Int) (y1 : Qab) : VS := Qtp.st ((), x7, ()) (y1, ())
abbrev QvQ : Sh := ⟨[(2, .ty tI)], []⟩
def Qbn (x2 : Int) : VS := QvQ.st (x2, ()) ()
abbrev QzE : Sh := ⟨[(1, .ptr 1 0)], [(1, .box Qae)]⟩
def Qfl (y1 : Qab) : VS := QzE.st ((), ()) (y1, ())
abbrev Qto : Sh := ⟨[(1, .ptr 1 0), (8, .ty tI)], [(1, .box Qae)]⟩
def Qnm (x8 : Int) (y1 : Qab) : VS := Qto.st ((), x8, ()) (y1, ())
abbrev QvP : Sh := ⟨[(2, .ty tI)], []⟩
def Qb6 (x2 : Int) : VS := QvP.st (x2, ()) ()
abbrev QzD : Sh := ⟨[], []⟩
def Qfk  : VS := QzD.st () ()
def Q02 : VS → Option (Bool × List (Bool × Exit × VS)) := mkL Qtr (fun x y => (decide (0 ≤ x.2.1 ∧ x.2.1 ≤ (Qap y.1).length ∧ (Qap y.1).length ≤ 100000))) (fun x y => [((!QdB (Qap y.1) x.2.1.toNat), .ret, Qb7 (19)), (true, .exit 0, Qfn (y.1))])
def Q01 : VS → Option (Bool × List (Bool × Exit × VS)) := mkL Qtq (fun x y => (decide (0 ≤ x.2.1 ∧ x.2.1 ≤ (eIds y.1).length ∧ (eIds y.1).length ≤ 100000) && (eIds y.1).all idLen)) (fun x y => [((!((eIds y.1).drop x.2.1.toNat).all idOk), .ret, QdW (19)), (true, .exit 2, Qfm (y.1))])
def Q00 : VS → Option (Bool × List (Bool × Exit × VS)) := mkL Qtp (fun x y => (decide (0 ≤ x.2.1 ∧ x.2.1 ≤ (eAnch y.1).length ∧ (eAnch y.1).length ≤ 100000))) (fun x y => [((!(((eAnch y.1).drop x.2.1.toNat).all keyI && ascUp (eAnch y.1) x.2.1.toNat)), .ret, Qbn (19)), (true, .exit 4, Qfl (y.1))])
def Q0Z : VS → Option (Bool × List (Bool × Exit × VS)) := mkL Qto (fun x y => (decide (0 ≤ x.2.1 ∧ x.2.1 ≤ (eHash y.1).length ∧ (eHash y.1).length ≤ 100000))) (fun x y => [((!(((eHash y.1).drop x.2.1.toNat).all hashF && ascUp (eHash y.1) x.2.1.toNat)), .ret, Qb6 (19)), (true, .exit 6, Qfk)])
def g_f58 : G := ⟨TYs, [], 176, EL [(70, QBC), (102, QHK), (103, Qtf), (104, Qzr), (105, QHJ)], keeps, (Ls [Q02, Q01, Q00, Q0Z]), IL [], RL []⟩
def QOw (x3 : Int) (y1 : Qab) : Option (Exit × VS) :=
 let a1 := lgt tI y1.2.2.2.1 (Int.toNat x3)
 br (ilt x3 (llen y1.2.2.2.1)) (br (cIx y1.2.2.2.1 x3) (br (ine ((QaC a1).2) 0) (some (.ret, Qb7 19)) (br (cSl y1.2.2.2.1 0 x3 ((List.length y1.2.2.2.1 : Nat) : Int)) (br (cIx y1.2.2.2.1 x3) (br (Qa3 (lsl y1.2.2.2.1 0 x3) a1) (br (hasF (lsl y1.2.2.2.1 0 x3) a1) (some (.ret, Qb7 19)) (some (.normal, Qs0 (iadd .i64 x3 1) y1))) none) none) none)) none) (some (.exit 0, Qfn y1))
noncomputable def Qn4 (x3 : Int) (y1 : Qab) : Option (Exit × VS) := loopF (Qaj g_f58 QkV Qm3) (Qs0 x3 y1)
noncomputable def Qux (x3 : Int) (y1 : Qab) : Option (Exit × VS) :=
 let a1 := lgt tI y1.2.2.2.1 (Int.toNat x3)
 br (ilt x3 (llen y1.2.2.2.1)) (br (cIx y1.2.2.2.1 x3) (br (ine ((QaC a1).2) 0) (some (.ret, Qb7 19)) (br (cSl y1.2.2.2.1 0 x3 ((List.length y1.2.2.2.1 : Nat) : Int)) (br (cIx y1.2.2.2.1 x3) (br (Qa3 (lsl y1.2.2.2.1 0 x3) a1) (br (hasF (lsl y1.2.2.2.1 0 x3) a1) (some (.ret, Qb7 19)) (Qn4 (iadd .i64 x3 1) y1)) none) none) none)) none) (some (.exit 0, Qfn y1))
def Qoh (x3 : Int) (y1 : Qab) : Option (Exit × VS) := br (!QdB (Qap y1) x3.toNat) (some (.ret, Qb7 (19))) <| some (.exit 0, Qfn (y1))
theorem QR5 (x3 : Int) (y1 : Qab) : Qaj g_f58 QkV Qm3 (Qs0 x3 y1) = QOw x3 y1 := by kernel_rfl
theorem QCd (x3 : Int) (y1 : Qab) : Qn4 x3 y1 = Qux x3 y1 := (Qan _ _).trans (by
 rw [QR5]
 simp only [QOw, Qux, Qay, nxt_n, nxt_r, nxt_e, nxt_0]
 rfl)
def QOv (x6 : Int) (y1 : Qab) : Option (Exit × VS) :=
 let a1 := lgt Qat y1.2.2.2.2.2.1 (Int.toNat x6)
 let a2 := cIx y1.2.2.2.2.2.1 x6
 br (ilt x6 (llen y1.2.2.2.2.2.1)) (br a2 (br a2 (br a2 (br (QeT (a1.1) ((a1.2).1) (((a1.2).2).1)) (br (!(QdE (a1.1) ((a1.2).1) (((a1.2).2).1))) (some (.ret, QdW 19)) (some (.normal, QsZ (iadd .i64 x6 1) y1))) none) none) none) none) (some (.exit 2, Qfm y1))
noncomputable def Qn3 (x6 : Int) (y1 : Qab) : Option (Exit × VS) := loopF (Qaj g_f58 QkU Qm2) (QsZ x6 y1)
noncomputable def Quw (x6 : Int) (y1 : Qab) : Option (Exit × VS) :=
 let a1 := lgt Qat y1.2.2.2.2.2.1 (Int.toNat x6)
 let a2 := cIx y1.2.2.2.2.2.1 x6
 br (ilt x6 (llen y1.2.2.2.2.2.1)) (br a2 (br a2 (br a2 (br (QeT (a1.1) ((a1.2).1) (((a1.2).2).1)) (br (!(QdE (a1.1) ((a1.2).1) (((a1.2).2).1))) (some (.ret, QdW 19)) (Qn3 (iadd .i64 x6 1) y1)) none) none) none) none) (some (.exit 2, Qfm y1))
def Qog (x6 : Int) (y1 : Qab) : Option (Exit × VS) := br (!((eIds y1).drop x6.toNat).all idOk) (some (.ret, QdW (19))) <| some (.exit 2, Qfm (y1))
theorem QR4 (x6 : Int) (y1 : Qab) : Qaj g_f58 QkU Qm2 (QsZ x6 y1) = QOv x6 y1 := by kernel_rfl
theorem QCc (x6 : Int) (y1 : Qab) : Qn3 x6 y1 = Quw x6 y1 := (Qan _ _).trans (by
 rw [QR4]
 simp only [QOv, Quw, Qay, nxt_n, nxt_r, nxt_e, nxt_0]
 rfl)
def QOu (x7 : Int) (y1 : Qab) : Option (Exit × VS) :=
 let a1 := lgt tI y1.2.2.2.2.2.2.1 (Int.toNat x7)
 let a2 := cIx y1.2.2.2.2.2.2.1 x7
 br (ilt x7 (llen y1.2.2.2.2.2.2.1)) (br a2 (br (ilt a1 0) (some (.ret, Qbn 19)) (br a2 (br (igt a1 2147483648) (some (.ret, Qbn 19)) (br (igt x7 0) (br (cIx y1.2.2.2.2.2.2.1 (isub .i64 x7 1)) (br a2 (br (ige (lgt tI y1.2.2.2.2.2.2.1 (Int.toNat (isub .i64 x7 1))) a1) (some (.ret, Qbn 19)) (some (.normal, Qnn (iadd .i64 x7 1) y1))) none) none) (some (.normal, Qnn (iadd .i64 x7 1) y1)))) none)) none) (some (.exit 4, Qfl y1))
noncomputable def QjG (x7 : Int) (y1 : Qab) : Option (Exit × VS) := loopF (Qaj g_f58 QkT Qm1) (Qnn x7 y1)
noncomputable def Quv (x7 : Int) (y1 : Qab) : Option (Exit × VS) :=
 let a1 := lgt tI y1.2.2.2.2.2.2.1 (Int.toNat x7)
 let a2 := cIx y1.2.2.2.2.2.2.1 x7
 br (ilt x7 (llen y1.2.2.2.2.2.2.1)) (br a2 (br (ilt a1 0) (some (.ret, Qbn 19)) (br a2 (br (igt a1 2147483648) (some (.ret, Qbn 19)) (br (igt x7 0) (br (cIx y1.2.2.2.2.2.2.1 (isub .i64 x7 1)) (br a2 (br (ige (lgt tI y1.2.2.2.2.2.2.1 (Int.toNat (isub .i64 x7 1))) a1) (some (.ret, Qbn 19)) (QjG (iadd .i64 x7 1) y1)) none) none) (QjG (iadd .i64 x7 1) y1))) none)) none) (some (.exit 4, Qfl y1))
def Qof (x7 : Int) (y1 : Qab) : Option (Exit × VS) := br (!(((eAnch y1).drop x7.toNat).all keyI && ascUp (eAnch y1) x7.toNat)) (some (.ret, Qbn (19))) <| some (.exit 4, Qfl (y1))
theorem QR3 (x7 : Int) (y1 : Qab) : Qaj g_f58 QkT Qm1 (Qnn x7 y1) = QOu x7 y1 := by kernel_rfl
theorem QCb (x7 : Int) (y1 : Qab) : QjG x7 y1 = Quv x7 y1 := (Qan _ _).trans (by
 rw [QR3]
 simp only [QOu, Quv, Qay, nxt_n, nxt_r, nxt_e, nxt_0]
 rfl)
def QOt (x8 : Int) (y1 : Qab) : Option (Exit × VS) :=
 let a1 := lgt tI y1.2.2.2.2.2.2.2.1 (Int.toNat x8)
 let a2 := cIx y1.2.2.2.2.2.2.2.1 x8
 br (ilt x8 (llen y1.2.2.2.2.2.2.2.1)) (br a2 (br (ine (kindF a1) 1) (some (.ret, Qb6 19)) (br (igt x8 0) (br (cIx y1.2.2.2.2.2.2.2.1 (isub .i64 x8 1)) (br a2 (br (ige (lgt tI y1.2.2.2.2.2.2.2.1 (Int.toNat (isub .i64 x8 1))) a1) (some (.ret, Qb6 19)) (some (.normal, Qnm (iadd .i64 x8 1) y1))) none) none) (some (.normal, Qnm (iadd .i64 x8 1) y1)))) none) (some (.exit 6, Qfk))
noncomputable def QjF (x8 : Int) (y1 : Qab) : Option (Exit × VS) := loopF (Qaj g_f58 QkS Qm0) (Qnm x8 y1)
noncomputable def Quu (x8 : Int) (y1 : Qab) : Option (Exit × VS) :=
 let a1 := lgt tI y1.2.2.2.2.2.2.2.1 (Int.toNat x8)
 let a2 := cIx y1.2.2.2.2.2.2.2.1 x8
 br (ilt x8 (llen y1.2.2.2.2.2.2.2.1)) (br a2 (br (ine (kindF a1) 1) (some (.ret, Qb6 19)) (br (igt x8 0) (br (cIx y1.2.2.2.2.2.2.2.1 (isub .i64 x8 1)) (br a2 (br (ige (lgt tI y1.2.2.2.2.2.2.2.1 (Int.toNat (isub .i64 x8 1))) a1) (some (.ret, Qb6 19)) (QjF (iadd .i64 x8 1) y1)) none) none) (QjF (iadd .i64 x8 1) y1))) none) (some (.exit 6, Qfk))
def Qoe (x8 : Int) (y1 : Qab) : Option (Exit × VS) := br (!(((eHash y1).drop x8.toNat).all hashF && ascUp (eHash y1) x8.toNat)) (some (.ret, Qb6 (19))) <| some (.exit 6, Qfk)
theorem QR2 (x8 : Int) (y1 : Qab) : Qaj g_f58 QkS Qm0 (Qnm x8 y1) = QOt x8 y1 := by kernel_rfl
theorem QCa (x8 : Int) (y1 : Qab) : QjF x8 y1 = Quu x8 y1 := (Qan _ _).trans (by
 rw [QR2]
 simp only [QOt, Quu, Qay, nxt_n, nxt_r, nxt_e, nxt_0]
 rfl)
def r_f58 (p0 : Qab) : Option (V × List VO) := br (nameG p0.1) (br (!(wordF p0.1)) (some (.t tI 19, [])) (br (ilt p0.2.1 1) (some (.t tI 19, [])) (br (igt p0.2.1 p0.2.2.1) (some (.t tI 19, [])) (br (igt p0.2.2.1 4) (some (.t tI 19, [])) (br (igt (llen p0.2.2.2.1) 16) (some (.t tI 19, [])) (br (igt (llen p0.2.2.2.2.2.1) 4) (some (.t tI 19, [])) (br (igt (llen p0.2.2.2.2.2.2.1) 16) (some (.t tI 19, [])) (br (decide (0 ≤ (0 : Int) ∧ (0 : Int) ≤ (Qap p0).length ∧ (Qap p0).length ≤ 100000)) (br (!QdB (Qap p0) (0 : Int).toNat) (some (.t tI (19), [])) (br (decide (0 ≤ (0 : Int) ∧ (0 : Int) ≤ (eIds (p0)).length ∧ (eIds (p0)).length ≤ 100000) && (eIds (p0)).all idLen) (br (!((eIds (p0)).drop (0 : Int).toNat).all idOk) (some (.t tI (19), [])) (br (decide (0 ≤ (0 : Int) ∧ (0 : Int) ≤ (eAnch (p0)).length ∧ (eAnch (p0)).length ≤ 100000)) (br (!(((eAnch (p0)).drop (0 : Int).toNat).all keyI && ascUp (eAnch (p0)) (0 : Int).toNat)) (some (.t tI (19), [])) (br (decide (0 ≤ (0 : Int) ∧ (0 : Int) ≤ (eHash (p0)).length ∧ (eHash (p0)).length ≤ 100000)) (br (!(((eHash (p0)).drop (0 : Int).toNat).all hashF && ascUp (eHash (p0)) (0 : Int).toNat)) (some (.t tI (19), [])) (some (.t tI 0, []))) none)) none)) none)) none)))))))) none
theorem e_f58 (p0 : Qab) : runF g_f58 QF3 QTP false [.t Qae p0] [] = r_f58 p0 := by kernel_rfl
theorem en_f58 : Qai Tryz.prog 58 := .inr ⟨by decide, _, Tryz.func58, by kernel_rfl, by kernel_rfl⟩
theorem gk_f58 : GOk Tryz.prog g_f58 := Qal _ (gA (gC QMN QKZ (gC Q0C QWw (gC QBf QAn (gC QM9 QLd (gC Q0B QWv gN))))))
theorem QX8 (x3 : Int) (y1 : Qab) (h : (decide (0 ≤ x3 ∧ x3 ≤ (Qap y1).length ∧ (Qap y1).length ≤ 100000)) = true) : Qn4 x3 y1 = Qoh x3 y1 := by
 simp only [decide_eq_true_eq] at h
 obtain ⟨h0, h1, h2⟩ := h
 obtain ⟨k, rfl⟩ := Int.eq_ofNat_of_zero_le h0
 refine Qar (Qap y1) (fun k => Qn4 (k : Int) y1 = Qoh (k : Int) y1) ?_ ?_ k (by omega)
 ·rw [QCd]
  simp only [Qux, Qoh, show ilt ((Qap y1).length : Int) (llen (Qap y1)) = false from decide_eq_false (by simp only [llen]; omega), Qaf, Int.toNat_natCast, Qsc, Bool.not_true]
 ·intro k hk ih
  rw [QCd]
  have hi : Qa3 ((Qap y1).take k) (Qap y1)[k] = true := decide_eq_true (by rw [List.length_take]; omega)
  simp only [Qux, show ilt (k : Int) (llen (Qap y1)) = true from decide_eq_true (by simp only [llen]; omega), Qaw, hk, decide_true, Qad, Int.toNat_natCast, add1 (show k < 4611686018427387904 by omega), QaA (y := tI) hk, ih, QB3, QDG (show k ≤ (Qap y1).length by omega), hi, QiJ]
  simp only [Qoh, Int.toNat_natCast, QoQ hk]
  cases ieq (QaC (Qap y1)[k]).2 0 <;> cases hasF ((Qap y1).take k) (Qap y1)[k] <;> rfl
theorem QX7 (x6 : Int) (y1 : Qab) (h : (decide (0 ≤ x6 ∧ x6 ≤ (eIds y1).length ∧ (eIds y1).length ≤ 100000) && (eIds y1).all idLen) = true) : Qn3 x6 y1 = Qog x6 y1 := by
 simp only [Bool.and_eq_true, decide_eq_true_eq, List.all_eq_true] at h
 obtain ⟨⟨h0, h1, h2⟩, hc⟩ := h
 obtain ⟨k, rfl⟩ := Int.eq_ofNat_of_zero_le h0
 refine Qar (eIds y1) (fun k => Qn3 (k : Int) y1 = Qog (k : Int) y1) ?_ ?_ k (by omega)
 ·rw [QCc]
  simp only [Quw, Qog, show ilt ((eIds y1).length : Int) (llen (eIds y1)) = false from decide_eq_false (by simp only [llen]; omega), Qaf, Int.toNat_natCast, List.drop_length, List.all_nil, Bool.not_true]
 ·intro k hk ih
  rw [QCc]
  have hx : QeT (eIds y1)[k].1 (eIds y1)[k].2.1 (eIds y1)[k].2.2.1 = true := hc (eIds y1)[k] (List.getElem_mem hk)
  simp only [Quw, show ilt (k : Int) (llen (eIds y1)) = true from decide_eq_true (by simp only [llen]; omega), Qaw, hk, decide_true, Qad, Int.toNat_natCast, add1 (show k < 4611686018427387904 by omega), QaA (y := Qat) hk, hx, ih]
  simp only [Qog, Int.toNat_natCast, List.drop_eq_getElem_cons hk, List.all_cons, idOk]
  cases QdE (eIds y1)[k].1 (eIds y1)[k].2.1 (eIds y1)[k].2.2.1 <;> rfl
theorem QX6 (x7 : Int) (y1 : Qab) (h : (decide (0 ≤ x7 ∧ x7 ≤ (eAnch y1).length ∧ (eAnch y1).length ≤ 100000)) = true) : QjG x7 y1 = Qof x7 y1 := by
 simp only [decide_eq_true_eq] at h
 obtain ⟨h0, h1, h2⟩ := h
 obtain ⟨k, rfl⟩ := Int.eq_ofNat_of_zero_le h0
 refine Qar (eAnch y1) (fun k => QjG (k : Int) y1 = Qof (k : Int) y1) ?_ ?_ k (by omega)
 ·rw [QCb]
  simp only [Quv, Qof, show ilt ((eAnch y1).length : Int) (llen (eAnch y1)) = false from decide_eq_false (by simp only [llen]; omega), Qaf, Int.toNat_natCast, List.drop_length, List.all_nil, QrP, Bool.and_self, Bool.not_true]
 ·intro k hk ih
  rw [QCb]
  simp only [Quv, show ilt (k : Int) (llen (eAnch y1)) = true from decide_eq_true (by simp only [llen]; omega), Qaw, hk, decide_true, Qad, Int.toNat_natCast, add1 (show k < 4611686018427387904 by omega), QaA (y := tI) hk, ih, QON hk (show k < 4611686018427387904 by omega)]
  simp only [Qof, Int.toNat_natCast, QlZ hk, List.drop_eq_getElem_cons hk, List.all_cons, keyI]
  cases ilt (eAnch y1)[k] 0 <;> cases igt (eAnch y1)[k] 2147483648 <;> cases decide (k = 0) || ilt ((eAnch y1).getD (k - 1) 0) (eAnch y1)[k] <;> simp [Qad, Qaf]
theorem QX5 (x8 : Int) (y1 : Qab) (h : (decide (0 ≤ x8 ∧ x8 ≤ (eHash y1).length ∧ (eHash y1).length ≤ 100000)) = true) : QjF x8 y1 = Qoe x8 y1 := by
 simp only [decide_eq_true_eq] at h
 obtain ⟨h0, h1, h2⟩ := h
 obtain ⟨k, rfl⟩ := Int.eq_ofNat_of_zero_le h0
 refine Qar (eHash y1) (fun k => QjF (k : Int) y1 = Qoe (k : Int) y1) ?_ ?_ k (by omega)
 ·rw [QCa]
  simp only [Quu, Qoe, show ilt ((eHash y1).length : Int) (llen (eHash y1)) = false from decide_eq_false (by simp only [llen]; omega), Qaf, Int.toNat_natCast, List.drop_length, List.all_nil, QrP, Bool.and_self, Bool.not_true]
 ·intro k hk ih
  rw [QCa]
  simp only [Quu, show ilt (k : Int) (llen (eHash y1)) = true from decide_eq_true (by simp only [llen]; omega), Qaw, hk, decide_true, Qad, Int.toNat_natCast, add1 (show k < 4611686018427387904 by omega), QaA (y := tI) hk, ih, QON hk (show k < 4611686018427387904 by omega), QiJ]
  simp only [Qoe, Int.toNat_natCast, QlZ hk, List.drop_eq_getElem_cons hk, List.all_cons, hashF]
  cases ieq (kindF (eHash y1)[k]) 1 <;> cases decide (k = 0) || ilt ((eHash y1).getD (k - 1) 0) (eHash y1)[k] <;> simp [Qad, Qaf]
theorem QPV : ∀ S l p, g_f58.L 0 (fgt QkV S) = some (true, l) → pickA l = some p → loopF (Qaj g_f58 QkV Qm3) S = some p :=
 QaB (s := Qtr) ⟨by decide, by decide⟩ (by kernel_rfl) fun x y hok p hp => by
 simp only [Qao, Qam] at hp
 exact (QX8 x.2.1 y.1 (by simpa using hok)).trans hp
theorem QPU : ∀ S l p, g_f58.L 1 (fgt QkU S) = some (true, l) → pickA l = some p → loopF (Qaj g_f58 QkU Qm2) S = some p :=
 QaB (s := Qtq) ⟨by decide, by decide⟩ (by kernel_rfl) fun x y hok p hp => by
 simp only [Qao, Qam] at hp
 exact (QX7 x.2.1 y.1 (by simpa using hok)).trans hp
theorem QPT : ∀ S l p, g_f58.L 2 (fgt QkT S) = some (true, l) → pickA l = some p → loopF (Qaj g_f58 QkT Qm1) S = some p :=
 QaB (s := Qtp) ⟨by decide, by decide⟩ (by kernel_rfl) fun x y hok p hp => by
 simp only [Qao, Qam] at hp
 exact (QX6 x.2.1 y.1 (by simpa using hok)).trans hp
theorem QPS : ∀ S l p, g_f58.L 3 (fgt QkS S) = some (true, l) → pickA l = some p → loopF (Qaj g_f58 QkS Qm0) S = some p :=
 QaB (s := Qto) ⟨by decide, by decide⟩ (by kernel_rfl) fun x y hok p hp => by
 simp only [Qao, Qam] at hp
 exact (QX5 x.2.1 y.1 (by simpa using hok)).trans hp
theorem lk_f58 : QF3.lok g_f58 := by
 repeat (first | exact trivial | exact QPV | exact QPU | exact QPT | exact QPS | refine ⟨?_, ?_⟩)
theorem s_f58 (e : Qab) (h : QaZ e = true) : r_f58 e = some (.t tI (Qcu e), []) := by
 simp only [QaZ, Bool.and_eq_true, decide_eq_true_eq] at h
 obtain ⟨⟨h1, h2, h3, h4, h5⟩, h6⟩ := h
 have q2 : decide ((0 : Int) ≤ 0 ∧ (0 : Int) ≤ (Qap e).length ∧ (Qap e).length ≤ 100000) = true := decide_eq_true (by omega)
 have q3 : decide ((0 : Int) ≤ 0 ∧ (0 : Int) ≤ (eIds e).length ∧ (eIds e).length ≤ 100000) = true := decide_eq_true (by omega)
 have q4 : decide ((0 : Int) ≤ 0 ∧ (0 : Int) ≤ (eAnch e).length ∧ (eAnch e).length ≤ 100000) = true := decide_eq_true (by omega)
 have q5 : decide ((0 : Int) ≤ 0 ∧ (0 : Int) ≤ (eHash e).length ∧ (eHash e).length ≤ 100000) = true := decide_eq_true (by omega)
 unfold Qcu
 simp only [r_f58, h1, q2, q3, q4, q5, h6, Bool.and_self, Qad, Int.toNat_zero, List.drop_zero]
 refine br9 (fun g => by simp only [Bool.not_eq_true'] at g; simp [QaJ, g]) fun g1 => br9 (fun g => by simp [QaJ, g]) fun g2 => br9 (fun g => by simp [QaJ, g]) fun g3 => br9 (fun g => by simp [QaJ, g]) fun g4 => br9 (fun g => ?_) fun g5 => br9 (fun g => by simp [QaJ, g]) fun g6 => br9 (fun g => by simp [QaJ, g]) fun g7 => br9 (fun g => by simp only [Bool.not_eq_true'] at g; have : suitF (Qap e) = false := g; simp [QaJ, this]) fun g8 => br9 (fun g => by simp only [Bool.not_eq_true'] at g; simp [QaJ, g]) fun g9 => br9 (fun g => ?_) fun g10 => br9 (fun g => ?_) fun g11 => ?_
 ·have : suitF (Qap e) = false := by
   cases hs : suitF (Qap e) with
   | false => rfl
   | true =>
    have h16 : e.2.2.2.1.length ≤ 16 := QBy hs
    simp only [igt, llen, decide_eq_true_eq] at g
    omega
  simp [QaJ, this]
 ·simp only [Bool.not_eq_true', Bool.and_eq_false_iff] at g
  rcases g with g | g
  ·simp [QaJ, g]
  ·have : ascF (eAnch e) = false := g
   simp [QaJ, this]
 ·simp only [Bool.not_eq_true', Bool.and_eq_false_iff] at g
  rcases g with g | g
  ·simp [QaJ, g]
  ·have : ascF (eHash e) = false := g
   simp [QaJ, this]
 simp only [Bool.not_eq_false', Bool.and_eq_true] at g1 g8 g9 g10 g11
 have k1 : suitF (Qap e) = true := g8
 have k2 : ascF (eAnch e) = true := g10.2
 have k3 : ascF (eHash e) = true := g11.2
 have : QaJ e = true := by
  simp only [QaJ, g1, g2, g3, g4, k1, g6, g7, k2, k3, g9, g10.1, g11.1, Bool.not_false, Bool.and_self]
 rw [this]
 rfl
def QTd : Ent := spec (.pr Qae .nil) (fun x => (QaZ x.1)) (fun x => (.t tI (Qcu x.1)))
theorem ms_f58 : Meets Tryz.prog 58 (strip QTd) := Qah (R := runF g_f58 QF3 QTP false) (mG Tryz.func58 (by kernel_rfl) Tryz.ntmps58 (by kernel_rfl) gk_f58 lk_f58) fun x hok => (e_f58 x.1).trans (s_f58 x.1 hok)
end
end Go.Proofs.YtckcgijklnloiaaGreat.K
namespace Go.Proofs.YtckcgijklnloiaaGreat.K
open Go.RowKit
def coeO (b : Ty) : VO → VO
 | .box (.ag [.t b' x]) => if b' = b ∧ b'.row = false then .box (.t b' x) else .box (.ag [.t b' x])
 | o => o
def coeOs : List Ty → List VO → List VO
 | b :: bs, o :: os => coeO b o :: coeOs bs os
 | _, os => os
def Qf9 (l : List SV) (bs : List Ty) (ok : SVt l → boxT bs → Bool) (F : SVt l → boxT bs → V) : Ent := fun args objs => specH l bs ok F args (coeOs bs objs)
section
variable {P : Program} {X : Nat → Nat → Prop} {w : World} {σ : Pl}
theorem Q0I {b : Ty} {o : VO} {k : Nat} (h : OAt X w σ k o) : OAt X w σ k (coeO b o) := by
 unfold coeO
 split
 ·rename_i b' x
  split
  ·rename_i hq
   obtain ⟨g, ty, vs, h1, h2, h3, h4⟩ := h
   refine ⟨g, ty, vs, h1, h2, ?_, h4⟩
   have e1 : (V.ag [.t b' x]).d.cells = [b'.d x] := rfl
   have e2 : (V.t b' x).d.cells = [b'.d x] := by
    show (b'.d x).cells = _
    rw [Ty.d_cells, Ty.d_one b' x hq.2]
   rw [e2, ← e1]
   exact h3
  ·exact h
 ·exact h
theorem Q0H {b : Ty} {o : VO} (h : o ≠ .no) : coeO b o ≠ .no := by
 unfold coeO
 split
 ·split <;> simp
 ·exact h
theorem Qla : ∀ (bs : List Ty) (os : List VO), (coeOs bs os).length = os.length
 | [], os => rfl
 | b :: bs, [] => rfl
 | b :: bs, o :: os => by rw [coeOs, List.length_cons, List.length_cons, Qla bs os]
theorem QDE : ∀ (bs : List Ty) (os : List VO) (j : Nat) (o : VO), (coeOs bs os)[j]? = some o → ∃ o', os[j]? = some o' ∧ (o = o' ∨ ∃ b, o = coeO b o')
 | [], os, j, o, h => ⟨o, h, .inl rfl⟩
 | b :: bs, [], j, o, h => ⟨o, h, .inl rfl⟩
 | b :: bs, o1 :: os, 0, o, h => by
  simp only [coeOs, List.getElem?_cons_zero, Option.some.injEq] at h
  exact ⟨o1, rfl, .inr ⟨b, h.symm⟩⟩
 | b :: bs, o1 :: os, j + 1, o, h => by
  simp only [coeOs, List.getElem?_cons_succ] at h
  obtain ⟨o', h1, h2⟩ := QDE bs os j o h
  exact ⟨o', by rw [List.getElem?_cons_succ]; exact h1, h2⟩
theorem Qcp {f : FuncId} {l : List SV} {bs : List Ty} {ok : SVt l → boxT bs → Bool} {F : SVt l → boxT bs → V} (hM : Meets P f (strip (specH l bs ok F))) : Meets P f (strip (Qf9 l bs ok F)) := by
 intro args objs r os hF X w σ vs hfin hl hc
 have := hM args (coeOs bs objs) r os hF X w σ vs hfin ⟨fun j o hj => by
  obtain ⟨o', h1, h2⟩ := QDE bs objs j o hj
  obtain ⟨g1, g2⟩ := hl.at_ j o' h1
  rcases h2 with rfl | ⟨b, rfl⟩
  ·exact ⟨g1, g2⟩
  ·exact ⟨Q0I g1, Q0H g2⟩, fun i j b hij hi hj => hl.apart i j b hij (by rwa [Qla] at hi) (by rwa [Qla] at hj)⟩ hc
 rw [Qla] at this
 exact this
end
end Go.Proofs.YtckcgijklnloiaaGreat.K
