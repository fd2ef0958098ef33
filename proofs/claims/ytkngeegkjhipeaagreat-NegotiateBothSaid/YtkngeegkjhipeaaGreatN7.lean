import Derived.Test.YtkngeegkjhipeaaGreatN5
import Derived.Test.YtkngeegkjhipeaaGreatN6
set_option linter.unusedSimpArgs false
set_option linter.unusedVariables false
namespace Go.Proofs.YtkngeegkjhipeaaGreat.K
open Go.RowKit
noncomputable section
theorem Qqm (a b : Int) : ige a b = !ilt a b := by
 simp only [ige, ilt]
 rw [Bool.eq_iff_iff]
 simp
theorem Qvw (a b : Int) : ile a b = !igt a b := by
 simp only [ile, igt]
 rw [Bool.eq_iff_iff]
 simp
theorem Qjh (a b : Int) : ine a b = !ieq a b := rfl
theorem brB {q r : Bool} {X : Option (V × List VO)} (h : X = some (.t .bool r, [])) : br q (some (.t .bool false, [])) X = some (.t .bool (!q && r), []) := by
 subst h
 cases q <;> rfl
theorem brA {q r : Bool} {X : Option (V × List VO)} (h : X = some (.t .bool r, [])) : br q X (some (.t .bool false, [])) = some (.t .bool (q && r), []) := by
 subst h
 cases q <;> rfl
theorem br9 {q v : Bool} {n : Int} {X : Option (V × List VO)} (h0 : q = true → v = false) (hX : q = false → X = some (.t tI (bif v then 0 else n), [])) : br q (some (.t tI n, [])) X = some (.t tI (bif v then 0 else n), []) := by
 cases q with
 | true => rw [Qac, h0 rfl]; rfl
 | false => rw [Qae, hX rfl]
open Classical in
def samB {α : Type} (a b : α) : Bool := decide (a = b)
theorem QmG {α : Type} (a : α) : samB a a = true := by
 unfold samB
 simp
theorem QuM {α : Type} {a b : α} (h : samB a b = true) : a = b := by
 unfold samB at h
 simpa using h
def keyI (n : Int) : Bool := !ilt n 0 && !igt n 2147483648
noncomputable def QzF : TC := (.sq (.reg (rT Tryz.f82 0)) (.sq (.reg (rT Tryz.f82 1)) .rt))
def QLx : List (RV × Option Ty) := [((.t 2), some .bool)]
def g_f82 : G := ⟨TYs, [], 9, EL [], keeps, (fun _ _ => none), IL [], RL []⟩
def r_f82 (p0 : Int) : Option (V × List VO) := br (ige p0 0) (some (.t .bool (ile p0 2147483648), [])) (some (.t .bool false, []))
theorem e_f82 (p0 : Int) : runF g_f82 QzF QLx false [.t tI p0] [] = r_f82 p0 := by kernel_rfl
theorem QFc : Qag Tryz.prog 82 := .inr ⟨by decide, _, Tryz.func82, by kernel_rfl, by kernel_rfl⟩
theorem gk_f82 : GOk Tryz.prog g_f82 := Qal _ (fun p hp => by cases hp)
theorem lk_f82 : QzF.lok g_f82 := by repeat (first | exact trivial | refine ⟨?_, ?_⟩)
theorem s_f82 (n : Int) : r_f82 n = some (.t .bool (keyI n), []) := by
 simp only [r_f82, Qqm, Qvw]
 exact brA rfl
def Qv5 : Ent := spec (.pr tI .nil) (fun x => true) (fun x => (.t .bool (keyI x.1)))
theorem QDw : Meets Tryz.prog 82 (strip Qv5) := Qaf (R := runF g_f82 QzF QLx false) (mG Tryz.func82 (by kernel_rfl) Tryz.ntmps82 (by kernel_rfl) gk_f82 lk_f82) fun x _ => (e_f82 x.1).trans (s_f82 x.1)
def sumI (n : Int) : Bool := !ilt n 0 && !ige n 4294967296
noncomputable def QtW : TC := (.sq (.reg (rT Tryz.f117 0)) (.sq (.reg (rT Tryz.f117 1)) .rt))
def QB7 : List (RV × Option Ty) := [((.t 2), some .bool)]
def Qxq : G := ⟨TYs, [], 9, EL [], keeps, (fun _ _ => none), IL [], RL []⟩
def QC2 (p0 : Int) : Option (V × List VO) := br (ige p0 0) (some (.t .bool (ilt p0 4294967296), [])) (some (.t .bool false, []))
theorem e_f117 (p0 : Int) : runF Qxq QtW QB7 false [.t tI p0] [] = QC2 p0 := by kernel_rfl
theorem QQJ : Qag Tryz.prog 117 := .inr ⟨by decide, _, Tryz.func117, by kernel_rfl, by kernel_rfl⟩
theorem QP6 : GOk Tryz.prog Qxq := Qal _ (fun p hp => by cases hp)
theorem QOT : QtW.lok Qxq := by repeat (first | exact trivial | refine ⟨?_, ?_⟩)
theorem s_f117 (n : Int) : QC2 n = some (.t .bool (sumI n), []) := by
 simp only [QC2, sumI, Qqm, Bool.not_not]
 exact brA rfl
def QBe : Ent := spec (.pr tI .nil) (fun x => true) (fun x => (.t .bool (sumI x.1)))
theorem QNZ : Meets Tryz.prog 117 (strip QBe) := Qaf (R := runF Qxq QtW QB7 false) (mG Tryz.func117 (by kernel_rfl) Tryz.ntmps117 (by kernel_rfl) QP6 QOT) fun x _ => (e_f117 x.1).trans (s_f117 x.1)
def QcA (l : List ByteArray) (k : Nat) : Bool := (List.range' k (l.length - k)).all fun j => QaV (l.getD j ByteArray.empty) && (decide (j = 0) || slt (l.getD (j - 1) ByteArray.empty) (l.getD j ByteArray.empty))
theorem Qoj (l : List ByteArray) : QcA l l.length = true := by
 unfold QcA
 rw [Nat.sub_self]
 rfl
theorem QmW {l : List ByteArray} {k : Nat} (hk : k < l.length) : QcA l k = ((QaV l[k] && (decide (k = 0) || slt (l.getD (k - 1) ByteArray.empty) l[k])) && QcA l (k + 1)) := by
 have : l.length - k = (l.length - (k + 1)) + 1 := by omega
 unfold QcA
 rw [this, List.range'_succ, List.all_cons]
 simp only [List.getD_eq_getElem?_getD, List.getElem?_eq_getElem hk, Option.getD_some]
def QdE (l : List ByteArray) : Bool := QcA l 0 && !igt (llen l) 8
def QbB (l : List ByteArray) : Bool := decide (l.length ≤ 100000) && l.all nameG
def QfR : Fg := ⟨[(0, some (.sl .str)), (5, some (.sl .str)), (6, some tI), (7, some tI)], []⟩
noncomputable def Qho : TC := (.sq (.reg (rT Tryz.f115 2)) (.sq (.cd (.t 8) .sk (.fg ⟨[(0, some (.sl .str))], []⟩ (.ex 0))) (.sq (.bk 1 (.sq (.reg (rT Tryz.f115 3)) (.sq (.reg (rT Tryz.f115 4)) (.cd (.t 27) (.sq (.reg (rT Tryz.f115 5)) (.fg ⟨[(2, some .bool)], []⟩ .rt)) .sk)))) (.reg (rT Tryz.f115 6)))))
noncomputable def QtY : TC := (.sq (.reg (rT Tryz.f115 0)) (.sq (.sq (.reg (rT Tryz.f115 1)) (.bk 0 (.lp 0 QfR Qho))) (.sq (.reg (rT Tryz.f115 7)) .rt)))
def QB9 : List (RV × Option Ty) := [((.t 2), some .bool)]
abbrev QmA : Sh := ⟨[(0, .ty (.sl .str)), (5, .ty (.sl .str)), (6, .ty tI), (7, .ty tI)], []⟩
def Qht (x0 x5 : List ByteArray) (x6 x7 : Int) : VS := QmA.st (x0, x5, x6, x7, ()) ()
abbrev Qpp : Sh := ⟨[(2, .ty .bool)], []⟩
def Qbt (x2 : Bool) : VS := Qpp.st (x2, ()) ()
abbrev QrG : Sh := ⟨[(0, .ty (.sl .str))], []⟩
def Qdx (x0 : List ByteArray) : VS := QrG.st (x0, ()) ()
def QKv : VS → Option (Bool × List (Bool × Exit × VS)) := mkL QmA (fun x y => (rngOk x.2.1 x.2.2.1 x.2.2.2.1 && samB x.1 x.2.1 && QbB x.2.1)) (fun x y => [((!QcA x.2.1 x.2.2.2.1.toNat), .ret, Qbt (false)), (true, .exit 0, Qdx (x.1))])
def QjX : G := ⟨TYs, [], 32, EL [(114, Qui)], keeps, (Ls [QKv]), IL [], RL []⟩
def Qyg (x0 x5 : List ByteArray) (x6 x7 : Int) : Option (Exit × VS) :=
 let a1 := lgt .str x5 (Int.toNat x7)
 br (ilt x7 x6) (br (cIx x5 x7) (br (nameG a1) (br (!(QaV a1)) (some (.ret, Qbt false)) (br (igt x7 0) (br (cIx x0 (isub .i64 x7 1)) (br (!slt (lgt .str x0 (Int.toNat (isub .i64 x7 1))) a1) (some (.ret, Qbt false)) (some (.normal, Qht x0 x5 x6 (iadd .i64 x7 1)))) none) (some (.normal, Qht x0 x5 x6 (iadd .i64 x7 1))))) none) none) (some (.exit 0, Qdx x0))
noncomputable def Qft (x0 x5 : List ByteArray) (x6 x7 : Int) : Option (Exit × VS) := loopF (Qai QjX QfR Qho) (Qht x0 x5 x6 x7)
noncomputable def QkL (x0 x5 : List ByteArray) (x6 x7 : Int) : Option (Exit × VS) :=
 let a1 := lgt .str x5 (Int.toNat x7)
 br (ilt x7 x6) (br (cIx x5 x7) (br (nameG a1) (br (!(QaV a1)) (some (.ret, Qbt false)) (br (igt x7 0) (br (cIx x0 (isub .i64 x7 1)) (br (!slt (lgt .str x0 (Int.toNat (isub .i64 x7 1))) a1) (some (.ret, Qbt false)) (Qft x0 x5 x6 (iadd .i64 x7 1))) none) (Qft x0 x5 x6 (iadd .i64 x7 1)))) none) none) (some (.exit 0, Qdx x0))
def Qid (x0 x5 : List ByteArray) (x6 x7 : Int) : Option (Exit × VS) := br (!QcA x5 x7.toNat) (some (.ret, Qbt (false))) <| some (.exit 0, Qdx (x0))
theorem QGt (x0 x5 : List ByteArray) (x6 x7 : Int) : Qai QjX QfR Qho (Qht x0 x5 x6 x7) = Qyg x0 x5 x6 x7 := by kernel_rfl
theorem QsA (x0 x5 : List ByteArray) (x6 x7 : Int) : Qft x0 x5 x6 x7 = QkL x0 x5 x6 x7 := (Qap _ _).trans (by
 rw [QGt]
 simp only [Qyg, QkL, QaE, nxt_n, nxt_r, nxt_e, nxt_0]
 rfl)
def QC4 (p0 : List ByteArray) : Option (V × List VO) := br (rngOk p0 (llen p0) (0 : Int) && samB p0 p0 && QbB p0) (br (!QcA p0 (0 : Int).toNat) (some (.t .bool (false), [])) (some (.t .bool (ile (llen (p0)) 8), []))) none
theorem e_f115 (p0 : List ByteArray) : runF QjX QtY QB9 false [.t (.sl .str) p0] [] = QC4 p0 := by kernel_rfl
theorem QQL : Qag Tryz.prog 115 := .inr ⟨by decide, _, Tryz.func115, by kernel_rfl, by kernel_rfl⟩
theorem QP8 : GOk Tryz.prog QjX := Qal _ (gA (gC QFD QDO gN))
theorem QwY {l : List ByteArray} {k : Nat} (h : 0 < k) (hk : k < l.length) : lgt .str l (Int.toNat (isub .i64 (k : Int) 1)) = l.getD (k - 1) ByteArray.empty ∧ cIx l (isub .i64 (k : Int) 1) = decide (k - 1 < l.length) ∨ 4611686018427387904 ≤ k := by
 rcases Nat.lt_or_ge k 4611686018427387904 with hb | hb
 ·left
  have e : isub .i64 (k : Int) 1 = ((k - 1 : Nat) : Int) := by rw [QbD (by omega)]; omega
  rw [e, Int.toNat_natCast, QaA]
  exact ⟨rfl, rfl⟩
 ·exact .inr hb
theorem QID (x0 x5 : List ByteArray) (x6 x7 : Int) (h : (rngOk x5 x6 x7 && samB x0 x5 && QbB x5) = true) : Qft x0 x5 x6 x7 = Qid x0 x5 x6 x7 := by
 simp only [Bool.and_eq_true] at h
 obtain ⟨⟨h0, hs⟩, hn⟩ := h
 have hs := QuM hs
 subst hs
 obtain ⟨rfl, h3, k, rfl, hk⟩ := rng_k h0
 clear h0
 simp only [QbB, Bool.and_eq_true, List.all_eq_true] at hn
 refine Qav x0 (fun k => Qft x0 x0 (x0.length : Int) (k : Int) = Qid x0 x0 (x0.length : Int) (k : Int)) ?_ ?_ k hk
 ·rw [QsA]
  simp only [QkL, Qid, Qaz, Nat.lt_irrefl, decide_false, Qae, Int.toNat_natCast, Qoj, Bool.not_true]
 ·intro k hk ih
  rw [QsA]
  have hx := hn.2 x0[k] (List.getElem_mem hk)
  simp only [QkL, Qaz, QaA, hk, decide_true, Qac, Int.toNat_natCast, add1 (show k < 4611686018427387904 by omega), QaF (y := .str) hk, hx, ih]
  simp only [Qid, Int.toNat_natCast, QmW hk]
  cases hg : QaV x0[k] with
  | false => rfl
  | true =>
   simp only [Bool.not_true, Qae, Bool.true_and]
   by_cases h0 : k = 0
   ·subst h0
    simp only [show igt ((0 : Nat) : Int) 0 = false from rfl, Qae, decide_true, Bool.true_or, Bool.true_and]
   ·rcases QwY (l := x0) (k := k) (by omega) hk with ⟨e1, e2⟩ | hb
    ·rw [show igt (k : Int) 0 = true from decide_eq_true (by omega), Qac, e2, decide_eq_true (show k - 1 < x0.length by omega), Qac, e1, decide_eq_false h0, Bool.false_or]
     cases slt (x0.getD (k - 1) ByteArray.empty) x0[k] <;> rfl
    ·omega
theorem QEf : ∀ S l p, QjX.L 0 (fgt QfR S) = some (true, l) → pickA l = some p → loopF (Qai QjX QfR Qho) S = some p :=
 QaG (s := QmA) ⟨by decide, by decide⟩ (by kernel_rfl) fun x y hok p hp => by
 simp only [Qas, Qao] at hp
 exact (QID x.1 x.2.1 x.2.2.1 x.2.2.2.1 (by simpa using hok)).trans hp
theorem QOV : QtY.lok QjX := by
 repeat (first | exact trivial | exact QEf | refine ⟨?_, ?_⟩)
theorem s_f115 (l : List ByteArray) (h : QbB l = true) : QC4 l = some (.t .bool (QdE l), []) := by
 have hl : l.length ≤ 100000 := by simp only [QbB, Bool.and_eq_true, decide_eq_true_eq] at h; exact h.1
 simp only [QC4, rng_0 hl, QmG, h, Bool.and_self, Qac, Int.toNat_zero, Qvw, QdE]
 cases QcA l 0 <;> rfl
def QBg : Ent := spec (.pr (.sl .str) .nil) (fun x => (QbB x.1)) (fun x => (.t .bool (QdE x.1)))
theorem QN1 : Meets Tryz.prog 115 (strip QBg) := Qaf (R := runF QjX QtY QB9 false) (mG Tryz.func115 (by kernel_rfl) Tryz.ntmps115 (by kernel_rfl) QP8 QOV) fun x hok => (e_f115 x.1).trans (s_f115 x.1 hok)
def kindU (u : Keep) (k : Int) : Bool := Qcw u && ieq (kindF u.1) k
noncomputable def QtX : TC := (.sq (.reg (rT Tryz.f116 0)) (.sq (.reg (rT Tryz.f116 1)) .rt))
def QB8 : List (RV × Option Ty) := [((.t 4), some .bool)]
def Qxr : G := ⟨TYs, [], 14, EL [(107, Quj), (108, QoY)], keeps, (fun _ _ => none), IL [], RL []⟩
def QC3 (p0 : Keep) (p1 : Int) : Option (V × List VO) := br (Qcw p0) (some (.t .bool (ieq (kindF p0.1) p1), [])) (some (.t .bool false, []))
theorem e_f116 (p0 : Keep) (p1 : Int) : runF Qxr QtX QB8 false [.t Qaj p0, .t tI p1] [] = QC3 p0 p1 := by kernel_rfl
theorem QQK : Qag Tryz.prog 116 := .inr ⟨by decide, _, Tryz.func116, by kernel_rfl, by kernel_rfl⟩
theorem QP7 : GOk Tryz.prog Qxr := Qal _ (gA (gC QFE QDP (gC QvK Qvg gN)))
theorem QOU : QtX.lok Qxr := by repeat (first | exact trivial | refine ⟨?_, ?_⟩)
theorem s_f116 (u : Keep) (k : Int) : QC3 u k = some (.t .bool (kindU u k), []) := by
 simp only [QC3]
 exact brA rfl
def QBf : Ent := spec (.pr Qaj (.pr tI .nil)) (fun x => true) (fun x => (.t .bool (kindU x.1 x.2.1)))
theorem QN0 : Meets Tryz.prog 116 (strip QBf) := Qaf (R := runF Qxr QtX QB8 false) (mG Tryz.func116 (by kernel_rfl) Tryz.ntmps116 (by kernel_rfl) QP7 QOU) fun x _ => (e_f116 x.1 x.2.1).trans (s_f116 x.1 x.2.1)
def signU (u : Keep) : Bool := kindU u 2
noncomputable def Qzs : TC := (.sq (.reg (rT Tryz.f96 0)) (.sq (.reg (rT Tryz.f96 1)) .rt))
def QLk : List (RV × Option Ty) := [((.t 2), some .bool)]
def g_f96 : G := ⟨TYs, [], 11, EL [(69, QAA), (120, Quh)], keeps, (fun _ _ => none), IL [], RL []⟩
def r_f96 (p0 : Keep) : Option (V × List VO) := br (Qcw p0) (some (.t .bool (ieq (kindF p0.1) 2), [])) (some (.t .bool false, []))
theorem e_f96 (p0 : Keep) : runF g_f96 Qzs QLk false [.t Qaj p0] [] = r_f96 p0 := by kernel_rfl
theorem en_f96 : Qag Tryz.prog 96 := .inr ⟨by decide, _, Tryz.func96, by kernel_rfl, by kernel_rfl⟩
theorem gk_f96 : GOk Tryz.prog g_f96 := Qal _ (gA (gC QMO QMv (gC QFC QDN gN)))
theorem lk_f96 : Qzs.lok g_f96 := by repeat (first | exact trivial | refine ⟨?_, ?_⟩)
theorem s_f96 (u : Keep) : r_f96 u = some (.t .bool (signU u), []) := by
 simp only [r_f96]
 exact brA rfl
def QKE : Ent := spec (.pr Qaj .nil) (fun x => true) (fun x => (.t .bool (signU x.1)))
theorem ms_f96 : Meets Tryz.prog 96 (strip QKE) := Qaf (R := runF g_f96 Qzs QLk false) (mG Tryz.func96 (by kernel_rfl) Tryz.ntmps96 (by kernel_rfl) gk_f96 lk_f96) fun x _ => (e_f96 x.1).trans (s_f96 x.1)
abbrev QaD (c : Qaa) : List ByteArray := c.2.2.2.2.2.2.2.2.2.2.1
abbrev cSeal (c : Qaa) : Keep := c.2.2.2.2.2.2.2.2.2.2.2.1
def QaB (c : Qaa) : Bool := nameG c.2.1 && (nameG c.2.2.1 && QbB (QaD c))
def QaC (c : Qaa) : Bool :=
 !ilt c.1 0 && (!igt c.1 1099511627776 && (QaV c.2.1 && (QaV c.2.2.1 && (QdE (QaD c) && (kindU c.2.2.2.1 2 && (keyI c.2.2.2.2.1 && (kindU c.2.2.2.2.2.1 1 && (keyI (cSeal c).1 && (sumI (cSeal c).2.1 &&
 (!ilt c.2.2.2.2.2.2.1 0 && (!igt c.2.2.2.2.2.2.1 c.2.2.2.2.2.2.2.1 && (!igt c.2.2.2.2.2.2.2.1 40000 && (!ilt c.2.2.2.2.2.2.2.2.2.1 0 && (!igt c.2.2.2.2.2.2.2.2.2.1 8 && (c.2.2.2.2.2.2.2.2.1 || ieq c.2.2.2.2.2.2.2.2.2.1 0)))))))))))))))
noncomputable def Qzx : TC := (.sq (.reg (rT Tryz.f91 0)) (.sq (.sq (.reg (rT Tryz.f91 1)) (.cd (.t 28) (.sq (.reg (rT Tryz.f91 2)) .rt) .sk)) (.sq (.sq (.reg (rT Tryz.f91 3)) (.cd (.t 58) (.sq (.reg (rT Tryz.f91 4)) .rt) .sk)) (.sq (.sq (.reg (rT Tryz.f91 5)) (.cd (.t 73) (.sq (.reg (rT Tryz.f91 6)) .rt) .sk)) (.sq (.reg (rT Tryz.f91 7)) .rt)))))
def QLp : List (RV × Option Ty) := [((.t 2), some .bool)]
def g_f91 : G := ⟨TYs, [], 91, EL [(82, Qv5), (114, Qui), (115, QBg), (116, QBf), (117, QBe)], keeps, (fun _ _ => none), IL [], RL []⟩
def r_f91 (p0 : Qaa) : Option (V × List VO) := br (ilt p0.1 0) (some (.t .bool false, [])) (br (igt p0.1 1099511627776) (some (.t .bool false, [])) (br (nameG p0.2.1) (br (!(QaV p0.2.1)) (some (.t .bool false, [])) (br (nameG p0.2.2.1) (br (!(QaV p0.2.2.1)) (some (.t .bool false, [])) (br (QbB p0.2.2.2.2.2.2.2.2.2.2.1) (br (!(QdE p0.2.2.2.2.2.2.2.2.2.2.1)) (some (.t .bool false, [])) (br (!(kindU p0.2.2.2.1 2)) (some (.t .bool false, [])) (br (!(keyI p0.2.2.2.2.1)) (some (.t .bool false, [])) (br (!(kindU p0.2.2.2.2.2.1 1)) (some (.t .bool false, [])) (br (!(keyI p0.2.2.2.2.2.2.2.2.2.2.2.1.1)) (some (.t .bool false, [])) (br (!(sumI p0.2.2.2.2.2.2.2.2.2.2.2.1.2.1)) (some (.t .bool false, [])) (br (ilt p0.2.2.2.2.2.2.1 0) (some (.t .bool false, [])) (br (igt p0.2.2.2.2.2.2.1 p0.2.2.2.2.2.2.2.1) (some (.t .bool false, [])) (br (igt p0.2.2.2.2.2.2.2.1 40000) (some (.t .bool false, [])) (br (ige p0.2.2.2.2.2.2.2.2.2.1 0) (br (ile p0.2.2.2.2.2.2.2.2.2.1 8) (br (p0.2.2.2.2.2.2.2.2.1) (some (.t .bool true, [])) (some (.t .bool (ieq p0.2.2.2.2.2.2.2.2.2.1 0), []))) (some (.t .bool false, []))) (some (.t .bool false, [])))))))))))) none)) none)) none))
theorem e_f91 (p0 : Qaa) : runF g_f91 Qzx QLp false [.t Qab p0] [] = r_f91 p0 := by kernel_rfl
theorem QML : Qag Tryz.prog 91 := .inr ⟨by decide, _, Tryz.func91, by kernel_rfl, by kernel_rfl⟩
theorem gk_f91 : GOk Tryz.prog g_f91 := Qal _ (gA (gC QFc QDw (gC QFD QDO (gC QQL QN1 (gC QQK QN0 (gC QQJ QNZ gN))))))
theorem lk_f91 : Qzx.lok g_f91 := by repeat (first | exact trivial | refine ⟨?_, ?_⟩)
theorem s_f91 (c : Qaa) (h : QaB c = true) : r_f91 c = some (.t .bool (QaC c), []) := by
 simp only [QaB, Bool.and_eq_true] at h
 obtain ⟨h1, h2, h3⟩ := h
 simp only [r_f91, h1, h2, h3, Qac, Qqm, Qvw]
 refine (brB <| brB <| brB <| brB <| brB <| brB <| brB <| brB <| brB <| brB <| brB <| brB <| brB <| brA <| brA (r := c.2.2.2.2.2.2.2.2.1 || ieq c.2.2.2.2.2.2.2.2.2.1 0) ?_).trans ?_
 ·cases c.2.2.2.2.2.2.2.2.1 <;> rfl
 ·simp only [Bool.not_not, QaC]
def QAw : Ent := spec (.pr Qab .nil) (fun x => (QaB x.1)) (fun x => (.t .bool (QaC x.1)))
theorem QMs : Meets Tryz.prog 91 (strip QAw) := Qaf (R := runF g_f91 Qzx QLp false) (mG Tryz.func91 (by kernel_rfl) Tryz.ntmps91 (by kernel_rfl) gk_f91 lk_f91) fun x hok => (e_f91 x.1).trans (s_f91 x.1 hok)
def Qd9 (c : Qaa) : Int := bif QaC c then 0 else 9
theorem QfV (c : Qaa) : ine (Qd9 c) 0 = !QaC c := by
 unfold Qd9
 cases QaC c <;> rfl
noncomputable def QzQ : TC := (.sq (.reg (rT Tryz.f62 0)) (.sq (.sq (.reg (rT Tryz.f62 1)) (.cd (.t 5) (.sq (.reg (rT Tryz.f62 2)) .rt) .sk)) (.sq (.reg (rT Tryz.f62 3)) .rt)))
def QLI : List (RV × Option Ty) := [((.t 2), some tI)]
def g_f62 : G := ⟨TYs, [], 6, EL [(91, QAw)], keeps, (fun _ _ => none), IL [], RL []⟩
def r_f62 (p0 : Qaa) : Option (V × List VO) := br (QaB p0) (br (!(QaC p0)) (some (.t tI 9, [])) (some (.t tI 0, []))) none
theorem e_f62 (p0 : Qaa) : runF g_f62 QzQ QLI false [.t Qab p0] [] = r_f62 p0 := by kernel_rfl
theorem QMP : Qag Tryz.prog 62 := .inr ⟨by decide, _, Tryz.func62, by kernel_rfl, by kernel_rfl⟩
theorem gk_f62 : GOk Tryz.prog g_f62 := Qal _ (gA (gC QML QMs gN))
theorem lk_f62 : QzQ.lok g_f62 := by repeat (first | exact trivial | refine ⟨?_, ?_⟩)
theorem s_f62 (c : Qaa) (h : QaB c = true) : r_f62 c = some (.t tI (Qd9 c), []) := by
 simp only [r_f62, h, Qac, Qd9]
 cases QaC c <;> rfl
def QAB : Ent := spec (.pr Qab .nil) (fun x => (QaB x.1)) (fun x => (.t tI (Qd9 x.1)))
theorem QMw : Meets Tryz.prog 62 (strip QAB) := Qaf (R := runF g_f62 QzQ QLI false) (mG Tryz.func62 (by kernel_rfl) Tryz.ntmps62 (by kernel_rfl) gk_f62 lk_f62) fun x hok => (e_f62 x.1).trans (s_f62 x.1 hok)
noncomputable def QJl : List DO := dT Tryz.f97 9
def Qim : Fg := ⟨[(1, none), (3, some tI)], [(1, some Qab)]⟩
noncomputable def Qj5 : TC := (.sq (.sq (.reg (rT Tryz.f97 8)) (.cd (.t 96) .sk (.fg ⟨[(1, none)], [(1, some Qab)]⟩ (.ex 0)))) (.sq (.bk 1 (.sq (.dr QJl [(0, [1]), (1, [1]), (2, []), (3, []), (4, []), (5, []), (6, []), (7, []), (8, []), (9, []), (10, []), (11, [1]), (12, [1]), (13, []), (14, []), (15, []), (16, []), (17, [1]), (18, [1]), (19, []), (20, []), (21, []), (22, []), (23, []), (24, [])] (.of [0, 1, 2, 3, 4, 5, 6, 7, 8, 9, 10, 11, 12, 13, 14, 15, 16, 17, 18, 19, 20, 21, 22, 23, 24])) (.cd (.t 123) (.sq (.reg (rT Tryz.f97 10)) (.fg ⟨[(2, some tI)], []⟩ .rt)) .sk))) (.reg (rT Tryz.f97 11))))
noncomputable def Qzr : TC := (.sq (.reg (rT Tryz.f97 0)) (.sq (.sq (.reg (rT Tryz.f97 1)) (.cd (.t 39) (.sq (.reg (rT Tryz.f97 2)) .rt) .sk)) (.sq (.sq (.reg (rT Tryz.f97 3)) (.cd (.t 67) (.sq (.reg (rT Tryz.f97 4)) .rt) .sk)) (.sq (.sq (.reg (rT Tryz.f97 5)) (.cd (.t 91) (.sq (.reg (rT Tryz.f97 6)) .rt) .sk)) (.sq (.sq (.reg (rT Tryz.f97 7)) (.bk 0 (.lp 0 Qim Qj5))) (.sq (.sq (.reg (rT Tryz.f97 12)) (.cd (.t 145) (.sq (.reg (rT Tryz.f97 13)) .rt) .sk)) (.sq (.reg (rT Tryz.f97 14)) .rt)))))))
def QLj : List (RV × Option Ty) := [((.t 2), some tI)]
abbrev Qo2 : Sh := ⟨[(1, .ptr 1 0), (3, .ty tI)], [(1, .box Qab)]⟩
def Qkq (x3 : Int) (y1 : Qaa) : VS := Qo2.st ((), x3, ()) (y1, ())
abbrev Qrc : Sh := ⟨[(2, .ty tI)], []⟩
def QbF (x2 : Int) : VS := Qrc.st (x2, ()) ()
abbrev Quo : Sh := ⟨[(1, .ptr 1 0)], [(1, .box Qab)]⟩
def Qef (y1 : Qaa) : VS := Quo.st ((), ()) (y1, ())
def QRc : VS → Option (Bool × List (Bool × Exit × VS)) := mkL Qo2 (fun x y => (decide (0 ≤ x.2.1 ∧ x.2.1 ≤ (QaD y.1).length) && QbB (QaD y.1))) (fun x y => [((!QcA (QaD y.1) x.2.1.toNat), .ret, QbF (9)), (true, .exit 0, Qef (y.1))])
def g_f97 : G := ⟨TYs, [], 146, EL [(69, QAA), (96, QKE), (120, Quh), (121, QBb)], keeps, (Ls [QRc]), IL [], RL []⟩
def QGx (x3 : Int) (y1 : Qaa) : Option (Exit × VS) :=
 let a1 := lgt .str y1.2.2.2.2.2.2.2.2.2.2.1 (Int.toNat x3)
 let a2 := cIx y1.2.2.2.2.2.2.2.2.2.2.1 x3
 br (ilt x3 (llen y1.2.2.2.2.2.2.2.2.2.2.1)) (br a2 (br (nameG a1) (br (!(QaV a1)) (some (.ret, QbF 9)) (br (igt x3 0) (br (cIx y1.2.2.2.2.2.2.2.2.2.2.1 (isub .i64 x3 1)) (br a2 (br (!slt (lgt .str y1.2.2.2.2.2.2.2.2.2.2.1 (Int.toNat (isub .i64 x3 1))) a1) (some (.ret, QbF 9)) (some (.normal, Qkq (iadd .i64 x3 1) y1))) none) none) (some (.normal, Qkq (iadd .i64 x3 1) y1)))) none) none) (some (.exit 0, Qef y1))
noncomputable def QhF (x3 : Int) (y1 : Qaa) : Option (Exit × VS) := loopF (Qai g_f97 Qim Qj5) (Qkq x3 y1)
noncomputable def QpU (x3 : Int) (y1 : Qaa) : Option (Exit × VS) :=
 let a1 := lgt .str y1.2.2.2.2.2.2.2.2.2.2.1 (Int.toNat x3)
 let a2 := cIx y1.2.2.2.2.2.2.2.2.2.2.1 x3
 br (ilt x3 (llen y1.2.2.2.2.2.2.2.2.2.2.1)) (br a2 (br (nameG a1) (br (!(QaV a1)) (some (.ret, QbF 9)) (br (igt x3 0) (br (cIx y1.2.2.2.2.2.2.2.2.2.2.1 (isub .i64 x3 1)) (br a2 (br (!slt (lgt .str y1.2.2.2.2.2.2.2.2.2.2.1 (Int.toNat (isub .i64 x3 1))) a1) (some (.ret, QbF 9)) (QhF (iadd .i64 x3 1) y1)) none) none) (QhF (iadd .i64 x3 1) y1))) none) none) (some (.exit 0, Qef y1))
def Qk3 (x3 : Int) (y1 : Qaa) : Option (Exit × VS) := br (!QcA (QaD y1) x3.toNat) (some (.ret, QbF (9))) <| some (.exit 0, Qef (y1))
theorem QJO (x3 : Int) (y1 : Qaa) : Qai g_f97 Qim Qj5 (Qkq x3 y1) = QGx x3 y1 := by kernel_rfl
theorem QwC (x3 : Int) (y1 : Qaa) : QhF x3 y1 = QpU x3 y1 := (Qap _ _).trans (by
 rw [QJO]
 simp only [QGx, QpU, QaE, nxt_n, nxt_r, nxt_e, nxt_0]
 rfl)
def QuX (p0 : Qaa) : Option (V × List VO) :=
 let a1 := (((((((((((((p0).2).2).2).2).2).2).2).2).2).2).2).1)
 br (igt (llen p0.2.2.2.2.2.2.2.2.2.2.1) 8) (some (.t tI 9, [])) (br (decide (0 ≤ (0 : Int) ∧ (0 : Int) ≤ (QaD p0).length) && QbB (QaD p0)) (br (!QcA (QaD p0) (0 : Int).toNat) (some (.t tI (9), [])) (br (ilt (a1.1) 0) (some (.t tI 9, [])) (br (igt (a1.1) 2147483648) (some (.t tI 9, [])) (br (ilt ((a1.2).1) 0) (some (.t tI 9, [])) (br (ige ((a1.2).1) 4294967296) (some (.t tI 9, [])) (some (.t tI 0, []))))))) none)
def r_f97 (p0 : Qaa) : Option (V × List VO) := br (ilt p0.1 0) (some (.t tI 9, [])) (br (igt p0.1 1099511627776) (some (.t tI 9, [])) (br (nameG p0.2.1) (br (!(QaV p0.2.1)) (some (.t tI 9, [])) (br (nameG p0.2.2.1) (br (!(QaV p0.2.2.1)) (some (.t tI 9, [])) (br (!(signU p0.2.2.2.1)) (some (.t tI 9, [])) (br (ilt p0.2.2.2.2.1 0) (some (.t tI 9, [])) (br (igt p0.2.2.2.2.1 2147483648) (some (.t tI 9, [])) (br (!(Qcw p0.2.2.2.2.2.1)) (some (.t tI 9, [])) (br (ine (kindF p0.2.2.2.2.2.1.1) 1) (some (.t tI 9, [])) (br (ilt p0.2.2.2.2.2.2.1 0) (some (.t tI 9, [])) (br (igt p0.2.2.2.2.2.2.1 p0.2.2.2.2.2.2.2.1) (some (.t tI 9, [])) (br (igt p0.2.2.2.2.2.2.2.1 40000) (some (.t tI 9, [])) (br (ilt p0.2.2.2.2.2.2.2.2.2.1 0) (some (.t tI 9, [])) (br (igt p0.2.2.2.2.2.2.2.2.2.1 8) (some (.t tI 9, [])) (br (!p0.2.2.2.2.2.2.2.2.1) (br (ine p0.2.2.2.2.2.2.2.2.2.1 0) (some (.t tI 9, [])) (QuX p0)) (QuX p0))))))))))))) none)) none))
theorem e_f97 (p0 : Qaa) : runF g_f97 Qzr QLj false [.t Qab p0] [] = r_f97 p0 := by kernel_rfl
theorem QMK : Qag Tryz.prog 97 := .inr ⟨by decide, _, Tryz.func97, by kernel_rfl, by kernel_rfl⟩
theorem gk_f97 : GOk Tryz.prog g_f97 := Qal _ (gA (gC QMO QMv (gC en_f96 ms_f96 (gC QFC QDN (gC QQG QNW gN)))))
theorem QO7 (x3 : Int) (y1 : Qaa) (h : (decide (0 ≤ x3 ∧ x3 ≤ (QaD y1).length) && QbB (QaD y1)) = true) : QhF x3 y1 = Qk3 x3 y1 := by
 simp only [Bool.and_eq_true, decide_eq_true_eq] at h
 obtain ⟨⟨h0, h1⟩, hn⟩ := h
 obtain ⟨k, rfl⟩ := Int.eq_ofNat_of_zero_le h0
 simp only [QbB, Bool.and_eq_true, List.all_eq_true, decide_eq_true_eq] at hn
 refine Qav (QaD y1) (fun k => QhF (k : Int) y1 = Qk3 (k : Int) y1) ?_ ?_ k (by omega)
 ·rw [QwC]
  simp only [QpU, Qk3, show ilt ((QaD y1).length : Int) (llen (QaD y1)) = false from decide_eq_false (by simp only [llen]; omega), Qae, Int.toNat_natCast, Qoj, Bool.not_true]
 ·intro k hk ih
  rw [QwC]
  have hx := hn.2 (QaD y1)[k] (List.getElem_mem hk)
  simp only [QpU, show ilt (k : Int) (llen (QaD y1)) = true from decide_eq_true (by simp only [llen]; omega), QaA, hk, decide_true, Qac, Int.toNat_natCast, add1 (show k < 4611686018427387904 by omega), QaF (y := .str) hk, hx, ih]
  simp only [Qk3, Int.toNat_natCast, QmW hk]
  cases hg : QaV (QaD y1)[k] with
  | false => rfl
  | true =>
   simp only [Bool.not_true, Qae, Bool.true_and]
   by_cases h0 : k = 0
   ·subst h0
    simp only [show igt ((0 : Nat) : Int) 0 = false from rfl, Qae, decide_true, Bool.true_or, Bool.true_and]
   ·rcases QwY (l := QaD y1) (k := k) (by omega) hk with ⟨e1, e2⟩ | hb
    ·rw [show igt (k : Int) 0 = true from decide_eq_true (by omega), Qac, e2, decide_eq_true (show k - 1 < (QaD y1).length by omega), Qac, e1, decide_eq_false h0, Bool.false_or]
     cases slt ((QaD y1).getD (k - 1) ByteArray.empty) (QaD y1)[k] <;> rfl
    ·omega
theorem QHX : ∀ S l p, g_f97.L 0 (fgt Qim S) = some (true, l) → pickA l = some p → loopF (Qai g_f97 Qim Qj5) S = some p :=
 QaG (s := Qo2) ⟨by decide, by decide⟩ (by kernel_rfl) fun x y hok p hp => by
 simp only [Qas, Qao] at hp
 exact (QO7 x.2.1 y.1 (by simpa using hok)).trans hp
theorem lk_f97 : Qzr.lok g_f97 := by
 repeat (first | exact trivial | exact QHX | refine ⟨?_, ?_⟩)
theorem s_f97 (c : Qaa) (h : QaB c = true) : r_f97 c = some (.t tI (Qd9 c), []) := by
 simp only [QaB, Bool.and_eq_true] at h
 obtain ⟨h1, h2, h3⟩ := h
 have hd : decide ((0 : Int) ≤ 0 ∧ (0 : Int) ≤ (QaD c).length) = true := decide_eq_true (by omega)
 unfold Qd9
 simp only [r_f97, QuX, h1, h2, h3, hd, Bool.and_self, Qac, Int.toNat_zero, Qjh]
 refine br9 (fun g => by simp [QaC, g]) fun g1 => br9 (fun g => by simp [QaC, g]) fun g2 => br9 (fun g => by simp only [Bool.not_eq_true'] at g; simp [QaC, g]) fun g3 => br9 (fun g => by simp only [Bool.not_eq_true'] at g; simp [QaC, g]) fun g4 => br9 (fun g => by simp only [Bool.not_eq_true', signU] at g; simp [QaC, g]) fun g5 => br9 (fun g => by simp [QaC, keyI, g]) fun g6 => br9 (fun g => by simp [QaC, keyI, g]) fun g7 => br9 (fun g => by simp only [Bool.not_eq_true'] at g; simp [QaC, kindU, g]) fun g8 => br9 (fun g => by simp only [Bool.not_eq_true'] at g; simp [QaC, kindU, g]) fun g9 => br9 (fun g => by simp [QaC, g]) fun g10 => br9 (fun g => by simp [QaC, g]) fun g11 => br9 (fun g => by simp [QaC, g]) fun g12 => br9 (fun g => by simp [QaC, g]) fun g13 => br9 (fun g => by simp [QaC, g]) fun g14 => ?_
 have tail : ∀ (hp : (c.2.2.2.2.2.2.2.2.1 || ieq c.2.2.2.2.2.2.2.2.2.1 0) = true), br (igt (llen (QaD c)) 8) (some (V.t tI 9, ([] : List VO))) (br (!QcA (QaD c) 0) (some (V.t tI 9, [])) (br (ilt (cSeal c).1 0) (some (V.t tI 9, [])) (br (igt (cSeal c).1 2147483648) (some (V.t tI 9, [])) (br (ilt (cSeal c).2.1 0) (some (V.t tI 9, [])) (br (ige (cSeal c).2.1 4294967296) (some (V.t tI 9, [])) (some (V.t tI 0, []))))))) = some (V.t tI (bif QaC c then 0 else 9), ([] : List VO)) := by
  intro hp
  refine br9 (fun g => by simp [QaC, QdE, g]) fun g15 => br9 (fun g => by simp only [Bool.not_eq_true'] at g; simp [QaC, QdE, g]) fun g16 => br9 (fun g => by simp [QaC, keyI, g]) fun g17 => br9 (fun g => by simp [QaC, keyI, g]) fun g18 => br9 (fun g => by simp [QaC, sumI, g]) fun g19 => br9 (fun g => by simp [QaC, sumI, g]) fun g20 => ?_
  simp only [Bool.not_eq_false'] at g3 g4 g5 g8 g9 g16
  simp only [signU] at g5
  have : QaC c = true := by
   simp only [QaC, QdE, kindU, keyI, sumI, g1, g2, g3, g4, g6, g7, g8, g9, g10, g11, g12, g13, g14, g15, g16, g17, g18, g19, g20, hp, Bool.not_false, Bool.and_self, Bool.true_and]
   simpa only [kindU, Bool.and_true] using g5
  rw [this]
  rfl
 cases ha : c.2.2.2.2.2.2.2.2.1 with
 | true =>
  rw [Bool.not_true, Qae]
  exact tail (by rw [ha]; rfl)
 | false =>
  rw [Bool.not_false, Qac]
  refine br9 (fun g => by simp only [Bool.not_eq_true'] at g; simp [QaC, ha, g]) fun g => ?_
  exact tail (by simp only [Bool.not_eq_false'] at g; rw [g, Bool.or_true])
def QAv : Ent := spec (.pr Qab .nil) (fun x => (QaB x.1)) (fun x => (.t tI (Qd9 x.1)))
theorem QMr : Meets Tryz.prog 97 (strip QAv) := Qaf (R := runF g_f97 Qzr QLj false) (mG Tryz.func97 (by kernel_rfl) Tryz.ntmps97 (by kernel_rfl) gk_f97 lk_f97) fun x hok => (e_f97 x.1).trans (s_f97 x.1 hok)
end
end Go.Proofs.YtkngeegkjhipeaaGreat.K
