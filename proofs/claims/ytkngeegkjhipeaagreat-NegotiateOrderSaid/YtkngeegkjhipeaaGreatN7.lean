import Derived.Test.YtkngeegkjhipeaaGreatN5
import Derived.Test.YtkngeegkjhipeaaGreatN6
set_option linter.unusedSimpArgs false
set_option linter.unusedVariables false
namespace Go.Proofs.YtkngeegkjhipeaaGreat.K
open Go.RowKit
noncomputable section
theorem QqF (a b : Int) : ige a b = !ilt a b := by
 simp only [ige, ilt]
 rw [Bool.eq_iff_iff]
 simp
theorem Qv3 (a b : Int) : ile a b = !igt a b := by
 simp only [ile, igt]
 rw [Bool.eq_iff_iff]
 simp
theorem Qv2 (a b : Int) : ine a b = !ieq a b := rfl
theorem brB {q r : Bool} {X : Option (V × List VO)} (h : X = some (.t .bool r, [])) : br q (some (.t .bool false, [])) X = some (.t .bool (!q && r), []) := by
 subst h
 cases q <;> rfl
theorem brA {q r : Bool} {X : Option (V × List VO)} (h : X = some (.t .bool r, [])) : br q X (some (.t .bool false, [])) = some (.t .bool (q && r), []) := by
 subst h
 cases q <;> rfl
theorem br9 {q v : Bool} {n : Int} {X : Option (V × List VO)} (h0 : q = true → v = false) (hX : q = false → X = some (.t tI (bif v then 0 else n), [])) : br q (some (.t tI n, [])) X = some (.t tI (bif v then 0 else n), []) := by
 cases q with
 | true => rw [Qac, h0 rfl]; rfl
 | false => rw [Qae, hX rfl]
open Classical in
def samB {α : Type} (a b : α) : Bool := decide (a = b)
theorem QmQ {α : Type} (a : α) : samB a a = true := by
 unfold samB
 simp
theorem Qvi {α : Type} {a b : α} (h : samB a b = true) : a = b := by
 unfold samB at h
 simpa using h
def keyI (n : Int) : Bool := !ilt n 0 && !igt n 2147483648
noncomputable def QAe : TC := (.sq (.reg (rT Tryz.f82 0)) (.sq (.reg (rT Tryz.f82 1)) .rt))
def QMg : List (RV × Option Ty) := [((.t 2), some .bool)]
def g_f82 : G := ⟨TYs, [], 9, EL [], keeps, (fun _ _ => none), IL [], RL []⟩
def r_f82 (p0 : Int) : Option (V × List VO) := br (ige p0 0) (some (.t .bool (ile p0 2147483648), [])) (some (.t .bool false, []))
theorem e_f82 (p0 : Int) : runF g_f82 QAe QMg false [.t tI p0] [] = r_f82 p0 := by kernel_rfl
theorem QFQ : Qag Tryz.prog 82 := .inr ⟨by decide, _, Tryz.func82, by kernel_rfl, by kernel_rfl⟩
theorem gk_f82 : GOk Tryz.prog g_f82 := Qao _ (fun p hp => by cases hp)
theorem lk_f82 : QAe.lok g_f82 := by repeat (first | exact trivial | refine ⟨?_, ?_⟩)
theorem s_f82 (n : Int) : r_f82 n = some (.t .bool (keyI n), []) := by
 simp only [r_f82, QqF, Qv3]
 exact brA rfl
def QwB : Ent := spec (.pr tI .nil) (fun x => true) (fun x => (.t .bool (keyI x.1)))
theorem QD7 : Meets Tryz.prog 82 (strip QwB) := Qaf (R := runF g_f82 QAe QMg false) (mG Tryz.func82 (by kernel_rfl) Tryz.ntmps82 (by kernel_rfl) gk_f82 lk_f82) fun x _ => (e_f82 x.1).trans (s_f82 x.1)
def sumI (n : Int) : Bool := !ilt n 0 && !ige n 4294967296
noncomputable def Quo : TC := (.sq (.reg (rT Tryz.f117 0)) (.sq (.reg (rT Tryz.f117 1)) .rt))
def QCI : List (RV × Option Ty) := [((.t 2), some .bool)]
def Qx0 : G := ⟨TYs, [], 9, EL [], keeps, (fun _ _ => none), IL [], RL []⟩
def QDD (p0 : Int) : Option (V × List VO) := br (ige p0 0) (some (.t .bool (ilt p0 4294967296), [])) (some (.t .bool false, []))
theorem e_f117 (p0 : Int) : runF Qx0 Quo QCI false [.t tI p0] [] = QDD p0 := by kernel_rfl
theorem QRA : Qag Tryz.prog 117 := .inr ⟨by decide, _, Tryz.func117, by kernel_rfl, by kernel_rfl⟩
theorem QQY : GOk Tryz.prog Qx0 := Qao _ (fun p hp => by cases hp)
theorem QPJ : Quo.lok Qx0 := by repeat (first | exact trivial | refine ⟨?_, ?_⟩)
theorem s_f117 (n : Int) : QDD n = some (.t .bool (sumI n), []) := by
 simp only [QDD, sumI, QqF, Bool.not_not]
 exact brA rfl
def QBO : Ent := spec (.pr tI .nil) (fun x => true) (fun x => (.t .bool (sumI x.1)))
theorem QOO : Meets Tryz.prog 117 (strip QBO) := Qaf (R := runF Qx0 Quo QCI false) (mG Tryz.func117 (by kernel_rfl) Tryz.ntmps117 (by kernel_rfl) QQY QPJ) fun x _ => (e_f117 x.1).trans (s_f117 x.1)
def Qcw (l : List ByteArray) (k : Nat) : Bool := (List.range' k (l.length - k)).all fun j => QaT (l.getD j ByteArray.empty) && (decide (j = 0) || slt (l.getD (j - 1) ByteArray.empty) (l.getD j ByteArray.empty))
theorem Qow (l : List ByteArray) : Qcw l l.length = true := by
 unfold Qcw
 rw [Nat.sub_self]
 rfl
theorem Qm6 {l : List ByteArray} {k : Nat} (hk : k < l.length) : Qcw l k = ((QaT l[k] && (decide (k = 0) || slt (l.getD (k - 1) ByteArray.empty) l[k])) && Qcw l (k + 1)) := by
 have : l.length - k = (l.length - (k + 1)) + 1 := by omega
 unfold Qcw
 rw [this, List.range'_succ, List.all_cons]
 simp only [List.getD_eq_getElem?_getD, List.getElem?_eq_getElem hk, Option.getD_some]
def QdB (l : List ByteArray) : Bool := Qcw l 0 && !igt (llen l) 8
def QbD (l : List ByteArray) : Bool := decide (l.length ≤ 100000) && l.all nameG
def QfP : Fg := ⟨[(0, some (.sl .str)), (5, some (.sl .str)), (6, some tI), (7, some tI)], []⟩
noncomputable def Qhp : TC := (.sq (.reg (rT Tryz.f115 2)) (.sq (.cd (.t 8) .sk (.fg ⟨[(0, some (.sl .str))], []⟩ (.ex 0))) (.sq (.bk 1 (.sq (.reg (rT Tryz.f115 3)) (.sq (.reg (rT Tryz.f115 4)) (.cd (.t 27) (.sq (.reg (rT Tryz.f115 5)) (.fg ⟨[(2, some .bool)], []⟩ .rt)) .sk)))) (.reg (rT Tryz.f115 6)))))
noncomputable def Quq : TC := (.sq (.reg (rT Tryz.f115 0)) (.sq (.sq (.reg (rT Tryz.f115 1)) (.bk 0 (.lp 0 QfP Qhp))) (.sq (.reg (rT Tryz.f115 7)) .rt)))
def QCK : List (RV × Option Ty) := [((.t 2), some .bool)]
abbrev QmJ : Sh := ⟨[(0, .ty (.sl .str)), (5, .ty (.sl .str)), (6, .ty tI), (7, .ty tI)], []⟩
def Qhu (x0 x5 : List ByteArray) (x6 x7 : Int) : VS := QmJ.st (x0, x5, x6, x7, ()) ()
abbrev QpG : Sh := ⟨[(2, .ty .bool)], []⟩
def Qbt (x2 : Bool) : VS := QpG.st (x2, ()) ()
abbrev QrY : Sh := ⟨[(0, .ty (.sl .str))], []⟩
def Qdu (x0 : List ByteArray) : VS := QrY.st (x0, ()) ()
def QLa : VS → Option (Bool × List (Bool × Exit × VS)) := mkL QmJ (fun x y => (rngOk x.2.1 x.2.2.1 x.2.2.2.1 && samB x.1 x.2.1 && QbD x.2.1)) (fun x y => [((!Qcw x.2.1 x.2.2.2.1.toNat), .ret, Qbt (false)), (true, .exit 0, Qdu (x.1))])
def Qj3 : G := ⟨TYs, [], 32, EL [(114, QuN)], keeps, (Ls [QLa]), IL [], RL []⟩
def QyO (x0 x5 : List ByteArray) (x6 x7 : Int) : Option (Exit × VS) :=
 let a1 := lgt .str x5 (Int.toNat x7)
 br (ilt x7 x6) (br (cIx x5 x7) (br (nameG a1) (br (!(QaT a1)) (some (.ret, Qbt false)) (br (igt x7 0) (br (cIx x0 (isub .i64 x7 1)) (br (!slt (lgt .str x0 (Int.toNat (isub .i64 x7 1))) a1) (some (.ret, Qbt false)) (some (.normal, Qhu x0 x5 x6 (iadd .i64 x7 1)))) none) (some (.normal, Qhu x0 x5 x6 (iadd .i64 x7 1))))) none) none) (some (.exit 0, Qdu x0))
noncomputable def Qfs (x0 x5 : List ByteArray) (x6 x7 : Int) : Option (Exit × VS) := loopF (Qaj Qj3 QfP Qhp) (Qhu x0 x5 x6 x7)
noncomputable def QkT (x0 x5 : List ByteArray) (x6 x7 : Int) : Option (Exit × VS) :=
 let a1 := lgt .str x5 (Int.toNat x7)
 br (ilt x7 x6) (br (cIx x5 x7) (br (nameG a1) (br (!(QaT a1)) (some (.ret, Qbt false)) (br (igt x7 0) (br (cIx x0 (isub .i64 x7 1)) (br (!slt (lgt .str x0 (Int.toNat (isub .i64 x7 1))) a1) (some (.ret, Qbt false)) (Qfs x0 x5 x6 (iadd .i64 x7 1))) none) (Qfs x0 x5 x6 (iadd .i64 x7 1)))) none) none) (some (.exit 0, Qdu x0))
def Qii (x0 x5 : List ByteArray) (x6 x7 : Int) : Option (Exit × VS) := br (!Qcw x5 x7.toNat) (some (.ret, Qbt (false))) <| some (.exit 0, Qdu (x0))
theorem QG5 (x0 x5 : List ByteArray) (x6 x7 : Int) : Qaj Qj3 QfP Qhp (Qhu x0 x5 x6 x7) = QyO x0 x5 x6 x7 := by kernel_rfl
theorem Qs1 (x0 x5 : List ByteArray) (x6 x7 : Int) : Qfs x0 x5 x6 x7 = QkT x0 x5 x6 x7 := (Qaq _ _).trans (by
 rw [QG5]
 simp only [QyO, QkT, QaE, nxt_n, nxt_r, nxt_e, nxt_0]
 rfl)
def QDF (p0 : List ByteArray) : Option (V × List VO) := br (rngOk p0 (llen p0) (0 : Int) && samB p0 p0 && QbD p0) (br (!Qcw p0 (0 : Int).toNat) (some (.t .bool (false), [])) (some (.t .bool (ile (llen (p0)) 8), []))) none
theorem e_f115 (p0 : List ByteArray) : runF Qj3 Quq QCK false [.t (.sl .str) p0] [] = QDF p0 := by kernel_rfl
theorem QRC : Qag Tryz.prog 115 := .inr ⟨by decide, _, Tryz.func115, by kernel_rfl, by kernel_rfl⟩
theorem QQ0 : GOk Tryz.prog Qj3 := Qao _ (gA (gC QGh QEq gN))
theorem Qxw {l : List ByteArray} {k : Nat} (h : 0 < k) (hk : k < l.length) : lgt .str l (Int.toNat (isub .i64 (k : Int) 1)) = l.getD (k - 1) ByteArray.empty ∧ cIx l (isub .i64 (k : Int) 1) = decide (k - 1 < l.length) ∨ 4611686018427387904 ≤ k := by
 rcases Nat.lt_or_ge k 4611686018427387904 with hb | hb
 ·left
  have e : isub .i64 (k : Int) 1 = ((k - 1 : Nat) : Int) := by rw [QbF (by omega)]; omega
  rw [e, Int.toNat_natCast, Qay]
  exact ⟨rfl, rfl⟩
 ·exact .inr hb
theorem QJh (x0 x5 : List ByteArray) (x6 x7 : Int) (h : (rngOk x5 x6 x7 && samB x0 x5 && QbD x5) = true) : Qfs x0 x5 x6 x7 = Qii x0 x5 x6 x7 := by
 simp only [Bool.and_eq_true] at h
 obtain ⟨⟨h0, hs⟩, hn⟩ := h
 have hs := Qvi hs
 subst hs
 obtain ⟨rfl, h3, k, rfl, hk⟩ := rng_k h0
 clear h0
 simp only [QbD, Bool.and_eq_true, List.all_eq_true] at hn
 refine Qav x0 (fun k => Qfs x0 x0 (x0.length : Int) (k : Int) = Qii x0 x0 (x0.length : Int) (k : Int)) ?_ ?_ k hk
 ·rw [Qs1]
  simp only [QkT, Qii, Qaz, Nat.lt_irrefl, decide_false, Qae, Int.toNat_natCast, Qow, Bool.not_true]
 ·intro k hk ih
  rw [Qs1]
  have hx := hn.2 x0[k] (List.getElem_mem hk)
  simp only [QkT, Qaz, Qay, hk, decide_true, Qac, Int.toNat_natCast, add1 (show k < 4611686018427387904 by omega), QaG (y := .str) hk, hx, ih]
  simp only [Qii, Int.toNat_natCast, Qm6 hk]
  cases hg : QaT x0[k] with
  | false => rfl
  | true =>
   simp only [Bool.not_true, Qae, Bool.true_and]
   by_cases h0 : k = 0
   ·subst h0
    simp only [show igt ((0 : Nat) : Int) 0 = false from rfl, Qae, decide_true, Bool.true_or, Bool.true_and]
   ·rcases Qxw (l := x0) (k := k) (by omega) hk with ⟨e1, e2⟩ | hb
    ·rw [show igt (k : Int) 0 = true from decide_eq_true (by omega), Qac, e2, decide_eq_true (show k - 1 < x0.length by omega), Qac, e1, decide_eq_false h0, Bool.false_or]
     cases slt (x0.getD (k - 1) ByteArray.empty) x0[k] <;> rfl
    ·omega
theorem QER : ∀ S l p, Qj3.L 0 (fgt QfP S) = some (true, l) → pickA l = some p → loopF (Qaj Qj3 QfP Qhp) S = some p :=
 QaF (s := QmJ) ⟨by decide, by decide⟩ (by kernel_rfl) fun x y hok p hp => by
 simp only [Qar, Qap] at hp
 exact (QJh x.1 x.2.1 x.2.2.1 x.2.2.2.1 (by simpa using hok)).trans hp
theorem QPL : Quq.lok Qj3 := by
 repeat (first | exact trivial | exact QER | refine ⟨?_, ?_⟩)
theorem s_f115 (l : List ByteArray) (h : QbD l = true) : QDF l = some (.t .bool (QdB l), []) := by
 have hl : l.length ≤ 100000 := by simp only [QbD, Bool.and_eq_true, decide_eq_true_eq] at h; exact h.1
 simp only [QDF, rng_0 hl, QmQ, h, Bool.and_self, Qac, Int.toNat_zero, Qv3, QdB]
 cases Qcw l 0 <;> rfl
def QBQ : Ent := spec (.pr (.sl .str) .nil) (fun x => (QbD x.1)) (fun x => (.t .bool (QdB x.1)))
theorem QOQ : Meets Tryz.prog 115 (strip QBQ) := Qaf (R := runF Qj3 Quq QCK false) (mG Tryz.func115 (by kernel_rfl) Tryz.ntmps115 (by kernel_rfl) QQ0 QPL) fun x hok => (e_f115 x.1).trans (s_f115 x.1 hok)
def kindU (u : Keep) (k : Int) : Bool := Qct u && ieq (kindF u.1) k
noncomputable def Qup : TC := (.sq (.reg (rT Tryz.f116 0)) (.sq (.reg (rT Tryz.f116 1)) .rt))
def QCJ : List (RV × Option Ty) := [((.t 4), some .bool)]
def Qx1 : G := ⟨TYs, [], 14, EL [(107, QuO), (108, Qpd)], keeps, (fun _ _ => none), IL [], RL []⟩
def QDE (p0 : Keep) (p1 : Int) : Option (V × List VO) := br (Qct p0) (some (.t .bool (ieq (kindF p0.1) p1), [])) (some (.t .bool false, []))
theorem e_f116 (p0 : Keep) (p1 : Int) : runF Qx1 Qup QCJ false [.t Qan p0, .t tI p1] [] = QDE p0 p1 := by kernel_rfl
theorem QRB : Qag Tryz.prog 116 := .inr ⟨by decide, _, Tryz.func116, by kernel_rfl, by kernel_rfl⟩
theorem QQZ : GOk Tryz.prog Qx1 := Qao _ (gA (gC QGi QEr (gC Qwg QvM gN)))
theorem QPK : Qup.lok Qx1 := by repeat (first | exact trivial | refine ⟨?_, ?_⟩)
theorem s_f116 (u : Keep) (k : Int) : QDE u k = some (.t .bool (kindU u k), []) := by
 simp only [QDE]
 exact brA rfl
def QBP : Ent := spec (.pr Qan (.pr tI .nil)) (fun x => true) (fun x => (.t .bool (kindU x.1 x.2.1)))
theorem QOP : Meets Tryz.prog 116 (strip QBP) := Qaf (R := runF Qx1 Qup QCJ false) (mG Tryz.func116 (by kernel_rfl) Tryz.ntmps116 (by kernel_rfl) QQZ QPK) fun x _ => (e_f116 x.1 x.2.1).trans (s_f116 x.1 x.2.1)
def signU (u : Keep) : Bool := kindU u 2
noncomputable def Qz1 : TC := (.sq (.reg (rT Tryz.f96 0)) (.sq (.reg (rT Tryz.f96 1)) .rt))
def QL3 : List (RV × Option Ty) := [((.t 2), some .bool)]
def g_f96 : G := ⟨TYs, [], 11, EL [(69, QBc), (120, QuM)], keeps, (fun _ _ => none), IL [], RL []⟩
def r_f96 (p0 : Keep) : Option (V × List VO) := br (Qct p0) (some (.t .bool (ieq (kindF p0.1) 2), [])) (some (.t .bool false, []))
theorem e_f96 (p0 : Keep) : runF g_f96 Qz1 QL3 false [.t Qan p0] [] = r_f96 p0 := by kernel_rfl
theorem en_f96 : Qag Tryz.prog 96 := .inr ⟨by decide, _, Tryz.func96, by kernel_rfl, by kernel_rfl⟩
theorem gk_f96 : GOk Tryz.prog g_f96 := Qao _ (gA (gC QNC QNj (gC QGg QEp gN)))
theorem lk_f96 : Qz1.lok g_f96 := by repeat (first | exact trivial | refine ⟨?_, ?_⟩)
theorem s_f96 (u : Keep) : r_f96 u = some (.t .bool (signU u), []) := by
 simp only [r_f96]
 exact brA rfl
def QLj : Ent := spec (.pr Qan .nil) (fun x => true) (fun x => (.t .bool (signU x.1)))
theorem ms_f96 : Meets Tryz.prog 96 (strip QLj) := Qaf (R := runF g_f96 Qz1 QL3 false) (mG Tryz.func96 (by kernel_rfl) Tryz.ntmps96 (by kernel_rfl) gk_f96 lk_f96) fun x _ => (e_f96 x.1).trans (s_f96 x.1)
abbrev QaD (c : Qaa) : List ByteArray := c.2.2.2.2.2.2.2.2.2.2.1
abbrev cSeal (c : Qaa) : Keep := c.2.2.2.2.2.2.2.2.2.2.2.1
def QaA (c : Qaa) : Bool := nameG c.2.1 && (nameG c.2.2.1 && QbD (QaD c))
def QaB (c : Qaa) : Bool :=
 !ilt c.1 0 && (!igt c.1 1099511627776 && (QaT c.2.1 && (QaT c.2.2.1 && (QdB (QaD c) && (kindU c.2.2.2.1 2 && (keyI c.2.2.2.2.1 && (kindU c.2.2.2.2.2.1 1 && (keyI (cSeal c).1 && (sumI (cSeal c).2.1 &&
 (!ilt c.2.2.2.2.2.2.1 0 && (!igt c.2.2.2.2.2.2.1 c.2.2.2.2.2.2.2.1 && (!igt c.2.2.2.2.2.2.2.1 40000 && (!ilt c.2.2.2.2.2.2.2.2.2.1 0 && (!igt c.2.2.2.2.2.2.2.2.2.1 8 && (c.2.2.2.2.2.2.2.2.1 || ieq c.2.2.2.2.2.2.2.2.2.1 0)))))))))))))))
noncomputable def Qz6 : TC := (.sq (.reg (rT Tryz.f91 0)) (.sq (.sq (.reg (rT Tryz.f91 1)) (.cd (.t 28) (.sq (.reg (rT Tryz.f91 2)) .rt) .sk)) (.sq (.sq (.reg (rT Tryz.f91 3)) (.cd (.t 58) (.sq (.reg (rT Tryz.f91 4)) .rt) .sk)) (.sq (.sq (.reg (rT Tryz.f91 5)) (.cd (.t 73) (.sq (.reg (rT Tryz.f91 6)) .rt) .sk)) (.sq (.reg (rT Tryz.f91 7)) .rt)))))
def QL8 : List (RV × Option Ty) := [((.t 2), some .bool)]
def g_f91 : G := ⟨TYs, [], 91, EL [(82, QwB), (114, QuN), (115, QBQ), (116, QBP), (117, QBO)], keeps, (fun _ _ => none), IL [], RL []⟩
def r_f91 (p0 : Qaa) : Option (V × List VO) := br (ilt p0.1 0) (some (.t .bool false, [])) (br (igt p0.1 1099511627776) (some (.t .bool false, [])) (br (nameG p0.2.1) (br (!(QaT p0.2.1)) (some (.t .bool false, [])) (br (nameG p0.2.2.1) (br (!(QaT p0.2.2.1)) (some (.t .bool false, [])) (br (QbD p0.2.2.2.2.2.2.2.2.2.2.1) (br (!(QdB p0.2.2.2.2.2.2.2.2.2.2.1)) (some (.t .bool false, [])) (br (!(kindU p0.2.2.2.1 2)) (some (.t .bool false, [])) (br (!(keyI p0.2.2.2.2.1)) (some (.t .bool false, [])) (br (!(kindU p0.2.2.2.2.2.1 1)) (some (.t .bool false, [])) (br (!(keyI p0.2.2.2.2.2.2.2.2.2.2.2.1.1)) (some (.t .bool false, [])) (br (!(sumI p0.2.2.2.2.2.2.2.2.2.2.2.1.2.1)) (some (.t .bool false, [])) (br (ilt p0.2.2.2.2.2.2.1 0) (some (.t .bool false, [])) (br (igt p0.2.2.2.2.2.2.1 p0.2.2.2.2.2.2.2.1) (some (.t .bool false, [])) (br (igt p0.2.2.2.2.2.2.2.1 40000) (some (.t .bool false, [])) (br (ige p0.2.2.2.2.2.2.2.2.2.1 0) (br (ile p0.2.2.2.2.2.2.2.2.2.1 8) (br (p0.2.2.2.2.2.2.2.2.1) (some (.t .bool true, [])) (some (.t .bool (ieq p0.2.2.2.2.2.2.2.2.2.1 0), []))) (some (.t .bool false, []))) (some (.t .bool false, [])))))))))))) none)) none)) none))
theorem e_f91 (p0 : Qaa) : runF g_f91 Qz6 QL8 false [.t Qab p0] [] = r_f91 p0 := by kernel_rfl
theorem QNy : Qag Tryz.prog 91 := .inr ⟨by decide, _, Tryz.func91, by kernel_rfl, by kernel_rfl⟩
theorem gk_f91 : GOk Tryz.prog g_f91 := Qao _ (gA (gC QFQ QD7 (gC QGh QEq (gC QRC QOQ (gC QRB QOP (gC QRA QOO gN))))))
theorem lk_f91 : Qz6.lok g_f91 := by repeat (first | exact trivial | refine ⟨?_, ?_⟩)
theorem s_f91 (c : Qaa) (h : QaA c = true) : r_f91 c = some (.t .bool (QaB c), []) := by
 simp only [QaA, Bool.and_eq_true] at h
 obtain ⟨h1, h2, h3⟩ := h
 simp only [r_f91, h1, h2, h3, Qac, QqF, Qv3]
 refine (brB <| brB <| brB <| brB <| brB <| brB <| brB <| brB <| brB <| brB <| brB <| brB <| brB <| brA <| brA (r := c.2.2.2.2.2.2.2.2.1 || ieq c.2.2.2.2.2.2.2.2.2.1 0) ?_).trans ?_
 ·cases c.2.2.2.2.2.2.2.2.1 <;> rfl
 ·simp only [Bool.not_not, QaB]
def QA8 : Ent := spec (.pr Qab .nil) (fun x => (QaA x.1)) (fun x => (.t .bool (QaB x.1)))
theorem QNf : Meets Tryz.prog 91 (strip QA8) := Qaf (R := runF g_f91 Qz6 QL8 false) (mG Tryz.func91 (by kernel_rfl) Tryz.ntmps91 (by kernel_rfl) gk_f91 lk_f91) fun x hok => (e_f91 x.1).trans (s_f91 x.1 hok)
def Qd6 (c : Qaa) : Int := bif QaB c then 0 else 9
theorem QfT (c : Qaa) : ine (Qd6 c) 0 = !QaB c := by
 unfold Qd6
 cases QaB c <;> rfl
noncomputable def QAp : TC := (.sq (.reg (rT Tryz.f62 0)) (.sq (.sq (.reg (rT Tryz.f62 1)) (.cd (.t 5) (.sq (.reg (rT Tryz.f62 2)) .rt) .sk)) (.sq (.reg (rT Tryz.f62 3)) .rt)))
def QMr : List (RV × Option Ty) := [((.t 2), some tI)]
def g_f62 : G := ⟨TYs, [], 6, EL [(91, QA8)], keeps, (fun _ _ => none), IL [], RL []⟩
def r_f62 (p0 : Qaa) : Option (V × List VO) := br (QaA p0) (br (!(QaB p0)) (some (.t tI 9, [])) (some (.t tI 0, []))) none
theorem e_f62 (p0 : Qaa) : runF g_f62 QAp QMr false [.t Qab p0] [] = r_f62 p0 := by kernel_rfl
theorem QND : Qag Tryz.prog 62 := .inr ⟨by decide, _, Tryz.func62, by kernel_rfl, by kernel_rfl⟩
theorem gk_f62 : GOk Tryz.prog g_f62 := Qao _ (gA (gC QNy QNf gN))
theorem lk_f62 : QAp.lok g_f62 := by repeat (first | exact trivial | refine ⟨?_, ?_⟩)
theorem s_f62 (c : Qaa) (h : QaA c = true) : r_f62 c = some (.t tI (Qd6 c), []) := by
 simp only [r_f62, h, Qac, Qd6]
 cases QaB c <;> rfl
def QBd : Ent := spec (.pr Qab .nil) (fun x => (QaA x.1)) (fun x => (.t tI (Qd6 x.1)))
theorem QNk : Meets Tryz.prog 62 (strip QBd) := Qaf (R := runF g_f62 QAp QMr false) (mG Tryz.func62 (by kernel_rfl) Tryz.ntmps62 (by kernel_rfl) gk_f62 lk_f62) fun x hok => (e_f62 x.1).trans (s_f62 x.1 hok)
noncomputable def QJY : List DO := dT Tryz.f97 9
def Qis : Fg := ⟨[(1, none), (3, some tI)], [(1, some Qab)]⟩
noncomputable def Qkb : TC := (.sq (.sq (.reg (rT Tryz.f97 8)) (.cd (.t 96) .sk (.fg ⟨[(1, none)], [(1, some Qab)]⟩ (.ex 0)))) (.sq (.bk 1 (.sq (.dr QJY [(0, [1]), (1, [1]), (2, []), (3, []), (4, []), (5, []), (6, []), (7, []), (8, []), (9, []), (10, []), (11, [1]), (12, [1]), (13, []), (14, []), (15, []), (16, []), (17, [1]), (18, [1]), (19, []), (20, []), (21, []), (22, []), (23, []), (24, [])] (.of [0, 1, 2, 3, 4, 5, 6, 7, 8, 9, 10, 11, 12, 13, 14, 15, 16, 17, 18, 19, 20, 21, 22, 23, 24])) (.cd (.t 123) (.sq (.reg (rT Tryz.f97 10)) (.fg ⟨[(2, some tI)], []⟩ .rt)) .sk))) (.reg (rT Tryz.f97 11))))
noncomputable def Qz0 : TC := (.sq (.reg (rT Tryz.f97 0)) (.sq (.sq (.reg (rT Tryz.f97 1)) (.cd (.t 39) (.sq (.reg (rT Tryz.f97 2)) .rt) .sk)) (.sq (.sq (.reg (rT Tryz.f97 3)) (.cd (.t 67) (.sq (.reg (rT Tryz.f97 4)) .rt) .sk)) (.sq (.sq (.reg (rT Tryz.f97 5)) (.cd (.t 91) (.sq (.reg (rT Tryz.f97 6)) .rt) .sk)) (.sq (.sq (.reg (rT Tryz.f97 7)) (.bk 0 (.lp 0 Qis Qkb))) (.sq (.sq (.reg (rT Tryz.f97 12)) (.cd (.t 145) (.sq (.reg (rT Tryz.f97 13)) .rt) .sk)) (.sq (.reg (rT Tryz.f97 14)) .rt)))))))
def QL2 : List (RV × Option Ty) := [((.t 2), some tI)]
abbrev Qph : Sh := ⟨[(1, .ptr 1 0), (3, .ty tI)], [(1, .box Qab)]⟩
def Qky (x3 : Int) (y1 : Qaa) : VS := Qph.st ((), x3, ()) (y1, ())
abbrev Qru : Sh := ⟨[(2, .ty tI)], []⟩
def QbH (x2 : Int) : VS := Qru.st (x2, ()) ()
abbrev QuT : Sh := ⟨[(1, .ptr 1 0)], [(1, .box Qab)]⟩
def Qec (y1 : Qaa) : VS := QuT.st ((), ()) (y1, ())
def QR5 : VS → Option (Bool × List (Bool × Exit × VS)) := mkL Qph (fun x y => (decide (0 ≤ x.2.1 ∧ x.2.1 ≤ (QaD y.1).length) && QbD (QaD y.1))) (fun x y => [((!Qcw (QaD y.1) x.2.1.toNat), .ret, QbH (9)), (true, .exit 0, Qec (y.1))])
def g_f97 : G := ⟨TYs, [], 146, EL [(69, QBc), (96, QLj), (120, QuM), (121, QBL)], keeps, (Ls [QR5]), IL [], RL []⟩
def QG9 (x3 : Int) (y1 : Qaa) : Option (Exit × VS) :=
 let a1 := lgt .str y1.2.2.2.2.2.2.2.2.2.2.1 (Int.toNat x3)
 let a2 := cIx y1.2.2.2.2.2.2.2.2.2.2.1 x3
 br (ilt x3 (llen y1.2.2.2.2.2.2.2.2.2.2.1)) (br a2 (br (nameG a1) (br (!(QaT a1)) (some (.ret, QbH 9)) (br (igt x3 0) (br (cIx y1.2.2.2.2.2.2.2.2.2.2.1 (isub .i64 x3 1)) (br a2 (br (!slt (lgt .str y1.2.2.2.2.2.2.2.2.2.2.1 (Int.toNat (isub .i64 x3 1))) a1) (some (.ret, QbH 9)) (some (.normal, Qky (iadd .i64 x3 1) y1))) none) none) (some (.normal, Qky (iadd .i64 x3 1) y1)))) none) none) (some (.exit 0, Qec y1))
noncomputable def QhI (x3 : Int) (y1 : Qaa) : Option (Exit × VS) := loopF (Qaj g_f97 Qis Qkb) (Qky x3 y1)
noncomputable def Qqc (x3 : Int) (y1 : Qaa) : Option (Exit × VS) :=
 let a1 := lgt .str y1.2.2.2.2.2.2.2.2.2.2.1 (Int.toNat x3)
 let a2 := cIx y1.2.2.2.2.2.2.2.2.2.2.1 x3
 br (ilt x3 (llen y1.2.2.2.2.2.2.2.2.2.2.1)) (br a2 (br (nameG a1) (br (!(QaT a1)) (some (.ret, QbH 9)) (br (igt x3 0) (br (cIx y1.2.2.2.2.2.2.2.2.2.2.1 (isub .i64 x3 1)) (br a2 (br (!slt (lgt .str y1.2.2.2.2.2.2.2.2.2.2.1 (Int.toNat (isub .i64 x3 1))) a1) (some (.ret, QbH 9)) (QhI (iadd .i64 x3 1) y1)) none) none) (QhI (iadd .i64 x3 1) y1))) none) none) (some (.exit 0, Qec y1))
def Qlb (x3 : Int) (y1 : Qaa) : Option (Exit × VS) := br (!Qcw (QaD y1) x3.toNat) (some (.ret, QbH (9))) <| some (.exit 0, Qec (y1))
theorem QKs (x3 : Int) (y1 : Qaa) : Qaj g_f97 Qis Qkb (Qky x3 y1) = QG9 x3 y1 := by kernel_rfl
theorem Qw9 (x3 : Int) (y1 : Qaa) : QhI x3 y1 = Qqc x3 y1 := (Qaq _ _).trans (by
 rw [QKs]
 simp only [QG9, Qqc, QaE, nxt_n, nxt_r, nxt_e, nxt_0]
 rfl)
def Qvt (p0 : Qaa) : Option (V × List VO) :=
 let a1 := (((((((((((((p0).2).2).2).2).2).2).2).2).2).2).2).1)
 br (igt (llen p0.2.2.2.2.2.2.2.2.2.2.1) 8) (some (.t tI 9, [])) (br (decide (0 ≤ (0 : Int) ∧ (0 : Int) ≤ (QaD p0).length) && QbD (QaD p0)) (br (!Qcw (QaD p0) (0 : Int).toNat) (some (.t tI (9), [])) (br (ilt (a1.1) 0) (some (.t tI 9, [])) (br (igt (a1.1) 2147483648) (some (.t tI 9, [])) (br (ilt ((a1.2).1) 0) (some (.t tI 9, [])) (br (ige ((a1.2).1) 4294967296) (some (.t tI 9, [])) (some (.t tI 0, []))))))) none)
def r_f97 (p0 : Qaa) : Option (V × List VO) := br (ilt p0.1 0) (some (.t tI 9, [])) (br (igt p0.1 1099511627776) (some (.t tI 9, [])) (br (nameG p0.2.1) (br (!(QaT p0.2.1)) (some (.t tI 9, [])) (br (nameG p0.2.2.1) (br (!(QaT p0.2.2.1)) (some (.t tI 9, [])) (br (!(signU p0.2.2.2.1)) (some (.t tI 9, [])) (br (ilt p0.2.2.2.2.1 0) (some (.t tI 9, [])) (br (igt p0.2.2.2.2.1 2147483648) (some (.t tI 9, [])) (br (!(Qct p0.2.2.2.2.2.1)) (some (.t tI 9, [])) (br (ine (kindF p0.2.2.2.2.2.1.1) 1) (some (.t tI 9, [])) (br (ilt p0.2.2.2.2.2.2.1 0) (some (.t tI 9, [])) (br (igt p0.2.2.2.2.2.2.1 p0.2.2.2.2.2.2.2.1) (some (.t tI 9, [])) (br (igt p0.2.2.2.2.2.2.2.1 40000) (some (.t tI 9, [])) (br (ilt p0.2.2.2.2.2.2.2.2.2.1 0) (some (.t tI 9, [])) (br (igt p0.2.2.2.2.2.2.2.2.2.1 8) (some (.t tI 9, [])) (br (!p0.2.2.2.2.2.2.2.2.1) (br (ine p0.2.2.2.2.2.2.2.2.2.1 0) (some (.t tI 9, [])) (Qvt p0)) (Qvt p0))))))))))))) none)) none))
theorem e_f97 (p0 : Qaa) : runF g_f97 Qz0 QL2 false [.t Qab p0] [] = r_f97 p0 := by kernel_rfl
theorem QNx : Qag Tryz.prog 97 := .inr ⟨by decide, _, Tryz.func97, by kernel_rfl, by kernel_rfl⟩
theorem gk_f97 : GOk Tryz.prog g_f97 := Qao _ (gA (gC QNC QNj (gC en_f96 ms_f96 (gC QGg QEp (gC QRx QOL gN)))))
theorem QPX (x3 : Int) (y1 : Qaa) (h : (decide (0 ≤ x3 ∧ x3 ≤ (QaD y1).length) && QbD (QaD y1)) = true) : QhI x3 y1 = Qlb x3 y1 := by
 simp only [Bool.and_eq_true, decide_eq_true_eq] at h
 obtain ⟨⟨h0, h1⟩, hn⟩ := h
 obtain ⟨k, rfl⟩ := Int.eq_ofNat_of_zero_le h0
 simp only [QbD, Bool.and_eq_true, List.all_eq_true, decide_eq_true_eq] at hn
 refine Qav (QaD y1) (fun k => QhI (k : Int) y1 = Qlb (k : Int) y1) ?_ ?_ k (by omega)
 ·rw [Qw9]
  simp only [Qqc, Qlb, show ilt ((QaD y1).length : Int) (llen (QaD y1)) = false from decide_eq_false (by simp only [llen]; omega), Qae, Int.toNat_natCast, Qow, Bool.not_true]
 ·intro k hk ih
  rw [Qw9]
  have hx := hn.2 (QaD y1)[k] (List.getElem_mem hk)
  simp only [Qqc, show ilt (k : Int) (llen (QaD y1)) = true from decide_eq_true (by simp only [llen]; omega), Qay, hk, decide_true, Qac, Int.toNat_natCast, add1 (show k < 4611686018427387904 by omega), QaG (y := .str) hk, hx, ih]
  simp only [Qlb, Int.toNat_natCast, Qm6 hk]
  cases hg : QaT (QaD y1)[k] with
  | false => rfl
  | true =>
   simp only [Bool.not_true, Qae, Bool.true_and]
   by_cases h0 : k = 0
   ·subst h0
    simp only [show igt ((0 : Nat) : Int) 0 = false from rfl, Qae, decide_true, Bool.true_or, Bool.true_and]
   ·rcases Qxw (l := QaD y1) (k := k) (by omega) hk with ⟨e1, e2⟩ | hb
    ·rw [show igt (k : Int) 0 = true from decide_eq_true (by omega), Qac, e2, decide_eq_true (show k - 1 < (QaD y1).length by omega), Qac, e1, decide_eq_false h0, Bool.false_or]
     cases slt ((QaD y1).getD (k - 1) ByteArray.empty) (QaD y1)[k] <;> rfl
    ·omega
theorem QIz : ∀ S l p, g_f97.L 0 (fgt Qis S) = some (true, l) → pickA l = some p → loopF (Qaj g_f97 Qis Qkb) S = some p :=
 QaF (s := Qph) ⟨by decide, by decide⟩ (by kernel_rfl) fun x y hok p hp => by
 simp only [Qar, Qap] at hp
 exact (QPX x.2.1 y.1 (by simpa using hok)).trans hp
theorem lk_f97 : Qz0.lok g_f97 := by
 repeat (first | exact trivial | exact QIz | refine ⟨?_, ?_⟩)
theorem s_f97 (c : Qaa) (h : QaA c = true) : r_f97 c = some (.t tI (Qd6 c), []) := by
 simp only [QaA, Bool.and_eq_true] at h
 obtain ⟨h1, h2, h3⟩ := h
 have hd : decide ((0 : Int) ≤ 0 ∧ (0 : Int) ≤ (QaD c).length) = true := decide_eq_true (by omega)
 unfold Qd6
 simp only [r_f97, Qvt, h1, h2, h3, hd, Bool.and_self, Qac, Int.toNat_zero, Qv2]
 refine br9 (fun g => by simp [QaB, g]) fun g1 => br9 (fun g => by simp [QaB, g]) fun g2 => br9 (fun g => by simp only [Bool.not_eq_true'] at g; simp [QaB, g]) fun g3 => br9 (fun g => by simp only [Bool.not_eq_true'] at g; simp [QaB, g]) fun g4 => br9 (fun g => by simp only [Bool.not_eq_true', signU] at g; simp [QaB, g]) fun g5 => br9 (fun g => by simp [QaB, keyI, g]) fun g6 => br9 (fun g => by simp [QaB, keyI, g]) fun g7 => br9 (fun g => by simp only [Bool.not_eq_true'] at g; simp [QaB, kindU, g]) fun g8 => br9 (fun g => by simp only [Bool.not_eq_true'] at g; simp [QaB, kindU, g]) fun g9 => br9 (fun g => by simp [QaB, g]) fun g10 => br9 (fun g => by simp [QaB, g]) fun g11 => br9 (fun g => by simp [QaB, g]) fun g12 => br9 (fun g => by simp [QaB, g]) fun g13 => br9 (fun g => by simp [QaB, g]) fun g14 => ?_
 have tail : ∀ (hp : (c.2.2.2.2.2.2.2.2.1 || ieq c.2.2.2.2.2.2.2.2.2.1 0) = true), br (igt (llen (QaD c)) 8) (some (V.t tI 9, ([] : List VO))) (br (!Qcw (QaD c) 0) (some (V.t tI 9, [])) (br (ilt (cSeal c).1 0) (some (V.t tI 9, [])) (br (igt (cSeal c).1 2147483648) (some (V.t tI 9, [])) (br (ilt (cSeal c).2.1 0) (some (V.t tI 9, [])) (br (ige (cSeal c).2.1 4294967296) (some (V.t tI 9, [])) (some (V.t tI 0, []))))))) = some (V.t tI (bif QaB c then 0 else 9), ([] : List VO)) := by
  intro hp
  refine br9 (fun g => by simp [QaB, QdB, g]) fun g15 => br9 (fun g => by simp only [Bool.not_eq_true'] at g; simp [QaB, QdB, g]) fun g16 => br9 (fun g => by simp [QaB, keyI, g]) fun g17 => br9 (fun g => by simp [QaB, keyI, g]) fun g18 => br9 (fun g => by simp [QaB, sumI, g]) fun g19 => br9 (fun g => by simp [QaB, sumI, g]) fun g20 => ?_
  simp only [Bool.not_eq_false'] at g3 g4 g5 g8 g9 g16
  simp only [signU] at g5
  have : QaB c = true := by
   simp only [QaB, QdB, kindU, keyI, sumI, g1, g2, g3, g4, g6, g7, g8, g9, g10, g11, g12, g13, g14, g15, g16, g17, g18, g19, g20, hp, Bool.not_false, Bool.and_self, Bool.true_and]
   simpa only [kindU, Bool.and_true] using g5
  rw [this]
  rfl
 cases ha : c.2.2.2.2.2.2.2.2.1 with
 | true =>
  rw [Bool.not_true, Qae]
  exact tail (by rw [ha]; rfl)
 | false =>
  rw [Bool.not_false, Qac]
  refine br9 (fun g => by simp only [Bool.not_eq_true'] at g; simp [QaB, ha, g]) fun g => ?_
  exact tail (by simp only [Bool.not_eq_false'] at g; rw [g, Bool.or_true])
def QA7 : Ent := spec (.pr Qab .nil) (fun x => (QaA x.1)) (fun x => (.t tI (Qd6 x.1)))
theorem QNe : Meets Tryz.prog 97 (strip QA7) := Qaf (R := runF g_f97 Qz0 QL2 false) (mG Tryz.func97 (by kernel_rfl) Tryz.ntmps97 (by kernel_rfl) gk_f97 lk_f97) fun x hok => (e_f97 x.1).trans (s_f97 x.1 hok)
end
end Go.Proofs.YtkngeegkjhipeaaGreat.K
