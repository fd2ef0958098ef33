import Derived.Test.YtkngeegkjhipeaaGreatN5
import Derived.Test.YtkngeegkjhipeaaGreatN6
set_option linter.unusedSimpArgs false
set_option linter.unusedVariables false
namespace Go.Proofs.YtkngeegkjhipeaaGreat.K
open Go.RowKit
noncomputable section
theorem Qqn (a b : Int) : ige a b = !ilt a b := by
 simp only [ige, ilt]
 rw [Bool.eq_iff_iff]
 simp
theorem Qvy (a b : Int) : ile a b = !igt a b := by
 simp only [ile, igt]
 rw [Bool.eq_iff_iff]
 simp
theorem Qqm (a b : Int) : ine a b = !ieq a b := rfl
theorem brB {q r : Bool} {X : Option (V × List VO)} (h : X = some (.t .bool r, [])) : br q (some (.t .bool false, [])) X = some (.t .bool (!q && r), []) := by
 subst h
 cases q <;> rfl
theorem brA {q r : Bool} {X : Option (V × List VO)} (h : X = some (.t .bool r, [])) : br q X (some (.t .bool false, [])) = some (.t .bool (q && r), []) := by
 subst h
 cases q <;> rfl
theorem br9 {q v : Bool} {n : Int} {X : Option (V × List VO)} (h0 : q = true → v = false) (hX : q = false → X = some (.t tI (bif v then 0 else n), [])) : br q (some (.t tI n, [])) X = some (.t tI (bif v then 0 else n), []) := by
 cases q with
 | true => rw [Qac, h0 rfl]; rfl
 | false => rw [Qae, hX rfl]
open Classical in
def samB {α : Type} (a b : α) : Bool := decide (a = b)
theorem QmG {α : Type} (a : α) : samB a a = true := by
 unfold samB
 simp
theorem QuO {α : Type} {a b : α} (h : samB a b = true) : a = b := by
 unfold samB at h
 simpa using h
def keyI (n : Int) : Bool := !ilt n 0 && !igt n 2147483648
noncomputable def QzB : TC := (.sq (.reg (rT Tryz.f82 0)) (.sq (.reg (rT Tryz.f82 1)) .rt))
def QLA : List (RV × Option Ty) := [((.t 2), some .bool)]
def g_f82 : G := ⟨TYs, [], 9, EL [], keeps, (fun _ _ => none), IL [], RL []⟩
def r_f82 (p0 : Int) : Option (V × List VO) := br (ige p0 0) (some (.t .bool (ile p0 2147483648), [])) (some (.t .bool false, []))
theorem e_f82 (p0 : Int) : runF g_f82 QzB QLA false [.t tI p0] [] = r_f82 p0 := by kernel_rfl
theorem QE9 : Qag Tryz.prog 82 := .inr ⟨by decide, _, Tryz.func82, by kernel_rfl, by kernel_rfl⟩
theorem gk_f82 : GOk Tryz.prog g_f82 := Qan _ (fun p hp => by cases hp)
theorem lk_f82 : QzB.lok g_f82 := by repeat (first | exact trivial | refine ⟨?_, ?_⟩)
theorem s_f82 (n : Int) : r_f82 n = some (.t .bool (keyI n), []) := by
 simp only [r_f82, Qqn, Qvy]
 exact brA rfl
def Qv5 : Ent := spec (.pr tI .nil) (fun x => true) (fun x => (.t .bool (keyI x.1)))
theorem QDs : Meets Tryz.prog 82 (strip Qv5) := Qaf (R := runF g_f82 QzB QLA false) (mG Tryz.func82 (by kernel_rfl) Tryz.ntmps82 (by kernel_rfl) gk_f82 lk_f82) fun x _ => (e_f82 x.1).trans (s_f82 x.1)
def sumI (n : Int) : Bool := !ilt n 0 && !ige n 4294967296
noncomputable def QtX : TC := (.sq (.reg (rT Tryz.f117 0)) (.sq (.reg (rT Tryz.f117 1)) .rt))
def QB1 : List (RV × Option Ty) := [((.t 2), some .bool)]
def Qxm : G := ⟨TYs, [], 9, EL [], keeps, (fun _ _ => none), IL [], RL []⟩
def QCW (p0 : Int) : Option (V × List VO) := br (ige p0 0) (some (.t .bool (ilt p0 4294967296), [])) (some (.t .bool false, []))
theorem e_f117 (p0 : Int) : runF Qxm QtX QB1 false [.t tI p0] [] = QCW p0 := by kernel_rfl
theorem QQN : Qag Tryz.prog 117 := .inr ⟨by decide, _, Tryz.func117, by kernel_rfl, by kernel_rfl⟩
theorem QQa : GOk Tryz.prog Qxm := Qan _ (fun p hp => by cases hp)
theorem QOV : QtX.lok Qxm := by repeat (first | exact trivial | refine ⟨?_, ?_⟩)
theorem s_f117 (n : Int) : QCW n = some (.t .bool (sumI n), []) := by
 simp only [QCW, sumI, Qqn, Bool.not_not]
 exact brA rfl
def QA8 : Ent := spec (.pr tI .nil) (fun x => true) (fun x => (.t .bool (sumI x.1)))
theorem QN1 : Meets Tryz.prog 117 (strip QA8) := Qaf (R := runF Qxm QtX QB1 false) (mG Tryz.func117 (by kernel_rfl) Tryz.ntmps117 (by kernel_rfl) QQa QOV) fun x _ => (e_f117 x.1).trans (s_f117 x.1)
def Qcz (l : List ByteArray) (k : Nat) : Bool := (List.range' k (l.length - k)).all fun j => QaV (l.getD j ByteArray.empty) && (decide (j = 0) || slt (l.getD (j - 1) ByteArray.empty) (l.getD j ByteArray.empty))
theorem Qoh (l : List ByteArray) : Qcz l l.length = true := by
 unfold Qcz
 rw [Nat.sub_self]
 rfl
theorem QmW {l : List ByteArray} {k : Nat} (hk : k < l.length) : Qcz l k = ((QaV l[k] && (decide (k = 0) || slt (l.getD (k - 1) ByteArray.empty) l[k])) && Qcz l (k + 1)) := by
 have : l.length - k = (l.length - (k + 1)) + 1 := by omega
 unfold Qcz
 rw [this, List.range'_succ, List.all_cons]
 simp only [List.getD_eq_getElem?_getD, List.getElem?_eq_getElem hk, Option.getD_some]
def QdB (l : List ByteArray) : Bool := Qcz l 0 && !igt (llen l) 8
def QbC (l : List ByteArray) : Bool := decide (l.length ≤ 100000) && l.all nameG
def QfQ : Fg := ⟨[(0, some (.sl .str)), (5, some (.sl .str)), (6, some tI), (7, some tI)], []⟩
noncomputable def Qho : TC := (.sq (.reg (rT Tryz.f115 2)) (.sq (.cd (.t 8) .sk (.fg ⟨[(0, some (.sl .str))], []⟩ (.ex 0))) (.sq (.bk 1 (.sq (.reg (rT Tryz.f115 3)) (.sq (.reg (rT Tryz.f115 4)) (.cd (.t 27) (.sq (.reg (rT Tryz.f115 5)) (.fg ⟨[(2, some .bool)], []⟩ .rt)) .sk)))) (.reg (rT Tryz.f115 6)))))
noncomputable def QtZ : TC := (.sq (.reg (rT Tryz.f115 0)) (.sq (.sq (.reg (rT Tryz.f115 1)) (.bk 0 (.lp 0 QfQ Qho))) (.sq (.reg (rT Tryz.f115 7)) .rt)))
def QB3 : List (RV × Option Ty) := [((.t 2), some .bool)]
abbrev QmA : Sh := ⟨[(0, .ty (.sl .str)), (5, .ty (.sl .str)), (6, .ty tI), (7, .ty tI)], []⟩
def Qht (x0 x5 : List ByteArray) (x6 x7 : Int) : VS := QmA.st (x0, x5, x6, x7, ()) ()
abbrev Qpn : Sh := ⟨[(2, .ty .bool)], []⟩
def Qbr (x2 : Bool) : VS := Qpn.st (x2, ()) ()
abbrev QrG : Sh := ⟨[(0, .ty (.sl .str))], []⟩
def Qdu (x0 : List ByteArray) : VS := QrG.st (x0, ()) ()
def QKu : VS → Option (Bool × List (Bool × Exit × VS)) := mkL QmA (fun x y => (rngOk x.2.1 x.2.2.1 x.2.2.2.1 && samB x.1 x.2.1 && QbC x.2.1)) (fun x y => [((!Qcz x.2.1 x.2.2.2.1.toNat), .ret, Qbr (false)), (true, .exit 0, Qdu (x.1))])
def QjX : G := ⟨TYs, [], 32, EL [(114, Quk)], keeps, (Ls [QKu]), IL [], RL []⟩
def Qyb (x0 x5 : List ByteArray) (x6 x7 : Int) : Option (Exit × VS) :=
 let a1 := lgt .str x5 (Int.toNat x7)
 br (ilt x7 x6) (br (cIx x5 x7) (br (nameG a1) (br (!(QaV a1)) (some (.ret, Qbr false)) (br (igt x7 0) (br (cIx x0 (isub .i64 x7 1)) (br (!slt (lgt .str x0 (Int.toNat (isub .i64 x7 1))) a1) (some (.ret, Qbr false)) (some (.normal, Qht x0 x5 x6 (iadd .i64 x7 1)))) none) (some (.normal, Qht x0 x5 x6 (iadd .i64 x7 1))))) none) none) (some (.exit 0, Qdu x0))
noncomputable def Qfs (x0 x5 : List ByteArray) (x6 x7 : Int) : Option (Exit × VS) := loopF (Qaj QjX QfQ Qho) (Qht x0 x5 x6 x7)
noncomputable def QkN (x0 x5 : List ByteArray) (x6 x7 : Int) : Option (Exit × VS) :=
 let a1 := lgt .str x5 (Int.toNat x7)
 br (ilt x7 x6) (br (cIx x5 x7) (br (nameG a1) (br (!(QaV a1)) (some (.ret, Qbr false)) (br (igt x7 0) (br (cIx x0 (isub .i64 x7 1)) (br (!slt (lgt .str x0 (Int.toNat (isub .i64 x7 1))) a1) (some (.ret, Qbr false)) (Qfs x0 x5 x6 (iadd .i64 x7 1))) none) (Qfs x0 x5 x6 (iadd .i64 x7 1)))) none) none) (some (.exit 0, Qdu x0))
def Qif (x0 x5 : List ByteArray) (x6 x7 : Int) : Option (Exit × VS) := br (!Qcz x5 x7.toNat) (some (.ret, Qbr (false))) <| some (.exit 0, Qdu (x0))
theorem QGo (x0 x5 : List ByteArray) (x6 x7 : Int) : Qaj QjX QfQ Qho (Qht x0 x5 x6 x7) = Qyb x0 x5 x6 x7 := by kernel_rfl
theorem QsB (x0 x5 : List ByteArray) (x6 x7 : Int) : Qfs x0 x5 x6 x7 = QkN x0 x5 x6 x7 := (Qaq _ _).trans (by
 rw [QGo]
 simp only [Qyb, QkN, QaE, nxt_n, nxt_r, nxt_e, nxt_0]
 rfl)
def QCY (p0 : List ByteArray) : Option (V × List VO) := br (rngOk p0 (llen p0) (0 : Int) && samB p0 p0 && QbC p0) (br (!Qcz p0 (0 : Int).toNat) (some (.t .bool (false), [])) (some (.t .bool (ile (llen (p0)) 8), []))) none
theorem e_f115 (p0 : List ByteArray) : runF QjX QtZ QB3 false [.t (.sl .str) p0] [] = QCY p0 := by kernel_rfl
theorem QQP : Qag Tryz.prog 115 := .inr ⟨by decide, _, Tryz.func115, by kernel_rfl, by kernel_rfl⟩
theorem QQc : GOk Tryz.prog QjX := Qan _ (gA (gC QFz QDK gN))
theorem QwU {l : List ByteArray} {k : Nat} (h : 0 < k) (hk : k < l.length) : lgt .str l (Int.toNat (isub .i64 (k : Int) 1)) = l.getD (k - 1) ByteArray.empty ∧ cIx l (isub .i64 (k : Int) 1) = decide (k - 1 < l.length) ∨ 4611686018427387904 ≤ k := by
 rcases Nat.lt_or_ge k 4611686018427387904 with hb | hb
 ·left
  have e : isub .i64 (k : Int) 1 = ((k - 1 : Nat) : Int) := by rw [QbE (by omega)]; omega
  rw [e, Int.toNat_natCast, Qay]
  exact ⟨rfl, rfl⟩
 ·exact .inr hb
theorem QIz (x0 x5 : List ByteArray) (x6 x7 : Int) (h : (rngOk x5 x6 x7 && samB x0 x5 && QbC x5) = true) : Qfs x0 x5 x6 x7 = Qif x0 x5 x6 x7 := by
 simp only [Bool.and_eq_true] at h
 obtain ⟨⟨h0, hs⟩, hn⟩ := h
 have hs := QuO hs
 subst hs
 obtain ⟨rfl, h3, k, rfl, hk⟩ := rng_k h0
 clear h0
 simp only [QbC, Bool.and_eq_true, List.all_eq_true] at hn
 refine Qav x0 (fun k => Qfs x0 x0 (x0.length : Int) (k : Int) = Qif x0 x0 (x0.length : Int) (k : Int)) ?_ ?_ k hk
 ·rw [QsB]
  simp only [QkN, Qif, Qaz, Nat.lt_irrefl, decide_false, Qae, Int.toNat_natCast, Qoh, Bool.not_true]
 ·intro k hk ih
  rw [QsB]
  have hx := hn.2 x0[k] (List.getElem_mem hk)
  simp only [QkN, Qaz, Qay, hk, decide_true, Qac, Int.toNat_natCast, add1 (show k < 4611686018427387904 by omega), QaG (y := .str) hk, hx, ih]
  simp only [Qif, Int.toNat_natCast, QmW hk]
  cases hg : QaV x0[k] with
  | false => rfl
  | true =>
   simp only [Bool.not_true, Qae, Bool.true_and]
   by_cases h0 : k = 0
   ·subst h0
    simp only [show igt ((0 : Nat) : Int) 0 = false from rfl, Qae, decide_true, Bool.true_or, Bool.true_and]
   ·rcases QwU (l := x0) (k := k) (by omega) hk with ⟨e1, e2⟩ | hb
    ·rw [show igt (k : Int) 0 = true from decide_eq_true (by omega), Qac, e2, decide_eq_true (show k - 1 < x0.length by omega), Qac, e1, decide_eq_false h0, Bool.false_or]
     cases slt (x0.getD (k - 1) ByteArray.empty) x0[k] <;> rfl
    ·omega
theorem QEb : ∀ S l p, QjX.L 0 (fgt QfQ S) = some (true, l) → pickA l = some p → loopF (Qaj QjX QfQ Qho) S = some p :=
 QaF (s := QmA) ⟨by decide, by decide⟩ (by kernel_rfl) fun x y hok p hp => by
 simp only [Qas, Qap] at hp
 exact (QIz x.1 x.2.1 x.2.2.1 x.2.2.2.1 (by simpa using hok)).trans hp
theorem QOX : QtZ.lok QjX := by
 repeat (first | exact trivial | exact QEb | refine ⟨?_, ?_⟩)
theorem s_f115 (l : List ByteArray) (h : QbC l = true) : QCY l = some (.t .bool (QdB l), []) := by
 have hl : l.length ≤ 100000 := by simp only [QbC, Bool.and_eq_true, decide_eq_true_eq] at h; exact h.1
 simp only [QCY, rng_0 hl, QmG, h, Bool.and_self, Qac, Int.toNat_zero, Qvy, QdB]
 cases Qcz l 0 <;> rfl
def QBa : Ent := spec (.pr (.sl .str) .nil) (fun x => (QbC x.1)) (fun x => (.t .bool (QdB x.1)))
theorem QN3 : Meets Tryz.prog 115 (strip QBa) := Qaf (R := runF QjX QtZ QB3 false) (mG Tryz.func115 (by kernel_rfl) Tryz.ntmps115 (by kernel_rfl) QQc QOX) fun x hok => (e_f115 x.1).trans (s_f115 x.1 hok)
def kindU (u : Keep) (k : Int) : Bool := Qcv u && ieq (kindF u.1) k
noncomputable def QtY : TC := (.sq (.reg (rT Tryz.f116 0)) (.sq (.reg (rT Tryz.f116 1)) .rt))
def QB2 : List (RV × Option Ty) := [((.t 4), some .bool)]
def Qxn : G := ⟨TYs, [], 14, EL [(107, Qul), (108, QoV)], keeps, (fun _ _ => none), IL [], RL []⟩
def QCX (p0 : Keep) (p1 : Int) : Option (V × List VO) := br (Qcv p0) (some (.t .bool (ieq (kindF p0.1) p1), [])) (some (.t .bool false, []))
theorem e_f116 (p0 : Keep) (p1 : Int) : runF Qxn QtY QB2 false [.t Qam p0, .t tI p1] [] = QCX p0 p1 := by kernel_rfl
theorem QQO : Qag Tryz.prog 116 := .inr ⟨by decide, _, Tryz.func116, by kernel_rfl, by kernel_rfl⟩
theorem QQb : GOk Tryz.prog Qxn := Qan _ (gA (gC QFA QDL (gC QvM Qvi gN)))
theorem QOW : QtY.lok Qxn := by repeat (first | exact trivial | refine ⟨?_, ?_⟩)
theorem s_f116 (u : Keep) (k : Int) : QCX u k = some (.t .bool (kindU u k), []) := by
 simp only [QCX]
 exact brA rfl
def QA9 : Ent := spec (.pr Qam (.pr tI .nil)) (fun x => true) (fun x => (.t .bool (kindU x.1 x.2.1)))
theorem QN2 : Meets Tryz.prog 116 (strip QA9) := Qaf (R := runF Qxn QtY QB2 false) (mG Tryz.func116 (by kernel_rfl) Tryz.ntmps116 (by kernel_rfl) QQb QOW) fun x _ => (e_f116 x.1 x.2.1).trans (s_f116 x.1 x.2.1)
def signU (u : Keep) : Bool := kindU u 2
noncomputable def Qzo : TC := (.sq (.reg (rT Tryz.f96 0)) (.sq (.reg (rT Tryz.f96 1)) .rt))
def QLn : List (RV × Option Ty) := [((.t 2), some .bool)]
def g_f96 : G := ⟨TYs, [], 11, EL [(69, QAx), (120, Quj)], keeps, (fun _ _ => none), IL [], RL []⟩
def r_f96 (p0 : Keep) : Option (V × List VO) := br (Qcv p0) (some (.t .bool (ieq (kindF p0.1) 2), [])) (some (.t .bool false, []))
theorem e_f96 (p0 : Keep) : runF g_f96 Qzo QLn false [.t Qam p0] [] = r_f96 p0 := by kernel_rfl
theorem en_f96 : Qag Tryz.prog 96 := .inr ⟨by decide, _, Tryz.func96, by kernel_rfl, by kernel_rfl⟩
theorem gk_f96 : GOk Tryz.prog g_f96 := Qan _ (gA (gC QMR QMA (gC QFy QDJ gN)))
theorem lk_f96 : Qzo.lok g_f96 := by repeat (first | exact trivial | refine ⟨?_, ?_⟩)
theorem s_f96 (u : Keep) : r_f96 u = some (.t .bool (signU u), []) := by
 simp only [r_f96]
 exact brA rfl
def QKD : Ent := spec (.pr Qam .nil) (fun x => true) (fun x => (.t .bool (signU x.1)))
theorem ms_f96 : Meets Tryz.prog 96 (strip QKD) := Qaf (R := runF g_f96 Qzo QLn false) (mG Tryz.func96 (by kernel_rfl) Tryz.ntmps96 (by kernel_rfl) gk_f96 lk_f96) fun x _ => (e_f96 x.1).trans (s_f96 x.1)
abbrev QaD (c : Qaa) : List ByteArray := c.2.2.2.2.2.2.2.2.2.2.1
abbrev cSeal (c : Qaa) : Keep := c.2.2.2.2.2.2.2.2.2.2.2.1
def QaB (c : Qaa) : Bool := nameG c.2.1 && (nameG c.2.2.1 && QbC (QaD c))
def QaC (c : Qaa) : Bool :=
 !ilt c.1 0 && (!igt c.1 1099511627776 && (QaV c.2.1 && (QaV c.2.2.1 && (QdB (QaD c) && (kindU c.2.2.2.1 2 && (keyI c.2.2.2.2.1 && (kindU c.2.2.2.2.2.1 1 && (keyI (cSeal c).1 && (sumI (cSeal c).2.1 &&
 (!ilt c.2.2.2.2.2.2.1 0 && (!igt c.2.2.2.2.2.2.1 c.2.2.2.2.2.2.2.1 && (!igt c.2.2.2.2.2.2.2.1 40000 && (!ilt c.2.2.2.2.2.2.2.2.2.1 0 && (!igt c.2.2.2.2.2.2.2.2.2.1 8 && (c.2.2.2.2.2.2.2.2.1 || ieq c.2.2.2.2.2.2.2.2.2.1 0)))))))))))))))
noncomputable def Qzt : TC := (.sq (.reg (rT Tryz.f91 0)) (.sq (.sq (.reg (rT Tryz.f91 1)) (.cd (.t 28) (.sq (.reg (rT Tryz.f91 2)) .rt) .sk)) (.sq (.sq (.reg (rT Tryz.f91 3)) (.cd (.t 58) (.sq (.reg (rT Tryz.f91 4)) .rt) .sk)) (.sq (.sq (.reg (rT Tryz.f91 5)) (.cd (.t 73) (.sq (.reg (rT Tryz.f91 6)) .rt) .sk)) (.sq (.reg (rT Tryz.f91 7)) .rt)))))
def QLs : List (RV × Option Ty) := [((.t 2), some .bool)]
def g_f91 : G := ⟨TYs, [], 91, EL [(82, Qv5), (114, Quk), (115, QBa), (116, QA9), (117, QA8)], keeps, (fun _ _ => none), IL [], RL []⟩
def r_f91 (p0 : Qaa) : Option (V × List VO) := br (ilt p0.1 0) (some (.t .bool false, [])) (br (igt p0.1 1099511627776) (some (.t .bool false, [])) (br (nameG p0.2.1) (br (!(QaV p0.2.1)) (some (.t .bool false, [])) (br (nameG p0.2.2.1) (br (!(QaV p0.2.2.1)) (some (.t .bool false, [])) (br (QbC p0.2.2.2.2.2.2.2.2.2.2.1) (br (!(QdB p0.2.2.2.2.2.2.2.2.2.2.1)) (some (.t .bool false, [])) (br (!(kindU p0.2.2.2.1 2)) (some (.t .bool false, [])) (br (!(keyI p0.2.2.2.2.1)) (some (.t .bool false, [])) (br (!(kindU p0.2.2.2.2.2.1 1)) (some (.t .bool false, [])) (br (!(keyI p0.2.2.2.2.2.2.2.2.2.2.2.1.1)) (some (.t .bool false, [])) (br (!(sumI p0.2.2.2.2.2.2.2.2.2.2.2.1.2.1)) (some (.t .bool false, [])) (br (ilt p0.2.2.2.2.2.2.1 0) (some (.t .bool false, [])) (br (igt p0.2.2.2.2.2.2.1 p0.2.2.2.2.2.2.2.1) (some (.t .bool false, [])) (br (igt p0.2.2.2.2.2.2.2.1 40000) (some (.t .bool false, [])) (br (ige p0.2.2.2.2.2.2.2.2.2.1 0) (br (ile p0.2.2.2.2.2.2.2.2.2.1 8) (br (p0.2.2.2.2.2.2.2.2.1) (some (.t .bool true, [])) (some (.t .bool (ieq p0.2.2.2.2.2.2.2.2.2.1 0), []))) (some (.t .bool false, []))) (some (.t .bool false, [])))))))))))) none)) none)) none))
theorem e_f91 (p0 : Qaa) : runF g_f91 Qzt QLs false [.t Qab p0] [] = r_f91 p0 := by kernel_rfl
theorem QMN : Qag Tryz.prog 91 := .inr ⟨by decide, _, Tryz.func91, by kernel_rfl, by kernel_rfl⟩
theorem gk_f91 : GOk Tryz.prog g_f91 := Qan _ (gA (gC QE9 QDs (gC QFz QDK (gC QQP QN3 (gC QQO QN2 (gC QQN QN1 gN))))))
theorem lk_f91 : Qzt.lok g_f91 := by repeat (first | exact trivial | refine ⟨?_, ?_⟩)
theorem s_f91 (c : Qaa) (h : QaB c = true) : r_f91 c = some (.t .bool (QaC c), []) := by
 simp only [QaB, Bool.and_eq_true] at h
 obtain ⟨h1, h2, h3⟩ := h
 simp only [r_f91, h1, h2, h3, Qac, Qqn, Qvy]
 refine (brB <| brB <| brB <| brB <| brB <| brB <| brB <| brB <| brB <| brB <| brB <| brB <| brB <| brA <| brA (r := c.2.2.2.2.2.2.2.2.1 || ieq c.2.2.2.2.2.2.2.2.2.1 0) ?_).trans ?_
 ·cases c.2.2.2.2.2.2.2.2.1 <;> rfl
 ·simp only [Bool.not_not, QaC]
def QAt : Ent := spec (.pr Qab .nil) (fun x => (QaB x.1)) (fun x => (.t .bool (QaC x.1)))
theorem QMw : Meets Tryz.prog 91 (strip QAt) := Qaf (R := runF g_f91 Qzt QLs false) (mG Tryz.func91 (by kernel_rfl) Tryz.ntmps91 (by kernel_rfl) gk_f91 lk_f91) fun x hok => (e_f91 x.1).trans (s_f91 x.1 hok)
def Qd6 (c : Qaa) : Int := bif QaC c then 0 else 9
theorem QfU (c : Qaa) : ine (Qd6 c) 0 = !QaC c := by
 unfold Qd6
 cases QaC c <;> rfl
noncomputable def QzM : TC := (.sq (.reg (rT Tryz.f62 0)) (.sq (.sq (.reg (rT Tryz.f62 1)) (.cd (.t 5) (.sq (.reg (rT Tryz.f62 2)) .rt) .sk)) (.sq (.reg (rT Tryz.f62 3)) .rt)))
def QLL : List (RV × Option Ty) := [((.t 2), some tI)]
def g_f62 : G := ⟨TYs, [], 6, EL [(91, QAt)], keeps, (fun _ _ => none), IL [], RL []⟩
def r_f62 (p0 : Qaa) : Option (V × List VO) := br (QaB p0) (br (!(QaC p0)) (some (.t tI 9, [])) (some (.t tI 0, []))) none
theorem e_f62 (p0 : Qaa) : runF g_f62 QzM QLL false [.t Qab p0] [] = r_f62 p0 := by kernel_rfl
theorem QMS : Qag Tryz.prog 62 := .inr ⟨by decide, _, Tryz.func62, by kernel_rfl, by kernel_rfl⟩
theorem gk_f62 : GOk Tryz.prog g_f62 := Qan _ (gA (gC QMN QMw gN))
theorem lk_f62 : QzM.lok g_f62 := by repeat (first | exact trivial | refine ⟨?_, ?_⟩)
theorem s_f62 (c : Qaa) (h : QaB c = true) : r_f62 c = some (.t tI (Qd6 c), []) := by
 simp only [r_f62, h, Qac, Qd6]
 cases QaC c <;> rfl
def QAy : Ent := spec (.pr Qab .nil) (fun x => (QaB x.1)) (fun x => (.t tI (Qd6 x.1)))
theorem QMB : Meets Tryz.prog 62 (strip QAy) := Qaf (R := runF g_f62 QzM QLL false) (mG Tryz.func62 (by kernel_rfl) Tryz.ntmps62 (by kernel_rfl) gk_f62 lk_f62) fun x hok => (e_f62 x.1).trans (s_f62 x.1 hok)
noncomputable def QJk : List DO := dT Tryz.f97 9
def Qio : Fg := ⟨[(1, none), (3, some tI)], [(1, some Qab)]⟩
noncomputable def Qj6 : TC := (.sq (.sq (.reg (rT Tryz.f97 8)) (.cd (.t 96) .sk (.fg ⟨[(1, none)], [(1, some Qab)]⟩ (.ex 0)))) (.sq (.bk 1 (.sq (.dr QJk [(0, [1]), (1, [1]), (2, []), (3, []), (4, []), (5, []), (6, []), (7, []), (8, []), (9, []), (10, []), (11, [1]), (12, [1]), (13, []), (14, []), (15, []), (16, []), (17, [1]), (18, [1]), (19, []), (20, []), (21, []), (22, []), (23, []), (24, [])] (.of [0, 1, 2, 3, 4, 5, 6, 7, 8, 9, 10, 11, 12, 13, 14, 15, 16, 17, 18, 19, 20, 21, 22, 23, 24])) (.cd (.t 123) (.sq (.reg (rT Tryz.f97 10)) (.fg ⟨[(2, some tI)], []⟩ .rt)) .sk))) (.reg (rT Tryz.f97 11))))
noncomputable def Qzn : TC := (.sq (.reg (rT Tryz.f97 0)) (.sq (.sq (.reg (rT Tryz.f97 1)) (.cd (.t 39) (.sq (.reg (rT Tryz.f97 2)) .rt) .sk)) (.sq (.sq (.reg (rT Tryz.f97 3)) (.cd (.t 67) (.sq (.reg (rT Tryz.f97 4)) .rt) .sk)) (.sq (.sq (.reg (rT Tryz.f97 5)) (.cd (.t 91) (.sq (.reg (rT Tryz.f97 6)) .rt) .sk)) (.sq (.sq (.reg (rT Tryz.f97 7)) (.bk 0 (.lp 0 Qio Qj6))) (.sq (.sq (.reg (rT Tryz.f97 12)) (.cd (.t 145) (.sq (.reg (rT Tryz.f97 13)) .rt) .sk)) (.sq (.reg (rT Tryz.f97 14)) .rt)))))))
def QLm : List (RV × Option Ty) := [((.t 2), some tI)]
abbrev QoZ : Sh := ⟨[(1, .ptr 1 0), (3, .ty tI)], [(1, .box Qab)]⟩
def Qks (x3 : Int) (y1 : Qaa) : VS := QoZ.st ((), x3, ()) (y1, ())
abbrev Qrd : Sh := ⟨[(2, .ty tI)], []⟩
def QbH (x2 : Int) : VS := Qrd.st (x2, ()) ()
abbrev Quq : Sh := ⟨[(1, .ptr 1 0)], [(1, .box Qab)]⟩
def Qec (y1 : Qaa) : VS := Quq.st ((), ()) (y1, ())
def QRe : VS → Option (Bool × List (Bool × Exit × VS)) := mkL QoZ (fun x y => (decide (0 ≤ x.2.1 ∧ x.2.1 ≤ (QaD y.1).length) && QbC (QaD y.1))) (fun x y => [((!Qcz (QaD y.1) x.2.1.toNat), .ret, QbH (9)), (true, .exit 0, Qec (y.1))])
def g_f97 : G := ⟨TYs, [], 146, EL [(69, QAx), (96, QKD), (120, Quj), (121, QA5)], keeps, (Ls [QRe]), IL [], RL []⟩
def QGs (x3 : Int) (y1 : Qaa) : Option (Exit × VS) :=
 let a1 := lgt .str y1.2.2.2.2.2.2.2.2.2.2.1 (Int.toNat x3)
 let a2 := cIx y1.2.2.2.2.2.2.2.2.2.2.1 x3
 br (ilt x3 (llen y1.2.2.2.2.2.2.2.2.2.2.1)) (br a2 (br (nameG a1) (br (!(QaV a1)) (some (.ret, QbH 9)) (br (igt x3 0) (br (cIx y1.2.2.2.2.2.2.2.2.2.2.1 (isub .i64 x3 1)) (br a2 (br (!slt (lgt .str y1.2.2.2.2.2.2.2.2.2.2.1 (Int.toNat (isub .i64 x3 1))) a1) (some (.ret, QbH 9)) (some (.normal, Qks (iadd .i64 x3 1) y1))) none) none) (some (.normal, Qks (iadd .i64 x3 1) y1)))) none) none) (some (.exit 0, Qec y1))
noncomputable def QhF (x3 : Int) (y1 : Qaa) : Option (Exit × VS) := loopF (Qaj g_f97 Qio Qj6) (Qks x3 y1)
noncomputable def QpS (x3 : Int) (y1 : Qaa) : Option (Exit × VS) :=
 let a1 := lgt .str y1.2.2.2.2.2.2.2.2.2.2.1 (Int.toNat x3)
 let a2 := cIx y1.2.2.2.2.2.2.2.2.2.2.1 x3
 br (ilt x3 (llen y1.2.2.2.2.2.2.2.2.2.2.1)) (br a2 (br (nameG a1) (br (!(QaV a1)) (some (.ret, QbH 9)) (br (igt x3 0) (br (cIx y1.2.2.2.2.2.2.2.2.2.2.1 (isub .i64 x3 1)) (br a2 (br (!slt (lgt .str y1.2.2.2.2.2.2.2.2.2.2.1 (Int.toNat (isub .i64 x3 1))) a1) (some (.ret, QbH 9)) (QhF (iadd .i64 x3 1) y1)) none) none) (QhF (iadd .i64 x3 1) y1))) none) none) (some (.exit 0, Qec y1))
def Qk4 (x3 : Int) (y1 : Qaa) : Option (Exit × VS) := br (!Qcz (QaD y1) x3.toNat) (some (.ret, QbH (9))) <| some (.exit 0, Qec (y1))
theorem QJN (x3 : Int) (y1 : Qaa) : Qaj g_f97 Qio Qj6 (Qks x3 y1) = QGs x3 y1 := by kernel_rfl
theorem Qwy (x3 : Int) (y1 : Qaa) : QhF x3 y1 = QpS x3 y1 := (Qaq _ _).trans (by
 rw [QJN]
 simp only [QGs, QpS, QaE, nxt_n, nxt_r, nxt_e, nxt_0]
 rfl)
def QuZ (p0 : Qaa) : Option (V × List VO) :=
 let a1 := (((((((((((((p0).2).2).2).2).2).2).2).2).2).2).2).1)
 br (igt (llen p0.2.2.2.2.2.2.2.2.2.2.1) 8) (some (.t tI 9, [])) (br (decide (0 ≤ (0 : Int) ∧ (0 : Int) ≤ (QaD p0).length) && QbC (QaD p0)) (br (!Qcz (QaD p0) (0 : Int).toNat) (some (.t tI (9), [])) (br (ilt (a1.1) 0) (some (.t tI 9, [])) (br (igt (a1.1) 2147483648) (some (.t tI 9, [])) (br (ilt ((a1.2).1) 0) (some (.t tI 9, [])) (br (ige ((a1.2).1) 4294967296) (some (.t tI 9, [])) (some (.t tI 0, []))))))) none)
def r_f97 (p0 : Qaa) : Option (V × List VO) := br (ilt p0.1 0) (some (.t tI 9, [])) (br (igt p0.1 1099511627776) (some (.t tI 9, [])) (br (nameG p0.2.1) (br (!(QaV p0.2.1)) (some (.t tI 9, [])) (br (nameG p0.2.2.1) (br (!(QaV p0.2.2.1)) (some (.t tI 9, [])) (br (!(signU p0.2.2.2.1)) (some (.t tI 9, [])) (br (ilt p0.2.2.2.2.1 0) (some (.t tI 9, [])) (br (igt p0.2.2.2.2.1 2147483648) (some (.t tI 9, [])) (br (!(Qcv p0.2.2.2.2.2.1)) (some (.t tI 9, [])) (br (ine (kindF p0.2.2.2.2.2.1.1) 1) (some (.t tI 9, [])) (br (ilt p0.2.2.2.2.2.2.1 0) (some (.t tI 9, [])) (br (igt p0.2.2.2.2.2.2.1 p0.2.2.2.2.2.2.2.1) (some (.t tI 9, [])) (br (igt p0.2.2.2.2.2.2.2.1 40000) (some (.t tI 9, [])) (br (ilt p0.2.2.2.2.2.2.2.2.2.1 0) (some (.t tI 9, [])) (br (igt p0.2.2.2.2.2.2.2.2.2.1 8) (some (.t tI 9, [])) (br (!p0.2.2.2.2.2.2.2.2.1) (br (ine p0.2.2.2.2.2.2.2.2.2.1 0) (some (.t tI 9, [])) (QuZ p0)) (QuZ p0))))))))))))) none)) none))
theorem e_f97 (p0 : Qaa) : runF g_f97 Qzn QLm false [.t Qab p0] [] = r_f97 p0 := by kernel_rfl
theorem QMM : Qag Tryz.prog 97 := .inr ⟨by decide, _, Tryz.func97, by kernel_rfl, by kernel_rfl⟩
theorem gk_f97 : GOk Tryz.prog g_f97 := Qan _ (gA (gC QMR QMA (gC en_f96 ms_f96 (gC QFy QDJ (gC QQK QNY gN)))))
theorem QO9 (x3 : Int) (y1 : Qaa) (h : (decide (0 ≤ x3 ∧ x3 ≤ (QaD y1).length) && QbC (QaD y1)) = true) : QhF x3 y1 = Qk4 x3 y1 := by
 simp only [Bool.and_eq_true, decide_eq_true_eq] at h
 obtain ⟨⟨h0, h1⟩, hn⟩ := h
 obtain ⟨k, rfl⟩ := Int.eq_ofNat_of_zero_le h0
 simp only [QbC, Bool.and_eq_true, List.all_eq_true, decide_eq_true_eq] at hn
 refine Qav (QaD y1) (fun k => QhF (k : Int) y1 = Qk4 (k : Int) y1) ?_ ?_ k (by omega)
 ·rw [Qwy]
  simp only [QpS, Qk4, show ilt ((QaD y1).length : Int) (llen (QaD y1)) = false from decide_eq_false (by simp only [llen]; omega), Qae, Int.toNat_natCast, Qoh, Bool.not_true]
 ·intro k hk ih
  rw [Qwy]
  have hx := hn.2 (QaD y1)[k] (List.getElem_mem hk)
  simp only [QpS, show ilt (k : Int) (llen (QaD y1)) = true from decide_eq_true (by simp only [llen]; omega), Qay, hk, decide_true, Qac, Int.toNat_natCast, add1 (show k < 4611686018427387904 by omega), QaG (y := .str) hk, hx, ih]
  simp only [Qk4, Int.toNat_natCast, QmW hk]
  cases hg : QaV (QaD y1)[k] with
  | false => rfl
  | true =>
   simp only [Bool.not_true, Qae, Bool.true_and]
   by_cases h0 : k = 0
   ·subst h0
    simp only [show igt ((0 : Nat) : Int) 0 = false from rfl, Qae, decide_true, Bool.true_or, Bool.true_and]
   ·rcases QwU (l := QaD y1) (k := k) (by omega) hk with ⟨e1, e2⟩ | hb
    ·rw [show igt (k : Int) 0 = true from decide_eq_true (by omega), Qac, e2, decide_eq_true (show k - 1 < (QaD y1).length by omega), Qac, e1, decide_eq_false h0, Bool.false_or]
     cases slt ((QaD y1).getD (k - 1) ByteArray.empty) (QaD y1)[k] <;> rfl
    ·omega
theorem QHS : ∀ S l p, g_f97.L 0 (fgt Qio S) = some (true, l) → pickA l = some p → loopF (Qaj g_f97 Qio Qj6) S = some p :=
 QaF (s := QoZ) ⟨by decide, by decide⟩ (by kernel_rfl) fun x y hok p hp => by
 simp only [Qas, Qap] at hp
 exact (QO9 x.2.1 y.1 (by simpa using hok)).trans hp
theorem lk_f97 : Qzn.lok g_f97 := by
 repeat (first | exact trivial | exact QHS | refine ⟨?_, ?_⟩)
theorem s_f97 (c : Qaa) (h : QaB c = true) : r_f97 c = some (.t tI (Qd6 c), []) := by
 simp only [QaB, Bool.and_eq_true] at h
 obtain ⟨h1, h2, h3⟩ := h
 have hd : decide ((0 : Int) ≤ 0 ∧ (0 : Int) ≤ (QaD c).length) = true := decide_eq_true (by omega)
 unfold Qd6
 simp only [r_f97, QuZ, h1, h2, h3, hd, Bool.and_self, Qac, Int.toNat_zero, Qqm]
 refine br9 (fun g => by simp [QaC, g]) fun g1 => br9 (fun g => by simp [QaC, g]) fun g2 => br9 (fun g => by simp only [Bool.not_eq_true'] at g; simp [QaC, g]) fun g3 => br9 (fun g => by simp only [Bool.not_eq_true'] at g; simp [QaC, g]) fun g4 => br9 (fun g => by simp only [Bool.not_eq_true', signU] at g; simp [QaC, g]) fun g5 => br9 (fun g => by simp [QaC, keyI, g]) fun g6 => br9 (fun g => by simp [QaC, keyI, g]) fun g7 => br9 (fun g => by simp only [Bool.not_eq_true'] at g; simp [QaC, kindU, g]) fun g8 => br9 (fun g => by simp only [Bool.not_eq_true'] at g; simp [QaC, kindU, g]) fun g9 => br9 (fun g => by simp [QaC, g]) fun g10 => br9 (fun g => by simp [QaC, g]) fun g11 => br9 (fun g => by simp [QaC, g]) fun g12 => br9 (fun g => by simp [QaC, g]) fun g13 => br9 (fun g => by simp [QaC, g]) fun g14 => ?_
 have tail : ∀ (hp : (c.2.2.2.2.2.2.2.2.1 || ieq c.2.2.2.2.2.2.2.2.2.1 0) = true), br (igt (llen (QaD c)) 8) (some (V.t tI 9, ([] : List VO))) (br (!Qcz (QaD c) 0) (some (V.t tI 9, [])) (br (ilt (cSeal c).1 0) (some (V.t tI 9, [])) (br (igt (cSeal c).1 2147483648) (some (V.t tI 9, [])) (br (ilt (cSeal c).2.1 0) (some (V.t tI 9, [])) (br (ige (cSeal c).2.1 4294967296) (some (V.t tI 9, [])) (some (V.t tI 0, []))))))) = some (V.t tI (bif QaC c then 0 else 9), ([] : List VO)) := by
  intro hp
  refine br9 (fun g => by simp [QaC, QdB, g]) fun g15 => br9 (fun g => by simp only [Bool.not_eq_true'] at g; simp [QaC, QdB, g]) fun g16 => br9 (fun g => by simp [QaC, keyI, g]) fun g17 => br9 (fun g => by simp [QaC, keyI, g]) fun g18 => br9 (fun g => by simp [QaC, sumI, g]) fun g19 => br9 (fun g => by simp [QaC, sumI, g]) fun g20 => ?_
  simp only [Bool.not_eq_false'] at g3 g4 g5 g8 g9 g16
  simp only [signU] at g5
  have : QaC c = true := by
   simp only [QaC, QdB, kindU, keyI, sumI, g1, g2, g3, g4, g6, g7, g8, g9, g10, g11, g12, g13, g14, g15, g16, g17, g18, g19, g20, hp, Bool.not_false, Bool.and_self, Bool.true_and]
   simpa only [kindU, Bool.and_true] using g5
  rw [this]
  rfl
 cases ha : c.2.2.2.2.2.2.2.2.1 with
 | true =>
  rw [Bool.not_true, Qae]
  exact tail (by rw [ha]; rfl)
 | false =>
  rw [Bool.not_false, Qac]
  refine br9 (fun g => by simp only [Bool.not_eq_true'] at g; simp [QaC, ha, g]) fun g => ?_
  exact tail (by simp only [Bool.not_eq_false'] at g; rw [g, Bool.or_true])
def QAs : Ent := spec (.pr Qab .nil) (fun x => (QaB x.1)) (fun x => (.t tI (Qd6 x.1)))
theorem QMv : Meets Tryz.prog 97 (strip QAs) := Qaf (R := runF g_f97 Qzn QLm false) (mG Tryz.func97 (by kernel_rfl) Tryz.ntmps97 (by kernel_rfl) gk_f97 lk_f97) fun x hok => (e_f97 x.1).trans (s_f97 x.1 hok)
end
end Go.Proofs.YtkngeegkjhipeaaGreat.K
