import Derived.Test.YtkngeegkjhipeaaGreatN5
import Derived.Test.YtkngeegkjhipeaaGreatN6
set_option linter.unusedSimpArgs false
set_option linter.unusedVariables false
namespace Go.Proofs.YtkngeegkjhipeaaGreat.K
open Go.RowKit
noncomputable section
theorem QsI (a b : Int) : ige a b = !ilt a b := by
 simp only [ige, ilt]
 rw [Bool.eq_iff_iff]
 simp
theorem Qyu (a b : Int) : ile a b = !igt a b := by
 simp only [ile, igt]
 rw [Bool.eq_iff_iff]
 simp
theorem Qkk (a b : Int) : ine a b = !ieq a b := rfl
theorem brB {q r : Bool} {X : Option (V × List VO)} (h : X = some (.t .bool r, [])) : br q (some (.t .bool false, [])) X = some (.t .bool (!q && r), []) := by
 subst h
 cases q <;> rfl
theorem brA {q r : Bool} {X : Option (V × List VO)} (h : X = some (.t .bool r, [])) : br q X (some (.t .bool false, [])) = some (.t .bool (q && r), []) := by
 subst h
 cases q <;> rfl
theorem br9 {q v : Bool} {n : Int} {X : Option (V × List VO)} (h0 : q = true → v = false) (hX : q = false → X = some (.t tI (bif v then 0 else n), [])) : br q (some (.t tI n, [])) X = some (.t tI (bif v then 0 else n), []) := by
 cases q with
 | true => rw [Qac, h0 rfl]; rfl
 | false => rw [Qaf, hX rfl]
open Classical in
def samB {α : Type} (a b : α) : Bool := decide (a = b)
theorem Qom {α : Type} (a : α) : samB a a = true := by
 unfold samB
 simp
theorem QxI {α : Type} {a b : α} (h : samB a b = true) : a = b := by
 unfold samB at h
 simpa using h
def keyI (n : Int) : Bool := !ilt n 0 && !igt n 2147483648
noncomputable def QCU : TC := (.sq (.reg (rT Tryz.f82 0)) (.sq (.reg (rT Tryz.f82 1)) .rt))
def QPT : List (RV × Option Ty) := [((.t 2), some .bool)]
def g_f82 : G := ⟨TYs, [], 9, EL [], keeps, (fun _ _ => none), IL [], RL []⟩
def r_f82 (p0 : Int) : Option (V × List VO) := br (ige p0 0) (some (.t .bool (ile p0 2147483648), [])) (some (.t .bool false, []))
theorem e_f82 (p0 : Int) : runF g_f82 QCU QPT false [.t tI p0] [] = r_f82 p0 := by kernel_rfl
theorem QIK : Qai Tryz.prog 82 := .inr ⟨by decide, _, Tryz.func82, by kernel_rfl, by kernel_rfl⟩
theorem gk_f82 : GOk Tryz.prog g_f82 := Qal _ (fun p hp => by cases hp)
theorem lk_f82 : QCU.lok g_f82 := by repeat (first | exact trivial | refine ⟨?_, ?_⟩)
theorem s_f82 (n : Int) : r_f82 n = some (.t .bool (keyI n), []) := by
 simp only [r_f82, QsI, Qyu]
 exact brA rfl
def Qy6 : Ent := spec (.pr tI .nil) (fun x => true) (fun x => (.t .bool (keyI x.1)))
theorem QG3 : Meets Tryz.prog 82 (strip Qy6) := Qag (R := runF g_f82 QCU QPT false) (mG Tryz.func82 (by kernel_rfl) Tryz.ntmps82 (by kernel_rfl) gk_f82 lk_f82) fun x _ => (e_f82 x.1).trans (s_f82 x.1)
def sumI (n : Int) : Bool := !ilt n 0 && !ige n 4294967296
noncomputable def Qwz : TC := (.sq (.reg (rT Tryz.f117 0)) (.sq (.reg (rT Tryz.f117 1)) .rt))
def QFD : List (RV × Option Ty) := [((.t 2), some .bool)]
def QAJ : G := ⟨TYs, [], 9, EL [], keeps, (fun _ _ => none), IL [], RL []⟩
def QGB (p0 : Int) : Option (V × List VO) := br (ige p0 0) (some (.t .bool (ilt p0 4294967296), [])) (some (.t .bool false, []))
theorem e_f117 (p0 : Int) : runF QAJ Qwz QFD false [.t tI p0] [] = QGB p0 := by kernel_rfl
theorem QVA : Qai Tryz.prog 117 := .inr ⟨by decide, _, Tryz.func117, by kernel_rfl, by kernel_rfl⟩
theorem QUW : GOk Tryz.prog QAJ := Qal _ (fun p hp => by cases hp)
theorem QTv : Qwz.lok QAJ := by repeat (first | exact trivial | refine ⟨?_, ?_⟩)
theorem s_f117 (n : Int) : QGB n = some (.t .bool (sumI n), []) := by
 simp only [QGB, sumI, QsI, Bool.not_not]
 exact brA rfl
def QEJ : Ent := spec (.pr tI .nil) (fun x => true) (fun x => (.t .bool (sumI x.1)))
theorem QSB : Meets Tryz.prog 117 (strip QEJ) := Qag (R := runF QAJ Qwz QFD false) (mG Tryz.func117 (by kernel_rfl) Tryz.ntmps117 (by kernel_rfl) QUW QTv) fun x _ => (e_f117 x.1).trans (s_f117 x.1)
def QcJ (l : List ByteArray) (k : Nat) : Bool := (List.range' k (l.length - k)).all fun j => Qbr (l.getD j ByteArray.empty) && (decide (j = 0) || slt (l.getD (j - 1) ByteArray.empty) (l.getD j ByteArray.empty))
theorem Qp4 (l : List ByteArray) : QcJ l l.length = true := by
 unfold QcJ
 rw [Nat.sub_self]
 rfl
theorem QoC {l : List ByteArray} {k : Nat} (hk : k < l.length) : QcJ l k = ((Qbr l[k] && (decide (k = 0) || slt (l.getD (k - 1) ByteArray.empty) l[k])) && QcJ l (k + 1)) := by
 have : l.length - k = (l.length - (k + 1)) + 1 := by omega
 unfold QcJ
 rw [this, List.range'_succ, List.all_cons]
 simp only [List.getD_eq_getElem?_getD, List.getElem?_eq_getElem hk, Option.getD_some]
def Qg6 (l : List ByteArray) : Bool := QcJ l 0 && !igt (llen l) 8
def QbK (l : List ByteArray) : Bool := decide (l.length ≤ 100000) && l.all nameG
def Qgr : Fg := ⟨[(0, some (.sl .str)), (5, some (.sl .str)), (6, some tI), (7, some tI)], []⟩
noncomputable def QhZ : TC := (.sq (.reg (rT Tryz.f115 2)) (.sq (.cd (.t 8) .sk (.fg ⟨[(0, some (.sl .str))], []⟩ (.ex 0))) (.sq (.bk 1 (.sq (.reg (rT Tryz.f115 3)) (.sq (.reg (rT Tryz.f115 4)) (.cd (.t 27) (.sq (.reg (rT Tryz.f115 5)) (.fg ⟨[(2, some .bool)], []⟩ .rt)) .sk)))) (.reg (rT Tryz.f115 6)))))
noncomputable def QwB : TC := (.sq (.reg (rT Tryz.f115 0)) (.sq (.sq (.reg (rT Tryz.f115 1)) (.bk 0 (.lp 0 Qgr QhZ))) (.sq (.reg (rT Tryz.f115 7)) .rt)))
def QFF : List (RV × Option Ty) := [((.t 2), some .bool)]
abbrev Qog : Sh := ⟨[(0, .ty (.sl .str)), (5, .ty (.sl .str)), (6, .ty tI), (7, .ty tI)], []⟩
def Qh4 (x0 x5 : List ByteArray) (x6 x7 : Int) : VS := Qog.st (x0, x5, x6, x7, ()) ()
abbrev Qry : Sh := ⟨[(2, .ty .bool)], []⟩
def QbB (x2 : Bool) : VS := Qry.st (x2, ()) ()
abbrev Que : Sh := ⟨[(0, .ty (.sl .str))], []⟩
def QdT (x0 : List ByteArray) : VS := Que.st (x0, ()) ()
def QOK : VS → Option (Bool × List (Bool × Exit × VS)) := mkL Qog (fun x y => (rngOk x.2.1 x.2.2.1 x.2.2.2.1 && samB x.1 x.2.1 && QbK x.2.1)) (fun x y => [((!QcJ x.2.1 x.2.2.2.1.toNat), .ret, QbB (false)), (true, .exit 0, QdT (x.1))])
def Qk3 : G := ⟨TYs, [], 32, EL [(114, QwX)], keeps, (Ls [QOK]), IL [], RL []⟩
def QBC (x0 x5 : List ByteArray) (x6 x7 : Int) : Option (Exit × VS) :=
 let a1 := lgt .str x5 (Int.toNat x7)
 br (ilt x7 x6) (br (cIx x5 x7) (br (nameG a1) (br (!(Qbr a1)) (some (.ret, QbB false)) (br (igt x7 0) (br (cIx x0 (isub .i64 x7 1)) (br (!slt (lgt .str x0 (Int.toNat (isub .i64 x7 1))) a1) (some (.ret, QbB false)) (some (.normal, Qh4 x0 x5 x6 (iadd .i64 x7 1)))) none) (some (.normal, Qh4 x0 x5 x6 (iadd .i64 x7 1))))) none) none) (some (.exit 0, QdT x0))
noncomputable def Qf4 (x0 x5 : List ByteArray) (x6 x7 : Int) : Option (Exit × VS) := loopF (Qaj Qk3 Qgr QhZ) (Qh4 x0 x5 x6 x7)
noncomputable def Ql7 (x0 x5 : List ByteArray) (x6 x7 : Int) : Option (Exit × VS) :=
 let a1 := lgt .str x5 (Int.toNat x7)
 br (ilt x7 x6) (br (cIx x5 x7) (br (nameG a1) (br (!(Qbr a1)) (some (.ret, QbB false)) (br (igt x7 0) (br (cIx x0 (isub .i64 x7 1)) (br (!slt (lgt .str x0 (Int.toNat (isub .i64 x7 1))) a1) (some (.ret, QbB false)) (Qf4 x0 x5 x6 (iadd .i64 x7 1))) none) (Qf4 x0 x5 x6 (iadd .i64 x7 1)))) none) none) (some (.exit 0, QdT x0))
def QiW (x0 x5 : List ByteArray) (x6 x7 : Int) : Option (Exit × VS) := br (!QcJ x5 x7.toNat) (some (.ret, QbB (false))) <| some (.exit 0, QdT (x0))
theorem QJ0 (x0 x5 : List ByteArray) (x6 x7 : Int) : Qaj Qk3 Qgr QhZ (Qh4 x0 x5 x6 x7) = QBC x0 x5 x6 x7 := by kernel_rfl
theorem Qvf (x0 x5 : List ByteArray) (x6 x7 : Int) : Qf4 x0 x5 x6 x7 = Ql7 x0 x5 x6 x7 := (Qap _ _).trans (by
 rw [QJ0]
 simp only [QBC, Ql7, QaB, nxt_n, nxt_r, nxt_e, nxt_0]
 rfl)
def QGD (p0 : List ByteArray) : Option (V × List VO) := br (rngOk p0 (llen p0) (0 : Int) && samB p0 p0 && QbK p0) (br (!QcJ p0 (0 : Int).toNat) (some (.t .bool (false), [])) (some (.t .bool (ile (llen (p0)) 8), []))) none
theorem e_f115 (p0 : List ByteArray) : runF Qk3 QwB QFF false [.t (.sl .str) p0] [] = QGD p0 := by kernel_rfl
theorem QVC : Qai Tryz.prog 115 := .inr ⟨by decide, _, Tryz.func115, by kernel_rfl, by kernel_rfl⟩
theorem QUY : GOk Tryz.prog Qk3 := Qal _ (gA (gC QJc QHn gN))
theorem QAf {l : List ByteArray} {k : Nat} (h : 0 < k) (hk : k < l.length) : lgt .str l (Int.toNat (isub .i64 (k : Int) 1)) = l.getD (k - 1) ByteArray.empty ∧ cIx l (isub .i64 (k : Int) 1) = decide (k - 1 < l.length) ∨ 4611686018427387904 ≤ k := by
 rcases Nat.lt_or_ge k 4611686018427387904 with hb | hb
 ·left
  have e : isub .i64 (k : Int) 1 = ((k - 1 : Nat) : Int) := by rw [QbE (by omega)]; omega
  rw [e, Int.toNat_natCast, Qaw]
  exact ⟨rfl, rfl⟩
 ·exact .inr hb
theorem QMw (x0 x5 : List ByteArray) (x6 x7 : Int) (h : (rngOk x5 x6 x7 && samB x0 x5 && QbK x5) = true) : Qf4 x0 x5 x6 x7 = QiW x0 x5 x6 x7 := by
 simp only [Bool.and_eq_true] at h
 obtain ⟨⟨h0, hs⟩, hn⟩ := h
 have hs := QxI hs
 subst hs
 obtain ⟨rfl, h3, k, rfl, hk⟩ := rng_k h0
 clear h0
 simp only [QbK, Bool.and_eq_true, List.all_eq_true] at hn
 refine Qas x0 (fun k => Qf4 x0 x0 (x0.length : Int) (k : Int) = QiW x0 x0 (x0.length : Int) (k : Int)) ?_ ?_ k hk
 ·rw [Qvf]
  simp only [Ql7, QiW, QaA, Nat.lt_irrefl, decide_false, Qaf, Int.toNat_natCast, Qp4, Bool.not_true]
 ·intro k hk ih
  rw [Qvf]
  have hx := hn.2 x0[k] (List.getElem_mem hk)
  simp only [Ql7, QaA, Qaw, hk, decide_true, Qac, Int.toNat_natCast, add1 (show k < 4611686018427387904 by omega), QaE (y := .str) hk, hx, ih]
  simp only [QiW, Int.toNat_natCast, QoC hk]
  cases hg : Qbr x0[k] with
  | false => rfl
  | true =>
   simp only [Bool.not_true, Qaf, Bool.true_and]
   by_cases h0 : k = 0
   ·subst h0
    simp only [show igt ((0 : Nat) : Int) 0 = false from rfl, Qaf, decide_true, Bool.true_or, Bool.true_and]
   ·rcases QAf (l := x0) (k := k) (by omega) hk with ⟨e1, e2⟩ | hb
    ·rw [show igt (k : Int) 0 = true from decide_eq_true (by omega), Qac, e2, decide_eq_true (show k - 1 < x0.length by omega), Qac, e1, decide_eq_false h0, Bool.false_or]
     cases slt (x0.getD (k - 1) ByteArray.empty) x0[k] <;> rfl
    ·omega
theorem QHQ : ∀ S l p, Qk3.L 0 (fgt Qgr S) = some (true, l) → pickA l = some p → loopF (Qaj Qk3 Qgr QhZ) S = some p :=
 QaD (s := Qog) ⟨by decide, by decide⟩ (by kernel_rfl) fun x y hok p hp => by
 simp only [Qar, Qao] at hp
 exact (QMw x.1 x.2.1 x.2.2.1 x.2.2.2.1 (by simpa using hok)).trans hp
theorem QTx : QwB.lok Qk3 := by
 repeat (first | exact trivial | exact QHQ | refine ⟨?_, ?_⟩)
theorem s_f115 (l : List ByteArray) (h : QbK l = true) : QGD l = some (.t .bool (Qg6 l), []) := by
 have hl : l.length ≤ 100000 := by simp only [QbK, Bool.and_eq_true, decide_eq_true_eq] at h; exact h.1
 simp only [QGD, rng_0 hl, Qom, h, Bool.and_self, Qac, Int.toNat_zero, Qyu, Qg6]
 cases QcJ l 0 <;> rfl
def QEL : Ent := spec (.pr (.sl .str) .nil) (fun x => (QbK x.1)) (fun x => (.t .bool (Qg6 x.1)))
theorem QSD : Meets Tryz.prog 115 (strip QEL) := Qag (R := runF Qk3 QwB QFF false) (mG Tryz.func115 (by kernel_rfl) Tryz.ntmps115 (by kernel_rfl) QUY QTx) fun x hok => (e_f115 x.1).trans (s_f115 x.1 hok)
def kindU (u : Keep) (k : Int) : Bool := QfA u && ieq (kindF u.1) k
noncomputable def QwA : TC := (.sq (.reg (rT Tryz.f116 0)) (.sq (.reg (rT Tryz.f116 1)) .rt))
def QFE : List (RV × Option Ty) := [((.t 4), some .bool)]
def QAK : G := ⟨TYs, [], 14, EL [(107, Qw0), (108, QqT)], keeps, (fun _ _ => none), IL [], RL []⟩
def QGC (p0 : Keep) (p1 : Int) : Option (V × List VO) := br (QfA p0) (some (.t .bool (ieq (kindF p0.1) p1), [])) (some (.t .bool false, []))
theorem e_f116 (p0 : Keep) (p1 : Int) : runF QAK QwA QFE false [.t Qah p0, .t tI p1] [] = QGC p0 p1 := by kernel_rfl
theorem QVB : Qai Tryz.prog 116 := .inr ⟨by decide, _, Tryz.func116, by kernel_rfl, by kernel_rfl⟩
theorem QUX : GOk Tryz.prog QAK := Qal _ (gA (gC QJf QHq (gC QyH Qyd gN)))
theorem QTw : QwA.lok QAK := by repeat (first | exact trivial | refine ⟨?_, ?_⟩)
theorem s_f116 (u : Keep) (k : Int) : QGC u k = some (.t .bool (kindU u k), []) := by
 simp only [QGC]
 exact brA rfl
def QEK : Ent := spec (.pr Qah (.pr tI .nil)) (fun x => true) (fun x => (.t .bool (kindU x.1 x.2.1)))
theorem QSC : Meets Tryz.prog 116 (strip QEK) := Qag (R := runF QAK QwA QFE false) (mG Tryz.func116 (by kernel_rfl) Tryz.ntmps116 (by kernel_rfl) QUX QTw) fun x _ => (e_f116 x.1 x.2.1).trans (s_f116 x.1 x.2.1)
def signU (u : Keep) : Bool := kindU u 2
noncomputable def QCH : TC := (.sq (.reg (rT Tryz.f96 0)) (.sq (.reg (rT Tryz.f96 1)) .rt))
def QPG : List (RV × Option Ty) := [((.t 2), some .bool)]
def g_f96 : G := ⟨TYs, [], 11, EL [(69, Qy7), (120, QwW)], keeps, (fun _ _ => none), IL [], RL []⟩
def r_f96 (p0 : Keep) : Option (V × List VO) := br (QfA p0) (some (.t .bool (ieq (kindF p0.1) 2), [])) (some (.t .bool false, []))
theorem e_f96 (p0 : Keep) : runF g_f96 QCH QPG false [.t Qah p0] [] = r_f96 p0 := by kernel_rfl
theorem QRn : Qai Tryz.prog 96 := .inr ⟨by decide, _, Tryz.func96, by kernel_rfl, by kernel_rfl⟩
theorem gk_f96 : GOk Tryz.prog g_f96 := Qal _ (gA (gC QIQ QG9 (gC QJb QHm gN)))
theorem lk_f96 : QCH.lok g_f96 := by repeat (first | exact trivial | refine ⟨?_, ?_⟩)
theorem s_f96 (u : Keep) : r_f96 u = some (.t .bool (signU u), []) := by
 simp only [r_f96]
 exact brA rfl
def QDX : Ent := spec (.pr Qah .nil) (fun x => true) (fun x => (.t .bool (signU x.1)))
theorem QQ1 : Meets Tryz.prog 96 (strip QDX) := Qag (R := runF g_f96 QCH QPG false) (mG Tryz.func96 (by kernel_rfl) Tryz.ntmps96 (by kernel_rfl) gk_f96 lk_f96) fun x _ => (e_f96 x.1).trans (s_f96 x.1)
abbrev QaF (c : Qaa) : List ByteArray := c.2.2.2.2.2.2.2.2.2.2.1
abbrev cSeal (c : Qaa) : Keep := c.2.2.2.2.2.2.2.2.2.2.2.1
def QaC (c : Qaa) : Bool := nameG c.2.1 && (nameG c.2.2.1 && QbK (QaF c))
def QaH (c : Qaa) : Bool :=
 !ilt c.1 0 && (!igt c.1 1099511627776 && (Qbr c.2.1 && (Qbr c.2.2.1 && (Qg6 (QaF c) && (kindU c.2.2.2.1 2 && (keyI c.2.2.2.2.1 && (kindU c.2.2.2.2.2.1 1 && (keyI (cSeal c).1 && (sumI (cSeal c).2.1 &&
 (!ilt c.2.2.2.2.2.2.1 0 && (!igt c.2.2.2.2.2.2.1 c.2.2.2.2.2.2.2.1 && (!igt c.2.2.2.2.2.2.2.1 40000 && (!ilt c.2.2.2.2.2.2.2.2.2.1 0 && (!igt c.2.2.2.2.2.2.2.2.2.1 8 && (c.2.2.2.2.2.2.2.2.1 || ieq c.2.2.2.2.2.2.2.2.2.1 0)))))))))))))))
noncomputable def QCM : TC := (.sq (.reg (rT Tryz.f91 0)) (.sq (.sq (.reg (rT Tryz.f91 1)) (.cd (.t 28) (.sq (.reg (rT Tryz.f91 2)) .rt) .sk)) (.sq (.sq (.reg (rT Tryz.f91 3)) (.cd (.t 58) (.sq (.reg (rT Tryz.f91 4)) .rt) .sk)) (.sq (.sq (.reg (rT Tryz.f91 5)) (.cd (.t 73) (.sq (.reg (rT Tryz.f91 6)) .rt) .sk)) (.sq (.reg (rT Tryz.f91 7)) .rt)))))
def QPL : List (RV × Option Ty) := [((.t 2), some .bool)]
def g_f91 : G := ⟨TYs, [], 91, EL [(82, Qy6), (114, QwX), (115, QEL), (116, QEK), (117, QEJ)], keeps, (fun _ _ => none), IL [], RL []⟩
def r_f91 (p0 : Qaa) : Option (V × List VO) := br (ilt p0.1 0) (some (.t .bool false, [])) (br (igt p0.1 1099511627776) (some (.t .bool false, [])) (br (nameG p0.2.1) (br (!(Qbr p0.2.1)) (some (.t .bool false, [])) (br (nameG p0.2.2.1) (br (!(Qbr p0.2.2.1)) (some (.t .bool false, [])) (br (QbK p0.2.2.2.2.2.2.2.2.2.2.1) (br (!(Qg6 p0.2.2.2.2.2.2.2.2.2.2.1)) (some (.t .bool false, [])) (br (!(kindU p0.2.2.2.1 2)) (some (.t .bool false, [])) (br (!(keyI p0.2.2.2.2.1)) (some (.t .bool false, [])) (br (!(kindU p0.2.2.2.2.2.1 1)) (some (.t .bool false, [])) (br (!(keyI p0.2.2.2.2.2.2.2.2.2.2.2.1.1)) (some (.t .bool false, [])) (br (!(sumI p0.2.2.2.2.2.2.2.2.2.2.2.1.2.1)) (some (.t .bool false, [])) (br (ilt p0.2.2.2.2.2.2.1 0) (some (.t .bool false, [])) (br (igt p0.2.2.2.2.2.2.1 p0.2.2.2.2.2.2.2.1) (some (.t .bool false, [])) (br (igt p0.2.2.2.2.2.2.2.1 40000) (some (.t .bool false, [])) (br (ige p0.2.2.2.2.2.2.2.2.2.1 0) (br (ile p0.2.2.2.2.2.2.2.2.2.1 8) (br (p0.2.2.2.2.2.2.2.2.1) (some (.t .bool true, [])) (some (.t .bool (ieq p0.2.2.2.2.2.2.2.2.2.1 0), []))) (some (.t .bool false, []))) (some (.t .bool false, [])))))))))))) none)) none)) none))
theorem e_f91 (p0 : Qaa) : runF g_f91 QCM QPL false [.t Qab p0] [] = r_f91 p0 := by kernel_rfl
theorem QRo : Qai Tryz.prog 91 := .inr ⟨by decide, _, Tryz.func91, by kernel_rfl, by kernel_rfl⟩
theorem gk_f91 : GOk Tryz.prog g_f91 := Qal _ (gA (gC QIK QG3 (gC QJc QHn (gC QVC QSD (gC QVB QSC (gC QVA QSB gN))))))
theorem lk_f91 : QCM.lok g_f91 := by repeat (first | exact trivial | refine ⟨?_, ?_⟩)
theorem s_f91 (c : Qaa) (h : QaC c = true) : r_f91 c = some (.t .bool (QaH c), []) := by
 simp only [QaC, Bool.and_eq_true] at h
 obtain ⟨h1, h2, h3⟩ := h
 simp only [r_f91, h1, h2, h3, Qac, QsI, Qyu]
 refine (brB <| brB <| brB <| brB <| brB <| brB <| brB <| brB <| brB <| brB <| brB <| brB <| brB <| brA <| brA (r := c.2.2.2.2.2.2.2.2.1 || ieq c.2.2.2.2.2.2.2.2.2.1 0) ?_).trans ?_
 ·cases c.2.2.2.2.2.2.2.2.1 <;> rfl
 ·simp only [Bool.not_not, QaH]
def QDY : Ent := spec (.pr Qab .nil) (fun x => (QaC x.1)) (fun x => (.t .bool (QaH x.1)))
theorem QQ2 : Meets Tryz.prog 91 (strip QDY) := Qag (R := runF g_f91 QCM QPL false) (mG Tryz.func91 (by kernel_rfl) Tryz.ntmps91 (by kernel_rfl) gk_f91 lk_f91) fun x hok => (e_f91 x.1).trans (s_f91 x.1 hok)
def QcK (c : Qaa) : Int := bif QaH c then 0 else 9
theorem Qdg (c : Qaa) : ine (QcK c) 0 = !QaH c := by
 unfold QcK
 cases QaH c <;> rfl
noncomputable def QC8 : TC := (.sq (.reg (rT Tryz.f62 0)) (.sq (.sq (.reg (rT Tryz.f62 1)) (.cd (.t 5) (.sq (.reg (rT Tryz.f62 2)) .rt) .sk)) (.sq (.reg (rT Tryz.f62 3)) .rt)))
def QP7 : List (RV × Option Ty) := [((.t 2), some tI)]
def g_f62 : G := ⟨TYs, [], 6, EL [(91, QDY)], keeps, (fun _ _ => none), IL [], RL []⟩
def r_f62 (p0 : Qaa) : Option (V × List VO) := br (QaC p0) (br (!(QaH p0)) (some (.t tI 9, [])) (some (.t tI 0, []))) none
theorem e_f62 (p0 : Qaa) : runF g_f62 QC8 QP7 false [.t Qab p0] [] = r_f62 p0 := by kernel_rfl
theorem QRr : Qai Tryz.prog 62 := .inr ⟨by decide, _, Tryz.func62, by kernel_rfl, by kernel_rfl⟩
theorem gk_f62 : GOk Tryz.prog g_f62 := Qal _ (gA (gC QRo QQ2 gN))
theorem lk_f62 : QC8.lok g_f62 := by repeat (first | exact trivial | refine ⟨?_, ?_⟩)
theorem s_f62 (c : Qaa) (h : QaC c = true) : r_f62 c = some (.t tI (QcK c), []) := by
 simp only [r_f62, h, Qac, QcK]
 cases QaH c <;> rfl
def QD2 : Ent := spec (.pr Qab .nil) (fun x => (QaC x.1)) (fun x => (.t tI (QcK x.1)))
theorem QQ5 : Meets Tryz.prog 62 (strip QD2) := Qag (R := runF g_f62 QC8 QP7 false) (mG Tryz.func62 (by kernel_rfl) Tryz.ntmps62 (by kernel_rfl) gk_f62 lk_f62) fun x hok => (e_f62 x.1).trans (s_f62 x.1 hok)
noncomputable def QNb : List DO := dT Tryz.f97 9
def Qi7 : Fg := ⟨[(1, none), (3, some tI)], [(1, some Qab)]⟩
noncomputable def Qlc : TC := (.sq (.sq (.reg (rT Tryz.f97 8)) (.cd (.t 96) .sk (.fg ⟨[(1, none)], [(1, some Qab)]⟩ (.ex 0)))) (.sq (.bk 1 (.sq (.dr QNb [(0, [1]), (1, [1]), (2, []), (3, []), (4, []), (5, []), (6, []), (7, []), (8, []), (9, []), (10, []), (11, [1]), (12, [1]), (13, []), (14, []), (15, []), (16, []), (17, [1]), (18, [1]), (19, []), (20, []), (21, []), (22, []), (23, []), (24, [])] (.of [0, 1, 2, 3, 4, 5, 6, 7, 8, 9, 10, 11, 12, 13, 14, 15, 16, 17, 18, 19, 20, 21, 22, 23, 24])) (.cd (.t 123) (.sq (.reg (rT Tryz.f97 10)) (.fg ⟨[(2, some tI)], []⟩ .rt)) .sk))) (.reg (rT Tryz.f97 11))))
noncomputable def QCG : TC := (.sq (.reg (rT Tryz.f97 0)) (.sq (.sq (.reg (rT Tryz.f97 1)) (.cd (.t 39) (.sq (.reg (rT Tryz.f97 2)) .rt) .sk)) (.sq (.sq (.reg (rT Tryz.f97 3)) (.cd (.t 67) (.sq (.reg (rT Tryz.f97 4)) .rt) .sk)) (.sq (.sq (.reg (rT Tryz.f97 5)) (.cd (.t 91) (.sq (.reg (rT Tryz.f97 6)) .rt) .sk)) (.sq (.sq (.reg (rT Tryz.f97 7)) (.bk 0 (.lp 0 Qi7 Qlc))) (.sq (.sq (.reg (rT Tryz.f97 12)) (.cd (.t 145) (.sq (.reg (rT Tryz.f97 13)) .rt) .sk)) (.sq (.reg (rT Tryz.f97 14)) .rt)))))))
def QPF : List (RV × Option Ty) := [((.t 2), some tI)]
abbrev QqY : Sh := ⟨[(1, .ptr 1 0), (3, .ty tI)], [(1, .box Qab)]⟩
def QlK (x3 : Int) (y1 : Qaa) : VS := QqY.st ((), x3, ()) (y1, ())
abbrev Qtz : Sh := ⟨[(2, .ty tI)], []⟩
def QbN (x2 : Int) : VS := Qtz.st (x2, ()) ()
abbrev Qw7 : Sh := ⟨[(1, .ptr 1 0)], [(1, .box Qab)]⟩
def QeC (y1 : Qaa) : VS := Qw7.st ((), ()) (y1, ())
def QV1 : VS → Option (Bool × List (Bool × Exit × VS)) := mkL QqY (fun x y => (decide (0 ≤ x.2.1 ∧ x.2.1 ≤ (QaF y.1).length) && QbK (QaF y.1))) (fun x y => [((!QcJ (QaF y.1) x.2.1.toNat), .ret, QbN (9)), (true, .exit 0, QeC (y.1))])
def g_f97 : G := ⟨TYs, [], 146, EL [(69, Qy7), (96, QDX), (120, QwW), (121, QEG)], keeps, (Ls [QV1]), IL [], RL []⟩
def QJ5 (x3 : Int) (y1 : Qaa) : Option (Exit × VS) :=
 let a1 := lgt .str y1.2.2.2.2.2.2.2.2.2.2.1 (Int.toNat x3)
 let a2 := cIx y1.2.2.2.2.2.2.2.2.2.2.1 x3
 br (ilt x3 (llen y1.2.2.2.2.2.2.2.2.2.2.1)) (br a2 (br (nameG a1) (br (!(Qbr a1)) (some (.ret, QbN 9)) (br (igt x3 0) (br (cIx y1.2.2.2.2.2.2.2.2.2.2.1 (isub .i64 x3 1)) (br a2 (br (!slt (lgt .str y1.2.2.2.2.2.2.2.2.2.2.1 (Int.toNat (isub .i64 x3 1))) a1) (some (.ret, QbN 9)) (some (.normal, QlK (iadd .i64 x3 1) y1))) none) none) (some (.normal, QlK (iadd .i64 x3 1) y1)))) none) none) (some (.exit 0, QeC y1))
noncomputable def Qik (x3 : Int) (y1 : Qaa) : Option (Exit × VS) := loopF (Qaj g_f97 Qi7 Qlc) (QlK x3 y1)
noncomputable def Qr3 (x3 : Int) (y1 : Qaa) : Option (Exit × VS) :=
 let a1 := lgt .str y1.2.2.2.2.2.2.2.2.2.2.1 (Int.toNat x3)
 let a2 := cIx y1.2.2.2.2.2.2.2.2.2.2.1 x3
 br (ilt x3 (llen y1.2.2.2.2.2.2.2.2.2.2.1)) (br a2 (br (nameG a1) (br (!(Qbr a1)) (some (.ret, QbN 9)) (br (igt x3 0) (br (cIx y1.2.2.2.2.2.2.2.2.2.2.1 (isub .i64 x3 1)) (br a2 (br (!slt (lgt .str y1.2.2.2.2.2.2.2.2.2.2.1 (Int.toNat (isub .i64 x3 1))) a1) (some (.ret, QbN 9)) (Qik (iadd .i64 x3 1) y1)) none) none) (Qik (iadd .i64 x3 1) y1))) none) none) (some (.exit 0, QeC y1))
def QmA (x3 : Int) (y1 : Qaa) : Option (Exit × VS) := br (!QcJ (QaF y1) x3.toNat) (some (.ret, QbN (9))) <| some (.exit 0, QeC (y1))
theorem QNQ (x3 : Int) (y1 : Qaa) : Qaj g_f97 Qi7 Qlc (QlK x3 y1) = QJ5 x3 y1 := by kernel_rfl
theorem QzG (x3 : Int) (y1 : Qaa) : Qik x3 y1 = Qr3 x3 y1 := (Qap _ _).trans (by
 rw [QNQ]
 simp only [QJ5, Qr3, QaB, nxt_n, nxt_r, nxt_e, nxt_0]
 rfl)
def QxT (p0 : Qaa) : Option (V × List VO) :=
 let a1 := (((((((((((((p0).2).2).2).2).2).2).2).2).2).2).2).1)
 br (igt (llen p0.2.2.2.2.2.2.2.2.2.2.1) 8) (some (.t tI 9, [])) (br (decide (0 ≤ (0 : Int) ∧ (0 : Int) ≤ (QaF p0).length) && QbK (QaF p0)) (br (!QcJ (QaF p0) (0 : Int).toNat) (some (.t tI (9), [])) (br (ilt (a1.1) 0) (some (.t tI 9, [])) (br (igt (a1.1) 2147483648) (some (.t tI 9, [])) (br (ilt ((a1.2).1) 0) (some (.t tI 9, [])) (br (ige ((a1.2).1) 4294967296) (some (.t tI 9, [])) (some (.t tI 0, []))))))) none)
def r_f97 (p0 : Qaa) : Option (V × List VO) := br (ilt p0.1 0) (some (.t tI 9, [])) (br (igt p0.1 1099511627776) (some (.t tI 9, [])) (br (nameG p0.2.1) (br (!(Qbr p0.2.1)) (some (.t tI 9, [])) (br (nameG p0.2.2.1) (br (!(Qbr p0.2.2.1)) (some (.t tI 9, [])) (br (!(signU p0.2.2.2.1)) (some (.t tI 9, [])) (br (ilt p0.2.2.2.2.1 0) (some (.t tI 9, [])) (br (igt p0.2.2.2.2.1 2147483648) (some (.t tI 9, [])) (br (!(QfA p0.2.2.2.2.2.1)) (some (.t tI 9, [])) (br (ine (kindF p0.2.2.2.2.2.1.1) 1) (some (.t tI 9, [])) (br (ilt p0.2.2.2.2.2.2.1 0) (some (.t tI 9, [])) (br (igt p0.2.2.2.2.2.2.1 p0.2.2.2.2.2.2.2.1) (some (.t tI 9, [])) (br (igt p0.2.2.2.2.2.2.2.1 40000) (some (.t tI 9, [])) (br (ilt p0.2.2.2.2.2.2.2.2.2.1 0) (some (.t tI 9, [])) (br (igt p0.2.2.2.2.2.2.2.2.2.1 8) (some (.t tI 9, [])) (br (!p0.2.2.2.2.2.2.2.2.1) (br (ine p0.2.2.2.2.2.2.2.2.2.1 0) (some (.t tI 9, [])) (QxT p0)) (QxT p0))))))))))))) none)) none))
theorem e_f97 (p0 : Qaa) : runF g_f97 QCG QPF false [.t Qab p0] [] = r_f97 p0 := by kernel_rfl
theorem QA5 : Qai Tryz.prog 97 := .inr ⟨by decide, _, Tryz.func97, by kernel_rfl, by kernel_rfl⟩
theorem gk_f97 : GOk Tryz.prog g_f97 := Qal _ (gA (gC QIQ QG9 (gC QRn QQ1 (gC QJb QHm (gC QVx QSy gN)))))
theorem QTM (x3 : Int) (y1 : Qaa) (h : (decide (0 ≤ x3 ∧ x3 ≤ (QaF y1).length) && QbK (QaF y1)) = true) : Qik x3 y1 = QmA x3 y1 := by
 simp only [Bool.and_eq_true, decide_eq_true_eq] at h
 obtain ⟨⟨h0, h1⟩, hn⟩ := h
 obtain ⟨k, rfl⟩ := Int.eq_ofNat_of_zero_le h0
 simp only [QbK, Bool.and_eq_true, List.all_eq_true, decide_eq_true_eq] at hn
 refine Qas (QaF y1) (fun k => Qik (k : Int) y1 = QmA (k : Int) y1) ?_ ?_ k (by omega)
 ·rw [QzG]
  simp only [Qr3, QmA, show ilt ((QaF y1).length : Int) (llen (QaF y1)) = false from decide_eq_false (by simp only [llen]; omega), Qaf, Int.toNat_natCast, Qp4, Bool.not_true]
 ·intro k hk ih
  rw [QzG]
  have hx := hn.2 (QaF y1)[k] (List.getElem_mem hk)
  simp only [Qr3, show ilt (k : Int) (llen (QaF y1)) = true from decide_eq_true (by simp only [llen]; omega), Qaw, hk, decide_true, Qac, Int.toNat_natCast, add1 (show k < 4611686018427387904 by omega), QaE (y := .str) hk, hx, ih]
  simp only [QmA, Int.toNat_natCast, QoC hk]
  cases hg : Qbr (QaF y1)[k] with
  | false => rfl
  | true =>
   simp only [Bool.not_true, Qaf, Bool.true_and]
   by_cases h0 : k = 0
   ·subst h0
    simp only [show igt ((0 : Nat) : Int) 0 = false from rfl, Qaf, decide_true, Bool.true_or, Bool.true_and]
   ·rcases QAf (l := QaF y1) (k := k) (by omega) hk with ⟨e1, e2⟩ | hb
    ·rw [show igt (k : Int) 0 = true from decide_eq_true (by omega), Qac, e2, decide_eq_true (show k - 1 < (QaF y1).length by omega), Qac, e1, decide_eq_false h0, Bool.false_or]
     cases slt ((QaF y1).getD (k - 1) ByteArray.empty) (QaF y1)[k] <;> rfl
    ·omega
theorem QLD : ∀ S l p, g_f97.L 0 (fgt Qi7 S) = some (true, l) → pickA l = some p → loopF (Qaj g_f97 Qi7 Qlc) S = some p :=
 QaD (s := QqY) ⟨by decide, by decide⟩ (by kernel_rfl) fun x y hok p hp => by
 simp only [Qar, Qao] at hp
 exact (QTM x.2.1 y.1 (by simpa using hok)).trans hp
theorem lk_f97 : QCG.lok g_f97 := by
 repeat (first | exact trivial | exact QLD | refine ⟨?_, ?_⟩)
theorem s_f97 (c : Qaa) (h : QaC c = true) : r_f97 c = some (.t tI (QcK c), []) := by
 simp only [QaC, Bool.and_eq_true] at h
 obtain ⟨h1, h2, h3⟩ := h
 have hd : decide ((0 : Int) ≤ 0 ∧ (0 : Int) ≤ (QaF c).length) = true := decide_eq_true (by omega)
 unfold QcK
 simp only [r_f97, QxT, h1, h2, h3, hd, Bool.and_self, Qac, Int.toNat_zero, Qkk]
 refine br9 (fun g => by simp [QaH, g]) fun g1 => br9 (fun g => by simp [QaH, g]) fun g2 => br9 (fun g => by simp only [Bool.not_eq_true'] at g; simp [QaH, g]) fun g3 => br9 (fun g => by simp only [Bool.not_eq_true'] at g; simp [QaH, g]) fun g4 => br9 (fun g => by simp only [Bool.not_eq_true', signU] at g; simp [QaH, g]) fun g5 => br9 (fun g => by simp [QaH, keyI, g]) fun g6 => br9 (fun g => by simp [QaH, keyI, g]) fun g7 => br9 (fun g => by simp only [Bool.not_eq_true'] at g; simp [QaH, kindU, g]) fun g8 => br9 (fun g => by simp only [Bool.not_eq_true'] at g; simp [QaH, kindU, g]) fun g9 => br9 (fun g => by simp [QaH, g]) fun g10 => br9 (fun g => by simp [QaH, g]) fun g11 => br9 (fun g => by simp [QaH, g]) fun g12 => br9 (fun g => by simp [QaH, g]) fun g13 => br9 (fun g => by simp [QaH, g]) fun g14 => ?_
 have tail : ∀ (hp : (c.2.2.2.2.2.2.2.2.1 || ieq c.2.2.2.2.2.2.2.2.2.1 0) = true), br (igt (llen (QaF c)) 8) (some (V.t tI 9, ([] : List VO))) (br (!QcJ (QaF c) 0) (some (V.t tI 9, [])) (br (ilt (cSeal c).1 0) (some (V.t tI 9, [])) (br (igt (cSeal c).1 2147483648) (some (V.t tI 9, [])) (br (ilt (cSeal c).2.1 0) (some (V.t tI 9, [])) (br (ige (cSeal c).2.1 4294967296) (some (V.t tI 9, [])) (some (V.t tI 0, []))))))) = some (V.t tI (bif QaH c then 0 else 9), ([] : List VO)) := by
  intro hp
  refine br9 (fun g => by simp [QaH, Qg6, g]) fun g15 => br9 (fun g => by simp only [Bool.not_eq_true'] at g; simp [QaH, Qg6, g]) fun g16 => br9 (fun g => by simp [QaH, keyI, g]) fun g17 => br9 (fun g => by simp [QaH, keyI, g]) fun g18 => br9 (fun g => by simp [QaH, sumI, g]) fun g19 => br9 (fun g => by simp [QaH, sumI, g]) fun g20 => ?_
  simp only [Bool.not_eq_false'] at g3 g4 g5 g8 g9 g16
  simp only [signU] at g5
  have : QaH c = true := by
   simp only [QaH, Qg6, kindU, keyI, sumI, g1, g2, g3, g4, g6, g7, g8, g9, g10, g11, g12, g13, g14, g15, g16, g17, g18, g19, g20, hp, Bool.not_false, Bool.and_self, Bool.true_and]
   simpa only [kindU, Bool.and_true] using g5
  rw [this]
  rfl
 cases ha : c.2.2.2.2.2.2.2.2.1 with
 | true =>
  rw [Bool.not_true, Qaf]
  exact tail (by rw [ha]; rfl)
 | false =>
  rw [Bool.not_false, Qac]
  refine br9 (fun g => by simp only [Bool.not_eq_true'] at g; simp [QaH, ha, g]) fun g => ?_
  exact tail (by simp only [Bool.not_eq_false'] at g; rw [g, Bool.or_true])
def Qtd : Ent := spec (.pr Qab .nil) (fun x => (QaC x.1)) (fun x => (.t tI (QcK x.1)))
theorem Qzx : Meets Tryz.prog 97 (strip Qtd) := Qag (R := runF g_f97 QCG QPF false) (mG Tryz.func97 (by kernel_rfl) Tryz.ntmps97 (by kernel_rfl) gk_f97 lk_f97) fun x hok => (e_f97 x.1).trans (s_f97 x.1 hok)
end
end Go.Proofs.YtkngeegkjhipeaaGreat.K
