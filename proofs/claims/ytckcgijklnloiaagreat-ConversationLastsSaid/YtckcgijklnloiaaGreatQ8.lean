import Derived.Test.YtckcgijklnloiaaGreatQ7
import Derived.Test.YtckcgijklnloiaaGreatQ4
import Derived.RangeFuncCalls
import Derived.RangeFuncBound
import Derived.Shelf.RegionOpen
import Derived.OwnWalkIn
import Derived.TacticsInMore
import Derived.LoopNIn
import Derived.LoopIn
set_option linter.unusedSimpArgs false
set_option linter.unusedVariables false
namespace Go.Proofs.YtckcgijklnloiaaGreat.K
open Go.RowKit
noncomputable section
def idAlg (x : QaC) (s : Suite) : Bool := ieq s.2.2.2.1.1 0 || ieq x.1.1 s.2.2.2.1.1
noncomputable def QDn : TC := (.sq (.reg (rT Tryz.f93 0)) (.sq (.reg (rT Tryz.f93 1)) .rt))
def QP5 : List (RV × Option Ty) := [((.t 3), some .bool)]
def g_f93 : G := ⟨TYs, [], 17, EL [], keeps, (fun _ _ => none), IL [], RL []⟩
def r_f93 (p0 : QaC) (d0 : Suite) : Option (V × List VO) := br (ieq d0.2.2.2.1.1 0) (some (.t .bool true, [.box (.t QaF d0)])) (some (.t .bool (ieq p0.1.1 d0.2.2.2.1.1), [.box (.t QaF d0)]))
theorem e_f93 (p0 : QaC) (d0 : Suite) : runF g_f93 QDn QP5 false [.t Qau p0, .ptr 50000 0] [.box (.t QaF d0)] = r_f93 p0 d0 := by kernel_rfl
theorem en_f93 : Qai Tryz.prog 93 := .inr ⟨by decide, _, Tryz.func93, by kernel_rfl, by kernel_rfl⟩
theorem gk_f93 : GOk Tryz.prog g_f93 := Qal _ (fun p hp => by cases hp)
theorem lk_f93 : QDn.lok g_f93 := by repeat (first | exact trivial | refine ⟨?_, ?_⟩)
theorem s_f93 (x : QaC) (s : Suite) : r_f93 x s = some (.t .bool (idAlg x s), [.box (.t QaF s)]) := by
 simp only [r_f93]
 unfold idAlg
 cases ieq s.2.2.2.1.1 0 <;> rfl
def QPC : Ent := QfO [.ty Qau, .ptr 50000 0] [QaF] (fun x d => true) (fun x d => (.t .bool (idAlg x.1 d.1)))
theorem ms_f93 : Meets Tryz.prog 93 (strip QPC) := Qcn (QaQ (R := runF g_f93 QDn QP5 false) (mG Tryz.func93 (by kernel_rfl) Tryz.ntmps93 (by kernel_rfl) gk_f93 lk_f93) fun x d _ => (e_f93 x.1 d.1).trans (s_f93 x.1 d.1))
def okAlg (l : List QaC) (_s : Suite) : Bool := decide (l.length ≤ 100000)
def ixAlg (l : List QaC) (s : Suite) : Int := match fstG (fun x => idAlg x s) l with | some k => (k : Int) | none => -1
def QdC : Fg := ⟨[(0, some (.sl Qau)), (1, none), (7, some tI), (8, some tI)], [(50000, some QaF)]⟩
noncomputable def QeY : TC := (.sq (.reg (rT Tryz.f92 2)) (.sq (.cd (.t 9) .sk (.fg ⟨[], [(50000, some QaF)]⟩ (.ex 0))) (.sq (.bk 1 (.sq (.reg (rT Tryz.f92 3)) (.sq (.reg (rT Tryz.f92 4)) (.cd (.t 16) (.sq (.reg (rT Tryz.f92 5)) (.fg ⟨[(4, some tI)], [(50000, some QaF)]⟩ .rt)) .sk)))) (.reg (rT Tryz.f92 6)))))
noncomputable def Qnu : TC := (.sq (.reg (rT Tryz.f92 0)) (.sq (.sq (.reg (rT Tryz.f92 1)) (.bk 0 (.lp 0 QdC QeY))) (.sq (.reg (rT Tryz.f92 7)) .rt)))
def QuE : List (RV × Option Ty) := [((.t 4), some tI)]
abbrev Qia : Sh := ⟨[(0, .ty (.sl Qau)), (1, .fn 93 [(50000, 0)]), (7, .ty tI), (8, .ty tI)], [(50000, .box QaF)]⟩
def Qh5 (x0 : List QaC) (x7 x8 : Int) (y50000 : Suite) : VS := Qia.st (x0, (), x7, x8, ()) (y50000, ())
abbrev Qog : Sh := ⟨[(4, .ty tI)], [(50000, .box QaF)]⟩
def Qcf (x4 : Int) (y50000 : Suite) : VS := Qog.st (x4, ()) (y50000, ())
abbrev QqB : Sh := ⟨[], [(50000, .box QaF)]⟩
def QcE (y50000 : Suite) : VS := QqB.st () (y50000, ())
def QC5 : VS → Option (Bool × List (Bool × Exit × VS)) := mkL Qia (fun x y => (rngOk x.1 x.2.2.1 x.2.2.2.1)) (fun x y => [(((fstG (fun x => idAlg x y.1) (x.1.drop x.2.2.2.1.toNat)).isSome), .ret, Qcf (x.2.2.2.1 + ((fstG (fun x => idAlg x y.1) (x.1.drop x.2.2.2.1.toNat)).getD 0 : Nat)) (y.1)), (true, .exit 0, QcE (y.1))])
def Qev : G := ⟨TYs, [], 19, EL [(93, QPC)], keeps, (Ls [QC5]), IL [], RL []⟩
def Qro (x0 : List QaC) (x7 x8 : Int) (y50000 : Suite) : Option (Exit × VS) := br (ilt x8 x7) (br (cIx x0 x8) (br (idAlg (lgt Qau x0 (Int.toNat x8)) y50000) (some (.ret, Qcf x8 y50000)) (some (.normal, Qh5 x0 x7 (iadd .i64 x8 1) y50000))) none) (some (.exit 0, QcE y50000))
noncomputable def Qfv (x0 : List QaC) (x7 x8 : Int) (y50000 : Suite) : Option (Exit × VS) := loopF (Qak Qev QdC QeY) (Qh5 x0 x7 x8 y50000)
noncomputable def Qhl (x0 : List QaC) (x7 x8 : Int) (y50000 : Suite) : Option (Exit × VS) := br (ilt x8 x7) (br (cIx x0 x8) (br (idAlg (lgt Qau x0 (Int.toNat x8)) y50000) (some (.ret, Qcf x8 y50000)) (Qfv x0 x7 (iadd .i64 x8 1) y50000)) none) (some (.exit 0, QcE y50000))
def QfB (x0 : List QaC) (x7 x8 : Int) (y50000 : Suite) : Option (Exit × VS) := br ((fstG (fun x => idAlg x y50000) (x0.drop x8.toNat)).isSome) (some (.ret, Qcf (x8 + ((fstG (fun x => idAlg x y50000) (x0.drop x8.toNat)).getD 0 : Nat)) (y50000))) <| some (.exit 0, QcE (y50000))
theorem Qza (x0 : List QaC) (x7 x8 : Int) (y50000 : Suite) : Qak Qev QdC QeY (Qh5 x0 x7 x8 y50000) = Qro x0 x7 x8 y50000 := by kernel_rfl
theorem QpE (x0 : List QaC) (x7 x8 : Int) (y50000 : Suite) : Qfv x0 x7 x8 y50000 = Qhl x0 x7 x8 y50000 := (Qao _ _).trans (by
 rw [Qza]
 simp only [Qro, Qhl, Qay, nxt_n, nxt_r, nxt_e, nxt_0]
 rfl)
def Qsv (p0 : List QaC) (d0 : Suite) : Option (V × List VO) :=
 let a1 := (p0.drop (0 : Int).toNat)
 br (rngOk p0 (llen p0) (0 : Int)) (br ((fstG (fun x => idAlg x d0) a1).isSome) (some (.t tI ((0 : Int) + ((fstG (fun x => idAlg x d0) a1).getD 0 : Nat)), [.box (.t QaF (d0))])) (some (.t tI (-1), [.box (.t QaF (d0))]))) none
theorem QOc (p0 : List QaC) (d0 : Suite) : runF Qev Qnu QuE false [.t (.sl Qau) p0, .fn 93 [(.ptr 50000 0)]] [.box (.t QaF d0)] = Qsv p0 d0 := by kernel_rfl
theorem QJT : Qai Tryz.prog 92 := .inr ⟨by decide, _, Tryz.func92, by kernel_rfl, by kernel_rfl⟩
theorem QJE : GOk Tryz.prog Qev := Qal _ (gA (gC en_f93 ms_f93 gN))
theorem QCr (x0 : List QaC) (x7 x8 : Int) (y50000 : Suite) (h : (rngOk x0 x7 x8) = true) : Qfv x0 x7 x8 y50000 = QfB x0 x7 x8 y50000 := by
 obtain ⟨rfl, h3, k, rfl, hk⟩ := rng_k h
 clear h
 refine Qat x0 (fun k => Qfv x0 (x0.length : Int) (k : Int) y50000 = QfB x0 (x0.length : Int) (k : Int) y50000) ?_ ?_ k hk
 ·rw [QpE]
  simp [Qhl, QfB, Qar, Qaf, fstG]
 ·intro k hk ih
  rw [QpE]
  simp only [Qhl, Qar, Qav, hk, decide_true, Qac, Int.toNat_natCast, add1 (show k < 4611686018427387904 by omega), ih, QaA (y := Qau) hk]
  simp only [QfB, Int.toNat_natCast, List.drop_eq_getElem_cons hk, fstG]
  cases h : (idAlg x0[k] y50000) with
  | true => simp [Qac]
  | false =>
   simp only [Qaf, Bool.false_eq_true, if_false]
   cases hq : fstG (fun x => idAlg x y50000) (x0.drop (k + 1)) with
   | none => rfl
   | some j =>
    simp only [Option.map_some, Option.isSome_some, Option.getD_some, Qac]
    congr 3
    omega
theorem Qyk : ∀ S l p, Qev.L 0 (fgt QdC S) = some (true, l) → pickA l = some p → loopF (Qak Qev QdC QeY) S = some p :=
 QaD (s := Qia) ⟨by decide, by decide⟩ (by kernel_rfl) fun x y hok p hp => by
 simp only [Qaq, Qan] at hp
 exact (QCr x.1 x.2.2.1 x.2.2.2.1 y.1 (by simpa using hok)).trans hp
theorem QJe : Qnu.lok Qev := by
 repeat (first | exact trivial | exact Qyk | refine ⟨?_, ?_⟩)
theorem QMg (l : List QaC) (s : Suite) (h : okAlg l s = true) : Qsv l s = some (.t tI (ixAlg l s), [.box (.t QaF s)]) := by
 have hl : l.length ≤ 100000 := of_decide_eq_true h
 simp only [Qsv, rng_0 hl, Qac, Int.toNat_zero, List.drop_zero, ixAlg]
 cases fstG (fun x => idAlg x s) l <;> simp [Qac, Qaf]
def QtQ : Ent := QfO [.ty (.sl Qau), .fn 93 [(50000, 0)]] [QaF] (fun x d => (okAlg x.1 d.1)) (fun x d => (.t tI (ixAlg x.1 d.1)))
theorem QIa : Meets Tryz.prog 92 (strip QtQ) := Qcn (QaQ (R := runF Qev Qnu QuE false) (mG Tryz.func92 (by kernel_rfl) Tryz.ntmps92 (by kernel_rfl) QJE QJe) fun x d hok => (QOc x.1 d.1).trans (QMg x.1 d.1 hok))
def QaT (e : Qab) (c : Int) : Int × Bool := bif ine (QaP c).2 0 then (-1, false) else (ixAlg (eIds e) (QaP c).1, ige (ixAlg (eIds e) (QaP c).1) 0)
def idnOk (e : Qab) (_c : Int) : Bool := decide ((eIds e).length ≤ 100000)
noncomputable def QDB : TC := (.sq (.reg (rT Tryz.f56 0)) (.sq (.reg (rT Tryz.f56 1)) (.sq (.sq (.reg (rT Tryz.f56 2)) (.cd (.t 15) (.sq (.reg (rT Tryz.f56 3)) .rt) .sk)) (.sq (.reg (rT Tryz.f56 4)) (.sq (.reg (rT Tryz.f56 5)) .rt)))))
def QQj : List (RV × Option Ty) := [((.t 4), some tI), ((.t 5), some .bool)]
def g_f56 : G := ⟨TYs, [], 23, EL [(85, QtT), (92, QtQ)], keeps, (fun _ _ => none), IL [], RL []⟩
def r_f56 (p0 : Qab) (p1 : Int) : Option (V × List VO) :=
 let a1 := ixAlg p0.2.2.2.2.2.1 ((QaP p1).1)
 br (ine ((QaP p1).2) 0) (some (.tu [(.t tI (-1)), (.t .bool false)], [])) (br (okAlg p0.2.2.2.2.2.1 ((QaP p1).1)) (some (.tu [(.t tI a1), (.t .bool (ige a1 0))], [])) none)
theorem e_f56 (p0 : Qab) (p1 : Int) : runF g_f56 QDB QQj false [.t Qae p0, .t tI p1] [] = r_f56 p0 p1 := by kernel_rfl
theorem QvK : Qai Tryz.prog 56 := .inr ⟨by decide, _, Tryz.func56, by kernel_rfl, by kernel_rfl⟩
theorem gk_f56 : GOk Tryz.prog g_f56 := Qal _ (gA (gC QA4 QzO (gC QJT QIa gN)))
theorem lk_f56 : QDB.lok g_f56 := by repeat (first | exact trivial | refine ⟨?_, ?_⟩)
theorem s_f56 (e : Qab) (c : Int) (h : idnOk e c = true) : r_f56 e c = some (.tu [.t tI (QaT e c).1, .t .bool (QaT e c).2], []) := by
 have hk : okAlg (eIds e) (QaP c).1 = true := h
 simp only [r_f56, hk, Qac]
 unfold QaT
 cases ine (QaP c).2 0 <;> rfl
def QqV : Ent := spec (.pr Qae (.pr tI .nil)) (fun x => (idnOk x.1 x.2.1)) (fun x => (.tu [(.t tI ((QaT x.1 x.2.1).1)), (.t .bool ((QaT x.1 x.2.1).2))]))
theorem QuY : Meets Tryz.prog 56 (strip QqV) := Qag (R := runF g_f56 QDB QQj false) (mG Tryz.func56 (by kernel_rfl) Tryz.ntmps56 (by kernel_rfl) gk_f56 lk_f56) fun x hok => (e_f56 x.1 x.2.1).trans (s_f56 x.1 x.2.1 hok)
def lenEE (e : Qab) (o : List Int) : Bool := decide ((eIds e).length ≤ 100000 ∧ (Qax e).length ≤ 100000 ∧ o.length ≤ 100000)
def posE (e : Qab) (o : List Int) (v c : Int) : Bool :=
 ieq (QaP c).2 0 && (ige v (QaP c).1.2.2.2.2.2.2.1 && (ige (QaP c).1.2.2.2.2.2.2.2.1 v && (hasF o c && (hasF (Qax e) c && (QaT e c).2))))
abbrev tkE (t : Talk) : Qab := t.1
abbrev tkV (t : Talk) : Int := t.2.1
abbrev tkO (t : Talk) : List Int := t.2.2.1
def possF (t : Talk) (c : Int) : Bool := posE (tkE t) (tkO t) (tkV t) c
def Qei (t : Talk) (_c : Int) : Bool := lenEE (tkE t) (tkO t)
noncomputable def QDo : TC := (.sq (.reg (rT Tryz.f90 0)) (.sq (.reg (rT Tryz.f90 1)) (.sq (.sq (.reg (rT Tryz.f90 2)) (.cd (.t 44) (.sq (.reg (rT Tryz.f90 3)) .rt) .sk)) (.sq (.reg (rT Tryz.f90 4)) (.sq (.reg (rT Tryz.f90 5)) .rt)))))
def QP6 : List (RV × Option Ty) := [((.t 4), some .bool)]
def g_f90 : G := ⟨TYs, [], 53, EL [(56, QqV), (85, QtT), (101, QkI)], keeps, (fun _ _ => none), IL [], RL []⟩
def r_f90 (p0 : Talk) (p1 : Int) : Option (V × List VO) :=
 let a1 := ((((((((QaP p1).1).2).2).2).2).2).2)
 br (ine ((QaP p1).2) 0) (some (.t .bool false, [])) (br (ilt p0.2.1 (a1.1)) (some (.t .bool false, [])) (br (igt p0.2.1 ((a1.2).1)) (some (.t .bool false, [])) (br (QbR p0.2.2.1 p1) (br (!(hasF p0.2.2.1 p1)) (some (.t .bool false, [])) (br (QbR p0.1.2.2.2.1 p1) (br (!(hasF p0.1.2.2.2.1 p1)) (some (.t .bool false, [])) (br (idnOk p0.1 p1) (some (.t .bool ((QaT p0.1 p1).2), [])) none)) none)) none)))
theorem e_f90 (p0 : Talk) (p1 : Int) : runF g_f90 QDo QP6 false [.t QeO p0, .t tI p1] [] = r_f90 p0 p1 := by kernel_rfl
theorem QRh : Qai Tryz.prog 90 := .inr ⟨by decide, _, Tryz.func90, by kernel_rfl, by kernel_rfl⟩
theorem gk_f90 : GOk Tryz.prog g_f90 := Qal _ (gA (gC QvK QuY (gC QA4 QzO (gC Qqm Qpu gN))))
theorem lk_f90 : QDo.lok g_f90 := by repeat (first | exact trivial | refine ⟨?_, ?_⟩)
theorem QNI (a b : Int) : ine a b = !ieq a b := rfl
theorem QNJ (a b : Int) : ilt a b = !ige a b := by simp only [ilt, ige]; by_cases h : a < b <;> simp [h] <;> omega
theorem s_f90 (t : Talk) (c : Int) (h : Qei t c = true) : r_f90 t c = some (.t .bool (possF t c), []) := by
 simp only [Qei, lenEE, decide_eq_true_eq] at h
 have c1 : QbR t.2.2.1 c = true := decide_eq_true h.2.2
 have c2 : QbR t.1.2.2.2.1 c = true := decide_eq_true h.2.1
 have c3 : idnOk t.1 c = true := decide_eq_true h.1
 simp only [r_f90, c1, c2, c3, Qac, QNI, QNJ]
 show _ = some (V.t .bool (posE t.1 t.2.2.1 t.2.1 c), [])
 unfold posE
 cases ieq (QaP c).2 0 with
 | false => rfl
 | true =>
  cases ige t.2.1 (QaP c).1.2.2.2.2.2.2.1 with
  | false => rfl
  | true =>
   cases ige (QaP c).1.2.2.2.2.2.2.2.1 t.2.1 with
   | false => rfl
   | true =>
    cases hasF t.2.2.1 c with
    | false => rfl
    | true => cases hasF t.1.2.2.2.1 c <;> rfl
def QD9 : Ent := spec (.pr QeO (.pr tI .nil)) (fun x => (Qei x.1 x.2.1)) (fun x => (.t .bool (possF x.1 x.2.1)))
theorem QQ1 : Meets Tryz.prog 90 (strip QD9) := Qag (R := runF g_f90 QDo QP6 false) (mG Tryz.func90 (by kernel_rfl) Tryz.ntmps90 (by kernel_rfl) gk_f90 lk_f90) fun x hok => (e_f90 x.1 x.2.1).trans (s_f90 x.1 x.2.1 hok)
def Qej (t : Talk) : List Int := tkO t
def Qgh (t : Talk) : List Int := Qax (tkE t)
noncomputable def Qw4 : TC := (.sq (.reg (rT Tryz.f126 0)) (.sq (.reg (rT Tryz.f126 1)) .rt))
def QGu : List (RV × Option Ty) := [((.t 2), some (.sl tI))]
def QAN : G := ⟨TYs, [], 5, EL [], keeps, (fun _ _ => none), IL [], RL []⟩
def QQV (p0 : Talk) : Option (V × List VO) := some (.t (.sl tI) p0.2.2.1, [])
theorem e_f126 (p0 : Talk) : runF QAN Qw4 QGu false [.t QeO p0] [] = QQV p0 := by kernel_rfl
theorem QWv : Qai Tryz.prog 126 := .inr ⟨by decide, _, Tryz.func126, by kernel_rfl, by kernel_rfl⟩
theorem QVz : GOk Tryz.prog QAN := Qal _ (fun p hp => by cases hp)
theorem QT2 : Qw4.lok QAN := by repeat (first | exact trivial | refine ⟨?_, ?_⟩)
theorem s_f126 (t : Talk) : QQV t = some (.t (.sl tI) (Qej t), []) := rfl
def QE8 : Ent := spec (.pr QeO .nil) (fun x => true) (fun x => (.t (.sl tI) (Qej x.1)))
theorem QSN : Meets Tryz.prog 126 (strip QE8) := Qag (R := runF QAN Qw4 QGu false) (mG Tryz.func126 (by kernel_rfl) Tryz.ntmps126 (by kernel_rfl) QVz QT2) fun x _ => (e_f126 x.1).trans (s_f126 x.1)
noncomputable def Qw3 : TC := (.sq (.reg (rT Tryz.f127 0)) (.sq (.reg (rT Tryz.f127 1)) .rt))
def QGt : List (RV × Option Ty) := [((.t 2), some (.sl tI))]
def QAM : G := ⟨TYs, [], 6, EL [], keeps, (fun _ _ => none), IL [], RL []⟩
def QQU (p0 : Talk) : Option (V × List VO) := some (.t (.sl tI) p0.1.2.2.2.1, [])
theorem e_f127 (p0 : Talk) : runF QAM Qw3 QGt false [.t QeO p0] [] = QQU p0 := by kernel_rfl
theorem QWu : Qai Tryz.prog 127 := .inr ⟨by decide, _, Tryz.func127, by kernel_rfl, by kernel_rfl⟩
theorem QVy : GOk Tryz.prog QAM := Qal _ (fun p hp => by cases hp)
theorem QT1 : Qw3.lok QAM := by repeat (first | exact trivial | refine ⟨?_, ?_⟩)
theorem s_f127 (t : Talk) : QQU t = some (.t (.sl tI) (Qgh t), []) := rfl
def QE7 : Ent := spec (.pr QeO .nil) (fun x => true) (fun x => (.t (.sl tI) (Qgh x.1)))
theorem QSM : Meets Tryz.prog 127 (strip QE7) := Qag (R := runF QAM Qw3 QGt false) (mG Tryz.func127 (by kernel_rfl) Tryz.ntmps127 (by kernel_rfl) QVy QT1) fun x _ => (e_f127 x.1).trans (s_f127 x.1)
def QcM (c s : Qab) : Bool := QaW c && QaW s
def Qbw (c s : Qab) : Bool := Qa7 c && Qa7 s
noncomputable def QDt : TC := (.sq (.reg (rT Tryz.f82 0)) (.sq (.reg (rT Tryz.f82 1)) .rt))
def QQb : List (RV × Option Ty) := [((.t 4), some .bool)]
def g_f82 : G := ⟨TYs, [], 13, EL [(76, Qzn)], keeps, (fun _ _ => none), IL [], RL []⟩
def r_f82 (p0 p1 : Qab) : Option (V × List VO) := br (Qa7 p0) (br (ieq (QeB p0) 0) (br (Qa7 p1) (some (.t .bool (ieq (QeB p1) 0), [])) none) (some (.t .bool false, []))) none
theorem e_f82 (p0 p1 : Qab) : runF g_f82 QDt QQb false [.t Qae p0, .t Qae p1] [] = r_f82 p0 p1 := by kernel_rfl
theorem QJW : Qai Tryz.prog 82 := .inr ⟨by decide, _, Tryz.func82, by kernel_rfl, by kernel_rfl⟩
theorem gk_f82 : GOk Tryz.prog g_f82 := Qal _ (gA (gC QJY QIf gN))
theorem lk_f82 : QDt.lok g_f82 := by repeat (first | exact trivial | refine ⟨?_, ?_⟩)
theorem s_f82 (c s : Qab) (h : Qbw c s = true) : r_f82 c s = some (.t .bool (QcM c s), []) := by
 simp only [Qbw, Bool.and_eq_true] at h
 simp only [r_f82, h.1, h.2, Qac, QKL]
 unfold QcM
 cases QaW c <;> rfl
def Qzm : Ent := spec (.pr Qae (.pr Qae .nil)) (fun x => (Qbw x.1 x.2.1)) (fun x => (.t .bool (QcM x.1 x.2.1)))
theorem QId : Meets Tryz.prog 82 (strip Qzm) := Qag (R := runF g_f82 QDt QQb false) (mG Tryz.func82 (by kernel_rfl) Tryz.ntmps82 (by kernel_rfl) gk_f82 lk_f82) fun x hok => (e_f82 x.1 x.2.1).trans (s_f82 x.1 x.2.1 hok)
end
end Go.Proofs.YtckcgijklnloiaaGreat.K
namespace Go.Proofs.YtckcgijklnloiaaGreat.K
open Go.RowKit
noncomputable section
def okPos (l : List Int) (t : Talk) : Bool := decide (l.length ≤ 100000) && lenEE (tkE t) (tkO t)
def ixPos (l : List Int) (t : Talk) : Int := match fstG (possF t) l with | some k => (k : Int) | none => -1
def QcX : Fg := ⟨[(0, some (.sl tI)), (1, none), (7, some tI), (8, some tI)], []⟩
noncomputable def QdK : TC := (.sq (.reg (rT Tryz.f128 2)) (.sq (.cd (.t 9) .sk (.fg ⟨[], []⟩ (.ex 0))) (.sq (.bk 1 (.sq (.reg (rT Tryz.f128 3)) (.sq (.reg (rT Tryz.f128 4)) (.cd (.t 16) (.sq (.reg (rT Tryz.f128 5)) (.fg ⟨[(4, some tI)], []⟩ .rt)) .sk)))) (.reg (rT Tryz.f128 6)))))
noncomputable def QkF : TC := (.sq (.reg (rT Tryz.f128 0)) (.sq (.sq (.reg (rT Tryz.f128 1)) (.bk 0 (.lp 0 QcX QdK))) (.sq (.reg (rT Tryz.f128 7)) .rt)))
def Qq4 : List (RV × Option Ty) := [((.t 4), some tI)]
abbrev Qgd : Sh := ⟨[(0, .ty (.sl tI)), (1, .bf 90 QeO), (7, .ty tI), (8, .ty tI)], []⟩
def Qf1 (x0 : List Int) (x1 : Talk) (x7 x8 : Int) : VS := Qgd.st (x0, x1, x7, x8, ()) ()
abbrev Ql0 : Sh := ⟨[(4, .ty tI)], []⟩
def Qb0 (x4 : Int) : VS := Ql0.st (x4, ()) ()
abbrev QoM : Sh := ⟨[], []⟩
def Qck  : VS := QoM.st () ()
def Qzg : VS → Option (Bool × List (Bool × Exit × VS)) := mkL Qgd (fun x y => (rngOk x.1 x.2.2.1 x.2.2.2.1 && okPos x.1 x.2.1)) (fun x y => [(((fstG (possF x.2.1) (x.1.drop x.2.2.2.1.toNat)).isSome), .ret, Qb0 (x.2.2.2.1 + ((fstG (possF x.2.1) (x.1.drop x.2.2.2.1.toNat)).getD 0 : Nat))), (true, .exit 0, Qck)])
def QcS : G := ⟨TYs, [], 19, EL [(90, QD9)], keeps, (Ls [Qzg]), IL [], RL []⟩
def Qqw (x0 : List Int) (x1 : Talk) (x7 x8 : Int) : Option (Exit × VS) :=
 let a1 := lgt tI x0 (Int.toNat x8)
 br (ilt x8 x7) (br (cIx x0 x8) (br (Qei x1 a1) (br (possF x1 a1) (some (.ret, Qb0 x8)) (some (.normal, Qf1 x0 x1 x7 (iadd .i64 x8 1)))) none) none) (some (.exit 0, Qck))
noncomputable def Qeo (x0 : List Int) (x1 : Talk) (x7 x8 : Int) : Option (Exit × VS) := loopF (Qak QcS QcX QdK) (Qf1 x0 x1 x7 x8)
noncomputable def Qfs (x0 : List Int) (x1 : Talk) (x7 x8 : Int) : Option (Exit × VS) :=
 let a1 := lgt tI x0 (Int.toNat x8)
 br (ilt x8 x7) (br (cIx x0 x8) (br (Qei x1 a1) (br (possF x1 a1) (some (.ret, Qb0 x8)) (Qeo x0 x1 x7 (iadd .i64 x8 1))) none) none) (some (.exit 0, Qck))
def Qes (x0 : List Int) (x1 : Talk) (x7 x8 : Int) : Option (Exit × VS) :=
 let a1 := fstG (possF x1) (x0.drop x8.toNat)
 br (a1.isSome) (some (.ret, Qb0 (x8 + (a1.getD 0 : Nat)))) <| some (.exit 0, Qck)
theorem QvY (x0 : List Int) (x1 : Talk) (x7 x8 : Int) : Qak QcS QcX QdK (Qf1 x0 x1 x7 x8) = Qqw x0 x1 x7 x8 := by kernel_rfl
theorem Qlk (x0 : List Int) (x1 : Talk) (x7 x8 : Int) : Qeo x0 x1 x7 x8 = Qfs x0 x1 x7 x8 := (Qao _ _).trans (by
 rw [QvY]
 simp only [Qqw, Qfs, Qay, nxt_n, nxt_r, nxt_e, nxt_0]
 rfl)
def Qpd (p0 : List Int) (p1 : Talk) : Option (V × List VO) :=
 let a1 := (fstG (possF p1) (p0.drop (0 : Int).toNat))
 br (rngOk p0 (llen p0) (0 : Int) && okPos p0 p1) (br (a1.isSome) (some (.t tI ((0 : Int) + (a1.getD 0 : Nat)), [])) (some (.t tI (-1), []))) none
theorem QKp (p0 : List Int) (p1 : Talk) : runF QcS QkF Qq4 false [.t (.sl tI) p0, .fn 1000090 [(.t QeO p1)]] [] = Qpd p0 p1 := by kernel_rfl
theorem QCH : Qai Tryz.prog 128 := .inr ⟨by decide, _, Tryz.func128, by kernel_rfl, by kernel_rfl⟩
theorem QCy : GOk Tryz.prog QcS := Qal _ (gA (gC QRh QQ1 gN))
theorem Qyy (x0 : List Int) (x1 : Talk) (x7 x8 : Int) (h : (rngOk x0 x7 x8 && okPos x0 x1) = true) : Qeo x0 x1 x7 x8 = Qes x0 x1 x7 x8 := by
 simp only [Bool.and_eq_true, okPos] at h
 obtain ⟨h0, _, hc⟩ := h
 obtain ⟨rfl, h3, k, rfl, hk⟩ := rng_k h0
 clear h0
 refine Qat x0 (fun k => Qeo x0 x1 (x0.length : Int) (k : Int) = Qes x0 x1 (x0.length : Int) (k : Int)) ?_ ?_ k hk
 ·rw [Qlk]
  simp [Qfs, Qes, Qar, Qaf, fstG]
 ·intro k hk ih
  rw [Qlk]
  have hx : Qei x1 x0[k] = true := hc
  simp only [Qfs, Qar, Qav, hk, decide_true, Qac, Int.toNat_natCast, add1 (show k < 4611686018427387904 by omega), ih, QaA (y := tI) hk, hx]
  simp only [Qes, Int.toNat_natCast, List.drop_eq_getElem_cons hk, fstG]
  cases h : possF x1 x0[k] with
  | true => simp [Qac]
  | false =>
   simp only [Qaf, Bool.false_eq_true, if_false]
   cases hq : fstG (possF x1) (x0.drop (k + 1)) with
   | none => rfl
   | some j =>
    simp only [Option.map_some, Option.isSome_some, Option.getD_some, Qac]
    congr 3
    omega
theorem Qu3 : ∀ S l p, QcS.L 0 (fgt QcX S) = some (true, l) → pickA l = some p → loopF (Qak QcS QcX QdK) S = some p :=
 QaD (s := Qgd) ⟨by decide, by decide⟩ (by kernel_rfl) fun x y hok p hp => by
 simp only [Qaq, Qan] at hp
 exact (Qyy x.1 x.2.1 x.2.2.1 x.2.2.2.1 (by simpa using hok)).trans hp
theorem QCo : QkF.lok QcS := by
 repeat (first | exact trivial | exact Qu3 | refine ⟨?_, ?_⟩)
theorem QFv (l : List Int) (t : Talk) (h : okPos l t = true) : Qpd l t = some (.t tI (ixPos l t), []) := by
 have hl : l.length ≤ 100000 := of_decide_eq_true (Bool.and_eq_true_iff.1 h).1
 simp only [Qpd, rng_0 hl, h, Bool.and_self, Qac, Int.toNat_zero, List.drop_zero, ixPos]
 cases fstG (possF t) l <;> simp [Qac, Qaf]
def QqZ : Ent := specB [.ty (.sl tI), .bf 90 QeO] [] (fun x y => (okPos x.1 x.2.1)) (fun x y => (.t tI (ixPos x.1 x.2.1))) (fun x y => [])
theorem QCi : Meets Tryz.prog 128 (strip QqZ) := QcC (QaU (R := runF QcS QkF Qq4 false) (mG Tryz.func128 (by kernel_rfl) Tryz.ntmps128 (by kernel_rfl) QCy QCo) fun x y hok => (QKp x.1 x.2.1).trans (QFv x.1 x.2.1 hok))
abbrev zK : Keep := (0, (0, ()))
abbrev QdA (s : Qab) (x : Int) : List Qaa := (lgt Qau (eIds s) (QaT s x).1.toNat).2.2.1
def pickE (c s : Qab) (d x : Int) : Int := chkCh (QdA s x) (eAnch c) (eHash c) d s.1
def pickF (c s : Qab) (v d x : Int) : Keep × Int := bif ine (pickE c s d x) 0 then (zK, 29) else ((v, (x, ())), 0)
def overF (c s : Qab) (v d : Int) (o l : List Int) : Keep × Int := match fstG (posE s o v) l with | none => (zK, 28) | some k => pickF c s v d (l.getD k 0)
abbrev outL (s : Qab) (o : List Int) : List Int := bif s.2.2.2.2.1 then Qax s else o
def withF (c s : Qab) (d m : Int) (o : List Int) : Keep × Int :=
 bif !QcM c s then (zK, 19) else bif ilt d 0 then (zK, 2) else bif igt d 40000 then (zK, 2) else bif ilt m 1 then (zK, 2) else bif igt m 4 then (zK, 2) else
 bif ilt (imn m s.2.2.1) c.2.1 then (zK, 27) else bif ilt (imn m s.2.2.1) s.2.1 then (zK, 27) else overF c s (imn m s.2.2.1) d o (outL s o)
def QtG (c s : Qab) (_d _m : Int) (o : List Int) : Bool := Qbw c s && decide (o.length ≤ 100000)
theorem Qbu {e : Qab} (h : Qa7 e = true) : nameG e.1 = true ∧ (Qax e).length ≤ 100000 ∧ (eIds e).length ≤ 100000 ∧ (eAnch e).length ≤ 100000 ∧ (eHash e).length ≤ 100000 ∧ (eIds e).all idLen = true := by
 simp only [Qa7, Bool.and_eq_true, decide_eq_true_eq] at h
 exact ⟨h.1.1, h.1.2.1, h.1.2.2.1, h.1.2.2.2.1, h.1.2.2.2.2, h.2⟩
theorem Qj6 {e : Qab} {c : Int} (h : (QaT e c).2 = true) : ∃ k, (QaT e c).1 = ((k : Nat) : Int) ∧ k < (eIds e).length := by
 unfold QaT ixAlg at h ⊢
 cases hi : ine (QaP c).2 0 with
 | true => rw [hi] at h; cases h
 | false =>
  rw [hi] at h
  cases hq : fstG (fun x => idAlg x (QaP c).1) (eIds e) with
  | none => rw [hq] at h; cases h
  | some k => exact ⟨k, rfl, (QeW hq).1⟩
theorem Qpf {e : Qab} {o : List Int} {v c : Int} (h : posE e o v c = true) : (QaT e c).2 = true := by
 simp only [posE, Bool.and_eq_true] at h
 exact h.2.2.2.2.2
theorem QHU {c s : Qab} {d v x : Int} {o : List Int} (hc : Qa7 c = true) (hs : Qa7 s = true) (h : posE s o v x = true) : cIx (eIds s) (QaT s x).1 = true ∧ QdF (QdA s x) (eAnch c) (eHash c) d s.1 = true := by
 obtain ⟨k, hk, hl⟩ := Qj6 (Qpf h)
 obtain ⟨_, _, _, h4, h5, _⟩ := Qbu hc
 have h6 := (Qbu hs).2.2.2.2.2
 unfold QdA
 rw [hk, Qav, Int.toNat_natCast, QaA (y := Qau) hl]
 refine ⟨decide_eq_true hl, ?_⟩
 have := List.all_eq_true.1 h6 _ (List.getElem_mem hl)
 simp only [QdF, Bool.and_eq_true, decide_eq_true_eq]
 exact ⟨this, h4, h5⟩
theorem QJK {e : Qab} {o l : List Int} {v : Int} {k : Nat} (h : fstG (posE e o v) l = some k) : k < l.length ∧ posE e o v (l.getD k 0) = true := by
 obtain ⟨q, h1⟩ := QeW h
 refine ⟨q, ?_⟩
 rw [List.getD_eq_getElem?_getD, List.getElem?_eq_getElem q, Option.getD_some]
 exact h1
theorem eEta (p1 : Qab) : (p1.1, (p1.2.1, (p1.2.2.1, (p1.2.2.2.1, (p1.2.2.2.2.1, (p1.2.2.2.2.2.1, (p1.2.2.2.2.2.2.1, (p1.2.2.2.2.2.2.2.1, (p1.2.2.2.2.2.2.2.2.1, ()))))))))) = p1 := rfl
def outKI (p : Keep × Int) : Option (V × List VO) := some (.tu [.t Qah p.1, .t tI p.2], [])
theorem brT {a : Bool} {X Y : Option (V × List VO)} {x y : Keep × Int} (hx : X = outKI x) (hy : Y = outKI y) : br a X Y = outKI (bif a then x else y) := by
 cases a
 ·exact hy
 ·exact hx
noncomputable def QOk : List DO := dT Tryz.f83 15
noncomputable def QOj : List DO := dT Tryz.f83 16
noncomputable def QOi : List DO := dT Tryz.f83 18
noncomputable def QDs : TC := (.sq (.reg (rT Tryz.f83 0)) (.sq (.bk 0 (.sq (.reg (rT Tryz.f83 1)) (.cd (.t 18) (.sq (.reg (rT Tryz.f83 2)) .rt) (.sq (.reg (rT Tryz.f83 3)) (.cd (.t 24) (.sq (.reg (rT Tryz.f83 4)) .rt) .sk))))) (.sq (.reg (rT Tryz.f83 5)) (.sq (.sq (.reg (rT Tryz.f83 6)) (.cd (.t 58) (.sq (.reg (rT Tryz.f83 7)) .rt) .sk)) (.sq (.reg (rT Tryz.f83 8)) (.sq (.sq (.reg (rT Tryz.f83 9)) (.cd (.t 63) (.reg (rT Tryz.f83 10)) .sk)) (.sq (.reg (rT Tryz.f83 11)) (.sq (.reg (rT Tryz.f83 12)) (.sq (.sq (.reg (rT Tryz.f83 13)) (.cd (.t 73) (.sq (.reg (rT Tryz.f83 14)) .rt) .sk)) (.sq (.dr QOk [(0, [6]), (1, []), (2, []), (3, []), (4, []), (5, []), (6, []), (7, []), (8, []), (9, []), (10, [])] (.of [0, 1, 2, 3, 4, 5, 6, 7, 8, 9, 10])) (.sq (.sq (.dr QOj [(0, [6]), (1, [6]), (2, []), (3, []), (4, []), (5, []), (6, [5]), (7, [5]), (8, [5]), (9, [5]), (10, []), (11, [6]), (12, [6]), (13, []), (14, [])] (.of [0, 1, 2, 3, 4, 5, 6, 7, 8, 9, 10, 11, 12, 13, 14])) (.cd (.t 98) (.sq (.reg (rT Tryz.f83 17)) .rt) .sk)) (.sq (.dr QOi [(0, [12]), (1, [12]), (2, []), (3, []), (4, []), (5, []), (6, []), (7, [10]), (8, [])] (.of [0, 1, 2, 3, 4, 5, 6, 7, 8])) .rt))))))))))))
def QQa : List (RV × Option Ty) := [((.c 10 true 2), some Qah), ((.t 11), some tI)]
def g_f83 : G := ⟨TYs, [], 107, EL [(56, QqV), (57, QEb), (82, Qzm), (126, QE8), (127, QE7), (128, QqZ)], keeps, (fun _ _ => none), IL [], RL []⟩
def r_f83 (p0 p1 : Qab) (p2 p3 : Int) (p4 : List Int) : Option (V × List VO) :=
 let a6 := imn p3 p1.2.2.1
 let a1 := ((p1.1, (p1.2.1, (p1.2.2.1, (p1.2.2.2.1, (p1.2.2.2.2.1, (p1.2.2.2.2.2.1, (p1.2.2.2.2.2.2.1, (p1.2.2.2.2.2.2.2.1, (p1.2.2.2.2.2.2.2.2.1, ()))))))))), (a6, (p4, ())))
 let a7 := ixPos (Qej a1) a1
 let a2 := lgt tI (Qej a1) (Int.toNat a7)
 let a8 := ixPos (Qgh a1) a1
 let a3 := lgt tI (Qgh a1) (Int.toNat a8)
 let a4 := ((((lgt Qau p1.2.2.2.2.2.1 (Int.toNat ((QaT p1 a3).1))).2).2).1)
 let a5 := ((((lgt Qau p1.2.2.2.2.2.1 (Int.toNat ((QaT p1 a2).1))).2).2).1)
 br (Qbw p0 p1) (br (!(QcM p0 p1)) (some (.tu [(.t Qah (0, (0, ()))), (.t tI 19)], [])) (br (ilt p2 0) (some (.tu [(.t Qah (0, (0, ()))), (.t tI 2)], [])) (br (igt p2 40000) (some (.tu [(.t Qah (0, (0, ()))), (.t tI 2)], [])) (br (ilt p3 1) (some (.tu [(.t Qah (0, (0, ()))), (.t tI 2)], [])) (br (igt p3 4) (some (.tu [(.t Qah (0, (0, ()))), (.t tI 2)], [])) (br (ilt a6 p0.2.1) (some (.tu [(.t Qah (0, (0, ()))), (.t tI 27)], [])) (br (ilt a6 p1.2.1) (some (.tu [(.t Qah (0, (0, ()))), (.t tI 27)], [])) (br (p1.2.2.2.2.1) (br (okPos (Qgh a1) a1) (br (ilt a8 0) (some (.tu [(.t Qah (0, (0, ()))), (.t tI 28)], [])) (br (cIx (Qgh a1) a8) (br (idnOk p1 a3) (br (cIx p1.2.2.2.2.2.1 ((QaT p1 a3).1)) (br (QdF a4 p0.2.2.2.2.2.2.1 p0.2.2.2.2.2.2.2.1 p2 p1.1) (br (ine (chkCh a4 p0.2.2.2.2.2.2.1 p0.2.2.2.2.2.2.2.1 p2 p1.1) 0) (some (.tu [(.t Qah (0, (0, ()))), (.t tI 29)], [])) (br (cIx (Qgh a1) a8) (some (.tu [(.t Qah (a6, (a3, ()))), (.t tI 0)], [])) none)) none) none) none) none)) none) (br (okPos (Qej a1) a1) (br (ilt a7 0) (some (.tu [(.t Qah (0, (0, ()))), (.t tI 28)], [])) (br (cIx (Qej a1) a7) (br (idnOk p1 a2) (br (cIx p1.2.2.2.2.2.1 ((QaT p1 a2).1)) (br (QdF a5 p0.2.2.2.2.2.2.1 p0.2.2.2.2.2.2.2.1 p2 p1.1) (br (ine (chkCh a5 p0.2.2.2.2.2.2.1 p0.2.2.2.2.2.2.2.1 p2 p1.1) 0) (some (.tu [(.t Qah (0, (0, ()))), (.t tI 29)], [])) (br (cIx (Qej a1) a7) (some (.tu [(.t Qah (a6, (a2, ()))), (.t tI 0)], [])) none)) none) none) none) none)) none))))))))) none
theorem e_f83 (p0 p1 : Qab) (p2 p3 : Int) (p4 : List Int) : runF g_f83 QDs QQa false [.t Qae p0, .t Qae p1, .t tI p2, .t tI p3, .t (.sl tI) p4] [] = r_f83 p0 p1 p2 p3 p4 := by kernel_rfl
theorem en_f83 : Qai Tryz.prog 83 := .inr ⟨by decide, _, Tryz.func83, by kernel_rfl, by kernel_rfl⟩
theorem gk_f83 : GOk Tryz.prog g_f83 := Qal _ (gA (gC QvK QuY (gC QRj QQ3 (gC QJW QId (gC QWv QSN (gC QWu QSM (gC QCH QCi gN)))))))
theorem lk_f83 : QDs.lok g_f83 := by repeat (first | exact trivial | refine ⟨?_, ?_⟩)
theorem s_f83 (c s : Qab) (d m : Int) (o : List Int) (h : QtG c s d m o = true) : r_f83 c s d m o = some (.tu [.t Qah (withF c s d m o).1, .t tI (withF c s d m o).2], []) := by
 simp only [QtG, Bool.and_eq_true, decide_eq_true_eq] at h
 obtain ⟨hr, ho⟩ := h
 obtain ⟨hc, hs⟩ := Bool.and_eq_true_iff.1 hr
 have hs' := Qbu hs
 have hle : lenEE s o = true := decide_eq_true ⟨hs'.2.2.1, hs'.2.1, ho⟩
 have hid : ∀ x, idnOk s x = true := fun x => decide_eq_true hs'.2.2.1
 have hb1 : ∀ v, okPos (Qax s) (s, (v, (o, ()))) = true := fun v => Bool.and_eq_true_iff.2 ⟨decide_eq_true hs'.2.1, hle⟩
 have hb2 : ∀ v, okPos o (s, (v, (o, ()))) = true := fun v => Bool.and_eq_true_iff.2 ⟨decide_eq_true ho, hle⟩
 have hp : ∀ v, possF (s, (v, (o, ()))) = posE s o v := fun v => rfl
 simp only [r_f83, eEta, Qgh, Qej, tkE, tkO, hr, Qac, hb1, hb2, hid, ixPos, hp]
 show _ = outKI (withF c s d m o)
 have hg : ∀ (l : List Int) (k : Nat), lgt tI l k = l.getD k 0 := fun _ _ => rfl
 unfold withF
 refine brT rfl <| brT rfl <| brT rfl <| brT rfl <| brT rfl <| brT rfl <| brT rfl ?_
 cases hw : s.2.2.2.2.1 with
 | true =>
  rw [Qac]
  rw [show outL s o = Qax s by unfold outL; rw [hw]; rfl]
  unfold overF
  cases hq : fstG (posE s o (imn m s.2.2.1)) (Qax s) with
  | none => rfl
  | some k =>
   obtain ⟨hk, hp⟩ := QJK hq
   obtain ⟨h1, h2⟩ := QHU (d := d) hc hs hp
   simp only [show ilt (k : Int) 0 = false from decide_eq_false (by omega), Qaf, Qav, hk, decide_true, Qac, Int.toNat_natCast, hg, h1]
   refine Eq.trans (congrArg (fun b => br b _ _) h2) ?_
   rw [Qac]
   exact brT rfl rfl
 | false =>
  rw [Qaf]
  rw [show outL s o = o by unfold outL; rw [hw]; rfl]
  unfold overF
  cases hq : fstG (posE s o (imn m s.2.2.1)) (o) with
  | none => rfl
  | some k =>
   obtain ⟨hk, hp⟩ := QJK hq
   obtain ⟨h1, h2⟩ := QHU (d := d) hc hs hp
   simp only [show ilt (k : Int) 0 = false from decide_eq_false (by omega), Qaf, Qav, hk, decide_true, Qac, Int.toNat_natCast, hg, h1]
   refine Eq.trans (congrArg (fun b => br b _ _) h2) ?_
   rw [Qac]
   exact brT rfl rfl
def QPF : Ent := spec (.pr Qae (.pr Qae (.pr tI (.pr tI (.pr (.sl tI) .nil))))) (fun x => (QtG x.1 x.2.1 x.2.2.1 x.2.2.2.1 x.2.2.2.2.1)) (fun x => (.tu [(.t Qah ((withF x.1 x.2.1 x.2.2.1 x.2.2.2.1 x.2.2.2.2.1).1)), (.t tI ((withF x.1 x.2.1 x.2.2.1 x.2.2.2.1 x.2.2.2.2.1).2))]))
theorem ms_f83 : Meets Tryz.prog 83 (strip QPF) := Qag (R := runF g_f83 QDs QQa false) (mG Tryz.func83 (by kernel_rfl) Tryz.ntmps83 (by kernel_rfl) gk_f83 lk_f83) fun x hok => (e_f83 x.1 x.2.1 x.2.2.1 x.2.2.2.1 x.2.2.2.2.1).trans (s_f83 x.1 x.2.1 x.2.2.1 x.2.2.2.1 x.2.2.2.2.1 hok)
def QaM (c s : Qab) (d : Int) : Keep × Int := withF c s d c.2.2.1 (Qax c)
def QfK (c s : Qab) (_d : Int) : Bool := Qbw c s
theorem Qbv {c : Qab} (h : QaW c = true) : 1 ≤ c.2.1 ∧ c.2.1 ≤ c.2.2.1 ∧ c.2.2.1 ≤ 4 := by
 simp only [QaW, Bool.and_eq_true, Bool.not_eq_true'] at h
 obtain ⟨_, h1, h2, h3, _⟩ := h
 have h1 := of_decide_eq_false h1
 have h2 := of_decide_eq_false h2
 have h3 := of_decide_eq_false h3
 omega
noncomputable def QDM : TC := (.sq (.reg (rT Tryz.f42 0)) (.sq (.sq (.reg (rT Tryz.f42 1)) (.cd (.t 11) (.sq (.reg (rT Tryz.f42 2)) .rt) .sk)) (.sq (.reg (rT Tryz.f42 3)) .rt)))
def QQu : List (RV × Option Ty) := [((.c 6 true 2), some Qah), ((.t 7), some tI)]
def g_f42 : G := ⟨TYs, [], 23, EL [(82, Qzm), (83, QPF)], keeps, (fun _ _ => none), IL [], RL []⟩
def r_f42 (p0 p1 : Qab) (p2 : Int) : Option (V × List VO) :=
 let a1 := withF p0 p1 p2 p0.2.2.1 p0.2.2.2.1
 br (Qbw p0 p1) (br (!(QcM p0 p1)) (some (.tu [(.t Qah (0, (0, ()))), (.t tI 19)], [])) (br (QtG p0 p1 p2 p0.2.2.1 p0.2.2.2.1) (some (.tu [(.t Qah (a1.1)), (.t tI (a1.2))], [])) none)) none
theorem e_f42 (p0 p1 : Qab) (p2 : Int) : runF g_f42 QDM QQu false [.t Qae p0, .t Qae p1, .t tI p2] [] = r_f42 p0 p1 p2 := by kernel_rfl
theorem QRn : Qai Tryz.prog 42 := .inr ⟨by decide, _, Tryz.func42, by kernel_rfl, by kernel_rfl⟩
theorem gk_f42 : GOk Tryz.prog g_f42 := Qal _ (gA (gC QJW QId (gC en_f83 ms_f83 gN)))
theorem lk_f42 : QDM.lok g_f42 := by repeat (first | exact trivial | refine ⟨?_, ?_⟩)
theorem s_f42 (c s : Qab) (d : Int) (h : QfK c s d = true) : r_f42 c s d = some (.tu [.t Qah (QaM c s d).1, .t tI (QaM c s d).2], []) := by
 have hr : Qbw c s = true := h
 have hw : QtG c s d c.2.2.1 (Qax c) = true := Bool.and_eq_true_iff.2 ⟨h, decide_eq_true (Qbu (Bool.and_eq_true_iff.1 h).1).2.1⟩
 simp only [r_f42, hr, hw, Qac]
 show _ = outKI (QaM c s d)
 unfold QaM withF
 cases QcM c s <;> rfl
def QEf : Ent := spec (.pr Qae (.pr Qae (.pr tI .nil))) (fun x => (QfK x.1 x.2.1 x.2.2.1)) (fun x => (.tu [(.t Qah ((QaM x.1 x.2.1 x.2.2.1).1)), (.t tI ((QaM x.1 x.2.1 x.2.2.1).2))]))
theorem QQ7 : Meets Tryz.prog 42 (strip QEf) := Qag (R := runF g_f42 QDM QQu false) (mG Tryz.func42 (by kernel_rfl) Tryz.ntmps42 (by kernel_rfl) gk_f42 lk_f42) fun x hok => (e_f42 x.1 x.2.1 x.2.2.1).trans (s_f42 x.1 x.2.1 x.2.2.1 hok)
def usesL (e : Qab) (c : Int) : List Keep :=
 [bif ieq (QaP c).1.2.2.1.2.1 0 then ((QaP c).1.2.2.1.1, ((lgt Qau (eIds e) (QaT e c).1.toNat).1.2.1, ())) else (QaP c).1.2.2.1, (lgt Qau (eIds e) (QaT e c).1.toNat).1, (QaP c).1.2.2.2.2.1, (QaP c).1.2.2.2.2.2.1]
def usesF (e : Qab) (o : Keep) : List Keep × Int :=
 bif !QaW e then ([], 19) else bif ine (QaP o.2.1).2 0 then ([], (QaP o.2.1).2) else bif !(QaT e o.2.1).2 then ([], 4) else (usesL e o.2.1, 0)
def Qzj (e : Qab) (_o : Keep) : Bool := Qa7 e
def outLI (p : List Keep × Int) : Option (V × List VO) := some (.tu [.t (.sl Qah) p.1, .t tI p.2], [])
theorem QRy {e : Qab} {c : Int} (h : (QaT e c).2 = true) : cIx (eIds e) (QaT e c).1 = true := by
 obtain ⟨k, hk, hl⟩ := Qj6 h
 rw [hk, Qav]
 exact decide_eq_true hl
noncomputable def QDE : TC := (.sq (.reg (rT Tryz.f50 0)) (.sq (.sq (.reg (rT Tryz.f50 1)) (.sq (.reg (rT Tryz.f50 2)) (.cd (.t 15) (.sq (.reg (rT Tryz.f50 3)) .rt) .sk))) (.sq (.reg (rT Tryz.f50 4)) (.sq (.sq (.reg (rT Tryz.f50 5)) (.cd (.t 24) (.sq (.reg (rT Tryz.f50 6)) .rt) .sk)) (.sq (.reg (rT Tryz.f50 7)) (.sq (.sq (.reg (rT Tryz.f50 8)) (.cd (.t 34) (.sq (.reg (rT Tryz.f50 9)) .rt) .sk)) (.sq (.reg (rT Tryz.f50 10)) (.sq (.sq (.reg (rT Tryz.f50 11)) (.cd (.t 44) (.reg (rT Tryz.f50 12)) .sk)) (.sq (.reg (rT Tryz.f50 13)) .rt)))))))))
def QQm : List (RV × Option Ty) := [((.t 4), some (.sl Qah)), ((.t 5), some tI)]
def g_f50 : G := ⟨TYs, [], 57, EL [(56, QqV), (76, Qzn), (85, QtT)], keeps, (fun _ _ => none), IL [], RL []⟩
def r_f50 (p0 : Qab) (p1 : Keep) : Option (V × List VO) :=
 let a1 := ((lgt Qau p0.2.2.2.2.2.1 (Int.toNat ((QaT p0 p1.2.1).1))).1)
 let a2 := ((((QaP p1.2.1).1).2).2)
 let a3 := (((((a2.2).2).2).1).1, ((((((a2.2).2).2).1).2).1, ()))
 let a4 := ((((a2.2).2).1).1, (((((a2.2).2).1).2).1, ()))
 let a5 := ((a1.2).1, ())
 br (Qa7 p0) (br (ine (QeB p0) 0) (some (.tu [(.t (.sl Qah) ([] : List Keep)), (.t tI (QeB p0))], [])) (br (ine ((QaP p1.2.1).2) 0) (some (.tu [(.t (.sl Qah) ([] : List Keep)), (.t tI ((QaP p1.2.1).2))], [])) (br (idnOk p0 p1.2.1) (br (!((QaT p0 p1.2.1).2)) (some (.tu [(.t (.sl Qah) ([] : List Keep)), (.t tI 4)], [])) (br (cIx p0.2.2.2.2.2.1 ((QaT p0 p1.2.1).1)) (br (ieq (((a2.1).2).1) 0) (some (.tu [(.t (.sl Qah) ([((a2.1).1, a5), (a1.1, a5), a4, a3])), (.t tI 0)], [])) (some (.tu [(.t (.sl Qah) ([((a2.1).1, (((a2.1).2).1, ())), (a1.1, a5), a4, a3])), (.t tI 0)], []))) none)) none))) none
theorem e_f50 (p0 : Qab) (p1 : Keep) : runF g_f50 QDE QQm false [.t Qae p0, .t Qah p1] [] = r_f50 p0 p1 := by kernel_rfl
theorem en_f50 : Qai Tryz.prog 50 := .inr ⟨by decide, _, Tryz.func50, by kernel_rfl, by kernel_rfl⟩
theorem gk_f50 : GOk Tryz.prog g_f50 := Qal _ (gA (gC QvK QuY (gC QJY QIf (gC QA4 QzO gN))))
theorem lk_f50 : QDE.lok g_f50 := by repeat (first | exact trivial | refine ⟨?_, ?_⟩)
theorem s_f50 (e : Qab) (o : Keep) (h : Qzj e o = true) : r_f50 e o = some (.tu [.t (.sl Qah) (usesF e o).1, .t tI (usesF e o).2], []) := by
 have hr : Qa7 e = true := h
 have hid : ∀ x, idnOk e x = true := fun x => decide_eq_true (Qbu hr).2.2.1
 simp only [r_f50, hr, hid, Qac, QvU]
 show _ = outLI (usesF e o)
 unfold usesF QeB
 cases QaW e with
 | false => rfl
 | true =>
  rw [Bool.not_true, Qaf, cond_false]
  cases ine (QaP o.2.1).2 0 with
  | true => rfl
  | false =>
   rw [Qaf, cond_false]
   cases hi : (QaT e o.2.1).2 with
   | false => rfl
   | true =>
    rw [Bool.not_true, Qaf, cond_false]
    refine Eq.trans (congrArg (fun b => br b _ _) (QRy hi)) ?_
    rw [Qac]
    unfold usesL
    cases ieq (QaP o.2.1).1.2.2.1.2.1 0 <;> rfl
def QPL : Ent := spec (.pr Qae (.pr Qah .nil)) (fun x => (Qzj x.1 x.2.1)) (fun x => (.tu [(.t (.sl Qah) ((usesF x.1 x.2.1).1)), (.t tI ((usesF x.1 x.2.1).2))]))
theorem ms_f50 : Meets Tryz.prog 50 (strip QPL) := Qag (R := runF g_f50 QDE QQm false) (mG Tryz.func50 (by kernel_rfl) Tryz.ntmps50 (by kernel_rfl) gk_f50 lk_f50) fun x hok => (e_f50 x.1 x.2.1).trans (s_f50 x.1 x.2.1 hok)
end
end Go.Proofs.YtckcgijklnloiaaGreat.K
namespace Go.Proofs.YtckcgijklnloiaaGreat.K
open Go.RowKit
noncomputable section
theorem brN {β : Type} {p q : Bool} {X : Option β} : br p (br q X none) none = br (p && q) X none := by cases p <;> rfl
def QtL (c : Int) : Int := bif ine (QaP c).2 0 then 0 else strF (QaP c).1.2.2.2.2.1
def insK (x : Int) (l : List Int) : Nat → Nat
 | 0 => 0
 | k + 1 => if ilt (QtL (l.getD k 0)) (QtL x) = true then insK x l k else k + 1
def insS (l : List Int) (x : Int) : List Int := (l.take (insK x l l.length) ++ [x]) ++ l.drop (insK x l l.length)
def sortS (l : List Int) : List Int := l.foldl insS []
-- loop 0: (x0 : (List Int)) (x4 : Int) (x5 : Int) (y3 : (List Int)); out: ('exit', 2) (x0 : (List Int)) (x4 : Int) (x5 : Int) (y3 : (List Int))
-- loop 1: (x0 : (List Int)) (x4 : Int) (y3 : (List Int)); out: ('exit', 0) (y3 : (List Int))
end
end Go.Proofs.YtckcgijklnloiaaGreat.K
namespace Go.Proofs.YtckcgijklnloiaaGreat.K
open Go.RowKit
noncomputable section
theorem QRQ {d : Dice} {l : List Int} (h : dOk d = true) (h1 : l ≠ []) (h2 : l.length ≤ 100) : ofOk d l = true := by
 have : 0 < l.length := List.length_pos_iff.2 h1
 simp only [ofOk, h, Bool.true_and, decide_eq_true_eq]
 omega
theorem Qgr {d : Dice} {n : Int} (h : dOk d = true) (hn : n ≤ 1000000) : QaS d n = true := by
 simp only [QaS, h, Bool.true_and, decide_eq_true_eq]
 omega
theorem QzI {d : Dice} {n : Int} (h : dOk d = true) (h0 : 0 ≤ n) (hn : n ≤ 1000000) : oneOk d n = true := by
 simp only [oneOk, Qgr h hn, Bool.true_and, decide_eq_true_eq]
 omega
abbrev kAlg (d : Dice) : Int := dof d [5, 7, 5, 6, 8, 9]
def keyV (d : Dice) : Keep := (kAlg d, (sizeV (dofN d [5, 7, 5, 6, 8, 9]) (kAlg d), ()))
def keyN (d : Dice) : Dice := sizeN (dofN d [5, 7, 5, 6, 8, 9]) (kAlg d)
abbrev cD1 (d : Dice) : Dice := dnext d 1000
abbrev cD2 (d : Dice) : Dice := dofN (cD1 d) [3, 2, 4, 1]
abbrev cD3 (d : Dice) : Dice := dofN (cD2 d) [0, 5, 10]
abbrev cD4 (d : Dice) : Dice := dofN (cD3 d) [1000, 100, 50, 20]
def cD5 (d : Dice) (a : Bool) : Dice := bif a then dofN (cD4 d) [3, 0, 1] else cD4 d
def cPath (d : Dice) (a : Bool) : Int := bif a then dof (cD4 d) [3, 0, 1] else 0
def cNm (d : Dice) (a : Bool) (s : ByteArray) : List ByteArray := bif done (cD5 d a) 3 then [s, scat s (ByteArray.mk #[120])] else [s]
def cRaw (d : Dice) (i s : ByteArray) (k : Keep) (id : Int) (a : Bool) : Qaa :=
 (dval d 1000, (i, (s, (k, (id, ((dof (cD1 d) [3, 2, 4, 1], (0, ())), (dof (cD2 d) [0, 5, 10], (dof (cD3 d) [1000, 100, 50, 20], (a, (cPath d a, (cNm d a s, ((0, (0, ())), ()))))))))))))
def cerV (d : Dice) (i s : ByteArray) (k : Keep) (id g : Int) (a : Bool) : Qaa := (signC (cRaw d i s k id a) g).1
def cerN (d : Dice) (_i _s : ByteArray) (_k : Keep) (_id _g : Int) (a : Bool) : Dice := dnext (cD5 d a) 3
theorem Qy5 {i s : ByteArray} {k : Keep} {id : Int} {a : Bool} {q p : Int} {u v : Keep} {x y : Int} (hi : i.size ≤ 1000) (hs : s.size ≤ 1000) {l : List ByteArray} (hl : l.length ≤ 2) (hn : ∀ t ∈ l, t.size ≤ 1001) :
  QaG (q, (i, (s, (k, (id, (u, (x, (y, (a, (p, (l, (v, ())))))))))))) = true := by
 have hg : ∀ t : ByteArray, t.size ≤ 1001 → nameG t = true := fun t ht => decide_eq_true (by omega)
 simp only [QaG, Bool.and_eq_true]
 refine ⟨hg _ (by omega), hg _ (by omega), ?_⟩
 simp only [Qb5, Bool.and_eq_true, List.all_eq_true]
 exact ⟨decide_eq_true (by show l.length ≤ _; omega), fun t ht => hg t (hn t ht)⟩
end
end Go.Proofs.YtckcgijklnloiaaGreat.K
namespace Go.Proofs.YtckcgijklnloiaaGreat.K
open Go.RowKit
noncomputable section
abbrev sRoot : ByteArray := ByteArray.mk #[114, 111, 111, 116]
abbrev sSubs : List ByteArray := [ByteArray.mk #[99, 97], ByteArray.mk #[99, 98], ByteArray.mk #[99, 99]]
abbrev Up : Type := List Qaa × Dice × ByteArray × Int
def abvZ : Nat → Nat → Up → Up
 | 0, _, u => u
 | m + 1, i, (ab, d, iss, g) => abvZ m (i + 1) (cerV d iss (sSubs.getD i ByteArray.empty) (5, (2048, ())) ((11 + i : Nat) : Int) g true :: ab, cerN d iss (sSubs.getD i ByteArray.empty) (5, (2048, ())) ((11 + i : Nat) : Int) g true, sSubs.getD i ByteArray.empty, ((11 + i : Nat) : Int))
def chU (d : Dice) : Up := abvZ (dof d [1, 0, 2]).toNat 0 ([], dnext (dofN d [1, 0, 2]) 2, sRoot, 1 + dval (dofN d [1, 0, 2]) 2)
def chnV (d : Dice) (nm : ByteArray) (k : Keep) (id : Int) : List Qaa := cerV (chU d).2.1 (chU d).2.2.1 nm k id (chU d).2.2.2 false :: (chU d).1
def chnN (d : Dice) (nm : ByteArray) (k : Keep) (id : Int) : Dice := cerN (chU d).2.1 (chU d).2.2.1 nm k id (chU d).2.2.2 false
-- loop 0: (x1 : ByteArray) (x3 : Int) (x9 : Int) (x10 : Int) (x11 : ByteArray) (x13 : Int) (y6 : Keep) (y12 : (List Qaa)) (y50000 : Dice); out: ('exit', 0) (x1 : ByteArray) (x3 : Int) (x10 : Int) (x11 : ByteArray) (y6 : Keep) (y12 : (List Qaa)) (y50000 : Dice)
end
end Go.Proofs.YtckcgijklnloiaaGreat.K
namespace Go.Proofs.YtckcgijklnloiaaGreat.K
open Go.RowKit
noncomputable section
def suZ : Nat → List Int → Dice → List Int × Dice
 | 0, l, d => (l, d)
 | n + 1, l, d => suZ n (bif !hasF l (1 + dval d 16) then l ++ [1 + dval d 16] else l) (dnext d 16)
def suI (d : Dice) : List Int × Dice := suZ (2 + dval d 9).toNat [] (dnext d 9)
def suiV (d : Dice) : List Int := bif done (suI d).2 4 then sortS (suI d).1 else (suI d).1
def suiN (d : Dice) : Dice := dnext (suI d).2 4
-- loop 0: (x4 : Int) (y3 : (List Int)) (y50000 : Dice); out: ('exit', 0) (y3 : (List Int)) (y50000 : Dice)
end
end Go.Proofs.YtckcgijklnloiaaGreat.K
namespace Go.Proofs.YtckcgijklnloiaaGreat.K
open Go.RowKit
noncomputable section
abbrev iB (d : Dice) : Bool := igt (dval (keyN d) 3) 0
abbrev iD2 (d : Dice) : Dice := dnext (keyN d) 3
abbrev iA (d : Dice) : Int := dof (iD2 d) [5, 7]
def iKey (d : Dice) : Keep := bif iB d then (iA d, (sizeV (dofN (iD2 d) [5, 7]) (iA d), ())) else keyV d
def iD3 (d : Dice) : Dice := bif iB d then sizeN (dofN (iD2 d) [5, 7]) (iA d) else iD2 d
def iId (d : Dice) : Int := 100 + dval (iD3 d) 20
abbrev iD4 (d : Dice) : Dice := dnext (iD3 d) 20
abbrev iD5 (d : Dice) : Dice := dnext (iD4 d) 9
def iCh (d : Dice) (nm : ByteArray) : List Qaa := bif !done (iD4 d) 9 then chnV (iD5 d) nm (iKey d) (iId d) else []
def iD6 (d : Dice) (nm : ByteArray) : Dice := bif !done (iD4 d) 9 then chnN (iD5 d) nm (iKey d) (iId d) else iD5 d
def idV (d : Dice) (nm : ByteArray) : QaC := (iKey d, (iId d, (iCh d nm, ())))
def idsZ : Nat → ByteArray → Dice → List QaC × Dice
 | 0, _, d => ([], d)
 | n + 1, nm, d => (idV d nm :: (idsZ n nm (iD6 d nm)).1, (idsZ n nm (iD6 d nm)).2)
abbrev eL0 (d : Dice) : Int := dof d [1, 1, 2, 3]
abbrev eD1 (d : Dice) : Dice := dofN d [1, 1, 2, 3]
abbrev eD2 (d : Dice) : Dice := suiN (eD1 d)
abbrev eD3 (d : Dice) : Dice := dnext (eD2 d) 2
abbrev eD4 (d : Dice) : Dice := dnext (eD3 d) 2
abbrev eD5 (d : Dice) : Dice := dnext (eD4 d) (5 - eL0 d)
abbrev eD6 (d : Dice) : Dice := dnext (eD5 d) 3
abbrev eB (d : Dice) : Bool := igt (dval (eD5 d) 3) 0
def eLst (d : Dice) : Int := bif eB d then 1 else eL0 d
def eMst (d : Dice) : Int := bif eB d then dof (eD6 d) [3, 4, 2] else eL0 d + dval (eD4 d) (5 - eL0 d)
def eD7 (d : Dice) : Dice := bif eB d then dofN (eD6 d) [3, 4, 2] else eD6 d
abbrev eD8 (d : Dice) : Dice := dofN (eD7 d) [1, 2, 1, 3, 0]
def eIdz (d : Dice) (nm : ByteArray) : List QaC × Dice := idsZ (dof (eD7 d) [1, 2, 1, 3, 0]).toNat nm (eD8 d)
abbrev eAn (d : Dice) (nm : ByteArray) : List Int := lgt (.sl tI) [[1, 2], [1, 2], [1], [2, 11], ([] : List Int)] (dval (eIdz d nm).2 5).toNat
abbrev eD10 (d : Dice) (nm : ByteArray) : Dice := dnext (eIdz d nm).2 5
abbrev eHs (d : Dice) (nm : ByteArray) : List Int := lgt (.sl tI) [[1, 2, 3, 4], [2, 3, 4], [3, 4]] (dval (eD10 d nm) 3).toNat
def epV (d : Dice) (nm : ByteArray) : Qab := (nm, (eLst d, (eMst d, (suiV (eD1 d), (done (eD2 d) 2, ((eIdz d nm).1, (eAn d nm, (eHs d nm, (done (eD3 d) 2, ())))))))))
def epN (d : Dice) (nm : ByteArray) : Dice := dnext (eD10 d nm) 3
-- loop 0: (x1 : ByteArray) (x6 : Int) (y4 : Qab) (y5_0 : ByteArray) (y5_1 : Int) (y5_2 : Int) (y5_4 : Bool) (y5_8 : Bool) (y15 : (List Int)) (y20505 : (List QaC)) (y50000 : Dice); out: ('exit', 0) (y4 : Qab) (y5_0 : ByteArray) (y5_1 : Int) (y5_2 : Int) (y5_4 : Bool) (y5_8 : Bool) (y15 : (List Int)) (y20505 : (List QaC)) (y50000 : Dice)
end
end Go.Proofs.YtckcgijklnloiaaGreat.K
namespace Go.Proofs.YtckcgijklnloiaaGreat.K
open Go.RowKit
noncomputable section
def prZ : List Int → List Int → Dice → List Int × Dice
 | [], s, d => (s, d)
 | x :: r, s, d => if ilt (llen s) 16 = true then (if hasF s x = true then prZ r s d else if done d 2 = true then prZ r (s ++ [x]) (dnext d 2) else prZ r s (dnext d 2)) else (s, d)
end
end Go.Proofs.YtckcgijklnloiaaGreat.K
namespace Go.Proofs.YtckcgijklnloiaaGreat.K
open Go.RowKit
noncomputable section
end
end Go.Proofs.YtckcgijklnloiaaGreat.K
namespace Go.Proofs.YtckcgijklnloiaaGreat.K
open Go.RowKit
noncomputable section
end
end Go.Proofs.YtckcgijklnloiaaGreat.K
namespace Go.Proofs.YtckcgijklnloiaaGreat.K
open Go.RowKit
noncomputable section
def rowC (s : Qab) (o : List Int) (v : Int) (k : Nat) : List Keep := ((List.range' k (17 - k)).filter fun (j : Nat) => posE s o v (j : Int)).map fun (j : Nat) => (v, ((j : Int), ()))
def verC (s : Qab) (o : List Int) (v n : Nat) : List Keep := (List.range' v n).flatMap fun (j : Nat) => rowC s o (j : Int) 1
abbrev hiC (c s : Qab) : Int := imn c.2.2.1 s.2.2.1
abbrev loC (c s : Qab) : Int := imx c.2.1 s.2.1
def Qa3 (c s : Qab) : List Keep := bif !QcM c s then [] else verC s (Qax c) (loC c s).toNat (hiC c s + 1 - loC c s).toNat
-- loop 0: (x6 : Int) (x7 : Int) (y2 : Qab) (y3 : Qab) (y5 : (List Keep)); out: ('exit', 2) (x6 : Int) (y2 : Qab) (y3 : Qab) (y5 : (List Keep))
-- loop 1: (x6 : Int) (y2 : Qab) (y3 : Qab) (y5 : (List Keep)); out: ('exit', 0) (y5 : (List Keep))
end
end Go.Proofs.YtckcgijklnloiaaGreat.K
namespace Go.Proofs.YtckcgijklnloiaaGreat.K
open Go.RowKit
noncomputable section
theorem QFh (l : List Int) : (sortI l).Pairwise (· ≤ ·) := by
 have := List.pairwise_mergeSort (le := fun x y : Int => decide (x ≤ y)) (fun a b c h1 h2 => by simp only [decide_eq_true_eq] at *; omega) (fun a b => by simp only [Bool.or_eq_true, decide_eq_true_eq]; omega) l
 exact this.imp fun h => of_decide_eq_true h
theorem QtZ {l : List Int} {p : Int → Bool} (hn : l.Nodup) (hr : ∀ x ∈ l, 1 ≤ x ∧ x ≤ 16) (hp : ∀ x, p x = true → x ∈ l) : (sortI l).filter p = (((List.range' 1 16).filter fun (j : Nat) => p (j : Int)).map fun (j : Nat) => (j : Int)) := by
 have hperm : (sortI l).Perm l := List.mergeSort_perm _ _
 refine List.Perm.eq_of_pairwise (le := (· ≤ ·)) (fun a b _ _ h1 h2 => by omega) ((QFh l).filter _) ?_ ?_
 ·rw [List.pairwise_map]
  refine List.Pairwise.filter _ ?_
  refine (List.pairwise_lt_range' (s := 1) (n := 16)).imp fun h => by omega
 ·refine (List.perm_ext_iff_of_nodup ((hperm.nodup_iff.2 hn).filter _) ?_).2 fun a => ?_
  ·rw [List.nodup_iff_pairwise_ne, List.pairwise_map]
   refine List.Pairwise.filter _ ?_
   refine (List.pairwise_lt_range' (s := 1) (n := 16)).imp fun h => by omega
  ·simp only [List.mem_filter, List.mem_map, List.mem_range'_1, hperm.mem_iff]
   constructor
   ·rintro ⟨h1, h2⟩
    have := hr a h1
    exact ⟨a.toNat, ⟨by omega, by rw [Int.toNat_of_nonneg (by omega)]; exact h2⟩, Int.toNat_of_nonneg (by omega)⟩
   ·rintro ⟨j, ⟨_, h2⟩, rfl⟩
    exact ⟨hp _ h2, h2⟩
def rowS (s : Qab) (o : List Int) (v : Int) (l : List Int) : List Keep := (l.filter fun j => posE s o v j).map fun j => (v, (j, ()))
theorem QL3 {l : List Int} (h : suitF l = true) : ∀ x ∈ l, 1 ≤ x ∧ x ≤ 16 := by
 intro x hx
 obtain ⟨k, hk, rfl⟩ := List.mem_iff_getElem.1 hx
 exact (QkH h k hk).1
theorem QRK {s : Qab} {o : List Int} {v : Int} (h : suitF o = true) : rowS s o v (sortI o) = rowC s o v 1 := by
 unfold rowS rowC
 rw [QtZ (p := fun j => posE s o v j) (QqS h) (QL3 h) (fun x hx => by
  simp only [posE, Bool.and_eq_true] at hx
  exact List.contains_iff_mem.1 hx.2.2.2.1), List.map_map]
 rfl
theorem QBT {c : Qab} (h : QaW c = true) : suitF (Qax c) = true := by
 simp only [QaW, Bool.and_eq_true] at h
 exact h.2.2.2.2.1
end
end Go.Proofs.YtckcgijklnloiaaGreat.K
namespace Go.Proofs.YtckcgijklnloiaaGreat.K
open Go.RowKit Go.Shelf
attribute [local go_sem] Oper.semAt_some
set_option maxRecDepth 100000 in
set_option maxHeartbeats 1000000 in
theorem Qzi (Bs b0 off c n : Nat) (A : Option Addr) (vs : List Value) (Xf : Nat → Nat → Prop) (w : World) (hreach : n * 8 ≤ 140737488351232) (hvl : vs.length = n)
  (hBs : w.cell? ⟨Bs, 0, none⟩ = some (.slice A n c)) (hBl : Bs < w.heap.size)
  (hA : 0 < n → A = some ⟨b0, off, none⟩ ∧ b0 < w.heap.size ∧ (∀ j, j < vs.length → ¬ Xf b0 (off + j)) ∧ ∀ j v, vs[j]? = some v → w.cell? ⟨b0, off + j, none⟩ = some v) :
  ItOk Tryz.prog 136 [.pointer (some ⟨Bs, 0, none⟩)] (vs.map fun v => #[v]) Xf w := by
 intro l J Jx W hJ hJx hK hY h0 hst
 have HA := Lib.hid hA
 clear hA
 refine callsIn_of_wp (F := Fw none) Tryz.func136 rfl trivial ?_ rfl
 simp only [Tryz.ntmps136, List.size_toArray, List.length_cons, List.length_nil, Nat.reduceAdd, Nat.reduceSub, Array.replicate_succ, Array.replicate_zero, List.push_toArray, List.append_toArray, List.nil_append, List.cons_append]
 have hb0 : W.cell? ⟨Bs, 0, none⟩ = some (.slice A n c) := (hst Bs 0 hBl).trans hBs
 gi_wp2
 gi_loopw [7] (fun i wr => ∃ k : Nat, k ≤ n ∧ i = .int .i64 (k : Int) ∧ J ((vs.drop k).map fun v => #[v]) wr)
  (fun i _ => n - (intOf i).toNat)
 case atStart => exact ⟨0, Nat.zero_le _, rfl, h0⟩
 case round =>
  obtain ⟨k, hk, rfl, hJs⟩ := hrel
  by_cases hlt : k < n
  ·obtain ⟨rfl, hbl, hnx, hcl⟩ := HA.out (by omega)
   have hlt2 : k < vs.length := by omega
   rw [List.drop_eq_getElem_cons hlt2, List.map_cons] at hJs
   obtain ⟨fn, tmps, assign, body, hy, hR⟩ := hY _ _ wr hJs
   have hcx' : wr.cell? ⟨b0, off + k, none⟩ = some vs[k] := ((hK _ wr hJs).2 b0 _ hbl (hnx _ hlt2)).trans (hcl _ _ (List.getElem?_eq_getElem hlt2))
   clear hnx hcl hY
   gi_wp2
   refine hR.mono ?_
   rintro e W3 (⟨rfl, hJ3⟩ | ⟨rfl, hJx3⟩)
   ·gi_wp2
    go_roundw
    case rel => exact ⟨k + 1, by omega, by simp, hJ3⟩
    case measure => simp [intOf]; omega
   ·gi_wp2
    refine bodyPost_ret (results_none rfl _ _ _) rfl ?_
    exact ⟨⟨_, rfl⟩, .inr hJx3⟩
  ·obtain rfl : k = n := by omega
   rw [List.drop_of_length_le (by omega)] at hJs
   gi_wp2
   go_end0
   exact ⟨⟨_, rfl⟩, .inl hJs⟩
def mkIt (l : List SV) (bs : List Ty) (yr : Ty) (ok : boxT bs → Bool) (f : boxT bs → List yr.T) : Itr := fun caps objs =>
 match rdVt l caps, Qbt bs objs with
 | some _, some d => some (ok d, ⟨yr, f d⟩)
 | _, _ => none
def QfR (l : List Int) : Bool := decide (l.length ≤ 100000)
def valI (l : List Int) : List (Int × Unit) := l.map fun x => (x, ())
def Qna : Itr := mkIt [.ptr 50000 0] [(.sl tI)] (.pr tI .nil) (fun d => (QfR d.1)) (fun d => (valI d.1))
noncomputable def QDp : TC := (.sq (.reg (rT Tryz.f89 0)) (.sq (.reg (rT Tryz.f89 1)) .rt))
def QP7 : List (RV × Option Ty) := [((.t 2), none)]
def g_f89 : G := ⟨TYs, [], 4, EL [], keeps, (fun _ _ => none), IL [], RL []⟩
def r_f89 (p0 : List Int) : Option (V × List VO) := some (.fn 136 [(.ptr 50000 0)], [.box (.t (.sl tI) p0)])
theorem e_f89 (p0 : List Int) : runF g_f89 QDp QP7 true [.t (.sl tI) p0] [] = r_f89 p0 := by kernel_rfl
theorem en_f89 : Qai Tryz.prog 89 := .inr ⟨by decide, _, Tryz.func89, by kernel_rfl, by kernel_rfl⟩
theorem gk_f89 : GOk Tryz.prog g_f89 := Qal _ (fun p hp => by cases hp)
theorem lk_f89 : QDp.lok g_f89 := by repeat (first | exact trivial | refine ⟨?_, ?_⟩)
def QPD : Ent := specO (.pr (.sl tI) .nil) (fun _ => true) (fun x => .fn 136 [.ptr 50000 0]) (fun x => [.box (.t (.sl tI) x.1)])
theorem ms_f89 : Meets Tryz.prog 89 (strip QPD) := Qpw (R := runF g_f89 QDp QP7 true) (mG Tryz.func89 (by kernel_rfl) Tryz.ntmps89 (by kernel_rfl) gk_f89 lk_f89) fun x _ => (e_f89 x.1).trans rfl
theorem QKO (l : List Int) : l.flatMap tI.cells = l.map fun x => D.v (.int .i64 x) := by
 induction l with
 | nil => rfl
 | cons x r ih => rw [List.flatMap_cons, ih, List.map_cons]; rfl
theorem QJr : Iters Tryz.prog (136 + 1000000) Qna := by
 refine Iters.strong (enters_of Tryz.func136 (by kernel_rfl) rfl) fun caps objs yr rows h X w σ lb hfin hl hc => ?_
 unfold Qna mkIt at h
 split at h
 ·rename_i x d hx hd
  simp only [Option.some.injEq, Prod.mk.injEq] at h
  obtain ⟨hok, h⟩ := h
  cases h
  have hcaps := QkN hx
  subst hcaps
  cases objs with
  | nil => simp [Qbt] at hd
  | cons o os =>
   cases o with
   | box cv =>
    cases os with
    | cons o2 os => simp [Qbt] at hd
    | nil =>
     simp only [Qbt] at hd
     split at hd
     ·rename_i l u hl1 _
      simp only [Option.some.injEq] at hd
      subst hd
      have hlen : l.length ≤ 100000 := of_decide_eq_true hok
      have hcv := SV.rd_mk (s := .ty (.sl tI)) (v := cv) (x := l) (by simpa [asBox, Ty.row] using hl1)
      subst hcv
      obtain ⟨⟨Bs, ty, us, h1, h2, h3, h4⟩, _⟩ := hl.at_ 0 _ rfl
      have h3' : Cs X w σ [.sl (List.length l) (List.flatMap tI.cells l)] us := h3
      obtain ⟨uv, rfl, h5⟩ := h3'.one
      simp only [C] at h5
      obtain ⟨A, c, rfl, g1, g2, g3, g4⟩ := h5
      simp only [mkVt, SV.mk, V.ds, V.d, Cs, C] at hc
      obtain ⟨p, ps, rfl, ⟨b', e1, rfl⟩, rfl⟩ := hc
      have h1 : σ 50000 = .box Bs := h1
      rw [h1] at e1
      injection e1 with e1
      subst e1
      have hcell : w.cell? ⟨Bs, 0, none⟩ = some (.slice A (List.length l) c) := by simp [World.cell?, h2]
      have hBl := (Array.getElem?_eq_some_iff.1 h2).1
      rcases Nat.eq_zero_or_pos (List.length l) with h0 | hp
      ·have hl0 : l = [] := List.eq_nil_of_length_eq_zero h0
       subst hl0
       exact ⟨[], ⟨rfl, fun i r v hr => by simp [valI] at hr⟩, Qzi Bs 0 0 c 0 A [] _ w (by omega) rfl hcell hBl (fun h => absurd h (by omega))⟩
      ·obtain ⟨b0, off, vs, rfl, g5, g6⟩ := g4 hp
       have hvl := g5.len
       rw [QKO, List.length_map] at hvl
       refine ⟨vs.map fun v => #[v], ⟨by simp [valI, hvl], fun i r v hr hv => ?_⟩, Qzi Bs b0 off c (List.length l) _ vs _ w (by omega) hvl hcell hBl (fun _ => ⟨rfl, g6.lt, fun j hj hx => g6.nx j hj hx, fun j v hv => g6.at_ j v hv⟩)⟩
       rw [QKO] at g5
       simp only [valI, List.getElem?_map, Option.map_eq_some_iff] at hr hv
       obtain ⟨x, hx, rfl⟩ := hr
       obtain ⟨u, hu, rfl⟩ := hv
       have hd : (l.map fun x => D.v (.int .i64 x))[i]? = some (.v (.int .i64 x)) := by rw [List.getElem?_map, hx]; rfl
       obtain ⟨u2, hu2, hcu⟩ := g5.at_ hd
       rw [hu] at hu2
       injection hu2 with hu2
       subst hu2
       simp only [Ty.canon, V.ds, V.d, Cs]
       refine ⟨_, _, rfl, ?_, rfl⟩
       rw [(C.v hcu).1]
       simp only [Ty.d, C]
       exact ⟨trivial, rfl⟩
     ·cases hd
   | no => simp [Qbt] at hd
   | arr e t l => simp [Qbt] at hd
 ·cases h
end Go.Proofs.YtckcgijklnloiaaGreat.K
namespace Go.Proofs.YtckcgijklnloiaaGreat.K
open Go.RowKit
noncomputable section
def idL (l : List Int) : List Int := l
def sortL (l : List Int) : List Int := sortI l
def Qbf : Fg := ⟨[(2, none)], [(60000, none), (11, none), (20200, none), (50000, some (.sl tI))]⟩
noncomputable def Qda : TC := (.reg (rT Tryz.f160 2))
noncomputable def Qc9 : TC := (.bk 1 (.reg (rT Tryz.f160 3)))
noncomputable def QhZ : TC := (.sq (.reg (rT Tryz.f160 0)) (.sq (.sq (.reg (rT Tryz.f160 1)) (.bk 0 (.nf 2 0 3 20200 (.rf 0 Qbf (.t 6) (.pr tI .nil) [7] [2] Qda Qc9)))) (.sq (.reg (rT Tryz.f160 4)) .rt)))
def Qo0 : List (RV × Option Ty) := [((.t 4), none)]
abbrev Qfk : Sh := ⟨[(2, .ptr 60000 0)], [(60000, .bag [.ms 20200]), (11, .no), (20200, .arr 3 tI), (50000, .box (.sl tI))]⟩
def Qfh (y20200 y50000 : List Int) : VS := Qfk.st ((), ()) (((), ()), (), y20200, y50000, ())
abbrev QhL : Sh := ⟨[(2, .ptr 60000 0)], [(60000, .bag [.ms 20200]), (11, .no), (20200, .arr 3 tI), (50000, .box (.sl tI))]⟩
def Qc3 (y20200 y50000 : List Int) : VS := QhL.st ((), ()) (((), ()), (), y20200, y50000, ())
def QeD : VS → List (Ty.T (.pr tI .nil)) → Option (Bool × List (Bool × Exit × VS)) := mkR Qfk (fun zs x y => (decide (zs.length + y.2.2.1.length ≤ 100000))) (fun zs x y => [(true, .normal, Qc3 (y.2.2.1 ++ zs.map (fun z => z.1)) (y.2.2.2.1))])
def QbQ : G := ⟨TYs, [], 13, EL [], keeps, (Ls [fun _ => none]), IL [(1000136, Qna)], (RL [⟨(.pr tI .nil), QeD⟩])⟩
def QlT (z : (Int × Unit)) (y20200 y50000 : List Int) : Option (Exit × VS) := br (cApp y20200 ([z.1]) 8) (some (.normal, Qfh (y20200 ++ ([z.1])) y50000)) none
noncomputable def QfA (zs : List (Int × Unit)) (y20200 y50000 : List Int) : Option (Exit × VS) := Qc4 (Qeh QbQ Qbf (.pr tI .nil) [7] Qda Qc9) zs (Qfh y20200 y50000)
noncomputable def Qgs (z : (Int × Unit)) (zs : List (Int × Unit)) (y20200 y50000 : List Int) : Option (Exit × VS) := br (cApp y20200 ([z.1]) 8) (QfA zs (y20200 ++ ([z.1])) y50000) none
def QfH (zs : List (Int × Unit)) (y20200 y50000 : List Int) : Option (Exit × VS) := some (.normal, Qc3 (y20200 ++ zs.map (fun z => z.1)) (y50000))
theorem QtA (z : (Int × Unit)) (y20200 y50000 : List Int) : Qeh QbQ Qbf (.pr tI .nil) [7] Qda Qc9 z (Qfh y20200 y50000) = QlT z y20200 y50000 := by kernel_rfl
theorem Qta (z : (Int × Unit)) (zs : List (Int × Unit)) (y20200 y50000 : List Int) : QfA (z :: zs) y20200 y50000 = Qgs z zs y20200 y50000 := (Qif _ _ _ _).trans (by
 rw [QtA]
 simp only [QlT, Qgs, Qay, nxt_n, nxt_r, nxt_e, nxt_0]
 rfl)
def QkQ (d0 : List Int) : Option (V × List VO) := br (QfR d0) (br (decide ((valI d0).length + ([] : List Int).length ≤ 100000)) (some (.ms 50001, [.box (.t (.sl tI) (d0)), .arr 3 tI (([] : List Int) ++ (valI d0).map (fun z => z.1))])) none) none
theorem QCL (d0 : List Int) : runF QbQ QhZ Qo0 true [.c (.slice none 0 0), .fn 136 [(.ptr 50000 0)]] [.box (.t (.sl tI) d0)] = QkQ d0 := by kernel_rfl
theorem QyT : Qai Tryz.prog 160 := .inr ⟨by decide, _, Tryz.func160, by kernel_rfl, by kernel_rfl⟩
theorem QyF : GOk Tryz.prog QbQ := Qal _ (fun p hp => by cases hp) [(1000136, Qna)] (by
 intro p hp
 simp only [List.mem_cons, List.not_mem_nil, or_false] at hp
 rcases hp with rfl
 ·exact QJr)
theorem QvA (zs : List (Int × Unit)) (y20200 y50000 : List Int) (h : (decide (zs.length + y20200.length ≤ 100000)) = true) : QfA zs y20200 y50000 = QfH zs y20200 y50000 := by
 induction zs generalizing y20200 with
 | nil =>
  simp only [QfH, List.map_nil, List.append_nil]
  rfl
 | cons z zs ih =>
  rw [Qta]
  have h := of_decide_eq_true h
  rw [List.length_cons] at h
  have c1 : cApp y20200 [z.1] 8 = true := cAppN (by omega) (by simp only [List.length_singleton]; omega)
  simp only [Qgs, c1, Qac]
  rw [ih (y20200 ++ [z.1]) (decide_eq_true (by simp only [List.length_append, List.length_singleton]; omega))]
  simp only [QfH, List.map_cons, List.append_assoc, List.singleton_append]
theorem Qs8 : ∀ S (rows : List (Ty.T (.pr tI .nil))) l p, QbQ.R 0 (fgt Qbf S) (.pr tI .nil) rows = some (true, l) → pickA l = some p → Qc4 (Qeh QbQ Qbf (.pr tI .nil) [7] Qda Qc9) rows (fgt Qbf S) = some p := by
 intro S rows l p hR hp
 rw [show QbQ.R 0 (fgt Qbf S) (.pr tI .nil) rows = QeD (fgt Qbf S) rows from RL_at (l := [⟨(.pr tI .nil), QeD⟩]) (j := 0) (F := QeD) rfl _ _] at hR
 refine Qyj (s := Qfk) ⟨by decide, by decide⟩ (by kernel_rfl) (fun zs x y hok p hp => ?_) S rows l p hR hp
 simp only [Qaq, Qan] at hp
 exact (QvA zs y.2.2.1 y.2.2.2.1 (by first | rfl | simpa using hok)).trans hp
theorem Qyp : QhZ.lok QbQ := by
 repeat (first | exact trivial | exact Qs8 | refine ⟨?_, ?_⟩)
theorem QLR (l : List Int) : (valI l).map (fun z => z.1) = l := by
 unfold valI
 rw [List.map_map]
 exact List.map_id _
theorem QB7 (l : List Int) (h : QfR l = true) : QkQ l = some (.ms 50001, [.box (.t (.sl tI) l), .arr 3 tI (idL l)]) := by
 have hl : l.length ≤ 100000 := of_decide_eq_true h
 have c1 : decide ((valI l).length + ([] : List Int).length ≤ 100000) = true := decide_eq_true (by simp only [valI, List.length_map, List.length_nil]; omega)
 simp only [QkQ, h, Qac]
 refine Eq.trans (congrArg (fun b => br b _ _) c1) ?_
 rw [Qac, List.nil_append, QLR]
 rfl
def Qn5 : Ent := specB [.nl, .fn 136 [(50000, 0)]] [.box (.sl tI)] (fun x y => (QfR y.1)) (fun x y => (.ms 50001)) (fun x y => [.box (.t (.sl tI) y.1), .arr 3 tI (idL y.1)])
theorem Qx3 : Meets Tryz.prog 160 (strip Qn5) := QcC (QaU (R := runF QbQ QhZ Qo0 true) (mG Tryz.func160 (by kernel_rfl) Tryz.ntmps160 (by kernel_rfl) QyF Qyp) fun x y hok => (QCL y.1).trans (QB7 y.1 hok))
noncomputable def Qh0 : TC := (.sq (.reg (rT Tryz.f134 0)) (.sq (.reg (rT Tryz.f134 1)) .rt))
def Qo1 : List (RV × Option Ty) := [((.t 2), none)]
def QhA : G := ⟨TYs, [], 5, EL [(160, Qn5)], keeps, (fun _ _ => none), IL [], RL []⟩
def QkR (d0 : List Int) : Option (V × List VO) := br (QfR d0) (some (.ms 50001, [.box (.t (.sl tI) d0), .arr 3 tI (idL d0)])) none
theorem QCM (d0 : List Int) : runF QhA Qh0 Qo1 true [.fn 136 [(.ptr 50000 0)]] [.box (.t (.sl tI) d0)] = QkR d0 := by kernel_rfl
theorem QyV : Qai Tryz.prog 134 := .inr ⟨by decide, _, Tryz.func134, by kernel_rfl, by kernel_rfl⟩
theorem QyG : GOk Tryz.prog QhA := Qal _ (gA (gC QyT Qx3 gN))
theorem Qyq : Qh0.lok QhA := by repeat (first | exact trivial | refine ⟨?_, ?_⟩)
theorem QB8 (l : List Int) (h : QfR l = true) : QkR l = some (.ms 50001, [.box (.t (.sl tI) l), .arr 3 tI (idL l)]) := by
 simp only [QkR, h, Qac]
def Qn6 : Ent := specB [.fn 136 [(50000, 0)]] [.box (.sl tI)] (fun x y => (QfR y.1)) (fun x y => (.ms 50001)) (fun x y => [.box (.t (.sl tI) y.1), .arr 3 tI (idL y.1)])
theorem Qx5 : Meets Tryz.prog 134 (strip Qn6) := QcC (QaU (R := runF QhA Qh0 Qo1 true) (mG Tryz.func134 (by kernel_rfl) Tryz.ntmps134 (by kernel_rfl) QyG Qyq) fun x y hok => (QCM y.1).trans (QB8 y.1 hok))
noncomputable def QkC : TC := (.sq (.reg (rT Tryz.f88 0)) (.sq (.reg (rT Tryz.f88 1)) (.sq (.reg (rT Tryz.f88 2)) (.sq (.reg (rT Tryz.f88 3)) .rt))))
def Qq1 : List (RV × Option Ty) := [((.t 2), none)]
def Qj8 : G := ⟨TYs, [], 9, EL [(134, Qn6), (135, QE1)], keeps, (fun _ _ => none), IL [], RL []⟩
def Qo8 (d0 : List Int) : Option (V × List VO) := br (QfR d0) (br (lenOk (idL d0)) (some (.ms 50001, [.box (.t (.sl tI) d0), .arr 3 tI (sortI (idL d0))])) none) none
theorem QKm (d0 : List Int) : runF Qj8 QkC Qq1 true [.fn 136 [(.ptr 50000 0)]] [.box (.t (.sl tI) d0)] = Qo8 d0 := by kernel_rfl
theorem QCE : Qai Tryz.prog 88 := .inr ⟨by decide, _, Tryz.func88, by kernel_rfl, by kernel_rfl⟩
theorem QCv : GOk Tryz.prog Qj8 := Qal _ (gA (gC QyV Qx5 (gC QWp QSH gN)))
theorem QCl : QkC.lok Qj8 := by repeat (first | exact trivial | refine ⟨?_, ?_⟩)
theorem QFs (l : List Int) (h : QfR l = true) : Qo8 l = some (.ms 50001, [.box (.t (.sl tI) l), .arr 3 tI (sortL l)]) := by
 have hl : l.length ≤ 100000 := of_decide_eq_true h
 have c1 : lenOk (idL l) = true := decide_eq_true (by show l.length < _; omega)
 simp only [Qo8, h, c1, Qac]
 rfl
def QqU : Ent := specB [.fn 136 [(50000, 0)]] [.box (.sl tI)] (fun x y => (QfR y.1)) (fun x y => (.ms 50001)) (fun x y => [.box (.t (.sl tI) y.1), .arr 3 tI (sortL y.1)])
theorem QCf : Meets Tryz.prog 88 (strip QqU) := QcC (QaU (R := runF Qj8 QkC Qq1 true) (mG Tryz.func88 (by kernel_rfl) Tryz.ntmps88 (by kernel_rfl) QCv QCl) fun x y hok => (QKm y.1).trans (QFs y.1 hok))
end
end Go.Proofs.YtckcgijklnloiaaGreat.K
namespace Go.Proofs.YtckcgijklnloiaaGreat.K
open Go.RowKit
noncomputable section
def rowT (t : Talk) (v : Int) (l : List Int) : List Keep := (l.filter fun j => possF t j).map fun j => (v, (j, ()))
theorem QGI {t : Talk} {v x : Int} {r : List Int} : rowT t v (x :: r) = if possF t x = true then (v, (x, ())) :: rowT t v r else rowT t v r := by
 unfold rowT
 rw [List.filter_cons]
 split <;> rfl
theorem QMo (t : Talk) (v : Int) (l : List Int) : (rowT t v l).length ≤ l.length := by
 unfold rowT
 rw [List.length_map]
 exact List.length_filter_le _ _
def verS (s : Qab) (o l : List Int) (v n : Nat) : List Keep := (List.range' v n).flatMap fun (j : Nat) => rowT (s, ((j : Int), (o, ()))) (j : Int) l
theorem QRw {s : Qab} {o : List Int} {v n : Nat} (h : suitF o = true) : verS s o (sortI o) v n = verC s o v n := by
 unfold verS verC
 congr 1
 funext j
 exact QRK h
def Qki : Fg := ⟨[(2, none), (3, none), (5, none), (6, none), (7, some tI), (8, none), (38, none), (39, some tI), (40, some tI)], [(2, some Qae), (3, some Qae), (5, none), (8, some QeO), (18, none), (52, none), (5018, none), (10018, none), (15018, none)]⟩
noncomputable def Qmd : TC := (.sq (.reg (rT Tryz.f54 9)) (.sq (.cd (.t 41) .sk (.fg ⟨[(2, none), (3, none), (5, none), (6, none), (7, some tI)], [(2, some Qae), (3, some Qae), (5, none), (18, none), (52, none), (5018, none), (10018, none), (15018, none)]⟩ (.ex 2))) (.sq (.bk 3 (.sq (.reg (rT Tryz.f54 10)) (.sq (.reg (rT Tryz.f54 11)) (.cd (.t 46) (.reg (rT Tryz.f54 12)) .sk)))) (.reg (rT Tryz.f54 13)))))
def Qkh : Fg := ⟨[(2, none), (3, none), (5, none), (6, none), (7, some tI)], [(2, some Qae), (3, some Qae), (5, none), (18, none), (52, none), (5018, none), (10018, none), (15018, none)]⟩
noncomputable def Qmc : TC := (.sq (.sq (.reg (rT Tryz.f54 6)) (.cd (.t 30) .sk (.fg ⟨[(5, none)], [(5, none), (52, none)]⟩ (.ex 0)))) (.sq (.bk 1 (.sq (.reg (rT Tryz.f54 7)) (.sq (.reg (rT Tryz.f54 8)) (.bk 2 (.nw 5 39 (.lp 0 Qki Qmd)))))) (.reg (rT Tryz.f54 14))))
noncomputable def QDC : TC := (.sq (.reg (rT Tryz.f54 0)) (.sq (.sq (.reg (rT Tryz.f54 1)) (.cd (.t 14) (.sq (.reg (rT Tryz.f54 2)) .rt) .sk)) (.sq (.reg (rT Tryz.f54 3)) (.sq (.reg (rT Tryz.f54 4)) (.sq (.sq (.reg (rT Tryz.f54 5)) (.bk 0 (.nw 5 39 (.lp 1 Qkh Qmc)))) (.sq (.reg (rT Tryz.f54 15)) .rt))))))
def QQk : List (RV × Option Ty) := [((.t 4), some (.sl Qah))]
abbrev QrZ : Sh := ⟨[(2, .ptr 2 0), (3, .ptr 3 0), (5, .ms 5), (6, .ms 18), (7, .ty tI), (8, .ptr 8 0), (38, .ms 18), (39, .ty tI), (40, .ty tI)], [(2, .box Qae), (3, .box Qae), (5, .arr 39 Qah), (8, .box QeO), (18, .arr 3 tI), (52, .no), (5018, .no), (10018, .no), (15018, .no)]⟩
def Qmq (x7 x39 x40 : Int) (y2 y3 : Qab) (y5 : List Keep) (y8 : Talk) (y18 : List Int) : VS := QrZ.st ((), (), (), (), x7, (), (), x39, x40, ()) (y2, y3, y5, y8, y18, (), (), (), (), ())
abbrev QxD : Sh := ⟨[(2, .ptr 2 0), (3, .ptr 3 0), (5, .ms 5), (6, .ms 18), (7, .ty tI)], [(2, .box Qae), (3, .box Qae), (5, .arr 39 Qah), (18, .arr 3 tI), (52, .no), (5018, .no), (10018, .no), (15018, .no)]⟩
def Qe8 (x7 : Int) (y2 y3 : Qab) (y5 : List Keep) (y18 : List Int) : VS := QxD.st ((), (), (), (), x7, ()) (y2, y3, y5, y18, (), (), (), (), ())
abbrev QrY : Sh := ⟨[(2, .ptr 2 0), (3, .ptr 3 0), (5, .ms 5), (6, .ms 18), (7, .ty tI)], [(2, .box Qae), (3, .box Qae), (5, .arr 39 Qah), (18, .arr 3 tI), (52, .no), (5018, .no), (10018, .no), (15018, .no)]⟩
def QrG (x7 : Int) (y2 y3 : Qab) (y5 : List Keep) (y18 : List Int) : VS := QrY.st ((), (), (), (), x7, ()) (y2, y3, y5, y18, (), (), (), (), ())
abbrev QxC : Sh := ⟨[(5, .ms 5)], [(5, .arr 39 Qah), (52, .no)]⟩
def Qe7 (y5 : List Keep) : VS := QxC.st ((), ()) (y5, (), ())
def QWZ : VS → Option (Bool × List (Bool × Exit × VS)) := mkL QrZ (fun x y => (decide (x.2.2.2.2.2.2.2.1 = (y.2.2.2.2.1.length : Int) ∧ 0 ≤ x.2.2.2.2.2.2.2.2.1 ∧ x.2.2.2.2.2.2.2.2.1 ≤ x.2.2.2.2.2.2.2.1 ∧ y.2.2.2.2.1.length ≤ 16 ∧ (y.2.2.1.length : Int) ≤ 200 + x.2.2.2.2.2.2.2.2.1) && Qei y.2.2.2.1 0)) (fun x y => [(true, .exit 2, Qe8 (x.2.2.2.2.1) (y.1) (y.2.1) (y.2.2.1 ++ rowT y.2.2.2.1 x.2.2.2.2.1 (y.2.2.2.2.1.drop x.2.2.2.2.2.2.2.2.1.toNat)) (y.2.2.2.2.1))])
def QWY : VS → Option (Bool × List (Bool × Exit × VS)) := mkL QrY (fun x y => (decide (1 ≤ x.2.2.2.2.1 ∧ x.2.2.2.2.1 ≤ 5 ∧ hiC y.1 y.2.1 ≤ 4 ∧ (y.2.2.1.length : Int) ≤ 16 * x.2.2.2.2.1 ∧ y.2.2.2.1.length ≤ 16) && lenEE y.2.1 (Qax y.1))) (fun x y => [(true, .exit 0, Qe7 (y.2.2.1 ++ verS y.2.1 (Qax y.1) y.2.2.2.1 x.2.2.2.2.1.toNat (hiC y.1 y.2.1 + 1 - x.2.2.2.2.1).toNat))])
def g_f54 : G := ⟨TYs, [], 55, EL [(82, Qzm), (88, QqU), (89, QPD), (90, QD9)], keeps, (Ls [QWZ, QWY]), IL [], RL []⟩
def QLy (x7 x39 x40 : Int) (y2 y3 : Qab) (y5 : List Keep) (y8 : Talk) (y18 : List Int) : Option (Exit × VS) :=
 let a1 := lgt tI y18 (Int.toNat x40)
 br (ilt x40 x39) (br (cIx y18 x40) (br (cLd y18 (Int.toNat x40)) (br (Qei y8 a1) (br (possF y8 a1) (br (cApp y5 ([(x7, (a1, ()))]) 16) (some (.normal, Qmq x7 x39 (iadd .i64 x40 1) y2 y3 (y5 ++ ([(x7, (a1, ()))])) y8 y18)) none) (some (.normal, Qmq x7 x39 (iadd .i64 x40 1) y2 y3 y5 y8 y18))) none) none) none) (some (.exit 2, Qe8 x7 y2 y3 y5 y18))
noncomputable def Qhs (x7 x39 x40 : Int) (y2 y3 : Qab) (y5 : List Keep) (y8 : Talk) (y18 : List Int) : Option (Exit × VS) := loopF (Qak g_f54 Qki Qmd) (Qmq x7 x39 x40 y2 y3 y5 y8 y18)
noncomputable def QsT (x7 x39 x40 : Int) (y2 y3 : Qab) (y5 : List Keep) (y8 : Talk) (y18 : List Int) : Option (Exit × VS) :=
 let a1 := lgt tI y18 (Int.toNat x40)
 br (ilt x40 x39) (br (cIx y18 x40) (br (cLd y18 (Int.toNat x40)) (br (Qei y8 a1) (br (possF y8 a1) (br (cApp y5 ([(x7, (a1, ()))]) 16) (Qhs x7 x39 (iadd .i64 x40 1) y2 y3 (y5 ++ ([(x7, (a1, ()))])) y8 y18) none) (Qhs x7 x39 (iadd .i64 x40 1) y2 y3 y5 y8 y18)) none) none) none) (some (.exit 2, Qe8 x7 y2 y3 y5 y18))
def QjF (x7 x39 x40 : Int) (y2 y3 : Qab) (y5 : List Keep) (y8 : Talk) (y18 : List Int) : Option (Exit × VS) := some (.exit 2, Qe8 (x7) (y2) (y3) (y5 ++ rowT y8 x7 (y18.drop x40.toNat)) (y18))
theorem QON (x7 x39 x40 : Int) (y2 y3 : Qab) (y5 : List Keep) (y8 : Talk) (y18 : List Int) : Qak g_f54 Qki Qmd (Qmq x7 x39 x40 y2 y3 y5 y8 y18) = QLy x7 x39 x40 y2 y3 y5 y8 y18 := by kernel_rfl
theorem QzX (x7 x39 x40 : Int) (y2 y3 : Qab) (y5 : List Keep) (y8 : Talk) (y18 : List Int) : Qhs x7 x39 x40 y2 y3 y5 y8 y18 = QsT x7 x39 x40 y2 y3 y5 y8 y18 := (Qao _ _).trans (by
 rw [QON]
 simp only [QLy, QsT, Qay, nxt_n, nxt_r, nxt_e, nxt_0]
 rfl)
def QLx (x7 : Int) (y2 y3 : Qab) (y5 : List Keep) (y18 : List Int) : Option (Exit × VS) :=
 let a1 := ((y3.1, (y3.2.1, (y3.2.2.1, (y3.2.2.2.1, (y3.2.2.2.2.1, (y3.2.2.2.2.2.1, (y3.2.2.2.2.2.2.1, (y3.2.2.2.2.2.2.2.1, (y3.2.2.2.2.2.2.2.2.1, ()))))))))), (x7, (y2.2.2.2.1, ())))
 br (ile x7 (imn y2.2.2.1 y3.2.2.1)) (br (decide ((llen y18) = (y18.length : Int) ∧ 0 ≤ (0 : Int) ∧ (0 : Int) ≤ (llen y18) ∧ y18.length ≤ 16 ∧ (y5.length : Int) ≤ 200 + (0 : Int)) && Qei a1 0) (some (.normal, QrG (iadd .i64 (x7) 1) (y2) (y3) (y5 ++ rowT a1 x7 (y18.drop (0 : Int).toNat)) (y18))) none) (some (.exit 0, Qe7 y5))
noncomputable def Qm0 (x7 : Int) (y2 y3 : Qab) (y5 : List Keep) (y18 : List Int) : Option (Exit × VS) := loopF (Qak g_f54 Qkh Qmc) (QrG x7 y2 y3 y5 y18)
noncomputable def Qpk (x7 : Int) (y2 y3 : Qab) (y5 : List Keep) (y18 : List Int) : Option (Exit × VS) :=
 let a1 := ((y3.1, (y3.2.1, (y3.2.2.1, (y3.2.2.2.1, (y3.2.2.2.2.1, (y3.2.2.2.2.2.1, (y3.2.2.2.2.2.2.1, (y3.2.2.2.2.2.2.2.1, (y3.2.2.2.2.2.2.2.2.1, ()))))))))), (x7, (y2.2.2.2.1, ())))
 br (ile x7 (imn y2.2.2.1 y3.2.2.1)) (br (decide ((llen y18) = (y18.length : Int) ∧ 0 ≤ (0 : Int) ∧ (0 : Int) ≤ (llen y18) ∧ y18.length ≤ 16 ∧ (y5.length : Int) ≤ 200 + (0 : Int)) && Qei a1 0) (Qm0 (iadd .i64 (x7) 1) (y2) (y3) (y5 ++ rowT a1 x7 (y18.drop (0 : Int).toNat)) (y18)) none) (some (.exit 0, Qe7 y5))
def QjE (x7 : Int) (y2 y3 : Qab) (y5 : List Keep) (y18 : List Int) : Option (Exit × VS) := some (.exit 0, Qe7 (y5 ++ verS y3 (Qax y2) y18 x7.toNat (hiC y2 y3 + 1 - x7).toNat))
theorem QOM (x7 : Int) (y2 y3 : Qab) (y5 : List Keep) (y18 : List Int) : Qak g_f54 Qkh Qmc (QrG x7 y2 y3 y5 y18) = QLx x7 y2 y3 y5 y18 := by kernel_rfl
theorem QzW (x7 : Int) (y2 y3 : Qab) (y5 : List Keep) (y18 : List Int) : Qm0 x7 y2 y3 y5 y18 = Qpk x7 y2 y3 y5 y18 := (Qao _ _).trans (by
 rw [QOM]
 simp only [QLx, Qpk, Qay, nxt_n, nxt_r, nxt_e, nxt_0]
 rfl)
def r_f54 (p0 p1 : Qab) : Option (V × List VO) :=
 let a1 := imx p0.2.1 p1.2.1
 br (Qbw p0 p1) (br (!(QcM p0 p1)) (some (.t (.sl Qah) ([] : List Keep), [])) (br (QfR p0.2.2.2.1) (br (decide (1 ≤ a1 ∧ a1 ≤ 5 ∧ hiC p0 p1 ≤ 4 ∧ (([] : List Keep).length : Int) ≤ 16 * a1 ∧ (sortL p0.2.2.2.1).length ≤ 16) && lenEE p1 (Qax p0)) (some (.t (.sl Qah) (([] : List Keep) ++ verS p1 (Qax p0) (sortL p0.2.2.2.1) a1.toNat (hiC p0 p1 + 1 - a1).toNat), [])) none) none)) none
theorem e_f54 (p0 p1 : Qab) : runF g_f54 QDC QQk false [.t Qae p0, .t Qae p1] [] = r_f54 p0 p1 := by kernel_rfl
theorem QRk : Qai Tryz.prog 54 := .inr ⟨by decide, _, Tryz.func54, by kernel_rfl, by kernel_rfl⟩
theorem gk_f54 : GOk Tryz.prog g_f54 := Qal _ (gA (gC QJW QId (gC QCE QCf (gC en_f89 ms_f89 (gC QRh QQ1 gN)))))
theorem QUn (x7 x39 x40 : Int) (y2 y3 : Qab) (y5 : List Keep) (y8 : Talk) (y18 : List Int) (h : (decide (x39 = (y18.length : Int) ∧ 0 ≤ x40 ∧ x40 ≤ x39 ∧ y18.length ≤ 16 ∧ (y5.length : Int) ≤ 200 + x40) && Qei y8 0) = true) : Qhs x7 x39 x40 y2 y3 y5 y8 y18 = QjF x7 x39 x40 y2 y3 y5 y8 y18 := by
 obtain ⟨h, hc⟩ := Bool.and_eq_true_iff.1 h
 obtain ⟨rfl, h1, h2, h3, h4⟩ := of_decide_eq_true h
 clear h
 obtain ⟨k, rfl⟩ := Int.eq_ofNat_of_zero_le h1
 have key : ∀ k, k ≤ y18.length → ∀ y5 : List Keep, y5.length ≤ 200 + k → Qhs x7 (y18.length : Int) (k : Int) y2 y3 y5 y8 y18 = QjF x7 (y18.length : Int) (k : Int) y2 y3 y5 y8 y18 := by
  refine Qat y18 (fun k => ∀ y5 : List Keep, y5.length ≤ 200 + k → Qhs x7 (y18.length : Int) (k : Int) y2 y3 y5 y8 y18 = QjF x7 (y18.length : Int) (k : Int) y2 y3 y5 y8 y18) ?_ ?_
  ·intro y5 _
   rw [QzX]
   simp only [QsT, QjF, Qar, Nat.lt_irrefl, decide_false, Qaf, Int.toNat_natCast, List.drop_length, rowT, List.filter_nil, List.map_nil, List.append_nil]
  ·intro k hk ih y5 hy
   rw [QzX]
   have c1 : cLd y18 k = true := decide_eq_true (by omega)
   have c2 : ∀ v, Qei y8 v = true := fun v => hc
   have c3 : ∀ v : Keep, cApp y5 [v] 16 = true := fun v => cAppN (by omega) (by simp only [List.length_singleton]; omega)
   simp only [QsT, Qar, Qav, hk, decide_true, Qac, Int.toNat_natCast, add1 (show k < 4611686018427387904 by omega), QaA (y := tI) hk, c1, c2, c3]
   rw [ih y5 (by omega), ih (y5 ++ [(x7, (y18[k], ()))]) (by simp only [List.length_append, List.length_singleton]; omega)]
   simp only [QjF, Int.toNat_natCast, List.drop_eq_getElem_cons hk, QGI]
   cases possF y8 y18[k] with
   | true => simp only [Qac, if_true, List.append_assoc, List.singleton_append]
   | false => simp only [Qaf, Bool.false_eq_true, if_false]
 exact key k (by omega) y5 (by omega)
theorem QUm (x7 : Int) (y2 y3 : Qab) (y5 : List Keep) (y18 : List Int) (h : (decide (1 ≤ x7 ∧ x7 ≤ 5 ∧ hiC y2 y3 ≤ 4 ∧ (y5.length : Int) ≤ 16 * x7 ∧ y18.length ≤ 16) && lenEE y3 (Qax y2)) = true) : Qm0 x7 y2 y3 y5 y18 = QjE x7 y2 y3 y5 y18 := by
 obtain ⟨h, hc⟩ := Bool.and_eq_true_iff.1 h
 obtain ⟨h0, h1, h2, h3, h4⟩ := of_decide_eq_true h
 clear h
 obtain ⟨k, rfl⟩ := Int.eq_ofNat_of_zero_le (show 0 ≤ x7 by omega)
 have key : ∀ (m k : Nat) (y5 : List Keep), m = 5 - k → 1 ≤ k → k ≤ 5 → y5.length ≤ 16 * k → Qm0 (k : Int) y2 y3 y5 y18 = QjE (k : Int) y2 y3 y5 y18 := by
  intro m
  induction m with
  | zero =>
   intro k y5 hm h0 h1 h3
   have : k = 5 := by omega
   subst this
   rw [QzW]
   have e : (hiC y2 y3 + 1 - ((5 : Nat) : Int)).toNat = 0 := by omega
   simp only [Qpk, QjE, show ile ((5 : Nat) : Int) (imn y2.2.2.1 y3.2.2.1) = false from decide_eq_false (by show ¬ _ ≤ hiC y2 y3; omega), Qaf, e, verS, List.range'_zero, List.flatMap_nil, List.append_nil]
  | succ m ih =>
   intro k y5 hm h0 h1 h3
   rw [QzW]
   by_cases hk : (k : Int) ≤ hiC y2 y3
   ·have e1 : (hiC y2 y3 + 1 - (k : Int)).toNat = (hiC y2 y3 + 1 - ((k + 1 : Nat) : Int)).toNat + 1 := by omega
    have c0 : (decide (True ∧ (0 : Int) ≤ 0 ∧ (0 : Int) ≤ llen y18 ∧ y18.length ≤ 16 ∧ (y5.length : Int) ≤ 200 + 0) && Qei (y3, ((k : Int), (Qax y2, ()))) 0) = true := Bool.and_eq_true_iff.2 ⟨decide_eq_true ⟨trivial, by simp only [llen]; omega⟩, hc⟩
    have hr := QMo (y3, ((k : Int), (Qax y2, ()))) (k : Int) y18
    have hi := ih (k + 1) (y5 ++ rowT (y3, ((k : Int), (Qax y2, ()))) (k : Int) y18) (by omega) (by omega) (by omega) (by simp only [List.length_append]; omega)
    simp only [Qpk, show ile (k : Int) (imn y2.2.2.1 y3.2.2.1) = true from decide_eq_true hk, Qac, add1 (show k < 4611686018427387904 by omega), eEta]
    refine Eq.trans (congrArg (fun b => br b _ _) c0) ?_
    rw [Qac]
    refine Eq.trans hi ?_
    simp only [QjE, Int.toNat_natCast, e1, verS, List.range'_succ, List.flatMap_cons, List.append_assoc]
   ·have e1 : (hiC y2 y3 + 1 - (k : Int)).toNat = 0 := by omega
    simp only [Qpk, show ile (k : Int) (imn y2.2.2.1 y3.2.2.1) = false from decide_eq_false hk, Qaf, QjE, e1, verS, List.range'_zero, List.flatMap_nil, List.append_nil]
 exact key (5 - k) k y5 rfl (by omega) (by omega) (by omega)
theorem QMT : ∀ S l p, g_f54.L 0 (fgt Qki S) = some (true, l) → pickA l = some p → loopF (Qak g_f54 Qki Qmd) S = some p :=
 QaD (s := QrZ) ⟨by decide, by decide⟩ (by kernel_rfl) fun x y hok p hp => by
 simp only [Qaq, Qan] at hp
 exact (QUn x.2.2.2.2.1 x.2.2.2.2.2.2.2.1 x.2.2.2.2.2.2.2.2.1 y.1 y.2.1 y.2.2.1 y.2.2.2.1 y.2.2.2.2.1 (by simpa using hok)).trans hp
theorem QMS : ∀ S l p, g_f54.L 1 (fgt Qkh S) = some (true, l) → pickA l = some p → loopF (Qak g_f54 Qkh Qmc) S = some p :=
 QaD (s := QrY) ⟨by decide, by decide⟩ (by kernel_rfl) fun x y hok p hp => by
 simp only [Qaq, Qan] at hp
 exact (QUm x.2.2.2.2.1 y.1 y.2.1 y.2.2.1 y.2.2.2.1 (by simpa using hok)).trans hp
theorem lk_f54 : QDC.lok g_f54 := by
 repeat (first | exact trivial | exact QMT | exact QMS | refine ⟨?_, ?_⟩)
theorem s_f54 (c s : Qab) (h : Qbw c s = true) : r_f54 c s = some (.t (.sl Qah) (Qa3 c s), []) := by
 obtain ⟨hc, hs⟩ := Bool.and_eq_true_iff.1 h
 have hs' := Qbu hs
 have hc' := Qbu hc
 have c1 : QfR (Qax c) = true := decide_eq_true hc'.2.1
 simp only [r_f54, h, c1, Qac]
 unfold Qa3
 cases hr : QcM c s with
 | false => rfl
 | true =>
  obtain ⟨hv, hw⟩ := Bool.and_eq_true_iff.1 hr
  have v1 := Qbv hv
  have v2 := Qbv hw
  have hsu := QBT hv
  have b1 : 1 ≤ loC c s ∧ loC c s ≤ 4 := by simp only [loC, imx]; omega
  have b2 : hiC c s ≤ 4 := by simp only [hiC, imn]; omega
  have b3 : (sortL (Qax c)).length ≤ 16 := by
   show (sortI (Qax c)).length ≤ 16
   rw [show (sortI (Qax c)).length = (Qax c).length from List.length_mergeSort _]
   exact QL2 hsu
  have c0 : (decide (1 ≤ loC c s ∧ loC c s ≤ 5 ∧ hiC c s ≤ 4 ∧ (([] : List Keep).length : Int) ≤ 16 * loC c s ∧ (sortL (Qax c)).length ≤ 16) && lenEE s (Qax c)) = true := Bool.and_eq_true_iff.2 ⟨decide_eq_true ⟨b1.1, by omega, b2, by simp only [List.length_nil]; omega, b3⟩, decide_eq_true ⟨hs'.2.2.1, hs'.2.1, hc'.2.1⟩⟩
  rw [Bool.not_true, Qaf, cond_false]
  refine Eq.trans (congrArg (fun b => br b _ _) c0) ?_
  rw [Qac, ← QRw hsu]
  rfl
def QEc : Ent := spec (.pr Qae (.pr Qae .nil)) (fun x => (Qbw x.1 x.2.1)) (fun x => (.t (.sl Qah) (Qa3 x.1 x.2.1)))
theorem QQ4 : Meets Tryz.prog 54 (strip QEc) := Qag (R := runF g_f54 QDC QQk false) (mG Tryz.func54 (by kernel_rfl) Tryz.ntmps54 (by kernel_rfl) gk_f54 lk_f54) fun x hok => (e_f54 x.1 x.2.1).trans (s_f54 x.1 x.2.1 hok)
end
end Go.Proofs.YtckcgijklnloiaaGreat.K
namespace Go.Proofs.YtckcgijklnloiaaGreat.K
open Go.RowKit
noncomputable section
end
end Go.Proofs.YtckcgijklnloiaaGreat.K
namespace Go.Proofs.YtckcgijklnloiaaGreat.K
open Go.RowKit
noncomputable section
theorem QUf {l : List (List Int)} (h : ∀ x ∈ l, x.length ≤ 4) (k : Nat) : (lgt (.sl tI) l k).length ≤ 4 := by
 show (l.getD k []).length ≤ 4
 rw [List.getD_eq_getElem?_getD]
 cases hk : l[k]? with
 | none => exact Nat.zero_le _
 | some x => exact h x (List.mem_of_getElem? hk)
attribute [local irreducible] epV epN prZ
end
end Go.Proofs.YtckcgijklnloiaaGreat.K
namespace Go.Proofs.YtckcgijklnloiaaGreat.K
open Go.RowKit
noncomputable section
end
end Go.Proofs.YtckcgijklnloiaaGreat.K
namespace Go.Proofs.YtckcgijklnloiaaGreat.K
open Go.RowKit
noncomputable section
def QhS : Option Int → List Link → Bool
 | _, [] => true
 | pv, x :: r => QbV x.1 && decide (0 ≤ x.2.1 ∧ x.2.1 ≤ 40000) && (match pv with | none => true | some d => decide (d < x.2.1)) && QhS (some x.2.1) r
theorem QpM (pv : Option Int) (x : Link) (r : List Link) : QhS pv (x :: r) = (QbV x.1 && decide (0 ≤ x.2.1 ∧ x.2.1 ≤ 40000) && (match pv with | none => true | some d => decide (d < x.2.1)) && QhS (some x.2.1) r) := by cases pv <;> rfl
def pvAt (l : List Link) (k : Nat) : Option Int := if k = 0 then none else (l[k - 1]?).map fun x : Link => x.2.1
def Qeu (i : Item) : Bool := Qa9 i.1 && decide (1 ≤ i.2.1 ∧ i.2.1 ≤ 2) && decide (1 ≤ i.2.2.1 ∧ i.2.2.1 ≤ 4) && decide (1 ≤ i.2.2.2.1.length ∧ i.2.2.2.1.length ≤ 8) && QhS none i.2.2.2.1 && decide ((i.2.2.2.1.headD ((0, (0, ())), (0, ()))).2.1 ≤ i.2.2.2.2.1 ∧ i.2.2.2.2.1 ≤ 40000)
def Qks (i : Item) : Int := if Qeu i then 0 else 30
def QeL (i : Item) : Bool := nameG i.1
noncomputable def QOn : List DO := dT Tryz.f79 7
noncomputable def QOm : List DO := dT Tryz.f79 10
def Qkd : Fg := ⟨[(1, none), (45, some (.sl Qbz)), (46, some tI), (47, some tI)], [(1, some QaX)]⟩
noncomputable def Ql8 : TC := (.sq (.reg (rT Tryz.f79 5)) (.sq (.cd (.t 48) .sk (.fg ⟨[(1, none)], [(1, some QaX)]⟩ (.ex 0))) (.sq (.bk 1 (.sq (.reg (rT Tryz.f79 6)) (.sq (.dr QOn [(0, [5]), (1, [5]), (2, []), (3, []), (4, []), (5, [5]), (6, [5]), (7, []), (8, []), (9, []), (10, [5]), (11, [5]), (12, []), (13, []), (14, []), (15, []), (16, []), (17, []), (18, [1]), (19, [1]), (20, []), (21, []), (22, []), (23, []), (24, []), (25, [5]), (26, [5]), (27, []), (28, []), (29, [])] (.of [0, 1, 2, 3, 4, 5, 6, 7, 8, 9, 10, 11, 12, 13, 14, 15, 16, 17, 18, 19, 20, 21, 22, 23, 24, 25, 26, 27, 28, 29])) (.cd (.t 81) (.sq (.reg (rT Tryz.f79 8)) (.fg ⟨[(2, some tI)], []⟩ .rt)) .sk)))) (.reg (rT Tryz.f79 9)))))
noncomputable def QDv : TC := (.sq (.reg (rT Tryz.f79 0)) (.sq (.reg (rT Tryz.f79 1)) (.sq (.sq (.reg (rT Tryz.f79 2)) (.cd (.t 43) (.sq (.reg (rT Tryz.f79 3)) .rt) .sk)) (.sq (.sq (.reg (rT Tryz.f79 4)) (.bk 0 (.lp 0 Qkd Ql8))) (.sq (.sq (.dr QOm [(0, [1]), (1, [1]), (2, [1]), (3, [1]), (4, []), (5, []), (6, []), (7, []), (8, []), (9, [1]), (10, [1]), (11, []), (12, [])] (.of [0, 1, 2, 3, 4, 5, 6, 7, 8, 9, 10, 11, 12])) (.cd (.t 95) (.sq (.reg (rT Tryz.f79 11)) .rt) .sk)) (.sq (.reg (rT Tryz.f79 12)) .rt))))))
def QQd : List (RV × Option Ty) := [((.t 2), some tI)]
abbrev QrU : Sh := ⟨[(1, .ptr 1 0), (45, .ty (.sl Qbz)), (46, .ty tI), (47, .ty tI)], [(1, .box QaX)]⟩
def Qmp (x45 : List Link) (x46 x47 : Int) (y1 : Item) : VS := QrU.st ((), x45, x46, x47, ()) (y1, ())
abbrev Qt3 : Sh := ⟨[(2, .ty tI)], []⟩
def Qa1 (x2 : Int) : VS := Qt3.st (x2, ()) ()
abbrev Qxy : Sh := ⟨[(1, .ptr 1 0)], [(1, .box QaX)]⟩
def Qe3 (y1 : Item) : VS := Qxy.st ((), ()) (y1, ())
def QWU : VS → Option (Bool × List (Bool × Exit × VS)) := mkL QrU (fun x y => ((x.2.1 == y.1.2.2.2.1) && rngOk x.2.1 x.2.2.1 x.2.2.2.1)) (fun x y => [((!(QhS (pvAt x.2.1 x.2.2.2.1.toNat) (x.2.1.drop x.2.2.2.1.toNat))), .ret, Qa1 (30)), (true, .exit 0, Qe3 (y.1))])
def g_f79 : G := ⟨TYs, [], 96, EL [(124, QrO), (125, QrN)], keeps, (Ls [QWU]), IL [], RL []⟩
def QLt (x45 : List Link) (x46 x47 : Int) (y1 : Item) : Option (Exit × VS) :=
 let a1 := lgt Qbz x45 (Int.toNat x47)
 br (ilt x47 x46) (br (cIx x45 x47) (br (!(QbV (a1.1))) (some (.ret, Qa1 30)) (br (ilt ((a1.2).1) 0) (some (.ret, Qa1 30)) (br (igt ((a1.2).1) 40000) (some (.ret, Qa1 30)) (br (igt x47 0) (br (cIx y1.2.2.2.1 (isub .i64 x47 1)) (br (ige (((lgt Qbz y1.2.2.2.1 (Int.toNat (isub .i64 x47 1))).2).1) ((a1.2).1)) (some (.ret, Qa1 30)) (some (.normal, Qmp x45 x46 (iadd .i64 x47 1) y1))) none) (some (.normal, Qmp x45 x46 (iadd .i64 x47 1) y1)))))) none) (some (.exit 0, Qe3 y1))
noncomputable def Qjb (x45 : List Link) (x46 x47 : Int) (y1 : Item) : Option (Exit × VS) := loopF (Qak g_f79 Qkd Ql8) (Qmp x45 x46 x47 y1)
noncomputable def QsP (x45 : List Link) (x46 x47 : Int) (y1 : Item) : Option (Exit × VS) :=
 let a1 := lgt Qbz x45 (Int.toNat x47)
 br (ilt x47 x46) (br (cIx x45 x47) (br (!(QbV (a1.1))) (some (.ret, Qa1 30)) (br (ilt ((a1.2).1) 0) (some (.ret, Qa1 30)) (br (igt ((a1.2).1) 40000) (some (.ret, Qa1 30)) (br (igt x47 0) (br (cIx y1.2.2.2.1 (isub .i64 x47 1)) (br (ige (((lgt Qbz y1.2.2.2.1 (Int.toNat (isub .i64 x47 1))).2).1) ((a1.2).1)) (some (.ret, Qa1 30)) (Qjb x45 x46 (iadd .i64 x47 1) y1)) none) (Qjb x45 x46 (iadd .i64 x47 1) y1))))) none) (some (.exit 0, Qe3 y1))
def Qhw (x45 : List Link) (x46 x47 : Int) (y1 : Item) : Option (Exit × VS) := br (!(QhS (pvAt x45 x47.toNat) (x45.drop x47.toNat))) (some (.ret, Qa1 (30))) <| some (.exit 0, Qe3 (y1))
theorem QOI (x45 : List Link) (x46 x47 : Int) (y1 : Item) : Qak g_f79 Qkd Ql8 (Qmp x45 x46 x47 y1) = QLt x45 x46 x47 y1 := by kernel_rfl
theorem QzT (x45 : List Link) (x46 x47 : Int) (y1 : Item) : Qjb x45 x46 x47 y1 = QsP x45 x46 x47 y1 := (Qao _ _).trans (by
 rw [QOI]
 simp only [QLt, QsP, Qay, nxt_n, nxt_r, nxt_e, nxt_0]
 rfl)
def Qo9 (p0 : Item) : Option (V × List VO) :=
 let a1 := ((((p0).2).2).2)
 let a2 := llen p0.2.2.2.1
 br (ilt p0.2.2.1 1) (some (.t tI 30, [])) (br (igt p0.2.2.1 4) (some (.t tI 30, [])) (br (ilt a2 1) (some (.t tI 30, [])) (br (igt a2 8) (some (.t tI 30, [])) (br ((p0.2.2.2.1 == p0.2.2.2.1) && rngOk p0.2.2.2.1 a2 (0 : Int)) (br (!(QhS (pvAt p0.2.2.2.1 (0 : Int).toNat) (p0.2.2.2.1.drop (0 : Int).toNat))) (some (.t tI (30), [])) (br (cIx (a1.1) 0) (br (ilt ((a1.2).1) (((lgt Qbz (a1.1) (Int.toNat 0)).2).1)) (some (.t tI 30, [])) (br (igt ((a1.2).1) 40000) (some (.t tI 30, [])) (some (.t tI 0, [])))) none)) none))))
def r_f79 (p0 : Item) : Option (V × List VO) := br (ieq p0.2.1 1) (br (nameG p0.1) (br (!(Qa9 p0.1)) (some (.t tI 30, [])) (br (!true) (some (.t tI 30, [])) (Qo9 p0))) none) (br (nameG p0.1) (br (!(Qa9 p0.1)) (some (.t tI 30, [])) (br (!(ieq p0.2.1 2)) (some (.t tI 30, [])) (Qo9 p0))) none)
theorem e_f79 (p0 : Item) : runF g_f79 QDv QQd false [.t QaX p0] [] = r_f79 p0 := by kernel_rfl
theorem en_f79 : Qai Tryz.prog 79 := .inr ⟨by decide, _, Tryz.func79, by kernel_rfl, by kernel_rfl⟩
theorem gk_f79 : GOk Tryz.prog g_f79 := Qal _ (gA (gC QyX Qx7 (gC QyW Qx6 gN)))
theorem QUi (x45 : List Link) (x46 x47 : Int) (y1 : Item) (h : ((x45 == y1.2.2.2.1) && rngOk x45 x46 x47) = true) : Qjb x45 x46 x47 y1 = Qhw x45 x46 x47 y1 := by
 simp only [Bool.and_eq_true, beq_iff_eq] at h
 obtain ⟨hx, h0⟩ := h
 obtain ⟨rfl, h3, k, rfl, hk⟩ := rng_k h0
 clear h0
 refine Qat x45 (fun k => Qjb x45 (x45.length : Int) (k : Int) y1 = Qhw x45 (x45.length : Int) (k : Int) y1) ?_ ?_ k hk
 ·rw [QzT]
  simp [QsP, Qhw, Qar, Qaf, QhS]
 ·intro k hk ih
  rw [QzT]
  have el : Qhw x45 (x45.length : Int) (k : Int) y1 = br (!(QbV x45[k].1 && decide (0 ≤ x45[k].2.1 ∧ x45[k].2.1 ≤ 40000) && (match pvAt x45 k with | none => true | some d => decide (d < x45[k].2.1)))) (some (.ret, Qa1 30)) (Qhw x45 (x45.length : Int) ((k + 1 : Nat) : Int) y1) := by
   have e1 : pvAt x45 (k + 1) = some x45[k].2.1 := by
    unfold pvAt
    rw [if_neg (by omega), Nat.add_sub_cancel, List.getElem?_eq_getElem hk]
    rfl
   simp only [Qhw, Int.toNat_natCast, e1]
   rw [List.drop_eq_getElem_cons hk, QpM]
   generalize (QbV x45[k].1 && decide (0 ≤ x45[k].2.1 ∧ x45[k].2.1 ≤ 40000) && (match pvAt x45 k with | none => true | some d => decide (d < x45[k].2.1))) = c
   cases c <;> rfl
  rw [el]
  simp only [QsP, Qar, Qav, hk, decide_true, Qac, Int.toNat_natCast, add1 (show k < 4611686018427387904 by omega), QaA (y := Qbz) hk, ih, ← hx]
  cases QbV x45[k].1 with
  | false => rfl
  | true =>
   simp only [Bool.not_true, Qaf, Bool.true_and]
   by_cases c1 : x45[k].2.1 < 0
   ·rw [show ilt x45[k].2.1 0 = true from decide_eq_true c1, Qac, decide_eq_false (show ¬ (0 ≤ x45[k].2.1 ∧ x45[k].2.1 ≤ 40000) by omega)]
    rfl
   ·rw [show ilt x45[k].2.1 0 = false from decide_eq_false c1, Qaf]
    by_cases c2 : 40000 < x45[k].2.1
    ·rw [show igt x45[k].2.1 40000 = true from decide_eq_true (by omega), Qac, decide_eq_false (show ¬ (0 ≤ x45[k].2.1 ∧ x45[k].2.1 ≤ 40000) by omega)]
     rfl
    ·rw [show igt x45[k].2.1 40000 = false from decide_eq_false (by omega), Qaf, decide_eq_true (show 0 ≤ x45[k].2.1 ∧ x45[k].2.1 ≤ 40000 by omega)]
     simp only [Bool.true_and]
     by_cases hk0 : k = 0
     ·subst hk0
      rfl
     ·have hk1 : k - 1 < x45.length := by omega
      have e1 : isub .i64 (k : Int) 1 = ((k - 1 : Nat) : Int) := by rw [QbU (by omega)]; omega
      have e2 : igt (k : Int) 0 = true := by simp only [igt, decide_eq_true_eq]; omega
      have e3 : pvAt x45 k = some x45[k - 1].2.1 := by
       unfold pvAt
       rw [if_neg hk0, List.getElem?_eq_getElem hk1]
       rfl
      rw [e1, e2, e3, Qac]
      simp only [Qav, hk1, decide_true, Qac, Int.toNat_natCast, QaA (y := Qbz) hk1]
      by_cases c3 : x45[k - 1].2.1 < x45[k].2.1
      ·rw [show ige x45[k - 1].2.1 x45[k].2.1 = false from decide_eq_false (by omega), Qaf, decide_eq_true c3]
       rfl
      ·rw [show ige x45[k - 1].2.1 x45[k].2.1 = true from decide_eq_true (by omega), Qac, decide_eq_false c3]
       rfl
theorem QMO : ∀ S l p, g_f79.L 0 (fgt Qkd S) = some (true, l) → pickA l = some p → loopF (Qak g_f79 Qkd Ql8) S = some p :=
 QaD (s := QrU) ⟨by decide, by decide⟩ (by kernel_rfl) fun x y hok p hp => by
 simp only [Qaq, Qan] at hp
 exact (QUi x.2.1 x.2.2.1 x.2.2.2.1 y.1 (by simpa using hok)).trans hp
theorem lk_f79 : QDv.lok g_f79 := by
 repeat (first | exact trivial | exact QMO | refine ⟨?_, ?_⟩)
theorem Qbb {i : Item} : Qeu i = true ↔ Qa9 i.1 = true ∧ (1 ≤ i.2.1 ∧ i.2.1 ≤ 2) ∧ (1 ≤ i.2.2.1 ∧ i.2.2.1 ≤ 4) ∧ (1 ≤ i.2.2.2.1.length ∧ i.2.2.2.1.length ≤ 8) ∧ QhS none i.2.2.2.1 = true ∧ (i.2.2.2.1.headD ((0, (0, ())), (0, ()))).2.1 ≤ i.2.2.2.2.1 ∧ i.2.2.2.2.1 ≤ 40000 := by
 unfold Qeu
 simp only [Bool.and_eq_true, decide_eq_true_eq, and_assoc]
theorem s_f79 (i : Item) (h : QeL i = true) : r_f79 i = some (.t tI (Qks i), []) := by
 have h : nameG i.1 = true := h
 have bad : (Qeu i = true → False) → some (V.t tI 30, ([] : List VO)) = some (V.t tI (Qks i), []) := fun hq => by
  cases hi : Qeu i with
  | false => simp [Qks, hi]
  | true => exact (hq hi).elim
 have tail : Qa9 i.1 = true → (1 ≤ i.2.1 ∧ i.2.1 ≤ 2) → Qo9 i = some (.t tI (Qks i), []) := fun k1 k2 => by
  simp only [Qo9]
  refine QaB (fun g => bad fun hq => ?_) (fun g1 => QaB (fun g => bad fun hq => ?_) (fun g2 => QaB (fun g => bad fun hq => ?_) (fun g3 => QaB (fun g => bad fun hq => ?_) (fun g4 => ?_))))
  ·have := Qbb.1 hq; simp only [ilt, decide_eq_true_eq] at g; omega
  ·have := Qbb.1 hq; simp only [igt, decide_eq_true_eq] at g; omega
  ·have := Qbb.1 hq; simp only [ilt, llen, decide_eq_true_eq] at g; omega
  ·have := Qbb.1 hq; simp only [igt, llen, decide_eq_true_eq] at g; omega
  ·simp only [ilt, igt, llen, decide_eq_false_iff_not] at g1 g2 g3 g4
   rw [beq_self_eq_true, Bool.true_and, rng_0 (by omega), Qac]
   have e0 : pvAt i.2.2.2.1 (0 : Int).toNat = none := rfl
   rw [e0, Int.toNat_zero, List.drop_zero]
   refine QaB (fun g => bad fun hq => ?_) (fun g5 => ?_)
   ·have := Qbb.1 hq
    rw [this.2.2.2.2.1] at g
    cases g
   ·have hl : 0 < i.2.2.2.1.length := by omega
    have e1 : cIx i.2.2.2.1 0 = true := by simp only [cIx, decide_eq_true_eq]; omega
    have e2 : lgt Qbz i.2.2.2.1 0 = i.2.2.2.1.headD ((0, (0, ())), (0, ())) := by
     cases hq : i.2.2.2.1 with
     | nil => rw [hq] at hl; simp at hl
     | cons a l => rfl
    rw [e1, Qac, e2]
    refine QaB (fun g => bad fun hq => ?_) (fun g6 => QaB (fun g => bad fun hq => ?_) (fun g7 => ?_))
    ·have := Qbb.1 hq; simp only [ilt, decide_eq_true_eq] at g; omega
    ·have := Qbb.1 hq; simp only [igt, decide_eq_true_eq] at g; omega
    ·simp only [ilt, igt, decide_eq_false_iff_not] at g6 g7
     have : Qeu i = true := Qbb.2 ⟨k1, k2, by omega, by omega, by simpa using g5, by omega, by omega⟩
     simp [Qks, this]
 simp only [r_f79, Qo9] at tail ⊢
 rw [h]
 simp only [Qac]
 refine QaB (fun g1 => QaB (fun g => bad fun hq => ?_) (fun g2 => ?_)) (fun g1 => QaB (fun g => bad fun hq => ?_) (fun g2 => QaB (fun g => bad fun hq => ?_) (fun g3 => ?_)))
 ·rw [(Qbb.1 hq).1] at g; cases g
 ·simp only [QcD, decide_eq_true_eq] at g1
  exact tail (by simpa using g2) (by omega)
 ·rw [(Qbb.1 hq).1] at g; cases g
 ·have := Qbb.1 hq
  simp only [QcD, decide_eq_false_iff_not, Bool.not_eq_true', decide_eq_true_eq] at g1 g
  omega
 ·simp only [QcD, decide_eq_false_iff_not, Bool.not_eq_false', decide_eq_true_eq] at g1 g3
  exact tail (by simpa using g2) (by omega)
def QPH : Ent := spec (.pr QaX .nil) (fun x => (QeL x.1)) (fun x => (.t tI (Qks x.1)))
theorem ms_f79 : Meets Tryz.prog 79 (strip QPH) := Qag (R := runF g_f79 QDv QQd false) (mG Tryz.func79 (by kernel_rfl) Tryz.ntmps79 (by kernel_rfl) gk_f79 lk_f79) fun x hok => (e_f79 x.1).trans (s_f79 x.1 hok)
end
end Go.Proofs.YtckcgijklnloiaaGreat.K
