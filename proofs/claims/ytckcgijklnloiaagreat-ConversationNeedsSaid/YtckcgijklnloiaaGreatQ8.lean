import Derived.Test.YtckcgijklnloiaaGreatQ7
import Derived.Test.YtckcgijklnloiaaGreatQ4
import Derived.RangeFuncCalls
import Derived.RangeFuncBound
import Derived.Shelf.RegionOpen
import Derived.OwnWalkIn
import Derived.TacticsInMore
import Derived.LoopNIn
import Derived.LoopIn
set_option linter.unusedSimpArgs false
set_option linter.unusedVariables false
namespace Go.Proofs.YtckcgijklnloiaaGreat.K
open Go.RowKit
noncomputable section
def idAlg (x : QaA) (s : Suite) : Bool := ieq s.2.2.2.1.1 0 || ieq x.1.1 s.2.2.2.1.1
noncomputable def QC2 : TC := (.sq (.reg (rT Tryz.f93 0)) (.sq (.reg (rT Tryz.f93 1)) .rt))
def QPy : List (RV × Option Ty) := [((.t 3), some .bool)]
def g_f93 : G := ⟨TYs, [], 17, EL [], keeps, (fun _ _ => none), IL [], RL []⟩
def r_f93 (p0 : QaA) (d0 : Suite) : Option (V × List VO) := br (ieq d0.2.2.2.1.1 0) (some (.t .bool true, [.box (.t QaF d0)])) (some (.t .bool (ieq p0.1.1 d0.2.2.2.1.1), [.box (.t QaF d0)]))
theorem e_f93 (p0 : QaA) (d0 : Suite) : runF g_f93 QC2 QPy false [.t Qav p0, .ptr 50000 0] [.box (.t QaF d0)] = r_f93 p0 d0 := by kernel_rfl
theorem en_f93 : Qah Tryz.prog 93 := .inr ⟨by decide, _, Tryz.func93, by kernel_rfl, by kernel_rfl⟩
theorem gk_f93 : GOk Tryz.prog g_f93 := Qal _ (fun p hp => by cases hp)
theorem lk_f93 : QC2.lok g_f93 := by repeat (first | exact trivial | refine ⟨?_, ?_⟩)
theorem s_f93 (x : QaA) (s : Suite) : r_f93 x s = some (.t .bool (idAlg x s), [.box (.t QaF s)]) := by
 simp only [r_f93]
 unfold idAlg
 cases ieq s.2.2.2.1.1 0 <;> rfl
def QO2 : Ent := QfJ [.ty Qav, .ptr 50000 0] [QaF] (fun x d => true) (fun x d => (.t .bool (idAlg x.1 d.1)))
theorem ms_f93 : Meets Tryz.prog 93 (strip QO2) := Qcg (QaO (R := runF g_f93 QC2 QPy false) (mG Tryz.func93 (by kernel_rfl) Tryz.ntmps93 (by kernel_rfl) gk_f93 lk_f93) fun x d _ => (e_f93 x.1 d.1).trans (s_f93 x.1 d.1))
def okAlg (l : List QaA) (_s : Suite) : Bool := decide (l.length ≤ 100000)
def ixAlg (l : List QaA) (s : Suite) : Int := match fstG (fun x => idAlg x s) l with | some k => (k : Int) | none => -1
def Qdu : Fg := ⟨[(0, some (.sl Qav)), (1, none), (7, some tI), (8, some tI)], [(50000, some QaF)]⟩
noncomputable def QeS : TC := (.sq (.reg (rT Tryz.f92 2)) (.sq (.cd (.t 9) .sk (.fg ⟨[], [(50000, some QaF)]⟩ (.ex 0))) (.sq (.bk 1 (.sq (.reg (rT Tryz.f92 3)) (.sq (.reg (rT Tryz.f92 4)) (.cd (.t 16) (.sq (.reg (rT Tryz.f92 5)) (.fg ⟨[(4, some tI)], [(50000, some QaF)]⟩ .rt)) .sk)))) (.reg (rT Tryz.f92 6)))))
noncomputable def Qng : TC := (.sq (.reg (rT Tryz.f92 0)) (.sq (.sq (.reg (rT Tryz.f92 1)) (.bk 0 (.lp 0 Qdu QeS))) (.sq (.reg (rT Tryz.f92 7)) .rt)))
def Quj : List (RV × Option Ty) := [((.t 4), some tI)]
abbrev Qh2 : Sh := ⟨[(0, .ty (.sl Qav)), (1, .fn 93 [(50000, 0)]), (7, .ty tI), (8, .ty tI)], [(50000, .box QaF)]⟩
def QhX (x0 : List QaA) (x7 x8 : Int) (y50000 : Suite) : VS := Qh2.st (x0, (), x7, x8, ()) (y50000, ())
abbrev Qn0 : Sh := ⟨[(4, .ty tI)], [(50000, .box QaF)]⟩
def Qb8 (x4 : Int) (y50000 : Suite) : VS := Qn0.st (x4, ()) (y50000, ())
abbrev Qqk : Sh := ⟨[], [(50000, .box QaF)]⟩
def Qcz (y50000 : Suite) : VS := Qqk.st () (y50000, ())
def QCK : VS → Option (Bool × List (Bool × Exit × VS)) := mkL Qh2 (fun x y => (rngOk x.1 x.2.2.1 x.2.2.2.1)) (fun x y => [(((fstG (fun x => idAlg x y.1) (x.1.drop x.2.2.2.1.toNat)).isSome), .ret, Qb8 (x.2.2.2.1 + ((fstG (fun x => idAlg x y.1) (x.1.drop x.2.2.2.1.toNat)).getD 0 : Nat)) (y.1)), (true, .exit 0, Qcz (y.1))])
def Qeo : G := ⟨TYs, [], 19, EL [(93, QO2)], keeps, (Ls [QCK]), IL [], RL []⟩
def Qq8 (x0 : List QaA) (x7 x8 : Int) (y50000 : Suite) : Option (Exit × VS) := br (ilt x8 x7) (br (cIx x0 x8) (br (idAlg (lgt Qav x0 (Int.toNat x8)) y50000) (some (.ret, Qb8 x8 y50000)) (some (.normal, QhX x0 x7 (iadd .i64 x8 1) y50000))) none) (some (.exit 0, Qcz y50000))
noncomputable def Qfq (x0 : List QaA) (x7 x8 : Int) (y50000 : Suite) : Option (Exit × VS) := loopF (Qak Qeo Qdu QeS) (QhX x0 x7 x8 y50000)
noncomputable def Qhg (x0 : List QaA) (x7 x8 : Int) (y50000 : Suite) : Option (Exit × VS) := br (ilt x8 x7) (br (cIx x0 x8) (br (idAlg (lgt Qav x0 (Int.toNat x8)) y50000) (some (.ret, Qb8 x8 y50000)) (Qfq x0 x7 (iadd .i64 x8 1) y50000)) none) (some (.exit 0, Qcz y50000))
def Qfv (x0 : List QaA) (x7 x8 : Int) (y50000 : Suite) : Option (Exit × VS) := br ((fstG (fun x => idAlg x y50000) (x0.drop x8.toNat)).isSome) (some (.ret, Qb8 (x8 + ((fstG (fun x => idAlg x y50000) (x0.drop x8.toNat)).getD 0 : Nat)) (y50000))) <| some (.exit 0, Qcz (y50000))
theorem QyR (x0 : List QaA) (x7 x8 : Int) (y50000 : Suite) : Qak Qeo Qdu QeS (QhX x0 x7 x8 y50000) = Qq8 x0 x7 x8 y50000 := by kernel_rfl
theorem Qpl (x0 : List QaA) (x7 x8 : Int) (y50000 : Suite) : Qfq x0 x7 x8 y50000 = Qhg x0 x7 x8 y50000 := (Qan _ _).trans (by
 rw [QyR]
 simp only [Qq8, Qhg, Qax, nxt_n, nxt_r, nxt_e, nxt_0]
 rfl)
def Qsb (p0 : List QaA) (d0 : Suite) : Option (V × List VO) :=
 let a1 := (p0.drop (0 : Int).toNat)
 br (rngOk p0 (llen p0) (0 : Int)) (br ((fstG (fun x => idAlg x d0) a1).isSome) (some (.t tI ((0 : Int) + ((fstG (fun x => idAlg x d0) a1).getD 0 : Nat)), [.box (.t QaF (d0))])) (some (.t tI (-1), [.box (.t QaF (d0))]))) none
theorem QND (p0 : List QaA) (d0 : Suite) : runF Qeo Qng Quj false [.t (.sl Qav) p0, .fn 93 [(.ptr 50000 0)]] [.box (.t QaF d0)] = Qsb p0 d0 := by kernel_rfl
theorem QJm : Qah Tryz.prog 92 := .inr ⟨by decide, _, Tryz.func92, by kernel_rfl, by kernel_rfl⟩
theorem QI6 : GOk Tryz.prog Qeo := Qal _ (gA (gC en_f93 ms_f93 gN))
theorem QB8 (x0 : List QaA) (x7 x8 : Int) (y50000 : Suite) (h : (rngOk x0 x7 x8) = true) : Qfq x0 x7 x8 y50000 = Qfv x0 x7 x8 y50000 := by
 obtain ⟨rfl, h3, k, rfl, hk⟩ := rng_k h
 clear h
 refine Qat x0 (fun k => Qfq x0 (x0.length : Int) (k : Int) y50000 = Qfv x0 (x0.length : Int) (k : Int) y50000) ?_ ?_ k hk
 ·rw [Qpl]
  simp [Qhg, Qfv, Qar, Qaf, fstG]
 ·intro k hk ih
  rw [Qpl]
  simp only [Qhg, Qar, Qau, hk, decide_true, Qac, Int.toNat_natCast, add1 (show k < 4611686018427387904 by omega), ih, Qay (y := Qav) hk]
  simp only [Qfv, Int.toNat_natCast, List.drop_eq_getElem_cons hk, fstG]
  cases h : (idAlg x0[k] y50000) with
  | true => simp [Qac]
  | false =>
   simp only [Qaf, Bool.false_eq_true, if_false]
   cases hq : fstG (fun x => idAlg x y50000) (x0.drop (k + 1)) with
   | none => rfl
   | some j =>
    simp only [Option.map_some, Option.isSome_some, Option.getD_some, Qac]
    congr 3
    omega
theorem QxZ : ∀ S l p, Qeo.L 0 (fgt Qdu S) = some (true, l) → pickA l = some p → loopF (Qak Qeo Qdu QeS) S = some p :=
 QaD (s := Qh2) ⟨by decide, by decide⟩ (by kernel_rfl) fun x y hok p hp => by
 simp only [Qap, Qam] at hp
 exact (QB8 x.1 x.2.2.1 x.2.2.2.1 y.1 (by simpa using hok)).trans hp
theorem QIH : Qng.lok Qeo := by
 repeat (first | exact trivial | exact QxZ | refine ⟨?_, ?_⟩)
theorem QLI (l : List QaA) (s : Suite) (h : okAlg l s = true) : Qsb l s = some (.t tI (ixAlg l s), [.box (.t QaF s)]) := by
 have hl : l.length ≤ 100000 := of_decide_eq_true h
 simp only [Qsb, rng_0 hl, Qac, Int.toNat_zero, List.drop_zero, ixAlg]
 cases fstG (fun x => idAlg x s) l <;> simp [Qac, Qaf]
def Qtt : Ent := QfJ [.ty (.sl Qav), .fn 93 [(50000, 0)]] [QaF] (fun x d => (okAlg x.1 d.1)) (fun x d => (.t tI (ixAlg x.1 d.1)))
theorem QHG : Meets Tryz.prog 92 (strip Qtt) := Qcg (QaO (R := runF Qeo Qng Quj false) (mG Tryz.func92 (by kernel_rfl) Tryz.ntmps92 (by kernel_rfl) QI6 QIH) fun x d hok => (QND x.1 d.1).trans (QLI x.1 d.1 hok))
def Qbg (e : Qab) (c : Int) : Int × Bool := bif ine (QaN c).2 0 then (-1, false) else (ixAlg (eIds e) (QaN c).1, ige (ixAlg (eIds e) (QaN c).1) 0)
def idnOk (e : Qab) (_c : Int) : Bool := decide ((eIds e).length ≤ 100000)
noncomputable def QDf : TC := (.sq (.reg (rT Tryz.f56 0)) (.sq (.reg (rT Tryz.f56 1)) (.sq (.sq (.reg (rT Tryz.f56 2)) (.cd (.t 15) (.sq (.reg (rT Tryz.f56 3)) .rt) .sk)) (.sq (.reg (rT Tryz.f56 4)) (.sq (.reg (rT Tryz.f56 5)) .rt)))))
def QPL : List (RV × Option Ty) := [((.t 4), some tI), ((.t 5), some .bool)]
def g_f56 : G := ⟨TYs, [], 23, EL [(85, Qtw), (92, Qtt)], keeps, (fun _ _ => none), IL [], RL []⟩
def r_f56 (p0 : Qab) (p1 : Int) : Option (V × List VO) :=
 let a1 := ixAlg p0.2.2.2.2.2.1 ((QaN p1).1)
 br (ine ((QaN p1).2) 0) (some (.tu [(.t tI (-1)), (.t .bool false)], [])) (br (okAlg p0.2.2.2.2.2.1 ((QaN p1).1)) (some (.tu [(.t tI a1), (.t .bool (ige a1 0))], [])) none)
theorem e_f56 (p0 : Qab) (p1 : Int) : runF g_f56 QDf QPL false [.t Qae p0, .t tI p1] [] = r_f56 p0 p1 := by kernel_rfl
theorem QJs : Qah Tryz.prog 56 := .inr ⟨by decide, _, Tryz.func56, by kernel_rfl, by kernel_rfl⟩
theorem gk_f56 : GOk Tryz.prog g_f56 := Qal _ (gA (gC QAM Qzv (gC QJm QHG gN)))
theorem lk_f56 : QDf.lok g_f56 := by repeat (first | exact trivial | refine ⟨?_, ?_⟩)
theorem s_f56 (e : Qab) (c : Int) (h : idnOk e c = true) : r_f56 e c = some (.tu [.t tI (Qbg e c).1, .t .bool (Qbg e c).2], []) := by
 have hk : okAlg (eIds e) (QaN c).1 = true := h
 simp only [r_f56, hk, Qac]
 unfold Qbg
 cases ine (QaN c).2 0 <;> rfl
def Qy6 : Ent := spec (.pr Qae (.pr tI .nil)) (fun x => (idnOk x.1 x.2.1)) (fun x => (.tu [(.t tI ((Qbg x.1 x.2.1).1)), (.t .bool ((Qbg x.1 x.2.1).2))]))
theorem QHM : Meets Tryz.prog 56 (strip Qy6) := Qag (R := runF g_f56 QDf QPL false) (mG Tryz.func56 (by kernel_rfl) Tryz.ntmps56 (by kernel_rfl) gk_f56 lk_f56) fun x hok => (e_f56 x.1 x.2.1).trans (s_f56 x.1 x.2.1 hok)
def lenEE (e : Qab) (o : List Int) : Bool := decide ((eIds e).length ≤ 100000 ∧ (QaE e).length ≤ 100000 ∧ o.length ≤ 100000)
def posE (e : Qab) (o : List Int) (v c : Int) : Bool :=
 ieq (QaN c).2 0 && (ige v (QaN c).1.2.2.2.2.2.2.1 && (ige (QaN c).1.2.2.2.2.2.2.2.1 v && (hasF o c && (hasF (QaE e) c && (Qbg e c).2))))
abbrev tkE (t : Talk) : Qab := t.1
abbrev tkV (t : Talk) : Int := t.2.1
abbrev tkO (t : Talk) : List Int := t.2.2.1
def possF (t : Talk) (c : Int) : Bool := posE (tkE t) (tkO t) (tkV t) c
def Qeb (t : Talk) (_c : Int) : Bool := lenEE (tkE t) (tkO t)
noncomputable def QC3 : TC := (.sq (.reg (rT Tryz.f90 0)) (.sq (.reg (rT Tryz.f90 1)) (.sq (.sq (.reg (rT Tryz.f90 2)) (.cd (.t 44) (.sq (.reg (rT Tryz.f90 3)) .rt) .sk)) (.sq (.reg (rT Tryz.f90 4)) (.sq (.reg (rT Tryz.f90 5)) .rt)))))
def QPz : List (RV × Option Ty) := [((.t 4), some .bool)]
def g_f90 : G := ⟨TYs, [], 53, EL [(56, Qy6), (85, Qtw), (101, Qkz)], keeps, (fun _ _ => none), IL [], RL []⟩
def r_f90 (p0 : Talk) (p1 : Int) : Option (V × List VO) :=
 let a1 := ((((((((QaN p1).1).2).2).2).2).2).2)
 br (ine ((QaN p1).2) 0) (some (.t .bool false, [])) (br (ilt p0.2.1 (a1.1)) (some (.t .bool false, [])) (br (igt p0.2.1 ((a1.2).1)) (some (.t .bool false, [])) (br (QaY p0.2.2.1 p1) (br (!(hasF p0.2.2.1 p1)) (some (.t .bool false, [])) (br (QaY p0.1.2.2.2.1 p1) (br (!(hasF p0.1.2.2.2.1 p1)) (some (.t .bool false, [])) (br (idnOk p0.1 p1) (some (.t .bool ((Qbg p0.1 p1).2), [])) none)) none)) none)))
theorem e_f90 (p0 : Talk) (p1 : Int) : runF g_f90 QC3 QPz false [.t QeH p0, .t tI p1] [] = r_f90 p0 p1 := by kernel_rfl
theorem QQD : Qah Tryz.prog 90 := .inr ⟨by decide, _, Tryz.func90, by kernel_rfl, by kernel_rfl⟩
theorem gk_f90 : GOk Tryz.prog g_f90 := Qal _ (gA (gC QJs QHM (gC QAM Qzv (gC Qp2 Qpd gN))))
theorem lk_f90 : QC3.lok g_f90 := by repeat (first | exact trivial | refine ⟨?_, ?_⟩)
theorem QM9 (a b : Int) : ine a b = !ieq a b := rfl
theorem QNa (a b : Int) : ilt a b = !ige a b := by simp only [ilt, ige]; by_cases h : a < b <;> simp [h] <;> omega
theorem s_f90 (t : Talk) (c : Int) (h : Qeb t c = true) : r_f90 t c = some (.t .bool (possF t c), []) := by
 simp only [Qeb, lenEE, decide_eq_true_eq] at h
 have c1 : QaY t.2.2.1 c = true := decide_eq_true h.2.2
 have c2 : QaY t.1.2.2.2.1 c = true := decide_eq_true h.2.1
 have c3 : idnOk t.1 c = true := decide_eq_true h.1
 simp only [r_f90, c1, c2, c3, Qac, QM9, QNa]
 show _ = some (V.t .bool (posE t.1 t.2.2.1 t.2.1 c), [])
 unfold posE
 cases ieq (QaN c).2 0 with
 | false => rfl
 | true =>
  cases ige t.2.1 (QaN c).1.2.2.2.2.2.2.1 with
  | false => rfl
  | true =>
   cases ige (QaN c).1.2.2.2.2.2.2.2.1 t.2.1 with
   | false => rfl
   | true =>
    cases hasF t.2.2.1 c with
    | false => rfl
    | true => cases hasF t.1.2.2.2.1 c <;> rfl
def QDL : Ent := spec (.pr QeH (.pr tI .nil)) (fun x => (Qeb x.1 x.2.1)) (fun x => (.t .bool (possF x.1 x.2.1)))
theorem QQr : Meets Tryz.prog 90 (strip QDL) := Qag (R := runF g_f90 QC3 QPz false) (mG Tryz.func90 (by kernel_rfl) Tryz.ntmps90 (by kernel_rfl) gk_f90 lk_f90) fun x hok => (e_f90 x.1 x.2.1).trans (s_f90 x.1 x.2.1 hok)
def Qec (t : Talk) : List Int := tkO t
def Qgc (t : Talk) : List Int := QaE (tkE t)
noncomputable def QwJ : TC := (.sq (.reg (rT Tryz.f126 0)) (.sq (.reg (rT Tryz.f126 1)) .rt))
def QF1 : List (RV × Option Ty) := [((.t 2), some (.sl tI))]
def QAt : G := ⟨TYs, [], 5, EL [], keeps, (fun _ _ => none), IL [], RL []⟩
def QQl (p0 : Talk) : Option (V × List VO) := some (.t (.sl tI) p0.2.2.1, [])
theorem e_f126 (p0 : Talk) : runF QAt QwJ QF1 false [.t QeH p0] [] = QQl p0 := by kernel_rfl
theorem QVO : Qah Tryz.prog 126 := .inr ⟨by decide, _, Tryz.func126, by kernel_rfl, by kernel_rfl⟩
theorem QUS : GOk Tryz.prog QAt := Qal _ (fun p hp => by cases hp)
theorem QTl : QwJ.lok QAt := by repeat (first | exact trivial | refine ⟨?_, ?_⟩)
theorem s_f126 (t : Talk) : QQl t = some (.t (.sl tI) (Qec t), []) := rfl
def QEG : Ent := spec (.pr QeH .nil) (fun x => true) (fun x => (.t (.sl tI) (Qec x.1)))
theorem QR7 : Meets Tryz.prog 126 (strip QEG) := Qag (R := runF QAt QwJ QF1 false) (mG Tryz.func126 (by kernel_rfl) Tryz.ntmps126 (by kernel_rfl) QUS QTl) fun x _ => (e_f126 x.1).trans (s_f126 x.1)
noncomputable def QwI : TC := (.sq (.reg (rT Tryz.f127 0)) (.sq (.reg (rT Tryz.f127 1)) .rt))
def QF0 : List (RV × Option Ty) := [((.t 2), some (.sl tI))]
def QAs : G := ⟨TYs, [], 6, EL [], keeps, (fun _ _ => none), IL [], RL []⟩
def QQk (p0 : Talk) : Option (V × List VO) := some (.t (.sl tI) p0.1.2.2.2.1, [])
theorem e_f127 (p0 : Talk) : runF QAs QwI QF0 false [.t QeH p0] [] = QQk p0 := by kernel_rfl
theorem QVN : Qah Tryz.prog 127 := .inr ⟨by decide, _, Tryz.func127, by kernel_rfl, by kernel_rfl⟩
theorem QUR : GOk Tryz.prog QAs := Qal _ (fun p hp => by cases hp)
theorem QTk : QwI.lok QAs := by repeat (first | exact trivial | refine ⟨?_, ?_⟩)
theorem s_f127 (t : Talk) : QQk t = some (.t (.sl tI) (Qgc t), []) := rfl
def QEF : Ent := spec (.pr QeH .nil) (fun x => true) (fun x => (.t (.sl tI) (Qgc x.1)))
theorem QR6 : Meets Tryz.prog 127 (strip QEF) := Qag (R := runF QAs QwI QF0 false) (mG Tryz.func127 (by kernel_rfl) Tryz.ntmps127 (by kernel_rfl) QUR QTk) fun x _ => (e_f127 x.1).trans (s_f127 x.1)
def QeJ (c s : Qab) : Bool := QaS c && QaS s
def QbN (c s : Qab) : Bool := Qba c && Qba s
noncomputable def QC8 : TC := (.sq (.reg (rT Tryz.f82 0)) (.sq (.reg (rT Tryz.f82 1)) .rt))
def QPE : List (RV × Option Ty) := [((.t 4), some .bool)]
def g_f82 : G := ⟨TYs, [], 13, EL [(76, Qy5)], keeps, (fun _ _ => none), IL [], RL []⟩
def r_f82 (p0 p1 : Qab) : Option (V × List VO) := br (Qba p0) (br (ieq (Qeu p0) 0) (br (Qba p1) (some (.t .bool (ieq (Qeu p1) 0), [])) none) (some (.t .bool false, []))) none
theorem e_f82 (p0 p1 : Qab) : runF g_f82 QC8 QPE false [.t Qae p0, .t Qae p1] [] = r_f82 p0 p1 := by kernel_rfl
theorem QJp : Qah Tryz.prog 82 := .inr ⟨by decide, _, Tryz.func82, by kernel_rfl, by kernel_rfl⟩
theorem gk_f82 : GOk Tryz.prog g_f82 := Qal _ (gA (gC QJr QHL gN))
theorem lk_f82 : QC8.lok g_f82 := by repeat (first | exact trivial | refine ⟨?_, ?_⟩)
theorem s_f82 (c s : Qab) (h : QbN c s = true) : r_f82 c s = some (.t .bool (QeJ c s), []) := by
 simp only [QbN, Bool.and_eq_true] at h
 simp only [r_f82, h.1, h.2, Qac, QKe]
 unfold QeJ
 cases QaS c <;> rfl
def Qy4 : Ent := spec (.pr Qae (.pr Qae .nil)) (fun x => (QbN x.1 x.2.1)) (fun x => (.t .bool (QeJ x.1 x.2.1)))
theorem QHJ : Meets Tryz.prog 82 (strip Qy4) := Qag (R := runF g_f82 QC8 QPE false) (mG Tryz.func82 (by kernel_rfl) Tryz.ntmps82 (by kernel_rfl) gk_f82 lk_f82) fun x hok => (e_f82 x.1 x.2.1).trans (s_f82 x.1 x.2.1 hok)
end
end Go.Proofs.YtckcgijklnloiaaGreat.K
namespace Go.Proofs.YtckcgijklnloiaaGreat.K
open Go.RowKit
noncomputable section
def okPos (l : List Int) (t : Talk) : Bool := decide (l.length ≤ 100000) && lenEE (tkE t) (tkO t)
def ixPos (l : List Int) (t : Talk) : Int := match fstG (possF t) l with | some k => (k : Int) | none => -1
def QcR : Fg := ⟨[(0, some (.sl tI)), (1, none), (7, some tI), (8, some tI)], []⟩
noncomputable def QdB : TC := (.sq (.reg (rT Tryz.f128 2)) (.sq (.cd (.t 9) .sk (.fg ⟨[], []⟩ (.ex 0))) (.sq (.bk 1 (.sq (.reg (rT Tryz.f128 3)) (.sq (.reg (rT Tryz.f128 4)) (.cd (.t 16) (.sq (.reg (rT Tryz.f128 5)) (.fg ⟨[(4, some tI)], []⟩ .rt)) .sk)))) (.reg (rT Tryz.f128 6)))))
noncomputable def Qkv : TC := (.sq (.reg (rT Tryz.f128 0)) (.sq (.sq (.reg (rT Tryz.f128 1)) (.bk 0 (.lp 0 QcR QdB))) (.sq (.reg (rT Tryz.f128 7)) .rt)))
def QqO : List (RV × Option Ty) := [((.t 4), some tI)]
abbrev Qf8 : Sh := ⟨[(0, .ty (.sl tI)), (1, .bf 90 QeH), (7, .ty tI), (8, .ty tI)], []⟩
def QfW (x0 : List Int) (x1 : Talk) (x7 x8 : Int) : VS := Qf8.st (x0, x1, x7, x8, ()) ()
abbrev QlN : Sh := ⟨[(4, .ty tI)], []⟩
def QbT (x4 : Int) : VS := QlN.st (x4, ()) ()
abbrev Qow : Sh := ⟨[], []⟩
def Qcd  : VS := Qow.st () ()
def QyX : VS → Option (Bool × List (Bool × Exit × VS)) := mkL Qf8 (fun x y => (rngOk x.1 x.2.2.1 x.2.2.2.1 && okPos x.1 x.2.1)) (fun x y => [(((fstG (possF x.2.1) (x.1.drop x.2.2.2.1.toNat)).isSome), .ret, QbT (x.2.2.2.1 + ((fstG (possF x.2.1) (x.1.drop x.2.2.2.1.toNat)).getD 0 : Nat))), (true, .exit 0, Qcd)])
def QcM : G := ⟨TYs, [], 19, EL [(90, QDL)], keeps, (Ls [QyX]), IL [], RL []⟩
def Qqd (x0 : List Int) (x1 : Talk) (x7 x8 : Int) : Option (Exit × VS) :=
 let a1 := lgt tI x0 (Int.toNat x8)
 br (ilt x8 x7) (br (cIx x0 x8) (br (Qeb x1 a1) (br (possF x1 a1) (some (.ret, QbT x8)) (some (.normal, QfW x0 x1 x7 (iadd .i64 x8 1)))) none) none) (some (.exit 0, Qcd))
noncomputable def Qeh (x0 : List Int) (x1 : Talk) (x7 x8 : Int) : Option (Exit × VS) := loopF (Qak QcM QcR QdB) (QfW x0 x1 x7 x8)
noncomputable def Qfn (x0 : List Int) (x1 : Talk) (x7 x8 : Int) : Option (Exit × VS) :=
 let a1 := lgt tI x0 (Int.toNat x8)
 br (ilt x8 x7) (br (cIx x0 x8) (br (Qeb x1 a1) (br (possF x1 a1) (some (.ret, QbT x8)) (Qeh x0 x1 x7 (iadd .i64 x8 1))) none) none) (some (.exit 0, Qcd))
def Qel (x0 : List Int) (x1 : Talk) (x7 x8 : Int) : Option (Exit × VS) :=
 let a1 := fstG (possF x1) (x0.drop x8.toNat)
 br (a1.isSome) (some (.ret, QbT (x8 + (a1.getD 0 : Nat)))) <| some (.exit 0, Qcd)
theorem QvC (x0 : List Int) (x1 : Talk) (x7 x8 : Int) : Qak QcM QcR QdB (QfW x0 x1 x7 x8) = Qqd x0 x1 x7 x8 := by kernel_rfl
theorem Qlb (x0 : List Int) (x1 : Talk) (x7 x8 : Int) : Qeh x0 x1 x7 x8 = Qfn x0 x1 x7 x8 := (Qan _ _).trans (by
 rw [QvC]
 simp only [Qqd, Qfn, Qax, nxt_n, nxt_r, nxt_e, nxt_0]
 rfl)
def QoX (p0 : List Int) (p1 : Talk) : Option (V × List VO) :=
 let a1 := (fstG (possF p1) (p0.drop (0 : Int).toNat))
 br (rngOk p0 (llen p0) (0 : Int) && okPos p0 p1) (br (a1.isSome) (some (.t tI ((0 : Int) + (a1.getD 0 : Nat)), [])) (some (.t tI (-1), []))) none
theorem QJS (p0 : List Int) (p1 : Talk) : runF QcM Qkv QqO false [.t (.sl tI) p0, .fn 1000090 [(.t QeH p1)]] [] = QoX p0 p1 := by kernel_rfl
theorem QCo : Qah Tryz.prog 128 := .inr ⟨by decide, _, Tryz.func128, by kernel_rfl, by kernel_rfl⟩
theorem QCf : GOk Tryz.prog QcM := Qal _ (gA (gC QQD QQr gN))
theorem Qyd (x0 : List Int) (x1 : Talk) (x7 x8 : Int) (h : (rngOk x0 x7 x8 && okPos x0 x1) = true) : Qeh x0 x1 x7 x8 = Qel x0 x1 x7 x8 := by
 simp only [Bool.and_eq_true, okPos] at h
 obtain ⟨h0, _, hc⟩ := h
 obtain ⟨rfl, h3, k, rfl, hk⟩ := rng_k h0
 clear h0
 refine Qat x0 (fun k => Qeh x0 x1 (x0.length : Int) (k : Int) = Qel x0 x1 (x0.length : Int) (k : Int)) ?_ ?_ k hk
 ·rw [Qlb]
  simp [Qfn, Qel, Qar, Qaf, fstG]
 ·intro k hk ih
  rw [Qlb]
  have hx : Qeb x1 x0[k] = true := hc
  simp only [Qfn, Qar, Qau, hk, decide_true, Qac, Int.toNat_natCast, add1 (show k < 4611686018427387904 by omega), ih, Qay (y := tI) hk, hx]
  simp only [Qel, Int.toNat_natCast, List.drop_eq_getElem_cons hk, fstG]
  cases h : possF x1 x0[k] with
  | true => simp [Qac]
  | false =>
   simp only [Qaf, Bool.false_eq_true, if_false]
   cases hq : fstG (possF x1) (x0.drop (k + 1)) with
   | none => rfl
   | some j =>
    simp only [Option.map_some, Option.isSome_some, Option.getD_some, Qac]
    congr 3
    omega
theorem QuI : ∀ S l p, QcM.L 0 (fgt QcR S) = some (true, l) → pickA l = some p → loopF (Qak QcM QcR QdB) S = some p :=
 QaD (s := Qf8) ⟨by decide, by decide⟩ (by kernel_rfl) fun x y hok p hp => by
 simp only [Qap, Qam] at hp
 exact (Qyd x.1 x.2.1 x.2.2.1 x.2.2.2.1 (by simpa using hok)).trans hp
theorem QB5 : Qkv.lok QcM := by
 repeat (first | exact trivial | exact QuI | refine ⟨?_, ?_⟩)
theorem QE2 (l : List Int) (t : Talk) (h : okPos l t = true) : QoX l t = some (.t tI (ixPos l t), []) := by
 have hl : l.length ≤ 100000 := of_decide_eq_true (Bool.and_eq_true_iff.1 h).1
 simp only [QoX, rng_0 hl, h, Bool.and_self, Qac, Int.toNat_zero, List.drop_zero, ixPos]
 cases fstG (possF t) l <;> simp [Qac, Qaf]
def QqI : Ent := specB [.ty (.sl tI), .bf 90 QeH] [] (fun x y => (okPos x.1 x.2.1)) (fun x y => (.t tI (ixPos x.1 x.2.1))) (fun x y => [])
theorem QBZ : Meets Tryz.prog 128 (strip QqI) := Qcw (QaR (R := runF QcM Qkv QqO false) (mG Tryz.func128 (by kernel_rfl) Tryz.ntmps128 (by kernel_rfl) QCf QB5) fun x y hok => (QJS x.1 x.2.1).trans (QE2 x.1 x.2.1 hok))
abbrev zK : Keep := (0, (0, ()))
abbrev Qyh (s : Qab) (x : Int) : List Qaa := (lgt Qav (eIds s) (Qbg s x).1.toNat).2.2.1
def pickE (c s : Qab) (d x : Int) : Int := chkCh (Qyh s x) (eAnch c) (eHash c) d s.1
def pickF (c s : Qab) (v d x : Int) : Keep × Int := bif ine (pickE c s d x) 0 then (zK, 29) else ((v, (x, ())), 0)
def overF (c s : Qab) (v d : Int) (o l : List Int) : Keep × Int := match fstG (posE s o v) l with | none => (zK, 28) | some k => pickF c s v d (l.getD k 0)
abbrev outL (s : Qab) (o : List Int) : List Int := bif s.2.2.2.2.1 then QaE s else o
def withF (c s : Qab) (d m : Int) (o : List Int) : Keep × Int :=
 bif !QeJ c s then (zK, 19) else bif ilt d 0 then (zK, 2) else bif igt d 40000 then (zK, 2) else bif ilt m 1 then (zK, 2) else bif igt m 4 then (zK, 2) else
 bif ilt (imn m s.2.2.1) c.2.1 then (zK, 27) else bif ilt (imn m s.2.2.1) s.2.1 then (zK, 27) else overF c s (imn m s.2.2.1) d o (outL s o)
def Qtk (c s : Qab) (_d _m : Int) (o : List Int) : Bool := QbN c s && decide (o.length ≤ 100000)
theorem Qcj {e : Qab} (h : Qba e = true) : nameG e.1 = true ∧ (QaE e).length ≤ 100000 ∧ (eIds e).length ≤ 100000 ∧ (eAnch e).length ≤ 100000 ∧ (eHash e).length ≤ 100000 ∧ (eIds e).all idLen = true := by
 simp only [Qba, Bool.and_eq_true, decide_eq_true_eq] at h
 exact ⟨h.1.1, h.1.2.1, h.1.2.2.1, h.1.2.2.2.1, h.1.2.2.2.2, h.2⟩
theorem QzS {e : Qab} {c : Int} (h : (Qbg e c).2 = true) : ∃ k, (Qbg e c).1 = ((k : Nat) : Int) ∧ k < (eIds e).length := by
 unfold Qbg ixAlg at h ⊢
 cases hi : ine (QaN c).2 0 with
 | true => rw [hi] at h; cases h
 | false =>
  rw [hi] at h
  cases hq : fstG (fun x => idAlg x (QaN c).1) (eIds e) with
  | none => rw [hq] at h; cases h
  | some k => exact ⟨k, rfl, (Qj0 hq).1⟩
theorem QQ7 {e : Qab} {o : List Int} {v c : Int} (h : posE e o v c = true) : (Qbg e c).2 = true := by
 simp only [posE, Bool.and_eq_true] at h
 exact h.2.2.2.2.2
theorem QHq {c s : Qab} {d v x : Int} {o : List Int} (hc : Qba c = true) (hs : Qba s = true) (h : posE s o v x = true) : cIx (eIds s) (Qbg s x).1 = true ∧ Qid (Qyh s x) (eAnch c) (eHash c) d s.1 = true := by
 obtain ⟨k, hk, hl⟩ := QzS (QQ7 h)
 obtain ⟨_, _, _, h4, h5, _⟩ := Qcj hc
 have h6 := (Qcj hs).2.2.2.2.2
 unfold Qyh
 rw [hk, Qau, Int.toNat_natCast, Qay (y := Qav) hl]
 refine ⟨decide_eq_true hl, ?_⟩
 have := List.all_eq_true.1 h6 _ (List.getElem_mem hl)
 simp only [Qid, Bool.and_eq_true, decide_eq_true_eq]
 exact ⟨this, h4, h5⟩
theorem QJc {e : Qab} {o l : List Int} {v : Int} {k : Nat} (h : fstG (posE e o v) l = some k) : k < l.length ∧ posE e o v (l.getD k 0) = true := by
 obtain ⟨q, h1⟩ := Qj0 h
 refine ⟨q, ?_⟩
 rw [List.getD_eq_getElem?_getD, List.getElem?_eq_getElem q, Option.getD_some]
 exact h1
theorem eEta (p1 : Qab) : (p1.1, (p1.2.1, (p1.2.2.1, (p1.2.2.2.1, (p1.2.2.2.2.1, (p1.2.2.2.2.2.1, (p1.2.2.2.2.2.2.1, (p1.2.2.2.2.2.2.2.1, (p1.2.2.2.2.2.2.2.2.1, ()))))))))) = p1 := rfl
def outKI (p : Keep × Int) : Option (V × List VO) := some (.tu [.t Qai p.1, .t tI p.2], [])
theorem brT {a : Bool} {X Y : Option (V × List VO)} {x y : Keep × Int} (hx : X = outKI x) (hy : Y = outKI y) : br a X Y = outKI (bif a then x else y) := by
 cases a
 ·exact hy
 ·exact hx
noncomputable def QNL : List DO := dT Tryz.f83 15
noncomputable def QNK : List DO := dT Tryz.f83 16
noncomputable def QNJ : List DO := dT Tryz.f83 18
noncomputable def QC7 : TC := (.sq (.reg (rT Tryz.f83 0)) (.sq (.bk 0 (.sq (.reg (rT Tryz.f83 1)) (.cd (.t 18) (.sq (.reg (rT Tryz.f83 2)) .rt) (.sq (.reg (rT Tryz.f83 3)) (.cd (.t 24) (.sq (.reg (rT Tryz.f83 4)) .rt) .sk))))) (.sq (.reg (rT Tryz.f83 5)) (.sq (.sq (.reg (rT Tryz.f83 6)) (.cd (.t 58) (.sq (.reg (rT Tryz.f83 7)) .rt) .sk)) (.sq (.reg (rT Tryz.f83 8)) (.sq (.sq (.reg (rT Tryz.f83 9)) (.cd (.t 63) (.reg (rT Tryz.f83 10)) .sk)) (.sq (.reg (rT Tryz.f83 11)) (.sq (.reg (rT Tryz.f83 12)) (.sq (.sq (.reg (rT Tryz.f83 13)) (.cd (.t 73) (.sq (.reg (rT Tryz.f83 14)) .rt) .sk)) (.sq (.dr QNL [(0, [6]), (1, []), (2, []), (3, []), (4, []), (5, []), (6, []), (7, []), (8, []), (9, []), (10, [])] (.of [0, 1, 2, 3, 4, 5, 6, 7, 8, 9, 10])) (.sq (.sq (.dr QNK [(0, [6]), (1, [6]), (2, []), (3, []), (4, []), (5, []), (6, [5]), (7, [5]), (8, [5]), (9, [5]), (10, []), (11, [6]), (12, [6]), (13, []), (14, [])] (.of [0, 1, 2, 3, 4, 5, 6, 7, 8, 9, 10, 11, 12, 13, 14])) (.cd (.t 98) (.sq (.reg (rT Tryz.f83 17)) .rt) .sk)) (.sq (.dr QNJ [(0, [12]), (1, [12]), (2, []), (3, []), (4, []), (5, []), (6, []), (7, [10]), (8, [])] (.of [0, 1, 2, 3, 4, 5, 6, 7, 8])) .rt))))))))))))
def QPD : List (RV × Option Ty) := [((.c 10 true 2), some Qai), ((.t 11), some tI)]
def g_f83 : G := ⟨TYs, [], 107, EL [(56, Qy6), (57, QO9), (82, Qy4), (126, QEG), (127, QEF), (128, QqI)], keeps, (fun _ _ => none), IL [], RL []⟩
def r_f83 (p0 p1 : Qab) (p2 p3 : Int) (p4 : List Int) : Option (V × List VO) :=
 let a6 := imn p3 p1.2.2.1
 let a1 := ((p1.1, (p1.2.1, (p1.2.2.1, (p1.2.2.2.1, (p1.2.2.2.2.1, (p1.2.2.2.2.2.1, (p1.2.2.2.2.2.2.1, (p1.2.2.2.2.2.2.2.1, (p1.2.2.2.2.2.2.2.2.1, ()))))))))), (a6, (p4, ())))
 let a7 := ixPos (Qec a1) a1
 let a2 := lgt tI (Qec a1) (Int.toNat a7)
 let a8 := ixPos (Qgc a1) a1
 let a3 := lgt tI (Qgc a1) (Int.toNat a8)
 let a4 := ((((lgt Qav p1.2.2.2.2.2.1 (Int.toNat ((Qbg p1 a3).1))).2).2).1)
 let a5 := ((((lgt Qav p1.2.2.2.2.2.1 (Int.toNat ((Qbg p1 a2).1))).2).2).1)
 br (QbN p0 p1) (br (!(QeJ p0 p1)) (some (.tu [(.t Qai (0, (0, ()))), (.t tI 19)], [])) (br (ilt p2 0) (some (.tu [(.t Qai (0, (0, ()))), (.t tI 2)], [])) (br (igt p2 40000) (some (.tu [(.t Qai (0, (0, ()))), (.t tI 2)], [])) (br (ilt p3 1) (some (.tu [(.t Qai (0, (0, ()))), (.t tI 2)], [])) (br (igt p3 4) (some (.tu [(.t Qai (0, (0, ()))), (.t tI 2)], [])) (br (ilt a6 p0.2.1) (some (.tu [(.t Qai (0, (0, ()))), (.t tI 27)], [])) (br (ilt a6 p1.2.1) (some (.tu [(.t Qai (0, (0, ()))), (.t tI 27)], [])) (br (p1.2.2.2.2.1) (br (okPos (Qgc a1) a1) (br (ilt a8 0) (some (.tu [(.t Qai (0, (0, ()))), (.t tI 28)], [])) (br (cIx (Qgc a1) a8) (br (idnOk p1 a3) (br (cIx p1.2.2.2.2.2.1 ((Qbg p1 a3).1)) (br (Qid a4 p0.2.2.2.2.2.2.1 p0.2.2.2.2.2.2.2.1 p2 p1.1) (br (ine (chkCh a4 p0.2.2.2.2.2.2.1 p0.2.2.2.2.2.2.2.1 p2 p1.1) 0) (some (.tu [(.t Qai (0, (0, ()))), (.t tI 29)], [])) (br (cIx (Qgc a1) a8) (some (.tu [(.t Qai (a6, (a3, ()))), (.t tI 0)], [])) none)) none) none) none) none)) none) (br (okPos (Qec a1) a1) (br (ilt a7 0) (some (.tu [(.t Qai (0, (0, ()))), (.t tI 28)], [])) (br (cIx (Qec a1) a7) (br (idnOk p1 a2) (br (cIx p1.2.2.2.2.2.1 ((Qbg p1 a2).1)) (br (Qid a5 p0.2.2.2.2.2.2.1 p0.2.2.2.2.2.2.2.1 p2 p1.1) (br (ine (chkCh a5 p0.2.2.2.2.2.2.1 p0.2.2.2.2.2.2.2.1 p2 p1.1) 0) (some (.tu [(.t Qai (0, (0, ()))), (.t tI 29)], [])) (br (cIx (Qec a1) a7) (some (.tu [(.t Qai (a6, (a2, ()))), (.t tI 0)], [])) none)) none) none) none) none)) none))))))))) none
theorem e_f83 (p0 p1 : Qab) (p2 p3 : Int) (p4 : List Int) : runF g_f83 QC7 QPD false [.t Qae p0, .t Qae p1, .t tI p2, .t tI p3, .t (.sl tI) p4] [] = r_f83 p0 p1 p2 p3 p4 := by kernel_rfl
theorem en_f83 : Qah Tryz.prog 83 := .inr ⟨by decide, _, Tryz.func83, by kernel_rfl, by kernel_rfl⟩
theorem gk_f83 : GOk Tryz.prog g_f83 := Qal _ (gA (gC QJs QHM (gC en_f57 ms_f57 (gC QJp QHJ (gC QVO QR7 (gC QVN QR6 (gC QCo QBZ gN)))))))
theorem lk_f83 : QC7.lok g_f83 := by repeat (first | exact trivial | refine ⟨?_, ?_⟩)
theorem s_f83 (c s : Qab) (d m : Int) (o : List Int) (h : Qtk c s d m o = true) : r_f83 c s d m o = some (.tu [.t Qai (withF c s d m o).1, .t tI (withF c s d m o).2], []) := by
 simp only [Qtk, Bool.and_eq_true, decide_eq_true_eq] at h
 obtain ⟨hr, ho⟩ := h
 obtain ⟨hc, hs⟩ := Bool.and_eq_true_iff.1 hr
 have hs' := Qcj hs
 have hle : lenEE s o = true := decide_eq_true ⟨hs'.2.2.1, hs'.2.1, ho⟩
 have hid : ∀ x, idnOk s x = true := fun x => decide_eq_true hs'.2.2.1
 have hb1 : ∀ v, okPos (QaE s) (s, (v, (o, ()))) = true := fun v => Bool.and_eq_true_iff.2 ⟨decide_eq_true hs'.2.1, hle⟩
 have hb2 : ∀ v, okPos o (s, (v, (o, ()))) = true := fun v => Bool.and_eq_true_iff.2 ⟨decide_eq_true ho, hle⟩
 have hp : ∀ v, possF (s, (v, (o, ()))) = posE s o v := fun v => rfl
 simp only [r_f83, eEta, Qgc, Qec, tkE, tkO, hr, Qac, hb1, hb2, hid, ixPos, hp]
 show _ = outKI (withF c s d m o)
 have hg : ∀ (l : List Int) (k : Nat), lgt tI l k = l.getD k 0 := fun _ _ => rfl
 unfold withF
 refine brT rfl <| brT rfl <| brT rfl <| brT rfl <| brT rfl <| brT rfl <| brT rfl ?_
 cases hw : s.2.2.2.2.1 with
 | true =>
  rw [Qac]
  rw [show outL s o = QaE s by unfold outL; rw [hw]; rfl]
  unfold overF
  cases hq : fstG (posE s o (imn m s.2.2.1)) (QaE s) with
  | none => rfl
  | some k =>
   obtain ⟨hk, hp⟩ := QJc hq
   obtain ⟨h1, h2⟩ := QHq (d := d) hc hs hp
   simp only [show ilt (k : Int) 0 = false from decide_eq_false (by omega), Qaf, Qau, hk, decide_true, Qac, Int.toNat_natCast, hg, h1]
   refine Eq.trans (congrArg (fun b => br b _ _) h2) ?_
   rw [Qac]
   exact brT rfl rfl
 | false =>
  rw [Qaf]
  rw [show outL s o = o by unfold outL; rw [hw]; rfl]
  unfold overF
  cases hq : fstG (posE s o (imn m s.2.2.1)) (o) with
  | none => rfl
  | some k =>
   obtain ⟨hk, hp⟩ := QJc hq
   obtain ⟨h1, h2⟩ := QHq (d := d) hc hs hp
   simp only [show ilt (k : Int) 0 = false from decide_eq_false (by omega), Qaf, Qau, hk, decide_true, Qac, Int.toNat_natCast, hg, h1]
   refine Eq.trans (congrArg (fun b => br b _ _) h2) ?_
   rw [Qac]
   exact brT rfl rfl
def QO5 : Ent := spec (.pr Qae (.pr Qae (.pr tI (.pr tI (.pr (.sl tI) .nil))))) (fun x => (Qtk x.1 x.2.1 x.2.2.1 x.2.2.2.1 x.2.2.2.2.1)) (fun x => (.tu [(.t Qai ((withF x.1 x.2.1 x.2.2.1 x.2.2.2.1 x.2.2.2.2.1).1)), (.t tI ((withF x.1 x.2.1 x.2.2.1 x.2.2.2.1 x.2.2.2.2.1).2))]))
theorem ms_f83 : Meets Tryz.prog 83 (strip QO5) := Qag (R := runF g_f83 QC7 QPD false) (mG Tryz.func83 (by kernel_rfl) Tryz.ntmps83 (by kernel_rfl) gk_f83 lk_f83) fun x hok => (e_f83 x.1 x.2.1 x.2.2.1 x.2.2.2.1 x.2.2.2.2.1).trans (s_f83 x.1 x.2.1 x.2.2.1 x.2.2.2.1 x.2.2.2.2.1 hok)
def Qcx (c s : Qab) (d : Int) : Keep × Int := withF c s d c.2.2.1 (QaE c)
def QfF (c s : Qab) (_d : Int) : Bool := QbN c s
theorem QbZ {c : Qab} (h : QaS c = true) : 1 ≤ c.2.1 ∧ c.2.1 ≤ c.2.2.1 ∧ c.2.2.1 ≤ 4 := by
 simp only [QaS, Bool.and_eq_true, Bool.not_eq_true'] at h
 obtain ⟨_, h1, h2, h3, _⟩ := h
 have h1 := of_decide_eq_false h1
 have h2 := of_decide_eq_false h2
 have h3 := of_decide_eq_false h3
 omega
noncomputable def QDq : TC := (.sq (.reg (rT Tryz.f42 0)) (.sq (.sq (.reg (rT Tryz.f42 1)) (.cd (.t 11) (.sq (.reg (rT Tryz.f42 2)) .rt) .sk)) (.sq (.reg (rT Tryz.f42 3)) .rt)))
def QPW : List (RV × Option Ty) := [((.c 6 true 2), some Qai), ((.t 7), some tI)]
def g_f42 : G := ⟨TYs, [], 23, EL [(82, Qy4), (83, QO5)], keeps, (fun _ _ => none), IL [], RL []⟩
def r_f42 (p0 p1 : Qab) (p2 : Int) : Option (V × List VO) :=
 let a1 := withF p0 p1 p2 p0.2.2.1 p0.2.2.2.1
 br (QbN p0 p1) (br (!(QeJ p0 p1)) (some (.tu [(.t Qai (0, (0, ()))), (.t tI 19)], [])) (br (Qtk p0 p1 p2 p0.2.2.1 p0.2.2.2.1) (some (.tu [(.t Qai (a1.1)), (.t tI (a1.2))], [])) none)) none
theorem e_f42 (p0 p1 : Qab) (p2 : Int) : runF g_f42 QDq QPW false [.t Qae p0, .t Qae p1, .t tI p2] [] = r_f42 p0 p1 p2 := by kernel_rfl
theorem QQG : Qah Tryz.prog 42 := .inr ⟨by decide, _, Tryz.func42, by kernel_rfl, by kernel_rfl⟩
theorem gk_f42 : GOk Tryz.prog g_f42 := Qal _ (gA (gC QJp QHJ (gC en_f83 ms_f83 gN)))
theorem lk_f42 : QDq.lok g_f42 := by repeat (first | exact trivial | refine ⟨?_, ?_⟩)
theorem s_f42 (c s : Qab) (d : Int) (h : QfF c s d = true) : r_f42 c s d = some (.tu [.t Qai (Qcx c s d).1, .t tI (Qcx c s d).2], []) := by
 have hr : QbN c s = true := h
 have hw : Qtk c s d c.2.2.1 (QaE c) = true := Bool.and_eq_true_iff.2 ⟨h, decide_eq_true (Qcj (Bool.and_eq_true_iff.1 h).1).2.1⟩
 simp only [r_f42, hr, hw, Qac]
 show _ = outKI (Qcx c s d)
 unfold Qcx withF
 cases QeJ c s <;> rfl
def QDO : Ent := spec (.pr Qae (.pr Qae (.pr tI .nil))) (fun x => (QfF x.1 x.2.1 x.2.2.1)) (fun x => (.tu [(.t Qai ((Qcx x.1 x.2.1 x.2.2.1).1)), (.t tI ((Qcx x.1 x.2.1 x.2.2.1).2))]))
theorem QQu : Meets Tryz.prog 42 (strip QDO) := Qag (R := runF g_f42 QDq QPW false) (mG Tryz.func42 (by kernel_rfl) Tryz.ntmps42 (by kernel_rfl) gk_f42 lk_f42) fun x hok => (e_f42 x.1 x.2.1 x.2.2.1).trans (s_f42 x.1 x.2.1 x.2.2.1 hok)
def usesL (e : Qab) (c : Int) : List Keep :=
 [bif ieq (QaN c).1.2.2.1.2.1 0 then ((QaN c).1.2.2.1.1, ((lgt Qav (eIds e) (Qbg e c).1.toNat).1.2.1, ())) else (QaN c).1.2.2.1, (lgt Qav (eIds e) (Qbg e c).1.toNat).1, (QaN c).1.2.2.2.2.1, (QaN c).1.2.2.2.2.2.1]
def usesF (e : Qab) (o : Keep) : List Keep × Int :=
 bif !QaS e then ([], 19) else bif ine (QaN o.2.1).2 0 then ([], (QaN o.2.1).2) else bif !(Qbg e o.2.1).2 then ([], 4) else (usesL e o.2.1, 0)
def Qy0 (e : Qab) (_o : Keep) : Bool := Qba e
def outLI (p : List Keep × Int) : Option (V × List VO) := some (.tu [.t (.sl Qai) p.1, .t tI p.2], [])
theorem QQP {e : Qab} {c : Int} (h : (Qbg e c).2 = true) : cIx (eIds e) (Qbg e c).1 = true := by
 obtain ⟨k, hk, hl⟩ := QzS h
 rw [hk, Qau]
 exact decide_eq_true hl
noncomputable def QDi : TC := (.sq (.reg (rT Tryz.f50 0)) (.sq (.sq (.reg (rT Tryz.f50 1)) (.sq (.reg (rT Tryz.f50 2)) (.cd (.t 15) (.sq (.reg (rT Tryz.f50 3)) .rt) .sk))) (.sq (.reg (rT Tryz.f50 4)) (.sq (.sq (.reg (rT Tryz.f50 5)) (.cd (.t 24) (.sq (.reg (rT Tryz.f50 6)) .rt) .sk)) (.sq (.reg (rT Tryz.f50 7)) (.sq (.sq (.reg (rT Tryz.f50 8)) (.cd (.t 34) (.sq (.reg (rT Tryz.f50 9)) .rt) .sk)) (.sq (.reg (rT Tryz.f50 10)) (.sq (.sq (.reg (rT Tryz.f50 11)) (.cd (.t 44) (.reg (rT Tryz.f50 12)) .sk)) (.sq (.reg (rT Tryz.f50 13)) .rt)))))))))
def QPO : List (RV × Option Ty) := [((.t 4), some (.sl Qai)), ((.t 5), some tI)]
def g_f50 : G := ⟨TYs, [], 57, EL [(56, Qy6), (76, Qy5), (85, Qtw)], keeps, (fun _ _ => none), IL [], RL []⟩
def r_f50 (p0 : Qab) (p1 : Keep) : Option (V × List VO) :=
 let a1 := ((lgt Qav p0.2.2.2.2.2.1 (Int.toNat ((Qbg p0 p1.2.1).1))).1)
 let a2 := ((((QaN p1.2.1).1).2).2)
 let a3 := (((((a2.2).2).2).1).1, ((((((a2.2).2).2).1).2).1, ()))
 let a4 := ((((a2.2).2).1).1, (((((a2.2).2).1).2).1, ()))
 let a5 := ((a1.2).1, ())
 br (Qba p0) (br (ine (Qeu p0) 0) (some (.tu [(.t (.sl Qai) ([] : List Keep)), (.t tI (Qeu p0))], [])) (br (ine ((QaN p1.2.1).2) 0) (some (.tu [(.t (.sl Qai) ([] : List Keep)), (.t tI ((QaN p1.2.1).2))], [])) (br (idnOk p0 p1.2.1) (br (!((Qbg p0 p1.2.1).2)) (some (.tu [(.t (.sl Qai) ([] : List Keep)), (.t tI 4)], [])) (br (cIx p0.2.2.2.2.2.1 ((Qbg p0 p1.2.1).1)) (br (ieq (((a2.1).2).1) 0) (some (.tu [(.t (.sl Qai) ([((a2.1).1, a5), (a1.1, a5), a4, a3])), (.t tI 0)], [])) (some (.tu [(.t (.sl Qai) ([((a2.1).1, (((a2.1).2).1, ())), (a1.1, a5), a4, a3])), (.t tI 0)], []))) none)) none))) none
theorem e_f50 (p0 : Qab) (p1 : Keep) : runF g_f50 QDi QPO false [.t Qae p0, .t Qai p1] [] = r_f50 p0 p1 := by kernel_rfl
theorem en_f50 : Qah Tryz.prog 50 := .inr ⟨by decide, _, Tryz.func50, by kernel_rfl, by kernel_rfl⟩
theorem gk_f50 : GOk Tryz.prog g_f50 := Qal _ (gA (gC QJs QHM (gC QJr QHL (gC QAM Qzv gN))))
theorem lk_f50 : QDi.lok g_f50 := by repeat (first | exact trivial | refine ⟨?_, ?_⟩)
theorem s_f50 (e : Qab) (o : Keep) (h : Qy0 e o = true) : r_f50 e o = some (.tu [.t (.sl Qai) (usesF e o).1, .t tI (usesF e o).2], []) := by
 have hr : Qba e = true := h
 have hid : ∀ x, idnOk e x = true := fun x => decide_eq_true (Qcj hr).2.2.1
 simp only [r_f50, hr, hid, Qac, Qvy]
 show _ = outLI (usesF e o)
 unfold usesF Qeu
 cases QaS e with
 | false => rfl
 | true =>
  rw [Bool.not_true, Qaf, cond_false]
  cases ine (QaN o.2.1).2 0 with
  | true => rfl
  | false =>
   rw [Qaf, cond_false]
   cases hi : (Qbg e o.2.1).2 with
   | false => rfl
   | true =>
    rw [Bool.not_true, Qaf, cond_false]
    refine Eq.trans (congrArg (fun b => br b _ _) (QQP hi)) ?_
    rw [Qac]
    unfold usesL
    cases ieq (QaN o.2.1).1.2.2.1.2.1 0 <;> rfl
def QPc : Ent := spec (.pr Qae (.pr Qai .nil)) (fun x => (Qy0 x.1 x.2.1)) (fun x => (.tu [(.t (.sl Qai) ((usesF x.1 x.2.1).1)), (.t tI ((usesF x.1 x.2.1).2))]))
theorem ms_f50 : Meets Tryz.prog 50 (strip QPc) := Qag (R := runF g_f50 QDi QPO false) (mG Tryz.func50 (by kernel_rfl) Tryz.ntmps50 (by kernel_rfl) gk_f50 lk_f50) fun x hok => (e_f50 x.1 x.2.1).trans (s_f50 x.1 x.2.1 hok)
end
end Go.Proofs.YtckcgijklnloiaaGreat.K
namespace Go.Proofs.YtckcgijklnloiaaGreat.K
open Go.RowKit
noncomputable section
theorem brN {β : Type} {p q : Bool} {X : Option β} : br p (br q X none) none = br (p && q) X none := by cases p <;> rfl
def Qto (c : Int) : Int := bif ine (QaN c).2 0 then 0 else strF (QaN c).1.2.2.2.2.1
def insK (x : Int) (l : List Int) : Nat → Nat
 | 0 => 0
 | k + 1 => if ilt (Qto (l.getD k 0)) (Qto x) = true then insK x l k else k + 1
def insS (l : List Int) (x : Int) : List Int := (l.take (insK x l l.length) ++ [x]) ++ l.drop (insK x l l.length)
def sortS (l : List Int) : List Int := l.foldl insS []
-- loop 0: (x0 : (List Int)) (x4 : Int) (x5 : Int) (y3 : (List Int)); out: ('exit', 2) (x0 : (List Int)) (x4 : Int) (x5 : Int) (y3 : (List Int))
-- loop 1: (x0 : (List Int)) (x4 : Int) (y3 : (List Int)); out: ('exit', 0) (y3 : (List Int))
end
end Go.Proofs.YtckcgijklnloiaaGreat.K
namespace Go.Proofs.YtckcgijklnloiaaGreat.K
open Go.RowKit
noncomputable section
theorem QRa {d : Dice} {l : List Int} (h : dOk d = true) (h1 : l ≠ []) (h2 : l.length ≤ 100) : ofOk d l = true := by
 have : 0 < l.length := List.length_pos_iff.2 h1
 simp only [ofOk, h, Bool.true_and, decide_eq_true_eq]
 omega
theorem Qgn {d : Dice} {n : Int} (h : dOk d = true) (hn : n ≤ 1000000) : QaQ d n = true := by
 simp only [QaQ, h, Bool.true_and, decide_eq_true_eq]
 omega
theorem Qzp {d : Dice} {n : Int} (h : dOk d = true) (h0 : 0 ≤ n) (hn : n ≤ 1000000) : oneOk d n = true := by
 simp only [oneOk, Qgn h hn, Bool.true_and, decide_eq_true_eq]
 omega
abbrev kAlg (d : Dice) : Int := dof d [5, 7, 5, 6, 8, 9]
def keyV (d : Dice) : Keep := (kAlg d, (sizeV (dofN d [5, 7, 5, 6, 8, 9]) (kAlg d), ()))
def keyN (d : Dice) : Dice := sizeN (dofN d [5, 7, 5, 6, 8, 9]) (kAlg d)
abbrev cD1 (d : Dice) : Dice := dnext d 1000
abbrev cD2 (d : Dice) : Dice := dofN (cD1 d) [3, 2, 4, 1]
abbrev cD3 (d : Dice) : Dice := dofN (cD2 d) [0, 5, 10]
abbrev cD4 (d : Dice) : Dice := dofN (cD3 d) [1000, 100, 50, 20]
def cD5 (d : Dice) (a : Bool) : Dice := bif a then dofN (cD4 d) [3, 0, 1] else cD4 d
def cPath (d : Dice) (a : Bool) : Int := bif a then dof (cD4 d) [3, 0, 1] else 0
def cNm (d : Dice) (a : Bool) (s : ByteArray) : List ByteArray := bif done (cD5 d a) 3 then [s, scat s (ByteArray.mk #[120])] else [s]
def cRaw (d : Dice) (i s : ByteArray) (k : Keep) (id : Int) (a : Bool) : Qaa :=
 (dval d 1000, (i, (s, (k, (id, ((dof (cD1 d) [3, 2, 4, 1], (0, ())), (dof (cD2 d) [0, 5, 10], (dof (cD3 d) [1000, 100, 50, 20], (a, (cPath d a, (cNm d a s, ((0, (0, ())), ()))))))))))))
def cerV (d : Dice) (i s : ByteArray) (k : Keep) (id g : Int) (a : Bool) : Qaa := (signC (cRaw d i s k id a) g).1
def cerN (d : Dice) (_i _s : ByteArray) (_k : Keep) (_id _g : Int) (a : Bool) : Dice := dnext (cD5 d a) 3
theorem QyM {i s : ByteArray} {k : Keep} {id : Int} {a : Bool} {q p : Int} {u v : Keep} {x y : Int} (hi : i.size ≤ 1000) (hs : s.size ≤ 1000) {l : List ByteArray} (hl : l.length ≤ 2) (hn : ∀ t ∈ l, t.size ≤ 1001) :
  QaG (q, (i, (s, (k, (id, (u, (x, (y, (a, (p, (l, (v, ())))))))))))) = true := by
 have hg : ∀ t : ByteArray, t.size ≤ 1001 → nameG t = true := fun t ht => decide_eq_true (by omega)
 simp only [QaG, Bool.and_eq_true]
 refine ⟨hg _ (by omega), hg _ (by omega), ?_⟩
 simp only [QbY, Bool.and_eq_true, List.all_eq_true]
 exact ⟨decide_eq_true (by show l.length ≤ _; omega), fun t ht => hg t (hn t ht)⟩
end
end Go.Proofs.YtckcgijklnloiaaGreat.K
namespace Go.Proofs.YtckcgijklnloiaaGreat.K
open Go.RowKit
noncomputable section
abbrev sRoot : ByteArray := ByteArray.mk #[114, 111, 111, 116]
abbrev sSubs : List ByteArray := [ByteArray.mk #[99, 97], ByteArray.mk #[99, 98], ByteArray.mk #[99, 99]]
abbrev Up : Type := List Qaa × Dice × ByteArray × Int
def abvZ : Nat → Nat → Up → Up
 | 0, _, u => u
 | m + 1, i, (ab, d, iss, g) => abvZ m (i + 1) (cerV d iss (sSubs.getD i ByteArray.empty) (5, (2048, ())) ((11 + i : Nat) : Int) g true :: ab, cerN d iss (sSubs.getD i ByteArray.empty) (5, (2048, ())) ((11 + i : Nat) : Int) g true, sSubs.getD i ByteArray.empty, ((11 + i : Nat) : Int))
def chU (d : Dice) : Up := abvZ (dof d [1, 0, 2]).toNat 0 ([], dnext (dofN d [1, 0, 2]) 2, sRoot, 1 + dval (dofN d [1, 0, 2]) 2)
def chnV (d : Dice) (nm : ByteArray) (k : Keep) (id : Int) : List Qaa := cerV (chU d).2.1 (chU d).2.2.1 nm k id (chU d).2.2.2 false :: (chU d).1
def chnN (d : Dice) (nm : ByteArray) (k : Keep) (id : Int) : Dice := cerN (chU d).2.1 (chU d).2.2.1 nm k id (chU d).2.2.2 false
-- loop 0: (x1 : ByteArray) (x3 : Int) (x9 : Int) (x10 : Int) (x11 : ByteArray) (x13 : Int) (y6 : Keep) (y12 : (List Qaa)) (y50000 : Dice); out: ('exit', 0) (x1 : ByteArray) (x3 : Int) (x10 : Int) (x11 : ByteArray) (y6 : Keep) (y12 : (List Qaa)) (y50000 : Dice)
end
end Go.Proofs.YtckcgijklnloiaaGreat.K
namespace Go.Proofs.YtckcgijklnloiaaGreat.K
open Go.RowKit
noncomputable section
def suZ : Nat → List Int → Dice → List Int × Dice
 | 0, l, d => (l, d)
 | n + 1, l, d => suZ n (bif !hasF l (1 + dval d 16) then l ++ [1 + dval d 16] else l) (dnext d 16)
def suI (d : Dice) : List Int × Dice := suZ (2 + dval d 9).toNat [] (dnext d 9)
def suiV (d : Dice) : List Int := bif done (suI d).2 4 then sortS (suI d).1 else (suI d).1
def suiN (d : Dice) : Dice := dnext (suI d).2 4
-- loop 0: (x4 : Int) (y3 : (List Int)) (y50000 : Dice); out: ('exit', 0) (y3 : (List Int)) (y50000 : Dice)
end
end Go.Proofs.YtckcgijklnloiaaGreat.K
namespace Go.Proofs.YtckcgijklnloiaaGreat.K
open Go.RowKit
noncomputable section
abbrev iB (d : Dice) : Bool := igt (dval (keyN d) 3) 0
abbrev iD2 (d : Dice) : Dice := dnext (keyN d) 3
abbrev iA (d : Dice) : Int := dof (iD2 d) [5, 7]
def iKey (d : Dice) : Keep := bif iB d then (iA d, (sizeV (dofN (iD2 d) [5, 7]) (iA d), ())) else keyV d
def iD3 (d : Dice) : Dice := bif iB d then sizeN (dofN (iD2 d) [5, 7]) (iA d) else iD2 d
def iId (d : Dice) : Int := 100 + dval (iD3 d) 20
abbrev iD4 (d : Dice) : Dice := dnext (iD3 d) 20
abbrev iD5 (d : Dice) : Dice := dnext (iD4 d) 9
def iCh (d : Dice) (nm : ByteArray) : List Qaa := bif !done (iD4 d) 9 then chnV (iD5 d) nm (iKey d) (iId d) else []
def iD6 (d : Dice) (nm : ByteArray) : Dice := bif !done (iD4 d) 9 then chnN (iD5 d) nm (iKey d) (iId d) else iD5 d
def idV (d : Dice) (nm : ByteArray) : QaA := (iKey d, (iId d, (iCh d nm, ())))
def idsZ : Nat → ByteArray → Dice → List QaA × Dice
 | 0, _, d => ([], d)
 | n + 1, nm, d => (idV d nm :: (idsZ n nm (iD6 d nm)).1, (idsZ n nm (iD6 d nm)).2)
abbrev eL0 (d : Dice) : Int := dof d [1, 1, 2, 3]
abbrev eD1 (d : Dice) : Dice := dofN d [1, 1, 2, 3]
abbrev eD2 (d : Dice) : Dice := suiN (eD1 d)
abbrev eD3 (d : Dice) : Dice := dnext (eD2 d) 2
abbrev eD4 (d : Dice) : Dice := dnext (eD3 d) 2
abbrev eD5 (d : Dice) : Dice := dnext (eD4 d) (5 - eL0 d)
abbrev eD6 (d : Dice) : Dice := dnext (eD5 d) 3
abbrev eB (d : Dice) : Bool := igt (dval (eD5 d) 3) 0
def eLst (d : Dice) : Int := bif eB d then 1 else eL0 d
def eMst (d : Dice) : Int := bif eB d then dof (eD6 d) [3, 4, 2] else eL0 d + dval (eD4 d) (5 - eL0 d)
def eD7 (d : Dice) : Dice := bif eB d then dofN (eD6 d) [3, 4, 2] else eD6 d
abbrev eD8 (d : Dice) : Dice := dofN (eD7 d) [1, 2, 1, 3, 0]
def eIdz (d : Dice) (nm : ByteArray) : List QaA × Dice := idsZ (dof (eD7 d) [1, 2, 1, 3, 0]).toNat nm (eD8 d)
abbrev eAn (d : Dice) (nm : ByteArray) : List Int := lgt (.sl tI) [[1, 2], [1, 2], [1], [2, 11], ([] : List Int)] (dval (eIdz d nm).2 5).toNat
abbrev eD10 (d : Dice) (nm : ByteArray) : Dice := dnext (eIdz d nm).2 5
abbrev eHs (d : Dice) (nm : ByteArray) : List Int := lgt (.sl tI) [[1, 2, 3, 4], [2, 3, 4], [3, 4]] (dval (eD10 d nm) 3).toNat
def epV (d : Dice) (nm : ByteArray) : Qab := (nm, (eLst d, (eMst d, (suiV (eD1 d), (done (eD2 d) 2, ((eIdz d nm).1, (eAn d nm, (eHs d nm, (done (eD3 d) 2, ())))))))))
def epN (d : Dice) (nm : ByteArray) : Dice := dnext (eD10 d nm) 3
-- loop 0: (x1 : ByteArray) (x6 : Int) (y4 : Qab) (y5_0 : ByteArray) (y5_1 : Int) (y5_2 : Int) (y5_4 : Bool) (y5_8 : Bool) (y15 : (List Int)) (y20505 : (List QaA)) (y50000 : Dice); out: ('exit', 0) (y4 : Qab) (y5_0 : ByteArray) (y5_1 : Int) (y5_2 : Int) (y5_4 : Bool) (y5_8 : Bool) (y15 : (List Int)) (y20505 : (List QaA)) (y50000 : Dice)
end
end Go.Proofs.YtckcgijklnloiaaGreat.K
namespace Go.Proofs.YtckcgijklnloiaaGreat.K
open Go.RowKit
noncomputable section
def prZ : List Int → List Int → Dice → List Int × Dice
 | [], s, d => (s, d)
 | x :: r, s, d => if ilt (llen s) 16 = true then (if hasF s x = true then prZ r s d else if done d 2 = true then prZ r (s ++ [x]) (dnext d 2) else prZ r s (dnext d 2)) else (s, d)
end
end Go.Proofs.YtckcgijklnloiaaGreat.K
namespace Go.Proofs.YtckcgijklnloiaaGreat.K
open Go.RowKit
noncomputable section
end
end Go.Proofs.YtckcgijklnloiaaGreat.K
namespace Go.Proofs.YtckcgijklnloiaaGreat.K
open Go.RowKit
noncomputable section
end
end Go.Proofs.YtckcgijklnloiaaGreat.K
namespace Go.Proofs.YtckcgijklnloiaaGreat.K
open Go.RowKit
noncomputable section
def rowC (s : Qab) (o : List Int) (v : Int) (k : Nat) : List Keep := ((List.range' k (17 - k)).filter fun (j : Nat) => posE s o v (j : Int)).map fun (j : Nat) => (v, ((j : Int), ()))
def verC (s : Qab) (o : List Int) (v n : Nat) : List Keep := (List.range' v n).flatMap fun (j : Nat) => rowC s o (j : Int) 1
abbrev hiC (c s : Qab) : Int := imn c.2.2.1 s.2.2.1
abbrev loC (c s : Qab) : Int := imx c.2.1 s.2.1
def Qbq (c s : Qab) : List Keep := bif !QeJ c s then [] else verC s (QaE c) (loC c s).toNat (hiC c s + 1 - loC c s).toNat
-- loop 0: (x6 : Int) (x7 : Int) (y2 : Qab) (y3 : Qab) (y5 : (List Keep)); out: ('exit', 2) (x6 : Int) (y2 : Qab) (y3 : Qab) (y5 : (List Keep))
-- loop 1: (x6 : Int) (y2 : Qab) (y3 : Qab) (y5 : (List Keep)); out: ('exit', 0) (y5 : (List Keep))
end
end Go.Proofs.YtckcgijklnloiaaGreat.K
namespace Go.Proofs.YtckcgijklnloiaaGreat.K
open Go.RowKit
noncomputable section
theorem QEP (l : List Int) : (sortI l).Pairwise (· ≤ ·) := by
 have := List.pairwise_mergeSort (le := fun x y : Int => decide (x ≤ y)) (fun a b c h1 h2 => by simp only [decide_eq_true_eq] at *; omega) (fun a b => by simp only [Bool.or_eq_true, decide_eq_true_eq]; omega) l
 exact this.imp fun h => of_decide_eq_true h
theorem QtB {l : List Int} {p : Int → Bool} (hn : l.Nodup) (hr : ∀ x ∈ l, 1 ≤ x ∧ x ≤ 16) (hp : ∀ x, p x = true → x ∈ l) : (sortI l).filter p = (((List.range' 1 16).filter fun (j : Nat) => p (j : Int)).map fun (j : Nat) => (j : Int)) := by
 have hperm : (sortI l).Perm l := List.mergeSort_perm _ _
 refine List.Perm.eq_of_pairwise (le := (· ≤ ·)) (fun a b _ _ h1 h2 => by omega) ((QEP l).filter _) ?_ ?_
 ·rw [List.pairwise_map]
  refine List.Pairwise.filter _ ?_
  refine (List.pairwise_lt_range' (s := 1) (n := 16)).imp fun h => by omega
 ·refine (List.perm_ext_iff_of_nodup ((hperm.nodup_iff.2 hn).filter _) ?_).2 fun a => ?_
  ·rw [List.nodup_iff_pairwise_ne, List.pairwise_map]
   refine List.Pairwise.filter _ ?_
   refine (List.pairwise_lt_range' (s := 1) (n := 16)).imp fun h => by omega
  ·simp only [List.mem_filter, List.mem_map, List.mem_range'_1, hperm.mem_iff]
   constructor
   ·rintro ⟨h1, h2⟩
    have := hr a h1
    exact ⟨a.toNat, ⟨by omega, by rw [Int.toNat_of_nonneg (by omega)]; exact h2⟩, Int.toNat_of_nonneg (by omega)⟩
   ·rintro ⟨j, ⟨_, h2⟩, rfl⟩
    exact ⟨hp _ h2, h2⟩
def rowS (s : Qab) (o : List Int) (v : Int) (l : List Int) : List Keep := (l.filter fun j => posE s o v j).map fun j => (v, (j, ()))
theorem QLv {l : List Int} (h : suitF l = true) : ∀ x ∈ l, 1 ≤ x ∧ x ≤ 16 := by
 intro x hx
 obtain ⟨k, hk, rfl⟩ := List.mem_iff_getElem.1 hx
 exact (Qkx h k hk).1
theorem QQ3 {s : Qab} {o : List Int} {v : Int} (h : suitF o = true) : rowS s o v (sortI o) = rowC s o v 1 := by
 unfold rowS rowC
 rw [QtB (p := fun j => posE s o v j) (QqC h) (QLv h) (fun x hx => by
  simp only [posE, Bool.and_eq_true] at hx
  exact List.contains_iff_mem.1 hx.2.2.2.1), List.map_map]
 rfl
theorem QBA {c : Qab} (h : QaS c = true) : suitF (QaE c) = true := by
 simp only [QaS, Bool.and_eq_true] at h
 exact h.2.2.2.2.1
end
end Go.Proofs.YtckcgijklnloiaaGreat.K
namespace Go.Proofs.YtckcgijklnloiaaGreat.K
open Go.RowKit Go.Shelf
attribute [local go_sem] Oper.semAt_some
set_option maxRecDepth 100000 in
set_option maxHeartbeats 1000000 in
theorem QyZ (Bs b0 off c n : Nat) (A : Option Addr) (vs : List Value) (Xf : Nat → Nat → Prop) (w : World) (hreach : n * 8 ≤ 140737488351232) (hvl : vs.length = n)
  (hBs : w.cell? ⟨Bs, 0, none⟩ = some (.slice A n c)) (hBl : Bs < w.heap.size)
  (hA : 0 < n → A = some ⟨b0, off, none⟩ ∧ b0 < w.heap.size ∧ (∀ j, j < vs.length → ¬ Xf b0 (off + j)) ∧ ∀ j v, vs[j]? = some v → w.cell? ⟨b0, off + j, none⟩ = some v) :
  ItOk Tryz.prog 136 [.pointer (some ⟨Bs, 0, none⟩)] (vs.map fun v => #[v]) Xf w := by
 intro l J Jx W hJ hJx hK hY h0 hst
 have HA := Lib.hid hA
 clear hA
 refine callsIn_of_wp (F := Fw none) Tryz.func136 rfl trivial ?_ rfl
 simp only [Tryz.ntmps136, List.size_toArray, List.length_cons, List.length_nil, Nat.reduceAdd, Nat.reduceSub, Array.replicate_succ, Array.replicate_zero, List.push_toArray, List.append_toArray, List.nil_append, List.cons_append]
 have hb0 : W.cell? ⟨Bs, 0, none⟩ = some (.slice A n c) := (hst Bs 0 hBl).trans hBs
 gi_wp2
 gi_loopw [7] (fun i wr => ∃ k : Nat, k ≤ n ∧ i = .int .i64 (k : Int) ∧ J ((vs.drop k).map fun v => #[v]) wr)
  (fun i _ => n - (intOf i).toNat)
 case atStart => exact ⟨0, Nat.zero_le _, rfl, h0⟩
 case round =>
  obtain ⟨k, hk, rfl, hJs⟩ := hrel
  by_cases hlt : k < n
  ·obtain ⟨rfl, hbl, hnx, hcl⟩ := HA.out (by omega)
   have hlt2 : k < vs.length := by omega
   rw [List.drop_eq_getElem_cons hlt2, List.map_cons] at hJs
   obtain ⟨fn, tmps, assign, body, hy, hR⟩ := hY _ _ wr hJs
   have hcx' : wr.cell? ⟨b0, off + k, none⟩ = some vs[k] := ((hK _ wr hJs).2 b0 _ hbl (hnx _ hlt2)).trans (hcl _ _ (List.getElem?_eq_getElem hlt2))
   clear hnx hcl hY
   gi_wp2
   refine hR.mono ?_
   rintro e W3 (⟨rfl, hJ3⟩ | ⟨rfl, hJx3⟩)
   ·gi_wp2
    go_roundw
    case rel => exact ⟨k + 1, by omega, by simp, hJ3⟩
    case measure => simp [intOf]; omega
   ·gi_wp2
    refine bodyPost_ret (results_none rfl _ _ _) rfl ?_
    exact ⟨⟨_, rfl⟩, .inr hJx3⟩
  ·obtain rfl : k = n := by omega
   rw [List.drop_of_length_le (by omega)] at hJs
   gi_wp2
   go_end0
   exact ⟨⟨_, rfl⟩, .inl hJs⟩
def mkIt (l : List SV) (bs : List Ty) (yr : Ty) (ok : boxT bs → Bool) (f : boxT bs → List yr.T) : Itr := fun caps objs =>
 match rdVt l caps, Qbr bs objs with
 | some _, some d => some (ok d, ⟨yr, f d⟩)
 | _, _ => none
def QfM (l : List Int) : Bool := decide (l.length ≤ 100000)
def valI (l : List Int) : List (Int × Unit) := l.map fun x => (x, ())
def QmY : Itr := mkIt [.ptr 50000 0] [(.sl tI)] (.pr tI .nil) (fun d => (QfM d.1)) (fun d => (valI d.1))
noncomputable def QC4 : TC := (.sq (.reg (rT Tryz.f89 0)) (.sq (.reg (rT Tryz.f89 1)) .rt))
def QPA : List (RV × Option Ty) := [((.t 2), none)]
def g_f89 : G := ⟨TYs, [], 4, EL [], keeps, (fun _ _ => none), IL [], RL []⟩
def r_f89 (p0 : List Int) : Option (V × List VO) := some (.fn 136 [(.ptr 50000 0)], [.box (.t (.sl tI) p0)])
theorem e_f89 (p0 : List Int) : runF g_f89 QC4 QPA true [.t (.sl tI) p0] [] = r_f89 p0 := by kernel_rfl
theorem en_f89 : Qah Tryz.prog 89 := .inr ⟨by decide, _, Tryz.func89, by kernel_rfl, by kernel_rfl⟩
theorem gk_f89 : GOk Tryz.prog g_f89 := Qal _ (fun p hp => by cases hp)
theorem lk_f89 : QC4.lok g_f89 := by repeat (first | exact trivial | refine ⟨?_, ?_⟩)
def QO3 : Ent := specO (.pr (.sl tI) .nil) (fun _ => true) (fun x => .fn 136 [.ptr 50000 0]) (fun x => [.box (.t (.sl tI) x.1)])
theorem ms_f89 : Meets Tryz.prog 89 (strip QO3) := Qpf (R := runF g_f89 QC4 QPA true) (mG Tryz.func89 (by kernel_rfl) Tryz.ntmps89 (by kernel_rfl) gk_f89 lk_f89) fun x _ => (e_f89 x.1).trans rfl
theorem QKh (l : List Int) : l.flatMap tI.cells = l.map fun x => D.v (.int .i64 x) := by
 induction l with
 | nil => rfl
 | cons x r ih => rw [List.flatMap_cons, ih, List.map_cons]; rfl
theorem QIT : Iters Tryz.prog (136 + 1000000) QmY := by
 refine Iters.strong (enters_of Tryz.func136 (by kernel_rfl) rfl) fun caps objs yr rows h X w σ lb hfin hl hc => ?_
 unfold QmY mkIt at h
 split at h
 ·rename_i x d hx hd
  simp only [Option.some.injEq, Prod.mk.injEq] at h
  obtain ⟨hok, h⟩ := h
  cases h
  have hcaps := QkE hx
  subst hcaps
  cases objs with
  | nil => simp [Qbr] at hd
  | cons o os =>
   cases o with
   | box cv =>
    cases os with
    | cons o2 os => simp [Qbr] at hd
    | nil =>
     simp only [Qbr] at hd
     split at hd
     ·rename_i l u hl1 _
      simp only [Option.some.injEq] at hd
      subst hd
      have hlen : l.length ≤ 100000 := of_decide_eq_true hok
      have hcv := SV.rd_mk (s := .ty (.sl tI)) (v := cv) (x := l) (by simpa [asBox, Ty.row] using hl1)
      subst hcv
      obtain ⟨⟨Bs, ty, us, h1, h2, h3, h4⟩, _⟩ := hl.at_ 0 _ rfl
      have h3' : Cs X w σ [.sl (List.length l) (List.flatMap tI.cells l)] us := h3
      obtain ⟨uv, rfl, h5⟩ := h3'.one
      simp only [C] at h5
      obtain ⟨A, c, rfl, g1, g2, g3, g4⟩ := h5
      simp only [mkVt, SV.mk, V.ds, V.d, Cs, C] at hc
      obtain ⟨p, ps, rfl, ⟨b', e1, rfl⟩, rfl⟩ := hc
      have h1 : σ 50000 = .box Bs := h1
      rw [h1] at e1
      injection e1 with e1
      subst e1
      have hcell : w.cell? ⟨Bs, 0, none⟩ = some (.slice A (List.length l) c) := by simp [World.cell?, h2]
      have hBl := (Array.getElem?_eq_some_iff.1 h2).1
      rcases Nat.eq_zero_or_pos (List.length l) with h0 | hp
      ·have hl0 : l = [] := List.eq_nil_of_length_eq_zero h0
       subst hl0
       exact ⟨[], ⟨rfl, fun i r v hr => by simp [valI] at hr⟩, QyZ Bs 0 0 c 0 A [] _ w (by omega) rfl hcell hBl (fun h => absurd h (by omega))⟩
      ·obtain ⟨b0, off, vs, rfl, g5, g6⟩ := g4 hp
       have hvl := g5.len
       rw [QKh, List.length_map] at hvl
       refine ⟨vs.map fun v => #[v], ⟨by simp [valI, hvl], fun i r v hr hv => ?_⟩, QyZ Bs b0 off c (List.length l) _ vs _ w (by omega) hvl hcell hBl (fun _ => ⟨rfl, g6.lt, fun j hj hx => g6.nx j hj hx, fun j v hv => g6.at_ j v hv⟩)⟩
       rw [QKh] at g5
       simp only [valI, List.getElem?_map, Option.map_eq_some_iff] at hr hv
       obtain ⟨x, hx, rfl⟩ := hr
       obtain ⟨u, hu, rfl⟩ := hv
       have hd : (l.map fun x => D.v (.int .i64 x))[i]? = some (.v (.int .i64 x)) := by rw [List.getElem?_map, hx]; rfl
       obtain ⟨u2, hu2, hcu⟩ := g5.at_ hd
       rw [hu] at hu2
       injection hu2 with hu2
       subst hu2
       simp only [Ty.canon, V.ds, V.d, Cs]
       refine ⟨_, _, rfl, ?_, rfl⟩
       rw [(C.v hcu).1]
       simp only [Ty.d, C]
       exact ⟨trivial, rfl⟩
     ·cases hd
   | no => simp [Qbr] at hd
   | arr e t l => simp [Qbr] at hd
 ·cases h
end Go.Proofs.YtckcgijklnloiaaGreat.K
namespace Go.Proofs.YtckcgijklnloiaaGreat.K
open Go.RowKit
noncomputable section
def idL (l : List Int) : List Int := l
def sortL (l : List Int) : List Int := sortI l
def Qa9 : Fg := ⟨[(2, none)], [(60000, none), (11, none), (20200, none), (50000, some (.sl tI))]⟩
noncomputable def Qc4 : TC := (.reg (rT Tryz.f160 2))
noncomputable def Qc3 : TC := (.bk 1 (.reg (rT Tryz.f160 3)))
noncomputable def QhR : TC := (.sq (.reg (rT Tryz.f160 0)) (.sq (.sq (.reg (rT Tryz.f160 1)) (.bk 0 (.nf 2 0 3 20200 (.rf 0 Qa9 (.t 6) (.pr tI .nil) [7] [2] Qc4 Qc3)))) (.sq (.reg (rT Tryz.f160 4)) .rt)))
def QoK : List (RV × Option Ty) := [((.t 4), none)]
abbrev Qff : Sh := ⟨[(2, .ptr 60000 0)], [(60000, .bag [.ms 20200]), (11, .no), (20200, .arr 3 tI), (50000, .box (.sl tI))]⟩
def Qfc (y20200 y50000 : List Int) : VS := Qff.st ((), ()) (((), ()), (), y20200, y50000, ())
abbrev QhE : Sh := ⟨[(2, .ptr 60000 0)], [(60000, .bag [.ms 20200]), (11, .no), (20200, .arr 3 tI), (50000, .box (.sl tI))]⟩
def QcX (y20200 y50000 : List Int) : VS := QhE.st ((), ()) (((), ()), (), y20200, y50000, ())
def Qew : VS → List (Ty.T (.pr tI .nil)) → Option (Bool × List (Bool × Exit × VS)) := mkR Qff (fun zs x y => (decide (zs.length + y.2.2.1.length ≤ 100000))) (fun zs x y => [(true, .normal, QcX (y.2.2.1 ++ zs.map (fun z => z.1)) (y.2.2.2.1))])
def QbL : G := ⟨TYs, [], 13, EL [], keeps, (Ls [fun _ => none]), IL [(1000136, QmY)], (RL [⟨(.pr tI .nil), Qew⟩])⟩
def QlI (z : (Int × Unit)) (y20200 y50000 : List Int) : Option (Exit × VS) := br (cApp y20200 ([z.1]) 8) (some (.normal, Qfc (y20200 ++ ([z.1])) y50000)) none
noncomputable def Qfu (zs : List (Int × Unit)) (y20200 y50000 : List Int) : Option (Exit × VS) := QcY (Qea QbL Qa9 (.pr tI .nil) [7] Qc4 Qc3) zs (Qfc y20200 y50000)
noncomputable def Qgo (z : (Int × Unit)) (zs : List (Int × Unit)) (y20200 y50000 : List Int) : Option (Exit × VS) := br (cApp y20200 ([z.1]) 8) (Qfu zs (y20200 ++ ([z.1])) y50000) none
def QfB (zs : List (Int × Unit)) (y20200 y50000 : List Int) : Option (Exit × VS) := some (.normal, QcX (y20200 ++ zs.map (fun z => z.1)) (y50000))
theorem Qte (z : (Int × Unit)) (y20200 y50000 : List Int) : Qea QbL Qa9 (.pr tI .nil) [7] Qc4 Qc3 z (Qfc y20200 y50000) = QlI z y20200 y50000 := by kernel_rfl
theorem QsQ (z : (Int × Unit)) (zs : List (Int × Unit)) (y20200 y50000 : List Int) : Qfu (z :: zs) y20200 y50000 = Qgo z zs y20200 y50000 := (Qh7 _ _ _ _).trans (by
 rw [Qte]
 simp only [QlI, Qgo, Qax, nxt_n, nxt_r, nxt_e, nxt_0]
 rfl)
def QkH (d0 : List Int) : Option (V × List VO) := br (QfM d0) (br (decide ((valI d0).length + ([] : List Int).length ≤ 100000)) (some (.ms 50001, [.box (.t (.sl tI) (d0)), .arr 3 tI (([] : List Int) ++ (valI d0).map (fun z => z.1))])) none) none
theorem QCs (d0 : List Int) : runF QbL QhR QoK true [.c (.slice none 0 0), .fn 136 [(.ptr 50000 0)]] [.box (.t (.sl tI) d0)] = QkH d0 := by kernel_rfl
theorem Qyz : Qah Tryz.prog 160 := .inr ⟨by decide, _, Tryz.func160, by kernel_rfl, by kernel_rfl⟩
theorem Qyl : GOk Tryz.prog QbL := Qal _ (fun p hp => by cases hp) [(1000136, QmY)] (by
 intro p hp
 simp only [List.mem_cons, List.not_mem_nil, or_false] at hp
 rcases hp with rfl
 ·exact QIT)
theorem Qvg (zs : List (Int × Unit)) (y20200 y50000 : List Int) (h : (decide (zs.length + y20200.length ≤ 100000)) = true) : Qfu zs y20200 y50000 = QfB zs y20200 y50000 := by
 induction zs generalizing y20200 with
 | nil =>
  simp only [QfB, List.map_nil, List.append_nil]
  rfl
 | cons z zs ih =>
  rw [QsQ]
  have h := of_decide_eq_true h
  rw [List.length_cons] at h
  have c1 : cApp y20200 [z.1] 8 = true := cAppN (by omega) (by simp only [List.length_singleton]; omega)
  simp only [Qgo, c1, Qac]
  rw [ih (y20200 ++ [z.1]) (decide_eq_true (by simp only [List.length_append, List.length_singleton]; omega))]
  simp only [QfB, List.map_cons, List.append_assoc, List.singleton_append]
theorem QsO : ∀ S (rows : List (Ty.T (.pr tI .nil))) l p, QbL.R 0 (fgt Qa9 S) (.pr tI .nil) rows = some (true, l) → pickA l = some p → QcY (Qea QbL Qa9 (.pr tI .nil) [7] Qc4 Qc3) rows (fgt Qa9 S) = some p := by
 intro S rows l p hR hp
 rw [show QbL.R 0 (fgt Qa9 S) (.pr tI .nil) rows = Qew (fgt Qa9 S) rows from RL_at (l := [⟨(.pr tI .nil), Qew⟩]) (j := 0) (F := Qew) rfl _ _] at hR
 refine QxY (s := Qff) ⟨by decide, by decide⟩ (by kernel_rfl) (fun zs x y hok p hp => ?_) S rows l p hR hp
 simp only [Qap, Qam] at hp
 exact (Qvg zs y.2.2.1 y.2.2.2.1 (by first | rfl | simpa using hok)).trans hp
theorem Qx4 : QhR.lok QbL := by
 repeat (first | exact trivial | exact QsO | refine ⟨?_, ?_⟩)
theorem QLj (l : List Int) : (valI l).map (fun z => z.1) = l := by
 unfold valI
 rw [List.map_map]
 exact List.map_id _
theorem QBO (l : List Int) (h : QfM l = true) : QkH l = some (.ms 50001, [.box (.t (.sl tI) l), .arr 3 tI (idL l)]) := by
 have hl : l.length ≤ 100000 := of_decide_eq_true h
 have c1 : decide ((valI l).length + ([] : List Int).length ≤ 100000) = true := decide_eq_true (by simp only [valI, List.length_map, List.length_nil]; omega)
 simp only [QkH, h, Qac]
 refine Eq.trans (congrArg (fun b => br b _ _) c1) ?_
 rw [Qac, List.nil_append, QLj]
 rfl
def QnR : Ent := specB [.nl, .fn 136 [(50000, 0)]] [.box (.sl tI)] (fun x y => (QfM y.1)) (fun x y => (.ms 50001)) (fun x y => [.box (.t (.sl tI) y.1), .arr 3 tI (idL y.1)])
theorem QxI : Meets Tryz.prog 160 (strip QnR) := Qcw (QaR (R := runF QbL QhR QoK true) (mG Tryz.func160 (by kernel_rfl) Tryz.ntmps160 (by kernel_rfl) Qyl Qx4) fun x y hok => (QCs y.1).trans (QBO y.1 hok))
noncomputable def QhS : TC := (.sq (.reg (rT Tryz.f134 0)) (.sq (.reg (rT Tryz.f134 1)) .rt))
def QoL : List (RV × Option Ty) := [((.t 2), none)]
def Qhu : G := ⟨TYs, [], 5, EL [(160, QnR)], keeps, (fun _ _ => none), IL [], RL []⟩
def QkI (d0 : List Int) : Option (V × List VO) := br (QfM d0) (some (.ms 50001, [.box (.t (.sl tI) d0), .arr 3 tI (idL d0)])) none
theorem QCt (d0 : List Int) : runF Qhu QhS QoL true [.fn 136 [(.ptr 50000 0)]] [.box (.t (.sl tI) d0)] = QkI d0 := by kernel_rfl
theorem QyB : Qah Tryz.prog 134 := .inr ⟨by decide, _, Tryz.func134, by kernel_rfl, by kernel_rfl⟩
theorem Qym : GOk Tryz.prog Qhu := Qal _ (gA (gC Qyz QxI gN))
theorem Qx5 : QhS.lok Qhu := by repeat (first | exact trivial | refine ⟨?_, ?_⟩)
theorem QBP (l : List Int) (h : QfM l = true) : QkI l = some (.ms 50001, [.box (.t (.sl tI) l), .arr 3 tI (idL l)]) := by
 simp only [QkI, h, Qac]
def QnS : Ent := specB [.fn 136 [(50000, 0)]] [.box (.sl tI)] (fun x y => (QfM y.1)) (fun x y => (.ms 50001)) (fun x y => [.box (.t (.sl tI) y.1), .arr 3 tI (idL y.1)])
theorem QxK : Meets Tryz.prog 134 (strip QnS) := Qcw (QaR (R := runF Qhu QhS QoL true) (mG Tryz.func134 (by kernel_rfl) Tryz.ntmps134 (by kernel_rfl) Qym Qx5) fun x y hok => (QCt y.1).trans (QBP y.1 hok))
noncomputable def Qks : TC := (.sq (.reg (rT Tryz.f88 0)) (.sq (.reg (rT Tryz.f88 1)) (.sq (.reg (rT Tryz.f88 2)) (.sq (.reg (rT Tryz.f88 3)) .rt))))
def QqL : List (RV × Option Ty) := [((.t 2), none)]
def QjZ : G := ⟨TYs, [], 9, EL [(134, QnS), (135, QEA)], keeps, (fun _ _ => none), IL [], RL []⟩
def QoS (d0 : List Int) : Option (V × List VO) := br (QfM d0) (br (lenOk (idL d0)) (some (.ms 50001, [.box (.t (.sl tI) d0), .arr 3 tI (sortI (idL d0))])) none) none
theorem QJP (d0 : List Int) : runF QjZ Qks QqL true [.fn 136 [(.ptr 50000 0)]] [.box (.t (.sl tI) d0)] = QoS d0 := by kernel_rfl
theorem QCl : Qah Tryz.prog 88 := .inr ⟨by decide, _, Tryz.func88, by kernel_rfl, by kernel_rfl⟩
theorem QCc : GOk Tryz.prog QjZ := Qal _ (gA (gC QyB QxK (gC QVI QR1 gN)))
theorem QB2 : Qks.lok QjZ := by repeat (first | exact trivial | refine ⟨?_, ?_⟩)
theorem QEZ (l : List Int) (h : QfM l = true) : QoS l = some (.ms 50001, [.box (.t (.sl tI) l), .arr 3 tI (sortL l)]) := by
 have hl : l.length ≤ 100000 := of_decide_eq_true h
 have c1 : lenOk (idL l) = true := decide_eq_true (by show l.length < _; omega)
 simp only [QoS, h, c1, Qac]
 rfl
def QqE : Ent := specB [.fn 136 [(50000, 0)]] [.box (.sl tI)] (fun x y => (QfM y.1)) (fun x y => (.ms 50001)) (fun x y => [.box (.t (.sl tI) y.1), .arr 3 tI (sortL y.1)])
theorem QBW : Meets Tryz.prog 88 (strip QqE) := Qcw (QaR (R := runF QjZ Qks QqL true) (mG Tryz.func88 (by kernel_rfl) Tryz.ntmps88 (by kernel_rfl) QCc QB2) fun x y hok => (QJP y.1).trans (QEZ y.1 hok))
end
end Go.Proofs.YtckcgijklnloiaaGreat.K
namespace Go.Proofs.YtckcgijklnloiaaGreat.K
open Go.RowKit
noncomputable section
def rowT (t : Talk) (v : Int) (l : List Int) : List Keep := (l.filter fun j => possF t j).map fun j => (v, (j, ()))
theorem QGf {t : Talk} {v x : Int} {r : List Int} : rowT t v (x :: r) = if possF t x = true then (v, (x, ())) :: rowT t v r else rowT t v r := by
 unfold rowT
 rw [List.filter_cons]
 split <;> rfl
theorem QLQ (t : Talk) (v : Int) (l : List Int) : (rowT t v l).length ≤ l.length := by
 unfold rowT
 rw [List.length_map]
 exact List.length_filter_le _ _
def verS (s : Qab) (o l : List Int) (v n : Nat) : List Keep := (List.range' v n).flatMap fun (j : Nat) => rowT (s, ((j : Int), (o, ()))) (j : Int) l
theorem QQN {s : Qab} {o : List Int} {v n : Nat} (h : suitF o = true) : verS s o (sortI o) v n = verC s o v n := by
 unfold verS verC
 congr 1
 funext j
 exact QQ3 h
def Qj9 : Fg := ⟨[(2, none), (3, none), (5, none), (6, none), (7, some tI), (8, none), (38, none), (39, some tI), (40, some tI)], [(2, some Qae), (3, some Qae), (5, none), (8, some QeH), (18, none), (52, none), (5018, none), (10018, none), (15018, none)]⟩
noncomputable def QlZ : TC := (.sq (.reg (rT Tryz.f54 9)) (.sq (.cd (.t 41) .sk (.fg ⟨[(2, none), (3, none), (5, none), (6, none), (7, some tI)], [(2, some Qae), (3, some Qae), (5, none), (18, none), (52, none), (5018, none), (10018, none), (15018, none)]⟩ (.ex 2))) (.sq (.bk 3 (.sq (.reg (rT Tryz.f54 10)) (.sq (.reg (rT Tryz.f54 11)) (.cd (.t 46) (.reg (rT Tryz.f54 12)) .sk)))) (.reg (rT Tryz.f54 13)))))
def Qj8 : Fg := ⟨[(2, none), (3, none), (5, none), (6, none), (7, some tI)], [(2, some Qae), (3, some Qae), (5, none), (18, none), (52, none), (5018, none), (10018, none), (15018, none)]⟩
noncomputable def QlY : TC := (.sq (.sq (.reg (rT Tryz.f54 6)) (.cd (.t 30) .sk (.fg ⟨[(5, none)], [(5, none), (52, none)]⟩ (.ex 0)))) (.sq (.bk 1 (.sq (.reg (rT Tryz.f54 7)) (.sq (.reg (rT Tryz.f54 8)) (.bk 2 (.nw 5 39 (.lp 0 Qj9 QlZ)))))) (.reg (rT Tryz.f54 14))))
noncomputable def QDg : TC := (.sq (.reg (rT Tryz.f54 0)) (.sq (.sq (.reg (rT Tryz.f54 1)) (.cd (.t 14) (.sq (.reg (rT Tryz.f54 2)) .rt) .sk)) (.sq (.reg (rT Tryz.f54 3)) (.sq (.reg (rT Tryz.f54 4)) (.sq (.sq (.reg (rT Tryz.f54 5)) (.bk 0 (.nw 5 39 (.lp 1 Qj8 QlY)))) (.sq (.reg (rT Tryz.f54 15)) .rt))))))
def QPM : List (RV × Option Ty) := [((.t 4), some (.sl Qai))]
abbrev QrF : Sh := ⟨[(2, .ptr 2 0), (3, .ptr 3 0), (5, .ms 5), (6, .ms 18), (7, .ty tI), (8, .ptr 8 0), (38, .ms 18), (39, .ty tI), (40, .ty tI)], [(2, .box Qae), (3, .box Qae), (5, .arr 39 Qai), (8, .box QeH), (18, .arr 3 tI), (52, .no), (5018, .no), (10018, .no), (15018, .no)]⟩
def Qmc (x7 x39 x40 : Int) (y2 y3 : Qab) (y5 : List Keep) (y8 : Talk) (y18 : List Int) : VS := QrF.st ((), (), (), (), x7, (), (), x39, x40, ()) (y2, y3, y5, y8, y18, (), (), (), (), ())
abbrev Qxe : Sh := ⟨[(2, .ptr 2 0), (3, .ptr 3 0), (5, .ms 5), (6, .ms 18), (7, .ty tI)], [(2, .box Qae), (3, .box Qae), (5, .arr 39 Qai), (18, .arr 3 tI), (52, .no), (5018, .no), (10018, .no), (15018, .no)]⟩
def Qe1 (x7 : Int) (y2 y3 : Qab) (y5 : List Keep) (y18 : List Int) : VS := Qxe.st ((), (), (), (), x7, ()) (y2, y3, y5, y18, (), (), (), (), ())
abbrev QrE : Sh := ⟨[(2, .ptr 2 0), (3, .ptr 3 0), (5, .ms 5), (6, .ms 18), (7, .ty tI)], [(2, .box Qae), (3, .box Qae), (5, .arr 39 Qai), (18, .arr 3 tI), (52, .no), (5018, .no), (10018, .no), (15018, .no)]⟩
def Qrl (x7 : Int) (y2 y3 : Qab) (y5 : List Keep) (y18 : List Int) : VS := QrE.st ((), (), (), (), x7, ()) (y2, y3, y5, y18, (), (), (), (), ())
abbrev Qxd : Sh := ⟨[(5, .ms 5)], [(5, .arr 39 Qai), (52, .no)]⟩
def Qe0 (y5 : List Keep) : VS := Qxd.st ((), ()) (y5, (), ())
def QWg : VS → Option (Bool × List (Bool × Exit × VS)) := mkL QrF (fun x y => (decide (x.2.2.2.2.2.2.2.1 = (y.2.2.2.2.1.length : Int) ∧ 0 ≤ x.2.2.2.2.2.2.2.2.1 ∧ x.2.2.2.2.2.2.2.2.1 ≤ x.2.2.2.2.2.2.2.1 ∧ y.2.2.2.2.1.length ≤ 16 ∧ (y.2.2.1.length : Int) ≤ 200 + x.2.2.2.2.2.2.2.2.1) && Qeb y.2.2.2.1 0)) (fun x y => [(true, .exit 2, Qe1 (x.2.2.2.2.1) (y.1) (y.2.1) (y.2.2.1 ++ rowT y.2.2.2.1 x.2.2.2.2.1 (y.2.2.2.2.1.drop x.2.2.2.2.2.2.2.2.1.toNat)) (y.2.2.2.2.1))])
def QWf : VS → Option (Bool × List (Bool × Exit × VS)) := mkL QrE (fun x y => (decide (1 ≤ x.2.2.2.2.1 ∧ x.2.2.2.2.1 ≤ 5 ∧ hiC y.1 y.2.1 ≤ 4 ∧ (y.2.2.1.length : Int) ≤ 16 * x.2.2.2.2.1 ∧ y.2.2.2.1.length ≤ 16) && lenEE y.2.1 (QaE y.1))) (fun x y => [(true, .exit 0, Qe0 (y.2.2.1 ++ verS y.2.1 (QaE y.1) y.2.2.2.1 x.2.2.2.2.1.toNat (hiC y.1 y.2.1 + 1 - x.2.2.2.2.1).toNat))])
def g_f54 : G := ⟨TYs, [], 55, EL [(82, Qy4), (88, QqE), (89, QO3), (90, QDL)], keeps, (Ls [QWg, QWf]), IL [], RL []⟩
def QK0 (x7 x39 x40 : Int) (y2 y3 : Qab) (y5 : List Keep) (y8 : Talk) (y18 : List Int) : Option (Exit × VS) :=
 let a1 := lgt tI y18 (Int.toNat x40)
 br (ilt x40 x39) (br (cIx y18 x40) (br (cLd y18 (Int.toNat x40)) (br (Qeb y8 a1) (br (possF y8 a1) (br (cApp y5 ([(x7, (a1, ()))]) 16) (some (.normal, Qmc x7 x39 (iadd .i64 x40 1) y2 y3 (y5 ++ ([(x7, (a1, ()))])) y8 y18)) none) (some (.normal, Qmc x7 x39 (iadd .i64 x40 1) y2 y3 y5 y8 y18))) none) none) none) (some (.exit 2, Qe1 x7 y2 y3 y5 y18))
noncomputable def Qhn (x7 x39 x40 : Int) (y2 y3 : Qab) (y5 : List Keep) (y8 : Talk) (y18 : List Int) : Option (Exit × VS) := loopF (Qak g_f54 Qj9 QlZ) (Qmc x7 x39 x40 y2 y3 y5 y8 y18)
noncomputable def Qsy (x7 x39 x40 : Int) (y2 y3 : Qab) (y5 : List Keep) (y8 : Talk) (y18 : List Int) : Option (Exit × VS) :=
 let a1 := lgt tI y18 (Int.toNat x40)
 br (ilt x40 x39) (br (cIx y18 x40) (br (cLd y18 (Int.toNat x40)) (br (Qeb y8 a1) (br (possF y8 a1) (br (cApp y5 ([(x7, (a1, ()))]) 16) (Qhn x7 x39 (iadd .i64 x40 1) y2 y3 (y5 ++ ([(x7, (a1, ()))])) y8 y18) none) (Qhn x7 x39 (iadd .i64 x40 1) y2 y3 y5 y8 y18)) none) none) none) (some (.exit 2, Qe1 x7 y2 y3 y5 y18))
def Qjy (x7 x39 x40 : Int) (y2 y3 : Qab) (y5 : List Keep) (y8 : Talk) (y18 : List Int) : Option (Exit × VS) := some (.exit 2, Qe1 (x7) (y2) (y3) (y5 ++ rowT y8 x7 (y18.drop x40.toNat)) (y18))
theorem QOc (x7 x39 x40 : Int) (y2 y3 : Qab) (y5 : List Keep) (y8 : Talk) (y18 : List Int) : Qak g_f54 Qj9 QlZ (Qmc x7 x39 x40 y2 y3 y5 y8 y18) = QK0 x7 x39 x40 y2 y3 y5 y8 y18 := by kernel_rfl
theorem QzC (x7 x39 x40 : Int) (y2 y3 : Qab) (y5 : List Keep) (y8 : Talk) (y18 : List Int) : Qhn x7 x39 x40 y2 y3 y5 y8 y18 = Qsy x7 x39 x40 y2 y3 y5 y8 y18 := (Qan _ _).trans (by
 rw [QOc]
 simp only [QK0, Qsy, Qax, nxt_n, nxt_r, nxt_e, nxt_0]
 rfl)
def QKZ (x7 : Int) (y2 y3 : Qab) (y5 : List Keep) (y18 : List Int) : Option (Exit × VS) :=
 let a1 := ((y3.1, (y3.2.1, (y3.2.2.1, (y3.2.2.2.1, (y3.2.2.2.2.1, (y3.2.2.2.2.2.1, (y3.2.2.2.2.2.2.1, (y3.2.2.2.2.2.2.2.1, (y3.2.2.2.2.2.2.2.2.1, ()))))))))), (x7, (y2.2.2.2.1, ())))
 br (ile x7 (imn y2.2.2.1 y3.2.2.1)) (br (decide ((llen y18) = (y18.length : Int) ∧ 0 ≤ (0 : Int) ∧ (0 : Int) ≤ (llen y18) ∧ y18.length ≤ 16 ∧ (y5.length : Int) ≤ 200 + (0 : Int)) && Qeb a1 0) (some (.normal, Qrl (iadd .i64 (x7) 1) (y2) (y3) (y5 ++ rowT a1 x7 (y18.drop (0 : Int).toNat)) (y18))) none) (some (.exit 0, Qe0 y5))
noncomputable def QmL (x7 : Int) (y2 y3 : Qab) (y5 : List Keep) (y18 : List Int) : Option (Exit × VS) := loopF (Qak g_f54 Qj8 QlY) (Qrl x7 y2 y3 y5 y18)
noncomputable def Qo3 (x7 : Int) (y2 y3 : Qab) (y5 : List Keep) (y18 : List Int) : Option (Exit × VS) :=
 let a1 := ((y3.1, (y3.2.1, (y3.2.2.1, (y3.2.2.2.1, (y3.2.2.2.2.1, (y3.2.2.2.2.2.1, (y3.2.2.2.2.2.2.1, (y3.2.2.2.2.2.2.2.1, (y3.2.2.2.2.2.2.2.2.1, ()))))))))), (x7, (y2.2.2.2.1, ())))
 br (ile x7 (imn y2.2.2.1 y3.2.2.1)) (br (decide ((llen y18) = (y18.length : Int) ∧ 0 ≤ (0 : Int) ∧ (0 : Int) ≤ (llen y18) ∧ y18.length ≤ 16 ∧ (y5.length : Int) ≤ 200 + (0 : Int)) && Qeb a1 0) (QmL (iadd .i64 (x7) 1) (y2) (y3) (y5 ++ rowT a1 x7 (y18.drop (0 : Int).toNat)) (y18)) none) (some (.exit 0, Qe0 y5))
def Qjx (x7 : Int) (y2 y3 : Qab) (y5 : List Keep) (y18 : List Int) : Option (Exit × VS) := some (.exit 0, Qe0 (y5 ++ verS y3 (QaE y2) y18 x7.toNat (hiC y2 y3 + 1 - x7).toNat))
theorem QOb (x7 : Int) (y2 y3 : Qab) (y5 : List Keep) (y18 : List Int) : Qak g_f54 Qj8 QlY (Qrl x7 y2 y3 y5 y18) = QKZ x7 y2 y3 y5 y18 := by kernel_rfl
theorem QzB (x7 : Int) (y2 y3 : Qab) (y5 : List Keep) (y18 : List Int) : QmL x7 y2 y3 y5 y18 = Qo3 x7 y2 y3 y5 y18 := (Qan _ _).trans (by
 rw [QOb]
 simp only [QKZ, Qo3, Qax, nxt_n, nxt_r, nxt_e, nxt_0]
 rfl)
def r_f54 (p0 p1 : Qab) : Option (V × List VO) :=
 let a1 := imx p0.2.1 p1.2.1
 br (QbN p0 p1) (br (!(QeJ p0 p1)) (some (.t (.sl Qai) ([] : List Keep), [])) (br (QfM p0.2.2.2.1) (br (decide (1 ≤ a1 ∧ a1 ≤ 5 ∧ hiC p0 p1 ≤ 4 ∧ (([] : List Keep).length : Int) ≤ 16 * a1 ∧ (sortL p0.2.2.2.1).length ≤ 16) && lenEE p1 (QaE p0)) (some (.t (.sl Qai) (([] : List Keep) ++ verS p1 (QaE p0) (sortL p0.2.2.2.1) a1.toNat (hiC p0 p1 + 1 - a1).toNat), [])) none) none)) none
theorem e_f54 (p0 p1 : Qab) : runF g_f54 QDg QPM false [.t Qae p0, .t Qae p1] [] = r_f54 p0 p1 := by kernel_rfl
theorem en_f54 : Qah Tryz.prog 54 := .inr ⟨by decide, _, Tryz.func54, by kernel_rfl, by kernel_rfl⟩
theorem gk_f54 : GOk Tryz.prog g_f54 := Qal _ (gA (gC QJp QHJ (gC QCl QBW (gC en_f89 ms_f89 (gC QQD QQr gN)))))
theorem QTF (x7 x39 x40 : Int) (y2 y3 : Qab) (y5 : List Keep) (y8 : Talk) (y18 : List Int) (h : (decide (x39 = (y18.length : Int) ∧ 0 ≤ x40 ∧ x40 ≤ x39 ∧ y18.length ≤ 16 ∧ (y5.length : Int) ≤ 200 + x40) && Qeb y8 0) = true) : Qhn x7 x39 x40 y2 y3 y5 y8 y18 = Qjy x7 x39 x40 y2 y3 y5 y8 y18 := by
 obtain ⟨h, hc⟩ := Bool.and_eq_true_iff.1 h
 obtain ⟨rfl, h1, h2, h3, h4⟩ := of_decide_eq_true h
 clear h
 obtain ⟨k, rfl⟩ := Int.eq_ofNat_of_zero_le h1
 have key : ∀ k, k ≤ y18.length → ∀ y5 : List Keep, y5.length ≤ 200 + k → Qhn x7 (y18.length : Int) (k : Int) y2 y3 y5 y8 y18 = Qjy x7 (y18.length : Int) (k : Int) y2 y3 y5 y8 y18 := by
  refine Qat y18 (fun k => ∀ y5 : List Keep, y5.length ≤ 200 + k → Qhn x7 (y18.length : Int) (k : Int) y2 y3 y5 y8 y18 = Qjy x7 (y18.length : Int) (k : Int) y2 y3 y5 y8 y18) ?_ ?_
  ·intro y5 _
   rw [QzC]
   simp only [Qsy, Qjy, Qar, Nat.lt_irrefl, decide_false, Qaf, Int.toNat_natCast, List.drop_length, rowT, List.filter_nil, List.map_nil, List.append_nil]
  ·intro k hk ih y5 hy
   rw [QzC]
   have c1 : cLd y18 k = true := decide_eq_true (by omega)
   have c2 : ∀ v, Qeb y8 v = true := fun v => hc
   have c3 : ∀ v : Keep, cApp y5 [v] 16 = true := fun v => cAppN (by omega) (by simp only [List.length_singleton]; omega)
   simp only [Qsy, Qar, Qau, hk, decide_true, Qac, Int.toNat_natCast, add1 (show k < 4611686018427387904 by omega), Qay (y := tI) hk, c1, c2, c3]
   rw [ih y5 (by omega), ih (y5 ++ [(x7, (y18[k], ()))]) (by simp only [List.length_append, List.length_singleton]; omega)]
   simp only [Qjy, Int.toNat_natCast, List.drop_eq_getElem_cons hk, QGf]
   cases possF y8 y18[k] with
   | true => simp only [Qac, if_true, List.append_assoc, List.singleton_append]
   | false => simp only [Qaf, Bool.false_eq_true, if_false]
 exact key k (by omega) y5 (by omega)
theorem QTE (x7 : Int) (y2 y3 : Qab) (y5 : List Keep) (y18 : List Int) (h : (decide (1 ≤ x7 ∧ x7 ≤ 5 ∧ hiC y2 y3 ≤ 4 ∧ (y5.length : Int) ≤ 16 * x7 ∧ y18.length ≤ 16) && lenEE y3 (QaE y2)) = true) : QmL x7 y2 y3 y5 y18 = Qjx x7 y2 y3 y5 y18 := by
 obtain ⟨h, hc⟩ := Bool.and_eq_true_iff.1 h
 obtain ⟨h0, h1, h2, h3, h4⟩ := of_decide_eq_true h
 clear h
 obtain ⟨k, rfl⟩ := Int.eq_ofNat_of_zero_le (show 0 ≤ x7 by omega)
 have key : ∀ (m k : Nat) (y5 : List Keep), m = 5 - k → 1 ≤ k → k ≤ 5 → y5.length ≤ 16 * k → QmL (k : Int) y2 y3 y5 y18 = Qjx (k : Int) y2 y3 y5 y18 := by
  intro m
  induction m with
  | zero =>
   intro k y5 hm h0 h1 h3
   have : k = 5 := by omega
   subst this
   rw [QzB]
   have e : (hiC y2 y3 + 1 - ((5 : Nat) : Int)).toNat = 0 := by omega
   simp only [Qo3, Qjx, show ile ((5 : Nat) : Int) (imn y2.2.2.1 y3.2.2.1) = false from decide_eq_false (by show ¬ _ ≤ hiC y2 y3; omega), Qaf, e, verS, List.range'_zero, List.flatMap_nil, List.append_nil]
  | succ m ih =>
   intro k y5 hm h0 h1 h3
   rw [QzB]
   by_cases hk : (k : Int) ≤ hiC y2 y3
   ·have e1 : (hiC y2 y3 + 1 - (k : Int)).toNat = (hiC y2 y3 + 1 - ((k + 1 : Nat) : Int)).toNat + 1 := by omega
    have c0 : (decide (True ∧ (0 : Int) ≤ 0 ∧ (0 : Int) ≤ llen y18 ∧ y18.length ≤ 16 ∧ (y5.length : Int) ≤ 200 + 0) && Qeb (y3, ((k : Int), (QaE y2, ()))) 0) = true := Bool.and_eq_true_iff.2 ⟨decide_eq_true ⟨trivial, by simp only [llen]; omega⟩, hc⟩
    have hr := QLQ (y3, ((k : Int), (QaE y2, ()))) (k : Int) y18
    have hi := ih (k + 1) (y5 ++ rowT (y3, ((k : Int), (QaE y2, ()))) (k : Int) y18) (by omega) (by omega) (by omega) (by simp only [List.length_append]; omega)
    simp only [Qo3, show ile (k : Int) (imn y2.2.2.1 y3.2.2.1) = true from decide_eq_true hk, Qac, add1 (show k < 4611686018427387904 by omega), eEta]
    refine Eq.trans (congrArg (fun b => br b _ _) c0) ?_
    rw [Qac]
    refine Eq.trans hi ?_
    simp only [Qjx, Int.toNat_natCast, e1, verS, List.range'_succ, List.flatMap_cons, List.append_assoc]
   ·have e1 : (hiC y2 y3 + 1 - (k : Int)).toNat = 0 := by omega
    simp only [Qo3, show ile (k : Int) (imn y2.2.2.1 y3.2.2.1) = false from decide_eq_false hk, Qaf, Qjx, e1, verS, List.range'_zero, List.flatMap_nil, List.append_nil]
 exact key (5 - k) k y5 rfl (by omega) (by omega) (by omega)
theorem QMj : ∀ S l p, g_f54.L 0 (fgt Qj9 S) = some (true, l) → pickA l = some p → loopF (Qak g_f54 Qj9 QlZ) S = some p :=
 QaD (s := QrF) ⟨by decide, by decide⟩ (by kernel_rfl) fun x y hok p hp => by
 simp only [Qap, Qam] at hp
 exact (QTF x.2.2.2.2.1 x.2.2.2.2.2.2.2.1 x.2.2.2.2.2.2.2.2.1 y.1 y.2.1 y.2.2.1 y.2.2.2.1 y.2.2.2.2.1 (by simpa using hok)).trans hp
theorem QMi : ∀ S l p, g_f54.L 1 (fgt Qj8 S) = some (true, l) → pickA l = some p → loopF (Qak g_f54 Qj8 QlY) S = some p :=
 QaD (s := QrE) ⟨by decide, by decide⟩ (by kernel_rfl) fun x y hok p hp => by
 simp only [Qap, Qam] at hp
 exact (QTE x.2.2.2.2.1 y.1 y.2.1 y.2.2.1 y.2.2.2.1 (by simpa using hok)).trans hp
theorem lk_f54 : QDg.lok g_f54 := by
 repeat (first | exact trivial | exact QMj | exact QMi | refine ⟨?_, ?_⟩)
theorem s_f54 (c s : Qab) (h : QbN c s = true) : r_f54 c s = some (.t (.sl Qai) (Qbq c s), []) := by
 obtain ⟨hc, hs⟩ := Bool.and_eq_true_iff.1 h
 have hs' := Qcj hs
 have hc' := Qcj hc
 have c1 : QfM (QaE c) = true := decide_eq_true hc'.2.1
 simp only [r_f54, h, c1, Qac]
 unfold Qbq
 cases hr : QeJ c s with
 | false => rfl
 | true =>
  obtain ⟨hv, hw⟩ := Bool.and_eq_true_iff.1 hr
  have v1 := QbZ hv
  have v2 := QbZ hw
  have hsu := QBA hv
  have b1 : 1 ≤ loC c s ∧ loC c s ≤ 4 := by simp only [loC, imx]; omega
  have b2 : hiC c s ≤ 4 := by simp only [hiC, imn]; omega
  have b3 : (sortL (QaE c)).length ≤ 16 := by
   show (sortI (QaE c)).length ≤ 16
   rw [show (sortI (QaE c)).length = (QaE c).length from List.length_mergeSort _]
   exact QLu hsu
  have c0 : (decide (1 ≤ loC c s ∧ loC c s ≤ 5 ∧ hiC c s ≤ 4 ∧ (([] : List Keep).length : Int) ≤ 16 * loC c s ∧ (sortL (QaE c)).length ≤ 16) && lenEE s (QaE c)) = true := Bool.and_eq_true_iff.2 ⟨decide_eq_true ⟨b1.1, by omega, b2, by simp only [List.length_nil]; omega, b3⟩, decide_eq_true ⟨hs'.2.2.1, hs'.2.1, hc'.2.1⟩⟩
  rw [Bool.not_true, Qaf, cond_false]
  refine Eq.trans (congrArg (fun b => br b _ _) c0) ?_
  rw [Qac, ← QQN hsu]
  rfl
def QPa : Ent := spec (.pr Qae (.pr Qae .nil)) (fun x => (QbN x.1 x.2.1)) (fun x => (.t (.sl Qai) (Qbq x.1 x.2.1)))
theorem ms_f54 : Meets Tryz.prog 54 (strip QPa) := Qag (R := runF g_f54 QDg QPM false) (mG Tryz.func54 (by kernel_rfl) Tryz.ntmps54 (by kernel_rfl) gk_f54 lk_f54) fun x hok => (e_f54 x.1 x.2.1).trans (s_f54 x.1 x.2.1 hok)
end
end Go.Proofs.YtckcgijklnloiaaGreat.K
namespace Go.Proofs.YtckcgijklnloiaaGreat.K
open Go.RowKit
noncomputable section
end
end Go.Proofs.YtckcgijklnloiaaGreat.K
namespace Go.Proofs.YtckcgijklnloiaaGreat.K
open Go.RowKit
noncomputable section
theorem QTy {l : List (List Int)} (h : ∀ x ∈ l, x.length ≤ 4) (k : Nat) : (lgt (.sl tI) l k).length ≤ 4 := by
 show (l.getD k []).length ≤ 4
 rw [List.getD_eq_getElem?_getD]
 cases hk : l[k]? with
 | none => exact Nat.zero_le _
 | some x => exact h x (List.mem_of_getElem? hk)
attribute [local irreducible] epV epN prZ
end
end Go.Proofs.YtckcgijklnloiaaGreat.K
namespace Go.Proofs.YtckcgijklnloiaaGreat.K
open Go.RowKit
noncomputable section
end
end Go.Proofs.YtckcgijklnloiaaGreat.K
namespace Go.Proofs.YtckcgijklnloiaaGreat.K
open Go.RowKit
noncomputable section
def QhL : Option Int → List Link → Bool
 | _, [] => true
 | pv, x :: r => QbO x.1 && decide (0 ≤ x.2.1 ∧ x.2.1 ≤ 40000) && (match pv with | none => true | some d => decide (d < x.2.1)) && QhL (some x.2.1) r
theorem Qpt (pv : Option Int) (x : Link) (r : List Link) : QhL pv (x :: r) = (QbO x.1 && decide (0 ≤ x.2.1 ∧ x.2.1 ≤ 40000) && (match pv with | none => true | some d => decide (d < x.2.1)) && QhL (some x.2.1) r) := by cases pv <;> rfl
def pvAt (l : List Link) (k : Nat) : Option Int := if k = 0 then none else (l[k - 1]?).map fun x : Link => x.2.1
def Qen (i : Item) : Bool := Qa3 i.1 && decide (1 ≤ i.2.1 ∧ i.2.1 ≤ 2) && decide (1 ≤ i.2.2.1 ∧ i.2.2.1 ≤ 4) && decide (1 ≤ i.2.2.2.1.length ∧ i.2.2.2.1.length ≤ 8) && QhL none i.2.2.2.1 && decide ((i.2.2.2.1.headD ((0, (0, ())), (0, ()))).2.1 ≤ i.2.2.2.2.1 ∧ i.2.2.2.2.1 ≤ 40000)
def Qkj (i : Item) : Int := if Qen i then 0 else 30
def QeE (i : Item) : Bool := nameG i.1
noncomputable def QNO : List DO := dT Tryz.f79 7
noncomputable def QNN : List DO := dT Tryz.f79 10
def Qj5 : Fg := ⟨[(1, none), (45, some (.sl Qbu)), (46, some tI), (47, some tI)], [(1, some QaT)]⟩
noncomputable def QlV : TC := (.sq (.reg (rT Tryz.f79 5)) (.sq (.cd (.t 48) .sk (.fg ⟨[(1, none)], [(1, some QaT)]⟩ (.ex 0))) (.sq (.bk 1 (.sq (.reg (rT Tryz.f79 6)) (.sq (.dr QNO [(0, [5]), (1, [5]), (2, []), (3, []), (4, []), (5, [5]), (6, [5]), (7, []), (8, []), (9, []), (10, [5]), (11, [5]), (12, []), (13, []), (14, []), (15, []), (16, []), (17, []), (18, [1]), (19, [1]), (20, []), (21, []), (22, []), (23, []), (24, []), (25, [5]), (26, [5]), (27, []), (28, []), (29, [])] (.of [0, 1, 2, 3, 4, 5, 6, 7, 8, 9, 10, 11, 12, 13, 14, 15, 16, 17, 18, 19, 20, 21, 22, 23, 24, 25, 26, 27, 28, 29])) (.cd (.t 81) (.sq (.reg (rT Tryz.f79 8)) (.fg ⟨[(2, some tI)], []⟩ .rt)) .sk)))) (.reg (rT Tryz.f79 9)))))
noncomputable def QDa : TC := (.sq (.reg (rT Tryz.f79 0)) (.sq (.reg (rT Tryz.f79 1)) (.sq (.sq (.reg (rT Tryz.f79 2)) (.cd (.t 43) (.sq (.reg (rT Tryz.f79 3)) .rt) .sk)) (.sq (.sq (.reg (rT Tryz.f79 4)) (.bk 0 (.lp 0 Qj5 QlV))) (.sq (.sq (.dr QNN [(0, [1]), (1, [1]), (2, [1]), (3, [1]), (4, []), (5, []), (6, []), (7, []), (8, []), (9, [1]), (10, [1]), (11, []), (12, [])] (.of [0, 1, 2, 3, 4, 5, 6, 7, 8, 9, 10, 11, 12])) (.cd (.t 95) (.sq (.reg (rT Tryz.f79 11)) .rt) .sk)) (.sq (.reg (rT Tryz.f79 12)) .rt))))))
def QPG : List (RV × Option Ty) := [((.t 2), some tI)]
abbrev QrB : Sh := ⟨[(1, .ptr 1 0), (45, .ty (.sl Qbu)), (46, .ty tI), (47, .ty tI)], [(1, .box QaT)]⟩
def Qmb (x45 : List Link) (x46 x47 : Int) (y1 : Item) : VS := QrB.st ((), x45, x46, x47, ()) (y1, ())
abbrev QtG : Sh := ⟨[(2, .ty tI)], []⟩
def QaW (x2 : Int) : VS := QtG.st (x2, ()) ()
abbrev Qxa : Sh := ⟨[(1, .ptr 1 0)], [(1, .box QaT)]⟩
def QeX (y1 : Item) : VS := Qxa.st ((), ()) (y1, ())
def QWc : VS → Option (Bool × List (Bool × Exit × VS)) := mkL QrB (fun x y => ((x.2.1 == y.1.2.2.2.1) && rngOk x.2.1 x.2.2.1 x.2.2.2.1)) (fun x y => [((!(QhL (pvAt x.2.1 x.2.2.2.1.toNat) (x.2.1.drop x.2.2.2.1.toNat))), .ret, QaW (30)), (true, .exit 0, QeX (y.1))])
def g_f79 : G := ⟨TYs, [], 96, EL [(124, Qrv), (125, Qru)], keeps, (Ls [QWc]), IL [], RL []⟩
def QKW (x45 : List Link) (x46 x47 : Int) (y1 : Item) : Option (Exit × VS) :=
 let a1 := lgt Qbu x45 (Int.toNat x47)
 br (ilt x47 x46) (br (cIx x45 x47) (br (!(QbO (a1.1))) (some (.ret, QaW 30)) (br (ilt ((a1.2).1) 0) (some (.ret, QaW 30)) (br (igt ((a1.2).1) 40000) (some (.ret, QaW 30)) (br (igt x47 0) (br (cIx y1.2.2.2.1 (isub .i64 x47 1)) (br (ige (((lgt Qbu y1.2.2.2.1 (Int.toNat (isub .i64 x47 1))).2).1) ((a1.2).1)) (some (.ret, QaW 30)) (some (.normal, Qmb x45 x46 (iadd .i64 x47 1) y1))) none) (some (.normal, Qmb x45 x46 (iadd .i64 x47 1) y1)))))) none) (some (.exit 0, QeX y1))
noncomputable def Qi5 (x45 : List Link) (x46 x47 : Int) (y1 : Item) : Option (Exit × VS) := loopF (Qak g_f79 Qj5 QlV) (Qmb x45 x46 x47 y1)
noncomputable def Qsv (x45 : List Link) (x46 x47 : Int) (y1 : Item) : Option (Exit × VS) :=
 let a1 := lgt Qbu x45 (Int.toNat x47)
 br (ilt x47 x46) (br (cIx x45 x47) (br (!(QbO (a1.1))) (some (.ret, QaW 30)) (br (ilt ((a1.2).1) 0) (some (.ret, QaW 30)) (br (igt ((a1.2).1) 40000) (some (.ret, QaW 30)) (br (igt x47 0) (br (cIx y1.2.2.2.1 (isub .i64 x47 1)) (br (ige (((lgt Qbu y1.2.2.2.1 (Int.toNat (isub .i64 x47 1))).2).1) ((a1.2).1)) (some (.ret, QaW 30)) (Qi5 x45 x46 (iadd .i64 x47 1) y1)) none) (Qi5 x45 x46 (iadd .i64 x47 1) y1))))) none) (some (.exit 0, QeX y1))
def Qhq (x45 : List Link) (x46 x47 : Int) (y1 : Item) : Option (Exit × VS) := br (!(QhL (pvAt x45 x47.toNat) (x45.drop x47.toNat))) (some (.ret, QaW (30))) <| some (.exit 0, QeX (y1))
theorem QN8 (x45 : List Link) (x46 x47 : Int) (y1 : Item) : Qak g_f79 Qj5 QlV (Qmb x45 x46 x47 y1) = QKW x45 x46 x47 y1 := by kernel_rfl
theorem Qzz (x45 : List Link) (x46 x47 : Int) (y1 : Item) : Qi5 x45 x46 x47 y1 = Qsv x45 x46 x47 y1 := (Qan _ _).trans (by
 rw [QN8]
 simp only [QKW, Qsv, Qax, nxt_n, nxt_r, nxt_e, nxt_0]
 rfl)
def QoT (p0 : Item) : Option (V × List VO) :=
 let a1 := ((((p0).2).2).2)
 let a2 := llen p0.2.2.2.1
 br (ilt p0.2.2.1 1) (some (.t tI 30, [])) (br (igt p0.2.2.1 4) (some (.t tI 30, [])) (br (ilt a2 1) (some (.t tI 30, [])) (br (igt a2 8) (some (.t tI 30, [])) (br ((p0.2.2.2.1 == p0.2.2.2.1) && rngOk p0.2.2.2.1 a2 (0 : Int)) (br (!(QhL (pvAt p0.2.2.2.1 (0 : Int).toNat) (p0.2.2.2.1.drop (0 : Int).toNat))) (some (.t tI (30), [])) (br (cIx (a1.1) 0) (br (ilt ((a1.2).1) (((lgt Qbu (a1.1) (Int.toNat 0)).2).1)) (some (.t tI 30, [])) (br (igt ((a1.2).1) 40000) (some (.t tI 30, [])) (some (.t tI 0, [])))) none)) none))))
def r_f79 (p0 : Item) : Option (V × List VO) := br (ieq p0.2.1 1) (br (nameG p0.1) (br (!(Qa3 p0.1)) (some (.t tI 30, [])) (br (!true) (some (.t tI 30, [])) (QoT p0))) none) (br (nameG p0.1) (br (!(Qa3 p0.1)) (some (.t tI 30, [])) (br (!(ieq p0.2.1 2)) (some (.t tI 30, [])) (QoT p0))) none)
theorem e_f79 (p0 : Item) : runF g_f79 QDa QPG false [.t QaT p0] [] = r_f79 p0 := by kernel_rfl
theorem en_f79 : Qah Tryz.prog 79 := .inr ⟨by decide, _, Tryz.func79, by kernel_rfl, by kernel_rfl⟩
theorem gk_f79 : GOk Tryz.prog g_f79 := Qal _ (gA (gC QyD QxM (gC QyC QxL gN)))
theorem QTB (x45 : List Link) (x46 x47 : Int) (y1 : Item) (h : ((x45 == y1.2.2.2.1) && rngOk x45 x46 x47) = true) : Qi5 x45 x46 x47 y1 = Qhq x45 x46 x47 y1 := by
 simp only [Bool.and_eq_true, beq_iff_eq] at h
 obtain ⟨hx, h0⟩ := h
 obtain ⟨rfl, h3, k, rfl, hk⟩ := rng_k h0
 clear h0
 refine Qat x45 (fun k => Qi5 x45 (x45.length : Int) (k : Int) y1 = Qhq x45 (x45.length : Int) (k : Int) y1) ?_ ?_ k hk
 ·rw [Qzz]
  simp [Qsv, Qhq, Qar, Qaf, QhL]
 ·intro k hk ih
  rw [Qzz]
  have el : Qhq x45 (x45.length : Int) (k : Int) y1 = br (!(QbO x45[k].1 && decide (0 ≤ x45[k].2.1 ∧ x45[k].2.1 ≤ 40000) && (match pvAt x45 k with | none => true | some d => decide (d < x45[k].2.1)))) (some (.ret, QaW 30)) (Qhq x45 (x45.length : Int) ((k + 1 : Nat) : Int) y1) := by
   have e1 : pvAt x45 (k + 1) = some x45[k].2.1 := by
    unfold pvAt
    rw [if_neg (by omega), Nat.add_sub_cancel, List.getElem?_eq_getElem hk]
    rfl
   simp only [Qhq, Int.toNat_natCast, e1]
   rw [List.drop_eq_getElem_cons hk, Qpt]
   generalize (QbO x45[k].1 && decide (0 ≤ x45[k].2.1 ∧ x45[k].2.1 ≤ 40000) && (match pvAt x45 k with | none => true | some d => decide (d < x45[k].2.1))) = c
   cases c <;> rfl
  rw [el]
  simp only [Qsv, Qar, Qau, hk, decide_true, Qac, Int.toNat_natCast, add1 (show k < 4611686018427387904 by omega), Qay (y := Qbu) hk, ih, ← hx]
  cases QbO x45[k].1 with
  | false => rfl
  | true =>
   simp only [Bool.not_true, Qaf, Bool.true_and]
   by_cases c1 : x45[k].2.1 < 0
   ·rw [show ilt x45[k].2.1 0 = true from decide_eq_true c1, Qac, decide_eq_false (show ¬ (0 ≤ x45[k].2.1 ∧ x45[k].2.1 ≤ 40000) by omega)]
    rfl
   ·rw [show ilt x45[k].2.1 0 = false from decide_eq_false c1, Qaf]
    by_cases c2 : 40000 < x45[k].2.1
    ·rw [show igt x45[k].2.1 40000 = true from decide_eq_true (by omega), Qac, decide_eq_false (show ¬ (0 ≤ x45[k].2.1 ∧ x45[k].2.1 ≤ 40000) by omega)]
     rfl
    ·rw [show igt x45[k].2.1 40000 = false from decide_eq_false (by omega), Qaf, decide_eq_true (show 0 ≤ x45[k].2.1 ∧ x45[k].2.1 ≤ 40000 by omega)]
     simp only [Bool.true_and]
     by_cases hk0 : k = 0
     ·subst hk0
      rfl
     ·have hk1 : k - 1 < x45.length := by omega
      have e1 : isub .i64 (k : Int) 1 = ((k - 1 : Nat) : Int) := by rw [Qch (by omega)]; omega
      have e2 : igt (k : Int) 0 = true := by simp only [igt, decide_eq_true_eq]; omega
      have e3 : pvAt x45 k = some x45[k - 1].2.1 := by
       unfold pvAt
       rw [if_neg hk0, List.getElem?_eq_getElem hk1]
       rfl
      rw [e1, e2, e3, Qac]
      simp only [Qau, hk1, decide_true, Qac, Int.toNat_natCast, Qay (y := Qbu) hk1]
      by_cases c3 : x45[k - 1].2.1 < x45[k].2.1
      ·rw [show ige x45[k - 1].2.1 x45[k].2.1 = false from decide_eq_false (by omega), Qaf, decide_eq_true c3]
       rfl
      ·rw [show ige x45[k - 1].2.1 x45[k].2.1 = true from decide_eq_true (by omega), Qac, decide_eq_false c3]
       rfl
theorem QMf : ∀ S l p, g_f79.L 0 (fgt Qj5 S) = some (true, l) → pickA l = some p → loopF (Qak g_f79 Qj5 QlV) S = some p :=
 QaD (s := QrB) ⟨by decide, by decide⟩ (by kernel_rfl) fun x y hok p hp => by
 simp only [Qap, Qam] at hp
 exact (QTB x.2.1 x.2.2.1 x.2.2.2.1 y.1 (by simpa using hok)).trans hp
theorem lk_f79 : QDa.lok g_f79 := by
 repeat (first | exact trivial | exact QMf | refine ⟨?_, ?_⟩)
theorem Qa5 {i : Item} : Qen i = true ↔ Qa3 i.1 = true ∧ (1 ≤ i.2.1 ∧ i.2.1 ≤ 2) ∧ (1 ≤ i.2.2.1 ∧ i.2.2.1 ≤ 4) ∧ (1 ≤ i.2.2.2.1.length ∧ i.2.2.2.1.length ≤ 8) ∧ QhL none i.2.2.2.1 = true ∧ (i.2.2.2.1.headD ((0, (0, ())), (0, ()))).2.1 ≤ i.2.2.2.2.1 ∧ i.2.2.2.2.1 ≤ 40000 := by
 unfold Qen
 simp only [Bool.and_eq_true, decide_eq_true_eq, and_assoc]
theorem s_f79 (i : Item) (h : QeE i = true) : r_f79 i = some (.t tI (Qkj i), []) := by
 have h : nameG i.1 = true := h
 have bad : (Qen i = true → False) → some (V.t tI 30, ([] : List VO)) = some (V.t tI (Qkj i), []) := fun hq => by
  cases hi : Qen i with
  | false => simp [Qkj, hi]
  | true => exact (hq hi).elim
 have tail : Qa3 i.1 = true → (1 ≤ i.2.1 ∧ i.2.1 ≤ 2) → QoT i = some (.t tI (Qkj i), []) := fun k1 k2 => by
  simp only [QoT]
  refine QaB (fun g => bad fun hq => ?_) (fun g1 => QaB (fun g => bad fun hq => ?_) (fun g2 => QaB (fun g => bad fun hq => ?_) (fun g3 => QaB (fun g => bad fun hq => ?_) (fun g4 => ?_))))
  ·have := Qa5.1 hq; simp only [ilt, decide_eq_true_eq] at g; omega
  ·have := Qa5.1 hq; simp only [igt, decide_eq_true_eq] at g; omega
  ·have := Qa5.1 hq; simp only [ilt, llen, decide_eq_true_eq] at g; omega
  ·have := Qa5.1 hq; simp only [igt, llen, decide_eq_true_eq] at g; omega
  ·simp only [ilt, igt, llen, decide_eq_false_iff_not] at g1 g2 g3 g4
   rw [beq_self_eq_true, Bool.true_and, rng_0 (by omega), Qac]
   have e0 : pvAt i.2.2.2.1 (0 : Int).toNat = none := rfl
   rw [e0, Int.toNat_zero, List.drop_zero]
   refine QaB (fun g => bad fun hq => ?_) (fun g5 => ?_)
   ·have := Qa5.1 hq
    rw [this.2.2.2.2.1] at g
    cases g
   ·have hl : 0 < i.2.2.2.1.length := by omega
    have e1 : cIx i.2.2.2.1 0 = true := by simp only [cIx, decide_eq_true_eq]; omega
    have e2 : lgt Qbu i.2.2.2.1 0 = i.2.2.2.1.headD ((0, (0, ())), (0, ())) := by
     cases hq : i.2.2.2.1 with
     | nil => rw [hq] at hl; simp at hl
     | cons a l => rfl
    rw [e1, Qac, e2]
    refine QaB (fun g => bad fun hq => ?_) (fun g6 => QaB (fun g => bad fun hq => ?_) (fun g7 => ?_))
    ·have := Qa5.1 hq; simp only [ilt, decide_eq_true_eq] at g; omega
    ·have := Qa5.1 hq; simp only [igt, decide_eq_true_eq] at g; omega
    ·simp only [ilt, igt, decide_eq_false_iff_not] at g6 g7
     have : Qen i = true := Qa5.2 ⟨k1, k2, by omega, by omega, by simpa using g5, by omega, by omega⟩
     simp [Qkj, this]
 simp only [r_f79, QoT] at tail ⊢
 rw [h]
 simp only [Qac]
 refine QaB (fun g1 => QaB (fun g => bad fun hq => ?_) (fun g2 => ?_)) (fun g1 => QaB (fun g => bad fun hq => ?_) (fun g2 => QaB (fun g => bad fun hq => ?_) (fun g3 => ?_)))
 ·rw [(Qa5.1 hq).1] at g; cases g
 ·simp only [QfD, decide_eq_true_eq] at g1
  exact tail (by simpa using g2) (by omega)
 ·rw [(Qa5.1 hq).1] at g; cases g
 ·have := Qa5.1 hq
  simp only [QfD, decide_eq_false_iff_not, Bool.not_eq_true', decide_eq_true_eq] at g1 g
  omega
 ·simp only [QfD, decide_eq_false_iff_not, Bool.not_eq_false', decide_eq_true_eq] at g1 g3
  exact tail (by simpa using g2) (by omega)
def QO7 : Ent := spec (.pr QaT .nil) (fun x => (QeE x.1)) (fun x => (.t tI (Qkj x.1)))
theorem ms_f79 : Meets Tryz.prog 79 (strip QO7) := Qag (R := runF g_f79 QDa QPG false) (mG Tryz.func79 (by kernel_rfl) Tryz.ntmps79 (by kernel_rfl) gk_f79 lk_f79) fun x hok => (e_f79 x.1).trans (s_f79 x.1 hok)
end
end Go.Proofs.YtckcgijklnloiaaGreat.K
