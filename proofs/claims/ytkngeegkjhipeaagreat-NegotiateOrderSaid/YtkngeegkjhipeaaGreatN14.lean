import Derived.Test.YtkngeegkjhipeaaGreatN13
set_option linter.unusedSimpArgs false
set_option linter.unusedVariables false
namespace Go.Proofs.YtkngeegkjhipeaaGreat.K
open Go.RowKit
noncomputable section
def idAlg (x : Qal) (s : Suite) : Bool := ieq s.2.2.2.1.1 0 || ieq x.1.1 s.2.2.2.1.1
noncomputable def QAA : TC := (.sq (.reg (rT Tryz.f50 0)) (.sq (.reg (rT Tryz.f50 1)) .rt))
def QMC : List (RV × Option Ty) := [((.t 3), some .bool)]
def g_f50 : G := ⟨TYs, [], 17, EL [], keeps, (fun _ _ => none), IL [], RL []⟩
def r_f50 (p0 : Qal) (d0 : Suite) : Option (V × List VO) := br (ieq d0.2.2.2.1.1 0) (some (.t .bool true, [.box (.t Qaw d0)])) (some (.t .bool (ieq p0.1.1 d0.2.2.2.1.1), [.box (.t Qaw d0)]))
theorem e_f50 (p0 : Qal) (d0 : Suite) : runF g_f50 QAA QMC false [.t Qam p0, .ptr 50000 0] [.box (.t Qaw d0)] = r_f50 p0 d0 := by kernel_rfl
theorem en_f50 : Qag Tryz.prog 50 := .inr ⟨by decide, _, Tryz.func50, by kernel_rfl, by kernel_rfl⟩
theorem gk_f50 : GOk Tryz.prog g_f50 := Qao _ (fun p hp => by cases hp)
theorem lk_f50 : QAA.lok g_f50 := by repeat (first | exact trivial | refine ⟨?_, ?_⟩)
theorem s_f50 (x : Qal) (s : Suite) : r_f50 x s = some (.t .bool (idAlg x s), [.box (.t Qaw s)]) := by
 simp only [r_f50]
 unfold idAlg
 cases ieq s.2.2.2.1.1 0 <;> rfl
def QLJ : Ent := Qoo [.ty Qam, .ptr 50000 0] [Qaw] (fun x d => true) (fun x d => (.t .bool (idAlg x.1 d.1)))
theorem ms_f50 : Meets Tryz.prog 50 (strip QLJ) := QhF (Qbb (R := runF g_f50 QAA QMC false) (mG Tryz.func50 (by kernel_rfl) Tryz.ntmps50 (by kernel_rfl) gk_f50 lk_f50) fun x d _ => (e_f50 x.1 d.1).trans (s_f50 x.1 d.1))
def okAlg (l : List Qal) (_s : Suite) : Bool := decide (l.length ≤ 100000)
def ixAlg (l : List Qal) (s : Suite) : Int := match fstG (fun x => idAlg x s) l with | some k => (k : Int) | none => -1
def QcY : Fg := ⟨[(0, some (.sl Qam)), (1, none), (7, some tI), (8, some tI)], [(50000, some Qaw)]⟩
noncomputable def Qea : TC := (.sq (.reg (rT Tryz.f49 2)) (.sq (.cd (.t 9) .sk (.fg ⟨[], [(50000, some Qaw)]⟩ (.ex 0))) (.sq (.bk 1 (.sq (.reg (rT Tryz.f49 3)) (.sq (.reg (rT Tryz.f49 4)) (.cd (.t 16) (.sq (.reg (rT Tryz.f49 5)) (.fg ⟨[(4, some tI)], [(50000, some Qaw)]⟩ .rt)) .sk)))) (.reg (rT Tryz.f49 6)))))
noncomputable def QlS : TC := (.sq (.reg (rT Tryz.f49 0)) (.sq (.sq (.reg (rT Tryz.f49 1)) (.bk 0 (.lp 0 QcY Qea))) (.sq (.reg (rT Tryz.f49 7)) .rt)))
def Qsc : List (RV × Option Ty) := [((.t 4), some tI)]
abbrev QgL : Sh := ⟨[(0, .ty (.sl Qam)), (1, .fn 50 [(50000, 0)]), (7, .ty tI), (8, .ty tI)], [(50000, .box Qaw)]⟩
def QgG (x0 : List Qal) (x7 x8 : Int) (y50000 : Suite) : VS := QgL.st (x0, (), x7, x8, ()) (y50000, ())
abbrev Qmp : Sh := ⟨[(4, .ty tI)], [(50000, .box Qaw)]⟩
def QbT (x4 : Int) (y50000 : Suite) : VS := Qmp.st (x4, ()) (y50000, ())
abbrev Qoa : Sh := ⟨[], [(50000, .box Qaw)]⟩
def Qcg (y50000 : Suite) : VS := Qoa.st () (y50000, ())
def QzO : VS → Option (Bool × List (Bool × Exit × VS)) := mkL QgL (fun x y => (rngOk x.1 x.2.2.1 x.2.2.2.1)) (fun x y => [(((fstG (fun x => idAlg x y.1) (x.1.drop x.2.2.2.1.toNat)).isSome), .ret, QbT (x.2.2.2.1 + ((fstG (fun x => idAlg x y.1) (x.1.drop x.2.2.2.1.toNat)).getD 0 : Nat)) (y.1)), (true, .exit 0, Qcg (y.1))])
def QdH : G := ⟨TYs, [], 19, EL [(50, QLJ)], keeps, (Ls [QzO]), IL [], RL []⟩
def QoK (x0 : List Qal) (x7 x8 : Int) (y50000 : Suite) : Option (Exit × VS) := br (ilt x8 x7) (br (cIx x0 x8) (br (idAlg (lgt Qam x0 (Int.toNat x8)) y50000) (some (.ret, QbT x8 y50000)) (some (.normal, QgG x0 x7 (iadd .i64 x8 1) y50000))) none) (some (.exit 0, Qcg y50000))
noncomputable def QeI (x0 : List Qal) (x7 x8 : Int) (y50000 : Suite) : Option (Exit × VS) := loopF (Qaj QdH QcY Qea) (QgG x0 x7 x8 y50000)
noncomputable def Qgc (x0 : List Qal) (x7 x8 : Int) (y50000 : Suite) : Option (Exit × VS) := br (ilt x8 x7) (br (cIx x0 x8) (br (idAlg (lgt Qam x0 (Int.toNat x8)) y50000) (some (.ret, QbT x8 y50000)) (QeI x0 x7 (iadd .i64 x8 1) y50000)) none) (some (.exit 0, Qcg y50000))
def QeN (x0 : List Qal) (x7 x8 : Int) (y50000 : Suite) : Option (Exit × VS) := br ((fstG (fun x => idAlg x y50000) (x0.drop x8.toNat)).isSome) (some (.ret, QbT (x8 + ((fstG (fun x => idAlg x y50000) (x0.drop x8.toNat)).getD 0 : Nat)) (y50000))) <| some (.exit 0, Qcg (y50000))
theorem Qwt (x0 : List Qal) (x7 x8 : Int) (y50000 : Suite) : Qaj QdH QcY Qea (QgG x0 x7 x8 y50000) = QoK x0 x7 x8 y50000 := by kernel_rfl
theorem Qno (x0 : List Qal) (x7 x8 : Int) (y50000 : Suite) : QeI x0 x7 x8 y50000 = Qgc x0 x7 x8 y50000 := (Qaq _ _).trans (by
 rw [Qwt]
 simp only [QoK, Qgc, QaE, nxt_n, nxt_r, nxt_e, nxt_0]
 rfl)
def QpZ (p0 : List Qal) (d0 : Suite) : Option (V × List VO) :=
 let a1 := (p0.drop (0 : Int).toNat)
 br (rngOk p0 (llen p0) (0 : Int)) (br ((fstG (fun x => idAlg x d0) a1).isSome) (some (.t tI ((0 : Int) + ((fstG (fun x => idAlg x d0) a1).getD 0 : Nat)), [.box (.t Qaw (d0))])) (some (.t tI (-1), [.box (.t Qaw (d0))]))) none
theorem QJV (p0 : List Qal) (d0 : Suite) : runF QdH QlS Qsc false [.t (.sl Qam) p0, .fn 50 [(.ptr 50000 0)]] [.box (.t Qaw d0)] = QpZ p0 d0 := by kernel_rfl
theorem QFY : Qag Tryz.prog 49 := .inr ⟨by decide, _, Tryz.func49, by kernel_rfl, by kernel_rfl⟩
theorem QFD : GOk Tryz.prog QdH := Qao _ (gA (gC en_f50 ms_f50 gN))
theorem Qzo (x0 : List Qal) (x7 x8 : Int) (y50000 : Suite) (h : (rngOk x0 x7 x8) = true) : QeI x0 x7 x8 y50000 = QeN x0 x7 x8 y50000 := by
 obtain ⟨rfl, h3, k, rfl, hk⟩ := rng_k h
 clear h
 refine Qav x0 (fun k => QeI x0 (x0.length : Int) (k : Int) y50000 = QeN x0 (x0.length : Int) (k : Int) y50000) ?_ ?_ k hk
 ·rw [Qno]
  simp [Qgc, QeN, Qaz, Qae, fstG]
 ·intro k hk ih
  rw [Qno]
  simp only [Qgc, Qaz, Qay, hk, decide_true, Qac, Int.toNat_natCast, add1 (show k < 4611686018427387904 by omega), ih, QaG (y := Qam) hk]
  simp only [QeN, Int.toNat_natCast, List.drop_eq_getElem_cons hk, fstG]
  cases h : (idAlg x0[k] y50000) with
  | true => simp [Qac]
  | false =>
   simp only [Qae, Bool.false_eq_true, if_false]
   cases hq : fstG (fun x => idAlg x y50000) (x0.drop (k + 1)) with
   | none => rfl
   | some j =>
    simp only [Option.map_some, Option.isSome_some, Option.getD_some, Qac]
    congr 3
    omega
theorem QvV : ∀ S l p, QdH.L 0 (fgt QcY S) = some (true, l) → pickA l = some p → loopF (Qaj QdH QcY Qea) S = some p :=
 QaF (s := QgL) ⟨by decide, by decide⟩ (by kernel_rfl) fun x y hok p hp => by
 simp only [Qar, Qap] at hp
 exact (Qzo x.1 x.2.2.1 x.2.2.2.1 y.1 (by simpa using hok)).trans hp
theorem QE7 : QlS.lok QdH := by
 repeat (first | exact trivial | exact QvV | refine ⟨?_, ?_⟩)
theorem QH7 (l : List Qal) (s : Suite) (h : okAlg l s = true) : QpZ l s = some (.t tI (ixAlg l s), [.box (.t Qaw s)]) := by
 have hl : l.length ≤ 100000 := of_decide_eq_true h
 simp only [QpZ, rng_0 hl, Qac, Int.toNat_zero, List.drop_zero, ixAlg]
 cases fstG (fun x => idAlg x s) l <;> simp [Qac, Qae]
def Qrm : Ent := Qoo [.ty (.sl Qam), .fn 50 [(50000, 0)]] [Qaw] (fun x d => (okAlg x.1 d.1)) (fun x d => (.t tI (ixAlg x.1 d.1)))
theorem QEf : Meets Tryz.prog 49 (strip Qrm) := QhF (Qbb (R := runF QdH QlS Qsc false) (mG Tryz.func49 (by kernel_rfl) Tryz.ntmps49 (by kernel_rfl) QFD QE7) fun x d hok => (QJV x.1 d.1).trans (QH7 x.1 d.1 hok))
def Qa3 (e : Qad) (c : Int) : Int × Bool := bif ine (QaC c).2 0 then (-1, false) else (ixAlg (eIds e) (QaC c).1, ige (ixAlg (eIds e) (QaC c).1) 0)
def idnOk (e : Qad) (_c : Int) : Bool := decide ((eIds e).length ≤ 100000)
noncomputable def QAS : TC := (.sq (.reg (rT Tryz.f21 0)) (.sq (.reg (rT Tryz.f21 1)) (.sq (.sq (.reg (rT Tryz.f21 2)) (.cd (.t 15) (.sq (.reg (rT Tryz.f21 3)) .rt) .sk)) (.sq (.reg (rT Tryz.f21 4)) (.sq (.reg (rT Tryz.f21 5)) .rt)))))
def QMU : List (RV × Option Ty) := [((.t 4), some tI), ((.t 5), some .bool)]
def g_f21 : G := ⟨TYs, [], 23, EL [(48, Qrn), (49, Qrm)], keeps, (fun _ _ => none), IL [], RL []⟩
def r_f21 (p0 : Qad) (p1 : Int) : Option (V × List VO) :=
 let a1 := ixAlg p0.2.2.2.2.2.1 ((QaC p1).1)
 br (ine ((QaC p1).2) 0) (some (.tu [(.t tI (-1)), (.t .bool false)], [])) (br (okAlg p0.2.2.2.2.2.1 ((QaC p1).1)) (some (.tu [(.t tI a1), (.t .bool (ige a1 0))], [])) none)
theorem e_f21 (p0 : Qad) (p1 : Int) : runF g_f21 QAS QMU false [.t Qah p0, .t tI p1] [] = r_f21 p0 p1 := by kernel_rfl
theorem QF2 : Qag Tryz.prog 21 := .inr ⟨by decide, _, Tryz.func21, by kernel_rfl, by kernel_rfl⟩
theorem gk_f21 : GOk Tryz.prog g_f21 := Qao _ (gA (gC Qyj Qw6 (gC QFY QEf gN)))
theorem lk_f21 : QAS.lok g_f21 := by repeat (first | exact trivial | refine ⟨?_, ?_⟩)
theorem s_f21 (e : Qad) (c : Int) (h : idnOk e c = true) : r_f21 e c = some (.tu [.t tI (Qa3 e c).1, .t .bool (Qa3 e c).2], []) := by
 have hk : okAlg (eIds e) (QaC c).1 = true := h
 simp only [r_f21, hk, Qac]
 unfold Qa3
 cases ine (QaC c).2 0 <;> rfl
def QwD : Ent := spec (.pr Qah (.pr tI .nil)) (fun x => (idnOk x.1 x.2.1)) (fun x => (.tu [(.t tI ((Qa3 x.1 x.2.1).1)), (.t .bool ((Qa3 x.1 x.2.1).2))]))
theorem QEj : Meets Tryz.prog 21 (strip QwD) := Qaf (R := runF g_f21 QAS QMU false) (mG Tryz.func21 (by kernel_rfl) Tryz.ntmps21 (by kernel_rfl) gk_f21 lk_f21) fun x hok => (e_f21 x.1 x.2.1).trans (s_f21 x.1 x.2.1 hok)
def lenEE (e : Qad) (o : List Int) : Bool := decide ((eIds e).length ≤ 100000 ∧ (Qak e).length ≤ 100000 ∧ o.length ≤ 100000)
def posE (e : Qad) (o : List Int) (v c : Int) : Bool :=
 ieq (QaC c).2 0 && (ige v (QaC c).1.2.2.2.2.2.2.1 && (ige (QaC c).1.2.2.2.2.2.2.2.1 v && (hasF o c && (hasF (Qak e) c && (Qa3 e c).2))))
abbrev tkE (t : Talk) : Qad := t.1
abbrev tkV (t : Talk) : Int := t.2.1
abbrev tkO (t : Talk) : List Int := t.2.2.1
def possF (t : Talk) (c : Int) : Bool := posE (tkE t) (tkO t) (tkV t) c
def Qdy (t : Talk) (_c : Int) : Bool := lenEE (tkE t) (tkO t)
noncomputable def QAE : TC := (.sq (.reg (rT Tryz.f41 0)) (.sq (.reg (rT Tryz.f41 1)) (.sq (.sq (.reg (rT Tryz.f41 2)) (.cd (.t 44) (.sq (.reg (rT Tryz.f41 3)) .rt) .sk)) (.sq (.reg (rT Tryz.f41 4)) (.sq (.reg (rT Tryz.f41 5)) .rt)))))
def QMG : List (RV × Option Ty) := [((.t 4), some .bool)]
def g_f41 : G := ⟨TYs, [], 53, EL [(21, QwD), (48, Qrn), (59, Qop)], keeps, (fun _ _ => none), IL [], RL []⟩
def r_f41 (p0 : Talk) (p1 : Int) : Option (V × List VO) :=
 let a1 := ((((((((QaC p1).1).2).2).2).2).2).2)
 br (ine ((QaC p1).2) 0) (some (.t .bool false, [])) (br (ilt p0.2.1 (a1.1)) (some (.t .bool false, [])) (br (igt p0.2.1 ((a1.2).1)) (some (.t .bool false, [])) (br (QaW p0.2.2.1 p1) (br (!(hasF p0.2.2.1 p1)) (some (.t .bool false, [])) (br (QaW p0.1.2.2.2.1 p1) (br (!(hasF p0.1.2.2.2.1 p1)) (some (.t .bool false, [])) (br (idnOk p0.1 p1) (some (.t .bool ((Qa3 p0.1 p1).2), [])) none)) none)) none)))
theorem e_f41 (p0 : Talk) (p1 : Int) : runF g_f41 QAE QMG false [.t QdU p0, .t tI p1] [] = r_f41 p0 p1 := by kernel_rfl
theorem QNG : Qag Tryz.prog 41 := .inr ⟨by decide, _, Tryz.func41, by kernel_rfl, by kernel_rfl⟩
theorem gk_f41 : GOk Tryz.prog g_f41 := Qao _ (gA (gC QF2 QEj (gC Qyj Qw6 (gC Qtq QsF gN))))
theorem lk_f41 : QAE.lok g_f41 := by repeat (first | exact trivial | refine ⟨?_, ?_⟩)
theorem QJo (a b : Int) : ine a b = !ieq a b := rfl
theorem QJp (a b : Int) : ilt a b = !ige a b := by simp only [ilt, ige]; by_cases h : a < b <;> simp [h] <;> omega
theorem s_f41 (t : Talk) (c : Int) (h : Qdy t c = true) : r_f41 t c = some (.t .bool (possF t c), []) := by
 simp only [Qdy, lenEE, decide_eq_true_eq] at h
 have c1 : QaW t.2.2.1 c = true := decide_eq_true h.2.2
 have c2 : QaW t.1.2.2.2.1 c = true := decide_eq_true h.2.1
 have c3 : idnOk t.1 c = true := decide_eq_true h.1
 simp only [r_f41, c1, c2, c3, Qac, QJo, QJp]
 show _ = some (V.t .bool (posE t.1 t.2.2.1 t.2.1 c), [])
 unfold posE
 cases ieq (QaC c).2 0 with
 | false => rfl
 | true =>
  cases ige t.2.1 (QaC c).1.2.2.2.2.2.2.1 with
  | false => rfl
  | true =>
   cases ige (QaC c).1.2.2.2.2.2.2.2.1 t.2.1 with
   | false => rfl
   | true =>
    cases hasF t.2.2.1 c with
    | false => rfl
    | true => cases hasF t.1.2.2.2.1 c <;> rfl
def QBg : Ent := spec (.pr QdU (.pr tI .nil)) (fun x => (Qdy x.1 x.2.1)) (fun x => (.t .bool (possF x.1 x.2.1)))
theorem QNn : Meets Tryz.prog 41 (strip QBg) := Qaf (R := runF g_f41 QAE QMG false) (mG Tryz.func41 (by kernel_rfl) Tryz.ntmps41 (by kernel_rfl) gk_f41 lk_f41) fun x hok => (e_f41 x.1 x.2.1).trans (s_f41 x.1 x.2.1 hok)
def QdA (t : Talk) : List Int := tkO t
def Qfj (t : Talk) : List Int := Qak (tkE t)
noncomputable def QAG : TC := (.sq (.reg (rT Tryz.f38 0)) (.sq (.reg (rT Tryz.f38 1)) .rt))
def QMI : List (RV × Option Ty) := [((.t 2), some (.sl tI))]
def g_f38 : G := ⟨TYs, [], 5, EL [], keeps, (fun _ _ => none), IL [], RL []⟩
def r_f38 (p0 : Talk) : Option (V × List VO) := some (.t (.sl tI) p0.2.2.1, [])
theorem e_f38 (p0 : Talk) : runF g_f38 QAG QMI false [.t QdU p0] [] = r_f38 p0 := by kernel_rfl
theorem en_f38 : Qag Tryz.prog 38 := .inr ⟨by decide, _, Tryz.func38, by kernel_rfl, by kernel_rfl⟩
theorem gk_f38 : GOk Tryz.prog g_f38 := Qao _ (fun p hp => by cases hp)
theorem lk_f38 : QAG.lok g_f38 := by repeat (first | exact trivial | refine ⟨?_, ?_⟩)
theorem s_f38 (t : Talk) : r_f38 t = some (.t (.sl tI) (QdA t), []) := rfl
def QLN : Ent := spec (.pr QdU .nil) (fun x => true) (fun x => (.t (.sl tI) (QdA x.1)))
theorem ms_f38 : Meets Tryz.prog 38 (strip QLN) := Qaf (R := runF g_f38 QAG QMI false) (mG Tryz.func38 (by kernel_rfl) Tryz.ntmps38 (by kernel_rfl) gk_f38 lk_f38) fun x _ => (e_f38 x.1).trans (s_f38 x.1)
noncomputable def QAF : TC := (.sq (.reg (rT Tryz.f39 0)) (.sq (.reg (rT Tryz.f39 1)) .rt))
def QMH : List (RV × Option Ty) := [((.t 2), some (.sl tI))]
def g_f39 : G := ⟨TYs, [], 6, EL [], keeps, (fun _ _ => none), IL [], RL []⟩
def r_f39 (p0 : Talk) : Option (V × List VO) := some (.t (.sl tI) p0.1.2.2.2.1, [])
theorem e_f39 (p0 : Talk) : runF g_f39 QAF QMH false [.t QdU p0] [] = r_f39 p0 := by kernel_rfl
theorem en_f39 : Qag Tryz.prog 39 := .inr ⟨by decide, _, Tryz.func39, by kernel_rfl, by kernel_rfl⟩
theorem gk_f39 : GOk Tryz.prog g_f39 := Qao _ (fun p hp => by cases hp)
theorem lk_f39 : QAF.lok g_f39 := by repeat (first | exact trivial | refine ⟨?_, ?_⟩)
theorem s_f39 (t : Talk) : r_f39 t = some (.t (.sl tI) (Qfj t), []) := rfl
def QLM : Ent := spec (.pr QdU .nil) (fun x => true) (fun x => (.t (.sl tI) (Qfj x.1)))
theorem ms_f39 : Meets Tryz.prog 39 (strip QLM) := Qaf (R := runF g_f39 QAF QMH false) (mG Tryz.func39 (by kernel_rfl) Tryz.ntmps39 (by kernel_rfl) gk_f39 lk_f39) fun x _ => (e_f39 x.1).trans (s_f39 x.1)
def QbW (c s : Qad) : Bool := QaM c && QaM s
def QbC (c s : Qad) : Bool := Qa2 c && Qa2 s
noncomputable def QAH : TC := (.sq (.reg (rT Tryz.f37 0)) (.sq (.reg (rT Tryz.f37 1)) .rt))
def QMJ : List (RV × Option Ty) := [((.t 4), some .bool)]
def g_f37 : G := ⟨TYs, [], 13, EL [(51, QBf)], keeps, (fun _ _ => none), IL [], RL []⟩
def r_f37 (p0 p1 : Qad) : Option (V × List VO) := br (Qa2 p0) (br (ieq (Qe6 p0) 0) (br (Qa2 p1) (some (.t .bool (ieq (Qe6 p1) 0), [])) none) (some (.t .bool false, []))) none
theorem e_f37 (p0 p1 : Qad) : runF g_f37 QAH QMJ false [.t Qah p0, .t Qah p1] [] = r_f37 p0 p1 := by kernel_rfl
theorem QF1 : Qag Tryz.prog 37 := .inr ⟨by decide, _, Tryz.func37, by kernel_rfl, by kernel_rfl⟩
theorem gk_f37 : GOk Tryz.prog g_f37 := Qao _ (gA (gC QNF QNm gN))
theorem lk_f37 : QAH.lok g_f37 := by repeat (first | exact trivial | refine ⟨?_, ?_⟩)
theorem s_f37 (c s : Qad) (h : QbC c s = true) : r_f37 c s = some (.t .bool (QbW c s), []) := by
 simp only [QbC, Bool.and_eq_true] at h
 simp only [r_f37, h.1, h.2, Qac, QGA]
 unfold QbW
 cases QaM c <;> rfl
def QwC : Ent := spec (.pr Qah (.pr Qah .nil)) (fun x => (QbC x.1 x.2.1)) (fun x => (.t .bool (QbW x.1 x.2.1)))
theorem QEi : Meets Tryz.prog 37 (strip QwC) := Qaf (R := runF g_f37 QAH QMJ false) (mG Tryz.func37 (by kernel_rfl) Tryz.ntmps37 (by kernel_rfl) gk_f37 lk_f37) fun x hok => (e_f37 x.1 x.2.1).trans (s_f37 x.1 x.2.1 hok)
end
end Go.Proofs.YtkngeegkjhipeaaGreat.K
