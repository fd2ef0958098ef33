import Derived.Test.YtkngeegkjhipeaaGreatN13
set_option linter.unusedSimpArgs false
set_option linter.unusedVariables false
namespace Go.Proofs.YtkngeegkjhipeaaGreat.K
open Go.RowKit
noncomputable section
def idAlg (x : Qal) (s : Suite) : Bool := ieq s.2.2.2.1.1 0 || ieq x.1.1 s.2.2.2.1.1
noncomputable def QzX : TC := (.sq (.reg (rT Tryz.f50 0)) (.sq (.reg (rT Tryz.f50 1)) .rt))
def QLW : List (RV × Option Ty) := [((.t 3), some .bool)]
def g_f50 : G := ⟨TYs, [], 17, EL [], keeps, (fun _ _ => none), IL [], RL []⟩
def r_f50 (p0 : Qal) (d0 : Suite) : Option (V × List VO) := br (ieq d0.2.2.2.1.1 0) (some (.t .bool true, [.box (.t Qaw d0)])) (some (.t .bool (ieq p0.1.1 d0.2.2.2.1.1), [.box (.t Qaw d0)]))
theorem e_f50 (p0 : Qal) (d0 : Suite) : runF g_f50 QzX QLW false [.t Qak p0, .ptr 50000 0] [.box (.t Qaw d0)] = r_f50 p0 d0 := by kernel_rfl
theorem en_f50 : Qag Tryz.prog 50 := .inr ⟨by decide, _, Tryz.func50, by kernel_rfl, by kernel_rfl⟩
theorem gk_f50 : GOk Tryz.prog g_f50 := Qan _ (fun p hp => by cases hp)
theorem lk_f50 : QzX.lok g_f50 := by repeat (first | exact trivial | refine ⟨?_, ?_⟩)
theorem s_f50 (x : Qal) (s : Suite) : r_f50 x s = some (.t .bool (idAlg x s), [.box (.t Qaw s)]) := by
 simp only [r_f50]
 unfold idAlg
 cases ieq s.2.2.2.1.1 0 <;> rfl
def QK3 : Ent := Qn9 [.ty Qak, .ptr 50000 0] [Qaw] (fun x d => true) (fun x d => (.t .bool (idAlg x.1 d.1)))
theorem ms_f50 : Meets Tryz.prog 50 (strip QK3) := QhC (Qbb (R := runF g_f50 QzX QLW false) (mG Tryz.func50 (by kernel_rfl) Tryz.ntmps50 (by kernel_rfl) gk_f50 lk_f50) fun x d _ => (e_f50 x.1 d.1).trans (s_f50 x.1 d.1))
def okAlg (l : List Qal) (_s : Suite) : Bool := decide (l.length ≤ 100000)
def ixAlg (l : List Qal) (s : Suite) : Int := match fstG (fun x => idAlg x s) l with | some k => (k : Int) | none => -1
def QcZ : Fg := ⟨[(0, some (.sl Qak)), (1, none), (7, some tI), (8, some tI)], [(50000, some Qaw)]⟩
noncomputable def Qea : TC := (.sq (.reg (rT Tryz.f49 2)) (.sq (.cd (.t 9) .sk (.fg ⟨[], [(50000, some Qaw)]⟩ (.ex 0))) (.sq (.bk 1 (.sq (.reg (rT Tryz.f49 3)) (.sq (.reg (rT Tryz.f49 4)) (.cd (.t 16) (.sq (.reg (rT Tryz.f49 5)) (.fg ⟨[(4, some tI)], [(50000, some Qaw)]⟩ .rt)) .sk)))) (.reg (rT Tryz.f49 6)))))
noncomputable def QlI : TC := (.sq (.reg (rT Tryz.f49 0)) (.sq (.sq (.reg (rT Tryz.f49 1)) (.bk 0 (.lp 0 QcZ Qea))) (.sq (.reg (rT Tryz.f49 7)) .rt)))
def QrU : List (RV × Option Ty) := [((.t 4), some tI)]
abbrev QgK : Sh := ⟨[(0, .ty (.sl Qak)), (1, .fn 50 [(50000, 0)]), (7, .ty tI), (8, .ty tI)], [(50000, .box Qaw)]⟩
def QgF (x0 : List Qal) (x7 x8 : Int) (y50000 : Suite) : VS := QgK.st (x0, (), x7, x8, ()) (y50000, ())
abbrev Qmg : Sh := ⟨[(4, .ty tI)], [(50000, .box Qaw)]⟩
def QbT (x4 : Int) (y50000 : Suite) : VS := Qmg.st (x4, ()) (y50000, ())
abbrev QnU : Sh := ⟨[], [(50000, .box Qaw)]⟩
def Qcf (y50000 : Suite) : VS := QnU.st () (y50000, ())
def Qza : VS → Option (Bool × List (Bool × Exit × VS)) := mkL QgK (fun x y => (rngOk x.1 x.2.2.1 x.2.2.2.1)) (fun x y => [(((fstG (fun x => idAlg x y.1) (x.1.drop x.2.2.2.1.toNat)).isSome), .ret, QbT (x.2.2.2.1 + ((fstG (fun x => idAlg x y.1) (x.1.drop x.2.2.2.1.toNat)).getD 0 : Nat)) (y.1)), (true, .exit 0, Qcf (y.1))])
def QdH : G := ⟨TYs, [], 19, EL [(50, QK3)], keeps, (Ls [Qza]), IL [], RL []⟩
def Qou (x0 : List Qal) (x7 x8 : Int) (y50000 : Suite) : Option (Exit × VS) := br (ilt x8 x7) (br (cIx x0 x8) (br (idAlg (lgt Qak x0 (Int.toNat x8)) y50000) (some (.ret, QbT x8 y50000)) (some (.normal, QgF x0 x7 (iadd .i64 x8 1) y50000))) none) (some (.exit 0, Qcf y50000))
noncomputable def QeI (x0 : List Qal) (x7 x8 : Int) (y50000 : Suite) : Option (Exit × VS) := loopF (Qaj QdH QcZ Qea) (QgF x0 x7 x8 y50000)
noncomputable def Qgb (x0 : List Qal) (x7 x8 : Int) (y50000 : Suite) : Option (Exit × VS) := br (ilt x8 x7) (br (cIx x0 x8) (br (idAlg (lgt Qak x0 (Int.toNat x8)) y50000) (some (.ret, QbT x8 y50000)) (QeI x0 x7 (iadd .i64 x8 1) y50000)) none) (some (.exit 0, Qcf y50000))
def QeN (x0 : List Qal) (x7 x8 : Int) (y50000 : Suite) : Option (Exit × VS) := br ((fstG (fun x => idAlg x y50000) (x0.drop x8.toNat)).isSome) (some (.ret, QbT (x8 + ((fstG (fun x => idAlg x y50000) (x0.drop x8.toNat)).getD 0 : Nat)) (y50000))) <| some (.exit 0, Qcf (y50000))
theorem QvZ (x0 : List Qal) (x7 x8 : Int) (y50000 : Suite) : Qaj QdH QcZ Qea (QgF x0 x7 x8 y50000) = Qou x0 x7 x8 y50000 := by kernel_rfl
theorem Qnc (x0 : List Qal) (x7 x8 : Int) (y50000 : Suite) : QeI x0 x7 x8 y50000 = Qgb x0 x7 x8 y50000 := (Qaq _ _).trans (by
 rw [QvZ]
 simp only [Qou, Qgb, QaE, nxt_n, nxt_r, nxt_e, nxt_0]
 rfl)
def QpF (p0 : List Qal) (d0 : Suite) : Option (V × List VO) :=
 let a1 := (p0.drop (0 : Int).toNat)
 br (rngOk p0 (llen p0) (0 : Int)) (br ((fstG (fun x => idAlg x d0) a1).isSome) (some (.t tI ((0 : Int) + ((fstG (fun x => idAlg x d0) a1).getD 0 : Nat)), [.box (.t Qaw (d0))])) (some (.t tI (-1), [.box (.t Qaw (d0))]))) none
theorem QJg (p0 : List Qal) (d0 : Suite) : runF QdH QlI QrU false [.t (.sl Qak) p0, .fn 50 [(.ptr 50000 0)]] [.box (.t Qaw d0)] = QpF p0 d0 := by kernel_rfl
theorem QFh : Qag Tryz.prog 49 := .inr ⟨by decide, _, Tryz.func49, by kernel_rfl, by kernel_rfl⟩
theorem QEW : GOk Tryz.prog QdH := Qan _ (gA (gC en_f50 ms_f50 gN))
theorem QyK (x0 : List Qal) (x7 x8 : Int) (y50000 : Suite) (h : (rngOk x0 x7 x8) = true) : QeI x0 x7 x8 y50000 = QeN x0 x7 x8 y50000 := by
 obtain ⟨rfl, h3, k, rfl, hk⟩ := rng_k h
 clear h
 refine Qav x0 (fun k => QeI x0 (x0.length : Int) (k : Int) y50000 = QeN x0 (x0.length : Int) (k : Int) y50000) ?_ ?_ k hk
 ·rw [Qnc]
  simp [Qgb, QeN, Qaz, Qae, fstG]
 ·intro k hk ih
  rw [Qnc]
  simp only [Qgb, Qaz, Qay, hk, decide_true, Qac, Int.toNat_natCast, add1 (show k < 4611686018427387904 by omega), ih, QaG (y := Qak) hk]
  simp only [QeN, Int.toNat_natCast, List.drop_eq_getElem_cons hk, fstG]
  cases h : (idAlg x0[k] y50000) with
  | true => simp [Qac]
  | false =>
   simp only [Qae, Bool.false_eq_true, if_false]
   cases hq : fstG (fun x => idAlg x y50000) (x0.drop (k + 1)) with
   | none => rfl
   | some j =>
    simp only [Option.map_some, Option.isSome_some, Option.getD_some, Qac]
    congr 3
    omega
theorem Qvr : ∀ S l p, QdH.L 0 (fgt QcZ S) = some (true, l) → pickA l = some p → loopF (Qaj QdH QcZ Qea) S = some p :=
 QaF (s := QgK) ⟨by decide, by decide⟩ (by kernel_rfl) fun x y hok p hp => by
 simp only [Qas, Qap] at hp
 exact (QyK x.1 x.2.2.1 x.2.2.2.1 y.1 (by simpa using hok)).trans hp
theorem QEq : QlI.lok QdH := by
 repeat (first | exact trivial | exact Qvr | refine ⟨?_, ?_⟩)
theorem QHr (l : List Qal) (s : Suite) (h : okAlg l s = true) : QpF l s = some (.t tI (ixAlg l s), [.box (.t Qaw s)]) := by
 have hl : l.length ≤ 100000 := of_decide_eq_true h
 simp only [QpF, rng_0 hl, Qac, Int.toNat_zero, List.drop_zero, ixAlg]
 cases fstG (fun x => idAlg x s) l <;> simp [Qac, Qae]
def Qq4 : Ent := Qn9 [.ty (.sl Qak), .fn 50 [(50000, 0)]] [Qaw] (fun x d => (okAlg x.1 d.1)) (fun x d => (.t tI (ixAlg x.1 d.1)))
theorem QDA : Meets Tryz.prog 49 (strip Qq4) := QhC (Qbb (R := runF QdH QlI QrU false) (mG Tryz.func49 (by kernel_rfl) Tryz.ntmps49 (by kernel_rfl) QEW QEq) fun x d hok => (QJg x.1 d.1).trans (QHr x.1 d.1 hok))
def QaS (e : Qad) (c : Int) : Int × Bool := bif ine (QaA c).2 0 then (-1, false) else (ixAlg (eIds e) (QaA c).1, ige (ixAlg (eIds e) (QaA c).1) 0)
def idnOk (e : Qad) (_c : Int) : Bool := decide ((eIds e).length ≤ 100000)
noncomputable def QAf : TC := (.sq (.reg (rT Tryz.f21 0)) (.sq (.reg (rT Tryz.f21 1)) (.sq (.sq (.reg (rT Tryz.f21 2)) (.cd (.t 15) (.sq (.reg (rT Tryz.f21 3)) .rt) .sk)) (.sq (.reg (rT Tryz.f21 4)) (.sq (.reg (rT Tryz.f21 5)) .rt)))))
def QMe : List (RV × Option Ty) := [((.t 4), some tI), ((.t 5), some .bool)]
def g_f21 : G := ⟨TYs, [], 23, EL [(48, Qq5), (49, Qq4)], keeps, (fun _ _ => none), IL [], RL []⟩
def r_f21 (p0 : Qad) (p1 : Int) : Option (V × List VO) :=
 let a1 := ixAlg p0.2.2.2.2.2.1 ((QaA p1).1)
 br (ine ((QaA p1).2) 0) (some (.tu [(.t tI (-1)), (.t .bool false)], [])) (br (okAlg p0.2.2.2.2.2.1 ((QaA p1).1)) (some (.tu [(.t tI a1), (.t .bool (ige a1 0))], [])) none)
theorem e_f21 (p0 : Qad) (p1 : Int) : runF g_f21 QAf QMe false [.t Qai p0, .t tI p1] [] = r_f21 p0 p1 := by kernel_rfl
theorem QxH : Qag Tryz.prog 21 := .inr ⟨by decide, _, Tryz.func21, by kernel_rfl, by kernel_rfl⟩
theorem gk_f21 : GOk Tryz.prog g_f21 := Qan _ (gA (gC QxF Qwu (gC QFh QDA gN)))
theorem lk_f21 : QAf.lok g_f21 := by repeat (first | exact trivial | refine ⟨?_, ?_⟩)
theorem s_f21 (e : Qad) (c : Int) (h : idnOk e c = true) : r_f21 e c = some (.tu [.t tI (QaS e c).1, .t .bool (QaS e c).2], []) := by
 have hk : okAlg (eIds e) (QaA c).1 = true := h
 simp only [r_f21, hk, Qac]
 unfold QaS
 cases ine (QaA c).2 0 <;> rfl
def Qq9 : Ent := spec (.pr Qai (.pr tI .nil)) (fun x => (idnOk x.1 x.2.1)) (fun x => (.tu [(.t tI ((QaS x.1 x.2.1).1)), (.t .bool ((QaS x.1 x.2.1).2))]))
theorem Qww : Meets Tryz.prog 21 (strip Qq9) := Qaf (R := runF g_f21 QAf QMe false) (mG Tryz.func21 (by kernel_rfl) Tryz.ntmps21 (by kernel_rfl) gk_f21 lk_f21) fun x hok => (e_f21 x.1 x.2.1).trans (s_f21 x.1 x.2.1 hok)
def lenEE (e : Qad) (o : List Int) : Bool := decide ((eIds e).length ≤ 100000 ∧ (Qao e).length ≤ 100000 ∧ o.length ≤ 100000)
def posE (e : Qad) (o : List Int) (v c : Int) : Bool :=
 ieq (QaA c).2 0 && (ige v (QaA c).1.2.2.2.2.2.2.1 && (ige (QaA c).1.2.2.2.2.2.2.2.1 v && (hasF o c && (hasF (Qao e) c && (QaS e c).2))))
abbrev tkE (t : Talk) : Qad := t.1
abbrev tkV (t : Talk) : Int := t.2.1
abbrev tkO (t : Talk) : List Int := t.2.2.1
def possF (t : Talk) (c : Int) : Bool := posE (tkE t) (tkO t) (tkV t) c
def Qdy (t : Talk) (_c : Int) : Bool := lenEE (tkE t) (tkO t)
noncomputable def Qz1 : TC := (.sq (.reg (rT Tryz.f41 0)) (.sq (.reg (rT Tryz.f41 1)) (.sq (.sq (.reg (rT Tryz.f41 2)) (.cd (.t 44) (.sq (.reg (rT Tryz.f41 3)) .rt) .sk)) (.sq (.reg (rT Tryz.f41 4)) (.sq (.reg (rT Tryz.f41 5)) .rt)))))
def QL0 : List (RV × Option Ty) := [((.t 4), some .bool)]
def g_f41 : G := ⟨TYs, [], 53, EL [(21, Qq9), (48, Qq5), (59, Qoa)], keeps, (fun _ _ => none), IL [], RL []⟩
def r_f41 (p0 : Talk) (p1 : Int) : Option (V × List VO) :=
 let a1 := ((((((((QaA p1).1).2).2).2).2).2).2)
 br (ine ((QaA p1).2) 0) (some (.t .bool false, [])) (br (ilt p0.2.1 (a1.1)) (some (.t .bool false, [])) (br (igt p0.2.1 ((a1.2).1)) (some (.t .bool false, [])) (br (QaY p0.2.2.1 p1) (br (!(hasF p0.2.2.1 p1)) (some (.t .bool false, [])) (br (QaY p0.1.2.2.2.1 p1) (br (!(hasF p0.1.2.2.2.1 p1)) (some (.t .bool false, [])) (br (idnOk p0.1 p1) (some (.t .bool ((QaS p0.1 p1).2), [])) none)) none)) none)))
theorem e_f41 (p0 : Talk) (p1 : Int) : runF g_f41 Qz1 QL0 false [.t QdU p0, .t tI p1] [] = r_f41 p0 p1 := by kernel_rfl
theorem QMV : Qag Tryz.prog 41 := .inr ⟨by decide, _, Tryz.func41, by kernel_rfl, by kernel_rfl⟩
theorem gk_f41 : GOk Tryz.prog g_f41 := Qan _ (gA (gC QxH Qww (gC QxF Qwu (gC Qs1 Qsf gN))))
theorem lk_f41 : Qz1.lok g_f41 := by repeat (first | exact trivial | refine ⟨?_, ?_⟩)
theorem QIH (a b : Int) : ine a b = !ieq a b := rfl
theorem QII (a b : Int) : ilt a b = !ige a b := by simp only [ilt, ige]; by_cases h : a < b <;> simp [h] <;> omega
theorem s_f41 (t : Talk) (c : Int) (h : Qdy t c = true) : r_f41 t c = some (.t .bool (possF t c), []) := by
 simp only [Qdy, lenEE, decide_eq_true_eq] at h
 have c1 : QaY t.2.2.1 c = true := decide_eq_true h.2.2
 have c2 : QaY t.1.2.2.2.1 c = true := decide_eq_true h.2.1
 have c3 : idnOk t.1 c = true := decide_eq_true h.1
 simp only [r_f41, c1, c2, c3, Qac, QIH, QII]
 show _ = some (V.t .bool (posE t.1 t.2.2.1 t.2.1 c), [])
 unfold posE
 cases ieq (QaA c).2 0 with
 | false => rfl
 | true =>
  cases ige t.2.1 (QaA c).1.2.2.2.2.2.2.1 with
  | false => rfl
  | true =>
   cases ige (QaA c).1.2.2.2.2.2.2.2.1 t.2.1 with
   | false => rfl
   | true =>
    cases hasF t.2.2.1 c with
    | false => rfl
    | true => cases hasF t.1.2.2.2.1 c <;> rfl
def QAB : Ent := spec (.pr QdU (.pr tI .nil)) (fun x => (Qdy x.1 x.2.1)) (fun x => (.t .bool (possF x.1 x.2.1)))
theorem QME : Meets Tryz.prog 41 (strip QAB) := Qaf (R := runF g_f41 Qz1 QL0 false) (mG Tryz.func41 (by kernel_rfl) Tryz.ntmps41 (by kernel_rfl) gk_f41 lk_f41) fun x hok => (e_f41 x.1 x.2.1).trans (s_f41 x.1 x.2.1 hok)
def QdA (t : Talk) : List Int := tkO t
def Qfj (t : Talk) : List Int := Qao (tkE t)
noncomputable def Qz3 : TC := (.sq (.reg (rT Tryz.f38 0)) (.sq (.reg (rT Tryz.f38 1)) .rt))
def QL2 : List (RV × Option Ty) := [((.t 2), some (.sl tI))]
def g_f38 : G := ⟨TYs, [], 5, EL [], keeps, (fun _ _ => none), IL [], RL []⟩
def r_f38 (p0 : Talk) : Option (V × List VO) := some (.t (.sl tI) p0.2.2.1, [])
theorem e_f38 (p0 : Talk) : runF g_f38 Qz3 QL2 false [.t QdU p0] [] = r_f38 p0 := by kernel_rfl
theorem en_f38 : Qag Tryz.prog 38 := .inr ⟨by decide, _, Tryz.func38, by kernel_rfl, by kernel_rfl⟩
theorem gk_f38 : GOk Tryz.prog g_f38 := Qan _ (fun p hp => by cases hp)
theorem lk_f38 : Qz3.lok g_f38 := by repeat (first | exact trivial | refine ⟨?_, ?_⟩)
theorem s_f38 (t : Talk) : r_f38 t = some (.t (.sl tI) (QdA t), []) := rfl
def QK7 : Ent := spec (.pr QdU .nil) (fun x => true) (fun x => (.t (.sl tI) (QdA x.1)))
theorem ms_f38 : Meets Tryz.prog 38 (strip QK7) := Qaf (R := runF g_f38 Qz3 QL2 false) (mG Tryz.func38 (by kernel_rfl) Tryz.ntmps38 (by kernel_rfl) gk_f38 lk_f38) fun x _ => (e_f38 x.1).trans (s_f38 x.1)
noncomputable def Qz2 : TC := (.sq (.reg (rT Tryz.f39 0)) (.sq (.reg (rT Tryz.f39 1)) .rt))
def QL1 : List (RV × Option Ty) := [((.t 2), some (.sl tI))]
def g_f39 : G := ⟨TYs, [], 6, EL [], keeps, (fun _ _ => none), IL [], RL []⟩
def r_f39 (p0 : Talk) : Option (V × List VO) := some (.t (.sl tI) p0.1.2.2.2.1, [])
theorem e_f39 (p0 : Talk) : runF g_f39 Qz2 QL1 false [.t QdU p0] [] = r_f39 p0 := by kernel_rfl
theorem en_f39 : Qag Tryz.prog 39 := .inr ⟨by decide, _, Tryz.func39, by kernel_rfl, by kernel_rfl⟩
theorem gk_f39 : GOk Tryz.prog g_f39 := Qan _ (fun p hp => by cases hp)
theorem lk_f39 : Qz2.lok g_f39 := by repeat (first | exact trivial | refine ⟨?_, ?_⟩)
theorem s_f39 (t : Talk) : r_f39 t = some (.t (.sl tI) (Qfj t), []) := rfl
def QK6 : Ent := spec (.pr QdU .nil) (fun x => true) (fun x => (.t (.sl tI) (Qfj x.1)))
theorem ms_f39 : Meets Tryz.prog 39 (strip QK6) := Qaf (R := runF g_f39 Qz2 QL1 false) (mG Tryz.func39 (by kernel_rfl) Tryz.ntmps39 (by kernel_rfl) gk_f39 lk_f39) fun x _ => (e_f39 x.1).trans (s_f39 x.1)
def Qcx (c s : Qad) : Bool := QaO c && QaO s
def Qcu (c s : Qad) : Bool := Qbw c && Qbw s
noncomputable def Qz4 : TC := (.sq (.reg (rT Tryz.f37 0)) (.sq (.reg (rT Tryz.f37 1)) .rt))
def QL3 : List (RV × Option Ty) := [((.t 4), some .bool)]
def g_f37 : G := ⟨TYs, [], 13, EL [(51, QAA)], keeps, (fun _ _ => none), IL [], RL []⟩
def r_f37 (p0 p1 : Qad) : Option (V × List VO) := br (Qbw p0) (br (ieq (Qe6 p0) 0) (br (Qbw p1) (some (.t .bool (ieq (Qe6 p1) 0), [])) none) (some (.t .bool false, []))) none
theorem e_f37 (p0 p1 : Qad) : runF g_f37 Qz4 QL3 false [.t Qai p0, .t Qai p1] [] = r_f37 p0 p1 := by kernel_rfl
theorem QFk : Qag Tryz.prog 37 := .inr ⟨by decide, _, Tryz.func37, by kernel_rfl, by kernel_rfl⟩
theorem gk_f37 : GOk Tryz.prog g_f37 := Qan _ (gA (gC QMU QMD gN))
theorem lk_f37 : Qz4.lok g_f37 := by repeat (first | exact trivial | refine ⟨?_, ?_⟩)
theorem s_f37 (c s : Qad) (h : Qcu c s = true) : r_f37 c s = some (.t .bool (Qcx c s), []) := by
 simp only [Qcu, Bool.and_eq_true] at h
 simp only [r_f37, h.1, h.2, Qac, QFT]
 unfold Qcx
 cases QaO c <;> rfl
def Qv6 : Ent := spec (.pr Qai (.pr Qai .nil)) (fun x => (Qcu x.1 x.2.1)) (fun x => (.t .bool (Qcx x.1 x.2.1)))
theorem QDD : Meets Tryz.prog 37 (strip Qv6) := Qaf (R := runF g_f37 Qz4 QL3 false) (mG Tryz.func37 (by kernel_rfl) Tryz.ntmps37 (by kernel_rfl) gk_f37 lk_f37) fun x hok => (e_f37 x.1 x.2.1).trans (s_f37 x.1 x.2.1 hok)
end
end Go.Proofs.YtkngeegkjhipeaaGreat.K
