import Derived.Test.YtkngeegkjhipeaaGreatV5
set_option linter.unusedSimpArgs false
set_option linter.unusedVariables false
namespace Go.Proofs.YtkngeegkjhipeaaGreat.K
open Go.RowKit
def Qbk (b : Int) (s t : List Int) : Int := match idxN b s with | some k => t.getD k 0 | none => 0
def Qcv (a : Int) : Int := if a = 1 then 18 else if a = 2 then 60 else if a = 3 ∨ a = 8 ∨ a = 21 then 128 else if a = 4 then 192 else if a = 18 ∨ a = 22 then 256 else if a = 19 then 64 else if a = 20 then 80 else 0
def QdG (b : Int) : Int := if b < 512 ∨ 16384 < b then 0 else modF b
def Qoq (b : Int) : Int := if hasF [160, 224, 256, 384, 521] b then iquo .i64 b 2 else 0
def strF (u : Keep) : Int :=
 if u.1 = 5 ∨ u.1 = 6 ∨ u.1 = 10 ∨ u.1 = 11 then QdG u.2.1
 else if u.1 = 7 ∨ u.1 = 12 then Qoq u.2.1
 else if u.1 = 9 then Qbk u.2.1 [44, 65, 87] [128, 192, 256]
 else if u.1 = 13 then Qbk u.2.1 [512, 768, 1024] [128, 192, 256]
 else if u.1 = 14 then Qbk u.2.1 [40, 128] [40, 60]
 else if u.1 = 15 then Qbk u.2.1 [112, 168] [80, 112]
 else if u.1 = 16 ∨ u.1 = 17 then Qbk u.2.1 [128, 256] [128, 256]
 else Qbk u.2.1 [0] [Qcv u.1]
def Qcw (u : Keep) : Bool := decide (strF u > 0)
noncomputable def QtR : TC := (.sq (.reg (rT Tryz.f134 0)) (.sq (.reg (rT Tryz.f134 1)) (.sq (.sq (.reg (rT Tryz.f134 2)) (.cd (.t 13) (.sq (.reg (rT Tryz.f134 3)) .rt) .sk)) (.sq (.sq (.reg (rT Tryz.f134 4)) (.bk 0 (.sq (.reg (rT Tryz.f134 5)) (.cd (.t 16) (.sq (.reg (rT Tryz.f134 6)) (.cd (.t 20) (.sq (.reg (rT Tryz.f134 7)) .rt) .sk)) (.sq (.reg (rT Tryz.f134 8)) (.cd (.t 25) (.sq (.reg (rT Tryz.f134 9)) (.cd (.t 34) (.sq (.reg (rT Tryz.f134 10)) .rt) .sk)) (.sq (.reg (rT Tryz.f134 11)) (.cd (.t 38) (.sq (.reg (rT Tryz.f134 12)) (.cd (.t 43) (.sq (.reg (rT Tryz.f134 13)) .rt) .sk)) (.sq (.reg (rT Tryz.f134 14)) (.cd (.t 47) (.sq (.reg (rT Tryz.f134 15)) (.sq (.reg (rT Tryz.f134 16)) (.cd (.t 55) (.sq (.reg (rT Tryz.f134 17)) .rt) .sk))) .sk)))))))))) (.sq (.reg (rT Tryz.f134 18)) .rt)))))
def QB2 : List (RV × Option Ty) := [((.t 2), some tI)]
def Qxn : G := ⟨TYs, [], 61, EL [(59, Qoc), (89, QAx), (135, Qug), (147, QA3)], keeps, (fun _ _ => none), IL [], RL []⟩
def Qe2 (p0 : Keep) : Option (V × List VO) :=
 let a1 := ((((ofF p0.1).1).2).2)
 let a2 := idxF ((a1.2).1) p0.2.1
 let a3 := (((a1.2).2).1)
 br (!((ofF p0.1).2)) (some (.t tI 0, [])) (br (ieq (a1.1) 0) (br (ieq p0.2.1 0) (br (cIx a3 0) (some (.t tI (lgt tI a3 (Int.toNat 0)), [])) none) (some (.t tI 0, []))) (br (ieq (a1.1) 1) (br (ige p0.2.1 512) (br (ile p0.2.1 16384) (some (.t tI (modF p0.2.1), [])) (some (.t tI 0, []))) (some (.t tI 0, []))) (br (ieq (a1.1) 2) (br (QaU ([160, 224, 256, 384, 521]) p0.2.1) (br (hasF ([160, 224, 256, 384, 521]) p0.2.1) (br (cNz 2) (some (.t tI (iquo .i64 p0.2.1 2), [])) none) (some (.t tI 0, []))) none) (br (ieq (a1.1) 3) (br (QaU ((a1.2).1) p0.2.1) (br (ige a2 0) (br (cIx a3 a2) (some (.t tI (lgt tI a3 (Int.toNat a2)), [])) none) (some (.t tI 0, []))) none) (some (.t tI 0, []))))))
theorem e_f134 (p0 : Keep) : runF Qxn QtR QB2 false [.t Qaj p0] [] = Qe2 p0 := by kernel_rfl
theorem QQE : Qag Tryz.prog 134 := .inr ⟨by decide, _, Tryz.func134, by kernel_rfl, by kernel_rfl⟩
theorem QP1 : GOk Tryz.prog Qxn := Qal _ (gA (gC QsZ Qse (gC QMM QMt (gC QFB QDM (gC QQz QNP gN)))))
theorem QOO : QtR.lok Qxn := by repeat (first | exact trivial | refine ⟨?_, ?_⟩)
theorem QM9 (u : Keep) (h1 : (ofF u.1).2 = false) : Qe2 u = some (.t tI 0, []) := by
 simp only [Qe2, h1, Bool.not_false, Qac]
theorem QHe (u : Keep) {v : Int} (h1 : (ofF u.1).2 = true) (h2 : (ofF u.1).1.2.2.1 = 0) (h3 : (ofF u.1).1.2.2.2.2.1 = [v]) : Qe2 u = some (.t tI (Qbk u.2.1 [0] [v]), []) := by
 simp only [Qe2, h1, h2, h3, Bool.not_true, Qae, show ieq 0 0 = true from rfl, Qac, show cIx [v] 0 = true from rfl]
 simp only [Qbk, idxN, ieq]
 have hc : ((0 : Int) == u.2.1) = (u.2.1 == 0) := Bool.beq_comm
 rw [hc]
 cases u.2.1 == 0 <;> rfl
theorem QM8 (u : Keep) (h1 : (ofF u.1).2 = true) (h2 : (ofF u.1).1.2.2.1 = 1) : Qe2 u = some (.t tI (QdG u.2.1), []) := by
 simp only [Qe2, h1, h2, Bool.not_true, Qae, show ieq 1 0 = false from rfl, show ieq 1 1 = true from rfl, Qac, QdG]
 refine QaP (fun g1 => QaP (fun g2 => ?_) (fun g2 => ?_)) (fun g1 => ?_)
 ·rw [if_neg]
  simp [ige, ile] at g1 g2
  omega
 ·rw [if_pos]
  simp [ige, ile] at g1 g2
  omega
 ·rw [if_pos]
  simp [ige] at g1
  omega
theorem QAr (u : Keep) (h1 : (ofF u.1).2 = true) (h2 : (ofF u.1).1.2.2.1 = 2) : Qe2 u = some (.t tI (Qoq u.2.1), []) := by
 simp only [Qe2, h1, h2, Bool.not_true, Qae, show ieq 2 0 = false from rfl, show ieq 2 1 = false from rfl, show ieq 2 2 = true from rfl, Qac, Qoq, show QaU [160, 224, 256, 384, 521] u.2.1 = true from rfl, show cNz 2 = true from rfl]
 cases hasF [160, 224, 256, 384, 521] u.2.1 <;> rfl
theorem QHf (u : Keep) {s t : List Int} (h1 : (ofF u.1).2 = true) (h2 : (ofF u.1).1.2.2.1 = 3) (h3 : (ofF u.1).1.2.2.2.1 = s) (h4 : (ofF u.1).1.2.2.2.2.1 = t) (h5 : s.length = t.length) (h6 : s.length ≤ 100000) : Qe2 u = some (.t tI (Qbk u.2.1 s t), []) := by
 have e1 : QaU s u.2.1 = true := by simp [QaU, h6]
 simp only [Qe2, h1, h2, h3, h4, e1, Bool.not_true, Qae, show ieq 3 0 = false from rfl, show ieq 3 1 = false from rfl, show ieq 3 2 = false from rfl, show ieq 3 3 = true from rfl, Qac, idxF, Qbk]
 cases hq : idxN u.2.1 s with
 | none => rfl
 | some k =>
  have hk := QEM hq
  have e2 : ige (k : Int) 0 = true := by simp only [ige, decide_eq_true_eq]; omega
  have e3 : k < t.length := by omega
  simp only [e2, Qac, QaA, e3, decide_true]
  rfl
theorem s_f134 (u : Keep) : Qe2 u = some (.t tI (strF u), []) := by
 obtain ⟨a, b, c⟩ := u
 by_cases hb : a < 1 ∨ 22 < a
 ·rw [QM9 _ (by simp [ofF, hb])]
  have e1 : Qcv a = 0 := by
   unfold Qcv
   repeat rw [if_neg (by omega)]
  have e2 : strF (a, b, c) = 0 := by
   unfold strF
   simp only
   repeat rw [if_neg (by omega)]
   rw [e1]
   simp only [Qbk, idxN]
   cases (0 : Int) == b <;> rfl
  rw [e2]
 ·have hc : a = 1 ∨ a = 2 ∨ a = 3 ∨ a = 4 ∨ a = 5 ∨ a = 6 ∨ a = 7 ∨ a = 8 ∨ a = 9 ∨ a = 10 ∨ a = 11 ∨ a = 12 ∨ a = 13 ∨ a = 14 ∨ a = 15 ∨ a = 16 ∨ a = 17 ∨ a = 18 ∨ a = 19 ∨ a = 20 ∨ a = 21 ∨ a = 22 := by omega
  rcases hc with rfl | rfl | rfl | rfl | rfl | rfl | rfl | rfl | rfl | rfl | rfl | rfl | rfl | rfl | rfl | rfl | rfl | rfl | rfl | rfl | rfl | rfl
  all_goals first
   | exact QHe (v := Qcv _) (_, b, c) rfl rfl rfl
   | exact QM8 (_, b, c) rfl rfl
   | exact QAr (_, b, c) rfl rfl
   | exact QHf (_, b, c) rfl rfl rfl rfl rfl (by decide)
def QA9 : Ent := spec (.pr Qaj .nil) (fun x => true) (fun x => (.t tI (strF x.1)))
theorem QNU : Meets Tryz.prog 134 (strip QA9) := Qaf (R := runF Qxn QtR QB2 false) (mG Tryz.func134 (by kernel_rfl) Tryz.ntmps134 (by kernel_rfl) QP1 QOO) fun x _ => (e_f134 x.1).trans (s_f134 x.1)
noncomputable def Qt6 : TC := (.sq (.reg (rT Tryz.f107 0)) (.sq (.reg (rT Tryz.f107 1)) .rt))
def QCh : List (RV × Option Ty) := [((.t 2), some .bool)]
def Qxw : G := ⟨TYs, [], 6, EL [(134, QA9)], keeps, (fun _ _ => none), IL [], RL []⟩
def QMo (p0 : Keep) : Option (V × List VO) := some (.t .bool (igt (strF p0) 0), [])
theorem e_f107 (p0 : Keep) : runF Qxw Qt6 QCh false [.t Qaj p0] [] = QMo p0 := by kernel_rfl
theorem QFE : Qag Tryz.prog 107 := .inr ⟨by decide, _, Tryz.func107, by kernel_rfl, by kernel_rfl⟩
theorem QQg : GOk Tryz.prog Qxw := Qal _ (gA (gC QQE QNU gN))
theorem QO3 : Qt6.lok Qxw := by repeat (first | exact trivial | refine ⟨?_, ?_⟩)
theorem s_f107 (u : Keep) : QMo u = some (.t .bool (Qcw u), []) := rfl
def Quj : Ent := spec (.pr Qaj .nil) (fun x => true) (fun x => (.t .bool (Qcw x.1)))
theorem QDP : Meets Tryz.prog 107 (strip Quj) := Qaf (R := runF Qxw Qt6 QCh false) (mG Tryz.func107 (by kernel_rfl) Tryz.ntmps107 (by kernel_rfl) QQg QO3) fun x _ => (e_f107 x.1).trans (s_f107 x.1)
noncomputable def Qt2 : TC := (.sq (.reg (rT Tryz.f111 0)) (.sq (.bk 0 (.sq (.reg (rT Tryz.f111 1)) (.cd (.t 3) (.sq (.reg (rT Tryz.f111 2)) .rt) (.sq (.reg (rT Tryz.f111 3)) (.cd (.t 10) (.sq (.reg (rT Tryz.f111 4)) .rt) (.sq (.reg (rT Tryz.f111 5)) (.cd (.t 13) (.sq (.reg (rT Tryz.f111 6)) .rt) (.sq (.reg (rT Tryz.f111 7)) (.cd (.t 16) (.sq (.reg (rT Tryz.f111 8)) .rt) (.sq (.reg (rT Tryz.f111 9)) (.cd (.t 19) (.sq (.reg (rT Tryz.f111 10)) .rt) (.sq (.reg (rT Tryz.f111 11)) (.cd (.t 22) (.sq (.reg (rT Tryz.f111 12)) .rt) .sk))))))))))))) (.sq (.reg (rT Tryz.f111 13)) .rt)))
def QCd : List (RV × Option Ty) := [((.t 2), some tI)]
def Qxt : G := ⟨TYs, [], 25, EL [], keeps, (fun _ _ => none), IL [], RL []⟩
def QC8 (p0 : Int) : Option (V × List VO) := br (ilt p0 512) (some (.t tI 0, [])) (br (igt p0 16384) (some (.t tI 0, [])) (br (ilt p0 1024) (some (.t tI 56, [])) (br (ilt p0 2048) (some (.t tI 80, [])) (br (ilt p0 3072) (some (.t tI 112, [])) (br (ilt p0 7680) (some (.t tI 128, [])) (br (ilt p0 15360) (some (.t tI 192, [])) (some (.t tI 256, []))))))))
theorem e_f111 (p0 : Int) : runF Qxt Qt2 QCd false [.t tI p0] [] = QC8 p0 := by kernel_rfl
theorem QQO : Qag Tryz.prog 111 := .inr ⟨by decide, _, Tryz.func111, by kernel_rfl, by kernel_rfl⟩
theorem QQc : GOk Tryz.prog Qxt := Qal _ (fun p hp => by cases hp)
theorem QOZ : Qt2.lok Qxt := by repeat (first | exact trivial | refine ⟨?_, ?_⟩)
theorem s_f111 (b : Int) : QC8 b = some (.t tI (QdG b), []) := by
 simp only [QC8]
 repeat' (refine QaP ?_ ?_ <;> intro _)
 all_goals simp only [ilt, igt, decide_eq_true_eq, decide_eq_false_iff_not] at *
 all_goals simp only [QdG, modF, modZ, modL, Int.toNat_zero, List.drop_zero, List.find?_cons, ilt]
 all_goals first
  |(rw [if_pos (by omega)]; done)
  |(rw [if_neg (by omega)]; repeat first | rw [Qlv (by omega)] | rw [QFP (by omega)]
    rfl)
def QBj : Ent := spec (.pr tI .nil) (fun x => true) (fun x => (.t tI (QdG x.1)))
theorem QN4 : Meets Tryz.prog 111 (strip QBj) := Qaf (R := runF Qxt Qt2 QCd false) (mG Tryz.func111 (by kernel_rfl) Tryz.ntmps111 (by kernel_rfl) QQc QOZ) fun x _ => (e_f111 x.1).trans (s_f111 x.1)
theorem QnR (a : Int) : ((∀ k : Int, decide (1 ≤ k ∧ k ≤ 22) = true → ieq a k = false) ∧ (a < 1 ∨ 22 < a)) ∨ (a = 1 ∨ a = 2 ∨ a = 3 ∨ a = 4 ∨ a = 5 ∨ a = 6 ∨ a = 7 ∨ a = 8 ∨ a = 9 ∨ a = 10 ∨ a = 11 ∨ a = 12 ∨ a = 13 ∨ a = 14 ∨ a = 15 ∨ a = 16 ∨ a = 17 ∨ a = 18 ∨ a = 19 ∨ a = 20 ∨ a = 21 ∨ a = 22) := by
 by_cases hb : a < 1 ∨ 22 < a
 ·refine .inl ⟨fun k hk => ?_, hb⟩
  simp only [decide_eq_true_eq] at hk
  simp only [QPu, decide_eq_false_iff_not]
  omega
 ·right
  omega
noncomputable def Qt0 : TC := (.sq (.reg (rT Tryz.f113 0)) (.sq (.sq (.reg (rT Tryz.f113 1)) (.bk 0 (.sq (.reg (rT Tryz.f113 2)) (.cd (.t 4) (.sq (.reg (rT Tryz.f113 3)) .rt) (.sq (.reg (rT Tryz.f113 4)) (.cd (.t 6) (.sq (.reg (rT Tryz.f113 5)) .rt) (.sq (.sq (.reg (rT Tryz.f113 6)) (.cd (.t 8) .sk (.sq (.reg (rT Tryz.f113 7)) (.cd (.t 8) .sk (.reg (rT Tryz.f113 8)))))) (.cd (.t 8) (.sq (.reg (rT Tryz.f113 9)) .rt) (.sq (.reg (rT Tryz.f113 10)) (.cd (.t 12) (.sq (.reg (rT Tryz.f113 11)) .rt) (.sq (.sq (.reg (rT Tryz.f113 12)) (.cd (.t 14) .sk (.reg (rT Tryz.f113 13)))) (.cd (.t 14) (.sq (.reg (rT Tryz.f113 14)) .rt) (.sq (.reg (rT Tryz.f113 15)) (.cd (.t 17) (.sq (.reg (rT Tryz.f113 16)) .rt) (.sq (.reg (rT Tryz.f113 17)) (.cd (.t 19) (.sq (.reg (rT Tryz.f113 18)) .rt) .sk)))))))))))))))) (.sq (.reg (rT Tryz.f113 19)) .rt)))
def QCb : List (RV × Option Ty) := [((.t 2), some tI)]
def Qxs : G := ⟨TYs, [], 21, EL [], keeps, (fun _ _ => none), IL [], RL []⟩
def QpN (p0 : Int) : Option (V × List VO) := br (ieq p0 19) (some (.t tI 64, [])) (br (ieq p0 20) (some (.t tI 80, [])) (some (.t tI 0, [])))
def Qku (p0 : Int) : Option (V × List VO) := br (ieq p0 4) (some (.t tI 192, [])) (br (ieq p0 18) (br (ieq p0 18) (some (.t tI 256, [])) (QpN p0)) (br (ieq p0 22) (some (.t tI 256, [])) (QpN p0)))
def QC6 (p0 : Int) : Option (V × List VO) := br (ieq p0 1) (some (.t tI 18, [])) (br (ieq p0 2) (some (.t tI 60, [])) (br (ieq p0 3) (br (ieq p0 3) (some (.t tI 128, [])) (Qku p0)) (br (ieq p0 8) (br (ieq p0 8) (some (.t tI 128, [])) (Qku p0)) (br (ieq p0 21) (some (.t tI 128, [])) (Qku p0)))))
theorem e_f113 (p0 : Int) : runF Qxs Qt0 QCb false [.t tI p0] [] = QC6 p0 := by kernel_rfl
theorem QQM : Qag Tryz.prog 113 := .inr ⟨by decide, _, Tryz.func113, by kernel_rfl, by kernel_rfl⟩
theorem QQa : GOk Tryz.prog Qxs := Qal _ (fun p hp => by cases hp)
theorem QOX : Qt0.lok Qxs := by repeat (first | exact trivial | refine ⟨?_, ?_⟩)
theorem s_f113 (a : Int) : QC6 a = some (.t tI (Qcv a), []) := by
 rcases QnR a with ⟨e, hb⟩ | hc
 ·have e1 : Qcv a = 0 := by
   unfold Qcv
   repeat rw [if_neg (by omega)]
  rw [e1]
  simp only [QC6, Qku, QpN, e 1 (by decide), e 2 (by decide), e 3 (by decide), e 4 (by decide), e 8 (by decide), e 18 (by decide), e 19 (by decide), e 20 (by decide), e 21 (by decide), e 22 (by decide), Qae]
 ·rcases hc with rfl | rfl | rfl | rfl | rfl | rfl | rfl | rfl | rfl | rfl | rfl | rfl | rfl | rfl | rfl | rfl | rfl | rfl | rfl | rfl | rfl | rfl <;> rfl
def QBh : Ent := spec (.pr tI .nil) (fun x => true) (fun x => (.t tI (Qcv x.1)))
theorem QN2 : Meets Tryz.prog 113 (strip QBh) := Qaf (R := runF Qxs Qt0 QCb false) (mG Tryz.func113 (by kernel_rfl) Tryz.ntmps113 (by kernel_rfl) QQa QOX) fun x _ => (e_f113 x.1).trans (s_f113 x.1)
def QeX (_b : Int) (s t : List Int) : Bool := decide (s.length = t.length ∧ s.length ≤ 100000)
def QfT : Fg := ⟨[(0, some tI), (1, some (.sl tI)), (2, some (.sl tI)), (7, some tI)], []⟩
noncomputable def Qhq : TC := (.sq (.sq (.reg (rT Tryz.f112 2)) (.cd (.t 11) .sk (.fg ⟨[], []⟩ (.ex 0)))) (.sq (.bk 1 (.sq (.reg (rT Tryz.f112 3)) (.cd (.t 19) (.sq (.reg (rT Tryz.f112 4)) (.fg ⟨[(6, some tI)], []⟩ .rt)) .sk))) (.reg (rT Tryz.f112 5))))
noncomputable def Qt1 : TC := (.sq (.reg (rT Tryz.f112 0)) (.sq (.sq (.reg (rT Tryz.f112 1)) (.bk 0 (.lp 0 QfT Qhq))) (.sq (.reg (rT Tryz.f112 6)) .rt)))
def QCc : List (RV × Option Ty) := [((.t 6), some tI)]
abbrev QmC : Sh := ⟨[(0, .ty tI), (1, .ty (.sl tI)), (2, .ty (.sl tI)), (7, .ty tI)], []⟩
def Ql6 (x0 : Int) (x1 x2 : List Int) (x7 : Int) : VS := QmC.st (x0, x1, x2, x7, ()) ()
abbrev Qpr : Sh := ⟨[(6, .ty tI)], []⟩
def QcF (x6 : Int) : VS := Qpr.st (x6, ()) ()
abbrev QrI : Sh := ⟨[], []⟩
def Qdz  : VS := QrI.st () ()
def QKx : VS → Option (Bool × List (Bool × Exit × VS)) := mkL QmC (fun x y => (decide (x.2.1.length = x.2.2.1.length ∧ x.2.1.length ≤ 100000 ∧ 0 ≤ x.2.2.2.1 ∧ x.2.2.2.1 ≤ x.2.1.length))) (fun x y => [(((idxN x.1 (x.2.1.drop x.2.2.2.1.toNat)).isSome), .ret, QcF (x.2.2.1.getD (x.2.2.2.1.toNat + (idxN x.1 (x.2.1.drop x.2.2.2.1.toNat)).getD 0) 0)), (true, .exit 0, Qdz)])
def QjZ : G := ⟨TYs, [], 24, EL [], keeps, (Ls [QKx]), IL [], RL []⟩
def Qyi (x0 : Int) (x1 x2 : List Int) (x7 : Int) : Option (Exit × VS) := br (ilt x7 (llen x1)) (br (cIx x1 x7) (br (ieq (lgt tI x1 (Int.toNat x7)) x0) (br (cIx x2 x7) (some (.ret, QcF (lgt tI x2 (Int.toNat x7)))) none) (some (.normal, Ql6 x0 x1 x2 (iadd .i64 x7 1)))) none) (some (.exit 0, Qdz))
noncomputable def QhX (x0 : Int) (x1 x2 : List Int) (x7 : Int) : Option (Exit × VS) := loopF (Qai QjZ QfT Qhq) (Ql6 x0 x1 x2 x7)
noncomputable def QkN (x0 : Int) (x1 x2 : List Int) (x7 : Int) : Option (Exit × VS) := br (ilt x7 (llen x1)) (br (cIx x1 x7) (br (ieq (lgt tI x1 (Int.toNat x7)) x0) (br (cIx x2 x7) (some (.ret, QcF (lgt tI x2 (Int.toNat x7)))) none) (QhX x0 x1 x2 (iadd .i64 x7 1))) none) (some (.exit 0, Qdz))
def Qif (x0 : Int) (x1 x2 : List Int) (x7 : Int) : Option (Exit × VS) :=
 let a1 := idxN x0 (x1.drop x7.toNat)
 br (a1.isSome) (some (.ret, QcF (x2.getD (x7.toNat + a1.getD 0) 0))) <| some (.exit 0, Qdz)
theorem QGv (x0 : Int) (x1 x2 : List Int) (x7 : Int) : Qai QjZ QfT Qhq (Ql6 x0 x1 x2 x7) = Qyi x0 x1 x2 x7 := by kernel_rfl
theorem QsC (x0 : Int) (x1 x2 : List Int) (x7 : Int) : QhX x0 x1 x2 x7 = QkN x0 x1 x2 x7 := (Qap _ _).trans (by
 rw [QGv]
 simp only [Qyi, QkN, QaE, nxt_n, nxt_r, nxt_e, nxt_0]
 rfl)
def QC7 (p0 : Int) (p1 p2 : List Int) : Option (V × List VO) :=
 let a1 := (idxN p0 (p1.drop (0 : Int).toNat))
 br (decide (p1.length = p2.length ∧ p1.length ≤ 100000 ∧ 0 ≤ (0 : Int) ∧ (0 : Int) ≤ p1.length)) (br (a1.isSome) (some (.t tI (p2.getD ((0 : Int).toNat + a1.getD 0) 0), [])) (some (.t tI 0, []))) none
theorem e_f112 (p0 : Int) (p1 p2 : List Int) : runF QjZ Qt1 QCc false [.t tI p0, .t (.sl tI) p1, .t (.sl tI) p2] [] = QC7 p0 p1 p2 := by kernel_rfl
theorem QQN : Qag Tryz.prog 112 := .inr ⟨by decide, _, Tryz.func112, by kernel_rfl, by kernel_rfl⟩
theorem QQb : GOk Tryz.prog QjZ := Qal _ (fun p hp => by cases hp)
theorem QIF (x0 : Int) (x1 x2 : List Int) (x7 : Int) (h : (decide (x1.length = x2.length ∧ x1.length ≤ 100000 ∧ 0 ≤ x7 ∧ x7 ≤ x1.length)) = true) : QhX x0 x1 x2 x7 = Qif x0 x1 x2 x7 := by
 simp only [decide_eq_true_eq] at h
 obtain ⟨h1, h2, h3, h4⟩ := h
 obtain ⟨k, rfl⟩ := Int.eq_ofNat_of_zero_le h3
 refine Qav x1 (fun k => QhX x0 x1 x2 (k : Int) = Qif x0 x1 x2 (k : Int)) ?_ ?_ k (by omega)
 ·rw [QsC]
  simp [QkN, Qif, Qaz, llen, Qae, idxN]
 ·intro k hk ih
  rw [QsC]
  have hk2 : k < x2.length := by omega
  simp only [QkN, Qaz, llen, QaA, hk, hk2, decide_true, Qac, Int.toNat_natCast, add1 (show k < 4611686018427387904 by omega), ih, QaF (y := tI) hk, QaF (y := tI) hk2]
  simp only [Qif, Int.toNat_natCast, List.drop_eq_getElem_cons hk, idxN, ieq]
  cases h : x1[k] == x0 with
  | true => simp [h, Qac, List.getD_eq_getElem?_getD, List.getElem?_eq_getElem hk2]
  | false =>
   simp only [h, Qae, Bool.false_eq_true, if_false]
   cases hq : idxN x0 (x1.drop (k + 1)) with
   | none => rfl
   | some j =>
    simp only [Option.map_some, Option.isSome_some, Option.getD_some, Qac]
    rw [show k + 1 + j = k + (j + 1) by omega]
theorem QEh : ∀ S l p, QjZ.L 0 (fgt QfT S) = some (true, l) → pickA l = some p → loopF (Qai QjZ QfT Qhq) S = some p :=
 QaG (s := QmC) ⟨by decide, by decide⟩ (by kernel_rfl) fun x y hok p hp => by
 simp only [Qas, Qao] at hp
 exact (QIF x.1 x.2.1 x.2.2.1 x.2.2.2.1 (by simpa using hok)).trans hp
theorem QOY : Qt1.lok QjZ := by
 repeat (first | exact trivial | exact QEh | refine ⟨?_, ?_⟩)
theorem s_f112 (b : Int) (s t : List Int) (h : QeX b s t = true) : QC7 b s t = some (.t tI (Qbk b s t), []) := by
 simp only [QeX, decide_eq_true_eq] at h
 simp only [QC7, Qbk]
 rw [Qlv ⟨h.1, h.2, Int.le_refl 0, by omega⟩, Qac]
 simp only [Int.toNat_zero, List.drop_zero, Nat.zero_add]
 cases idxN b s <;> simp [Qac, Qae]
def QBi : Ent := spec (.pr tI (.pr (.sl tI) (.pr (.sl tI) .nil))) (fun x => (QeX x.1 x.2.1 x.2.2.1)) (fun x => (.t tI (Qbk x.1 x.2.1 x.2.2.1)))
theorem QN3 : Meets Tryz.prog 112 (strip QBi) := Qaf (R := runF QjZ Qt1 QCc false) (mG Tryz.func112 (by kernel_rfl) Tryz.ntmps112 (by kernel_rfl) QQb QOY) fun x hok => (e_f112 x.1 x.2.1 x.2.2.1).trans (s_f112 x.1 x.2.1 x.2.2.1 hok)
noncomputable def Qzz : TC := (.sq (.reg (rT Tryz.f88 0)) (.sq (.reg (rT Tryz.f88 1)) (.sq (.sq (.reg (rT Tryz.f88 2)) (.bk 0 (.sq (.sq (.reg (rT Tryz.f88 3)) (.cd (.t 8) .sk (.sq (.reg (rT Tryz.f88 4)) (.cd (.t 8) .sk (.sq (.reg (rT Tryz.f88 5)) (.cd (.t 8) .sk (.reg (rT Tryz.f88 6)))))))) (.cd (.t 8) (.sq (.reg (rT Tryz.f88 7)) .rt) (.sq (.sq (.reg (rT Tryz.f88 8)) (.cd (.t 15) .sk (.reg (rT Tryz.f88 9)))) (.cd (.t 15) (.sq (.sq (.reg (rT Tryz.f88 10)) (.cd (.t 35) (.sq (.reg (rT Tryz.f88 11)) .rt) .sk)) (.sq (.reg (rT Tryz.f88 12)) .rt)) (.sq (.reg (rT Tryz.f88 13)) (.cd (.t 38) (.sq (.reg (rT Tryz.f88 14)) .rt) (.sq (.reg (rT Tryz.f88 15)) (.cd (.t 44) (.sq (.reg (rT Tryz.f88 16)) .rt) (.sq (.reg (rT Tryz.f88 17)) (.cd (.t 50) (.sq (.reg (rT Tryz.f88 18)) .rt) (.sq (.reg (rT Tryz.f88 19)) (.cd (.t 56) (.sq (.reg (rT Tryz.f88 20)) .rt) (.sq (.sq (.reg (rT Tryz.f88 21)) (.cd (.t 62) .sk (.reg (rT Tryz.f88 22)))) (.cd (.t 62) (.sq (.reg (rT Tryz.f88 23)) .rt) .sk)))))))))))))))) (.sq (.reg (rT Tryz.f88 24)) .rt))))
def QLr : List (RV × Option Ty) := [((.t 2), some tI)]
def g_f88 : G := ⟨TYs, [], 76, EL [(111, QBj), (112, QBi), (113, QBh)], keeps, (fun _ _ => none), IL [], RL []⟩
def QgQ (p0 : Keep) : Option (V × List VO) := br (cNz 2) (some (.t tI (iquo .i64 p0.2.1 2), [])) none
def QmN (p0 : Keep) : Option (V × List VO) := br (ieq p0.2.1 160) (QgQ p0) (br (ieq p0.2.1 224) (QgQ p0) (br (ieq p0.2.1 256) (QgQ p0) (br (ieq p0.2.1 384) (QgQ p0) (br (ieq p0.2.1 521) (QgQ p0) (some (.t tI 0, []))))))
def QuZ (p0 : Keep) : Option (V × List VO) := br (QeX p0.2.1 ([128, 256]) ([128, 256])) (some (.t tI (Qbk p0.2.1 ([128, 256]) ([128, 256])), [])) none
def QuY (p0 : Keep) : Option (V × List VO) := br (QeX p0.2.1 ([0]) ([(Qcv p0.1)])) (some (.t tI (Qbk p0.2.1 ([0]) ([(Qcv p0.1)])), [])) none
def Qu0 (p0 : Keep) : Option (V × List VO) := br (ieq p0.1 9) (br (QeX p0.2.1 ([44, 65, 87]) ([128, 192, 256])) (some (.t tI (Qbk p0.2.1 ([44, 65, 87]) ([128, 192, 256])), [])) none) (br (ieq p0.1 13) (br (QeX p0.2.1 ([512, 768, 1024]) ([128, 192, 256])) (some (.t tI (Qbk p0.2.1 ([512, 768, 1024]) ([128, 192, 256])), [])) none) (br (ieq p0.1 14) (br (QeX p0.2.1 ([40, 128]) ([40, 60])) (some (.t tI (Qbk p0.2.1 ([40, 128]) ([40, 60])), [])) none) (br (ieq p0.1 15) (br (QeX p0.2.1 ([112, 168]) ([80, 112])) (some (.t tI (Qbk p0.2.1 ([112, 168]) ([80, 112])), [])) none) (br (ieq p0.1 16) (br (ieq p0.1 16) (QuZ p0) (QuY p0)) (br (ieq p0.1 17) (QuZ p0) (QuY p0))))))
def QmO (p0 : Keep) : Option (V × List VO) := br (ieq p0.1 7) (br (ieq p0.1 7) (QmN p0) (Qu0 p0)) (br (ieq p0.1 12) (QmN p0) (Qu0 p0))
def r_f88 (p0 : Keep) : Option (V × List VO) :=
 let a1 := QdG p0.2.1
 br (ieq p0.1 5) (br (ieq p0.1 5) (some (.t tI a1, [])) (QmO p0)) (br (ieq p0.1 6) (br (ieq p0.1 6) (some (.t tI a1, [])) (QmO p0)) (br (ieq p0.1 10) (br (ieq p0.1 10) (some (.t tI a1, [])) (QmO p0)) (br (ieq p0.1 11) (some (.t tI a1, [])) (QmO p0))))
theorem e_f88 (p0 : Keep) : runF g_f88 Qzz QLr false [.t Qaj p0] [] = r_f88 p0 := by kernel_rfl
theorem QMN : Qag Tryz.prog 88 := .inr ⟨by decide, _, Tryz.func88, by kernel_rfl, by kernel_rfl⟩
theorem gk_f88 : GOk Tryz.prog g_f88 := Qal _ (gA (gC QQO QN4 (gC QQN QN3 (gC QQM QN2 gN))))
theorem lk_f88 : Qzz.lok g_f88 := by repeat (first | exact trivial | refine ⟨?_, ?_⟩)
theorem s_f88 (u : Keep) : r_f88 u = some (.t tI (strF u), []) := by
 obtain ⟨a, b, c⟩ := u
 have hcv : QmN (a, b, c) = some (.t tI (Qoq b), []) := by
  have hh : hasF [160, 224, 256, 384, 521] b = (ieq b 160 || (ieq b 224 || (ieq b 256 || (ieq b 384 || ieq b 521)))) := by
   rw [Bool.eq_iff_iff]
   simp [hasF, ieq]
  simp only [QmN, QgQ, show cNz 2 = true from rfl, Qac, Qoq, hh]
  cases ieq b 160 <;> cases ieq b 224 <;> cases ieq b 256 <;> cases ieq b 384 <;> cases ieq b 521 <;> rfl
 rcases QnR a with ⟨e, hb⟩ | hc
 ·have e2 : strF (a, b, c) = Qbk b [0] [Qcv a] := by
   unfold strF
   simp only
   repeat rw [if_neg (by omega)]
  rw [e2]
  simp only [r_f88, QmO, QmN, QgQ, Qu0, QuZ, QuY, e 5 (by decide), e 6 (by decide), e 7 (by decide), e 9 (by decide), e 10 (by decide), e 11 (by decide), e 12 (by decide), e 13 (by decide), e 14 (by decide), e 15 (by decide), e 16 (by decide), e 17 (by decide), Qae]
  rfl
 ·rcases hc with rfl | rfl | rfl | rfl | rfl | rfl | rfl | rfl | rfl | rfl | rfl | rfl | rfl | rfl | rfl | rfl | rfl | rfl | rfl | rfl | rfl | rfl
  all_goals first
   | rfl
   | exact hcv
def QAy : Ent := spec (.pr Qaj .nil) (fun x => true) (fun x => (.t tI (strF x.1)))
theorem QMu : Meets Tryz.prog 88 (strip QAy) := Qaf (R := runF g_f88 Qzz QLr false) (mG Tryz.func88 (by kernel_rfl) Tryz.ntmps88 (by kernel_rfl) gk_f88 lk_f88) fun x _ => (e_f88 x.1).trans (s_f88 x.1)
noncomputable def QtT : TC := (.sq (.reg (rT Tryz.f120 0)) (.sq (.reg (rT Tryz.f120 1)) .rt))
def QB4 : List (RV × Option Ty) := [((.t 2), some .bool)]
def Qxo : G := ⟨TYs, [], 6, EL [(88, QAy)], keeps, (fun _ _ => none), IL [], RL []⟩
def QMm (p0 : Keep) : Option (V × List VO) := some (.t .bool (igt (strF p0) 0), [])
theorem e_f120 (p0 : Keep) : runF Qxo QtT QB4 false [.t Qaj p0] [] = QMm p0 := by kernel_rfl
theorem QFC : Qag Tryz.prog 120 := .inr ⟨by decide, _, Tryz.func120, by kernel_rfl, by kernel_rfl⟩
theorem QP3 : GOk Tryz.prog Qxo := Qal _ (gA (gC QMN QMu gN))
theorem QOQ : QtT.lok Qxo := by repeat (first | exact trivial | refine ⟨?_, ?_⟩)
theorem s_f120 (u : Keep) : QMm u = some (.t .bool (Qcw u), []) := rfl
def Quh : Ent := spec (.pr Qaj .nil) (fun x => true) (fun x => (.t .bool (Qcw x.1)))
theorem QDN : Meets Tryz.prog 120 (strip Quh) := Qaf (R := runF Qxo QtT QB4 false) (mG Tryz.func120 (by kernel_rfl) Tryz.ntmps120 (by kernel_rfl) QP3 QOQ) fun x _ => (e_f120 x.1).trans (s_f120 x.1)
end Go.Proofs.YtkngeegkjhipeaaGreat.K
