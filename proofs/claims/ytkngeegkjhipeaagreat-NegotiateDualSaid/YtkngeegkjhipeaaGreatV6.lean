import Derived.Test.YtkngeegkjhipeaaGreatV5
set_option linter.unusedSimpArgs false
set_option linter.unusedVariables false
namespace Go.Proofs.YtkngeegkjhipeaaGreat.K
open Go.RowKit
def Qbh (b : Int) (s t : List Int) : Int := match idxN b s with | some k => t.getD k 0 | none => 0
def Qct (a : Int) : Int := if a = 1 then 18 else if a = 2 then 60 else if a = 3 ∨ a = 8 ∨ a = 21 then 128 else if a = 4 then 192 else if a = 18 ∨ a = 22 then 256 else if a = 19 then 64 else if a = 20 then 80 else 0
def QdD (b : Int) : Int := if b < 512 ∨ 16384 < b then 0 else modF b
def Qoo (b : Int) : Int := if hasF [160, 224, 256, 384, 521] b then iquo .i64 b 2 else 0
def strF (u : Keep) : Int :=
 if u.1 = 5 ∨ u.1 = 6 ∨ u.1 = 10 ∨ u.1 = 11 then QdD u.2.1
 else if u.1 = 7 ∨ u.1 = 12 then Qoo u.2.1
 else if u.1 = 9 then Qbh u.2.1 [44, 65, 87] [128, 192, 256]
 else if u.1 = 13 then Qbh u.2.1 [512, 768, 1024] [128, 192, 256]
 else if u.1 = 14 then Qbh u.2.1 [40, 128] [40, 60]
 else if u.1 = 15 then Qbh u.2.1 [112, 168] [80, 112]
 else if u.1 = 16 ∨ u.1 = 17 then Qbh u.2.1 [128, 256] [128, 256]
 else Qbh u.2.1 [0] [Qct u.1]
def Qcv (u : Keep) : Bool := decide (strF u > 0)
noncomputable def QtS : TC := (.sq (.reg (rT Tryz.f134 0)) (.sq (.reg (rT Tryz.f134 1)) (.sq (.sq (.reg (rT Tryz.f134 2)) (.cd (.t 13) (.sq (.reg (rT Tryz.f134 3)) .rt) .sk)) (.sq (.sq (.reg (rT Tryz.f134 4)) (.bk 0 (.sq (.reg (rT Tryz.f134 5)) (.cd (.t 16) (.sq (.reg (rT Tryz.f134 6)) (.cd (.t 20) (.sq (.reg (rT Tryz.f134 7)) .rt) .sk)) (.sq (.reg (rT Tryz.f134 8)) (.cd (.t 25) (.sq (.reg (rT Tryz.f134 9)) (.cd (.t 34) (.sq (.reg (rT Tryz.f134 10)) .rt) .sk)) (.sq (.reg (rT Tryz.f134 11)) (.cd (.t 38) (.sq (.reg (rT Tryz.f134 12)) (.cd (.t 43) (.sq (.reg (rT Tryz.f134 13)) .rt) .sk)) (.sq (.reg (rT Tryz.f134 14)) (.cd (.t 47) (.sq (.reg (rT Tryz.f134 15)) (.sq (.reg (rT Tryz.f134 16)) (.cd (.t 55) (.sq (.reg (rT Tryz.f134 17)) .rt) .sk))) .sk)))))))))) (.sq (.reg (rT Tryz.f134 18)) .rt)))))
def QBW : List (RV × Option Ty) := [((.t 2), some tI)]
def Qxj : G := ⟨TYs, [], 61, EL [(59, Qoa), (89, QAu), (135, Qui), (147, QAX)], keeps, (fun _ _ => none), IL [], RL []⟩
def Qe2 (p0 : Keep) : Option (V × List VO) :=
 let a1 := ((((ofF p0.1).1).2).2)
 let a2 := idxF ((a1.2).1) p0.2.1
 let a3 := (((a1.2).2).1)
 br (!((ofF p0.1).2)) (some (.t tI 0, [])) (br (ieq (a1.1) 0) (br (ieq p0.2.1 0) (br (cIx a3 0) (some (.t tI (lgt tI a3 (Int.toNat 0)), [])) none) (some (.t tI 0, []))) (br (ieq (a1.1) 1) (br (ige p0.2.1 512) (br (ile p0.2.1 16384) (some (.t tI (modF p0.2.1), [])) (some (.t tI 0, []))) (some (.t tI 0, []))) (br (ieq (a1.1) 2) (br (QaY ([160, 224, 256, 384, 521]) p0.2.1) (br (hasF ([160, 224, 256, 384, 521]) p0.2.1) (br (cNz 2) (some (.t tI (iquo .i64 p0.2.1 2), [])) none) (some (.t tI 0, []))) none) (br (ieq (a1.1) 3) (br (QaY ((a1.2).1) p0.2.1) (br (ige a2 0) (br (cIx a3 a2) (some (.t tI (lgt tI a3 (Int.toNat a2)), [])) none) (some (.t tI 0, []))) none) (some (.t tI 0, []))))))
theorem e_f134 (p0 : Keep) : runF Qxj QtS QBW false [.t Qam p0] [] = Qe2 p0 := by kernel_rfl
theorem QQI : Qag Tryz.prog 134 := .inr ⟨by decide, _, Tryz.func134, by kernel_rfl, by kernel_rfl⟩
theorem QP5 : GOk Tryz.prog Qxj := Qan _ (gA (gC Qs1 Qsf (gC QMO QMx (gC QFx QDI (gC QQD QNR gN)))))
theorem QOQ : QtS.lok Qxj := by repeat (first | exact trivial | refine ⟨?_, ?_⟩)
theorem QNb (u : Keep) (h1 : (ofF u.1).2 = false) : Qe2 u = some (.t tI 0, []) := by
 simp only [Qe2, h1, Bool.not_false, Qac]
theorem QHa (u : Keep) {v : Int} (h1 : (ofF u.1).2 = true) (h2 : (ofF u.1).1.2.2.1 = 0) (h3 : (ofF u.1).1.2.2.2.2.1 = [v]) : Qe2 u = some (.t tI (Qbh u.2.1 [0] [v]), []) := by
 simp only [Qe2, h1, h2, h3, Bool.not_true, Qae, show ieq 0 0 = true from rfl, Qac, show cIx [v] 0 = true from rfl]
 simp only [Qbh, idxN, ieq]
 have hc : ((0 : Int) == u.2.1) = (u.2.1 == 0) := Bool.beq_comm
 rw [hc]
 cases u.2.1 == 0 <;> rfl
theorem QNa (u : Keep) (h1 : (ofF u.1).2 = true) (h2 : (ofF u.1).1.2.2.1 = 1) : Qe2 u = some (.t tI (QdD u.2.1), []) := by
 simp only [Qe2, h1, h2, Bool.not_true, Qae, show ieq 1 0 = false from rfl, show ieq 1 1 = true from rfl, Qac, QdD]
 refine QaP (fun g1 => QaP (fun g2 => ?_) (fun g2 => ?_)) (fun g1 => ?_)
 ·rw [if_neg]
  simp [ige, ile] at g1 g2
  omega
 ·rw [if_pos]
  simp [ige, ile] at g1 g2
  omega
 ·rw [if_pos]
  simp [ige] at g1
  omega
theorem QAo (u : Keep) (h1 : (ofF u.1).2 = true) (h2 : (ofF u.1).1.2.2.1 = 2) : Qe2 u = some (.t tI (Qoo u.2.1), []) := by
 simp only [Qe2, h1, h2, Bool.not_true, Qae, show ieq 2 0 = false from rfl, show ieq 2 1 = false from rfl, show ieq 2 2 = true from rfl, Qac, Qoo, show QaY [160, 224, 256, 384, 521] u.2.1 = true from rfl, show cNz 2 = true from rfl]
 cases hasF [160, 224, 256, 384, 521] u.2.1 <;> rfl
theorem QHb (u : Keep) {s t : List Int} (h1 : (ofF u.1).2 = true) (h2 : (ofF u.1).1.2.2.1 = 3) (h3 : (ofF u.1).1.2.2.2.1 = s) (h4 : (ofF u.1).1.2.2.2.2.1 = t) (h5 : s.length = t.length) (h6 : s.length ≤ 100000) : Qe2 u = some (.t tI (Qbh u.2.1 s t), []) := by
 have e1 : QaY s u.2.1 = true := by simp [QaY, h6]
 simp only [Qe2, h1, h2, h3, h4, e1, Bool.not_true, Qae, show ieq 3 0 = false from rfl, show ieq 3 1 = false from rfl, show ieq 3 2 = false from rfl, show ieq 3 3 = true from rfl, Qac, idxF, Qbh]
 cases hq : idxN u.2.1 s with
 | none => rfl
 | some k =>
  have hk := QEI hq
  have e2 : ige (k : Int) 0 = true := by simp only [ige, decide_eq_true_eq]; omega
  have e3 : k < t.length := by omega
  simp only [e2, Qac, Qay, e3, decide_true]
  rfl
theorem s_f134 (u : Keep) : Qe2 u = some (.t tI (strF u), []) := by
 obtain ⟨a, b, c⟩ := u
 by_cases hb : a < 1 ∨ 22 < a
 ·rw [QNb _ (by simp [ofF, hb])]
  have e1 : Qct a = 0 := by
   unfold Qct
   repeat rw [if_neg (by omega)]
  have e2 : strF (a, b, c) = 0 := by
   unfold strF
   simp only
   repeat rw [if_neg (by omega)]
   rw [e1]
   simp only [Qbh, idxN]
   cases (0 : Int) == b <;> rfl
  rw [e2]
 ·have hc : a = 1 ∨ a = 2 ∨ a = 3 ∨ a = 4 ∨ a = 5 ∨ a = 6 ∨ a = 7 ∨ a = 8 ∨ a = 9 ∨ a = 10 ∨ a = 11 ∨ a = 12 ∨ a = 13 ∨ a = 14 ∨ a = 15 ∨ a = 16 ∨ a = 17 ∨ a = 18 ∨ a = 19 ∨ a = 20 ∨ a = 21 ∨ a = 22 := by omega
  rcases hc with rfl | rfl | rfl | rfl | rfl | rfl | rfl | rfl | rfl | rfl | rfl | rfl | rfl | rfl | rfl | rfl | rfl | rfl | rfl | rfl | rfl | rfl
  all_goals first
   | exact QHa (v := Qct _) (_, b, c) rfl rfl rfl
   | exact QNa (_, b, c) rfl rfl
   | exact QAo (_, b, c) rfl rfl
   | exact QHb (_, b, c) rfl rfl rfl rfl rfl (by decide)
def QA3 : Ent := spec (.pr Qam .nil) (fun x => true) (fun x => (.t tI (strF x.1)))
theorem QNW : Meets Tryz.prog 134 (strip QA3) := Qaf (R := runF Qxj QtS QBW false) (mG Tryz.func134 (by kernel_rfl) Tryz.ntmps134 (by kernel_rfl) QP5 QOQ) fun x _ => (e_f134 x.1).trans (s_f134 x.1)
noncomputable def Qt7 : TC := (.sq (.reg (rT Tryz.f107 0)) (.sq (.reg (rT Tryz.f107 1)) .rt))
def QCb : List (RV × Option Ty) := [((.t 2), some .bool)]
def Qxs : G := ⟨TYs, [], 6, EL [(134, QA3)], keeps, (fun _ _ => none), IL [], RL []⟩
def QMs (p0 : Keep) : Option (V × List VO) := some (.t .bool (igt (strF p0) 0), [])
theorem e_f107 (p0 : Keep) : runF Qxs Qt7 QCb false [.t Qam p0] [] = QMs p0 := by kernel_rfl
theorem QFA : Qag Tryz.prog 107 := .inr ⟨by decide, _, Tryz.func107, by kernel_rfl, by kernel_rfl⟩
theorem QQk : GOk Tryz.prog Qxs := Qan _ (gA (gC QQI QNW gN))
theorem QO5 : Qt7.lok Qxs := by repeat (first | exact trivial | refine ⟨?_, ?_⟩)
theorem s_f107 (u : Keep) : QMs u = some (.t .bool (Qcv u), []) := rfl
def Qul : Ent := spec (.pr Qam .nil) (fun x => true) (fun x => (.t .bool (Qcv x.1)))
theorem QDL : Meets Tryz.prog 107 (strip Qul) := Qaf (R := runF Qxs Qt7 QCb false) (mG Tryz.func107 (by kernel_rfl) Tryz.ntmps107 (by kernel_rfl) QQk QO5) fun x _ => (e_f107 x.1).trans (s_f107 x.1)
noncomputable def Qt3 : TC := (.sq (.reg (rT Tryz.f111 0)) (.sq (.bk 0 (.sq (.reg (rT Tryz.f111 1)) (.cd (.t 3) (.sq (.reg (rT Tryz.f111 2)) .rt) (.sq (.reg (rT Tryz.f111 3)) (.cd (.t 10) (.sq (.reg (rT Tryz.f111 4)) .rt) (.sq (.reg (rT Tryz.f111 5)) (.cd (.t 13) (.sq (.reg (rT Tryz.f111 6)) .rt) (.sq (.reg (rT Tryz.f111 7)) (.cd (.t 16) (.sq (.reg (rT Tryz.f111 8)) .rt) (.sq (.reg (rT Tryz.f111 9)) (.cd (.t 19) (.sq (.reg (rT Tryz.f111 10)) .rt) (.sq (.reg (rT Tryz.f111 11)) (.cd (.t 22) (.sq (.reg (rT Tryz.f111 12)) .rt) .sk))))))))))))) (.sq (.reg (rT Tryz.f111 13)) .rt)))
def QB7 : List (RV × Option Ty) := [((.t 2), some tI)]
def Qxp : G := ⟨TYs, [], 25, EL [], keeps, (fun _ _ => none), IL [], RL []⟩
def QC2 (p0 : Int) : Option (V × List VO) := br (ilt p0 512) (some (.t tI 0, [])) (br (igt p0 16384) (some (.t tI 0, [])) (br (ilt p0 1024) (some (.t tI 56, [])) (br (ilt p0 2048) (some (.t tI 80, [])) (br (ilt p0 3072) (some (.t tI 112, [])) (br (ilt p0 7680) (some (.t tI 128, [])) (br (ilt p0 15360) (some (.t tI 192, [])) (some (.t tI 256, []))))))))
theorem e_f111 (p0 : Int) : runF Qxp Qt3 QB7 false [.t tI p0] [] = QC2 p0 := by kernel_rfl
theorem QQS : Qag Tryz.prog 111 := .inr ⟨by decide, _, Tryz.func111, by kernel_rfl, by kernel_rfl⟩
theorem QQg : GOk Tryz.prog Qxp := Qan _ (fun p hp => by cases hp)
theorem QO1 : Qt3.lok Qxp := by repeat (first | exact trivial | refine ⟨?_, ?_⟩)
theorem s_f111 (b : Int) : QC2 b = some (.t tI (QdD b), []) := by
 simp only [QC2]
 repeat' (refine QaP ?_ ?_ <;> intro _)
 all_goals simp only [ilt, igt, decide_eq_true_eq, decide_eq_false_iff_not] at *
 all_goals simp only [QdD, modF, modZ, modL, Int.toNat_zero, List.drop_zero, List.find?_cons, ilt]
 all_goals first
  |(rw [if_pos (by omega)]; done)
  |(rw [if_neg (by omega)]; repeat first | rw [Qlv (by omega)] | rw [QFL (by omega)]
    rfl)
def QBd : Ent := spec (.pr tI .nil) (fun x => true) (fun x => (.t tI (QdD x.1)))
theorem QN6 : Meets Tryz.prog 111 (strip QBd) := Qaf (R := runF Qxp Qt3 QB7 false) (mG Tryz.func111 (by kernel_rfl) Tryz.ntmps111 (by kernel_rfl) QQg QO1) fun x _ => (e_f111 x.1).trans (s_f111 x.1)
theorem QnP (a : Int) : ((∀ k : Int, decide (1 ≤ k ∧ k ≤ 22) = true → ieq a k = false) ∧ (a < 1 ∨ 22 < a)) ∨ (a = 1 ∨ a = 2 ∨ a = 3 ∨ a = 4 ∨ a = 5 ∨ a = 6 ∨ a = 7 ∨ a = 8 ∨ a = 9 ∨ a = 10 ∨ a = 11 ∨ a = 12 ∨ a = 13 ∨ a = 14 ∨ a = 15 ∨ a = 16 ∨ a = 17 ∨ a = 18 ∨ a = 19 ∨ a = 20 ∨ a = 21 ∨ a = 22) := by
 by_cases hb : a < 1 ∨ 22 < a
 ·refine .inl ⟨fun k hk => ?_, hb⟩
  simp only [decide_eq_true_eq] at hk
  simp only [QPy, decide_eq_false_iff_not]
  omega
 ·right
  omega
noncomputable def Qt1 : TC := (.sq (.reg (rT Tryz.f113 0)) (.sq (.sq (.reg (rT Tryz.f113 1)) (.bk 0 (.sq (.reg (rT Tryz.f113 2)) (.cd (.t 4) (.sq (.reg (rT Tryz.f113 3)) .rt) (.sq (.reg (rT Tryz.f113 4)) (.cd (.t 6) (.sq (.reg (rT Tryz.f113 5)) .rt) (.sq (.sq (.reg (rT Tryz.f113 6)) (.cd (.t 8) .sk (.sq (.reg (rT Tryz.f113 7)) (.cd (.t 8) .sk (.reg (rT Tryz.f113 8)))))) (.cd (.t 8) (.sq (.reg (rT Tryz.f113 9)) .rt) (.sq (.reg (rT Tryz.f113 10)) (.cd (.t 12) (.sq (.reg (rT Tryz.f113 11)) .rt) (.sq (.sq (.reg (rT Tryz.f113 12)) (.cd (.t 14) .sk (.reg (rT Tryz.f113 13)))) (.cd (.t 14) (.sq (.reg (rT Tryz.f113 14)) .rt) (.sq (.reg (rT Tryz.f113 15)) (.cd (.t 17) (.sq (.reg (rT Tryz.f113 16)) .rt) (.sq (.reg (rT Tryz.f113 17)) (.cd (.t 19) (.sq (.reg (rT Tryz.f113 18)) .rt) .sk)))))))))))))))) (.sq (.reg (rT Tryz.f113 19)) .rt)))
def QB5 : List (RV × Option Ty) := [((.t 2), some tI)]
def Qxo : G := ⟨TYs, [], 21, EL [], keeps, (fun _ _ => none), IL [], RL []⟩
def QpL (p0 : Int) : Option (V × List VO) := br (ieq p0 19) (some (.t tI 64, [])) (br (ieq p0 20) (some (.t tI 80, [])) (some (.t tI 0, [])))
def Qkw (p0 : Int) : Option (V × List VO) := br (ieq p0 4) (some (.t tI 192, [])) (br (ieq p0 18) (br (ieq p0 18) (some (.t tI 256, [])) (QpL p0)) (br (ieq p0 22) (some (.t tI 256, [])) (QpL p0)))
def QC0 (p0 : Int) : Option (V × List VO) := br (ieq p0 1) (some (.t tI 18, [])) (br (ieq p0 2) (some (.t tI 60, [])) (br (ieq p0 3) (br (ieq p0 3) (some (.t tI 128, [])) (Qkw p0)) (br (ieq p0 8) (br (ieq p0 8) (some (.t tI 128, [])) (Qkw p0)) (br (ieq p0 21) (some (.t tI 128, [])) (Qkw p0)))))
theorem e_f113 (p0 : Int) : runF Qxo Qt1 QB5 false [.t tI p0] [] = QC0 p0 := by kernel_rfl
theorem QQQ : Qag Tryz.prog 113 := .inr ⟨by decide, _, Tryz.func113, by kernel_rfl, by kernel_rfl⟩
theorem QQe : GOk Tryz.prog Qxo := Qan _ (fun p hp => by cases hp)
theorem QOZ : Qt1.lok Qxo := by repeat (first | exact trivial | refine ⟨?_, ?_⟩)
theorem s_f113 (a : Int) : QC0 a = some (.t tI (Qct a), []) := by
 rcases QnP a with ⟨e, hb⟩ | hc
 ·have e1 : Qct a = 0 := by
   unfold Qct
   repeat rw [if_neg (by omega)]
  rw [e1]
  simp only [QC0, Qkw, QpL, e 1 (by decide), e 2 (by decide), e 3 (by decide), e 4 (by decide), e 8 (by decide), e 18 (by decide), e 19 (by decide), e 20 (by decide), e 21 (by decide), e 22 (by decide), Qae]
 ·rcases hc with rfl | rfl | rfl | rfl | rfl | rfl | rfl | rfl | rfl | rfl | rfl | rfl | rfl | rfl | rfl | rfl | rfl | rfl | rfl | rfl | rfl | rfl <;> rfl
def QBb : Ent := spec (.pr tI .nil) (fun x => true) (fun x => (.t tI (Qct x.1)))
theorem QN4 : Meets Tryz.prog 113 (strip QBb) := Qaf (R := runF Qxo Qt1 QB5 false) (mG Tryz.func113 (by kernel_rfl) Tryz.ntmps113 (by kernel_rfl) QQe QOZ) fun x _ => (e_f113 x.1).trans (s_f113 x.1)
def QeX (_b : Int) (s t : List Int) : Bool := decide (s.length = t.length ∧ s.length ≤ 100000)
def QfS : Fg := ⟨[(0, some tI), (1, some (.sl tI)), (2, some (.sl tI)), (7, some tI)], []⟩
noncomputable def Qhq : TC := (.sq (.sq (.reg (rT Tryz.f112 2)) (.cd (.t 11) .sk (.fg ⟨[], []⟩ (.ex 0)))) (.sq (.bk 1 (.sq (.reg (rT Tryz.f112 3)) (.cd (.t 19) (.sq (.reg (rT Tryz.f112 4)) (.fg ⟨[(6, some tI)], []⟩ .rt)) .sk))) (.reg (rT Tryz.f112 5))))
noncomputable def Qt2 : TC := (.sq (.reg (rT Tryz.f112 0)) (.sq (.sq (.reg (rT Tryz.f112 1)) (.bk 0 (.lp 0 QfS Qhq))) (.sq (.reg (rT Tryz.f112 6)) .rt)))
def QB6 : List (RV × Option Ty) := [((.t 6), some tI)]
abbrev QmC : Sh := ⟨[(0, .ty tI), (1, .ty (.sl tI)), (2, .ty (.sl tI)), (7, .ty tI)], []⟩
def Ql6 (x0 : Int) (x1 x2 : List Int) (x7 : Int) : VS := QmC.st (x0, x1, x2, x7, ()) ()
abbrev Qpp : Sh := ⟨[(6, .ty tI)], []⟩
def QcE (x6 : Int) : VS := Qpp.st (x6, ()) ()
abbrev QrI : Sh := ⟨[], []⟩
def Qdw  : VS := QrI.st () ()
def QKw : VS → Option (Bool × List (Bool × Exit × VS)) := mkL QmC (fun x y => (decide (x.2.1.length = x.2.2.1.length ∧ x.2.1.length ≤ 100000 ∧ 0 ≤ x.2.2.2.1 ∧ x.2.2.2.1 ≤ x.2.1.length))) (fun x y => [(((idxN x.1 (x.2.1.drop x.2.2.2.1.toNat)).isSome), .ret, QcE (x.2.2.1.getD (x.2.2.2.1.toNat + (idxN x.1 (x.2.1.drop x.2.2.2.1.toNat)).getD 0) 0)), (true, .exit 0, Qdw)])
def QjZ : G := ⟨TYs, [], 24, EL [], keeps, (Ls [QKw]), IL [], RL []⟩
def Qyd (x0 : Int) (x1 x2 : List Int) (x7 : Int) : Option (Exit × VS) := br (ilt x7 (llen x1)) (br (cIx x1 x7) (br (ieq (lgt tI x1 (Int.toNat x7)) x0) (br (cIx x2 x7) (some (.ret, QcE (lgt tI x2 (Int.toNat x7)))) none) (some (.normal, Ql6 x0 x1 x2 (iadd .i64 x7 1)))) none) (some (.exit 0, Qdw))
noncomputable def QhY (x0 : Int) (x1 x2 : List Int) (x7 : Int) : Option (Exit × VS) := loopF (Qaj QjZ QfS Qhq) (Ql6 x0 x1 x2 x7)
noncomputable def QkP (x0 : Int) (x1 x2 : List Int) (x7 : Int) : Option (Exit × VS) := br (ilt x7 (llen x1)) (br (cIx x1 x7) (br (ieq (lgt tI x1 (Int.toNat x7)) x0) (br (cIx x2 x7) (some (.ret, QcE (lgt tI x2 (Int.toNat x7)))) none) (QhY x0 x1 x2 (iadd .i64 x7 1))) none) (some (.exit 0, Qdw))
def Qih (x0 : Int) (x1 x2 : List Int) (x7 : Int) : Option (Exit × VS) :=
 let a1 := idxN x0 (x1.drop x7.toNat)
 br (a1.isSome) (some (.ret, QcE (x2.getD (x7.toNat + a1.getD 0) 0))) <| some (.exit 0, Qdw)
theorem QGq (x0 : Int) (x1 x2 : List Int) (x7 : Int) : Qaj QjZ QfS Qhq (Ql6 x0 x1 x2 x7) = Qyd x0 x1 x2 x7 := by kernel_rfl
theorem QsD (x0 : Int) (x1 x2 : List Int) (x7 : Int) : QhY x0 x1 x2 x7 = QkP x0 x1 x2 x7 := (Qaq _ _).trans (by
 rw [QGq]
 simp only [Qyd, QkP, QaE, nxt_n, nxt_r, nxt_e, nxt_0]
 rfl)
def QC1 (p0 : Int) (p1 p2 : List Int) : Option (V × List VO) :=
 let a1 := (idxN p0 (p1.drop (0 : Int).toNat))
 br (decide (p1.length = p2.length ∧ p1.length ≤ 100000 ∧ 0 ≤ (0 : Int) ∧ (0 : Int) ≤ p1.length)) (br (a1.isSome) (some (.t tI (p2.getD ((0 : Int).toNat + a1.getD 0) 0), [])) (some (.t tI 0, []))) none
theorem e_f112 (p0 : Int) (p1 p2 : List Int) : runF QjZ Qt2 QB6 false [.t tI p0, .t (.sl tI) p1, .t (.sl tI) p2] [] = QC1 p0 p1 p2 := by kernel_rfl
theorem QQR : Qag Tryz.prog 112 := .inr ⟨by decide, _, Tryz.func112, by kernel_rfl, by kernel_rfl⟩
theorem QQf : GOk Tryz.prog QjZ := Qan _ (fun p hp => by cases hp)
theorem QIB (x0 : Int) (x1 x2 : List Int) (x7 : Int) (h : (decide (x1.length = x2.length ∧ x1.length ≤ 100000 ∧ 0 ≤ x7 ∧ x7 ≤ x1.length)) = true) : QhY x0 x1 x2 x7 = Qih x0 x1 x2 x7 := by
 simp only [decide_eq_true_eq] at h
 obtain ⟨h1, h2, h3, h4⟩ := h
 obtain ⟨k, rfl⟩ := Int.eq_ofNat_of_zero_le h3
 refine Qav x1 (fun k => QhY x0 x1 x2 (k : Int) = Qih x0 x1 x2 (k : Int)) ?_ ?_ k (by omega)
 ·rw [QsD]
  simp [QkP, Qih, Qaz, llen, Qae, idxN]
 ·intro k hk ih
  rw [QsD]
  have hk2 : k < x2.length := by omega
  simp only [QkP, Qaz, llen, Qay, hk, hk2, decide_true, Qac, Int.toNat_natCast, add1 (show k < 4611686018427387904 by omega), ih, QaG (y := tI) hk, QaG (y := tI) hk2]
  simp only [Qih, Int.toNat_natCast, List.drop_eq_getElem_cons hk, idxN, ieq]
  cases h : x1[k] == x0 with
  | true => simp [h, Qac, List.getD_eq_getElem?_getD, List.getElem?_eq_getElem hk2]
  | false =>
   simp only [h, Qae, Bool.false_eq_true, if_false]
   cases hq : idxN x0 (x1.drop (k + 1)) with
   | none => rfl
   | some j =>
    simp only [Option.map_some, Option.isSome_some, Option.getD_some, Qac]
    rw [show k + 1 + j = k + (j + 1) by omega]
theorem QEd : ∀ S l p, QjZ.L 0 (fgt QfS S) = some (true, l) → pickA l = some p → loopF (Qaj QjZ QfS Qhq) S = some p :=
 QaF (s := QmC) ⟨by decide, by decide⟩ (by kernel_rfl) fun x y hok p hp => by
 simp only [Qas, Qap] at hp
 exact (QIB x.1 x.2.1 x.2.2.1 x.2.2.2.1 (by simpa using hok)).trans hp
theorem QO0 : Qt2.lok QjZ := by
 repeat (first | exact trivial | exact QEd | refine ⟨?_, ?_⟩)
theorem s_f112 (b : Int) (s t : List Int) (h : QeX b s t = true) : QC1 b s t = some (.t tI (Qbh b s t), []) := by
 simp only [QeX, decide_eq_true_eq] at h
 simp only [QC1, Qbh]
 rw [Qlv ⟨h.1, h.2, Int.le_refl 0, by omega⟩, Qac]
 simp only [Int.toNat_zero, List.drop_zero, Nat.zero_add]
 cases idxN b s <;> simp [Qac, Qae]
def QBc : Ent := spec (.pr tI (.pr (.sl tI) (.pr (.sl tI) .nil))) (fun x => (QeX x.1 x.2.1 x.2.2.1)) (fun x => (.t tI (Qbh x.1 x.2.1 x.2.2.1)))
theorem QN5 : Meets Tryz.prog 112 (strip QBc) := Qaf (R := runF QjZ Qt2 QB6 false) (mG Tryz.func112 (by kernel_rfl) Tryz.ntmps112 (by kernel_rfl) QQf QO0) fun x hok => (e_f112 x.1 x.2.1 x.2.2.1).trans (s_f112 x.1 x.2.1 x.2.2.1 hok)
noncomputable def Qzv : TC := (.sq (.reg (rT Tryz.f88 0)) (.sq (.reg (rT Tryz.f88 1)) (.sq (.sq (.reg (rT Tryz.f88 2)) (.bk 0 (.sq (.sq (.reg (rT Tryz.f88 3)) (.cd (.t 8) .sk (.sq (.reg (rT Tryz.f88 4)) (.cd (.t 8) .sk (.sq (.reg (rT Tryz.f88 5)) (.cd (.t 8) .sk (.reg (rT Tryz.f88 6)))))))) (.cd (.t 8) (.sq (.reg (rT Tryz.f88 7)) .rt) (.sq (.sq (.reg (rT Tryz.f88 8)) (.cd (.t 15) .sk (.reg (rT Tryz.f88 9)))) (.cd (.t 15) (.sq (.sq (.reg (rT Tryz.f88 10)) (.cd (.t 35) (.sq (.reg (rT Tryz.f88 11)) .rt) .sk)) (.sq (.reg (rT Tryz.f88 12)) .rt)) (.sq (.reg (rT Tryz.f88 13)) (.cd (.t 38) (.sq (.reg (rT Tryz.f88 14)) .rt) (.sq (.reg (rT Tryz.f88 15)) (.cd (.t 44) (.sq (.reg (rT Tryz.f88 16)) .rt) (.sq (.reg (rT Tryz.f88 17)) (.cd (.t 50) (.sq (.reg (rT Tryz.f88 18)) .rt) (.sq (.reg (rT Tryz.f88 19)) (.cd (.t 56) (.sq (.reg (rT Tryz.f88 20)) .rt) (.sq (.sq (.reg (rT Tryz.f88 21)) (.cd (.t 62) .sk (.reg (rT Tryz.f88 22)))) (.cd (.t 62) (.sq (.reg (rT Tryz.f88 23)) .rt) .sk)))))))))))))))) (.sq (.reg (rT Tryz.f88 24)) .rt))))
def QLu : List (RV × Option Ty) := [((.t 2), some tI)]
def g_f88 : G := ⟨TYs, [], 76, EL [(111, QBd), (112, QBc), (113, QBb)], keeps, (fun _ _ => none), IL [], RL []⟩
def QgP (p0 : Keep) : Option (V × List VO) := br (cNz 2) (some (.t tI (iquo .i64 p0.2.1 2), [])) none
def QmN (p0 : Keep) : Option (V × List VO) := br (ieq p0.2.1 160) (QgP p0) (br (ieq p0.2.1 224) (QgP p0) (br (ieq p0.2.1 256) (QgP p0) (br (ieq p0.2.1 384) (QgP p0) (br (ieq p0.2.1 521) (QgP p0) (some (.t tI 0, []))))))
def Qu1 (p0 : Keep) : Option (V × List VO) := br (QeX p0.2.1 ([128, 256]) ([128, 256])) (some (.t tI (Qbh p0.2.1 ([128, 256]) ([128, 256])), [])) none
def Qu0 (p0 : Keep) : Option (V × List VO) := br (QeX p0.2.1 ([0]) ([(Qct p0.1)])) (some (.t tI (Qbh p0.2.1 ([0]) ([(Qct p0.1)])), [])) none
def Qu2 (p0 : Keep) : Option (V × List VO) := br (ieq p0.1 9) (br (QeX p0.2.1 ([44, 65, 87]) ([128, 192, 256])) (some (.t tI (Qbh p0.2.1 ([44, 65, 87]) ([128, 192, 256])), [])) none) (br (ieq p0.1 13) (br (QeX p0.2.1 ([512, 768, 1024]) ([128, 192, 256])) (some (.t tI (Qbh p0.2.1 ([512, 768, 1024]) ([128, 192, 256])), [])) none) (br (ieq p0.1 14) (br (QeX p0.2.1 ([40, 128]) ([40, 60])) (some (.t tI (Qbh p0.2.1 ([40, 128]) ([40, 60])), [])) none) (br (ieq p0.1 15) (br (QeX p0.2.1 ([112, 168]) ([80, 112])) (some (.t tI (Qbh p0.2.1 ([112, 168]) ([80, 112])), [])) none) (br (ieq p0.1 16) (br (ieq p0.1 16) (Qu1 p0) (Qu0 p0)) (br (ieq p0.1 17) (Qu1 p0) (Qu0 p0))))))
def QmO (p0 : Keep) : Option (V × List VO) := br (ieq p0.1 7) (br (ieq p0.1 7) (QmN p0) (Qu2 p0)) (br (ieq p0.1 12) (QmN p0) (Qu2 p0))
def r_f88 (p0 : Keep) : Option (V × List VO) :=
 let a1 := QdD p0.2.1
 br (ieq p0.1 5) (br (ieq p0.1 5) (some (.t tI a1, [])) (QmO p0)) (br (ieq p0.1 6) (br (ieq p0.1 6) (some (.t tI a1, [])) (QmO p0)) (br (ieq p0.1 10) (br (ieq p0.1 10) (some (.t tI a1, [])) (QmO p0)) (br (ieq p0.1 11) (some (.t tI a1, [])) (QmO p0))))
theorem e_f88 (p0 : Keep) : runF g_f88 Qzv QLu false [.t Qam p0] [] = r_f88 p0 := by kernel_rfl
theorem QMP : Qag Tryz.prog 88 := .inr ⟨by decide, _, Tryz.func88, by kernel_rfl, by kernel_rfl⟩
theorem gk_f88 : GOk Tryz.prog g_f88 := Qan _ (gA (gC QQS QN6 (gC QQR QN5 (gC QQQ QN4 gN))))
theorem lk_f88 : Qzv.lok g_f88 := by repeat (first | exact trivial | refine ⟨?_, ?_⟩)
theorem s_f88 (u : Keep) : r_f88 u = some (.t tI (strF u), []) := by
 obtain ⟨a, b, c⟩ := u
 have hcv : QmN (a, b, c) = some (.t tI (Qoo b), []) := by
  have hh : hasF [160, 224, 256, 384, 521] b = (ieq b 160 || (ieq b 224 || (ieq b 256 || (ieq b 384 || ieq b 521)))) := by
   rw [Bool.eq_iff_iff]
   simp [hasF, ieq]
  simp only [QmN, QgP, show cNz 2 = true from rfl, Qac, Qoo, hh]
  cases ieq b 160 <;> cases ieq b 224 <;> cases ieq b 256 <;> cases ieq b 384 <;> cases ieq b 521 <;> rfl
 rcases QnP a with ⟨e, hb⟩ | hc
 ·have e2 : strF (a, b, c) = Qbh b [0] [Qct a] := by
   unfold strF
   simp only
   repeat rw [if_neg (by omega)]
  rw [e2]
  simp only [r_f88, QmO, QmN, QgP, Qu2, Qu1, Qu0, e 5 (by decide), e 6 (by decide), e 7 (by decide), e 9 (by decide), e 10 (by decide), e 11 (by decide), e 12 (by decide), e 13 (by decide), e 14 (by decide), e 15 (by decide), e 16 (by decide), e 17 (by decide), Qae]
  rfl
 ·rcases hc with rfl | rfl | rfl | rfl | rfl | rfl | rfl | rfl | rfl | rfl | rfl | rfl | rfl | rfl | rfl | rfl | rfl | rfl | rfl | rfl | rfl | rfl
  all_goals first
   | rfl
   | exact hcv
def QAv : Ent := spec (.pr Qam .nil) (fun x => true) (fun x => (.t tI (strF x.1)))
theorem QMy : Meets Tryz.prog 88 (strip QAv) := Qaf (R := runF g_f88 Qzv QLu false) (mG Tryz.func88 (by kernel_rfl) Tryz.ntmps88 (by kernel_rfl) gk_f88 lk_f88) fun x _ => (e_f88 x.1).trans (s_f88 x.1)
noncomputable def QtU : TC := (.sq (.reg (rT Tryz.f120 0)) (.sq (.reg (rT Tryz.f120 1)) .rt))
def QBY : List (RV × Option Ty) := [((.t 2), some .bool)]
def Qxk : G := ⟨TYs, [], 6, EL [(88, QAv)], keeps, (fun _ _ => none), IL [], RL []⟩
def QMq (p0 : Keep) : Option (V × List VO) := some (.t .bool (igt (strF p0) 0), [])
theorem e_f120 (p0 : Keep) : runF Qxk QtU QBY false [.t Qam p0] [] = QMq p0 := by kernel_rfl
theorem QFy : Qag Tryz.prog 120 := .inr ⟨by decide, _, Tryz.func120, by kernel_rfl, by kernel_rfl⟩
theorem QP7 : GOk Tryz.prog Qxk := Qan _ (gA (gC QMP QMy gN))
theorem QOS : QtU.lok Qxk := by repeat (first | exact trivial | refine ⟨?_, ?_⟩)
theorem s_f120 (u : Keep) : QMq u = some (.t .bool (Qcv u), []) := rfl
def Quj : Ent := spec (.pr Qam .nil) (fun x => true) (fun x => (.t .bool (Qcv x.1)))
theorem QDJ : Meets Tryz.prog 120 (strip Quj) := Qaf (R := runF Qxk QtU QBY false) (mG Tryz.func120 (by kernel_rfl) Tryz.ntmps120 (by kernel_rfl) QP7 QOS) fun x _ => (e_f120 x.1).trans (s_f120 x.1)
end Go.Proofs.YtkngeegkjhipeaaGreat.K
