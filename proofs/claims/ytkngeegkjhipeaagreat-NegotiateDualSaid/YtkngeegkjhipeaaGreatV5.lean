import Derived.Test.YtkngeegkjhipeaaGreatM1
import Derived.Test.YtkngeegkjhipeaaGreatKD
set_option linter.unusedSimpArgs false
set_option linter.unusedVariables false
namespace Go.Proofs.YtkngeegkjhipeaaGreat.K
open Go.RowKit
noncomputable def QtL : TC := (.sq (.reg (rT Tryz.f148 0)) (.sq (.reg (rT Tryz.f148 1)) .rt))
def QBP : List (RV × Option Ty) := [((.c 0 true 115), some (.pr tyRow (.pr tyRow (.pr tyRow (.pr tyRow (.pr tyRow (.pr tyRow (.pr tyRow (.pr tyRow (.pr tyRow (.pr tyRow (.pr tyRow (.pr tyRow (.pr tyRow (.pr tyRow (.pr tyRow (.pr tyRow (.pr tyRow (.pr tyRow (.pr tyRow (.pr tyRow (.pr tyRow (.pr tyRow (.pr tyRow .nil))))))))))))))))))))))))]
def Qxf : G := ⟨TYs, [], 46, EL [], keeps, (fun _ _ => none), IL [], RL []⟩
def QMp  : Option (V × List VO) := some (.t (.pr tyRow (.pr tyRow (.pr tyRow (.pr tyRow (.pr tyRow (.pr tyRow (.pr tyRow (.pr tyRow (.pr tyRow (.pr tyRow (.pr tyRow (.pr tyRow (.pr tyRow (.pr tyRow (.pr tyRow (.pr tyRow (.pr tyRow (.pr tyRow (.pr tyRow (.pr tyRow (.pr tyRow (.pr tyRow (.pr tyRow .nil))))))))))))))))))))))) (((ByteArray.mk #[]), (0, (0, (([] : List Int), (([] : List Int), ()))))), (((ByteArray.mk #[109, 100, 53]), (1, (0, (([] : List Int), ([18], ()))))), (((ByteArray.mk #[115, 104, 97, 49]), (1, (0, (([] : List Int), ([60], ()))))), (((ByteArray.mk #[115, 104, 97, 50, 53, 54]), (1, (0, (([] : List Int), ([128], ()))))), (((ByteArray.mk #[115, 104, 97, 51, 56, 52]), (1, (0, (([] : List Int), ([192], ()))))), (((ByteArray.mk #[114, 115, 97]), (2, (1, (([] : List Int), (([] : List Int), ()))))), (((ByteArray.mk #[100, 115, 97]), (2, (1, (([] : List Int), (([] : List Int), ()))))), (((ByteArray.mk #[101, 99, 100, 115, 97]), (2, (2, (([] : List Int), (([] : List Int), ()))))), (((ByteArray.mk #[101, 100, 50, 53, 53, 49, 57]), (2, (0, (([] : List Int), ([128], ()))))), (((ByteArray.mk #[109, 108, 100, 115, 97]), (2, (3, ([44, 65, 87], ([128, 192, 256], ()))))), (((ByteArray.mk #[114, 115, 97, 107, 120]), (3, (1, (([] : List Int), (([] : List Int), ()))))), (((ByteArray.mk #[100, 104, 101]), (3, (1, (([] : List Int), (([] : List Int), ()))))), (((ByteArray.mk #[101, 99, 100, 104, 101]), (3, (2, (([] : List Int), (([] : List Int), ()))))), (((ByteArray.mk #[109, 108, 107, 101, 109]), (3, (3, ([512, 768, 1024], ([128, 192, 256], ()))))), (((ByteArray.mk #[114, 99, 52]), (4, (3, ([40, 128], ([40, 60], ()))))), (((ByteArray.mk #[100, 101, 115, 51]), (4, (3, ([112, 168], ([80, 112], ()))))), (((ByteArray.mk #[97, 101, 115, 99, 98, 99]), (4, (3, ([128, 256], ([128, 256], ()))))), (((ByteArray.mk #[97, 101, 115, 103, 99, 109]), (4, (3, ([128, 256], ([128, 256], ()))))), (((ByteArray.mk #[99, 104, 97, 99, 104, 97]), (4, (0, (([] : List Int), ([256], ()))))), (((ByteArray.mk #[104, 109, 97, 99, 109, 100, 53]), (5, (0, (([] : List Int), ([64], ()))))), (((ByteArray.mk #[104, 109, 97, 99, 115, 104, 97, 49]), (5, (0, (([] : List Int), ([80], ()))))), (((ByteArray.mk #[104, 109, 97, 99, 115, 104, 97, 50, 53, 54]), (5, (0, (([] : List Int), ([128], ()))))), (((ByteArray.mk #[97, 101, 97, 100]), (5, (0, (([] : List Int), ([256], ()))))), ()))))))))))))))))))))))), [])
theorem e_f148  : runF Qxf QtL QBP false [] [] = QMp  := by kernel_rfl
theorem QQC : Qag Tryz.prog 148 := .inr ⟨by decide, _, Tryz.func148, by kernel_rfl, by kernel_rfl⟩
theorem QPY : GOk Tryz.prog Qxf := Qan _ (fun p hp => by cases hp)
theorem QOJ : QtL.lok Qxf := by repeat (first | exact trivial | refine ⟨?_, ?_⟩)
def rowsF : Ty.T (.pr tyRow (.pr tyRow (.pr tyRow (.pr tyRow (.pr tyRow (.pr tyRow (.pr tyRow (.pr tyRow (.pr tyRow (.pr tyRow (.pr tyRow (.pr tyRow (.pr tyRow (.pr tyRow (.pr tyRow (.pr tyRow (.pr tyRow (.pr tyRow (.pr tyRow (.pr tyRow (.pr tyRow (.pr tyRow (.pr tyRow .nil))))))))))))))))))))))) := (((ByteArray.mk #[]), (0, (0, (([] : List Int), (([] : List Int), ()))))), (((ByteArray.mk #[109, 100, 53]), (1, (0, (([] : List Int), ([18], ()))))), (((ByteArray.mk #[115, 104, 97, 49]), (1, (0, (([] : List Int), ([60], ()))))), (((ByteArray.mk #[115, 104, 97, 50, 53, 54]), (1, (0, (([] : List Int), ([128], ()))))), (((ByteArray.mk #[115, 104, 97, 51, 56, 52]), (1, (0, (([] : List Int), ([192], ()))))), (((ByteArray.mk #[114, 115, 97]), (2, (1, (([] : List Int), (([] : List Int), ()))))), (((ByteArray.mk #[100, 115, 97]), (2, (1, (([] : List Int), (([] : List Int), ()))))), (((ByteArray.mk #[101, 99, 100, 115, 97]), (2, (2, (([] : List Int), (([] : List Int), ()))))), (((ByteArray.mk #[101, 100, 50, 53, 53, 49, 57]), (2, (0, (([] : List Int), ([128], ()))))), (((ByteArray.mk #[109, 108, 100, 115, 97]), (2, (3, ([44, 65, 87], ([128, 192, 256], ()))))), (((ByteArray.mk #[114, 115, 97, 107, 120]), (3, (1, (([] : List Int), (([] : List Int), ()))))), (((ByteArray.mk #[100, 104, 101]), (3, (1, (([] : List Int), (([] : List Int), ()))))), (((ByteArray.mk #[101, 99, 100, 104, 101]), (3, (2, (([] : List Int), (([] : List Int), ()))))), (((ByteArray.mk #[109, 108, 107, 101, 109]), (3, (3, ([512, 768, 1024], ([128, 192, 256], ()))))), (((ByteArray.mk #[114, 99, 52]), (4, (3, ([40, 128], ([40, 60], ()))))), (((ByteArray.mk #[100, 101, 115, 51]), (4, (3, ([112, 168], ([80, 112], ()))))), (((ByteArray.mk #[97, 101, 115, 99, 98, 99]), (4, (3, ([128, 256], ([128, 256], ()))))), (((ByteArray.mk #[97, 101, 115, 103, 99, 109]), (4, (3, ([128, 256], ([128, 256], ()))))), (((ByteArray.mk #[99, 104, 97, 99, 104, 97]), (4, (0, (([] : List Int), ([256], ()))))), (((ByteArray.mk #[104, 109, 97, 99, 109, 100, 53]), (5, (0, (([] : List Int), ([64], ()))))), (((ByteArray.mk #[104, 109, 97, 99, 115, 104, 97, 49]), (5, (0, (([] : List Int), ([80], ()))))), (((ByteArray.mk #[104, 109, 97, 99, 115, 104, 97, 50, 53, 54]), (5, (0, (([] : List Int), ([128], ()))))), (((ByteArray.mk #[97, 101, 97, 100]), (5, (0, (([] : List Int), ([256], ()))))), ())))))))))))))))))))))))
theorem s_f148 : QMp = some (.t (tyR tyRow 23) rowsF, []) := rfl
def QAW : Ent := spec .nil (fun x => true) (fun x => (.t (.pr tyRow (.pr tyRow (.pr tyRow (.pr tyRow (.pr tyRow (.pr tyRow (.pr tyRow (.pr tyRow (.pr tyRow (.pr tyRow (.pr tyRow (.pr tyRow (.pr tyRow (.pr tyRow (.pr tyRow (.pr tyRow (.pr tyRow (.pr tyRow (.pr tyRow (.pr tyRow (.pr tyRow (.pr tyRow (.pr tyRow .nil))))))))))))))))))))))) rowsF))
theorem QNQ : Meets Tryz.prog 148 (strip QAW) := Qaf (R := runF Qxf QtL QBP false) (mG Tryz.func148 (by kernel_rfl) Tryz.ntmps148 (by kernel_rfl) QPY QOJ) fun x _ => (e_f148 ).trans (s_f148 )
def noRow : Row := ((ByteArray.mk #[]), (0, (0, (([] : List Int), (([] : List Int), ())))))
def ofF (a : Int) : Row × Bool := if a < 1 ∨ 22 < a then (noRow, false) else (Qbd tyRow 23 rowsF a, true)
noncomputable def QtR : TC := (.sq (.reg (rT Tryz.f135 0)) (.sq (.sq (.reg (rT Tryz.f135 1)) (.cd (.t 9) (.sq (.reg (rT Tryz.f135 2)) .rt) .sk)) (.sq (.reg (rT Tryz.f135 3)) .rt)))
def QBV : List (RV × Option Ty) := [((.c 2 true 5), some tyRow), ((.t 3), some .bool)]
def Qxi : G := ⟨TYs, [], 14, EL [(148, QAW), (1002738, Qff)], keeps, (fun _ _ => none), IL [], RL []⟩
def QCT (p0 : Int) : Option (V × List VO) := br (ilt p0 1) (some (.tu [(.t tyRow ((ByteArray.mk #[]), (0, (0, (([] : List Int), (([] : List Int), ())))))), (.t .bool false)], [])) (br (igt p0 22) (some (.tu [(.t tyRow ((ByteArray.mk #[]), (0, (0, (([] : List Int), (([] : List Int), ())))))), (.t .bool false)], [])) (br (arrOk tyRow 23 rowsF p0) (some (.tu [(.t tyRow (Qbd tyRow 23 rowsF p0)), (.t .bool true)], [])) none))
theorem e_f135 (p0 : Int) : runF Qxi QtR QBV false [.t tI p0] [] = QCT p0 := by kernel_rfl
theorem QFx : Qag Tryz.prog 135 := .inr ⟨by decide, _, Tryz.func135, by kernel_rfl, by kernel_rfl⟩
theorem QP4 : GOk Tryz.prog Qxi := Qan _ (gA (gC QQC QNQ (gC QnA Qm0 gN)))
theorem QOP : QtR.lok Qxi := by repeat (first | exact trivial | refine ⟨?_, ?_⟩)
theorem s_f135 (a : Int) : QCT a = some (.tu [.t tyRow (ofF a).1, .t .bool (ofF a).2], []) := by
 simp only [QCT]
 refine QaP (fun h1 => ?_) (fun h1 => QaP (fun h2 => ?_) (fun h2 => ?_))
 ·have h1 : a < 1 := by simpa [ilt] using h1
  simp [ofF, h1, noRow]
 ·have h2 : 22 < a := by simpa [igt] using h2
  simp [ofF, h2, noRow]
 ·have h1 : ¬ a < 1 := by simpa [ilt] using h1
  have h2 : ¬ 22 < a := by simpa [igt] using h2
  have h3 : arrOk tyRow 23 rowsF a = true := by simp [arrOk]; omega
  rw [h3, Qac]
  simp [ofF, h1, h2]
def Qui : Ent := spec (.pr tI .nil) (fun x => true) (fun x => (.tu [(.t tyRow ((ofF x.1).1)), (.t .bool ((ofF x.1).2))]))
theorem QDI : Meets Tryz.prog 135 (strip Qui) := Qaf (R := runF Qxi QtR QBV false) (mG Tryz.func135 (by kernel_rfl) Tryz.ntmps135 (by kernel_rfl) QP4 QOP) fun x _ => (e_f135 x.1).trans (s_f135 x.1)
def modL : List (Int × Int) := [(1024, 56), (2048, 80), (3072, 112), (7680, 128), (15360, 192)]
def modA : (Keep × (Keep × (Keep × (Keep × (Keep × Unit))))) := ((1024, (56, ())), ((2048, (80, ())), ((3072, (112, ())), ((7680, (128, ())), ((15360, (192, ())), ())))))
def modZ (b i : Int) : Option Int := ((modL.drop i.toNat).find? fun x => ilt b x.1).map (·.2)
def modF (b : Int) : Int := (modZ b 0).getD 256
def QfL : Fg := ⟨[(0, some tI), (10, some (.pr Qam (.pr Qam (.pr Qam (.pr Qam (.pr Qam .nil)))))), (11, some tI)], []⟩
noncomputable def Qhj : TC := (.sq (.reg (rT Tryz.f147 2)) (.sq (.cd (.t 12) .sk (.fg ⟨[], []⟩ (.ex 0))) (.sq (.bk 1 (.sq (.reg (rT Tryz.f147 3)) (.sq (.reg (rT Tryz.f147 4)) (.cd (.t 17) (.sq (.reg (rT Tryz.f147 5)) (.fg ⟨[(2, some tI)], []⟩ .rt)) .sk)))) (.reg (rT Tryz.f147 6)))))
noncomputable def QtM : TC := (.sq (.reg (rT Tryz.f147 0)) (.sq (.sq (.reg (rT Tryz.f147 1)) (.bk 0 (.lp 0 QfL Qhj))) (.sq (.reg (rT Tryz.f147 7)) .rt)))
def QBQ : List (RV × Option Ty) := [((.t 2), some tI)]
abbrev Qmv : Sh := ⟨[(0, .ty tI), (10, .ty (.pr Qam (.pr Qam (.pr Qam (.pr Qam (.pr Qam .nil)))))), (11, .ty tI)], []⟩
def Ql0 (x0 : Int) (x10 : (Keep × (Keep × (Keep × (Keep × (Keep × Unit)))))) (x11 : Int) : VS := Qmv.st (x0, x10, x11, ()) ()
abbrev Qpk : Sh := ⟨[(2, .ty tI)], []⟩
def QcD (x2 : Int) : VS := Qpk.st (x2, ()) ()
abbrev QrB : Sh := ⟨[], []⟩
def Qdp  : VS := QrB.st () ()
def QKp : VS → Option (Bool × List (Bool × Exit × VS)) := mkL Qmv (fun x y => (x.2.1 == modA && decide (0 ≤ x.2.2.1 ∧ x.2.2.1 ≤ 5))) (fun x y => [(((modZ x.1 x.2.2.1).isSome), .ret, QcD ((modZ x.1 x.2.2.1).getD 0)), (true, .exit 0, Qdp)])
def QjS : G := ⟨TYs, [], 21, EL [(1002994, Qfe)], keeps, (Ls [QKp]), IL [], RL []⟩
def Qx6 (x0 : Int) (x10 : (Keep × (Keep × (Keep × (Keep × (Keep × Unit)))))) (x11 : Int) : Option (Exit × VS) :=
 let a1 := Qbd Qam 5 x10 x11
 br (ilt x11 5) (br (arrOk Qam 5 x10 x11) (br (ilt x0 (a1.1)) (some (.ret, QcD ((a1.2).1))) (some (.normal, Ql0 x0 x10 (iadd .i64 x11 1)))) none) (some (.exit 0, Qdp))
noncomputable def QhR (x0 : Int) (x10 : (Keep × (Keep × (Keep × (Keep × (Keep × Unit)))))) (x11 : Int) : Option (Exit × VS) := loopF (Qaj QjS QfL Qhj) (Ql0 x0 x10 x11)
noncomputable def Qqa (x0 : Int) (x10 : (Keep × (Keep × (Keep × (Keep × (Keep × Unit)))))) (x11 : Int) : Option (Exit × VS) :=
 let a1 := Qbd Qam 5 x10 x11
 br (ilt x11 5) (br (arrOk Qam 5 x10 x11) (br (ilt x0 (a1.1)) (some (.ret, QcD ((a1.2).1))) (QhR x0 x10 (iadd .i64 x11 1))) none) (some (.exit 0, Qdp))
def QcU (x0 : Int) (x10 : (Keep × (Keep × (Keep × (Keep × (Keep × Unit)))))) (x11 : Int) : Option (Exit × VS) := br ((modZ x0 x11).isSome) (some (.ret, QcD ((modZ x0 x11).getD 0))) <| some (.exit 0, Qdp)
theorem QGj (x0 : Int) (x10 : (Keep × (Keep × (Keep × (Keep × (Keep × Unit)))))) (x11 : Int) : Qaj QjS QfL Qhj (Ql0 x0 x10 x11) = Qx6 x0 x10 x11 := by kernel_rfl
theorem Qsw (x0 : Int) (x10 : (Keep × (Keep × (Keep × (Keep × (Keep × Unit)))))) (x11 : Int) : QhR x0 x10 x11 = Qqa x0 x10 x11 := (Qaq _ _).trans (by
 rw [QGj]
 simp only [Qx6, Qqa, QaE, nxt_n, nxt_r, nxt_e, nxt_0]
 rfl)
def QCO (p0 : Int) : Option (V × List VO) := br (((1024, (56, ())), ((2048, (80, ())), ((3072, (112, ())), ((7680, (128, ())), ((15360, (192, ())), ()))))) == modA && decide (0 ≤ (0 : Int) ∧ (0 : Int) ≤ 5)) (br ((modZ p0 (0 : Int)).isSome) (some (.t tI ((modZ p0 (0 : Int)).getD 0), [])) (some (.t tI 256, []))) none
theorem e_f147 (p0 : Int) : runF QjS QtM QBQ false [.t tI p0] [] = QCO p0 := by kernel_rfl
theorem QQD : Qag Tryz.prog 147 := .inr ⟨by decide, _, Tryz.func147, by kernel_rfl, by kernel_rfl⟩
theorem QPZ : GOk Tryz.prog QjS := Qan _ (gA (gC Qnz QmZ gN))
theorem QIu (x0 : Int) (x10 : (Keep × (Keep × (Keep × (Keep × (Keep × Unit)))))) (x11 : Int) (h : (x10 == modA && decide (0 ≤ x11 ∧ x11 ≤ 5)) = true) : QhR x0 x10 x11 = QcU x0 x10 x11 := by
 simp only [Bool.and_eq_true, decide_eq_true_eq, beq_iff_eq] at h
 obtain ⟨rfl, h1, h2⟩ := h
 obtain ⟨k, rfl⟩ := Int.eq_ofNat_of_zero_le h1
 refine QKz 5 (fun k => QhR x0 modA (k : Int) = QcU x0 modA (k : Int)) ?_ ?_ k (by omega)
 ·rw [Qsw]
  rfl
 ·intro k hk ih
  rw [Qsw]
  simp only [Qqa, add1 (show k < 4611686018427387904 by omega), ih]
  have e1 : ilt (k : Int) 5 = true := by simp only [ilt, decide_eq_true_eq]; omega
  have e2 : arrOk Qam 5 modA (k : Int) = true := by simp only [arrOk, decide_eq_true_eq]; omega
  simp only [e1, e2, Qac]
  have hk5 : k = 0 ∨ k = 1 ∨ k = 2 ∨ k = 3 ∨ k = 4 := by omega
  rcases hk5 with rfl | rfl | rfl | rfl | rfl
  ·show br (ilt x0 1024) _ _ = _
   cases h : ilt x0 1024 <;> simp [QcU, modZ, modL, h, Qac, Qae] <;> rfl
  ·show br (ilt x0 2048) _ _ = _
   cases h : ilt x0 2048 <;> simp [QcU, modZ, modL, h, Qac, Qae] <;> rfl
  ·show br (ilt x0 3072) _ _ = _
   cases h : ilt x0 3072 <;> simp [QcU, modZ, modL, h, Qac, Qae] <;> rfl
  ·show br (ilt x0 7680) _ _ = _
   cases h : ilt x0 7680 <;> simp [QcU, modZ, modL, h, Qac, Qae] <;> rfl
  ·show br (ilt x0 15360) _ _ = _
   cases h : ilt x0 15360 <;> simp [QcU, modZ, modL, h, Qac, Qae] <;> rfl
theorem QD6 : ∀ S l p, QjS.L 0 (fgt QfL S) = some (true, l) → pickA l = some p → loopF (Qaj QjS QfL Qhj) S = some p :=
 QaF (s := Qmv) ⟨by decide, by decide⟩ (by kernel_rfl) fun x y hok p hp => by
 simp only [Qas, Qap] at hp
 exact (QIu x.1 x.2.1 x.2.2.1 (by simpa using hok)).trans hp
theorem QOK : QtM.lok QjS := by
 repeat (first | exact trivial | exact QD6 | refine ⟨?_, ?_⟩)
theorem s_f147 (b : Int) : QCO b = some (.t tI (modF b), []) := by
 simp only [QCO]
 show br true (br (modZ b 0).isSome (some (V.t tI ((modZ b 0).getD 0), [])) _) _ = _
 rw [Qac, modF]
 cases modZ b 0 <;> rfl
def QAX : Ent := spec (.pr tI .nil) (fun x => true) (fun x => (.t tI (modF x.1)))
theorem QNR : Meets Tryz.prog 147 (strip QAX) := Qaf (R := runF QjS QtM QBQ false) (mG Tryz.func147 (by kernel_rfl) Tryz.ntmps147 (by kernel_rfl) QPZ QOK) fun x _ => (e_f147 x.1).trans (s_f147 x.1)
def idxN (v : Int) : List Int → Option Nat
 | [] => none
 | a :: l => if a == v then some 0 else (idxN v l).map (· + 1)
theorem QEI {v : Int} : ∀ {l : List Int} {k : Nat}, idxN v l = some k → k < l.length
 | [], _, h => by cases h
 | a :: l, k, h => by
  unfold idxN at h
  split at h
  ·injection h with h; subst h; simp
  ·obtain ⟨j, h1, h2⟩ := Option.map_eq_some_iff.1 h
   have := QEI h1
   simp only [List.length_cons]; omega
theorem Qnn {v : Int} : ∀ {l : List Int}, idxN v l = none ↔ v ∉ l
 | [] => by simp [idxN]
 | a :: l => by
  have ih := Qnn (v := v) (l := l)
  unfold idxN
  by_cases h : a = v
  ·simp [h]
  ·have h' : ¬ v = a := fun e => h e.symm
   simp [h, h', ih]
def idxF (l : List Int) (v : Int) : Int := match idxN v l with | some k => (k : Int) | none => -1
def QaY (l : List Int) (_v : Int) : Bool := decide (l.length ≤ 100000)
def Qiq : Fg := ⟨[(0, some (.sl tI)), (1, some tI), (7, some tI), (8, some tI)], []⟩
noncomputable def Qj8 : TC := (.sq (.reg (rT Tryz.f89 2)) (.sq (.cd (.t 9) .sk (.fg ⟨[], []⟩ (.ex 0))) (.sq (.bk 1 (.sq (.reg (rT Tryz.f89 3)) (.sq (.reg (rT Tryz.f89 4)) (.cd (.t 16) (.sq (.reg (rT Tryz.f89 5)) (.fg ⟨[(4, some tI)], []⟩ .rt)) .sk)))) (.reg (rT Tryz.f89 6)))))
noncomputable def Qzu : TC := (.sq (.reg (rT Tryz.f89 0)) (.sq (.sq (.reg (rT Tryz.f89 1)) (.bk 0 (.lp 0 Qiq Qj8))) (.sq (.reg (rT Tryz.f89 7)) .rt)))
def QLt : List (RV × Option Ty) := [((.t 4), some tI)]
abbrev Qo1 : Sh := ⟨[(0, .ty (.sl tI)), (1, .ty tI), (7, .ty tI), (8, .ty tI)], []⟩
def QoF (x0 : List Int) (x1 x7 x8 : Int) : VS := Qo1.st (x0, x1, x7, x8, ()) ()
abbrev Qrf : Sh := ⟨[(4, .ty tI)], []⟩
def Qc7 (x4 : Int) : VS := Qrf.st (x4, ()) ()
abbrev Qus : Sh := ⟨[], []⟩
def Qee  : VS := Qus.st () ()
def QRg : VS → Option (Bool × List (Bool × Exit × VS)) := mkL Qo1 (fun x y => (rngOk x.1 x.2.2.1 x.2.2.2.1)) (fun x y => [(((idxN x.2.1 (x.1.drop x.2.2.2.1.toNat)).isSome), .ret, Qc7 (x.2.2.2.1 + ((idxN x.2.1 (x.1.drop x.2.2.2.1.toNat)).getD 0 : Nat))), (true, .exit 0, Qee)])
def g_f89 : G := ⟨TYs, [], 19, EL [], keeps, (Ls [QRg]), IL [], RL []⟩
def QGu (x0 : List Int) (x1 x7 x8 : Int) : Option (Exit × VS) := br (ilt x8 x7) (br (cIx x0 x8) (br (ieq x1 (lgt tI x0 (Int.toNat x8))) (some (.ret, Qc7 x8)) (some (.normal, QoF x0 x1 x7 (iadd .i64 x8 1)))) none) (some (.exit 0, Qee))
noncomputable def QkS (x0 : List Int) (x1 x7 x8 : Int) : Option (Exit × VS) := loopF (Qaj g_f89 Qiq Qj8) (QoF x0 x1 x7 x8)
noncomputable def QpU (x0 : List Int) (x1 x7 x8 : Int) : Option (Exit × VS) := br (ilt x8 x7) (br (cIx x0 x8) (br (ieq x1 (lgt tI x0 (Int.toNat x8))) (some (.ret, Qc7 x8)) (QkS x0 x1 x7 (iadd .i64 x8 1))) none) (some (.exit 0, Qee))
def Qk6 (x0 : List Int) (x1 x7 x8 : Int) : Option (Exit × VS) :=
 let a1 := idxN x1 (x0.drop x8.toNat)
 br (a1.isSome) (some (.ret, Qc7 (x8 + (a1.getD 0 : Nat)))) <| some (.exit 0, Qee)
theorem QJP (x0 : List Int) (x1 x7 x8 : Int) : Qaj g_f89 Qiq Qj8 (QoF x0 x1 x7 x8) = QGu x0 x1 x7 x8 := by kernel_rfl
theorem QwA (x0 : List Int) (x1 x7 x8 : Int) : QkS x0 x1 x7 x8 = QpU x0 x1 x7 x8 := (Qaq _ _).trans (by
 rw [QJP]
 simp only [QGu, QpU, QaE, nxt_n, nxt_r, nxt_e, nxt_0]
 rfl)
def r_f89 (p0 : List Int) (p1 : Int) : Option (V × List VO) :=
 let a1 := (idxN p1 (p0.drop (0 : Int).toNat))
 br (rngOk p0 (llen p0) (0 : Int)) (br (a1.isSome) (some (.t tI ((0 : Int) + (a1.getD 0 : Nat)), [])) (some (.t tI (-1), []))) none
theorem e_f89 (p0 : List Int) (p1 : Int) : runF g_f89 Qzu QLt false [.t (.sl tI) p0, .t tI p1] [] = r_f89 p0 p1 := by kernel_rfl
theorem QMO : Qag Tryz.prog 89 := .inr ⟨by decide, _, Tryz.func89, by kernel_rfl, by kernel_rfl⟩
theorem gk_f89 : GOk Tryz.prog g_f89 := Qan _ (fun p hp => by cases hp)
theorem QPb (x0 : List Int) (x1 x7 x8 : Int) (h : (rngOk x0 x7 x8) = true) : QkS x0 x1 x7 x8 = Qk6 x0 x1 x7 x8 := by
 obtain ⟨rfl, h3, k, rfl, hk⟩ := rng_k h
 clear h
 refine Qav x0 (fun k => QkS x0 x1 (x0.length : Int) (k : Int) = Qk6 x0 x1 (x0.length : Int) (k : Int)) ?_ ?_ k hk
 ·rw [QwA]
  simp [QpU, Qk6, Qaz, Qae, idxN]
 ·intro k hk ih
  rw [QwA]
  simp only [QpU, Qaz, Qay, hk, decide_true, Qac, Int.toNat_natCast, add1 (show k < 4611686018427387904 by omega), ih, QaG (y := tI) hk]
  simp only [Qk6, Int.toNat_natCast, List.drop_eq_getElem_cons hk, idxN, ieq]
  have hc : (x1 == x0[k]) = (x0[k] == x1) := Bool.beq_comm
  cases h : x0[k] == x1 with
  | true => simp [h, hc, Qac]
  | false =>
   simp only [h, hc, Qae, Bool.false_eq_true, if_false]
   cases hq : idxN x1 (x0.drop (k + 1)) with
   | none => rfl
   | some j =>
    simp only [Option.map_some, Option.isSome_some, Option.getD_some, Qac]
    congr 3
    omega
theorem QHU : ∀ S l p, g_f89.L 0 (fgt Qiq S) = some (true, l) → pickA l = some p → loopF (Qaj g_f89 Qiq Qj8) S = some p :=
 QaF (s := Qo1) ⟨by decide, by decide⟩ (by kernel_rfl) fun x y hok p hp => by
 simp only [Qas, Qap] at hp
 exact (QPb x.1 x.2.1 x.2.2.1 x.2.2.2.1 (by simpa using hok)).trans hp
theorem lk_f89 : Qzu.lok g_f89 := by
 repeat (first | exact trivial | exact QHU | refine ⟨?_, ?_⟩)
theorem s_f89 (l : List Int) (v : Int) (h : QaY l v = true) : r_f89 l v = some (.t tI (idxF l v), []) := by
 simp only [QaY, decide_eq_true_eq] at h
 simp only [r_f89, rng_0 h, Qac, Int.toNat_zero, List.drop_zero, idxF]
 cases idxN v l <;> simp [Qac, Qae]
def QAu : Ent := spec (.pr (.sl tI) (.pr tI .nil)) (fun x => (QaY x.1 x.2.1)) (fun x => (.t tI (idxF x.1 x.2.1)))
theorem QMx : Meets Tryz.prog 89 (strip QAu) := Qaf (R := runF g_f89 Qzu QLt false) (mG Tryz.func89 (by kernel_rfl) Tryz.ntmps89 (by kernel_rfl) gk_f89 lk_f89) fun x hok => (e_f89 x.1 x.2.1).trans (s_f89 x.1 x.2.1 hok)
def hasF (l : List Int) (v : Int) : Bool := l.contains v
noncomputable def QzO : TC := (.sq (.reg (rT Tryz.f59 0)) (.sq (.reg (rT Tryz.f59 1)) .rt))
def QLN : List (RV × Option Ty) := [((.t 4), some .bool)]
def g_f59 : G := ⟨TYs, [], 9, EL [(89, QAu)], keeps, (fun _ _ => none), IL [], RL []⟩
def r_f59 (p0 : List Int) (p1 : Int) : Option (V × List VO) := br (QaY p0 p1) (some (.t .bool (ige (idxF p0 p1) 0), [])) none
theorem e_f59 (p0 : List Int) (p1 : Int) : runF g_f59 QzO QLN false [.t (.sl tI) p0, .t tI p1] [] = r_f59 p0 p1 := by kernel_rfl
theorem Qs1 : Qag Tryz.prog 59 := .inr ⟨by decide, _, Tryz.func59, by kernel_rfl, by kernel_rfl⟩
theorem gk_f59 : GOk Tryz.prog g_f59 := Qan _ (gA (gC QMO QMx gN))
theorem lk_f59 : QzO.lok g_f59 := by repeat (first | exact trivial | refine ⟨?_, ?_⟩)
theorem s_f59 (l : List Int) (v : Int) (h : QaY l v = true) : r_f59 l v = some (.t .bool (hasF l v), []) := by
 simp only [r_f59, h, Qac]
 congr 3
 unfold idxF hasF
 cases hq : idxN v l with
 | none =>
  have := Qnn.1 hq
  simp [ige, this]
 | some k =>
  have : v ∈ l := Classical.byContradiction fun hn => by rw [Qnn.2 hn] at hq; cases hq
  simp only [ige, List.contains_iff_mem.2 this, decide_eq_true_eq]
  omega
def Qoa : Ent := spec (.pr (.sl tI) (.pr tI .nil)) (fun x => (QaY x.1 x.2.1)) (fun x => (.t .bool (hasF x.1 x.2.1)))
theorem Qsf : Meets Tryz.prog 59 (strip Qoa) := Qaf (R := runF g_f59 QzO QLN false) (mG Tryz.func59 (by kernel_rfl) Tryz.ntmps59 (by kernel_rfl) gk_f59 lk_f59) fun x hok => (e_f59 x.1 x.2.1).trans (s_f59 x.1 x.2.1 hok)
end Go.Proofs.YtkngeegkjhipeaaGreat.K
