import Derived.Test.YtckcgijklnloiaaGreatQ4
import Derived.Test.YtckcgijklnloiaaGreatQ5
set_option linter.unusedSimpArgs false
set_option linter.unusedVariables false
namespace Go.Proofs.YtckcgijklnloiaaGreat.K
open Go.RowKit
noncomputable section
def kindF (a : Int) : Int := (ofF a).1.2.1
noncomputable def QyJ : TC := (.sq (.reg (rT Tryz.f155 0)) (.sq (.reg (rT Tryz.f155 1)) (.sq (.reg (rT Tryz.f155 2)) .rt)))
def QIM : List (RV × Option Ty) := [((.t 2), some tI)]
def QC0 : G := ⟨TYs, [], 12, EL [(180, Qzm)], keeps, (fun _ _ => none), IL [], RL []⟩
def QUr (p0 : Int) : Option (V × List VO) := some (.t tI ((((ofF p0).1).2).1), [])
theorem e_f155 (p0 : Int) : runF QC0 QyJ QIM false [.t tI p0] [] = QUr p0 := by kernel_rfl
theorem QA5 : Qai Tryz.prog 155 := .inr ⟨by decide, _, Tryz.func155, by kernel_rfl, by kernel_rfl⟩
theorem QZa : GOk Tryz.prog QC0 := Qal _ (gA (gC QM4 QK8 gN))
theorem QXp : QyJ.lok QC0 := by repeat (first | exact trivial | refine ⟨?_, ?_⟩)
theorem s_f155 (a : Int) : QUr a = some (.t tI (kindF a), []) := rfl
def Qta : Ent := spec (.pr tI .nil) (fun x => true) (fun x => (.t tI (kindF x.1)))
theorem QAd : Meets Tryz.prog 155 (strip Qta) := Qah (R := runF QC0 QyJ QIM false) (mG Tryz.func155 (by kernel_rfl) Tryz.ntmps155 (by kernel_rfl) QZa QXp) fun x _ => (e_f155 x.1).trans (s_f155 x.1)
noncomputable def Qza : TC := (.sq (.reg (rT Tryz.f110 0)) (.sq (.reg (rT Tryz.f110 1)) .rt))
def QJd : List (RV × Option Ty) := [((.t 0), some (.sl Qdd))]
def QDg : G := ⟨TYs, [], 25, EL [], keeps, (fun _ _ => none), IL [], RL []⟩
def QUz  : Option (V × List VO) := some (.t (.sl Qdd) ([((ByteArray.mk #[]), (0, ())), ((ByteArray.mk #[109, 100, 53]), (1, ())), ((ByteArray.mk #[115, 104, 97, 49]), (1, ())), ((ByteArray.mk #[115, 104, 97, 50, 53, 54]), (1, ())), ((ByteArray.mk #[115, 104, 97, 51, 56, 52]), (1, ())), ((ByteArray.mk #[114, 115, 97]), (2, ())), ((ByteArray.mk #[100, 115, 97]), (2, ())), ((ByteArray.mk #[101, 99, 100, 115, 97]), (2, ())), ((ByteArray.mk #[101, 100, 50, 53, 53, 49, 57]), (2, ())), ((ByteArray.mk #[109, 108, 100, 115, 97]), (2, ())), ((ByteArray.mk #[114, 115, 97, 107, 120]), (3, ())), ((ByteArray.mk #[100, 104, 101]), (3, ())), ((ByteArray.mk #[101, 99, 100, 104, 101]), (3, ())), ((ByteArray.mk #[109, 108, 107, 101, 109]), (3, ())), ((ByteArray.mk #[114, 99, 52]), (4, ())), ((ByteArray.mk #[100, 101, 115, 51]), (4, ())), ((ByteArray.mk #[97, 101, 115, 99, 98, 99]), (4, ())), ((ByteArray.mk #[97, 101, 115, 103, 99, 109]), (4, ())), ((ByteArray.mk #[99, 104, 97, 99, 104, 97]), (4, ())), ((ByteArray.mk #[104, 109, 97, 99, 109, 100, 53]), (5, ())), ((ByteArray.mk #[104, 109, 97, 99, 115, 104, 97, 49]), (5, ())), ((ByteArray.mk #[104, 109, 97, 99, 115, 104, 97, 50, 53, 54]), (5, ())), ((ByteArray.mk #[97, 101, 97, 100]), (5, ()))]), [])
theorem e_f110  : runF QDg Qza QJd false [] [] = QUz  := by kernel_rfl
theorem Q0A : Qai Tryz.prog 110 := .inr ⟨by decide, _, Tryz.func110, by kernel_rfl, by kernel_rfl⟩
theorem QZB : GOk Tryz.prog QDg := Qal _ (fun p hp => by cases hp)
theorem QXQ : Qza.lok QDg := by repeat (first | exact trivial | refine ⟨?_, ?_⟩)
def QBM : Ty.T (.sl Qdd) := ([((ByteArray.mk #[]), (0, ())), ((ByteArray.mk #[109, 100, 53]), (1, ())), ((ByteArray.mk #[115, 104, 97, 49]), (1, ())), ((ByteArray.mk #[115, 104, 97, 50, 53, 54]), (1, ())), ((ByteArray.mk #[115, 104, 97, 51, 56, 52]), (1, ())), ((ByteArray.mk #[114, 115, 97]), (2, ())), ((ByteArray.mk #[100, 115, 97]), (2, ())), ((ByteArray.mk #[101, 99, 100, 115, 97]), (2, ())), ((ByteArray.mk #[101, 100, 50, 53, 53, 49, 57]), (2, ())), ((ByteArray.mk #[109, 108, 100, 115, 97]), (2, ())), ((ByteArray.mk #[114, 115, 97, 107, 120]), (3, ())), ((ByteArray.mk #[100, 104, 101]), (3, ())), ((ByteArray.mk #[101, 99, 100, 104, 101]), (3, ())), ((ByteArray.mk #[109, 108, 107, 101, 109]), (3, ())), ((ByteArray.mk #[114, 99, 52]), (4, ())), ((ByteArray.mk #[100, 101, 115, 51]), (4, ())), ((ByteArray.mk #[97, 101, 115, 99, 98, 99]), (4, ())), ((ByteArray.mk #[97, 101, 115, 103, 99, 109]), (4, ())), ((ByteArray.mk #[99, 104, 97, 99, 104, 97]), (4, ())), ((ByteArray.mk #[104, 109, 97, 99, 109, 100, 53]), (5, ())), ((ByteArray.mk #[104, 109, 97, 99, 115, 104, 97, 49]), (5, ())), ((ByteArray.mk #[104, 109, 97, 99, 115, 104, 97, 50, 53, 54]), (5, ())), ((ByteArray.mk #[97, 101, 97, 100]), (5, ()))])
theorem s_f110 : QUz = some (.t (.sl Qdd) QBM, []) := rfl
def QHI : Ent := spec .nil (fun x => true) (fun x => (.t (.sl Qdd) QBM))
theorem QWu : Meets Tryz.prog 110 (strip QHI) := Qah (R := runF QDg Qza QJd false) (mG Tryz.func110 (by kernel_rfl) Tryz.ntmps110 (by kernel_rfl) QZB QXQ) fun x _ => (e_f110 ).trans (s_f110 )
noncomputable def QFZ : TC := (.sq (.reg (rT Tryz.f70 0)) (.sq (.sq (.reg (rT Tryz.f70 1)) (.cd (.t 8) (.sq (.reg (rT Tryz.f70 2)) .rt) .sk)) (.sq (.reg (rT Tryz.f70 3)) .rt)))
def QTL : List (RV × Option Ty) := [((.t 2), some tI)]
def g_f70 : G := ⟨TYs, [], 14, EL [(110, QHI)], keeps, (fun _ _ => none), IL [], RL []⟩
def r_f70 (p0 : Int) : Option (V × List VO) := br (ilt p0 1) (some (.t tI 0, [])) (br (igt p0 22) (some (.t tI 0, [])) (br (cIx QBM p0) (some (.t tI (((lgt Qdd QBM (Int.toNat p0)).2).1), [])) none))
theorem e_f70 (p0 : Int) : runF g_f70 QFZ QTL false [.t tI p0] [] = r_f70 p0 := by kernel_rfl
theorem QMN : Qai Tryz.prog 70 := .inr ⟨by decide, _, Tryz.func70, by kernel_rfl, by kernel_rfl⟩
theorem gk_f70 : GOk Tryz.prog g_f70 := Qal _ (gA (gC Q0A QWu gN))
theorem lk_f70 : QFZ.lok g_f70 := by repeat (first | exact trivial | refine ⟨?_, ?_⟩)
theorem QOR {a : Int} (h1 : 1 ≤ a) (h2 : a ≤ 22) : a = 1 ∨ a = 2 ∨ a = 3 ∨ a = 4 ∨ a = 5 ∨ a = 6 ∨ a = 7 ∨ a = 8 ∨ a = 9 ∨ a = 10 ∨ a = 11 ∨ a = 12 ∨ a = 13 ∨ a = 14 ∨ a = 15 ∨ a = 16 ∨ a = 17 ∨ a = 18 ∨ a = 19 ∨ a = 20 ∨ a = 21 ∨ a = 22 := by omega
theorem s_f70 (a : Int) : r_f70 a = some (.t tI (kindF a), []) := by
 simp only [r_f70]
 refine QaD (fun h1 => ?_) (fun h1 => QaD (fun h2 => ?_) (fun h2 => ?_))
 ·have h1 : a < 1 := by simpa [ilt] using h1
  simp [kindF, ofF, h1, noRow]
 ·have h2 : 22 < a := by simpa [igt] using h2
  simp [kindF, ofF, h2, noRow]
 ·have h1 : ¬ a < 1 := by simpa [ilt] using h1
  have h2 : ¬ 22 < a := by simpa [igt] using h2
  rcases QOR (a := a) (by omega) (by omega) with rfl | rfl | rfl | rfl | rfl | rfl | rfl | rfl | rfl | rfl | rfl | rfl | rfl | rfl | rfl | rfl | rfl | rfl | rfl | rfl | rfl | rfl <;> rfl
def QBC : Ent := spec (.pr tI .nil) (fun x => true) (fun x => (.t tI (kindF x.1)))
theorem QKZ : Meets Tryz.prog 70 (strip QBC) := Qah (R := runF g_f70 QFZ QTL false) (mG Tryz.func70 (by kernel_rfl) Tryz.ntmps70 (by kernel_rfl) gk_f70 lk_f70) fun x _ => (e_f70 x.1).trans (s_f70 x.1)
def useP (a b : Int) : Keep := (a, (b, ()))
noncomputable def QyF : TC := (.sq (.reg (rT Tryz.f159 0)) (.sq (.reg (rT Tryz.f159 1)) .rt))
def QII : List (RV × Option Ty) := [((.c 4 true 2), some Qag)]
def QCX : G := ⟨TYs, [], 8, EL [], keeps, (fun _ _ => none), IL [], RL []⟩
def QUq (p0 p1 : Int) : Option (V × List VO) := some (.t Qag (p0, (p1, ())), [])
theorem e_f159 (p0 p1 : Int) : runF QCX QyF QII false [.t tI p0, .t tI p1] [] = QUq p0 p1 := by kernel_rfl
theorem Q0d : Qai Tryz.prog 159 := .inr ⟨by decide, _, Tryz.func159, by kernel_rfl, by kernel_rfl⟩
theorem QY6 : GOk Tryz.prog QCX := Qal _ (fun p hp => by cases hp)
theorem QXl : QyF.lok QCX := by repeat (first | exact trivial | refine ⟨?_, ?_⟩)
theorem s_f159 (a b : Int) : QUq a b = some (.t Qag (useP a b), []) := rfl
def QHk : Ent := spec (.pr tI (.pr tI .nil)) (fun x => true) (fun x => (.t Qag (useP x.1 x.2.1)))
theorem QV7 : Meets Tryz.prog 159 (strip QHk) := Qah (R := runF QCX QyF QII false) (mG Tryz.func159 (by kernel_rfl) Tryz.ntmps159 (by kernel_rfl) QY6 QXl) fun x _ => (e_f159 x.1 x.2.1).trans (s_f159 x.1 x.2.1)
noncomputable def Qyz : TC := (.sq (.reg (rT Tryz.f168 0)) (.sq (.reg (rT Tryz.f168 1)) .rt))
def QIC : List (RV × Option Ty) := [((.c 4 true 2), some Qag)]
def QCT : G := ⟨TYs, [], 8, EL [], keeps, (fun _ _ => none), IL [], RL []⟩
def QUp (p0 p1 : Int) : Option (V × List VO) := some (.t Qag (p0, (p1, ())), [])
theorem e_f168 (p0 p1 : Int) : runF QCT Qyz QIC false [.t tI p0, .t tI p1] [] = QUp p0 p1 := by kernel_rfl
theorem QZ7 : Qai Tryz.prog 168 := .inr ⟨by decide, _, Tryz.func168, by kernel_rfl, by kernel_rfl⟩
theorem QY0 : GOk Tryz.prog QCT := Qal _ (fun p hp => by cases hp)
theorem QXf : Qyz.lok QCT := by repeat (first | exact trivial | refine ⟨?_, ?_⟩)
theorem s_f168 (a b : Int) : QUp a b = some (.t Qag (useP a b), []) := rfl
def QHe : Ent := spec (.pr tI (.pr tI .nil)) (fun x => true) (fun x => (.t Qag (useP x.1 x.2.1)))
theorem QV1 : Meets Tryz.prog 168 (strip QHe) := Qah (R := runF QCT Qyz QIC false) (mG Tryz.func168 (by kernel_rfl) Tryz.ntmps168 (by kernel_rfl) QY0 QXf) fun x _ => (e_f168 x.1 x.2.1).trans (s_f168 x.1 x.2.1)
def suiP (c : Int) (n : ByteArray) (e s f m : Keep) (l o : Int) : Suite := (c, (n, (e, (s, (f, (m, (l, (o, ()))))))))
noncomputable def Qyy : TC := (.sq (.reg (rT Tryz.f169 0)) (.sq (.reg (rT Tryz.f169 1)) .rt))
def QIB : List (RV × Option Ty) := [((.c 16 true 12), some Qax)]
def QCS : G := ⟨TYs, [], 26, EL [], keeps, (fun _ _ => none), IL [], RL []⟩
def QUo (p0 : Int) (p1 : ByteArray) (p2 p3 p4 p5 : Keep) (p6 p7 : Int) : Option (V × List VO) := some (.t Qax (p0, (p1, ((p2.1, (p2.2.1, ())), ((p3.1, (p3.2.1, ())), ((p4.1, (p4.2.1, ())), ((p5.1, (p5.2.1, ())), (p6, (p7, ())))))))), [])
theorem e_f169 (p0 : Int) (p1 : ByteArray) (p2 p3 p4 p5 : Keep) (p6 p7 : Int) : runF QCS Qyy QIB false [.t tI p0, .t .str p1, .t Qag p2, .t Qag p3, .t Qag p4, .t Qag p5, .t tI p6, .t tI p7] [] = QUo p0 p1 p2 p3 p4 p5 p6 p7 := by kernel_rfl
theorem QZ6 : Qai Tryz.prog 169 := .inr ⟨by decide, _, Tryz.func169, by kernel_rfl, by kernel_rfl⟩
theorem QYZ : GOk Tryz.prog QCS := Qal _ (fun p hp => by cases hp)
theorem QXe : Qyy.lok QCS := by repeat (first | exact trivial | refine ⟨?_, ?_⟩)
theorem s_f169 (c : Int) (n : ByteArray) (e s f m : Keep) (l o : Int) : QUo c n e s f m l o = some (.t Qax (suiP c n e s f m l o), []) := rfl
def QHd : Ent := spec (.pr tI (.pr .str (.pr Qag (.pr Qag (.pr Qag (.pr Qag (.pr tI (.pr tI .nil)))))))) (fun x => true) (fun x => (.t Qax (suiP x.1 x.2.1 x.2.2.1 x.2.2.2.1 x.2.2.2.2.1 x.2.2.2.2.2.1 x.2.2.2.2.2.2.1 x.2.2.2.2.2.2.2.1)))
theorem QV0 : Meets Tryz.prog 169 (strip QHd) := Qah (R := runF QCS Qyy QIB false) (mG Tryz.func169 (by kernel_rfl) Tryz.ntmps169 (by kernel_rfl) QYZ QXe) fun x _ => (e_f169 x.1 x.2.1 x.2.2.1 x.2.2.2.1 x.2.2.2.2.1 x.2.2.2.2.2.1 x.2.2.2.2.2.2.1 x.2.2.2.2.2.2.2.1).trans (s_f169 x.1 x.2.1 x.2.2.1 x.2.2.2.1 x.2.2.2.2.1 x.2.2.2.2.2.1 x.2.2.2.2.2.2.1 x.2.2.2.2.2.2.2.1)
noncomputable def QNn : List DO := dT Tryz.f144 6
noncomputable def QyO : TC := (.sq (.reg (rT Tryz.f144 0)) (.sq (.reg (rT Tryz.f144 1)) (.sq (.reg (rT Tryz.f144 2)) (.sq (.reg (rT Tryz.f144 3)) (.sq (.reg (rT Tryz.f144 4)) (.sq (.reg (rT Tryz.f144 5)) (.sq (.dr QNn [(0, [1]), (1, [2]), (2, [4]), (3, [9]), (4, []), (5, [1]), (6, [2]), (7, [4]), (8, [10]), (9, []), (10, [1]), (11, [2]), (12, [5]), (13, [10]), (14, []), (15, []), (16, []), (17, [5]), (18, [10]), (19, []), (20, []), (21, [2]), (22, [5]), (23, [10]), (24, []), (25, [1]), (26, [2]), (27, [6]), (28, [10]), (29, []), (30, []), (31, [2]), (32, [6]), (33, [10]), (34, []), (35, [13]), (36, [2]), (37, [6]), (38, [10]), (39, []), (40, [13]), (41, []), (42, []), (43, [11]), (44, []), (45, [13]), (46, [2]), (47, [7]), (48, [12]), (49, []), (50, []), (51, []), (52, [8]), (53, [12]), (54, []), (55, [13]), (56, [2]), (57, [14]), (58, [12]), (59, []), (60, [1]), (61, [2]), (62, [8]), (63, [12]), (64, []), (65, [13]), (66, [3]), (67, [7]), (68, [12]), (69, []), (70, [13]), (71, [3]), (72, [14]), (73, [12]), (74, []), (75, []), (76, [3]), (77, [8]), (78, [12]), (79, []), (80, []), (81, [])] (.of [0, 1, 2, 3, 4, 5, 6, 7, 8, 9, 10, 11, 12, 13, 14, 15, 16, 17, 18, 19, 20, 21, 22, 23, 24, 25, 26, 27, 28, 29, 30, 31, 32, 33, 34, 35, 36, 37, 38, 39, 40, 41, 42, 43, 44, 45, 46, 47, 48, 49, 50, 51, 52, 53, 54, 55, 56, 57, 58, 59, 60, 61, 62, 63, 64, 65, 66, 67, 68, 69, 70, 71, 72, 73, 74, 75, 76, 77, 78, 79, 80, 81])) .rt)))))))
def QIR : List (RV × Option Ty) := [((.t 0), some (.sl Qax))]
def QC4 : G := ⟨TYs, [], 110, EL [(168, QHe), (169, QHd)], keeps, (fun _ _ => none), IL [], RL []⟩
def Qcg : Ty.T (.sl Qax) :=
 let a1 := (suiP 9 (ByteArray.mk #[101, 99, 100, 104, 101, 45, 101, 99, 100, 115, 97, 45, 97, 101, 115, 50, 53, 54, 45, 115, 104, 97, 50, 53, 54]) (useP 12 256) (useP 7 0) (useP 16 256) (useP 21 0) 3 3)
 let a2 := (suiP 11 (ByteArray.mk #[101, 99, 100, 104, 101, 45, 101, 99, 100, 115, 97, 45, 97, 101, 115, 50, 53, 54, 45, 103, 99, 109]) (useP 12 384) (useP 7 0) (useP 17 256) (useP 22 0) 3 3)
 let a3 := (suiP 10 (ByteArray.mk #[101, 99, 100, 104, 101, 45, 114, 115, 97, 45, 97, 101, 115, 49, 50, 56, 45, 103, 99, 109]) (useP 12 256) (useP 5 0) (useP 17 128) (useP 22 0) 3 3)
 let a4 := (suiP 8 (ByteArray.mk #[101, 99, 100, 104, 101, 45, 114, 115, 97, 45, 97, 101, 115, 49, 50, 56, 45, 115, 104, 97]) (useP 12 256) (useP 5 0) (useP 16 128) (useP 20 0) 1 3)
 let a5 := (suiP 7 (ByteArray.mk #[100, 104, 101, 45, 114, 115, 97, 45, 97, 101, 115, 49, 50, 56, 45, 115, 104, 97]) (useP 11 2048) (useP 5 0) (useP 16 128) (useP 20 0) 1 3)
 let a6 := (suiP 16 (ByteArray.mk #[109, 108, 107, 101, 109, 45, 97, 101, 115, 50, 53, 54, 45, 103, 99, 109]) (useP 13 768) (0, (0, ())) (useP 17 256) (useP 22 0) 4 4)
 let a7 := (suiP 4 (ByteArray.mk #[100, 104, 101, 45, 100, 115, 97, 45, 100, 101, 115, 51, 45, 115, 104, 97]) (useP 11 1024) (useP 6 0) (useP 15 168) (useP 20 0) 1 3)
 let a8 := (suiP 5 (ByteArray.mk #[100, 104, 101, 45, 114, 115, 97, 45, 100, 101, 115, 51, 45, 115, 104, 97]) (useP 11 1024) (useP 5 0) (useP 15 168) (useP 20 0) 1 3)
 let a9 := (suiP 12 (ByteArray.mk #[101, 99, 100, 104, 101, 45, 114, 115, 97, 45, 99, 104, 97, 99, 104, 97]) (useP 12 256) (useP 5 0) (useP 18 0) (useP 22 0) 3 3)
 let a10 := (suiP 13 (ByteArray.mk #[114, 115, 97, 45, 97, 101, 115, 50, 53, 54, 45, 103, 99, 109]) (useP 10 0) (useP 5 0) (useP 17 256) (useP 22 0) 3 3)
 let a11 := (suiP 6 (ByteArray.mk #[114, 115, 97, 45, 97, 101, 115, 49, 50, 56, 45, 115, 104, 97]) (useP 10 0) (useP 5 0) (useP 16 128) (useP 20 0) 1 3)
 let a12 := (suiP 3 (ByteArray.mk #[114, 115, 97, 45, 100, 101, 115, 51, 45, 115, 104, 97]) (useP 10 0) (useP 5 0) (useP 15 168) (useP 20 0) 1 3)
 let a13 := (suiP 1 (ByteArray.mk #[114, 115, 97, 45, 114, 99, 52, 45, 109, 100, 53]) (useP 10 0) (useP 5 0) (useP 14 128) (useP 19 0) 1 2)
 let a14 := (suiP 2 (ByteArray.mk #[114, 115, 97, 45, 114, 99, 52, 45, 115, 104, 97]) (useP 10 0) (useP 5 0) (useP 14 128) (useP 20 0) 1 3)
 let a15 := (suiP 14 (ByteArray.mk #[97, 101, 115, 49, 50, 56, 45, 103, 99, 109]) (useP 12 256) (0, (0, ())) (useP 17 128) (useP 22 0) 4 4)
 let a16 := (suiP 15 (ByteArray.mk #[99, 104, 97, 99, 104, 97]) (useP 12 256) (0, (0, ())) (useP 18 0) (useP 22 0) 4 4)
 let a17 := (((a13.2).2).2)
 let a18 := (((a14.2).2).2)
 let a19 := (((a12.2).2).2)
 let a20 := (((a11.2).2).2)
 let a21 := (((a10.2).2).2)
 let a22 := (((a15.2).2).2)
 let a23 := (((a16.2).2).2)
 let a24 := (((a7.2).2).2)
 let a25 := (((a8.2).2).2)
 let a26 := (((a5.2).2).2)
 let a27 := (((a4.2).2).2)
 let a28 := (((a1.2).2).2)
 let a29 := (((a3.2).2).2)
 let a30 := (((a2.2).2).2)
 let a31 := (((a9.2).2).2)
 let a32 := (((a6.2).2).2)
 ([(a13.1, ((a13.2).1, (((((a13.2).2).1).1, (((((a13.2).2).1).2).1, ())), (((a17.1).1, (((a17.1).2).1, ())), ((((a17.2).1).1, ((((a17.2).1).2).1, ())), (((((a17.2).2).1).1, (((((a17.2).2).1).2).1, ())), ((((a17.2).2).2).1, (((((a17.2).2).2).2).1, ())))))))), (a14.1, ((a14.2).1, (((((a14.2).2).1).1, (((((a14.2).2).1).2).1, ())), (((a18.1).1, (((a18.1).2).1, ())), ((((a18.2).1).1, ((((a18.2).1).2).1, ())), (((((a18.2).2).1).1, (((((a18.2).2).1).2).1, ())), ((((a18.2).2).2).1, (((((a18.2).2).2).2).1, ())))))))), (a12.1, ((a12.2).1, (((((a12.2).2).1).1, (((((a12.2).2).1).2).1, ())), (((a19.1).1, (((a19.1).2).1, ())), ((((a19.2).1).1, ((((a19.2).1).2).1, ())), (((((a19.2).2).1).1, (((((a19.2).2).1).2).1, ())), ((((a19.2).2).2).1, (((((a19.2).2).2).2).1, ())))))))), (a7.1, ((a7.2).1, (((((a7.2).2).1).1, (((((a7.2).2).1).2).1, ())), (((a24.1).1, (((a24.1).2).1, ())), ((((a24.2).1).1, ((((a24.2).1).2).1, ())), (((((a24.2).2).1).1, (((((a24.2).2).1).2).1, ())), ((((a24.2).2).2).1, (((((a24.2).2).2).2).1, ())))))))), (a8.1, ((a8.2).1, (((((a8.2).2).1).1, (((((a8.2).2).1).2).1, ())), (((a25.1).1, (((a25.1).2).1, ())), ((((a25.2).1).1, ((((a25.2).1).2).1, ())), (((((a25.2).2).1).1, (((((a25.2).2).1).2).1, ())), ((((a25.2).2).2).1, (((((a25.2).2).2).2).1, ())))))))), (a11.1, ((a11.2).1, (((((a11.2).2).1).1, (((((a11.2).2).1).2).1, ())), (((a20.1).1, (((a20.1).2).1, ())), ((((a20.2).1).1, ((((a20.2).1).2).1, ())), (((((a20.2).2).1).1, (((((a20.2).2).1).2).1, ())), ((((a20.2).2).2).1, (((((a20.2).2).2).2).1, ())))))))), (a5.1, ((a5.2).1, (((((a5.2).2).1).1, (((((a5.2).2).1).2).1, ())), (((a26.1).1, (((a26.1).2).1, ())), ((((a26.2).1).1, ((((a26.2).1).2).1, ())), (((((a26.2).2).1).1, (((((a26.2).2).1).2).1, ())), ((((a26.2).2).2).1, (((((a26.2).2).2).2).1, ())))))))), (a4.1, ((a4.2).1, (((((a4.2).2).1).1, (((((a4.2).2).1).2).1, ())), (((a27.1).1, (((a27.1).2).1, ())), ((((a27.2).1).1, ((((a27.2).1).2).1, ())), (((((a27.2).2).1).1, (((((a27.2).2).1).2).1, ())), ((((a27.2).2).2).1, (((((a27.2).2).2).2).1, ())))))))), (a1.1, ((a1.2).1, (((((a1.2).2).1).1, (((((a1.2).2).1).2).1, ())), (((a28.1).1, (((a28.1).2).1, ())), ((((a28.2).1).1, ((((a28.2).1).2).1, ())), (((((a28.2).2).1).1, (((((a28.2).2).1).2).1, ())), ((((a28.2).2).2).1, (((((a28.2).2).2).2).1, ())))))))), (a3.1, ((a3.2).1, (((((a3.2).2).1).1, (((((a3.2).2).1).2).1, ())), (((a29.1).1, (((a29.1).2).1, ())), ((((a29.2).1).1, ((((a29.2).1).2).1, ())), (((((a29.2).2).1).1, (((((a29.2).2).1).2).1, ())), ((((a29.2).2).2).1, (((((a29.2).2).2).2).1, ())))))))), (a2.1, ((a2.2).1, (((((a2.2).2).1).1, (((((a2.2).2).1).2).1, ())), (((a30.1).1, (((a30.1).2).1, ())), ((((a30.2).1).1, ((((a30.2).1).2).1, ())), (((((a30.2).2).1).1, (((((a30.2).2).1).2).1, ())), ((((a30.2).2).2).1, (((((a30.2).2).2).2).1, ())))))))), (a9.1, ((a9.2).1, (((((a9.2).2).1).1, (((((a9.2).2).1).2).1, ())), (((a31.1).1, (((a31.1).2).1, ())), ((((a31.2).1).1, ((((a31.2).1).2).1, ())), (((((a31.2).2).1).1, (((((a31.2).2).1).2).1, ())), ((((a31.2).2).2).1, (((((a31.2).2).2).2).1, ())))))))), (a10.1, ((a10.2).1, (((((a10.2).2).1).1, (((((a10.2).2).1).2).1, ())), (((a21.1).1, (((a21.1).2).1, ())), ((((a21.2).1).1, ((((a21.2).1).2).1, ())), (((((a21.2).2).1).1, (((((a21.2).2).1).2).1, ())), ((((a21.2).2).2).1, (((((a21.2).2).2).2).1, ())))))))), (a15.1, ((a15.2).1, (((((a15.2).2).1).1, (((((a15.2).2).1).2).1, ())), (((a22.1).1, (((a22.1).2).1, ())), ((((a22.2).1).1, ((((a22.2).1).2).1, ())), (((((a22.2).2).1).1, (((((a22.2).2).1).2).1, ())), ((((a22.2).2).2).1, (((((a22.2).2).2).2).1, ())))))))), (a16.1, ((a16.2).1, (((((a16.2).2).1).1, (((((a16.2).2).1).2).1, ())), (((a23.1).1, (((a23.1).2).1, ())), ((((a23.2).1).1, ((((a23.2).1).2).1, ())), (((((a23.2).2).1).1, (((((a23.2).2).1).2).1, ())), ((((a23.2).2).2).1, (((((a23.2).2).2).2).1, ())))))))), (a6.1, ((a6.2).1, (((((a6.2).2).1).1, (((((a6.2).2).1).2).1, ())), (((a32.1).1, (((a32.1).2).1, ())), ((((a32.2).1).1, ((((a32.2).1).2).1, ())), (((((a32.2).2).1).1, (((((a32.2).2).1).2).1, ())), ((((a32.2).2).2).1, (((((a32.2).2).2).2).1, ()))))))))])
def QUt  : Option (V × List VO) := some (.t (.sl Qax) Qcg, [])
theorem e_f144  : runF QC4 QyO QIR false [] [] = QUt  := by kernel_rfl
theorem Q0j : Qai Tryz.prog 144 := .inr ⟨by decide, _, Tryz.func144, by kernel_rfl, by kernel_rfl⟩
theorem QZf : GOk Tryz.prog QC4 := Qal _ (gA (gC QZ7 QV1 (gC QZ6 QV0 gN)))
theorem QXu : QyO.lok QC4 := by repeat (first | exact trivial | refine ⟨?_, ?_⟩)
theorem s_f144 : QUt = some (.t (.sl Qax) Qcg, []) := rfl
def QHr : Ent := spec .nil (fun x => true) (fun x => (.t (.sl Qax) Qcg))
theorem QWd : Meets Tryz.prog 144 (strip QHr) := Qah (R := runF QC4 QyO QIR false) (mG Tryz.func144 (by kernel_rfl) Tryz.ntmps144 (by kernel_rfl) QZf QXu) fun x _ => (e_f144 ).trans (s_f144 )
abbrev QFw : Suite := Ty.zero Qax
def codeL (k : Nat) (l : List Suite) : List Suite := (List.range' k (16 - k)).foldl (fun l i => l.set i (((i + 1 : Nat) : Int), (l.getD i QFw).2)) l
noncomputable def QNp : List DO := dT Tryz.f133 4
def Qhl : Fg := ⟨[(15, none), (113, some tI), (114, some tI)], [(111, none)]⟩
noncomputable def Qjd : TC := (.sq (.reg (rT Tryz.f133 6)) (.sq (.cd (.t 115) .sk (.fg ⟨[(15, none)], [(111, none)]⟩ (.ex 0))) (.sq (.bk 1 (.sq (.reg (rT Tryz.f133 7)) (.reg (rT Tryz.f133 8)))) (.reg (rT Tryz.f133 9)))))
noncomputable def QyV : TC := (.sq (.reg (rT Tryz.f133 0)) (.sq (.reg (rT Tryz.f133 1)) (.sq (.reg (rT Tryz.f133 2)) (.sq (.reg (rT Tryz.f133 3)) (.sq (.dr QNp [(0, [1]), (1, [2]), (2, []), (3, [11]), (4, []), (5, [1]), (6, [2]), (7, []), (8, [12]), (9, []), (10, [1]), (11, [2]), (12, [6]), (13, [12]), (14, []), (15, []), (16, [3]), (17, [6]), (18, [12]), (19, []), (20, []), (21, [2]), (22, [6]), (23, [12]), (24, []), (25, [1]), (26, [2]), (27, [7]), (28, [12]), (29, []), (30, []), (31, [2]), (32, [7]), (33, [12]), (34, []), (35, [14]), (36, [2]), (37, [7]), (38, [12]), (39, []), (40, [14]), (41, [4]), (42, []), (43, []), (44, []), (45, [14]), (46, [2]), (47, [8]), (48, [13]), (49, []), (50, []), (51, [4]), (52, [9]), (53, [13]), (54, []), (55, [14]), (56, [2]), (57, [10]), (58, [13]), (59, []), (60, [1]), (61, [2]), (62, [9]), (63, [13]), (64, []), (65, [14]), (66, [5]), (67, [8]), (68, [13]), (69, []), (70, [14]), (71, [5]), (72, [10]), (73, [13]), (74, []), (75, []), (76, [5]), (77, [9]), (78, [13]), (79, []), (80, [111, 5111, 10111, 15111]), (81, [111])] (.of [0, 1, 2, 3, 4, 5, 6, 7, 8, 9, 10, 11, 12, 13, 14, 15, 16, 17, 18, 19, 20, 21, 22, 23, 24, 25, 26, 27, 28, 29, 30, 31, 32, 33, 34, 35, 36, 37, 38, 39, 40, 41, 42, 43, 44, 45, 46, 47, 48, 49, 50, 51, 52, 53, 54, 55, 56, 57, 58, 59, 60, 61, 62, 63, 64, 65, 66, 67, 68, 69, 70, 71, 72, 73, 74, 75, 76, 77, 78, 79, 80, 81])) (.sq (.sq (.reg (rT Tryz.f133 5)) (.bk 0 (.lp 0 Qhl Qjd))) (.sq (.reg (rT Tryz.f133 10)) .rt)))))))
def QIY : List (RV × Option Ty) := [((.t 0), some (.sl Qax))]
abbrev QpY : Sh := ⟨[(15, .ms 111), (113, .ty tI), (114, .ty tI)], [(111, .arr 142 Qax)]⟩
def Qpc (x113 x114 : Int) (y111 : List Suite) : VS := QpY.st ((), x113, x114, ()) (y111, ())
abbrev Qwi : Sh := ⟨[(15, .ms 111)], [(111, .arr 142 Qax)]⟩
def Qej (y111 : List Suite) : VS := Qwi.st ((), ()) (y111, ())
def QSK : VS → Option (Bool × List (Bool × Exit × VS)) := mkL QpY (fun x y => (decide (0 ≤ x.2.2.1 ∧ x.2.2.1 ≤ 16 ∧ x.2.1 = 16 ∧ y.1.length = 16))) (fun x y => [(true, .exit 0, Qej (codeL x.2.2.1.toNat y.1))])
def Qmt : G := ⟨TYs, [111], 125, EL [(159, QHk)], keeps, (Ls [QSK]), IL [], RL []⟩
def QD4 (x113 x114 : Int) (y111 : List Suite) : Option (Exit × VS) :=
 let a1 := Int.toNat x114
 br (ilt x114 x113) (br (cIx y111 x114) (br (cLd y111 a1) (some (.normal, Qpc x113 (iadd .i64 x114 1) (List.set y111 a1 ((iadd .i64 x114 1), (lgt Qax y111 a1).2)))) none) none) (some (.exit 0, Qej y111))
noncomputable def Qj2 (x113 x114 : Int) (y111 : List Suite) : Option (Exit × VS) := loopF (Qaj Qmt Qhl Qjd) (Qpc x113 x114 y111)
noncomputable def QuK (x113 x114 : Int) (y111 : List Suite) : Option (Exit × VS) :=
 let a1 := Int.toNat x114
 br (ilt x114 x113) (br (cIx y111 x114) (br (cLd y111 a1) (Qj2 x113 (iadd .i64 x114 1) (List.set y111 a1 ((iadd .i64 x114 1), (lgt Qax y111 a1).2))) none) none) (some (.exit 0, Qej y111))
def Qra (x113 x114 : Int) (y111 : List Suite) : Option (Exit × VS) := some (.exit 0, Qej (codeL x114.toNat y111))
theorem QOc (x113 x114 : Int) (y111 : List Suite) : Qaj Qmt Qhl Qjd (Qpc x113 x114 y111) = QD4 x113 x114 y111 := by kernel_rfl
theorem Qxh (x113 x114 : Int) (y111 : List Suite) : Qj2 x113 x114 y111 = QuK x113 x114 y111 := (Qan _ _).trans (by
 rw [QOc]
 simp only [QD4, QuK, Qay, nxt_n, nxt_r, nxt_e, nxt_0]
 rfl)
def QUu  : Option (V × List VO) :=
 let a1 := ((useP 5 0).1, (((useP 5 0).2).1, ()))
 let a2 := ((useP 20 0).1, (((useP 20 0).2).1, ()))
 let a3 := ((useP 22 0).1, (((useP 22 0).2).1, ()))
 let a4 := ((useP 12 256).1, (((useP 12 256).2).1, ()))
 let a5 := ((useP 10 0).1, (((useP 10 0).2).1, ()))
 let a6 := ((useP 15 168).1, (((useP 15 168).2).1, ()))
 let a7 := ((useP 16 128).1, (((useP 16 128).2).1, ()))
 let a8 := ((useP 17 256).1, (((useP 17 256).2).1, ()))
 let a9 := (ByteArray.mk #[101, 99, 100, 104, 101, 45, 101, 99, 100, 115, 97, 45, 97, 101, 115, 50, 53, 54, 45, 115, 104, 97, 50, 53, 54])
 let a10 := (ByteArray.mk #[101, 99, 100, 104, 101, 45, 101, 99, 100, 115, 97, 45, 97, 101, 115, 50, 53, 54, 45, 103, 99, 109])
 let a11 := ((useP 11 1024).1, (((useP 11 1024).2).1, ()))
 let a12 := (ByteArray.mk #[101, 99, 100, 104, 101, 45, 114, 115, 97, 45, 97, 101, 115, 49, 50, 56, 45, 115, 104, 97])
 let a13 := (ByteArray.mk #[101, 99, 100, 104, 101, 45, 114, 115, 97, 45, 97, 101, 115, 49, 50, 56, 45, 103, 99, 109])
 let a14 := ((useP 14 128).1, (((useP 14 128).2).1, ()))
 let a15 := ((useP 17 128).1, (((useP 17 128).2).1, ()))
 let a16 := (ByteArray.mk #[100, 104, 101, 45, 114, 115, 97, 45, 97, 101, 115, 49, 50, 56, 45, 115, 104, 97])
 let a17 := ((useP 18 0).1, (((useP 18 0).2).1, ()))
 let a18 := ((useP 7 0).1, (((useP 7 0).2).1, ()))
 let a19 := (ByteArray.mk #[100, 104, 101, 45, 100, 115, 97, 45, 100, 101, 115, 51, 45, 115, 104, 97])
 let a20 := (ByteArray.mk #[100, 104, 101, 45, 114, 115, 97, 45, 100, 101, 115, 51, 45, 115, 104, 97])
 let a21 := (ByteArray.mk #[109, 108, 107, 101, 109, 45, 97, 101, 115, 50, 53, 54, 45, 103, 99, 109])
 let a22 := (ByteArray.mk #[101, 99, 100, 104, 101, 45, 114, 115, 97, 45, 99, 104, 97, 99, 104, 97])
 let a23 := (ByteArray.mk #[114, 115, 97, 45, 97, 101, 115, 49, 50, 56, 45, 115, 104, 97])
 let a24 := (ByteArray.mk #[114, 115, 97, 45, 97, 101, 115, 50, 53, 54, 45, 103, 99, 109])
 let a25 := (ByteArray.mk #[114, 115, 97, 45, 100, 101, 115, 51, 45, 115, 104, 97])
 let a26 := (ByteArray.mk #[114, 115, 97, 45, 114, 99, 52, 45, 109, 100, 53])
 let a27 := (ByteArray.mk #[114, 115, 97, 45, 114, 99, 52, 45, 115, 104, 97])
 let a28 := (ByteArray.mk #[97, 101, 115, 49, 50, 56, 45, 103, 99, 109])
 let a29 := ((useP 11 2048).1, (((useP 11 2048).2).1, ()))
 let a30 := ((useP 16 256).1, (((useP 16 256).2).1, ()))
 let a31 := ((useP 12 384).1, (((useP 12 384).2).1, ()))
 let a32 := ((useP 13 768).1, (((useP 13 768).2).1, ()))
 let a33 := (ByteArray.mk #[99, 104, 97, 99, 104, 97])
 let a34 := ((useP 19 0).1, (((useP 19 0).2).1, ()))
 let a35 := ((useP 21 0).1, (((useP 21 0).2).1, ()))
 let a36 := ((useP 6 0).1, (((useP 6 0).2).1, ()))
 br (decide (0 ≤ (0 : Int) ∧ (0 : Int) ≤ 16 ∧ (llen ([(0, (a26, (a5, (a1, (a14, (a34, (1, (2, ())))))))), (0, (a27, (a5, (a1, (a14, (a2, (1, (3, ())))))))), (0, (a25, (a5, (a1, (a6, (a2, (1, (3, ())))))))), (0, (a19, (a11, (a36, (a6, (a2, (1, (3, ())))))))), (0, (a20, (a11, (a1, (a6, (a2, (1, (3, ())))))))), (0, (a23, (a5, (a1, (a7, (a2, (1, (3, ())))))))), (0, (a16, (a29, (a1, (a7, (a2, (1, (3, ())))))))), (0, (a12, (a4, (a1, (a7, (a2, (1, (3, ())))))))), (0, (a9, (a4, (a18, (a30, (a35, (3, (3, ())))))))), (0, (a13, (a4, (a1, (a15, (a3, (3, (3, ())))))))), (0, (a10, (a31, (a18, (a8, (a3, (3, (3, ())))))))), (0, (a22, (a4, (a1, (a17, (a3, (3, (3, ())))))))), (0, (a24, (a5, (a1, (a8, (a3, (3, (3, ())))))))), (0, (a28, (a4, ((0, (0, ())), (a15, (a3, (4, (4, ())))))))), (0, (a33, (a4, ((0, (0, ())), (a17, (a3, (4, (4, ())))))))), (0, (a21, (a32, ((0, (0, ())), (a8, (a3, (4, (4, ()))))))))])) = 16 ∧ ([(0, (a26, (a5, (a1, (a14, (a34, (1, (2, ())))))))), (0, (a27, (a5, (a1, (a14, (a2, (1, (3, ())))))))), (0, (a25, (a5, (a1, (a6, (a2, (1, (3, ())))))))), (0, (a19, (a11, (a36, (a6, (a2, (1, (3, ())))))))), (0, (a20, (a11, (a1, (a6, (a2, (1, (3, ())))))))), (0, (a23, (a5, (a1, (a7, (a2, (1, (3, ())))))))), (0, (a16, (a29, (a1, (a7, (a2, (1, (3, ())))))))), (0, (a12, (a4, (a1, (a7, (a2, (1, (3, ())))))))), (0, (a9, (a4, (a18, (a30, (a35, (3, (3, ())))))))), (0, (a13, (a4, (a1, (a15, (a3, (3, (3, ())))))))), (0, (a10, (a31, (a18, (a8, (a3, (3, (3, ())))))))), (0, (a22, (a4, (a1, (a17, (a3, (3, (3, ())))))))), (0, (a24, (a5, (a1, (a8, (a3, (3, (3, ())))))))), (0, (a28, (a4, ((0, (0, ())), (a15, (a3, (4, (4, ())))))))), (0, (a33, (a4, ((0, (0, ())), (a17, (a3, (4, (4, ())))))))), (0, (a21, (a32, ((0, (0, ())), (a8, (a3, (4, (4, ()))))))))]).length = 16)) (some (.t (.sl Qax) (codeL (0 : Int).toNat ([(0, (a26, (a5, (a1, (a14, (a34, (1, (2, ())))))))), (0, (a27, (a5, (a1, (a14, (a2, (1, (3, ())))))))), (0, (a25, (a5, (a1, (a6, (a2, (1, (3, ())))))))), (0, (a19, (a11, (a36, (a6, (a2, (1, (3, ())))))))), (0, (a20, (a11, (a1, (a6, (a2, (1, (3, ())))))))), (0, (a23, (a5, (a1, (a7, (a2, (1, (3, ())))))))), (0, (a16, (a29, (a1, (a7, (a2, (1, (3, ())))))))), (0, (a12, (a4, (a1, (a7, (a2, (1, (3, ())))))))), (0, (a9, (a4, (a18, (a30, (a35, (3, (3, ())))))))), (0, (a13, (a4, (a1, (a15, (a3, (3, (3, ())))))))), (0, (a10, (a31, (a18, (a8, (a3, (3, (3, ())))))))), (0, (a22, (a4, (a1, (a17, (a3, (3, (3, ())))))))), (0, (a24, (a5, (a1, (a8, (a3, (3, (3, ())))))))), (0, (a28, (a4, ((0, (0, ())), (a15, (a3, (4, (4, ())))))))), (0, (a33, (a4, ((0, (0, ())), (a17, (a3, (4, (4, ())))))))), (0, (a21, (a32, ((0, (0, ())), (a8, (a3, (4, (4, ()))))))))])), [])) none
theorem e_f133  : runF Qmt QyV QIY false [] [] = QUu  := by kernel_rfl
theorem Q0p : Qai Tryz.prog 133 := .inr ⟨by decide, _, Tryz.func133, by kernel_rfl, by kernel_rfl⟩
theorem QZm : GOk Tryz.prog Qmt := Qal _ (gA (gC Q0d QV7 gN))
theorem QQD (x113 x114 : Int) (y111 : List Suite) (h : (decide (0 ≤ x114 ∧ x114 ≤ 16 ∧ x113 = 16 ∧ y111.length = 16)) = true) : Qj2 x113 x114 y111 = Qra x113 x114 y111 := by
 simp only [decide_eq_true_eq] at h
 obtain ⟨h1, h2, rfl, h4⟩ := h
 obtain ⟨k, rfl⟩ := Int.eq_ofNat_of_zero_le h1
 revert y111
 refine QSX 16 (fun k => ∀ y111 : List Suite, y111.length = 16 → Qj2 16 (k : Int) y111 = Qra 16 (k : Int) y111) ?_ ?_ k (by omega)
 ·intro y111 _
  rw [Qxh]
  rfl
 ·intro k hk ih y111 hy
  rw [Qxh]
  have e1 : ilt (k : Int) 16 = true := decide_eq_true (by omega)
  have e2 : cLd y111 k = true := decide_eq_true (by omega)
  have e3 : codeL k y111 = codeL (k + 1) (y111.set k (((k + 1 : Nat) : Int), (y111.getD k QFw).2)) := by
   have : 16 - k = (16 - (k + 1)) + 1 := by omega
   unfold codeL
   rw [this, List.range'_succ, List.foldl_cons]
  simp only [QuK, e1, Qad, Qaw, show decide (k < y111.length) = true from decide_eq_true (by omega), Int.toNat_natCast, e2, add1 (show k < 4611686018427387904 by omega)]
  rw [ih _ (by rw [List.length_set]; exact hy)]
  simp only [Qra, Int.toNat_natCast, e3]
theorem QLK : ∀ S l p, Qmt.L 0 (fgt Qhl S) = some (true, l) → pickA l = some p → loopF (Qaj Qmt Qhl Qjd) S = some p :=
 QaB (s := QpY) ⟨by decide, by decide⟩ (by kernel_rfl) fun x y hok p hp => by
 simp only [Qao, Qam] at hp
 exact (QQD x.2.1 x.2.2.1 y.1 (by simpa using hok)).trans hp
theorem QXB : QyV.lok Qmt := by
 repeat (first | exact trivial | exact QLK | refine ⟨?_, ?_⟩)
set_option maxRecDepth 100000 in
theorem s_f133 : QUu = some (.t (.sl Qax) Qcg, []) := by kernel_rfl
def QHx : Ent := spec .nil (fun x => true) (fun x => (.t (.sl Qax) Qcg))
theorem QWj : Meets Tryz.prog 133 (strip QHx) := Qah (R := runF Qmt QyV QIY false) (mG Tryz.func133 (by kernel_rfl) Tryz.ntmps133 (by kernel_rfl) QZm QXB) fun x _ => (e_f133 ).trans (s_f133 )
theorem QEo : (List.length (α := Qax.T) Qcg) = 16 := by kernel_rfl
theorem QoO : llen (α := Qax.T) Qcg = 16 := by kernel_rfl
theorem Qvt {c : Int} (h : 1 ≤ c ∧ c ≤ 16) : cIx (α := Qax.T) Qcg (c - 1) = true := by
 have := QEo
 simp only [cIx, decide_eq_true_eq]
 omega
def QaC (c : Int) : Suite × Int := if c < 1 ∨ 16 < c then (QFw, 8) else (lgt Qax Qcg (c - 1).toNat, 0)
noncomputable def QFR : TC := (.sq (.reg (rT Tryz.f85 0)) (.sq (.reg (rT Tryz.f85 1)) (.sq (.sq (.reg (rT Tryz.f85 2)) (.cd (.t 13) (.sq (.reg (rT Tryz.f85 3)) .rt) .sk)) (.sq (.reg (rT Tryz.f85 4)) .rt))))
def QTD : List (RV × Option Ty) := [((.c 2 true 12), some Qax), ((.t 3), some tI)]
def g_f85 : G := ⟨TYs, [], 20, EL [(133, QHx)], keeps, (fun _ _ => none), IL [], RL []⟩
def r_f85 (p0 : Int) : Option (V × List VO) := br (ilt p0 1) (some (.tu [(.t Qax (0, ((ByteArray.mk #[]), ((0, (0, ())), ((0, (0, ())), ((0, (0, ())), ((0, (0, ())), (0, (0, ()))))))))), (.t tI 8)], [])) (br (igt p0 (llen Qcg)) (some (.tu [(.t Qax (0, ((ByteArray.mk #[]), ((0, (0, ())), ((0, (0, ())), ((0, (0, ())), ((0, (0, ())), (0, (0, ()))))))))), (.t tI 8)], [])) (br (cIx Qcg (isub .i64 p0 1)) (some (.tu [(.t Qax (lgt Qax Qcg (Int.toNat (isub .i64 p0 1)))), (.t tI 0)], [])) none))
theorem e_f85 (p0 : Int) : runF g_f85 QFR QTD false [.t tI p0] [] = r_f85 p0 := by kernel_rfl
theorem QDu : Qai Tryz.prog 85 := .inr ⟨by decide, _, Tryz.func85, by kernel_rfl, by kernel_rfl⟩
theorem gk_f85 : GOk Tryz.prog g_f85 := Qal _ (gA (gC Q0p QWj gN))
theorem lk_f85 : QFR.lok g_f85 := by repeat (first | exact trivial | refine ⟨?_, ?_⟩)
theorem s_f85 (c : Int) : r_f85 c = some (.tu [.t Qax (QaC c).1, .t tI (QaC c).2], []) := by
 simp only [r_f85]
 unfold QaC
 refine QaD (fun h1 => ?_) (fun h1 => QaD (fun h2 => ?_) (fun h2 => ?_))
 ·simp only [ilt, decide_eq_true_eq] at h1
  rw [if_pos (.inl h1)]
  rfl
 ·have h2 := of_decide_eq_true h2
  have := QoO
  rw [if_pos (.inr (by omega))]
  rfl
 ·simp only [ilt, decide_eq_false_iff_not] at h1
  have h2 := of_decide_eq_false h2
  have := QoO
  rw [if_neg (by omega), Qb3 (by omega), Qvt (by omega), Qad]
def QvC : Ent := spec (.pr tI .nil) (fun x => true) (fun x => (.tu [(.t Qax ((QaC x.1).1)), (.t tI ((QaC x.1).2))]))
theorem QB1 : Meets Tryz.prog 85 (strip QvC) := Qah (R := runF g_f85 QFR QTD false) (mG Tryz.func85 (by kernel_rfl) Tryz.ntmps85 (by kernel_rfl) gk_f85 lk_f85) fun x _ => (e_f85 x.1).trans (s_f85 x.1)
noncomputable def Qzd : TC := (.sq (.reg (rT Tryz.f103 0)) (.sq (.sq (.reg (rT Tryz.f103 1)) (.cd (.t 9) (.sq (.reg (rT Tryz.f103 2)) .rt) .sk)) (.sq (.reg (rT Tryz.f103 3)) .rt)))
def QJg : List (RV × Option Ty) := [((.c 2 true 12), some Qax), ((.t 3), some tI)]
def QDh : G := ⟨TYs, [], 16, EL [(144, QHr)], keeps, (fun _ _ => none), IL [], RL []⟩
def QKu (p0 : Int) : Option (V × List VO) := br (ilt p0 1) (some (.tu [(.t Qax (0, ((ByteArray.mk #[]), ((0, (0, ())), ((0, (0, ())), ((0, (0, ())), ((0, (0, ())), (0, (0, ()))))))))), (.t tI 8)], [])) (br (igt p0 16) (some (.tu [(.t Qax (0, ((ByteArray.mk #[]), ((0, (0, ())), ((0, (0, ())), ((0, (0, ())), ((0, (0, ())), (0, (0, ()))))))))), (.t tI 8)], [])) (br (cIx Qcg (isub .i64 p0 1)) (some (.tu [(.t Qax (lgt Qax Qcg (Int.toNat (isub .i64 p0 1)))), (.t tI 0)], [])) none))
theorem e_f103 (p0 : Int) : runF QDh Qzd QJg false [.t tI p0] [] = QKu p0 := by kernel_rfl
theorem QBf : Qai Tryz.prog 103 := .inr ⟨by decide, _, Tryz.func103, by kernel_rfl, by kernel_rfl⟩
theorem QZE : GOk Tryz.prog QDh := Qal _ (gA (gC Q0j QWd gN))
theorem QXT : Qzd.lok QDh := by repeat (first | exact trivial | refine ⟨?_, ?_⟩)
theorem s_f103 (c : Int) : QKu c = some (.tu [.t Qax (QaC c).1, .t tI (QaC c).2], []) := by
 simp only [QKu]
 unfold QaC
 refine QaD (fun h1 => ?_) (fun h1 => QaD (fun h2 => ?_) (fun h2 => ?_))
 ·simp only [ilt, decide_eq_true_eq] at h1
  rw [if_pos (.inl h1)]
  rfl
 ·simp only [igt, decide_eq_true_eq] at h2
  rw [if_pos (.inr (by omega))]
  rfl
 ·simp only [ilt, decide_eq_false_iff_not] at h1
  simp only [igt, decide_eq_false_iff_not] at h2
  rw [if_neg (by omega), Qb3 (by omega), Qvt (by omega), Qad]
def Qtf : Ent := spec (.pr tI .nil) (fun x => true) (fun x => (.tu [(.t Qax ((QaC x.1).1)), (.t tI ((QaC x.1).2))]))
theorem QAn : Meets Tryz.prog 103 (strip Qtf) := Qah (R := runF QDh Qzd QJg false) (mG Tryz.func103 (by kernel_rfl) Tryz.ntmps103 (by kernel_rfl) QZE QXT) fun x _ => (e_f103 x.1).trans (s_f103 x.1)
def Qhu : Fg := ⟨[(0, some (.sl tI)), (1, some tI), (5, some tI)], []⟩
noncomputable def Qjm : TC := (.sq (.sq (.reg (rT Tryz.f104 2)) (.cd (.t 9) .sk (.fg ⟨[], []⟩ (.ex 0)))) (.sq (.bk 1 (.sq (.reg (rT Tryz.f104 3)) (.cd (.t 17) (.sq (.reg (rT Tryz.f104 4)) (.fg ⟨[(4, some .bool)], []⟩ .rt)) .sk))) (.reg (rT Tryz.f104 5))))
noncomputable def Qzc : TC := (.sq (.reg (rT Tryz.f104 0)) (.sq (.sq (.reg (rT Tryz.f104 1)) (.bk 0 (.lp 0 Qhu Qjm))) (.sq (.reg (rT Tryz.f104 6)) .rt)))
def QJf : List (RV × Option Ty) := [((.t 4), some .bool)]
abbrev Qp9 : Sh := ⟨[(0, .ty (.sl tI)), (1, .ty tI), (5, .ty tI)], []⟩
def Qpj (x0 : List Int) (x1 x5 : Int) : VS := Qp9.st (x0, x1, x5, ()) ()
abbrev QtV : Sh := ⟨[(4, .ty .bool)], []⟩
def Qdq (x4 : Bool) : VS := QtV.st (x4, ()) ()
abbrev Qwr : Sh := ⟨[], []⟩
def Qes  : VS := Qwr.st () ()
def QST : VS → Option (Bool × List (Bool × Exit × VS)) := mkL Qp9 (fun x y => (decide (x.1.length ≤ 100000 ∧ 0 ≤ x.2.2.1 ∧ x.2.2.1 ≤ x.1.length))) (fun x y => [(((x.1.drop x.2.2.1.toNat).contains x.2.1), .ret, Qdq (true)), (true, .exit 0, Qes)])
def QmC : G := ⟨TYs, [], 18, EL [], keeps, (Ls [QST]), IL [], RL []⟩
def QEd (x0 : List Int) (x1 x5 : Int) : Option (Exit × VS) := br (ilt x5 (llen x0)) (br (cIx x0 x5) (br (ieq (lgt tI x0 (Int.toNat x5)) x1) (some (.ret, Qdq true)) (some (.normal, Qpj x0 x1 (iadd .i64 x5 1)))) none) (some (.exit 0, Qes))
noncomputable def Qj9 (x0 : List Int) (x1 x5 : Int) : Option (Exit × VS) := loopF (Qaj QmC Qhu Qjm) (Qpj x0 x1 x5)
noncomputable def QnX (x0 : List Int) (x1 x5 : Int) : Option (Exit × VS) := br (ilt x5 (llen x0)) (br (cIx x0 x5) (br (ieq (lgt tI x0 (Int.toNat x5)) x1) (some (.ret, Qdq true)) (Qj9 x0 x1 (iadd .i64 x5 1))) none) (some (.exit 0, Qes))
def QkD (x0 : List Int) (x1 x5 : Int) : Option (Exit × VS) := br ((x0.drop x5.toNat).contains x1) (some (.ret, Qdq (true))) <| some (.exit 0, Qes)
theorem QOl (x0 : List Int) (x1 x5 : Int) : Qaj QmC Qhu Qjm (Qpj x0 x1 x5) = QEd x0 x1 x5 := by kernel_rfl
theorem Qxq (x0 : List Int) (x1 x5 : Int) : Qj9 x0 x1 x5 = QnX x0 x1 x5 := (Qan _ _).trans (by
 rw [QOl]
 simp only [QEd, QnX, Qay, nxt_n, nxt_r, nxt_e, nxt_0]
 rfl)
def QKt (p0 : List Int) (p1 : Int) : Option (V × List VO) := br (decide (p0.length ≤ 100000 ∧ 0 ≤ (0 : Int) ∧ (0 : Int) ≤ p0.length)) (br ((p0.drop (0 : Int).toNat).contains p1) (some (.t .bool (true), [])) (some (.t .bool false, []))) none
theorem e_f104 (p0 : List Int) (p1 : Int) : runF QmC Qzc QJf false [.t (.sl tI) p0, .t tI p1] [] = QKt p0 p1 := by kernel_rfl
theorem QM9 : Qai Tryz.prog 104 := .inr ⟨by decide, _, Tryz.func104, by kernel_rfl, by kernel_rfl⟩
theorem QZD : GOk Tryz.prog QmC := Qal _ (fun p hp => by cases hp)
theorem QQM (x0 : List Int) (x1 x5 : Int) (h : (decide (x0.length ≤ 100000 ∧ 0 ≤ x5 ∧ x5 ≤ x0.length)) = true) : Qj9 x0 x1 x5 = QkD x0 x1 x5 := by
 simp only [decide_eq_true_eq] at h
 obtain ⟨h2, h3, h4⟩ := h
 obtain ⟨k, rfl⟩ := Int.eq_ofNat_of_zero_le h3
 refine Qar x0 (fun k => Qj9 x0 x1 (k : Int) = QkD x0 x1 (k : Int)) ?_ ?_ k (by omega)
 ·rw [Qxq]
  simp [QnX, QkD, Qas, llen, Qaf]
 ·intro k hk ih
  rw [Qxq]
  simp only [QnX, Qas, llen, Qaw, hk, decide_true, Qad, Int.toNat_natCast, add1 (show k < 4611686018427387904 by omega), ih, QaA (y := tI) hk]
  simp only [QkD, Int.toNat_natCast, List.drop_eq_getElem_cons hk, List.contains_cons, ieq]
  have hc : (x1 == x0[k]) = (x0[k] == x1) := Bool.beq_comm
  rw [hc]
  cases x0[k] == x1 <;> rfl
theorem QLT : ∀ S l p, QmC.L 0 (fgt Qhu S) = some (true, l) → pickA l = some p → loopF (Qaj QmC Qhu Qjm) S = some p :=
 QaB (s := Qp9) ⟨by decide, by decide⟩ (by kernel_rfl) fun x y hok p hp => by
 simp only [Qao, Qam] at hp
 exact (QQM x.1 x.2.1 x.2.2.1 (by simpa using hok)).trans hp
theorem QXS : Qzc.lok QmC := by
 repeat (first | exact trivial | exact QLT | refine ⟨?_, ?_⟩)
theorem s_f104 (l : List Int) (n : Int) (h : Qa3 l n = true) : QKt l n = some (.t .bool (hasF l n), []) := by
 simp only [Qa3, decide_eq_true_eq] at h
 simp only [QKt, Int.toNat_zero, List.drop_zero]
 rw [Qk9 ⟨h, Int.le_refl 0, by omega⟩, Qad]
 unfold hasF
 cases l.contains n <;> rfl
def Qzr : Ent := spec (.pr (.sl tI) (.pr tI .nil)) (fun x => (Qa3 x.1 x.2.1)) (fun x => (.t .bool (hasF x.1 x.2.1)))
theorem QLd : Meets Tryz.prog 104 (strip Qzr) := Qah (R := runF QmC Qzc QJf false) (mG Tryz.func104 (by kernel_rfl) Tryz.ntmps104 (by kernel_rfl) QZD QXS) fun x hok => (e_f104 x.1 x.2.1).trans (s_f104 x.1 x.2.1 hok)
theorem QL9 (a b : Keep) : (and (ieq a.1 b.1) (and (ieq a.2.1 b.2.1) true)) = (a == b) := by
 obtain ⟨a1, a2, _⟩ := a
 obtain ⟨b1, b2, _⟩ := b
 show _ = ((a1 == b1) && ((a2 == b2) && true))
 rfl
end
end Go.Proofs.YtckcgijklnloiaaGreat.K
namespace Go.Proofs.YtckcgijklnloiaaGreat.K
open Go.RowKit
noncomputable section
theorem QuY (a b : Int) : ige a b = !ilt a b := by
 simp only [ige, ilt]
 rw [Bool.eq_iff_iff]
 simp
theorem QAM (a b : Int) : ile a b = !igt a b := by
 simp only [ile, igt]
 rw [Bool.eq_iff_iff]
 simp
theorem QiJ (a b : Int) : ine a b = !ieq a b := rfl
theorem brB {q r : Bool} {X : Option (V × List VO)} (h : X = some (.t .bool r, [])) : br q (some (.t .bool false, [])) X = some (.t .bool (!q && r), []) := by
 subst h
 cases q <;> rfl
theorem brA {q r : Bool} {X : Option (V × List VO)} (h : X = some (.t .bool r, [])) : br q X (some (.t .bool false, [])) = some (.t .bool (q && r), []) := by
 subst h
 cases q <;> rfl
theorem br9 {q v : Bool} {n : Int} {X : Option (V × List VO)} (h0 : q = true → v = false) (hX : q = false → X = some (.t tI (bif v then 0 else n), [])) : br q (some (.t tI n, [])) X = some (.t tI (bif v then 0 else n), []) := by
 cases q with
 | true => rw [Qad, h0 rfl]; rfl
 | false => rw [Qaf, hX rfl]
open Classical in
def samB {α : Type} (a b : α) : Bool := decide (a = b)
theorem Qqe {α : Type} (a : α) : samB a a = true := by
 unfold samB
 simp
theorem QzU {α : Type} {a b : α} (h : samB a b = true) : a = b := by
 unfold samB at h
 simpa using h
def keyI (n : Int) : Bool := !ilt n 0 && !igt n 2147483648
noncomputable def Qy5 : TC := (.sq (.reg (rT Tryz.f121 0)) (.sq (.reg (rT Tryz.f121 1)) .rt))
def QI8 : List (RV × Option Ty) := [((.t 2), some .bool)]
def QDf : G := ⟨TYs, [], 9, EL [], keeps, (fun _ _ => none), IL [], RL []⟩
def QKn (p0 : Int) : Option (V × List VO) := br (ige p0 0) (some (.t .bool (ile p0 2147483648), [])) (some (.t .bool false, []))
theorem e_f121 (p0 : Int) : runF QDf Qy5 QI8 false [.t tI p0] [] = QKn p0 := by kernel_rfl
theorem QBa : Qai Tryz.prog 121 := .inr ⟨by decide, _, Tryz.func121, by kernel_rfl, by kernel_rfl⟩
theorem QZw : GOk Tryz.prog QDf := Qal _ (fun p hp => by cases hp)
theorem QXL : Qy5.lok QDf := by repeat (first | exact trivial | refine ⟨?_, ?_⟩)
theorem s_f121 (n : Int) : QKn n = some (.t .bool (keyI n), []) := by
 simp only [QKn, QuY, QAM]
 exact brA rfl
def Qte : Ent := spec (.pr tI .nil) (fun x => true) (fun x => (.t .bool (keyI x.1)))
theorem QAi : Meets Tryz.prog 121 (strip Qte) := Qah (R := runF QDf Qy5 QI8 false) (mG Tryz.func121 (by kernel_rfl) Tryz.ntmps121 (by kernel_rfl) QZw QXL) fun x _ => (e_f121 x.1).trans (s_f121 x.1)
def sumI (n : Int) : Bool := !ilt n 0 && !ige n 4294967296
noncomputable def QyC : TC := (.sq (.reg (rT Tryz.f165 0)) (.sq (.reg (rT Tryz.f165 1)) .rt))
def QIF : List (RV × Option Ty) := [((.t 2), some .bool)]
def QCV : G := ⟨TYs, [], 9, EL [], keeps, (fun _ _ => none), IL [], RL []⟩
def QJ5 (p0 : Int) : Option (V × List VO) := br (ige p0 0) (some (.t .bool (ilt p0 4294967296), [])) (some (.t .bool false, []))
theorem e_f165 (p0 : Int) : runF QCV QyC QIF false [.t tI p0] [] = QJ5 p0 := by kernel_rfl
theorem Q0a : Qai Tryz.prog 165 := .inr ⟨by decide, _, Tryz.func165, by kernel_rfl, by kernel_rfl⟩
theorem QY3 : GOk Tryz.prog QCV := Qal _ (fun p hp => by cases hp)
theorem QXi : QyC.lok QCV := by repeat (first | exact trivial | refine ⟨?_, ?_⟩)
theorem s_f165 (n : Int) : QJ5 n = some (.t .bool (sumI n), []) := by
 simp only [QJ5, sumI, QuY, Bool.not_not]
 exact brA rfl
def QHh : Ent := spec (.pr tI .nil) (fun x => true) (fun x => (.t .bool (sumI x.1)))
theorem QV4 : Meets Tryz.prog 165 (strip QHh) := Qah (R := runF QCV QyC QIF false) (mG Tryz.func165 (by kernel_rfl) Tryz.ntmps165 (by kernel_rfl) QY3 QXi) fun x _ => (e_f165 x.1).trans (s_f165 x.1)
def Qdc (l : List ByteArray) (k : Nat) : Bool := (List.range' k (l.length - k)).all fun j => Qa7 (l.getD j ByteArray.empty) && (decide (j = 0) || slt (l.getD (j - 1) ByteArray.empty) (l.getD j ByteArray.empty))
theorem Qsw (l : List ByteArray) : Qdc l l.length = true := by
 unfold Qdc
 rw [Nat.sub_self]
 rfl
theorem QqA {l : List ByteArray} {k : Nat} (hk : k < l.length) : Qdc l k = ((Qa7 l[k] && (decide (k = 0) || slt (l.getD (k - 1) ByteArray.empty) l[k])) && Qdc l (k + 1)) := by
 have : l.length - k = (l.length - (k + 1)) + 1 := by omega
 unfold Qdc
 rw [this, List.range'_succ, List.all_cons]
 simp only [List.getD_eq_getElem?_getD, List.getElem?_eq_getElem hk, Option.getD_some]
def Qih (l : List ByteArray) : Bool := Qdc l 0 && !igt (llen l) 8
def Qb2 (l : List ByteArray) : Bool := decide (l.length ≤ 100000) && l.all nameG
def Qhg : Fg := ⟨[(0, some (.sl .str)), (5, some (.sl .str)), (6, some tI), (7, some tI)], []⟩
noncomputable def Qi8 : TC := (.sq (.reg (rT Tryz.f163 2)) (.sq (.cd (.t 8) .sk (.fg ⟨[(0, some (.sl .str))], []⟩ (.ex 0))) (.sq (.bk 1 (.sq (.reg (rT Tryz.f163 3)) (.sq (.reg (rT Tryz.f163 4)) (.cd (.t 27) (.sq (.reg (rT Tryz.f163 5)) (.fg ⟨[(2, some .bool)], []⟩ .rt)) .sk)))) (.reg (rT Tryz.f163 6)))))
noncomputable def QyE : TC := (.sq (.reg (rT Tryz.f163 0)) (.sq (.sq (.reg (rT Tryz.f163 1)) (.bk 0 (.lp 0 Qhg Qi8))) (.sq (.reg (rT Tryz.f163 7)) .rt)))
def QIH : List (RV × Option Ty) := [((.t 2), some .bool)]
abbrev QpQ : Sh := ⟨[(0, .ty (.sl .str)), (5, .ty (.sl .str)), (6, .ty tI), (7, .ty tI)], []⟩
def Qjs (x0 x5 : List ByteArray) (x6 x7 : Int) : VS := QpQ.st (x0, x5, x6, x7, ()) ()
abbrev QtJ : Sh := ⟨[(2, .ty .bool)], []⟩
def QbG (x2 : Bool) : VS := QtJ.st (x2, ()) ()
abbrev Qwd : Sh := ⟨[(0, .ty (.sl .str))], []⟩
def Qee (x0 : List ByteArray) : VS := Qwd.st (x0, ()) ()
def QSF : VS → Option (Bool × List (Bool × Exit × VS)) := mkL QpQ (fun x y => (rngOk x.2.1 x.2.2.1 x.2.2.2.1 && samB x.1 x.2.1 && Qb2 x.2.1)) (fun x y => [((!Qdc x.2.1 x.2.2.2.1.toNat), .ret, QbG (false)), (true, .exit 0, Qee (x.1))])
def Qmo : G := ⟨TYs, [], 32, EL [(124, Qtd)], keeps, (Ls [QSF]), IL [], RL []⟩
def QDZ (x0 x5 : List ByteArray) (x6 x7 : Int) : Option (Exit × VS) :=
 let a1 := lgt .str x5 (Int.toNat x7)
 br (ilt x7 x6) (br (cIx x5 x7) (br (nameG a1) (br (!(Qa7 a1)) (some (.ret, QbG false)) (br (igt x7 0) (br (cIx x0 (isub .i64 x7 1)) (br (!slt (lgt .str x0 (Int.toNat (isub .i64 x7 1))) a1) (some (.ret, QbG false)) (some (.normal, Qjs x0 x5 x6 (iadd .i64 x7 1)))) none) (some (.normal, Qjs x0 x5 x6 (iadd .i64 x7 1))))) none) none) (some (.exit 0, Qee x0))
noncomputable def QgT (x0 x5 : List ByteArray) (x6 x7 : Int) : Option (Exit × VS) := loopF (Qaj Qmo Qhg Qi8) (Qjs x0 x5 x6 x7)
noncomputable def QnK (x0 x5 : List ByteArray) (x6 x7 : Int) : Option (Exit × VS) :=
 let a1 := lgt .str x5 (Int.toNat x7)
 br (ilt x7 x6) (br (cIx x5 x7) (br (nameG a1) (br (!(Qa7 a1)) (some (.ret, QbG false)) (br (igt x7 0) (br (cIx x0 (isub .i64 x7 1)) (br (!slt (lgt .str x0 (Int.toNat (isub .i64 x7 1))) a1) (some (.ret, QbG false)) (QgT x0 x5 x6 (iadd .i64 x7 1))) none) (QgT x0 x5 x6 (iadd .i64 x7 1)))) none) none) (some (.exit 0, Qee x0))
def Qkq (x0 x5 : List ByteArray) (x6 x7 : Int) : Option (Exit × VS) := br (!Qdc x5 x7.toNat) (some (.ret, QbG (false))) <| some (.exit 0, Qee (x0))
theorem QN7 (x0 x5 : List ByteArray) (x6 x7 : Int) : Qaj Qmo Qhg Qi8 (Qjs x0 x5 x6 x7) = QDZ x0 x5 x6 x7 := by kernel_rfl
theorem Qxc (x0 x5 : List ByteArray) (x6 x7 : Int) : QgT x0 x5 x6 x7 = QnK x0 x5 x6 x7 := (Qan _ _).trans (by
 rw [QN7]
 simp only [QDZ, QnK, Qay, nxt_n, nxt_r, nxt_e, nxt_0]
 rfl)
def QJ7 (p0 : List ByteArray) : Option (V × List VO) := br (rngOk p0 (llen p0) (0 : Int) && samB p0 p0 && Qb2 p0) (br (!Qdc p0 (0 : Int).toNat) (some (.t .bool (false), [])) (some (.t .bool (ile (llen (p0)) 8), []))) none
theorem e_f163 (p0 : List ByteArray) : runF Qmo QyE QIH false [.t (.sl .str) p0] [] = QJ7 p0 := by kernel_rfl
theorem Q0c : Qai Tryz.prog 163 := .inr ⟨by decide, _, Tryz.func163, by kernel_rfl, by kernel_rfl⟩
theorem QY5 : GOk Tryz.prog Qmo := Qal _ (gA (gC QA9 QAh gN))
theorem QCs {l : List ByteArray} {k : Nat} (h : 0 < k) (hk : k < l.length) : lgt .str l (Int.toNat (isub .i64 (k : Int) 1)) = l.getD (k - 1) ByteArray.empty ∧ cIx l (isub .i64 (k : Int) 1) = decide (k - 1 < l.length) ∨ 4611686018427387904 ≤ k := by
 rcases Nat.lt_or_ge k 4611686018427387904 with hb | hb
 ·left
  have e : isub .i64 (k : Int) 1 = ((k - 1 : Nat) : Int) := by rw [Qb3 (by omega)]; omega
  rw [e, Int.toNat_natCast, Qaw]
  exact ⟨rfl, rfl⟩
 ·exact .inr hb
theorem QQy (x0 x5 : List ByteArray) (x6 x7 : Int) (h : (rngOk x5 x6 x7 && samB x0 x5 && Qb2 x5) = true) : QgT x0 x5 x6 x7 = Qkq x0 x5 x6 x7 := by
 simp only [Bool.and_eq_true] at h
 obtain ⟨⟨h0, hs⟩, hn⟩ := h
 have hs := QzU hs
 subst hs
 obtain ⟨rfl, h3, k, rfl, hk⟩ := rng_k h0
 clear h0
 simp only [Qb2, Bool.and_eq_true, List.all_eq_true] at hn
 refine Qar x0 (fun k => QgT x0 x0 (x0.length : Int) (k : Int) = Qkq x0 x0 (x0.length : Int) (k : Int)) ?_ ?_ k hk
 ·rw [Qxc]
  simp only [QnK, Qkq, Qas, Nat.lt_irrefl, decide_false, Qaf, Int.toNat_natCast, Qsw, Bool.not_true]
 ·intro k hk ih
  rw [Qxc]
  have hx := hn.2 x0[k] (List.getElem_mem hk)
  simp only [QnK, Qas, Qaw, hk, decide_true, Qad, Int.toNat_natCast, add1 (show k < 4611686018427387904 by omega), QaA (y := .str) hk, hx, ih]
  simp only [Qkq, Int.toNat_natCast, QqA hk]
  cases hg : Qa7 x0[k] with
  | false => rfl
  | true =>
   simp only [Bool.not_true, Qaf, Bool.true_and]
   by_cases h0 : k = 0
   ·subst h0
    simp only [show igt ((0 : Nat) : Int) 0 = false from rfl, Qaf, decide_true, Bool.true_or, Bool.true_and]
   ·rcases QCs (l := x0) (k := k) (by omega) hk with ⟨e1, e2⟩ | hb
    ·rw [show igt (k : Int) 0 = true from decide_eq_true (by omega), Qad, e2, decide_eq_true (show k - 1 < x0.length by omega), Qad, e1, decide_eq_false h0, Bool.false_or]
     cases slt (x0.getD (k - 1) ByteArray.empty) x0[k] <;> rfl
    ·omega
theorem QLF : ∀ S l p, Qmo.L 0 (fgt Qhg S) = some (true, l) → pickA l = some p → loopF (Qaj Qmo Qhg Qi8) S = some p :=
 QaB (s := QpQ) ⟨by decide, by decide⟩ (by kernel_rfl) fun x y hok p hp => by
 simp only [Qao, Qam] at hp
 exact (QQy x.1 x.2.1 x.2.2.1 x.2.2.2.1 (by simpa using hok)).trans hp
theorem QXk : QyE.lok Qmo := by
 repeat (first | exact trivial | exact QLF | refine ⟨?_, ?_⟩)
theorem s_f163 (l : List ByteArray) (h : Qb2 l = true) : QJ7 l = some (.t .bool (Qih l), []) := by
 have hl : l.length ≤ 100000 := by simp only [Qb2, Bool.and_eq_true, decide_eq_true_eq] at h; exact h.1
 simp only [QJ7, rng_0 hl, Qqe, h, Bool.and_self, Qad, Int.toNat_zero, QAM, Qih]
 cases Qdc l 0 <;> rfl
def QHj : Ent := spec (.pr (.sl .str) .nil) (fun x => (Qb2 x.1)) (fun x => (.t .bool (Qih x.1)))
theorem QV6 : Meets Tryz.prog 163 (strip QHj) := Qah (R := runF Qmo QyE QIH false) (mG Tryz.func163 (by kernel_rfl) Tryz.ntmps163 (by kernel_rfl) QY5 QXk) fun x hok => (e_f163 x.1).trans (s_f163 x.1 hok)
def kindU (u : Keep) (k : Int) : Bool := QbS u && ieq (kindF u.1) k
noncomputable def QyD : TC := (.sq (.reg (rT Tryz.f164 0)) (.sq (.reg (rT Tryz.f164 1)) .rt))
def QIG : List (RV × Option Ty) := [((.t 4), some .bool)]
def QCW : G := ⟨TYs, [], 14, EL [(125, Qtc), (155, Qta)], keeps, (fun _ _ => none), IL [], RL []⟩
def QJ6 (p0 : Keep) (p1 : Int) : Option (V × List VO) := br (QbS p0) (some (.t .bool (ieq (kindF p0.1) p1), [])) (some (.t .bool false, []))
theorem e_f164 (p0 : Keep) (p1 : Int) : runF QCW QyD QIG false [.t Qag p0, .t tI p1] [] = QJ6 p0 p1 := by kernel_rfl
theorem Q0b : Qai Tryz.prog 164 := .inr ⟨by decide, _, Tryz.func164, by kernel_rfl, by kernel_rfl⟩
theorem QY4 : GOk Tryz.prog QCW := Qal _ (gA (gC QA8 QAg (gC QA5 QAd gN)))
theorem QXj : QyD.lok QCW := by repeat (first | exact trivial | refine ⟨?_, ?_⟩)
theorem s_f164 (u : Keep) (k : Int) : QJ6 u k = some (.t .bool (kindU u k), []) := by
 simp only [QJ6]
 exact brA rfl
def QHi : Ent := spec (.pr Qag (.pr tI .nil)) (fun x => true) (fun x => (.t .bool (kindU x.1 x.2.1)))
theorem QV5 : Meets Tryz.prog 164 (strip QHi) := Qah (R := runF QCW QyD QIG false) (mG Tryz.func164 (by kernel_rfl) Tryz.ntmps164 (by kernel_rfl) QY4 QXj) fun x _ => (e_f164 x.1 x.2.1).trans (s_f164 x.1 x.2.1)
def signU (u : Keep) : Bool := kindU u 2
noncomputable def QyN : TC := (.sq (.reg (rT Tryz.f145 0)) (.sq (.reg (rT Tryz.f145 1)) .rt))
def QIQ : List (RV × Option Ty) := [((.t 2), some .bool)]
def QC3 : G := ⟨TYs, [], 11, EL [(70, QBC), (147, Qzn)], keeps, (fun _ _ => none), IL [], RL []⟩
def QKc (p0 : Keep) : Option (V × List VO) := br (QbS p0) (some (.t .bool (ieq (kindF p0.1) 2), [])) (some (.t .bool false, []))
theorem e_f145 (p0 : Keep) : runF QC3 QyN QIQ false [.t Qag p0] [] = QKc p0 := by kernel_rfl
theorem QM6 : Qai Tryz.prog 145 := .inr ⟨by decide, _, Tryz.func145, by kernel_rfl, by kernel_rfl⟩
theorem QZe : GOk Tryz.prog QC3 := Qal _ (gA (gC QMN QKZ (gC QM5 QK9 gN)))
theorem QXt : QyN.lok QC3 := by repeat (first | exact trivial | refine ⟨?_, ?_⟩)
theorem s_f145 (u : Keep) : QKc u = some (.t .bool (signU u), []) := by
 simp only [QKc]
 exact brA rfl
def Qzo : Ent := spec (.pr Qag .nil) (fun x => true) (fun x => (.t .bool (signU x.1)))
theorem QLa : Meets Tryz.prog 145 (strip Qzo) := Qah (R := runF QC3 QyN QIQ false) (mG Tryz.func145 (by kernel_rfl) Tryz.ntmps145 (by kernel_rfl) QZe QXt) fun x _ => (e_f145 x.1).trans (s_f145 x.1)
abbrev QaF (c : Qaa) : List ByteArray := c.2.2.2.2.2.2.2.2.2.2.1
abbrev cSeal (c : Qaa) : Keep := c.2.2.2.2.2.2.2.2.2.2.2.1
def QaI (c : Qaa) : Bool := nameG c.2.1 && (nameG c.2.2.1 && Qb2 (QaF c))
def QaE (c : Qaa) : Bool :=
 !ilt c.1 0 && (!igt c.1 1099511627776 && (Qa7 c.2.1 && (Qa7 c.2.2.1 && (Qih (QaF c) && (kindU c.2.2.2.1 2 && (keyI c.2.2.2.2.1 && (kindU c.2.2.2.2.2.1 1 && (keyI (cSeal c).1 && (sumI (cSeal c).2.1 &&
 (!ilt c.2.2.2.2.2.2.1 0 && (!igt c.2.2.2.2.2.2.1 c.2.2.2.2.2.2.2.1 && (!igt c.2.2.2.2.2.2.2.1 40000 && (!ilt c.2.2.2.2.2.2.2.2.2.1 0 && (!igt c.2.2.2.2.2.2.2.2.2.1 8 && (c.2.2.2.2.2.2.2.2.1 || ieq c.2.2.2.2.2.2.2.2.2.1 0)))))))))))))))
noncomputable def QyU : TC := (.sq (.reg (rT Tryz.f138 0)) (.sq (.sq (.reg (rT Tryz.f138 1)) (.cd (.t 28) (.sq (.reg (rT Tryz.f138 2)) .rt) .sk)) (.sq (.sq (.reg (rT Tryz.f138 3)) (.cd (.t 58) (.sq (.reg (rT Tryz.f138 4)) .rt) .sk)) (.sq (.sq (.reg (rT Tryz.f138 5)) (.cd (.t 73) (.sq (.reg (rT Tryz.f138 6)) .rt) .sk)) (.sq (.reg (rT Tryz.f138 7)) .rt)))))
def QIX : List (RV × Option Ty) := [((.t 2), some .bool)]
def QC8 : G := ⟨TYs, [], 91, EL [(121, Qte), (124, Qtd), (163, QHj), (164, QHi), (165, QHh)], keeps, (fun _ _ => none), IL [], RL []⟩
def QKi (p0 : Qaa) : Option (V × List VO) := br (ilt p0.1 0) (some (.t .bool false, [])) (br (igt p0.1 1099511627776) (some (.t .bool false, [])) (br (nameG p0.2.1) (br (!(Qa7 p0.2.1)) (some (.t .bool false, [])) (br (nameG p0.2.2.1) (br (!(Qa7 p0.2.2.1)) (some (.t .bool false, [])) (br (Qb2 p0.2.2.2.2.2.2.2.2.2.2.1) (br (!(Qih p0.2.2.2.2.2.2.2.2.2.2.1)) (some (.t .bool false, [])) (br (!(kindU p0.2.2.2.1 2)) (some (.t .bool false, [])) (br (!(keyI p0.2.2.2.2.1)) (some (.t .bool false, [])) (br (!(kindU p0.2.2.2.2.2.1 1)) (some (.t .bool false, [])) (br (!(keyI p0.2.2.2.2.2.2.2.2.2.2.2.1.1)) (some (.t .bool false, [])) (br (!(sumI p0.2.2.2.2.2.2.2.2.2.2.2.1.2.1)) (some (.t .bool false, [])) (br (ilt p0.2.2.2.2.2.2.1 0) (some (.t .bool false, [])) (br (igt p0.2.2.2.2.2.2.1 p0.2.2.2.2.2.2.2.1) (some (.t .bool false, [])) (br (igt p0.2.2.2.2.2.2.2.1 40000) (some (.t .bool false, [])) (br (ige p0.2.2.2.2.2.2.2.2.2.1 0) (br (ile p0.2.2.2.2.2.2.2.2.2.1 8) (br (p0.2.2.2.2.2.2.2.2.1) (some (.t .bool true, [])) (some (.t .bool (ieq p0.2.2.2.2.2.2.2.2.2.1 0), []))) (some (.t .bool false, []))) (some (.t .bool false, [])))))))))))) none)) none)) none))
theorem e_f138 (p0 : Qaa) : runF QC8 QyU QIX false [.t Qac p0] [] = QKi p0 := by kernel_rfl
theorem QM8 : Qai Tryz.prog 138 := .inr ⟨by decide, _, Tryz.func138, by kernel_rfl, by kernel_rfl⟩
theorem QZl : GOk Tryz.prog QC8 := Qal _ (gA (gC QBa QAi (gC QA9 QAh (gC Q0c QV6 (gC Q0b QV5 (gC Q0a QV4 gN))))))
theorem QXA : QyU.lok QC8 := by repeat (first | exact trivial | refine ⟨?_, ?_⟩)
theorem s_f138 (c : Qaa) (h : QaI c = true) : QKi c = some (.t .bool (QaE c), []) := by
 simp only [QaI, Bool.and_eq_true] at h
 obtain ⟨h1, h2, h3⟩ := h
 simp only [QKi, h1, h2, h3, Qad, QuY, QAM]
 refine (brB <| brB <| brB <| brB <| brB <| brB <| brB <| brB <| brB <| brB <| brB <| brB <| brB <| brA <| brA (r := c.2.2.2.2.2.2.2.2.1 || ieq c.2.2.2.2.2.2.2.2.2.1 0) ?_).trans ?_
 ·cases c.2.2.2.2.2.2.2.2.1 <;> rfl
 ·simp only [Bool.not_not, QaE]
def Qzq : Ent := spec (.pr Qac .nil) (fun x => (QaI x.1)) (fun x => (.t .bool (QaE x.1)))
theorem QLc : Meets Tryz.prog 138 (strip Qzq) := Qah (R := runF QC8 QyU QIX false) (mG Tryz.func138 (by kernel_rfl) Tryz.ntmps138 (by kernel_rfl) QZl QXA) fun x hok => (e_f138 x.1).trans (s_f138 x.1 hok)
def QdO (c : Qaa) : Int := bif QaE c then 0 else 9
theorem Qfb (c : Qaa) : ine (QdO c) 0 = !QaE c := by
 unfold QdO
 cases QaE c <;> rfl
noncomputable def QFM : TC := (.sq (.reg (rT Tryz.f96 0)) (.sq (.sq (.reg (rT Tryz.f96 1)) (.cd (.t 5) (.sq (.reg (rT Tryz.f96 2)) .rt) .sk)) (.sq (.reg (rT Tryz.f96 3)) .rt)))
def QTy : List (RV × Option Ty) := [((.t 2), some tI)]
def g_f96 : G := ⟨TYs, [], 6, EL [(138, Qzq)], keeps, (fun _ _ => none), IL [], RL []⟩
def r_f96 (p0 : Qaa) : Option (V × List VO) := br (QaI p0) (br (!(QaE p0)) (some (.t tI 9, [])) (some (.t tI 0, []))) none
theorem e_f96 (p0 : Qaa) : runF g_f96 QFM QTy false [.t Qac p0] [] = r_f96 p0 := by kernel_rfl
theorem QUR : Qai Tryz.prog 96 := .inr ⟨by decide, _, Tryz.func96, by kernel_rfl, by kernel_rfl⟩
theorem gk_f96 : GOk Tryz.prog g_f96 := Qal _ (gA (gC QM8 QLc gN))
theorem lk_f96 : QFM.lok g_f96 := by repeat (first | exact trivial | refine ⟨?_, ?_⟩)
theorem s_f96 (c : Qaa) (h : QaI c = true) : r_f96 c = some (.t tI (QdO c), []) := by
 simp only [r_f96, h, Qad, QdO]
 cases QaE c <;> rfl
def QGB : Ent := spec (.pr Qac .nil) (fun x => (QaI x.1)) (fun x => (.t tI (QdO x.1)))
theorem QUB : Meets Tryz.prog 96 (strip QGB) := Qah (R := runF g_f96 QFM QTy false) (mG Tryz.func96 (by kernel_rfl) Tryz.ntmps96 (by kernel_rfl) gk_f96 lk_f96) fun x hok => (e_f96 x.1).trans (s_f96 x.1 hok)
noncomputable def QNq : List DO := dT Tryz.f130 9
def Qhn : Fg := ⟨[(1, none), (3, some tI)], [(1, some Qac)]⟩
noncomputable def Qjf : TC := (.sq (.sq (.reg (rT Tryz.f130 8)) (.cd (.t 96) .sk (.fg ⟨[(1, none)], [(1, some Qac)]⟩ (.ex 0)))) (.sq (.bk 1 (.sq (.dr QNq [(0, [1]), (1, [1]), (2, []), (3, []), (4, []), (5, []), (6, []), (7, []), (8, []), (9, []), (10, []), (11, [1]), (12, [1]), (13, []), (14, []), (15, []), (16, []), (17, [1]), (18, [1]), (19, []), (20, []), (21, []), (22, []), (23, []), (24, [])] (.of [0, 1, 2, 3, 4, 5, 6, 7, 8, 9, 10, 11, 12, 13, 14, 15, 16, 17, 18, 19, 20, 21, 22, 23, 24])) (.cd (.t 123) (.sq (.reg (rT Tryz.f130 10)) (.fg ⟨[(2, some tI)], []⟩ .rt)) .sk))) (.reg (rT Tryz.f130 11))))
noncomputable def QyY : TC := (.sq (.reg (rT Tryz.f130 0)) (.sq (.sq (.reg (rT Tryz.f130 1)) (.cd (.t 39) (.sq (.reg (rT Tryz.f130 2)) .rt) .sk)) (.sq (.sq (.reg (rT Tryz.f130 3)) (.cd (.t 67) (.sq (.reg (rT Tryz.f130 4)) .rt) .sk)) (.sq (.sq (.reg (rT Tryz.f130 5)) (.cd (.t 91) (.sq (.reg (rT Tryz.f130 6)) .rt) .sk)) (.sq (.sq (.reg (rT Tryz.f130 7)) (.bk 0 (.lp 0 Qhn Qjf))) (.sq (.sq (.reg (rT Tryz.f130 12)) (.cd (.t 145) (.sq (.reg (rT Tryz.f130 13)) .rt) .sk)) (.sq (.reg (rT Tryz.f130 14)) .rt)))))))
def QI1 : List (RV × Option Ty) := [((.t 2), some tI)]
abbrev Qp0 : Sh := ⟨[(1, .ptr 1 0), (3, .ty tI)], [(1, .box Qac)]⟩
def Qjt (x3 : Int) (y1 : Qaa) : VS := Qp0.st ((), x3, ()) (y1, ())
abbrev QtO : Sh := ⟨[(2, .ty tI)], []⟩
def QbI (x2 : Int) : VS := QtO.st (x2, ()) ()
abbrev Qwk : Sh := ⟨[(1, .ptr 1 0)], [(1, .box Qac)]⟩
def Qel (y1 : Qaa) : VS := Qwk.st ((), ()) (y1, ())
def QSM : VS → Option (Bool × List (Bool × Exit × VS)) := mkL Qp0 (fun x y => (decide (0 ≤ x.2.1 ∧ x.2.1 ≤ (QaF y.1).length) && Qb2 (QaF y.1))) (fun x y => [((!Qdc (QaF y.1) x.2.1.toNat), .ret, QbI (9)), (true, .exit 0, Qel (y.1))])
def Qmv : G := ⟨TYs, [], 146, EL [(70, QBC), (145, Qzo), (146, QHq), (147, Qzn)], keeps, (Ls [QSM]), IL [], RL []⟩
def QD6 (x3 : Int) (y1 : Qaa) : Option (Exit × VS) :=
 let a1 := lgt .str y1.2.2.2.2.2.2.2.2.2.2.1 (Int.toNat x3)
 let a2 := cIx y1.2.2.2.2.2.2.2.2.2.2.1 x3
 br (ilt x3 (llen y1.2.2.2.2.2.2.2.2.2.2.1)) (br a2 (br (nameG a1) (br (!(Qa7 a1)) (some (.ret, QbI 9)) (br (igt x3 0) (br (cIx y1.2.2.2.2.2.2.2.2.2.2.1 (isub .i64 x3 1)) (br a2 (br (!slt (lgt .str y1.2.2.2.2.2.2.2.2.2.2.1 (Int.toNat (isub .i64 x3 1))) a1) (some (.ret, QbI 9)) (some (.normal, Qjt (iadd .i64 x3 1) y1))) none) none) (some (.normal, Qjt (iadd .i64 x3 1) y1)))) none) none) (some (.exit 0, Qel y1))
noncomputable def QgU (x3 : Int) (y1 : Qaa) : Option (Exit × VS) := loopF (Qaj Qmv Qhn Qjf) (Qjt x3 y1)
noncomputable def QnQ (x3 : Int) (y1 : Qaa) : Option (Exit × VS) :=
 let a1 := lgt .str y1.2.2.2.2.2.2.2.2.2.2.1 (Int.toNat x3)
 let a2 := cIx y1.2.2.2.2.2.2.2.2.2.2.1 x3
 br (ilt x3 (llen y1.2.2.2.2.2.2.2.2.2.2.1)) (br a2 (br (nameG a1) (br (!(Qa7 a1)) (some (.ret, QbI 9)) (br (igt x3 0) (br (cIx y1.2.2.2.2.2.2.2.2.2.2.1 (isub .i64 x3 1)) (br a2 (br (!slt (lgt .str y1.2.2.2.2.2.2.2.2.2.2.1 (Int.toNat (isub .i64 x3 1))) a1) (some (.ret, QbI 9)) (QgU (iadd .i64 x3 1) y1)) none) none) (QgU (iadd .i64 x3 1) y1))) none) none) (some (.exit 0, Qel y1))
def Qkw (x3 : Int) (y1 : Qaa) : Option (Exit × VS) := br (!Qdc (QaF y1) x3.toNat) (some (.ret, QbI (9))) <| some (.exit 0, Qel (y1))
theorem QOe (x3 : Int) (y1 : Qaa) : Qaj Qmv Qhn Qjf (Qjt x3 y1) = QD6 x3 y1 := by kernel_rfl
theorem Qxj (x3 : Int) (y1 : Qaa) : QgU x3 y1 = QnQ x3 y1 := (Qan _ _).trans (by
 rw [QOe]
 simp only [QD6, QnQ, Qay, nxt_n, nxt_r, nxt_e, nxt_0]
 rfl)
def Qul (p0 : Qaa) : Option (V × List VO) :=
 let a1 := (((((((((((((p0).2).2).2).2).2).2).2).2).2).2).2).1)
 br (igt (llen p0.2.2.2.2.2.2.2.2.2.2.1) 8) (some (.t tI 9, [])) (br (decide (0 ≤ (0 : Int) ∧ (0 : Int) ≤ (QaF p0).length) && Qb2 (QaF p0)) (br (!Qdc (QaF p0) (0 : Int).toNat) (some (.t tI (9), [])) (br (ilt (a1.1) 0) (some (.t tI 9, [])) (br (igt (a1.1) 2147483648) (some (.t tI 9, [])) (br (ilt ((a1.2).1) 0) (some (.t tI 9, [])) (br (ige ((a1.2).1) 4294967296) (some (.t tI 9, [])) (some (.t tI 0, []))))))) none)
def QKk (p0 : Qaa) : Option (V × List VO) := br (ilt p0.1 0) (some (.t tI 9, [])) (br (igt p0.1 1099511627776) (some (.t tI 9, [])) (br (nameG p0.2.1) (br (!(Qa7 p0.2.1)) (some (.t tI 9, [])) (br (nameG p0.2.2.1) (br (!(Qa7 p0.2.2.1)) (some (.t tI 9, [])) (br (!(signU p0.2.2.2.1)) (some (.t tI 9, [])) (br (ilt p0.2.2.2.2.1 0) (some (.t tI 9, [])) (br (igt p0.2.2.2.2.1 2147483648) (some (.t tI 9, [])) (br (!(QbS p0.2.2.2.2.2.1)) (some (.t tI 9, [])) (br (ine (kindF p0.2.2.2.2.2.1.1) 1) (some (.t tI 9, [])) (br (ilt p0.2.2.2.2.2.2.1 0) (some (.t tI 9, [])) (br (igt p0.2.2.2.2.2.2.1 p0.2.2.2.2.2.2.2.1) (some (.t tI 9, [])) (br (igt p0.2.2.2.2.2.2.2.1 40000) (some (.t tI 9, [])) (br (ilt p0.2.2.2.2.2.2.2.2.2.1 0) (some (.t tI 9, [])) (br (igt p0.2.2.2.2.2.2.2.2.2.1 8) (some (.t tI 9, [])) (br (!p0.2.2.2.2.2.2.2.2.1) (br (ine p0.2.2.2.2.2.2.2.2.2.1 0) (some (.t tI 9, [])) (Qul p0)) (Qul p0))))))))))))) none)) none))
theorem e_f130 (p0 : Qaa) : runF Qmv QyY QI1 false [.t Qac p0] [] = QKk p0 := by kernel_rfl
theorem QA7 : Qai Tryz.prog 130 := .inr ⟨by decide, _, Tryz.func130, by kernel_rfl, by kernel_rfl⟩
theorem QZp : GOk Tryz.prog Qmv := Qal _ (gA (gC QMN QKZ (gC QM6 QLa (gC Q0i QWc (gC QM5 QK9 gN)))))
theorem QQF (x3 : Int) (y1 : Qaa) (h : (decide (0 ≤ x3 ∧ x3 ≤ (QaF y1).length) && Qb2 (QaF y1)) = true) : QgU x3 y1 = Qkw x3 y1 := by
 simp only [Bool.and_eq_true, decide_eq_true_eq] at h
 obtain ⟨⟨h0, h1⟩, hn⟩ := h
 obtain ⟨k, rfl⟩ := Int.eq_ofNat_of_zero_le h0
 simp only [Qb2, Bool.and_eq_true, List.all_eq_true, decide_eq_true_eq] at hn
 refine Qar (QaF y1) (fun k => QgU (k : Int) y1 = Qkw (k : Int) y1) ?_ ?_ k (by omega)
 ·rw [Qxj]
  simp only [QnQ, Qkw, show ilt ((QaF y1).length : Int) (llen (QaF y1)) = false from decide_eq_false (by simp only [llen]; omega), Qaf, Int.toNat_natCast, Qsw, Bool.not_true]
 ·intro k hk ih
  rw [Qxj]
  have hx := hn.2 (QaF y1)[k] (List.getElem_mem hk)
  simp only [QnQ, show ilt (k : Int) (llen (QaF y1)) = true from decide_eq_true (by simp only [llen]; omega), Qaw, hk, decide_true, Qad, Int.toNat_natCast, add1 (show k < 4611686018427387904 by omega), QaA (y := .str) hk, hx, ih]
  simp only [Qkw, Int.toNat_natCast, QqA hk]
  cases hg : Qa7 (QaF y1)[k] with
  | false => rfl
  | true =>
   simp only [Bool.not_true, Qaf, Bool.true_and]
   by_cases h0 : k = 0
   ·subst h0
    simp only [show igt ((0 : Nat) : Int) 0 = false from rfl, Qaf, decide_true, Bool.true_or, Bool.true_and]
   ·rcases QCs (l := QaF y1) (k := k) (by omega) hk with ⟨e1, e2⟩ | hb
    ·rw [show igt (k : Int) 0 = true from decide_eq_true (by omega), Qad, e2, decide_eq_true (show k - 1 < (QaF y1).length by omega), Qad, e1, decide_eq_false h0, Bool.false_or]
     cases slt ((QaF y1).getD (k - 1) ByteArray.empty) (QaF y1)[k] <;> rfl
    ·omega
theorem QLM : ∀ S l p, Qmv.L 0 (fgt Qhn S) = some (true, l) → pickA l = some p → loopF (Qaj Qmv Qhn Qjf) S = some p :=
 QaB (s := Qp0) ⟨by decide, by decide⟩ (by kernel_rfl) fun x y hok p hp => by
 simp only [Qao, Qam] at hp
 exact (QQF x.2.1 y.1 (by simpa using hok)).trans hp
theorem QXE : QyY.lok Qmv := by
 repeat (first | exact trivial | exact QLM | refine ⟨?_, ?_⟩)
theorem s_f130 (c : Qaa) (h : QaI c = true) : QKk c = some (.t tI (QdO c), []) := by
 simp only [QaI, Bool.and_eq_true] at h
 obtain ⟨h1, h2, h3⟩ := h
 have hd : decide ((0 : Int) ≤ 0 ∧ (0 : Int) ≤ (QaF c).length) = true := decide_eq_true (by omega)
 unfold QdO
 simp only [QKk, Qul, h1, h2, h3, hd, Bool.and_self, Qad, Int.toNat_zero, QiJ]
 refine br9 (fun g => by simp [QaE, g]) fun g1 => br9 (fun g => by simp [QaE, g]) fun g2 => br9 (fun g => by simp only [Bool.not_eq_true'] at g; simp [QaE, g]) fun g3 => br9 (fun g => by simp only [Bool.not_eq_true'] at g; simp [QaE, g]) fun g4 => br9 (fun g => by simp only [Bool.not_eq_true', signU] at g; simp [QaE, g]) fun g5 => br9 (fun g => by simp [QaE, keyI, g]) fun g6 => br9 (fun g => by simp [QaE, keyI, g]) fun g7 => br9 (fun g => by simp only [Bool.not_eq_true'] at g; simp [QaE, kindU, g]) fun g8 => br9 (fun g => by simp only [Bool.not_eq_true'] at g; simp [QaE, kindU, g]) fun g9 => br9 (fun g => by simp [QaE, g]) fun g10 => br9 (fun g => by simp [QaE, g]) fun g11 => br9 (fun g => by simp [QaE, g]) fun g12 => br9 (fun g => by simp [QaE, g]) fun g13 => br9 (fun g => by simp [QaE, g]) fun g14 => ?_
 have tail : ∀ (hp : (c.2.2.2.2.2.2.2.2.1 || ieq c.2.2.2.2.2.2.2.2.2.1 0) = true), br (igt (llen (QaF c)) 8) (some (V.t tI 9, ([] : List VO))) (br (!Qdc (QaF c) 0) (some (V.t tI 9, [])) (br (ilt (cSeal c).1 0) (some (V.t tI 9, [])) (br (igt (cSeal c).1 2147483648) (some (V.t tI 9, [])) (br (ilt (cSeal c).2.1 0) (some (V.t tI 9, [])) (br (ige (cSeal c).2.1 4294967296) (some (V.t tI 9, [])) (some (V.t tI 0, []))))))) = some (V.t tI (bif QaE c then 0 else 9), ([] : List VO)) := by
  intro hp
  refine br9 (fun g => by simp [QaE, Qih, g]) fun g15 => br9 (fun g => by simp only [Bool.not_eq_true'] at g; simp [QaE, Qih, g]) fun g16 => br9 (fun g => by simp [QaE, keyI, g]) fun g17 => br9 (fun g => by simp [QaE, keyI, g]) fun g18 => br9 (fun g => by simp [QaE, sumI, g]) fun g19 => br9 (fun g => by simp [QaE, sumI, g]) fun g20 => ?_
  simp only [Bool.not_eq_false'] at g3 g4 g5 g8 g9 g16
  simp only [signU] at g5
  have : QaE c = true := by
   simp only [QaE, Qih, kindU, keyI, sumI, g1, g2, g3, g4, g6, g7, g8, g9, g10, g11, g12, g13, g14, g15, g16, g17, g18, g19, g20, hp, Bool.not_false, Bool.and_self, Bool.true_and]
   simpa only [kindU, Bool.and_true] using g5
  rw [this]
  rfl
 cases ha : c.2.2.2.2.2.2.2.2.1 with
 | true =>
  rw [Bool.not_true, Qaf]
  exact tail (by rw [ha]; rfl)
 | false =>
  rw [Bool.not_false, Qad]
  refine br9 (fun g => by simp only [Bool.not_eq_true'] at g; simp [QaE, ha, g]) fun g => ?_
  exact tail (by simp only [Bool.not_eq_false'] at g; rw [g, Bool.or_true])
def Qtb : Ent := spec (.pr Qac .nil) (fun x => (QaI x.1)) (fun x => (.t tI (QdO x.1)))
theorem QAf : Meets Tryz.prog 130 (strip Qtb) := Qah (R := runF Qmv QyY QI1 false) (mG Tryz.func130 (by kernel_rfl) Tryz.ntmps130 (by kernel_rfl) QZp QXE) fun x hok => (e_f130 x.1).trans (s_f130 x.1 hok)
end
end Go.Proofs.YtckcgijklnloiaaGreat.K
namespace Go.Proofs.YtckcgijklnloiaaGreat.K
open Go.RowKit
noncomputable section
theorem QUA (n : Int) : (intL n).length ≤ 8 := by
 rw [intL, QrJ]
 exact QwO n
theorem QiH (n : Nat) (m : Int) : okT (n + 1) (intT m) = true := by
 have := QUA m
 show okV (n + 1) (.mk 2 (intL m) false []) = true
 simp only [okV, List.isEmpty_nil, cond_false, List.all_nil, Bool.and_true, List.length_nil]
 rw [decide_eq_true (by omega)]
 rfl
theorem Quo (n : Nat) {s : ByteArray} (h : s.size ≤ 100000) : okT (n + 1) (txtT s) = true := by
 have := QcH s
 show okV (n + 1) (.mk 12 (QaG s) false []) = true
 simp only [okV, List.isEmpty_nil, cond_false, List.all_nil, Bool.and_true, List.length_nil]
 rw [decide_eq_true (by omega)]
 rfl
theorem QPw (n : Nat) (b : Bool) : okT (n + 1) (boolT b) = true := by cases b <;> rfl
theorem Qz4 {n : Nat} {l : List ValT} (hl : l.length ≤ 100000) (h : ∀ x ∈ l, okT n x = true) : okT (n + 1) (lstT l) = true := by
 show okV (n + 1) (.mk 48 [] true (l.map Val.of)) = true
 simp only [okV, List.isEmpty_nil, cond_true, Bool.and_true, List.length_nil, List.length_map, Bool.and_eq_true, List.all_eq_true, List.mem_map]
 refine ⟨⟨⟨rfl, rfl⟩, decide_eq_true ⟨by omega, hl⟩⟩, ?_⟩
 rintro v ⟨x, hx, rfl⟩
 exact h x hx
theorem QrF {n : Nat} {l : List ValT} (hl : l.length ≤ 100000) (h : ∀ x ∈ l, okT n x = true) : copLF (n + 1) l = true := by
 simp only [copLF, Bool.and_eq_true, decide_eq_true_eq, List.all_eq_true]
 exact ⟨hl, h⟩
theorem Qlk (x : ValT) : ((x.1, (x.2.1, (x.2.2.1, (List.map Val.of (List.map Val.un x.2.2.2.1), ())))) : ValT) = x := by
 rw [QcU]
theorem QiK (m : Int) : (encT (intT m)).length ≤ 18 := by
 have h1 := QUA m
 have h2 := QhW ((intL m).length + 0)
 rw [Qrt]
 simp only [intT, encVs, List.length_cons, List.length_append, List.length_nil]
 omega
theorem QAZ (s : ByteArray) : (encT (txtT s)).length ≤ 10 + s.size := by
 have h1 := QcH s
 have h2 := QhW ((QaG s).length + 0)
 rw [Qrt]
 simp only [txtT, encVs, List.length_cons, List.length_append, List.length_nil]
 omega
theorem QQ5 (b : Bool) : (encT (boolT b)).length ≤ 11 := by cases b <;> decide
theorem QA0 (l : List ValT) : (encT (lstT l)).length ≤ 10 + (encL l).length := by
 have h2 := QhW (0 + (encVs (l.map Val.of)).length)
 rw [Qrt]
 simp only [lstT, encL, List.length_cons, List.length_append, List.length_nil]
 omega
def useT (u : Keep) : ValT := lstT [intT u.1, intT u.2.1]
def QdQ (u : Keep) : Bool := i64Ok u.1 && i64Ok u.2.1
theorem QKH (n : Nat) (u : Keep) : okT (n + 2) (useT u) = true :=
 Qz4 (by simp) fun x hx => by
  simp only [List.mem_cons, List.not_mem_nil, or_false] at hx
  rcases hx with rfl | rfl <;> exact QiH _ _
theorem QME (u : Keep) : (encT (useT u)).length ≤ 46 := by
 have h0 := QA0 [intT u.1, intT u.2.1]
 have h1 := QiK u.1
 have h2 := QiK u.2.1
 simp only [Qct, Qh8, List.length_append, List.length_nil] at h0
 unfold useT
 omega
theorem QFF (u : Keep) : copOk [intT u.1, intT u.2.1] = true :=
 QrF (n := 11) (by simp) fun x hx => by
  simp only [List.mem_cons, List.not_mem_nil, or_false] at hx
  rcases hx with rfl | rfl <;> exact QiH _ _
noncomputable def QNi : List DO := dT Tryz.f225 1
noncomputable def Qx8 : TC := (.sq (.reg (rT Tryz.f225 0)) (.sq (.dr QNi [(0, [1]), (1, [1]), (2, []), (3, [1]), (4, [1]), (5, []), (6, []), (7, []), (8, [2])] (.of [0, 1, 2, 3, 4, 5, 6, 7, 8])) .rt))
def QIb : List (RV × Option Ty) := [((.c 2 true 4), some Qak)]
def QCD : G := ⟨TYs, [], 11, EL [(223, Qs9), (224, Qzj)], keeps, (fun _ _ => none), IL [], RL []⟩
def QJG (p0 : Keep) : Option (V × List VO) :=
 let a1 := ((intT p0.2.1).1, (((intT p0.2.1).2).1, ((((intT p0.2.1).2).2).1, ((List.map Val.of (List.map Val.un (((((intT p0.2.1).2).2).2).1))), ()))))
 let a2 := ((intT p0.1).1, (((intT p0.1).2).1, ((((intT p0.1).2).2).1, ((List.map Val.of (List.map Val.un (((((intT p0.1).2).2).2).1))), ()))))
 br (i64Ok p0.1) (br (i64Ok p0.2.1) (br (copOk ([a2, a1])) (some (.t Qak (lstT ([a2, a1])), [])) none) none) none
theorem e_f225 (p0 : Keep) : runF QCD Qx8 QIb false [.t Qag p0] [] = QJG p0 := by kernel_rfl
theorem QZQ : Qai Tryz.prog 225 := .inr ⟨by decide, _, Tryz.func225, by kernel_rfl, by kernel_rfl⟩
theorem QYz : GOk Tryz.prog QCD := Qal _ (gA (gC QA3 QAb (gC QMV QK5 gN)))
theorem QWO : Qx8.lok QCD := by repeat (first | exact trivial | refine ⟨?_, ?_⟩)
theorem s_f225 (u : Keep) (h : QdQ u = true) : QJG u = some (.t Qak (useT u), []) := by
 simp only [QdQ, Bool.and_eq_true] at h
 simp only [QJG, h.1, h.2, Qlk, QFF, Qad]
 rfl
def QGR : Ent := spec (.pr Qag .nil) (fun x => (QdQ x.1)) (fun x => (.t Qak (useT x.1)))
theorem QVE : Meets Tryz.prog 225 (strip QGR) := Qah (R := runF QCD Qx8 QIb false) (mG Tryz.func225 (by kernel_rfl) Tryz.ntmps225 (by kernel_rfl) QYz QWO) fun x hok => (e_f225 x.1).trans (s_f225 x.1 hok)
noncomputable def QNk : List DO := dT Tryz.f188 1
noncomputable def Qyo : TC := (.sq (.reg (rT Tryz.f188 0)) (.sq (.dr QNk [(0, [1]), (1, [1]), (2, []), (3, [1]), (4, [1]), (5, []), (6, []), (7, []), (8, [2])] (.of [0, 1, 2, 3, 4, 5, 6, 7, 8])) .rt))
def QIr : List (RV × Option Ty) := [((.c 2 true 4), some Qak)]
def QCN : G := ⟨TYs, [], 11, EL [(186, Qzl), (187, Qzk)], keeps, (fun _ _ => none), IL [], RL []⟩
def QJU (p0 : Keep) : Option (V × List VO) :=
 let a1 := ((intT p0.2.1).1, (((intT p0.2.1).2).1, ((((intT p0.2.1).2).2).1, ((List.map Val.of (List.map Val.un (((((intT p0.2.1).2).2).2).1))), ()))))
 let a2 := ((intT p0.1).1, (((intT p0.1).2).1, ((((intT p0.1).2).2).1, ((List.map Val.of (List.map Val.un (((((intT p0.1).2).2).2).1))), ()))))
 br (i64Ok p0.1) (br (i64Ok p0.2.1) (br (copOk ([a2, a1])) (some (.t Qak (lstT ([a2, a1])), [])) none) none) none
theorem e_f188 (p0 : Keep) : runF QCN Qyo QIr false [.t Qag p0] [] = QJU p0 := by kernel_rfl
theorem QZ1 : Qai Tryz.prog 188 := .inr ⟨by decide, _, Tryz.func188, by kernel_rfl, by kernel_rfl⟩
theorem QYP : GOk Tryz.prog QCN := Qal _ (gA (gC QM0 QK7 (gC QMZ QK6 gN)))
theorem QW4 : Qyo.lok QCN := by repeat (first | exact trivial | refine ⟨?_, ?_⟩)
theorem s_f188 (u : Keep) (h : QdQ u = true) : QJU u = some (.t Qak (useT u), []) := by
 simp only [QdQ, Bool.and_eq_true] at h
 simp only [QJU, h.1, h.2, Qlk, QFF, Qad]
 rfl
def QG5 : Ent := spec (.pr Qag .nil) (fun x => (QdQ x.1)) (fun x => (.t Qak (useT x.1)))
theorem QVS : Meets Tryz.prog 188 (strip QG5) := Qah (R := runF QCN Qyo QIr false) (mG Tryz.func188 (by kernel_rfl) Tryz.ntmps188 (by kernel_rfl) QYP QW4) fun x hok => (e_f188 x.1).trans (s_f188 x.1 hok)
def QgM (c : Qaa) : List ValT := [intT c.1, txtT c.2.1, txtT c.2.2.1, useT c.2.2.2.1, intT c.2.2.2.2.1, useT c.2.2.2.2.2.1, intT c.2.2.2.2.2.2.1, intT c.2.2.2.2.2.2.2.1, boolT c.2.2.2.2.2.2.2.2.1, intT c.2.2.2.2.2.2.2.2.2.1, lstT ((QaF c).map txtT)]
def bodyT (c : Qaa) : ValT := lstT (QgM c)
def Qgh (c : Qaa) : Bool := QaI c && QaE c
theorem QEm {u : Keep} (h : QbS u = true) : 0 ≤ u.2.1 ∧ u.2.1 ≤ 16384 ∧ 1 ≤ u.1 ∧ u.1 ≤ 22 := by
 simp only [QbS, decide_eq_true_eq] at h
 have ham : ∀ (s t : List Int), (∀ x ∈ s, 0 ≤ x ∧ x ≤ 16384) → Qby u.2.1 s t > 0 → 0 ≤ u.2.1 ∧ u.2.1 ≤ 16384 := by
  intro s t hs hg
  unfold Qby at hg
  split at hg
  ·rename_i k hk
   have hm : u.2.1 ∈ s := by
    have key : ∀ (s : List Int) (k : Nat), idxN u.2.1 s = some k → u.2.1 ∈ s := by
     intro s
     induction s with
     | nil => intro k hk; cases hk
     | cons a s ih =>
      intro k hk
      unfold idxN at hk
      split at hk
      ·rename_i ha
       have := eq_of_beq ha
       rw [this]; exact List.mem_cons_self
      ·obtain ⟨j, hj, _⟩ := Option.map_eq_some_iff.1 hk
       exact List.mem_cons_of_mem _ (ih j hj)
    exact key s k hk
   exact hs _ hm
  ·omega
 rw [← and_assoc]
 unfold strF at h
 repeat' split at h
 ·refine ⟨?_, by omega⟩
  unfold QeA at h
  split at h <;> omega
 ·refine ⟨?_, by omega⟩
  unfold QsG at h
  split at h
  ·rename_i hc
   simp only [hasF, List.contains_iff_mem, List.mem_cons, List.not_mem_nil, or_false] at hc
   omega
  ·omega
 ·exact ⟨ham _ _ (by simp) h, by omega⟩
 ·exact ⟨ham _ _ (by simp) h, by omega⟩
 ·exact ⟨ham _ _ (by simp) h, by omega⟩
 ·exact ⟨ham _ _ (by simp) h, by omega⟩
 ·exact ⟨ham _ _ (by simp) h, by omega⟩
 ·refine ⟨ham _ _ (by simp) h, ?_⟩
  unfold Qby at h
  split at h
  ·rename_i k hk
   unfold idxN at hk
   split at hk
   ·injection hk with hk
    subst hk
    simp only [List.getD_cons_zero, Qc5] at h
    repeat' split at h
    all_goals omega
   ·cases hk
  ·omega
theorem Qxw {u : Keep} {k : Int} (h : kindU u k = true) : QdQ u = true := by
 simp only [kindU, Bool.and_eq_true] at h
 have := QEm h.1
 simp only [QdQ, i64Ok, Bool.and_eq_true, decide_eq_true_eq]
 omega
theorem QlE {s : ByteArray} (h : Qa7 s = true) : s.size ≤ 32 := by
 simp only [Qa7, Bool.and_eq_true, decide_eq_true_eq] at h
 exact h.2.2
theorem QEF {l : List ByteArray} : ∀ {k : Nat}, Qdc l k = true → ∀ j (hj : j < l.length), k ≤ j → Qa7 l[j] = true := by
 intro k h j hj hk
 simp only [Qdc, List.all_eq_true, List.mem_range'_1, Bool.and_eq_true] at h
 have := (h j ⟨hk, by omega⟩).1
 simpa only [List.getD_eq_getElem?_getD, List.getElem?_eq_getElem hj, Option.getD_some] using this
theorem QKO {l : List ByteArray} (h : Qih l = true) : l.length ≤ 8 ∧ ∀ s ∈ l, s.size ≤ 32 := by
 simp only [Qih, Bool.and_eq_true, Bool.not_eq_true', igt, llen, decide_eq_false_iff_not] at h
 refine ⟨by omega, fun s hs => ?_⟩
 obtain ⟨j, hj, rfl⟩ := List.mem_iff_getElem.1 hs
 exact QlE (QEF h.1 j hj (Nat.zero_le _))
theorem Qgk {c : Qaa} (h : QaE c = true) : i64Ok c.1 = true ∧ c.2.1.size ≤ 32 ∧ c.2.2.1.size ≤ 32 ∧ QdQ c.2.2.2.1 = true ∧ i64Ok c.2.2.2.2.1 = true ∧ QdQ c.2.2.2.2.2.1 = true ∧ i64Ok c.2.2.2.2.2.2.1 = true ∧ i64Ok c.2.2.2.2.2.2.2.1 = true ∧ i64Ok c.2.2.2.2.2.2.2.2.2.1 = true ∧ (QaF c).length ≤ 8 ∧ ∀ s ∈ QaF c, s.size ≤ 32 := by
 simp only [QaE, keyI, Bool.and_eq_true, Bool.not_eq_true', ilt, igt, decide_eq_false_iff_not] at h
 obtain ⟨h1, h2, h3, h4, h5, h6, ⟨h7, h7'⟩, h8, ⟨h9, h9'⟩, h10, h11, h12, h13, h14, h15, h16⟩ := h
 have hn := QKO h5
 refine ⟨decide_eq_true (by omega), QlE h3, QlE h4, Qxw h6, decide_eq_true (by omega), Qxw h8, decide_eq_true (by omega), decide_eq_true (by omega), decide_eq_true (by omega), hn.1, hn.2⟩
theorem QKI (n : Nat) {l : List ByteArray} (h : l.length ≤ 8) (hs : ∀ s ∈ l, s.size ≤ 32) : okT (n + 2) (lstT (l.map txtT)) = true :=
 Qz4 (by rw [List.length_map]; omega) fun x hx => by
  obtain ⟨s, hm, rfl⟩ := List.mem_map.1 hx
  exact Quo _ (by have := hs s hm; omega)
theorem QwK (n : Nat) {c : Qaa} (h : QaE c = true) : ∀ x ∈ QgM c, okT (n + 2) x = true := by
 obtain ⟨h1, h2, h3, h4, h5, h6, h7, h8, h9, h10, h11⟩ := Qgk h
 intro x hx
 simp only [QgM, List.mem_cons, List.not_mem_nil, or_false] at hx
 rcases hx with rfl | rfl | rfl | rfl | rfl | rfl | rfl | rfl | rfl | rfl | rfl
 ·exact QiH _ _
 ·exact Quo _ (by omega)
 ·exact Quo _ (by omega)
 ·exact QKH _ _
 ·exact QiH _ _
 ·exact QKH _ _
 ·exact QiH _ _
 ·exact QiH _ _
 ·exact QPw _ _
 ·exact QiH _ _
 ·exact QKI _ h10 h11
theorem QDs : ∀ {l : List ByteArray}, (∀ s ∈ l, s.size ≤ 32) → (encL (l.map txtT)).length ≤ 42 * l.length
 | [], _ => by simp [Qh8]
 | s :: l, h => by
  have h1 := h s (by simp)
  have h2 := QAZ s
  have h3 := QDs (l := l) fun u hu => h u (by simp [hu])
  rw [List.map_cons, Qct, List.length_append, List.length_cons]
  omega
theorem Qu9 {c : Qaa} (h : QaE c = true) : (encT (bodyT c)).length ≤ 1000 := by
 obtain ⟨h1, h2, h3, h4, h5, h6, h7, h8, h9, h10, h11⟩ := Qgk h
 have e0 := QA0 (QgM c)
 have e1 := QiK c.1
 have e2 := QAZ c.2.1
 have e3 := QAZ c.2.2.1
 have e4 := QME c.2.2.2.1
 have e5 := QiK c.2.2.2.2.1
 have e6 := QME c.2.2.2.2.2.1
 have e7 := QiK c.2.2.2.2.2.2.1
 have e8 := QiK c.2.2.2.2.2.2.2.1
 have e9 := QQ5 c.2.2.2.2.2.2.2.2.1
 have e10 := QiK c.2.2.2.2.2.2.2.2.2.1
 have e11 := QA0 ((QaF c).map txtT)
 have e12 := QDs h11
 simp only [QgM, Qct, Qh8, List.length_append, List.length_nil] at e0
 unfold bodyT
 simp only [QgM]
 omega
theorem QUQ {c : Qaa} (h : QaE c = true) : encOk (bodyT c) = true := by
 have := Qu9 h
 simp only [encOk, Bool.and_eq_true, decide_eq_true_eq]
 refine ⟨Qz4 (by simp [QgM]) (QwK 9 h), by omega⟩
theorem QwP {c : Qaa} (h : QaE c = true) : copOk ((QaF c).map txtT) = true := by
 obtain ⟨h1, h2, h3, h4, h5, h6, h7, h8, h9, h10, h11⟩ := Qgk h
 exact QrF (n := 11) (by rw [List.length_map]; omega) fun x hx => by
  obtain ⟨s, hm, rfl⟩ := List.mem_map.1 hx
  exact Quo _ (by have := h11 s hm; omega)
theorem QwI {c : Qaa} (h : QaE c = true) : copOk (QgM c) = true := QrF (n := 11) (by simp [QgM]) (QwK 9 h)
theorem Qdw {s : ByteArray} (h : s.size ≤ 32) : Qbh s = true := decide_eq_true (by omega)
noncomputable def QNj : List DO := dT Tryz.f202 7
def Qg9 : Fg := ⟨[(1, none), (2, none), (3, none), (7, some (.sl .str)), (8, some tI), (9, some tI)], [(1, some Qac), (2, some Qak), (3, none), (17, none)]⟩
noncomputable def Qi1 : TC := (.sq (.reg (rT Tryz.f202 3)) (.sq (.cd (.t 10) .sk (.fg ⟨[(1, none), (2, none), (3, none)], [(1, some Qac), (2, some Qak), (3, none), (17, none)]⟩ (.ex 0))) (.sq (.bk 1 (.sq (.reg (rT Tryz.f202 4)) (.reg (rT Tryz.f202 5)))) (.reg (rT Tryz.f202 6)))))
noncomputable def Qyl : TC := (.sq (.reg (rT Tryz.f202 0)) (.sq (.reg (rT Tryz.f202 1)) (.sq (.sq (.reg (rT Tryz.f202 2)) (.bk 0 (.nw 3 202 (.lp 0 Qg9 Qi1)))) (.sq (.dr QNj [(0, [1]), (1, [1]), (2, []), (3, [1]), (4, [1]), (5, []), (6, [1]), (7, [1]), (8, []), (9, [1]), (10, [1]), (11, []), (12, [1]), (13, [1]), (14, []), (15, [1]), (16, [1]), (17, []), (18, [1]), (19, [1]), (20, []), (21, [1]), (22, [1]), (23, []), (24, [1]), (25, [1]), (26, []), (27, [1]), (28, [1]), (29, []), (30, [3, 17]), (31, [3, 17, 50, 5050, 10050, 15050]), (32, []), (33, []), (34, [2])] (.of [0, 1, 2, 3, 4, 5, 6, 7, 8, 9, 10, 11, 12, 13, 14, 15, 16, 17, 18, 19, 20, 21, 22, 23, 24, 25, 26, 27, 28, 29, 30, 31, 32, 33, 34])) .rt))))
def QIo : List (RV × Option Ty) := [((.c 2 true 4), some Qak)]
abbrev QpI : Sh := ⟨[(1, .ptr 1 0), (2, .ptr 2 0), (3, .ms 3), (7, .ty (.sl .str)), (8, .ty tI), (9, .ty tI)], [(1, .box Qac), (2, .box Qak), (3, .arr 202 Qak), (17, .no)]⟩
def Qo1 (x7 : List ByteArray) (x8 x9 : Int) (y1 : Qaa) (y2 : ValT) (y3 : List ValT) : VS := QpI.st ((), (), (), x7, x8, x9, ()) (y1, y2, y3, (), ())
abbrev Qv6 : Sh := ⟨[(1, .ptr 1 0), (2, .ptr 2 0), (3, .ms 3)], [(1, .box Qac), (2, .box Qak), (3, .arr 202 Qak), (17, .no)]⟩
def Qd8 (y1 : Qaa) (y2 : ValT) (y3 : List ValT) : VS := Qv6.st ((), (), (), ()) (y1, y2, y3, (), ())
def QSy : VS → Option (Bool × List (Bool × Exit × VS)) := mkL QpI (fun x y => (rngOk x.2.2.2.1 x.2.2.2.2.1 x.2.2.2.2.2.1 && decide (y.2.2.1.length ≤ x.2.2.2.2.2.1.toNat ∧ x.2.2.2.1.length ≤ 8) && x.2.2.2.1.all fun s => decide (s.size ≤ 32))) (fun x y => [(true, .exit 0, Qd8 (y.1) (y.2.1) (y.2.2.1 ++ (x.2.2.2.1.drop x.2.2.2.2.2.1.toNat).map txtT))])
def Qmh : G := ⟨TYs, [], 53, EL [(222, QGS), (223, Qs9), (224, Qzj), (225, QGR), (226, QGQ), (227, QGP)], keeps, (Ls [QSy]), IL [], RL []⟩
def QDS (x7 : List ByteArray) (x8 x9 : Int) (y1 : Qaa) (y2 : ValT) (y3 : List ValT) : Option (Exit × VS) :=
 let a1 := ((txtT (lgt .str x7 (Int.toNat x9))).1, (((txtT (lgt .str x7 (Int.toNat x9))).2).1, ((((txtT (lgt .str x7 (Int.toNat x9))).2).2).1, ((List.map Val.of (List.map Val.un (((((txtT (lgt .str x7 (Int.toNat x9))).2).2).2).1))), ()))))
 br (ilt x9 x8) (br (cIx x7 x9) (br (Qbh (lgt .str x7 (Int.toNat x9))) (br (cApp y3 ([a1]) 64) (some (.normal, Qo1 x7 x8 (iadd .i64 x9 1) y1 y2 (y3 ++ ([a1])))) none) none) none) (some (.exit 0, Qd8 y1 y2 y3))
noncomputable def QjQ (x7 : List ByteArray) (x8 x9 : Int) (y1 : Qaa) (y2 : ValT) (y3 : List ValT) : Option (Exit × VS) := loopF (Qaj Qmh Qg9 Qi1) (Qo1 x7 x8 x9 y1 y2 y3)
noncomputable def QnF (x7 : List ByteArray) (x8 x9 : Int) (y1 : Qaa) (y2 : ValT) (y3 : List ValT) : Option (Exit × VS) :=
 let a1 := ((txtT (lgt .str x7 (Int.toNat x9))).1, (((txtT (lgt .str x7 (Int.toNat x9))).2).1, ((((txtT (lgt .str x7 (Int.toNat x9))).2).2).1, ((List.map Val.of (List.map Val.un (((((txtT (lgt .str x7 (Int.toNat x9))).2).2).2).1))), ()))))
 br (ilt x9 x8) (br (cIx x7 x9) (br (Qbh (lgt .str x7 (Int.toNat x9))) (br (cApp y3 ([a1]) 64) (QjQ x7 x8 (iadd .i64 x9 1) y1 y2 (y3 ++ ([a1]))) none) none) none) (some (.exit 0, Qd8 y1 y2 y3))
def Qkm (x7 : List ByteArray) (x8 x9 : Int) (y1 : Qaa) (y2 : ValT) (y3 : List ValT) : Option (Exit × VS) := some (.exit 0, Qd8 (y1) (y2) (y3 ++ (x7.drop x9.toNat).map txtT))
theorem QN0 (x7 : List ByteArray) (x8 x9 : Int) (y1 : Qaa) (y2 : ValT) (y3 : List ValT) : Qaj Qmh Qg9 Qi1 (Qo1 x7 x8 x9 y1 y2 y3) = QDS x7 x8 x9 y1 y2 y3 := by kernel_rfl
theorem Qw6 (x7 : List ByteArray) (x8 x9 : Int) (y1 : Qaa) (y2 : ValT) (y3 : List ValT) : QjQ x7 x8 x9 y1 y2 y3 = QnF x7 x8 x9 y1 y2 y3 := (Qan _ _).trans (by
 rw [QN0]
 simp only [QDS, QnF, Qay, nxt_n, nxt_r, nxt_e, nxt_0]
 rfl)
def QJS (p0 : Qaa) : Option (V × List VO) :=
 let a3 := ((((p0).2).2).2)
 let a1 := ((a3.2).2)
 let a2 := (lstT (([] : List ValT) ++ (p0.2.2.2.2.2.2.2.2.2.2.1.drop (0 : Int).toNat).map txtT))
 let a4 := ((intT (((((a1.2).2).2).2).1)).1, (((intT (((((a1.2).2).2).2).1)).2).1, ((((intT (((((a1.2).2).2).2).1)).2).2).1, ((List.map Val.of (List.map Val.un (((((intT (((((a1.2).2).2).2).1)).2).2).2).1))), ()))))
 let a5 := ((boolT ((((a1.2).2).2).1)).1, (((boolT ((((a1.2).2).2).1)).2).1, ((((boolT ((((a1.2).2).2).1)).2).2).1, ((List.map Val.of (List.map Val.un (((((boolT ((((a1.2).2).2).1)).2).2).2).1))), ()))))
 let a6 := ((txtT ((((p0).2).2).1)).1, (((txtT ((((p0).2).2).1)).2).1, ((((txtT ((((p0).2).2).1)).2).2).1, ((List.map Val.of (List.map Val.un (((((txtT ((((p0).2).2).1)).2).2).2).1))), ()))))
 let a7 := ((intT (((a1.2).2).1)).1, (((intT (((a1.2).2).1)).2).1, ((((intT (((a1.2).2).1)).2).2).1, ((List.map Val.of (List.map Val.un (((((intT (((a1.2).2).1)).2).2).2).1))), ()))))
 let a8 := ((txtT (((p0).2).1)).1, (((txtT (((p0).2).1)).2).1, ((((txtT (((p0).2).1)).2).2).1, ((List.map Val.of (List.map Val.un (((((txtT (((p0).2).1)).2).2).2).1))), ()))))
 let a9 := ((intT ((a3.2).1)).1, (((intT ((a3.2).1)).2).1, ((((intT ((a3.2).1)).2).2).1, ((List.map Val.of (List.map Val.un (((((intT ((a3.2).1)).2).2).2).1))), ()))))
 let a10 := ((intT ((a1.2).1)).1, (((intT ((a1.2).1)).2).1, ((((intT ((a1.2).1)).2).2).1, ((List.map Val.of (List.map Val.un (((((intT ((a1.2).1)).2).2).2).1))), ()))))
 let a11 := ((intT ((p0).1)).1, (((intT ((p0).1)).2).1, ((((intT ((p0).1)).2).2).1, ((List.map Val.of (List.map Val.un (((((intT ((p0).1)).2).2).2).1))), ()))))
 let a12 := ((useT (a3.1)).1, (((useT (a3.1)).2).1, ((((useT (a3.1)).2).2).1, ((List.map Val.of (List.map Val.un (((((useT (a3.1)).2).2).2).1))), ()))))
 let a13 := ((useT (a1.1)).1, (((useT (a1.1)).2).1, ((((useT (a1.1)).2).2).1, ((List.map Val.of (List.map Val.un (((((useT (a1.1)).2).2).2).1))), ()))))
 let a14 := ((a2.2).1, (((a2.2).2).1, ((List.map Val.of (List.map Val.un ((((a2.2).2).2).1))), ())))
 br (rngOk p0.2.2.2.2.2.2.2.2.2.2.1 (llen p0.2.2.2.2.2.2.2.2.2.2.1) (0 : Int) && decide (([] : List ValT).length ≤ (0 : Int).toNat ∧ p0.2.2.2.2.2.2.2.2.2.2.1.length ≤ 8) && p0.2.2.2.2.2.2.2.2.2.2.1.all fun s => decide (s.size ≤ 32)) (br (i64Ok ((p0).1)) (br (Qbh (((p0).2).1)) (br (Qbh ((((p0).2).2).1)) (br (QdQ (a3.1)) (br (i64Ok ((a3.2).1)) (br (QdQ (a1.1)) (br (i64Ok ((a1.2).1)) (br (i64Ok (((a1.2).2).1)) (br (i64Ok (((((a1.2).2).2).2).1)) (br (copOk (([] : List ValT) ++ (p0.2.2.2.2.2.2.2.2.2.2.1.drop (0 : Int).toNat).map txtT)) (br (copOk ([a11, a8, a6, a12, a9, a13, a10, a7, a5, a4, (a2.1, a14)])) (some (.t Qak (lstT ([a11, a8, a6, a12, a9, a13, a10, a7, a5, a4, (a2.1, a14)])), [])) none) none) none) none) none) none) none) none) none) none) none) none
theorem e_f202 (p0 : Qaa) : runF Qmh Qyl QIo false [.t Qac p0] [] = QJS p0 := by kernel_rfl
theorem QZY : Qai Tryz.prog 202 := .inr ⟨by decide, _, Tryz.func202, by kernel_rfl, by kernel_rfl⟩
theorem QYM : GOk Tryz.prog Qmh := Qal _ (gA (gC QZR QVF (gC QA3 QAb (gC QMV QK5 (gC QZQ QVE (gC QZP QVD (gC QZO QVC gN)))))))
theorem QQr (x7 : List ByteArray) (x8 x9 : Int) (y1 : Qaa) (y2 : ValT) (y3 : List ValT) (h : (rngOk x7 x8 x9 && decide (y3.length ≤ x9.toNat ∧ x7.length ≤ 8) && x7.all fun s => decide (s.size ≤ 32)) = true) : QjQ x7 x8 x9 y1 y2 y3 = Qkm x7 x8 x9 y1 y2 y3 := by
 simp only [Bool.and_eq_true, decide_eq_true_eq, List.all_eq_true] at h
 obtain ⟨⟨h0, h1, h2⟩, hn⟩ := h
 obtain ⟨rfl, h3, k, rfl, hk⟩ := rng_k h0
 clear h0
 rw [Int.toNat_natCast] at h1
 revert y3
 refine Qar x7 (fun k => ∀ y3 : List ValT, y3.length ≤ k → QjQ x7 (x7.length : Int) (k : Int) y1 y2 y3 = Qkm x7 (x7.length : Int) (k : Int) y1 y2 y3) ?_ ?_ k hk
 ·intro y3 _
  rw [Qw6]
  simp only [QnF, Qkm, Qas, Nat.lt_irrefl, decide_false, Qaf, Int.toNat_natCast, List.drop_length, List.map_nil, List.append_nil]
 ·intro k hk ih y3 hy
  rw [Qw6]
  have hx := hn x7[k] (List.getElem_mem hk)
  simp only [QnF, Qas, Qaw, hk, decide_true, Qad, Int.toNat_natCast, add1 (show k < 4611686018427387904 by omega), QaA (y := .str) hk, Qdw hx, Qlk]
  rw [cAppN (by omega) (by simp only [List.length_singleton]; omega), Qad, ih _ (by simp only [List.length_append, List.length_singleton]; omega)]
  simp only [Qkm, Int.toNat_natCast, List.drop_eq_getElem_cons hk, List.map_cons, List.append_assoc, List.singleton_append]
theorem QLy : ∀ S l p, Qmh.L 0 (fgt Qg9 S) = some (true, l) → pickA l = some p → loopF (Qaj Qmh Qg9 Qi1) S = some p :=
 QaB (s := QpI) ⟨by decide, by decide⟩ (by kernel_rfl) fun x y hok p hp => by
 simp only [Qao, Qam] at hp
 exact (QQr x.2.2.2.1 x.2.2.2.2.1 x.2.2.2.2.2.1 y.1 y.2.1 y.2.2.1 (by simpa using hok)).trans hp
theorem QW1 : Qyl.lok Qmh := by
 repeat (first | exact trivial | exact QLy | refine ⟨?_, ?_⟩)
theorem s_f202 (c : Qaa) (h : Qgh c = true) : QJS c = some (.t Qak (bodyT c), []) := by
 simp only [Qgh, Bool.and_eq_true] at h
 obtain ⟨_, hv⟩ := h
 obtain ⟨h1, h2, h3, h4, h5, h6, h7, h8, h9, h10, h11⟩ := Qgk hv
 have hc := QwP hv
 have hp := QwI hv
 have ha : ((QaF c).all fun s => decide (s.size ≤ 32)) = true := List.all_eq_true.2 fun s hs => decide_eq_true (h11 s hs)
 have hl : ([] : List ValT).length ≤ 0 ∧ (QaF c).length ≤ 8 := ⟨by simp, h10⟩
 simp only [QgM] at hp
 simp only [QJS, rng_0 (show (QaF c).length ≤ 100000 by omega), ha, Bool.and_self, h1, Qdw h2, Qdw h3, h4, h5, h6, h7, h8, h9, Qad, Int.toNat_zero, List.drop_zero, List.nil_append, Qlk, hc, hp]
 rw [decide_eq_true hl]
 rfl
def QG2 : Ent := spec (.pr Qac .nil) (fun x => (Qgh x.1)) (fun x => (.t Qak (bodyT x.1)))
theorem QVP : Meets Tryz.prog 202 (strip QG2) := Qah (R := runF Qmh Qyl QIo false) (mG Tryz.func202 (by kernel_rfl) Tryz.ntmps202 (by kernel_rfl) QYM QW1) fun x hok => (e_f202 x.1).trans (s_f202 x.1 hok)
noncomputable def QNm : List DO := dT Tryz.f158 6
def Qhh : Fg := ⟨[(1, none), (2, none), (3, none), (4, some tI)], [(1, some Qac), (2, some Qak), (3, none), (20, none)]⟩
noncomputable def Qi9 : TC := (.sq (.sq (.reg (rT Tryz.f158 3)) (.cd (.t 9) .sk (.fg ⟨[(1, none), (2, none), (3, none)], [(1, some Qac), (2, some Qak), (3, none), (20, none)]⟩ (.ex 0)))) (.sq (.bk 1 (.reg (rT Tryz.f158 4))) (.reg (rT Tryz.f158 5))))
noncomputable def QyG : TC := (.sq (.reg (rT Tryz.f158 0)) (.sq (.reg (rT Tryz.f158 1)) (.sq (.sq (.reg (rT Tryz.f158 2)) (.bk 0 (.nw 3 202 (.lp 0 Qhh Qi9)))) (.sq (.dr QNm [(0, [1]), (1, [1]), (2, []), (3, [1]), (4, [1]), (5, []), (6, [1]), (7, [1]), (8, []), (9, [1]), (10, [1]), (11, []), (12, [1]), (13, [1]), (14, []), (15, [1]), (16, [1]), (17, []), (18, [1]), (19, [1]), (20, []), (21, [1]), (22, [1]), (23, []), (24, [1]), (25, [1]), (26, []), (27, [1]), (28, [1]), (29, []), (30, [3, 20]), (31, [3, 20, 52, 5052, 10052, 15052]), (32, []), (33, []), (34, [2])] (.of [0, 1, 2, 3, 4, 5, 6, 7, 8, 9, 10, 11, 12, 13, 14, 15, 16, 17, 18, 19, 20, 21, 22, 23, 24, 25, 26, 27, 28, 29, 30, 31, 32, 33, 34])) .rt))))
def QIJ : List (RV × Option Ty) := [((.c 2 true 4), some Qak)]
abbrev QpR : Sh := ⟨[(1, .ptr 1 0), (2, .ptr 2 0), (3, .ms 3), (4, .ty tI)], [(1, .box Qac), (2, .box Qak), (3, .arr 202 Qak), (20, .no)]⟩
def Qo8 (x4 : Int) (y1 : Qaa) (y2 : ValT) (y3 : List ValT) : VS := QpR.st ((), (), (), x4, ()) (y1, y2, y3, (), ())
abbrev Qwe : Sh := ⟨[(1, .ptr 1 0), (2, .ptr 2 0), (3, .ms 3)], [(1, .box Qac), (2, .box Qak), (3, .arr 202 Qak), (20, .no)]⟩
def Qef (y1 : Qaa) (y2 : ValT) (y3 : List ValT) : VS := Qwe.st ((), (), (), ()) (y1, y2, y3, (), ())
def QSG : VS → Option (Bool × List (Bool × Exit × VS)) := mkL QpR (fun x y => (decide (0 ≤ x.2.2.2.1 ∧ x.2.2.2.1 ≤ (QaF y.1).length ∧ y.2.2.1.length ≤ x.2.2.2.1.toNat ∧ (QaF y.1).length ≤ 8) && (QaF y.1).all fun s => decide (s.size ≤ 32))) (fun x y => [(true, .exit 0, Qef (y.1) (y.2.1) (y.2.2.1 ++ ((QaF y.1).drop x.2.2.2.1.toNat).map txtT))])
def Qmp : G := ⟨TYs, [], 55, EL [(185, QG6), (186, Qzl), (187, Qzk), (188, QG5), (189, QG4)], keeps, (Ls [QSG]), IL [], RL []⟩
def QD0 (x4 : Int) (y1 : Qaa) (y2 : ValT) (y3 : List ValT) : Option (Exit × VS) :=
 let a1 := txtT (lgt .str y1.2.2.2.2.2.2.2.2.2.2.1 (Int.toNat x4))
 let a2 := ((a1.2).1, (((a1.2).2).1, ((List.map Val.of (List.map Val.un ((((a1.2).2).2).1))), ())))
 br (ilt x4 (llen y1.2.2.2.2.2.2.2.2.2.2.1)) (br (cIx y1.2.2.2.2.2.2.2.2.2.2.1 x4) (br (Qbh (lgt .str y1.2.2.2.2.2.2.2.2.2.2.1 (Int.toNat x4))) (br (cApp y3 ([(a1.1, a2)]) 64) (some (.normal, Qo8 (iadd .i64 x4 1) y1 y2 (y3 ++ ([(a1.1, a2)])))) none) none) none) (some (.exit 0, Qef y1 y2 y3))
noncomputable def QjX (x4 : Int) (y1 : Qaa) (y2 : ValT) (y3 : List ValT) : Option (Exit × VS) := loopF (Qaj Qmp Qhh Qi9) (Qo8 x4 y1 y2 y3)
noncomputable def QnL (x4 : Int) (y1 : Qaa) (y2 : ValT) (y3 : List ValT) : Option (Exit × VS) :=
 let a1 := txtT (lgt .str y1.2.2.2.2.2.2.2.2.2.2.1 (Int.toNat x4))
 let a2 := ((a1.2).1, (((a1.2).2).1, ((List.map Val.of (List.map Val.un ((((a1.2).2).2).1))), ())))
 br (ilt x4 (llen y1.2.2.2.2.2.2.2.2.2.2.1)) (br (cIx y1.2.2.2.2.2.2.2.2.2.2.1 x4) (br (Qbh (lgt .str y1.2.2.2.2.2.2.2.2.2.2.1 (Int.toNat x4))) (br (cApp y3 ([(a1.1, a2)]) 64) (QjX (iadd .i64 x4 1) y1 y2 (y3 ++ ([(a1.1, a2)]))) none) none) none) (some (.exit 0, Qef y1 y2 y3))
def Qkr (x4 : Int) (y1 : Qaa) (y2 : ValT) (y3 : List ValT) : Option (Exit × VS) := some (.exit 0, Qef (y1) (y2) (y3 ++ ((QaF y1).drop x4.toNat).map txtT))
theorem QN8 (x4 : Int) (y1 : Qaa) (y2 : ValT) (y3 : List ValT) : Qaj Qmp Qhh Qi9 (Qo8 x4 y1 y2 y3) = QD0 x4 y1 y2 y3 := by kernel_rfl
theorem Qxd (x4 : Int) (y1 : Qaa) (y2 : ValT) (y3 : List ValT) : QjX x4 y1 y2 y3 = QnL x4 y1 y2 y3 := (Qan _ _).trans (by
 rw [QN8]
 simp only [QD0, QnL, Qay, nxt_n, nxt_r, nxt_e, nxt_0]
 rfl)
def QJ8 (p0 : Qaa) : Option (V × List VO) :=
 let a3 := ((((p0).2).2).2)
 let a1 := ((a3.2).2)
 let a2 := (lstT (([] : List ValT) ++ ((QaF p0).drop (0 : Int).toNat).map txtT))
 let a4 := ((intT (((((a1.2).2).2).2).1)).1, (((intT (((((a1.2).2).2).2).1)).2).1, ((((intT (((((a1.2).2).2).2).1)).2).2).1, ((List.map Val.of (List.map Val.un (((((intT (((((a1.2).2).2).2).1)).2).2).2).1))), ()))))
 let a5 := ((boolT ((((a1.2).2).2).1)).1, (((boolT ((((a1.2).2).2).1)).2).1, ((((boolT ((((a1.2).2).2).1)).2).2).1, ((List.map Val.of (List.map Val.un (((((boolT ((((a1.2).2).2).1)).2).2).2).1))), ()))))
 let a6 := ((txtT ((((p0).2).2).1)).1, (((txtT ((((p0).2).2).1)).2).1, ((((txtT ((((p0).2).2).1)).2).2).1, ((List.map Val.of (List.map Val.un (((((txtT ((((p0).2).2).1)).2).2).2).1))), ()))))
 let a7 := ((intT (((a1.2).2).1)).1, (((intT (((a1.2).2).1)).2).1, ((((intT (((a1.2).2).1)).2).2).1, ((List.map Val.of (List.map Val.un (((((intT (((a1.2).2).1)).2).2).2).1))), ()))))
 let a8 := ((txtT (((p0).2).1)).1, (((txtT (((p0).2).1)).2).1, ((((txtT (((p0).2).1)).2).2).1, ((List.map Val.of (List.map Val.un (((((txtT (((p0).2).1)).2).2).2).1))), ()))))
 let a9 := ((intT ((a3.2).1)).1, (((intT ((a3.2).1)).2).1, ((((intT ((a3.2).1)).2).2).1, ((List.map Val.of (List.map Val.un (((((intT ((a3.2).1)).2).2).2).1))), ()))))
 let a10 := ((intT ((a1.2).1)).1, (((intT ((a1.2).1)).2).1, ((((intT ((a1.2).1)).2).2).1, ((List.map Val.of (List.map Val.un (((((intT ((a1.2).1)).2).2).2).1))), ()))))
 let a11 := ((intT ((p0).1)).1, (((intT ((p0).1)).2).1, ((((intT ((p0).1)).2).2).1, ((List.map Val.of (List.map Val.un (((((intT ((p0).1)).2).2).2).1))), ()))))
 let a12 := ((useT (a3.1)).1, (((useT (a3.1)).2).1, ((((useT (a3.1)).2).2).1, ((List.map Val.of (List.map Val.un (((((useT (a3.1)).2).2).2).1))), ()))))
 let a13 := ((useT (a1.1)).1, (((useT (a1.1)).2).1, ((((useT (a1.1)).2).2).1, ((List.map Val.of (List.map Val.un (((((useT (a1.1)).2).2).2).1))), ()))))
 let a14 := ((a2.2).1, (((a2.2).2).1, ((List.map Val.of (List.map Val.un ((((a2.2).2).2).1))), ())))
 br (decide (0 ≤ (0 : Int) ∧ (0 : Int) ≤ (QaF p0).length ∧ ([] : List ValT).length ≤ (0 : Int).toNat ∧ (QaF p0).length ≤ 8) && (QaF p0).all fun s => decide (s.size ≤ 32)) (br (i64Ok ((p0).1)) (br (Qbh (((p0).2).1)) (br (Qbh ((((p0).2).2).1)) (br (QdQ (a3.1)) (br (i64Ok ((a3.2).1)) (br (QdQ (a1.1)) (br (i64Ok ((a1.2).1)) (br (i64Ok (((a1.2).2).1)) (br (i64Ok (((((a1.2).2).2).2).1)) (br (copOk (([] : List ValT) ++ ((QaF p0).drop (0 : Int).toNat).map txtT)) (br (copOk ([a11, a8, a6, a12, a9, a13, a10, a7, a5, a4, (a2.1, a14)])) (some (.t Qak (lstT ([a11, a8, a6, a12, a9, a13, a10, a7, a5, a4, (a2.1, a14)])), [])) none) none) none) none) none) none) none) none) none) none) none) none
theorem e_f158 (p0 : Qaa) : runF Qmp QyG QIJ false [.t Qac p0] [] = QJ8 p0 := by kernel_rfl
theorem Q0e : Qai Tryz.prog 158 := .inr ⟨by decide, _, Tryz.func158, by kernel_rfl, by kernel_rfl⟩
theorem QY7 : GOk Tryz.prog Qmp := Qal _ (gA (gC QZ2 QVT (gC QM0 QK7 (gC QMZ QK6 (gC QZ1 QVS (gC QZ0 QVR gN))))))
theorem QQz (x4 : Int) (y1 : Qaa) (y2 : ValT) (y3 : List ValT) (h : (decide (0 ≤ x4 ∧ x4 ≤ (QaF y1).length ∧ y3.length ≤ x4.toNat ∧ (QaF y1).length ≤ 8) && (QaF y1).all fun s => decide (s.size ≤ 32)) = true) : QjX x4 y1 y2 y3 = Qkr x4 y1 y2 y3 := by
 simp only [Bool.and_eq_true, decide_eq_true_eq, List.all_eq_true] at h
 obtain ⟨⟨h0, h1, h2, h3⟩, hn⟩ := h
 obtain ⟨k, rfl⟩ := Int.eq_ofNat_of_zero_le h0
 rw [Int.toNat_natCast] at h2
 revert y3
 refine Qar (QaF y1) (fun k => ∀ y3 : List ValT, y3.length ≤ k → QjX (k : Int) y1 y2 y3 = Qkr (k : Int) y1 y2 y3) ?_ ?_ k (by omega)
 ·intro y3 _
  rw [Qxd]
  simp only [QnL, Qkr, show ilt ((QaF y1).length : Int) (llen (QaF y1)) = false from decide_eq_false (by simp only [llen]; omega), Qaf, Int.toNat_natCast, List.drop_length, List.map_nil, List.append_nil]
 ·intro k hk ih y3 hy
  rw [Qxd]
  have hx := hn (QaF y1)[k] (List.getElem_mem hk)
  simp only [QnL, show ilt (k : Int) (llen (QaF y1)) = true from decide_eq_true (by simp only [llen]; omega), Qaw, hk, decide_true, Qad, Int.toNat_natCast, add1 (show k < 4611686018427387904 by omega), QaA (y := .str) hk, Qdw hx, Qlk]
  rw [cAppN (by omega) (by simp only [List.length_singleton]; omega), Qad, ih _ (by simp only [List.length_append, List.length_singleton]; omega)]
  simp only [Qkr, Int.toNat_natCast, List.drop_eq_getElem_cons hk, List.map_cons, List.append_assoc, List.singleton_append]
theorem QLG : ∀ S l p, Qmp.L 0 (fgt Qhh S) = some (true, l) → pickA l = some p → loopF (Qaj Qmp Qhh Qi9) S = some p :=
 QaB (s := QpR) ⟨by decide, by decide⟩ (by kernel_rfl) fun x y hok p hp => by
 simp only [Qao, Qam] at hp
 exact (QQz x.2.2.2.1 y.1 y.2.1 y.2.2.1 (by simpa using hok)).trans hp
theorem QXm : QyG.lok Qmp := by
 repeat (first | exact trivial | exact QLG | refine ⟨?_, ?_⟩)
theorem s_f158 (c : Qaa) (h : Qgh c = true) : QJ8 c = some (.t Qak (bodyT c), []) := by
 simp only [Qgh, Bool.and_eq_true] at h
 obtain ⟨_, hv⟩ := h
 obtain ⟨h1, h2, h3, h4, h5, h6, h7, h8, h9, h10, h11⟩ := Qgk hv
 have hc := QwP hv
 have hp := QwI hv
 have ha : ((QaF c).all fun s => decide (s.size ≤ 32)) = true := List.all_eq_true.2 fun s hs => decide_eq_true (h11 s hs)
 have hl : (0 : Int) ≤ 0 ∧ (0 : Int) ≤ (QaF c).length ∧ ([] : List ValT).length ≤ 0 ∧ (QaF c).length ≤ 8 := ⟨by omega, by omega, by simp, h10⟩
 simp only [QgM] at hp
 simp only [QJ8, ha, Bool.and_self, h1, Qdw h2, Qdw h3, h4, h5, h6, h7, h8, h9, Qad, Int.toNat_zero, List.drop_zero, List.nil_append, Qlk, hc, hp]
 rw [decide_eq_true hl]
 rfl
def QHl : Ent := spec (.pr Qac .nil) (fun x => (Qgh x.1)) (fun x => (.t Qak (bodyT x.1)))
theorem QV8 : Meets Tryz.prog 158 (strip QHl) := Qah (R := runF Qmp QyG QIJ false) (mG Tryz.func158 (by kernel_rfl) Tryz.ntmps158 (by kernel_rfl) QY7 QXm) fun x hok => (e_f158 x.1).trans (s_f158 x.1 hok)
end
end Go.Proofs.YtckcgijklnloiaaGreat.K
