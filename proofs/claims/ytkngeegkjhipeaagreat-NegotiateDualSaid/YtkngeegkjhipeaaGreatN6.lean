import Derived.Test.YtkngeegkjhipeaaGreatN0
import Derived.Test.YtkngeegkjhipeaaGreatV6
set_option linter.unusedSimpArgs false
set_option linter.unusedVariables false
namespace Go.Proofs.YtkngeegkjhipeaaGreat.K
open Go.RowKit
noncomputable section
def kindF (a : Int) : Int := (ofF a).1.2.1
noncomputable def Qt6 : TC := (.sq (.reg (rT Tryz.f108 0)) (.sq (.reg (rT Tryz.f108 1)) (.sq (.reg (rT Tryz.f108 2)) .rt)))
def QCa : List (RV × Option Ty) := [((.t 2), some tI)]
def Qxr : G := ⟨TYs, [], 12, EL [(135, Qui)], keeps, (fun _ _ => none), IL [], RL []⟩
def QMr (p0 : Int) : Option (V × List VO) := some (.t tI ((((ofF p0).1).2).1), [])
theorem e_f108 (p0 : Int) : runF Qxr Qt6 QCa false [.t tI p0] [] = QMr p0 := by kernel_rfl
theorem QvM : Qag Tryz.prog 108 := .inr ⟨by decide, _, Tryz.func108, by kernel_rfl, by kernel_rfl⟩
theorem QQj : GOk Tryz.prog Qxr := Qan _ (gA (gC QFx QDI gN))
theorem QO4 : Qt6.lok Qxr := by repeat (first | exact trivial | refine ⟨?_, ?_⟩)
theorem s_f108 (a : Int) : QMr a = some (.t tI (kindF a), []) := rfl
def QoV : Ent := spec (.pr tI .nil) (fun x => true) (fun x => (.t tI (kindF x.1)))
theorem Qvi : Meets Tryz.prog 108 (strip QoV) := Qaf (R := runF Qxr Qt6 QCa false) (mG Tryz.func108 (by kernel_rfl) Tryz.ntmps108 (by kernel_rfl) QQj QO4) fun x _ => (e_f108 x.1).trans (s_f108 x.1)
noncomputable def Qzm : TC := (.sq (.reg (rT Tryz.f98 0)) (.sq (.reg (rT Tryz.f98 1)) .rt))
def QLl : List (RV × Option Ty) := [((.t 0), some (.sl QcA))]
def g_f98 : G := ⟨TYs, [], 25, EL [], keeps, (fun _ _ => none), IL [], RL []⟩
def r_f98  : Option (V × List VO) := some (.t (.sl QcA) ([((ByteArray.mk #[]), (0, ())), ((ByteArray.mk #[109, 100, 53]), (1, ())), ((ByteArray.mk #[115, 104, 97, 49]), (1, ())), ((ByteArray.mk #[115, 104, 97, 50, 53, 54]), (1, ())), ((ByteArray.mk #[115, 104, 97, 51, 56, 52]), (1, ())), ((ByteArray.mk #[114, 115, 97]), (2, ())), ((ByteArray.mk #[100, 115, 97]), (2, ())), ((ByteArray.mk #[101, 99, 100, 115, 97]), (2, ())), ((ByteArray.mk #[101, 100, 50, 53, 53, 49, 57]), (2, ())), ((ByteArray.mk #[109, 108, 100, 115, 97]), (2, ())), ((ByteArray.mk #[114, 115, 97, 107, 120]), (3, ())), ((ByteArray.mk #[100, 104, 101]), (3, ())), ((ByteArray.mk #[101, 99, 100, 104, 101]), (3, ())), ((ByteArray.mk #[109, 108, 107, 101, 109]), (3, ())), ((ByteArray.mk #[114, 99, 52]), (4, ())), ((ByteArray.mk #[100, 101, 115, 51]), (4, ())), ((ByteArray.mk #[97, 101, 115, 99, 98, 99]), (4, ())), ((ByteArray.mk #[97, 101, 115, 103, 99, 109]), (4, ())), ((ByteArray.mk #[99, 104, 97, 99, 104, 97]), (4, ())), ((ByteArray.mk #[104, 109, 97, 99, 109, 100, 53]), (5, ())), ((ByteArray.mk #[104, 109, 97, 99, 115, 104, 97, 49]), (5, ())), ((ByteArray.mk #[104, 109, 97, 99, 115, 104, 97, 50, 53, 54]), (5, ())), ((ByteArray.mk #[97, 101, 97, 100]), (5, ()))]), [])
theorem e_f98  : runF g_f98 Qzm QLl false [] [] = r_f98  := by kernel_rfl
theorem en_f98 : Qag Tryz.prog 98 := .inr ⟨by decide, _, Tryz.func98, by kernel_rfl, by kernel_rfl⟩
theorem gk_f98 : GOk Tryz.prog g_f98 := Qan _ (fun p hp => by cases hp)
theorem lk_f98 : Qzm.lok g_f98 := by repeat (first | exact trivial | refine ⟨?_, ?_⟩)
def Qwe : Ty.T (.sl QcA) := ([((ByteArray.mk #[]), (0, ())), ((ByteArray.mk #[109, 100, 53]), (1, ())), ((ByteArray.mk #[115, 104, 97, 49]), (1, ())), ((ByteArray.mk #[115, 104, 97, 50, 53, 54]), (1, ())), ((ByteArray.mk #[115, 104, 97, 51, 56, 52]), (1, ())), ((ByteArray.mk #[114, 115, 97]), (2, ())), ((ByteArray.mk #[100, 115, 97]), (2, ())), ((ByteArray.mk #[101, 99, 100, 115, 97]), (2, ())), ((ByteArray.mk #[101, 100, 50, 53, 53, 49, 57]), (2, ())), ((ByteArray.mk #[109, 108, 100, 115, 97]), (2, ())), ((ByteArray.mk #[114, 115, 97, 107, 120]), (3, ())), ((ByteArray.mk #[100, 104, 101]), (3, ())), ((ByteArray.mk #[101, 99, 100, 104, 101]), (3, ())), ((ByteArray.mk #[109, 108, 107, 101, 109]), (3, ())), ((ByteArray.mk #[114, 99, 52]), (4, ())), ((ByteArray.mk #[100, 101, 115, 51]), (4, ())), ((ByteArray.mk #[97, 101, 115, 99, 98, 99]), (4, ())), ((ByteArray.mk #[97, 101, 115, 103, 99, 109]), (4, ())), ((ByteArray.mk #[99, 104, 97, 99, 104, 97]), (4, ())), ((ByteArray.mk #[104, 109, 97, 99, 109, 100, 53]), (5, ())), ((ByteArray.mk #[104, 109, 97, 99, 115, 104, 97, 49]), (5, ())), ((ByteArray.mk #[104, 109, 97, 99, 115, 104, 97, 50, 53, 54]), (5, ())), ((ByteArray.mk #[97, 101, 97, 100]), (5, ()))])
theorem s_f98 : r_f98 = some (.t (.sl QcA) Qwe, []) := rfl
def QKC : Ent := spec .nil (fun x => true) (fun x => (.t (.sl QcA) Qwe))
theorem ms_f98 : Meets Tryz.prog 98 (strip QKC) := Qaf (R := runF g_f98 Qzm QLl false) (mG Tryz.func98 (by kernel_rfl) Tryz.ntmps98 (by kernel_rfl) gk_f98 lk_f98) fun x _ => (e_f98 ).trans (s_f98 )
noncomputable def QzH : TC := (.sq (.reg (rT Tryz.f69 0)) (.sq (.sq (.reg (rT Tryz.f69 1)) (.cd (.t 8) (.sq (.reg (rT Tryz.f69 2)) .rt) .sk)) (.sq (.reg (rT Tryz.f69 3)) .rt)))
def QLG : List (RV × Option Ty) := [((.t 2), some tI)]
def g_f69 : G := ⟨TYs, [], 14, EL [(98, QKC)], keeps, (fun _ _ => none), IL [], RL []⟩
def r_f69 (p0 : Int) : Option (V × List VO) := br (ilt p0 1) (some (.t tI 0, [])) (br (igt p0 22) (some (.t tI 0, [])) (br (cIx Qwe p0) (some (.t tI (((lgt QcA Qwe (Int.toNat p0)).2).1), [])) none))
theorem e_f69 (p0 : Int) : runF g_f69 QzH QLG false [.t tI p0] [] = r_f69 p0 := by kernel_rfl
theorem QMR : Qag Tryz.prog 69 := .inr ⟨by decide, _, Tryz.func69, by kernel_rfl, by kernel_rfl⟩
theorem gk_f69 : GOk Tryz.prog g_f69 := Qan _ (gA (gC en_f98 ms_f98 gN))
theorem lk_f69 : QzH.lok g_f69 := by repeat (first | exact trivial | refine ⟨?_, ?_⟩)
theorem QGS {a : Int} (h1 : 1 ≤ a) (h2 : a ≤ 22) : a = 1 ∨ a = 2 ∨ a = 3 ∨ a = 4 ∨ a = 5 ∨ a = 6 ∨ a = 7 ∨ a = 8 ∨ a = 9 ∨ a = 10 ∨ a = 11 ∨ a = 12 ∨ a = 13 ∨ a = 14 ∨ a = 15 ∨ a = 16 ∨ a = 17 ∨ a = 18 ∨ a = 19 ∨ a = 20 ∨ a = 21 ∨ a = 22 := by omega
theorem s_f69 (a : Int) : r_f69 a = some (.t tI (kindF a), []) := by
 simp only [r_f69]
 refine QaP (fun h1 => ?_) (fun h1 => QaP (fun h2 => ?_) (fun h2 => ?_))
 ·have h1 : a < 1 := by simpa [ilt] using h1
  simp [kindF, ofF, h1, noRow]
 ·have h2 : 22 < a := by simpa [igt] using h2
  simp [kindF, ofF, h2, noRow]
 ·have h1 : ¬ a < 1 := by simpa [ilt] using h1
  have h2 : ¬ 22 < a := by simpa [igt] using h2
  rcases QGS (a := a) (by omega) (by omega) with rfl | rfl | rfl | rfl | rfl | rfl | rfl | rfl | rfl | rfl | rfl | rfl | rfl | rfl | rfl | rfl | rfl | rfl | rfl | rfl | rfl | rfl <;> rfl
def QAx : Ent := spec (.pr tI .nil) (fun x => true) (fun x => (.t tI (kindF x.1)))
theorem QMA : Meets Tryz.prog 69 (strip QAx) := Qaf (R := runF g_f69 QzH QLG false) (mG Tryz.func69 (by kernel_rfl) Tryz.ntmps69 (by kernel_rfl) gk_f69 lk_f69) fun x _ => (e_f69 x.1).trans (s_f69 x.1)
def useP (a b : Int) : Keep := (a, (b, ()))
noncomputable def Qt9 : TC := (.sq (.reg (rT Tryz.f105 0)) (.sq (.reg (rT Tryz.f105 1)) .rt))
def QCd : List (RV × Option Ty) := [((.c 4 true 2), some Qam)]
def Qxu : G := ⟨TYs, [], 8, EL [], keeps, (fun _ _ => none), IL [], RL []⟩
def QMt (p0 p1 : Int) : Option (V × List VO) := some (.t Qam (p0, (p1, ())), [])
theorem e_f105 (p0 p1 : Int) : runF Qxu Qt9 QCd false [.t tI p0, .t tI p1] [] = QMt p0 p1 := by kernel_rfl
theorem QQW : Qag Tryz.prog 105 := .inr ⟨by decide, _, Tryz.func105, by kernel_rfl, by kernel_rfl⟩
theorem QQm : GOk Tryz.prog Qxu := Qan _ (fun p hp => by cases hp)
theorem QO7 : Qt9.lok Qxu := by repeat (first | exact trivial | refine ⟨?_, ?_⟩)
theorem s_f105 (a b : Int) : QMt a b = some (.t Qam (useP a b), []) := rfl
def QBh : Ent := spec (.pr tI (.pr tI .nil)) (fun x => true) (fun x => (.t Qam (useP x.1 x.2.1)))
theorem QOa : Meets Tryz.prog 105 (strip QBh) := Qaf (R := runF Qxu Qt9 QCd false) (mG Tryz.func105 (by kernel_rfl) Tryz.ntmps105 (by kernel_rfl) QQm QO7) fun x _ => (e_f105 x.1 x.2.1).trans (s_f105 x.1 x.2.1)
noncomputable def Qzz : TC := (.sq (.reg (rT Tryz.f84 0)) (.sq (.reg (rT Tryz.f84 1)) .rt))
def QLy : List (RV × Option Ty) := [((.c 4 true 2), some Qam)]
def g_f84 : G := ⟨TYs, [], 8, EL [], keeps, (fun _ _ => none), IL [], RL []⟩
def r_f84 (p0 p1 : Int) : Option (V × List VO) := some (.t Qam (p0, (p1, ())), [])
theorem e_f84 (p0 p1 : Int) : runF g_f84 Qzz QLy false [.t tI p0, .t tI p1] [] = r_f84 p0 p1 := by kernel_rfl
theorem en_f84 : Qag Tryz.prog 84 := .inr ⟨by decide, _, Tryz.func84, by kernel_rfl, by kernel_rfl⟩
theorem gk_f84 : GOk Tryz.prog g_f84 := Qan _ (fun p hp => by cases hp)
theorem lk_f84 : Qzz.lok g_f84 := by repeat (first | exact trivial | refine ⟨?_, ?_⟩)
theorem s_f84 (a b : Int) : r_f84 a b = some (.t Qam (useP a b), []) := rfl
def QKK : Ent := spec (.pr tI (.pr tI .nil)) (fun x => true) (fun x => (.t Qam (useP x.1 x.2.1)))
theorem ms_f84 : Meets Tryz.prog 84 (strip QKK) := Qaf (R := runF g_f84 Qzz QLy false) (mG Tryz.func84 (by kernel_rfl) Tryz.ntmps84 (by kernel_rfl) gk_f84 lk_f84) fun x _ => (e_f84 x.1 x.2.1).trans (s_f84 x.1 x.2.1)
def suiP (c : Int) (n : ByteArray) (e s f m : Keep) (l o : Int) : Suite := (c, (n, (e, (s, (f, (m, (l, (o, ()))))))))
noncomputable def Qzy : TC := (.sq (.reg (rT Tryz.f85 0)) (.sq (.reg (rT Tryz.f85 1)) .rt))
def QLx : List (RV × Option Ty) := [((.c 16 true 12), some Qaw)]
def g_f85 : G := ⟨TYs, [], 26, EL [], keeps, (fun _ _ => none), IL [], RL []⟩
def r_f85 (p0 : Int) (p1 : ByteArray) (p2 p3 p4 p5 : Keep) (p6 p7 : Int) : Option (V × List VO) := some (.t Qaw (p0, (p1, ((p2.1, (p2.2.1, ())), ((p3.1, (p3.2.1, ())), ((p4.1, (p4.2.1, ())), ((p5.1, (p5.2.1, ())), (p6, (p7, ())))))))), [])
theorem e_f85 (p0 : Int) (p1 : ByteArray) (p2 p3 p4 p5 : Keep) (p6 p7 : Int) : runF g_f85 Qzy QLx false [.t tI p0, .t .str p1, .t Qam p2, .t Qam p3, .t Qam p4, .t Qam p5, .t tI p6, .t tI p7] [] = r_f85 p0 p1 p2 p3 p4 p5 p6 p7 := by kernel_rfl
theorem en_f85 : Qag Tryz.prog 85 := .inr ⟨by decide, _, Tryz.func85, by kernel_rfl, by kernel_rfl⟩
theorem gk_f85 : GOk Tryz.prog g_f85 := Qan _ (fun p hp => by cases hp)
theorem lk_f85 : Qzy.lok g_f85 := by repeat (first | exact trivial | refine ⟨?_, ?_⟩)
theorem s_f85 (c : Int) (n : ByteArray) (e s f m : Keep) (l o : Int) : r_f85 c n e s f m l o = some (.t Qaw (suiP c n e s f m l o), []) := rfl
def QKJ : Ent := spec (.pr tI (.pr .str (.pr Qam (.pr Qam (.pr Qam (.pr Qam (.pr tI (.pr tI .nil)))))))) (fun x => true) (fun x => (.t Qaw (suiP x.1 x.2.1 x.2.2.1 x.2.2.2.1 x.2.2.2.2.1 x.2.2.2.2.2.1 x.2.2.2.2.2.2.1 x.2.2.2.2.2.2.2.1)))
theorem ms_f85 : Meets Tryz.prog 85 (strip QKJ) := Qaf (R := runF g_f85 Qzy QLx false) (mG Tryz.func85 (by kernel_rfl) Tryz.ntmps85 (by kernel_rfl) gk_f85 lk_f85) fun x _ => (e_f85 x.1 x.2.1 x.2.2.1 x.2.2.2.1 x.2.2.2.2.1 x.2.2.2.2.2.1 x.2.2.2.2.2.2.1 x.2.2.2.2.2.2.2.1).trans (s_f85 x.1 x.2.1 x.2.2.1 x.2.2.2.1 x.2.2.2.2.1 x.2.2.2.2.2.1 x.2.2.2.2.2.2.1 x.2.2.2.2.2.2.2.1)
noncomputable def QJs : List DO := dT Tryz.f52 6
noncomputable def QzV : TC := (.sq (.reg (rT Tryz.f52 0)) (.sq (.reg (rT Tryz.f52 1)) (.sq (.reg (rT Tryz.f52 2)) (.sq (.reg (rT Tryz.f52 3)) (.sq (.reg (rT Tryz.f52 4)) (.sq (.reg (rT Tryz.f52 5)) (.sq (.dr QJs [(0, [1]), (1, [2]), (2, [4]), (3, [9]), (4, []), (5, [1]), (6, [2]), (7, [4]), (8, [10]), (9, []), (10, [1]), (11, [2]), (12, [5]), (13, [10]), (14, []), (15, []), (16, []), (17, [5]), (18, [10]), (19, []), (20, []), (21, [2]), (22, [5]), (23, [10]), (24, []), (25, [1]), (26, [2]), (27, [6]), (28, [10]), (29, []), (30, []), (31, [2]), (32, [6]), (33, [10]), (34, []), (35, [13]), (36, [2]), (37, [6]), (38, [10]), (39, []), (40, [13]), (41, []), (42, []), (43, [11]), (44, []), (45, [13]), (46, [2]), (47, [7]), (48, [12]), (49, []), (50, []), (51, []), (52, [8]), (53, [12]), (54, []), (55, [13]), (56, [2]), (57, [14]), (58, [12]), (59, []), (60, [1]), (61, [2]), (62, [8]), (63, [12]), (64, []), (65, [13]), (66, [3]), (67, [7]), (68, [12]), (69, []), (70, [13]), (71, [3]), (72, [14]), (73, [12]), (74, []), (75, []), (76, [3]), (77, [8]), (78, [12]), (79, []), (80, []), (81, [])] (.of [0, 1, 2, 3, 4, 5, 6, 7, 8, 9, 10, 11, 12, 13, 14, 15, 16, 17, 18, 19, 20, 21, 22, 23, 24, 25, 26, 27, 28, 29, 30, 31, 32, 33, 34, 35, 36, 37, 38, 39, 40, 41, 42, 43, 44, 45, 46, 47, 48, 49, 50, 51, 52, 53, 54, 55, 56, 57, 58, 59, 60, 61, 62, 63, 64, 65, 66, 67, 68, 69, 70, 71, 72, 73, 74, 75, 76, 77, 78, 79, 80, 81])) .rt)))))))
def QLU : List (RV × Option Ty) := [((.t 0), some (.sl Qaw))]
def g_f52 : G := ⟨TYs, [], 110, EL [(84, QKK), (85, QKJ)], keeps, (fun _ _ => none), IL [], RL []⟩
def QbQ : Ty.T (.sl Qaw) :=
 let a1 := (suiP 9 (ByteArray.mk #[101, 99, 100, 104, 101, 45, 101, 99, 100, 115, 97, 45, 97, 101, 115, 50, 53, 54, 45, 115, 104, 97, 50, 53, 54]) (useP 12 256) (useP 7 0) (useP 16 256) (useP 21 0) 3 3)
 let a2 := (suiP 11 (ByteArray.mk #[101, 99, 100, 104, 101, 45, 101, 99, 100, 115, 97, 45, 97, 101, 115, 50, 53, 54, 45, 103, 99, 109]) (useP 12 384) (useP 7 0) (useP 17 256) (useP 22 0) 3 3)
 let a3 := (suiP 10 (ByteArray.mk #[101, 99, 100, 104, 101, 45, 114, 115, 97, 45, 97, 101, 115, 49, 50, 56, 45, 103, 99, 109]) (useP 12 256) (useP 5 0) (useP 17 128) (useP 22 0) 3 3)
 let a4 := (suiP 8 (ByteArray.mk #[101, 99, 100, 104, 101, 45, 114, 115, 97, 45, 97, 101, 115, 49, 50, 56, 45, 115, 104, 97]) (useP 12 256) (useP 5 0) (useP 16 128) (useP 20 0) 1 3)
 let a5 := (suiP 7 (ByteArray.mk #[100, 104, 101, 45, 114, 115, 97, 45, 97, 101, 115, 49, 50, 56, 45, 115, 104, 97]) (useP 11 2048) (useP 5 0) (useP 16 128) (useP 20 0) 1 3)
 let a6 := (suiP 16 (ByteArray.mk #[109, 108, 107, 101, 109, 45, 97, 101, 115, 50, 53, 54, 45, 103, 99, 109]) (useP 13 768) (0, (0, ())) (useP 17 256) (useP 22 0) 4 4)
 let a7 := (suiP 4 (ByteArray.mk #[100, 104, 101, 45, 100, 115, 97, 45, 100, 101, 115, 51, 45, 115, 104, 97]) (useP 11 1024) (useP 6 0) (useP 15 168) (useP 20 0) 1 3)
 let a8 := (suiP 5 (ByteArray.mk #[100, 104, 101, 45, 114, 115, 97, 45, 100, 101, 115, 51, 45, 115, 104, 97]) (useP 11 1024) (useP 5 0) (useP 15 168) (useP 20 0) 1 3)
 let a9 := (suiP 12 (ByteArray.mk #[101, 99, 100, 104, 101, 45, 114, 115, 97, 45, 99, 104, 97, 99, 104, 97]) (useP 12 256) (useP 5 0) (useP 18 0) (useP 22 0) 3 3)
 let a10 := (suiP 13 (ByteArray.mk #[114, 115, 97, 45, 97, 101, 115, 50, 53, 54, 45, 103, 99, 109]) (useP 10 0) (useP 5 0) (useP 17 256) (useP 22 0) 3 3)
 let a11 := (suiP 6 (ByteArray.mk #[114, 115, 97, 45, 97, 101, 115, 49, 50, 56, 45, 115, 104, 97]) (useP 10 0) (useP 5 0) (useP 16 128) (useP 20 0) 1 3)
 let a12 := (suiP 3 (ByteArray.mk #[114, 115, 97, 45, 100, 101, 115, 51, 45, 115, 104, 97]) (useP 10 0) (useP 5 0) (useP 15 168) (useP 20 0) 1 3)
 let a13 := (suiP 1 (ByteArray.mk #[114, 115, 97, 45, 114, 99, 52, 45, 109, 100, 53]) (useP 10 0) (useP 5 0) (useP 14 128) (useP 19 0) 1 2)
 let a14 := (suiP 2 (ByteArray.mk #[114, 115, 97, 45, 114, 99, 52, 45, 115, 104, 97]) (useP 10 0) (useP 5 0) (useP 14 128) (useP 20 0) 1 3)
 let a15 := (suiP 14 (ByteArray.mk #[97, 101, 115, 49, 50, 56, 45, 103, 99, 109]) (useP 12 256) (0, (0, ())) (useP 17 128) (useP 22 0) 4 4)
 let a16 := (suiP 15 (ByteArray.mk #[99, 104, 97, 99, 104, 97]) (useP 12 256) (0, (0, ())) (useP 18 0) (useP 22 0) 4 4)
 let a17 := (((a13.2).2).2)
 let a18 := (((a14.2).2).2)
 let a19 := (((a12.2).2).2)
 let a20 := (((a11.2).2).2)
 let a21 := (((a10.2).2).2)
 let a22 := (((a15.2).2).2)
 let a23 := (((a16.2).2).2)
 let a24 := (((a7.2).2).2)
 let a25 := (((a8.2).2).2)
 let a26 := (((a5.2).2).2)
 let a27 := (((a4.2).2).2)
 let a28 := (((a1.2).2).2)
 let a29 := (((a3.2).2).2)
 let a30 := (((a2.2).2).2)
 let a31 := (((a9.2).2).2)
 let a32 := (((a6.2).2).2)
 ([(a13.1, ((a13.2).1, (((((a13.2).2).1).1, (((((a13.2).2).1).2).1, ())), (((a17.1).1, (((a17.1).2).1, ())), ((((a17.2).1).1, ((((a17.2).1).2).1, ())), (((((a17.2).2).1).1, (((((a17.2).2).1).2).1, ())), ((((a17.2).2).2).1, (((((a17.2).2).2).2).1, ())))))))), (a14.1, ((a14.2).1, (((((a14.2).2).1).1, (((((a14.2).2).1).2).1, ())), (((a18.1).1, (((a18.1).2).1, ())), ((((a18.2).1).1, ((((a18.2).1).2).1, ())), (((((a18.2).2).1).1, (((((a18.2).2).1).2).1, ())), ((((a18.2).2).2).1, (((((a18.2).2).2).2).1, ())))))))), (a12.1, ((a12.2).1, (((((a12.2).2).1).1, (((((a12.2).2).1).2).1, ())), (((a19.1).1, (((a19.1).2).1, ())), ((((a19.2).1).1, ((((a19.2).1).2).1, ())), (((((a19.2).2).1).1, (((((a19.2).2).1).2).1, ())), ((((a19.2).2).2).1, (((((a19.2).2).2).2).1, ())))))))), (a7.1, ((a7.2).1, (((((a7.2).2).1).1, (((((a7.2).2).1).2).1, ())), (((a24.1).1, (((a24.1).2).1, ())), ((((a24.2).1).1, ((((a24.2).1).2).1, ())), (((((a24.2).2).1).1, (((((a24.2).2).1).2).1, ())), ((((a24.2).2).2).1, (((((a24.2).2).2).2).1, ())))))))), (a8.1, ((a8.2).1, (((((a8.2).2).1).1, (((((a8.2).2).1).2).1, ())), (((a25.1).1, (((a25.1).2).1, ())), ((((a25.2).1).1, ((((a25.2).1).2).1, ())), (((((a25.2).2).1).1, (((((a25.2).2).1).2).1, ())), ((((a25.2).2).2).1, (((((a25.2).2).2).2).1, ())))))))), (a11.1, ((a11.2).1, (((((a11.2).2).1).1, (((((a11.2).2).1).2).1, ())), (((a20.1).1, (((a20.1).2).1, ())), ((((a20.2).1).1, ((((a20.2).1).2).1, ())), (((((a20.2).2).1).1, (((((a20.2).2).1).2).1, ())), ((((a20.2).2).2).1, (((((a20.2).2).2).2).1, ())))))))), (a5.1, ((a5.2).1, (((((a5.2).2).1).1, (((((a5.2).2).1).2).1, ())), (((a26.1).1, (((a26.1).2).1, ())), ((((a26.2).1).1, ((((a26.2).1).2).1, ())), (((((a26.2).2).1).1, (((((a26.2).2).1).2).1, ())), ((((a26.2).2).2).1, (((((a26.2).2).2).2).1, ())))))))), (a4.1, ((a4.2).1, (((((a4.2).2).1).1, (((((a4.2).2).1).2).1, ())), (((a27.1).1, (((a27.1).2).1, ())), ((((a27.2).1).1, ((((a27.2).1).2).1, ())), (((((a27.2).2).1).1, (((((a27.2).2).1).2).1, ())), ((((a27.2).2).2).1, (((((a27.2).2).2).2).1, ())))))))), (a1.1, ((a1.2).1, (((((a1.2).2).1).1, (((((a1.2).2).1).2).1, ())), (((a28.1).1, (((a28.1).2).1, ())), ((((a28.2).1).1, ((((a28.2).1).2).1, ())), (((((a28.2).2).1).1, (((((a28.2).2).1).2).1, ())), ((((a28.2).2).2).1, (((((a28.2).2).2).2).1, ())))))))), (a3.1, ((a3.2).1, (((((a3.2).2).1).1, (((((a3.2).2).1).2).1, ())), (((a29.1).1, (((a29.1).2).1, ())), ((((a29.2).1).1, ((((a29.2).1).2).1, ())), (((((a29.2).2).1).1, (((((a29.2).2).1).2).1, ())), ((((a29.2).2).2).1, (((((a29.2).2).2).2).1, ())))))))), (a2.1, ((a2.2).1, (((((a2.2).2).1).1, (((((a2.2).2).1).2).1, ())), (((a30.1).1, (((a30.1).2).1, ())), ((((a30.2).1).1, ((((a30.2).1).2).1, ())), (((((a30.2).2).1).1, (((((a30.2).2).1).2).1, ())), ((((a30.2).2).2).1, (((((a30.2).2).2).2).1, ())))))))), (a9.1, ((a9.2).1, (((((a9.2).2).1).1, (((((a9.2).2).1).2).1, ())), (((a31.1).1, (((a31.1).2).1, ())), ((((a31.2).1).1, ((((a31.2).1).2).1, ())), (((((a31.2).2).1).1, (((((a31.2).2).1).2).1, ())), ((((a31.2).2).2).1, (((((a31.2).2).2).2).1, ())))))))), (a10.1, ((a10.2).1, (((((a10.2).2).1).1, (((((a10.2).2).1).2).1, ())), (((a21.1).1, (((a21.1).2).1, ())), ((((a21.2).1).1, ((((a21.2).1).2).1, ())), (((((a21.2).2).1).1, (((((a21.2).2).1).2).1, ())), ((((a21.2).2).2).1, (((((a21.2).2).2).2).1, ())))))))), (a15.1, ((a15.2).1, (((((a15.2).2).1).1, (((((a15.2).2).1).2).1, ())), (((a22.1).1, (((a22.1).2).1, ())), ((((a22.2).1).1, ((((a22.2).1).2).1, ())), (((((a22.2).2).1).1, (((((a22.2).2).1).2).1, ())), ((((a22.2).2).2).1, (((((a22.2).2).2).2).1, ())))))))), (a16.1, ((a16.2).1, (((((a16.2).2).1).1, (((((a16.2).2).1).2).1, ())), (((a23.1).1, (((a23.1).2).1, ())), ((((a23.2).1).1, ((((a23.2).1).2).1, ())), (((((a23.2).2).1).1, (((((a23.2).2).1).2).1, ())), ((((a23.2).2).2).1, (((((a23.2).2).2).2).1, ())))))))), (a6.1, ((a6.2).1, (((((a6.2).2).1).1, (((((a6.2).2).1).2).1, ())), (((a32.1).1, (((a32.1).2).1, ())), ((((a32.2).1).1, ((((a32.2).1).2).1, ())), (((((a32.2).2).1).1, (((((a32.2).2).1).2).1, ())), ((((a32.2).2).2).1, (((((a32.2).2).2).2).1, ()))))))))])
def r_f52  : Option (V × List VO) := some (.t (.sl Qaw) QbQ, [])
theorem e_f52  : runF g_f52 QzV QLU false [] [] = r_f52  := by kernel_rfl
theorem en_f52 : Qag Tryz.prog 52 := .inr ⟨by decide, _, Tryz.func52, by kernel_rfl, by kernel_rfl⟩
theorem gk_f52 : GOk Tryz.prog g_f52 := Qan _ (gA (gC en_f84 ms_f84 (gC en_f85 ms_f85 gN)))
theorem lk_f52 : QzV.lok g_f52 := by repeat (first | exact trivial | refine ⟨?_, ?_⟩)
theorem s_f52 : r_f52 = some (.t (.sl Qaw) QbQ, []) := rfl
def QK2 : Ent := spec .nil (fun x => true) (fun x => (.t (.sl Qaw) QbQ))
theorem ms_f52 : Meets Tryz.prog 52 (strip QK2) := Qaf (R := runF g_f52 QzV QLU false) (mG Tryz.func52 (by kernel_rfl) Tryz.ntmps52 (by kernel_rfl) gk_f52 lk_f52) fun x _ => (e_f52 ).trans (s_f52 )
abbrev Qzc : Suite := Ty.zero Qaw
def codeL (k : Nat) (l : List Suite) : List Suite := (List.range' k (16 - k)).foldl (fun l i => l.set i (((i + 1 : Nat) : Int), (l.getD i Qzc).2)) l
noncomputable def QJo : List DO := dT Tryz.f74 4
def Qiv : Fg := ⟨[(15, none), (113, some tI), (114, some tI)], [(111, none)]⟩
noncomputable def Qkd : TC := (.sq (.reg (rT Tryz.f74 6)) (.sq (.cd (.t 115) .sk (.fg ⟨[(15, none)], [(111, none)]⟩ (.ex 0))) (.sq (.bk 1 (.sq (.reg (rT Tryz.f74 7)) (.reg (rT Tryz.f74 8)))) (.reg (rT Tryz.f74 9)))))
noncomputable def QzG : TC := (.sq (.reg (rT Tryz.f74 0)) (.sq (.reg (rT Tryz.f74 1)) (.sq (.reg (rT Tryz.f74 2)) (.sq (.reg (rT Tryz.f74 3)) (.sq (.dr QJo [(0, [1]), (1, [2]), (2, []), (3, [11]), (4, []), (5, [1]), (6, [2]), (7, []), (8, [12]), (9, []), (10, [1]), (11, [2]), (12, [6]), (13, [12]), (14, []), (15, []), (16, [3]), (17, [6]), (18, [12]), (19, []), (20, []), (21, [2]), (22, [6]), (23, [12]), (24, []), (25, [1]), (26, [2]), (27, [7]), (28, [12]), (29, []), (30, []), (31, [2]), (32, [7]), (33, [12]), (34, []), (35, [14]), (36, [2]), (37, [7]), (38, [12]), (39, []), (40, [14]), (41, [4]), (42, []), (43, []), (44, []), (45, [14]), (46, [2]), (47, [8]), (48, [13]), (49, []), (50, []), (51, [4]), (52, [9]), (53, [13]), (54, []), (55, [14]), (56, [2]), (57, [10]), (58, [13]), (59, []), (60, [1]), (61, [2]), (62, [9]), (63, [13]), (64, []), (65, [14]), (66, [5]), (67, [8]), (68, [13]), (69, []), (70, [14]), (71, [5]), (72, [10]), (73, [13]), (74, []), (75, []), (76, [5]), (77, [9]), (78, [13]), (79, []), (80, [111, 5111, 10111, 15111]), (81, [111])] (.of [0, 1, 2, 3, 4, 5, 6, 7, 8, 9, 10, 11, 12, 13, 14, 15, 16, 17, 18, 19, 20, 21, 22, 23, 24, 25, 26, 27, 28, 29, 30, 31, 32, 33, 34, 35, 36, 37, 38, 39, 40, 41, 42, 43, 44, 45, 46, 47, 48, 49, 50, 51, 52, 53, 54, 55, 56, 57, 58, 59, 60, 61, 62, 63, 64, 65, 66, 67, 68, 69, 70, 71, 72, 73, 74, 75, 76, 77, 78, 79, 80, 81])) (.sq (.sq (.reg (rT Tryz.f74 5)) (.bk 0 (.lp 0 Qiv Qkd))) (.sq (.reg (rT Tryz.f74 10)) .rt)))))))
def QLF : List (RV × Option Ty) := [((.t 0), some (.sl Qaw))]
abbrev Qo6 : Sh := ⟨[(15, .ms 111), (113, .ty tI), (114, .ty tI)], [(111, .arr 54 Qaw)]⟩
def QoJ (x113 x114 : Int) (y111 : List Suite) : VS := Qo6.st ((), x113, x114, ()) (y111, ())
abbrev Qux : Sh := ⟨[(15, .ms 111)], [(111, .arr 54 Qaw)]⟩
def Qej (y111 : List Suite) : VS := Qux.st ((), ()) (y111, ())
def QRl : VS → Option (Bool × List (Bool × Exit × VS)) := mkL Qo6 (fun x y => (decide (0 ≤ x.2.2.1 ∧ x.2.2.1 ≤ 16 ∧ x.2.1 = 16 ∧ y.1.length = 16))) (fun x y => [(true, .exit 0, Qej (codeL x.2.2.1.toNat y.1))])
def g_f74 : G := ⟨TYs, [111], 125, EL [(105, QBh)], keeps, (Ls [QRl]), IL [], RL []⟩
def QGz (x113 x114 : Int) (y111 : List Suite) : Option (Exit × VS) :=
 let a1 := Int.toNat x114
 br (ilt x114 x113) (br (cIx y111 x114) (br (cLd y111 a1) (some (.normal, QoJ x113 (iadd .i64 x114 1) (List.set y111 a1 ((iadd .i64 x114 1), (lgt Qaw y111 a1).2)))) none) none) (some (.exit 0, Qej y111))
noncomputable def QkW (x113 x114 : Int) (y111 : List Suite) : Option (Exit × VS) := loopF (Qaj g_f74 Qiv Qkd) (QoJ x113 x114 y111)
noncomputable def Qve (x113 x114 : Int) (y111 : List Suite) : Option (Exit × VS) :=
 let a1 := Int.toNat x114
 br (ilt x114 x113) (br (cIx y111 x114) (br (cLd y111 a1) (QkW x113 (iadd .i64 x114 1) (List.set y111 a1 ((iadd .i64 x114 1), (lgt Qaw y111 a1).2))) none) none) (some (.exit 0, Qej y111))
def Qqi (x113 x114 : Int) (y111 : List Suite) : Option (Exit × VS) := some (.exit 0, Qej (codeL x114.toNat y111))
theorem QJU (x113 x114 : Int) (y111 : List Suite) : Qaj g_f74 Qiv Qkd (QoJ x113 x114 y111) = QGz x113 x114 y111 := by kernel_rfl
theorem QwF (x113 x114 : Int) (y111 : List Suite) : QkW x113 x114 y111 = Qve x113 x114 y111 := (Qaq _ _).trans (by
 rw [QJU]
 simp only [QGz, Qve, QaE, nxt_n, nxt_r, nxt_e, nxt_0]
 rfl)
def r_f74  : Option (V × List VO) :=
 let a1 := ((useP 5 0).1, (((useP 5 0).2).1, ()))
 let a2 := ((useP 20 0).1, (((useP 20 0).2).1, ()))
 let a3 := ((useP 22 0).1, (((useP 22 0).2).1, ()))
 let a4 := ((useP 12 256).1, (((useP 12 256).2).1, ()))
 let a5 := ((useP 10 0).1, (((useP 10 0).2).1, ()))
 let a6 := ((useP 15 168).1, (((useP 15 168).2).1, ()))
 let a7 := ((useP 16 128).1, (((useP 16 128).2).1, ()))
 let a8 := ((useP 17 256).1, (((useP 17 256).2).1, ()))
 let a9 := (ByteArray.mk #[101, 99, 100, 104, 101, 45, 101, 99, 100, 115, 97, 45, 97, 101, 115, 50, 53, 54, 45, 115, 104, 97, 50, 53, 54])
 let a10 := (ByteArray.mk #[101, 99, 100, 104, 101, 45, 101, 99, 100, 115, 97, 45, 97, 101, 115, 50, 53, 54, 45, 103, 99, 109])
 let a11 := ((useP 11 1024).1, (((useP 11 1024).2).1, ()))
 let a12 := (ByteArray.mk #[101, 99, 100, 104, 101, 45, 114, 115, 97, 45, 97, 101, 115, 49, 50, 56, 45, 115, 104, 97])
 let a13 := (ByteArray.mk #[101, 99, 100, 104, 101, 45, 114, 115, 97, 45, 97, 101, 115, 49, 50, 56, 45, 103, 99, 109])
 let a14 := ((useP 14 128).1, (((useP 14 128).2).1, ()))
 let a15 := ((useP 17 128).1, (((useP 17 128).2).1, ()))
 let a16 := (ByteArray.mk #[100, 104, 101, 45, 114, 115, 97, 45, 97, 101, 115, 49, 50, 56, 45, 115, 104, 97])
 let a17 := ((useP 18 0).1, (((useP 18 0).2).1, ()))
 let a18 := ((useP 7 0).1, (((useP 7 0).2).1, ()))
 let a19 := (ByteArray.mk #[100, 104, 101, 45, 100, 115, 97, 45, 100, 101, 115, 51, 45, 115, 104, 97])
 let a20 := (ByteArray.mk #[100, 104, 101, 45, 114, 115, 97, 45, 100, 101, 115, 51, 45, 115, 104, 97])
 let a21 := (ByteArray.mk #[109, 108, 107, 101, 109, 45, 97, 101, 115, 50, 53, 54, 45, 103, 99, 109])
 let a22 := (ByteArray.mk #[101, 99, 100, 104, 101, 45, 114, 115, 97, 45, 99, 104, 97, 99, 104, 97])
 let a23 := (ByteArray.mk #[114, 115, 97, 45, 97, 101, 115, 49, 50, 56, 45, 115, 104, 97])
 let a24 := (ByteArray.mk #[114, 115, 97, 45, 97, 101, 115, 50, 53, 54, 45, 103, 99, 109])
 let a25 := (ByteArray.mk #[114, 115, 97, 45, 100, 101, 115, 51, 45, 115, 104, 97])
 let a26 := (ByteArray.mk #[114, 115, 97, 45, 114, 99, 52, 45, 109, 100, 53])
 let a27 := (ByteArray.mk #[114, 115, 97, 45, 114, 99, 52, 45, 115, 104, 97])
 let a28 := (ByteArray.mk #[97, 101, 115, 49, 50, 56, 45, 103, 99, 109])
 let a29 := ((useP 11 2048).1, (((useP 11 2048).2).1, ()))
 let a30 := ((useP 16 256).1, (((useP 16 256).2).1, ()))
 let a31 := ((useP 12 384).1, (((useP 12 384).2).1, ()))
 let a32 := ((useP 13 768).1, (((useP 13 768).2).1, ()))
 let a33 := (ByteArray.mk #[99, 104, 97, 99, 104, 97])
 let a34 := ((useP 19 0).1, (((useP 19 0).2).1, ()))
 let a35 := ((useP 21 0).1, (((useP 21 0).2).1, ()))
 let a36 := ((useP 6 0).1, (((useP 6 0).2).1, ()))
 br (decide (0 ≤ (0 : Int) ∧ (0 : Int) ≤ 16 ∧ (llen ([(0, (a26, (a5, (a1, (a14, (a34, (1, (2, ())))))))), (0, (a27, (a5, (a1, (a14, (a2, (1, (3, ())))))))), (0, (a25, (a5, (a1, (a6, (a2, (1, (3, ())))))))), (0, (a19, (a11, (a36, (a6, (a2, (1, (3, ())))))))), (0, (a20, (a11, (a1, (a6, (a2, (1, (3, ())))))))), (0, (a23, (a5, (a1, (a7, (a2, (1, (3, ())))))))), (0, (a16, (a29, (a1, (a7, (a2, (1, (3, ())))))))), (0, (a12, (a4, (a1, (a7, (a2, (1, (3, ())))))))), (0, (a9, (a4, (a18, (a30, (a35, (3, (3, ())))))))), (0, (a13, (a4, (a1, (a15, (a3, (3, (3, ())))))))), (0, (a10, (a31, (a18, (a8, (a3, (3, (3, ())))))))), (0, (a22, (a4, (a1, (a17, (a3, (3, (3, ())))))))), (0, (a24, (a5, (a1, (a8, (a3, (3, (3, ())))))))), (0, (a28, (a4, ((0, (0, ())), (a15, (a3, (4, (4, ())))))))), (0, (a33, (a4, ((0, (0, ())), (a17, (a3, (4, (4, ())))))))), (0, (a21, (a32, ((0, (0, ())), (a8, (a3, (4, (4, ()))))))))])) = 16 ∧ ([(0, (a26, (a5, (a1, (a14, (a34, (1, (2, ())))))))), (0, (a27, (a5, (a1, (a14, (a2, (1, (3, ())))))))), (0, (a25, (a5, (a1, (a6, (a2, (1, (3, ())))))))), (0, (a19, (a11, (a36, (a6, (a2, (1, (3, ())))))))), (0, (a20, (a11, (a1, (a6, (a2, (1, (3, ())))))))), (0, (a23, (a5, (a1, (a7, (a2, (1, (3, ())))))))), (0, (a16, (a29, (a1, (a7, (a2, (1, (3, ())))))))), (0, (a12, (a4, (a1, (a7, (a2, (1, (3, ())))))))), (0, (a9, (a4, (a18, (a30, (a35, (3, (3, ())))))))), (0, (a13, (a4, (a1, (a15, (a3, (3, (3, ())))))))), (0, (a10, (a31, (a18, (a8, (a3, (3, (3, ())))))))), (0, (a22, (a4, (a1, (a17, (a3, (3, (3, ())))))))), (0, (a24, (a5, (a1, (a8, (a3, (3, (3, ())))))))), (0, (a28, (a4, ((0, (0, ())), (a15, (a3, (4, (4, ())))))))), (0, (a33, (a4, ((0, (0, ())), (a17, (a3, (4, (4, ())))))))), (0, (a21, (a32, ((0, (0, ())), (a8, (a3, (4, (4, ()))))))))]).length = 16)) (some (.t (.sl Qaw) (codeL (0 : Int).toNat ([(0, (a26, (a5, (a1, (a14, (a34, (1, (2, ())))))))), (0, (a27, (a5, (a1, (a14, (a2, (1, (3, ())))))))), (0, (a25, (a5, (a1, (a6, (a2, (1, (3, ())))))))), (0, (a19, (a11, (a36, (a6, (a2, (1, (3, ())))))))), (0, (a20, (a11, (a1, (a6, (a2, (1, (3, ())))))))), (0, (a23, (a5, (a1, (a7, (a2, (1, (3, ())))))))), (0, (a16, (a29, (a1, (a7, (a2, (1, (3, ())))))))), (0, (a12, (a4, (a1, (a7, (a2, (1, (3, ())))))))), (0, (a9, (a4, (a18, (a30, (a35, (3, (3, ())))))))), (0, (a13, (a4, (a1, (a15, (a3, (3, (3, ())))))))), (0, (a10, (a31, (a18, (a8, (a3, (3, (3, ())))))))), (0, (a22, (a4, (a1, (a17, (a3, (3, (3, ())))))))), (0, (a24, (a5, (a1, (a8, (a3, (3, (3, ())))))))), (0, (a28, (a4, ((0, (0, ())), (a15, (a3, (4, (4, ())))))))), (0, (a33, (a4, ((0, (0, ())), (a17, (a3, (4, (4, ())))))))), (0, (a21, (a32, ((0, (0, ())), (a8, (a3, (4, (4, ()))))))))])), [])) none
theorem e_f74  : runF g_f74 QzG QLF false [] [] = r_f74  := by kernel_rfl
theorem en_f74 : Qag Tryz.prog 74 := .inr ⟨by decide, _, Tryz.func74, by kernel_rfl, by kernel_rfl⟩
theorem gk_f74 : GOk Tryz.prog g_f74 := Qan _ (gA (gC QQW QOa gN))
theorem QPg (x113 x114 : Int) (y111 : List Suite) (h : (decide (0 ≤ x114 ∧ x114 ≤ 16 ∧ x113 = 16 ∧ y111.length = 16)) = true) : QkW x113 x114 y111 = Qqi x113 x114 y111 := by
 simp only [decide_eq_true_eq] at h
 obtain ⟨h1, h2, rfl, h4⟩ := h
 obtain ⟨k, rfl⟩ := Int.eq_ofNat_of_zero_le h1
 revert y111
 refine QKz 16 (fun k => ∀ y111 : List Suite, y111.length = 16 → QkW 16 (k : Int) y111 = Qqi 16 (k : Int) y111) ?_ ?_ k (by omega)
 ·intro y111 _
  rw [QwF]
  rfl
 ·intro k hk ih y111 hy
  rw [QwF]
  have e1 : ilt (k : Int) 16 = true := decide_eq_true (by omega)
  have e2 : cLd y111 k = true := decide_eq_true (by omega)
  have e3 : codeL k y111 = codeL (k + 1) (y111.set k (((k + 1 : Nat) : Int), (y111.getD k Qzc).2)) := by
   have : 16 - k = (16 - (k + 1)) + 1 := by omega
   unfold codeL
   rw [this, List.range'_succ, List.foldl_cons]
  simp only [Qve, e1, Qac, Qay, show decide (k < y111.length) = true from decide_eq_true (by omega), Int.toNat_natCast, e2, add1 (show k < 4611686018427387904 by omega)]
  rw [ih _ (by rw [List.length_set]; exact hy)]
  simp only [Qqi, Int.toNat_natCast, e3]
theorem QHZ : ∀ S l p, g_f74.L 0 (fgt Qiv S) = some (true, l) → pickA l = some p → loopF (Qaj g_f74 Qiv Qkd) S = some p :=
 QaF (s := Qo6) ⟨by decide, by decide⟩ (by kernel_rfl) fun x y hok p hp => by
 simp only [Qas, Qap] at hp
 exact (QPg x.2.1 x.2.2.1 y.1 (by simpa using hok)).trans hp
theorem lk_f74 : QzG.lok g_f74 := by
 repeat (first | exact trivial | exact QHZ | refine ⟨?_, ?_⟩)
set_option maxRecDepth 100000 in
theorem s_f74 : r_f74 = some (.t (.sl Qaw) QbQ, []) := by kernel_rfl
def QKQ : Ent := spec .nil (fun x => true) (fun x => (.t (.sl Qaw) QbQ))
theorem ms_f74 : Meets Tryz.prog 74 (strip QKQ) := Qaf (R := runF g_f74 QzG QLF false) (mG Tryz.func74 (by kernel_rfl) Tryz.ntmps74 (by kernel_rfl) gk_f74 lk_f74) fun x _ => (e_f74 ).trans (s_f74 )
theorem Qyo : (List.length (α := Qaw.T) QbQ) = 16 := by kernel_rfl
theorem QlL : llen (α := Qaw.T) QbQ = 16 := by kernel_rfl
theorem QqR {c : Int} (h : 1 ≤ c ∧ c ≤ 16) : cIx (α := Qaw.T) QbQ (c - 1) = true := by
 have := Qyo
 simp only [cIx, decide_eq_true_eq]
 omega
def QaA (c : Int) : Suite × Int := if c < 1 ∨ 16 < c then (Qzc, 8) else (lgt Qaw QbQ (c - 1).toNat, 0)
noncomputable def QzY : TC := (.sq (.reg (rT Tryz.f48 0)) (.sq (.reg (rT Tryz.f48 1)) (.sq (.sq (.reg (rT Tryz.f48 2)) (.cd (.t 13) (.sq (.reg (rT Tryz.f48 3)) .rt) .sk)) (.sq (.reg (rT Tryz.f48 4)) .rt))))
def QLX : List (RV × Option Ty) := [((.c 2 true 12), some Qaw), ((.t 3), some tI)]
def g_f48 : G := ⟨TYs, [], 20, EL [(74, QKQ)], keeps, (fun _ _ => none), IL [], RL []⟩
def r_f48 (p0 : Int) : Option (V × List VO) := br (ilt p0 1) (some (.tu [(.t Qaw (0, ((ByteArray.mk #[]), ((0, (0, ())), ((0, (0, ())), ((0, (0, ())), ((0, (0, ())), (0, (0, ()))))))))), (.t tI 8)], [])) (br (igt p0 (llen QbQ)) (some (.tu [(.t Qaw (0, ((ByteArray.mk #[]), ((0, (0, ())), ((0, (0, ())), ((0, (0, ())), ((0, (0, ())), (0, (0, ()))))))))), (.t tI 8)], [])) (br (cIx QbQ (isub .i64 p0 1)) (some (.tu [(.t Qaw (lgt Qaw QbQ (Int.toNat (isub .i64 p0 1)))), (.t tI 0)], [])) none))
theorem e_f48 (p0 : Int) : runF g_f48 QzY QLX false [.t tI p0] [] = r_f48 p0 := by kernel_rfl
theorem QxF : Qag Tryz.prog 48 := .inr ⟨by decide, _, Tryz.func48, by kernel_rfl, by kernel_rfl⟩
theorem gk_f48 : GOk Tryz.prog g_f48 := Qan _ (gA (gC en_f74 ms_f74 gN))
theorem lk_f48 : QzY.lok g_f48 := by repeat (first | exact trivial | refine ⟨?_, ?_⟩)
theorem s_f48 (c : Int) : r_f48 c = some (.tu [.t Qaw (QaA c).1, .t tI (QaA c).2], []) := by
 simp only [r_f48]
 unfold QaA
 refine QaP (fun h1 => ?_) (fun h1 => QaP (fun h2 => ?_) (fun h2 => ?_))
 ·simp only [ilt, decide_eq_true_eq] at h1
  rw [if_pos (.inl h1)]
  rfl
 ·have h2 := of_decide_eq_true h2
  have := QlL
  rw [if_pos (.inr (by omega))]
  rfl
 ·simp only [ilt, decide_eq_false_iff_not] at h1
  have h2 := of_decide_eq_false h2
  have := QlL
  rw [if_neg (by omega), QbE (by omega), QqR (by omega), Qac]
def Qq5 : Ent := spec (.pr tI .nil) (fun x => true) (fun x => (.tu [(.t Qaw ((QaA x.1).1)), (.t tI ((QaA x.1).2))]))
theorem Qwu : Meets Tryz.prog 48 (strip Qq5) := Qaf (R := runF g_f48 QzY QLX false) (mG Tryz.func48 (by kernel_rfl) Tryz.ntmps48 (by kernel_rfl) gk_f48 lk_f48) fun x _ => (e_f48 x.1).trans (s_f48 x.1)
noncomputable def QAd : TC := (.sq (.reg (rT Tryz.f26 0)) (.sq (.sq (.reg (rT Tryz.f26 1)) (.cd (.t 9) (.sq (.reg (rT Tryz.f26 2)) .rt) .sk)) (.sq (.reg (rT Tryz.f26 3)) .rt)))
def QMc : List (RV × Option Ty) := [((.c 2 true 12), some Qaw), ((.t 3), some tI)]
def g_f26 : G := ⟨TYs, [], 16, EL [(52, QK2)], keeps, (fun _ _ => none), IL [], RL []⟩
def r_f26 (p0 : Int) : Option (V × List VO) := br (ilt p0 1) (some (.tu [(.t Qaw (0, ((ByteArray.mk #[]), ((0, (0, ())), ((0, (0, ())), ((0, (0, ())), ((0, (0, ())), (0, (0, ()))))))))), (.t tI 8)], [])) (br (igt p0 16) (some (.tu [(.t Qaw (0, ((ByteArray.mk #[]), ((0, (0, ())), ((0, (0, ())), ((0, (0, ())), ((0, (0, ())), (0, (0, ()))))))))), (.t tI 8)], [])) (br (cIx QbQ (isub .i64 p0 1)) (some (.tu [(.t Qaw (lgt Qaw QbQ (Int.toNat (isub .i64 p0 1)))), (.t tI 0)], [])) none))
theorem e_f26 (p0 : Int) : runF g_f26 QAd QMc false [.t tI p0] [] = r_f26 p0 := by kernel_rfl
theorem en_f26 : Qag Tryz.prog 26 := .inr ⟨by decide, _, Tryz.func26, by kernel_rfl, by kernel_rfl⟩
theorem gk_f26 : GOk Tryz.prog g_f26 := Qan _ (gA (gC en_f52 ms_f52 gN))
theorem lk_f26 : QAd.lok g_f26 := by repeat (first | exact trivial | refine ⟨?_, ?_⟩)
theorem s_f26 (c : Int) : r_f26 c = some (.tu [.t Qaw (QaA c).1, .t tI (QaA c).2], []) := by
 simp only [r_f26]
 unfold QaA
 refine QaP (fun h1 => ?_) (fun h1 => QaP (fun h2 => ?_) (fun h2 => ?_))
 ·simp only [ilt, decide_eq_true_eq] at h1
  rw [if_pos (.inl h1)]
  rfl
 ·simp only [igt, decide_eq_true_eq] at h2
  rw [if_pos (.inr (by omega))]
  rfl
 ·simp only [ilt, decide_eq_false_iff_not] at h1
  simp only [igt, decide_eq_false_iff_not] at h2
  rw [if_neg (by omega), QbE (by omega), QqR (by omega), Qac]
def QLe : Ent := spec (.pr tI .nil) (fun x => true) (fun x => (.tu [(.t Qaw ((QaA x.1).1)), (.t tI ((QaA x.1).2))]))
theorem ms_f26 : Meets Tryz.prog 26 (strip QLe) := Qaf (R := runF g_f26 QAd QMc false) (mG Tryz.func26 (by kernel_rfl) Tryz.ntmps26 (by kernel_rfl) gk_f26 lk_f26) fun x _ => (e_f26 x.1).trans (s_f26 x.1)
def QiF : Fg := ⟨[(0, some (.sl tI)), (1, some tI), (5, some tI)], []⟩
noncomputable def Qkn : TC := (.sq (.sq (.reg (rT Tryz.f27 2)) (.cd (.t 9) .sk (.fg ⟨[], []⟩ (.ex 0)))) (.sq (.bk 1 (.sq (.reg (rT Tryz.f27 3)) (.cd (.t 17) (.sq (.reg (rT Tryz.f27 4)) (.fg ⟨[(4, some .bool)], []⟩ .rt)) .sk))) (.reg (rT Tryz.f27 5))))
noncomputable def QAc : TC := (.sq (.reg (rT Tryz.f27 0)) (.sq (.sq (.reg (rT Tryz.f27 1)) (.bk 0 (.lp 0 QiF Qkn))) (.sq (.reg (rT Tryz.f27 6)) .rt)))
def QMb : List (RV × Option Ty) := [((.t 4), some .bool)]
abbrev Qpg : Sh := ⟨[(0, .ty (.sl tI)), (1, .ty tI), (5, .ty tI)], []⟩
def QoR (x0 : List Int) (x1 x5 : Int) : VS := Qpg.st (x0, x1, x5, ()) ()
abbrev Qrn : Sh := ⟨[(4, .ty .bool)], []⟩
def Qdd (x4 : Bool) : VS := Qrn.st (x4, ()) ()
abbrev QuJ : Sh := ⟨[], []⟩
def Qet  : VS := QuJ.st () ()
def QRv : VS → Option (Bool × List (Bool × Exit × VS)) := mkL Qpg (fun x y => (decide (x.1.length ≤ 100000 ∧ 0 ≤ x.2.2.1 ∧ x.2.2.1 ≤ x.1.length))) (fun x y => [(((x.1.drop x.2.2.1.toNat).contains x.2.1), .ret, Qdd (true)), (true, .exit 0, Qet)])
def g_f27 : G := ⟨TYs, [], 18, EL [], keeps, (Ls [QRv]), IL [], RL []⟩
def QGI (x0 : List Int) (x1 x5 : Int) : Option (Exit × VS) := br (ilt x5 (llen x0)) (br (cIx x0 x5) (br (ieq (lgt tI x0 (Int.toNat x5)) x1) (some (.ret, Qdd true)) (some (.normal, QoR x0 x1 (iadd .i64 x5 1)))) none) (some (.exit 0, Qet))
noncomputable def Qk2 (x0 : List Int) (x1 x5 : Int) : Option (Exit × VS) := loopF (Qaj g_f27 QiF Qkn) (QoR x0 x1 x5)
noncomputable def Qp7 (x0 : List Int) (x1 x5 : Int) : Option (Exit × VS) := br (ilt x5 (llen x0)) (br (cIx x0 x5) (br (ieq (lgt tI x0 (Int.toNat x5)) x1) (some (.ret, Qdd true)) (Qk2 x0 x1 (iadd .i64 x5 1))) none) (some (.exit 0, Qet))
def Qlh (x0 : List Int) (x1 x5 : Int) : Option (Exit × VS) := br ((x0.drop x5.toNat).contains x1) (some (.ret, Qdd (true))) <| some (.exit 0, Qet)
theorem QJ4 (x0 : List Int) (x1 x5 : Int) : Qaj g_f27 QiF Qkn (QoR x0 x1 x5) = QGI x0 x1 x5 := by kernel_rfl
theorem QwP (x0 : List Int) (x1 x5 : Int) : Qk2 x0 x1 x5 = Qp7 x0 x1 x5 := (Qaq _ _).trans (by
 rw [QJ4]
 simp only [QGI, Qp7, QaE, nxt_n, nxt_r, nxt_e, nxt_0]
 rfl)
def r_f27 (p0 : List Int) (p1 : Int) : Option (V × List VO) := br (decide (p0.length ≤ 100000 ∧ 0 ≤ (0 : Int) ∧ (0 : Int) ≤ p0.length)) (br ((p0.drop (0 : Int).toNat).contains p1) (some (.t .bool (true), [])) (some (.t .bool false, []))) none
theorem e_f27 (p0 : List Int) (p1 : Int) : runF g_f27 QAc QMb false [.t (.sl tI) p0, .t tI p1] [] = r_f27 p0 p1 := by kernel_rfl
theorem QMW : Qag Tryz.prog 27 := .inr ⟨by decide, _, Tryz.func27, by kernel_rfl, by kernel_rfl⟩
theorem gk_f27 : GOk Tryz.prog g_f27 := Qan _ (fun p hp => by cases hp)
theorem QPq (x0 : List Int) (x1 x5 : Int) (h : (decide (x0.length ≤ 100000 ∧ 0 ≤ x5 ∧ x5 ≤ x0.length)) = true) : Qk2 x0 x1 x5 = Qlh x0 x1 x5 := by
 simp only [decide_eq_true_eq] at h
 obtain ⟨h2, h3, h4⟩ := h
 obtain ⟨k, rfl⟩ := Int.eq_ofNat_of_zero_le h3
 refine Qav x0 (fun k => Qk2 x0 x1 (k : Int) = Qlh x0 x1 (k : Int)) ?_ ?_ k (by omega)
 ·rw [QwP]
  simp [Qp7, Qlh, Qaz, llen, Qae]
 ·intro k hk ih
  rw [QwP]
  simp only [Qp7, Qaz, llen, Qay, hk, decide_true, Qac, Int.toNat_natCast, add1 (show k < 4611686018427387904 by omega), ih, QaG (y := tI) hk]
  simp only [Qlh, Int.toNat_natCast, List.drop_eq_getElem_cons hk, List.contains_cons, ieq]
  have hc : (x1 == x0[k]) = (x0[k] == x1) := Bool.beq_comm
  rw [hc]
  cases x0[k] == x1 <;> rfl
theorem QH9 : ∀ S l p, g_f27.L 0 (fgt QiF S) = some (true, l) → pickA l = some p → loopF (Qaj g_f27 QiF Qkn) S = some p :=
 QaF (s := Qpg) ⟨by decide, by decide⟩ (by kernel_rfl) fun x y hok p hp => by
 simp only [Qas, Qap] at hp
 exact (QPq x.1 x.2.1 x.2.2.1 (by simpa using hok)).trans hp
theorem lk_f27 : QAc.lok g_f27 := by
 repeat (first | exact trivial | exact QH9 | refine ⟨?_, ?_⟩)
theorem s_f27 (l : List Int) (n : Int) (h : QaY l n = true) : r_f27 l n = some (.t .bool (hasF l n), []) := by
 simp only [QaY, decide_eq_true_eq] at h
 simp only [r_f27, Int.toNat_zero, List.drop_zero]
 rw [Qlv ⟨h, Int.le_refl 0, by omega⟩, Qac]
 unfold hasF
 cases l.contains n <;> rfl
def QLd : Ent := spec (.pr (.sl tI) (.pr tI .nil)) (fun x => (QaY x.1 x.2.1)) (fun x => (.t .bool (hasF x.1 x.2.1)))
theorem ms_f27 : Meets Tryz.prog 27 (strip QLd) := Qaf (R := runF g_f27 QAc QMb false) (mG Tryz.func27 (by kernel_rfl) Tryz.ntmps27 (by kernel_rfl) gk_f27 lk_f27) fun x hok => (e_f27 x.1 x.2.1).trans (s_f27 x.1 x.2.1 hok)
theorem QPv (a b : Keep) : (and (ieq a.1 b.1) (and (ieq a.2.1 b.2.1) true)) = (a == b) := by
 obtain ⟨a1, a2, _⟩ := a
 obtain ⟨b1, b2, _⟩ := b
 show _ = ((a1 == b1) && ((a2 == b2) && true))
 rfl
-- loop 0: (x0 : (List Keep)) (x1 : (List Keep)) (x5 : Int); out: ('ret',) (x4 : Bool); ('exit', 0)
end
end Go.Proofs.YtkngeegkjhipeaaGreat.K
