import Derived.Test.YtkngeegkjhipeaaGreatN0
import Derived.Test.YtkngeegkjhipeaaGreatV6
set_option linter.unusedSimpArgs false
set_option linter.unusedVariables false
namespace Go.Proofs.YtkngeegkjhipeaaGreat.K
open Go.RowKit
noncomputable section
def kindF (a : Int) : Int := (ofF a).1.2.1
noncomputable def Qt5 : TC := (.sq (.reg (rT Tryz.f108 0)) (.sq (.reg (rT Tryz.f108 1)) (.sq (.reg (rT Tryz.f108 2)) .rt)))
def QCg : List (RV × Option Ty) := [((.t 2), some tI)]
def Qxv : G := ⟨TYs, [], 12, EL [(135, Qug)], keeps, (fun _ _ => none), IL [], RL []⟩
def QMn (p0 : Int) : Option (V × List VO) := some (.t tI ((((ofF p0).1).2).1), [])
theorem e_f108 (p0 : Int) : runF Qxv Qt5 QCg false [.t tI p0] [] = QMn p0 := by kernel_rfl
theorem QvK : Qag Tryz.prog 108 := .inr ⟨by decide, _, Tryz.func108, by kernel_rfl, by kernel_rfl⟩
theorem QQf : GOk Tryz.prog Qxv := Qal _ (gA (gC QFB QDM gN))
theorem QO2 : Qt5.lok Qxv := by repeat (first | exact trivial | refine ⟨?_, ?_⟩)
theorem s_f108 (a : Int) : QMn a = some (.t tI (kindF a), []) := rfl
def QoY : Ent := spec (.pr tI .nil) (fun x => true) (fun x => (.t tI (kindF x.1)))
theorem Qvg : Meets Tryz.prog 108 (strip QoY) := Qaf (R := runF Qxv Qt5 QCg false) (mG Tryz.func108 (by kernel_rfl) Tryz.ntmps108 (by kernel_rfl) QQf QO2) fun x _ => (e_f108 x.1).trans (s_f108 x.1)
noncomputable def Qzq : TC := (.sq (.reg (rT Tryz.f98 0)) (.sq (.reg (rT Tryz.f98 1)) .rt))
def QLi : List (RV × Option Ty) := [((.t 0), some (.sl QcB))]
def g_f98 : G := ⟨TYs, [], 25, EL [], keeps, (fun _ _ => none), IL [], RL []⟩
def r_f98  : Option (V × List VO) := some (.t (.sl QcB) ([((ByteArray.mk #[]), (0, ())), ((ByteArray.mk #[109, 100, 53]), (1, ())), ((ByteArray.mk #[115, 104, 97, 49]), (1, ())), ((ByteArray.mk #[115, 104, 97, 50, 53, 54]), (1, ())), ((ByteArray.mk #[115, 104, 97, 51, 56, 52]), (1, ())), ((ByteArray.mk #[114, 115, 97]), (2, ())), ((ByteArray.mk #[100, 115, 97]), (2, ())), ((ByteArray.mk #[101, 99, 100, 115, 97]), (2, ())), ((ByteArray.mk #[101, 100, 50, 53, 53, 49, 57]), (2, ())), ((ByteArray.mk #[109, 108, 100, 115, 97]), (2, ())), ((ByteArray.mk #[114, 115, 97, 107, 120]), (3, ())), ((ByteArray.mk #[100, 104, 101]), (3, ())), ((ByteArray.mk #[101, 99, 100, 104, 101]), (3, ())), ((ByteArray.mk #[109, 108, 107, 101, 109]), (3, ())), ((ByteArray.mk #[114, 99, 52]), (4, ())), ((ByteArray.mk #[100, 101, 115, 51]), (4, ())), ((ByteArray.mk #[97, 101, 115, 99, 98, 99]), (4, ())), ((ByteArray.mk #[97, 101, 115, 103, 99, 109]), (4, ())), ((ByteArray.mk #[99, 104, 97, 99, 104, 97]), (4, ())), ((ByteArray.mk #[104, 109, 97, 99, 109, 100, 53]), (5, ())), ((ByteArray.mk #[104, 109, 97, 99, 115, 104, 97, 49]), (5, ())), ((ByteArray.mk #[104, 109, 97, 99, 115, 104, 97, 50, 53, 54]), (5, ())), ((ByteArray.mk #[97, 101, 97, 100]), (5, ()))]), [])
theorem e_f98  : runF g_f98 Qzq QLi false [] [] = r_f98  := by kernel_rfl
theorem en_f98 : Qag Tryz.prog 98 := .inr ⟨by decide, _, Tryz.func98, by kernel_rfl, by kernel_rfl⟩
theorem gk_f98 : GOk Tryz.prog g_f98 := Qal _ (fun p hp => by cases hp)
theorem lk_f98 : Qzq.lok g_f98 := by repeat (first | exact trivial | refine ⟨?_, ?_⟩)
def Qwf : Ty.T (.sl QcB) := ([((ByteArray.mk #[]), (0, ())), ((ByteArray.mk #[109, 100, 53]), (1, ())), ((ByteArray.mk #[115, 104, 97, 49]), (1, ())), ((ByteArray.mk #[115, 104, 97, 50, 53, 54]), (1, ())), ((ByteArray.mk #[115, 104, 97, 51, 56, 52]), (1, ())), ((ByteArray.mk #[114, 115, 97]), (2, ())), ((ByteArray.mk #[100, 115, 97]), (2, ())), ((ByteArray.mk #[101, 99, 100, 115, 97]), (2, ())), ((ByteArray.mk #[101, 100, 50, 53, 53, 49, 57]), (2, ())), ((ByteArray.mk #[109, 108, 100, 115, 97]), (2, ())), ((ByteArray.mk #[114, 115, 97, 107, 120]), (3, ())), ((ByteArray.mk #[100, 104, 101]), (3, ())), ((ByteArray.mk #[101, 99, 100, 104, 101]), (3, ())), ((ByteArray.mk #[109, 108, 107, 101, 109]), (3, ())), ((ByteArray.mk #[114, 99, 52]), (4, ())), ((ByteArray.mk #[100, 101, 115, 51]), (4, ())), ((ByteArray.mk #[97, 101, 115, 99, 98, 99]), (4, ())), ((ByteArray.mk #[97, 101, 115, 103, 99, 109]), (4, ())), ((ByteArray.mk #[99, 104, 97, 99, 104, 97]), (4, ())), ((ByteArray.mk #[104, 109, 97, 99, 109, 100, 53]), (5, ())), ((ByteArray.mk #[104, 109, 97, 99, 115, 104, 97, 49]), (5, ())), ((ByteArray.mk #[104, 109, 97, 99, 115, 104, 97, 50, 53, 54]), (5, ())), ((ByteArray.mk #[97, 101, 97, 100]), (5, ()))])
theorem s_f98 : r_f98 = some (.t (.sl QcB) Qwf, []) := rfl
def QKD : Ent := spec .nil (fun x => true) (fun x => (.t (.sl QcB) Qwf))
theorem ms_f98 : Meets Tryz.prog 98 (strip QKD) := Qaf (R := runF g_f98 Qzq QLi false) (mG Tryz.func98 (by kernel_rfl) Tryz.ntmps98 (by kernel_rfl) gk_f98 lk_f98) fun x _ => (e_f98 ).trans (s_f98 )
noncomputable def QzL : TC := (.sq (.reg (rT Tryz.f69 0)) (.sq (.sq (.reg (rT Tryz.f69 1)) (.cd (.t 8) (.sq (.reg (rT Tryz.f69 2)) .rt) .sk)) (.sq (.reg (rT Tryz.f69 3)) .rt)))
def QLD : List (RV × Option Ty) := [((.t 2), some tI)]
def g_f69 : G := ⟨TYs, [], 14, EL [(98, QKD)], keeps, (fun _ _ => none), IL [], RL []⟩
def r_f69 (p0 : Int) : Option (V × List VO) := br (ilt p0 1) (some (.t tI 0, [])) (br (igt p0 22) (some (.t tI 0, [])) (br (cIx Qwf p0) (some (.t tI (((lgt QcB Qwf (Int.toNat p0)).2).1), [])) none))
theorem e_f69 (p0 : Int) : runF g_f69 QzL QLD false [.t tI p0] [] = r_f69 p0 := by kernel_rfl
theorem QMO : Qag Tryz.prog 69 := .inr ⟨by decide, _, Tryz.func69, by kernel_rfl, by kernel_rfl⟩
theorem gk_f69 : GOk Tryz.prog g_f69 := Qal _ (gA (gC en_f98 ms_f98 gN))
theorem lk_f69 : QzL.lok g_f69 := by repeat (first | exact trivial | refine ⟨?_, ?_⟩)
theorem QGX {a : Int} (h1 : 1 ≤ a) (h2 : a ≤ 22) : a = 1 ∨ a = 2 ∨ a = 3 ∨ a = 4 ∨ a = 5 ∨ a = 6 ∨ a = 7 ∨ a = 8 ∨ a = 9 ∨ a = 10 ∨ a = 11 ∨ a = 12 ∨ a = 13 ∨ a = 14 ∨ a = 15 ∨ a = 16 ∨ a = 17 ∨ a = 18 ∨ a = 19 ∨ a = 20 ∨ a = 21 ∨ a = 22 := by omega
theorem s_f69 (a : Int) : r_f69 a = some (.t tI (kindF a), []) := by
 simp only [r_f69]
 refine QaP (fun h1 => ?_) (fun h1 => QaP (fun h2 => ?_) (fun h2 => ?_))
 ·have h1 : a < 1 := by simpa [ilt] using h1
  simp [kindF, ofF, h1, noRow]
 ·have h2 : 22 < a := by simpa [igt] using h2
  simp [kindF, ofF, h2, noRow]
 ·have h1 : ¬ a < 1 := by simpa [ilt] using h1
  have h2 : ¬ 22 < a := by simpa [igt] using h2
  rcases QGX (a := a) (by omega) (by omega) with rfl | rfl | rfl | rfl | rfl | rfl | rfl | rfl | rfl | rfl | rfl | rfl | rfl | rfl | rfl | rfl | rfl | rfl | rfl | rfl | rfl | rfl <;> rfl
def QAA : Ent := spec (.pr tI .nil) (fun x => true) (fun x => (.t tI (kindF x.1)))
theorem QMv : Meets Tryz.prog 69 (strip QAA) := Qaf (R := runF g_f69 QzL QLD false) (mG Tryz.func69 (by kernel_rfl) Tryz.ntmps69 (by kernel_rfl) gk_f69 lk_f69) fun x _ => (e_f69 x.1).trans (s_f69 x.1)
def useP (a b : Int) : Keep := (a, (b, ()))
noncomputable def Qt8 : TC := (.sq (.reg (rT Tryz.f105 0)) (.sq (.reg (rT Tryz.f105 1)) .rt))
def QCj : List (RV × Option Ty) := [((.c 4 true 2), some Qaj)]
def Qxy : G := ⟨TYs, [], 8, EL [], keeps, (fun _ _ => none), IL [], RL []⟩
def QMp (p0 p1 : Int) : Option (V × List VO) := some (.t Qaj (p0, (p1, ())), [])
theorem e_f105 (p0 p1 : Int) : runF Qxy Qt8 QCj false [.t tI p0, .t tI p1] [] = QMp p0 p1 := by kernel_rfl
theorem QQS : Qag Tryz.prog 105 := .inr ⟨by decide, _, Tryz.func105, by kernel_rfl, by kernel_rfl⟩
theorem QQi : GOk Tryz.prog Qxy := Qal _ (fun p hp => by cases hp)
theorem QO5 : Qt8.lok Qxy := by repeat (first | exact trivial | refine ⟨?_, ?_⟩)
theorem s_f105 (a b : Int) : QMp a b = some (.t Qaj (useP a b), []) := rfl
def QBn : Ent := spec (.pr tI (.pr tI .nil)) (fun x => true) (fun x => (.t Qaj (useP x.1 x.2.1)))
theorem QN8 : Meets Tryz.prog 105 (strip QBn) := Qaf (R := runF Qxy Qt8 QCj false) (mG Tryz.func105 (by kernel_rfl) Tryz.ntmps105 (by kernel_rfl) QQi QO5) fun x _ => (e_f105 x.1 x.2.1).trans (s_f105 x.1 x.2.1)
noncomputable def QzD : TC := (.sq (.reg (rT Tryz.f84 0)) (.sq (.reg (rT Tryz.f84 1)) .rt))
def QLv : List (RV × Option Ty) := [((.c 4 true 2), some Qaj)]
def g_f84 : G := ⟨TYs, [], 8, EL [], keeps, (fun _ _ => none), IL [], RL []⟩
def r_f84 (p0 p1 : Int) : Option (V × List VO) := some (.t Qaj (p0, (p1, ())), [])
theorem e_f84 (p0 p1 : Int) : runF g_f84 QzD QLv false [.t tI p0, .t tI p1] [] = r_f84 p0 p1 := by kernel_rfl
theorem en_f84 : Qag Tryz.prog 84 := .inr ⟨by decide, _, Tryz.func84, by kernel_rfl, by kernel_rfl⟩
theorem gk_f84 : GOk Tryz.prog g_f84 := Qal _ (fun p hp => by cases hp)
theorem lk_f84 : QzD.lok g_f84 := by repeat (first | exact trivial | refine ⟨?_, ?_⟩)
theorem s_f84 (a b : Int) : r_f84 a b = some (.t Qaj (useP a b), []) := rfl
def QKL : Ent := spec (.pr tI (.pr tI .nil)) (fun x => true) (fun x => (.t Qaj (useP x.1 x.2.1)))
theorem ms_f84 : Meets Tryz.prog 84 (strip QKL) := Qaf (R := runF g_f84 QzD QLv false) (mG Tryz.func84 (by kernel_rfl) Tryz.ntmps84 (by kernel_rfl) gk_f84 lk_f84) fun x _ => (e_f84 x.1 x.2.1).trans (s_f84 x.1 x.2.1)
def suiP (c : Int) (n : ByteArray) (e s f m : Keep) (l o : Int) : Suite := (c, (n, (e, (s, (f, (m, (l, (o, ()))))))))
noncomputable def QzC : TC := (.sq (.reg (rT Tryz.f85 0)) (.sq (.reg (rT Tryz.f85 1)) .rt))
def QLu : List (RV × Option Ty) := [((.c 16 true 12), some Qaw)]
def g_f85 : G := ⟨TYs, [], 26, EL [], keeps, (fun _ _ => none), IL [], RL []⟩
def r_f85 (p0 : Int) (p1 : ByteArray) (p2 p3 p4 p5 : Keep) (p6 p7 : Int) : Option (V × List VO) := some (.t Qaw (p0, (p1, ((p2.1, (p2.2.1, ())), ((p3.1, (p3.2.1, ())), ((p4.1, (p4.2.1, ())), ((p5.1, (p5.2.1, ())), (p6, (p7, ())))))))), [])
theorem e_f85 (p0 : Int) (p1 : ByteArray) (p2 p3 p4 p5 : Keep) (p6 p7 : Int) : runF g_f85 QzC QLu false [.t tI p0, .t .str p1, .t Qaj p2, .t Qaj p3, .t Qaj p4, .t Qaj p5, .t tI p6, .t tI p7] [] = r_f85 p0 p1 p2 p3 p4 p5 p6 p7 := by kernel_rfl
theorem en_f85 : Qag Tryz.prog 85 := .inr ⟨by decide, _, Tryz.func85, by kernel_rfl, by kernel_rfl⟩
theorem gk_f85 : GOk Tryz.prog g_f85 := Qal _ (fun p hp => by cases hp)
theorem lk_f85 : QzC.lok g_f85 := by repeat (first | exact trivial | refine ⟨?_, ?_⟩)
theorem s_f85 (c : Int) (n : ByteArray) (e s f m : Keep) (l o : Int) : r_f85 c n e s f m l o = some (.t Qaw (suiP c n e s f m l o), []) := rfl
def QKK : Ent := spec (.pr tI (.pr .str (.pr Qaj (.pr Qaj (.pr Qaj (.pr Qaj (.pr tI (.pr tI .nil)))))))) (fun x => true) (fun x => (.t Qaw (suiP x.1 x.2.1 x.2.2.1 x.2.2.2.1 x.2.2.2.2.1 x.2.2.2.2.2.1 x.2.2.2.2.2.2.1 x.2.2.2.2.2.2.2.1)))
theorem ms_f85 : Meets Tryz.prog 85 (strip QKK) := Qaf (R := runF g_f85 QzC QLu false) (mG Tryz.func85 (by kernel_rfl) Tryz.ntmps85 (by kernel_rfl) gk_f85 lk_f85) fun x _ => (e_f85 x.1 x.2.1 x.2.2.1 x.2.2.2.1 x.2.2.2.2.1 x.2.2.2.2.2.1 x.2.2.2.2.2.2.1 x.2.2.2.2.2.2.2.1).trans (s_f85 x.1 x.2.1 x.2.2.1 x.2.2.2.1 x.2.2.2.2.1 x.2.2.2.2.2.1 x.2.2.2.2.2.2.1 x.2.2.2.2.2.2.2.1)
noncomputable def QJt : List DO := dT Tryz.f52 6
noncomputable def QzY : TC := (.sq (.reg (rT Tryz.f52 0)) (.sq (.reg (rT Tryz.f52 1)) (.sq (.reg (rT Tryz.f52 2)) (.sq (.reg (rT Tryz.f52 3)) (.sq (.reg (rT Tryz.f52 4)) (.sq (.reg (rT Tryz.f52 5)) (.sq (.dr QJt [(0, [1]), (1, [2]), (2, [4]), (3, [9]), (4, []), (5, [1]), (6, [2]), (7, [4]), (8, [10]), (9, []), (10, [1]), (11, [2]), (12, [5]), (13, [10]), (14, []), (15, []), (16, []), (17, [5]), (18, [10]), (19, []), (20, []), (21, [2]), (22, [5]), (23, [10]), (24, []), (25, [1]), (26, [2]), (27, [6]), (28, [10]), (29, []), (30, []), (31, [2]), (32, [6]), (33, [10]), (34, []), (35, [13]), (36, [2]), (37, [6]), (38, [10]), (39, []), (40, [13]), (41, []), (42, []), (43, [11]), (44, []), (45, [13]), (46, [2]), (47, [7]), (48, [12]), (49, []), (50, []), (51, []), (52, [8]), (53, [12]), (54, []), (55, [13]), (56, [2]), (57, [14]), (58, [12]), (59, []), (60, [1]), (61, [2]), (62, [8]), (63, [12]), (64, []), (65, [13]), (66, [3]), (67, [7]), (68, [12]), (69, []), (70, [13]), (71, [3]), (72, [14]), (73, [12]), (74, []), (75, []), (76, [3]), (77, [8]), (78, [12]), (79, []), (80, []), (81, [])] (.of [0, 1, 2, 3, 4, 5, 6, 7, 8, 9, 10, 11, 12, 13, 14, 15, 16, 17, 18, 19, 20, 21, 22, 23, 24, 25, 26, 27, 28, 29, 30, 31, 32, 33, 34, 35, 36, 37, 38, 39, 40, 41, 42, 43, 44, 45, 46, 47, 48, 49, 50, 51, 52, 53, 54, 55, 56, 57, 58, 59, 60, 61, 62, 63, 64, 65, 66, 67, 68, 69, 70, 71, 72, 73, 74, 75, 76, 77, 78, 79, 80, 81])) .rt)))))))
def QLQ : List (RV × Option Ty) := [((.t 0), some (.sl Qaw))]
def g_f52 : G := ⟨TYs, [], 110, EL [(84, QKL), (85, QKK)], keeps, (fun _ _ => none), IL [], RL []⟩
def QbO : Ty.T (.sl Qaw) :=
 let a1 := (suiP 9 (ByteArray.mk #[101, 99, 100, 104, 101, 45, 101, 99, 100, 115, 97, 45, 97, 101, 115, 50, 53, 54, 45, 115, 104, 97, 50, 53, 54]) (useP 12 256) (useP 7 0) (useP 16 256) (useP 21 0) 3 3)
 let a2 := (suiP 11 (ByteArray.mk #[101, 99, 100, 104, 101, 45, 101, 99, 100, 115, 97, 45, 97, 101, 115, 50, 53, 54, 45, 103, 99, 109]) (useP 12 384) (useP 7 0) (useP 17 256) (useP 22 0) 3 3)
 let a3 := (suiP 10 (ByteArray.mk #[101, 99, 100, 104, 101, 45, 114, 115, 97, 45, 97, 101, 115, 49, 50, 56, 45, 103, 99, 109]) (useP 12 256) (useP 5 0) (useP 17 128) (useP 22 0) 3 3)
 let a4 := (suiP 8 (ByteArray.mk #[101, 99, 100, 104, 101, 45, 114, 115, 97, 45, 97, 101, 115, 49, 50, 56, 45, 115, 104, 97]) (useP 12 256) (useP 5 0) (useP 16 128) (useP 20 0) 1 3)
 let a5 := (suiP 7 (ByteArray.mk #[100, 104, 101, 45, 114, 115, 97, 45, 97, 101, 115, 49, 50, 56, 45, 115, 104, 97]) (useP 11 2048) (useP 5 0) (useP 16 128) (useP 20 0) 1 3)
 let a6 := (suiP 16 (ByteArray.mk #[109, 108, 107, 101, 109, 45, 97, 101, 115, 50, 53, 54, 45, 103, 99, 109]) (useP 13 768) (0, (0, ())) (useP 17 256) (useP 22 0) 4 4)
 let a7 := (suiP 4 (ByteArray.mk #[100, 104, 101, 45, 100, 115, 97, 45, 100, 101, 115, 51, 45, 115, 104, 97]) (useP 11 1024) (useP 6 0) (useP 15 168) (useP 20 0) 1 3)
 let a8 := (suiP 5 (ByteArray.mk #[100, 104, 101, 45, 114, 115, 97, 45, 100, 101, 115, 51, 45, 115, 104, 97]) (useP 11 1024) (useP 5 0) (useP 15 168) (useP 20 0) 1 3)
 let a9 := (suiP 12 (ByteArray.mk #[101, 99, 100, 104, 101, 45, 114, 115, 97, 45, 99, 104, 97, 99, 104, 97]) (useP 12 256) (useP 5 0) (useP 18 0) (useP 22 0) 3 3)
 let a10 := (suiP 13 (ByteArray.mk #[114, 115, 97, 45, 97, 101, 115, 50, 53, 54, 45, 103, 99, 109]) (useP 10 0) (useP 5 0) (useP 17 256) (useP 22 0) 3 3)
 let a11 := (suiP 6 (ByteArray.mk #[114, 115, 97, 45, 97, 101, 115, 49, 50, 56, 45, 115, 104, 97]) (useP 10 0) (useP 5 0) (useP 16 128) (useP 20 0) 1 3)
 let a12 := (suiP 3 (ByteArray.mk #[114, 115, 97, 45, 100, 101, 115, 51, 45, 115, 104, 97]) (useP 10 0) (useP 5 0) (useP 15 168) (useP 20 0) 1 3)
 let a13 := (suiP 1 (ByteArray.mk #[114, 115, 97, 45, 114, 99, 52, 45, 109, 100, 53]) (useP 10 0) (useP 5 0) (useP 14 128) (useP 19 0) 1 2)
 let a14 := (suiP 2 (ByteArray.mk #[114, 115, 97, 45, 114, 99, 52, 45, 115, 104, 97]) (useP 10 0) (useP 5 0) (useP 14 128) (useP 20 0) 1 3)
 let a15 := (suiP 14 (ByteArray.mk #[97, 101, 115, 49, 50, 56, 45, 103, 99, 109]) (useP 12 256) (0, (0, ())) (useP 17 128) (useP 22 0) 4 4)
 let a16 := (suiP 15 (ByteArray.mk #[99, 104, 97, 99, 104, 97]) (useP 12 256) (0, (0, ())) (useP 18 0) (useP 22 0) 4 4)
 let a17 := (((a13.2).2).2)
 let a18 := (((a14.2).2).2)
 let a19 := (((a12.2).2).2)
 let a20 := (((a11.2).2).2)
 let a21 := (((a10.2).2).2)
 let a22 := (((a15.2).2).2)
 let a23 := (((a16.2).2).2)
 let a24 := (((a7.2).2).2)
 let a25 := (((a8.2).2).2)
 let a26 := (((a5.2).2).2)
 let a27 := (((a4.2).2).2)
 let a28 := (((a1.2).2).2)
 let a29 := (((a3.2).2).2)
 let a30 := (((a2.2).2).2)
 let a31 := (((a9.2).2).2)
 let a32 := (((a6.2).2).2)
 ([(a13.1, ((a13.2).1, (((((a13.2).2).1).1, (((((a13.2).2).1).2).1, ())), (((a17.1).1, (((a17.1).2).1, ())), ((((a17.2).1).1, ((((a17.2).1).2).1, ())), (((((a17.2).2).1).1, (((((a17.2).2).1).2).1, ())), ((((a17.2).2).2).1, (((((a17.2).2).2).2).1, ())))))))), (a14.1, ((a14.2).1, (((((a14.2).2).1).1, (((((a14.2).2).1).2).1, ())), (((a18.1).1, (((a18.1).2).1, ())), ((((a18.2).1).1, ((((a18.2).1).2).1, ())), (((((a18.2).2).1).1, (((((a18.2).2).1).2).1, ())), ((((a18.2).2).2).1, (((((a18.2).2).2).2).1, ())))))))), (a12.1, ((a12.2).1, (((((a12.2).2).1).1, (((((a12.2).2).1).2).1, ())), (((a19.1).1, (((a19.1).2).1, ())), ((((a19.2).1).1, ((((a19.2).1).2).1, ())), (((((a19.2).2).1).1, (((((a19.2).2).1).2).1, ())), ((((a19.2).2).2).1, (((((a19.2).2).2).2).1, ())))))))), (a7.1, ((a7.2).1, (((((a7.2).2).1).1, (((((a7.2).2).1).2).1, ())), (((a24.1).1, (((a24.1).2).1, ())), ((((a24.2).1).1, ((((a24.2).1).2).1, ())), (((((a24.2).2).1).1, (((((a24.2).2).1).2).1, ())), ((((a24.2).2).2).1, (((((a24.2).2).2).2).1, ())))))))), (a8.1, ((a8.2).1, (((((a8.2).2).1).1, (((((a8.2).2).1).2).1, ())), (((a25.1).1, (((a25.1).2).1, ())), ((((a25.2).1).1, ((((a25.2).1).2).1, ())), (((((a25.2).2).1).1, (((((a25.2).2).1).2).1, ())), ((((a25.2).2).2).1, (((((a25.2).2).2).2).1, ())))))))), (a11.1, ((a11.2).1, (((((a11.2).2).1).1, (((((a11.2).2).1).2).1, ())), (((a20.1).1, (((a20.1).2).1, ())), ((((a20.2).1).1, ((((a20.2).1).2).1, ())), (((((a20.2).2).1).1, (((((a20.2).2).1).2).1, ())), ((((a20.2).2).2).1, (((((a20.2).2).2).2).1, ())))))))), (a5.1, ((a5.2).1, (((((a5.2).2).1).1, (((((a5.2).2).1).2).1, ())), (((a26.1).1, (((a26.1).2).1, ())), ((((a26.2).1).1, ((((a26.2).1).2).1, ())), (((((a26.2).2).1).1, (((((a26.2).2).1).2).1, ())), ((((a26.2).2).2).1, (((((a26.2).2).2).2).1, ())))))))), (a4.1, ((a4.2).1, (((((a4.2).2).1).1, (((((a4.2).2).1).2).1, ())), (((a27.1).1, (((a27.1).2).1, ())), ((((a27.2).1).1, ((((a27.2).1).2).1, ())), (((((a27.2).2).1).1, (((((a27.2).2).1).2).1, ())), ((((a27.2).2).2).1, (((((a27.2).2).2).2).1, ())))))))), (a1.1, ((a1.2).1, (((((a1.2).2).1).1, (((((a1.2).2).1).2).1, ())), (((a28.1).1, (((a28.1).2).1, ())), ((((a28.2).1).1, ((((a28.2).1).2).1, ())), (((((a28.2).2).1).1, (((((a28.2).2).1).2).1, ())), ((((a28.2).2).2).1, (((((a28.2).2).2).2).1, ())))))))), (a3.1, ((a3.2).1, (((((a3.2).2).1).1, (((((a3.2).2).1).2).1, ())), (((a29.1).1, (((a29.1).2).1, ())), ((((a29.2).1).1, ((((a29.2).1).2).1, ())), (((((a29.2).2).1).1, (((((a29.2).2).1).2).1, ())), ((((a29.2).2).2).1, (((((a29.2).2).2).2).1, ())))))))), (a2.1, ((a2.2).1, (((((a2.2).2).1).1, (((((a2.2).2).1).2).1, ())), (((a30.1).1, (((a30.1).2).1, ())), ((((a30.2).1).1, ((((a30.2).1).2).1, ())), (((((a30.2).2).1).1, (((((a30.2).2).1).2).1, ())), ((((a30.2).2).2).1, (((((a30.2).2).2).2).1, ())))))))), (a9.1, ((a9.2).1, (((((a9.2).2).1).1, (((((a9.2).2).1).2).1, ())), (((a31.1).1, (((a31.1).2).1, ())), ((((a31.2).1).1, ((((a31.2).1).2).1, ())), (((((a31.2).2).1).1, (((((a31.2).2).1).2).1, ())), ((((a31.2).2).2).1, (((((a31.2).2).2).2).1, ())))))))), (a10.1, ((a10.2).1, (((((a10.2).2).1).1, (((((a10.2).2).1).2).1, ())), (((a21.1).1, (((a21.1).2).1, ())), ((((a21.2).1).1, ((((a21.2).1).2).1, ())), (((((a21.2).2).1).1, (((((a21.2).2).1).2).1, ())), ((((a21.2).2).2).1, (((((a21.2).2).2).2).1, ())))))))), (a15.1, ((a15.2).1, (((((a15.2).2).1).1, (((((a15.2).2).1).2).1, ())), (((a22.1).1, (((a22.1).2).1, ())), ((((a22.2).1).1, ((((a22.2).1).2).1, ())), (((((a22.2).2).1).1, (((((a22.2).2).1).2).1, ())), ((((a22.2).2).2).1, (((((a22.2).2).2).2).1, ())))))))), (a16.1, ((a16.2).1, (((((a16.2).2).1).1, (((((a16.2).2).1).2).1, ())), (((a23.1).1, (((a23.1).2).1, ())), ((((a23.2).1).1, ((((a23.2).1).2).1, ())), (((((a23.2).2).1).1, (((((a23.2).2).1).2).1, ())), ((((a23.2).2).2).1, (((((a23.2).2).2).2).1, ())))))))), (a6.1, ((a6.2).1, (((((a6.2).2).1).1, (((((a6.2).2).1).2).1, ())), (((a32.1).1, (((a32.1).2).1, ())), ((((a32.2).1).1, ((((a32.2).1).2).1, ())), (((((a32.2).2).1).1, (((((a32.2).2).1).2).1, ())), ((((a32.2).2).2).1, (((((a32.2).2).2).2).1, ()))))))))])
def r_f52  : Option (V × List VO) := some (.t (.sl Qaw) QbO, [])
theorem e_f52  : runF g_f52 QzY QLQ false [] [] = r_f52  := by kernel_rfl
theorem en_f52 : Qag Tryz.prog 52 := .inr ⟨by decide, _, Tryz.func52, by kernel_rfl, by kernel_rfl⟩
theorem gk_f52 : GOk Tryz.prog g_f52 := Qal _ (gA (gC en_f84 ms_f84 (gC en_f85 ms_f85 gN)))
theorem lk_f52 : QzY.lok g_f52 := by repeat (first | exact trivial | refine ⟨?_, ?_⟩)
theorem s_f52 : r_f52 = some (.t (.sl Qaw) QbO, []) := rfl
def QK2 : Ent := spec .nil (fun x => true) (fun x => (.t (.sl Qaw) QbO))
theorem ms_f52 : Meets Tryz.prog 52 (strip QK2) := Qaf (R := runF g_f52 QzY QLQ false) (mG Tryz.func52 (by kernel_rfl) Tryz.ntmps52 (by kernel_rfl) gk_f52 lk_f52) fun x _ => (e_f52 ).trans (s_f52 )
abbrev Qzh : Suite := Ty.zero Qaw
def codeL (k : Nat) (l : List Suite) : List Suite := (List.range' k (16 - k)).foldl (fun l i => l.set i (((i + 1 : Nat) : Int), (l.getD i Qzh).2)) l
noncomputable def QJp : List DO := dT Tryz.f74 4
def Qit : Fg := ⟨[(15, none), (113, some tI), (114, some tI)], [(111, none)]⟩
noncomputable def Qkc : TC := (.sq (.reg (rT Tryz.f74 6)) (.sq (.cd (.t 115) .sk (.fg ⟨[(15, none)], [(111, none)]⟩ (.ex 0))) (.sq (.bk 1 (.sq (.reg (rT Tryz.f74 7)) (.reg (rT Tryz.f74 8)))) (.reg (rT Tryz.f74 9)))))
noncomputable def QzK : TC := (.sq (.reg (rT Tryz.f74 0)) (.sq (.reg (rT Tryz.f74 1)) (.sq (.reg (rT Tryz.f74 2)) (.sq (.reg (rT Tryz.f74 3)) (.sq (.dr QJp [(0, [1]), (1, [2]), (2, []), (3, [11]), (4, []), (5, [1]), (6, [2]), (7, []), (8, [12]), (9, []), (10, [1]), (11, [2]), (12, [6]), (13, [12]), (14, []), (15, []), (16, [3]), (17, [6]), (18, [12]), (19, []), (20, []), (21, [2]), (22, [6]), (23, [12]), (24, []), (25, [1]), (26, [2]), (27, [7]), (28, [12]), (29, []), (30, []), (31, [2]), (32, [7]), (33, [12]), (34, []), (35, [14]), (36, [2]), (37, [7]), (38, [12]), (39, []), (40, [14]), (41, [4]), (42, []), (43, []), (44, []), (45, [14]), (46, [2]), (47, [8]), (48, [13]), (49, []), (50, []), (51, [4]), (52, [9]), (53, [13]), (54, []), (55, [14]), (56, [2]), (57, [10]), (58, [13]), (59, []), (60, [1]), (61, [2]), (62, [9]), (63, [13]), (64, []), (65, [14]), (66, [5]), (67, [8]), (68, [13]), (69, []), (70, [14]), (71, [5]), (72, [10]), (73, [13]), (74, []), (75, []), (76, [5]), (77, [9]), (78, [13]), (79, []), (80, [111, 5111, 10111, 15111]), (81, [111])] (.of [0, 1, 2, 3, 4, 5, 6, 7, 8, 9, 10, 11, 12, 13, 14, 15, 16, 17, 18, 19, 20, 21, 22, 23, 24, 25, 26, 27, 28, 29, 30, 31, 32, 33, 34, 35, 36, 37, 38, 39, 40, 41, 42, 43, 44, 45, 46, 47, 48, 49, 50, 51, 52, 53, 54, 55, 56, 57, 58, 59, 60, 61, 62, 63, 64, 65, 66, 67, 68, 69, 70, 71, 72, 73, 74, 75, 76, 77, 78, 79, 80, 81])) (.sq (.sq (.reg (rT Tryz.f74 5)) (.bk 0 (.lp 0 Qit Qkc))) (.sq (.reg (rT Tryz.f74 10)) .rt)))))))
def QLC : List (RV × Option Ty) := [((.t 0), some (.sl Qaw))]
abbrev Qo9 : Sh := ⟨[(15, .ms 111), (113, .ty tI), (114, .ty tI)], [(111, .arr 54 Qaw)]⟩
def QoM (x113 x114 : Int) (y111 : List Suite) : VS := Qo9.st ((), x113, x114, ()) (y111, ())
abbrev Quv : Sh := ⟨[(15, .ms 111)], [(111, .arr 54 Qaw)]⟩
def Qem (y111 : List Suite) : VS := Quv.st ((), ()) (y111, ())
def QRj : VS → Option (Bool × List (Bool × Exit × VS)) := mkL Qo9 (fun x y => (decide (0 ≤ x.2.2.1 ∧ x.2.2.1 ≤ 16 ∧ x.2.1 = 16 ∧ y.1.length = 16))) (fun x y => [(true, .exit 0, Qem (codeL x.2.2.1.toNat y.1))])
def g_f74 : G := ⟨TYs, [111], 125, EL [(105, QBn)], keeps, (Ls [QRj]), IL [], RL []⟩
def QGE (x113 x114 : Int) (y111 : List Suite) : Option (Exit × VS) :=
 let a1 := Int.toNat x114
 br (ilt x114 x113) (br (cIx y111 x114) (br (cLd y111 a1) (some (.normal, QoM x113 (iadd .i64 x114 1) (List.set y111 a1 ((iadd .i64 x114 1), (lgt Qaw y111 a1).2)))) none) none) (some (.exit 0, Qem y111))
noncomputable def QkU (x113 x114 : Int) (y111 : List Suite) : Option (Exit × VS) := loopF (Qai g_f74 Qit Qkc) (QoM x113 x114 y111)
noncomputable def Qvc (x113 x114 : Int) (y111 : List Suite) : Option (Exit × VS) :=
 let a1 := Int.toNat x114
 br (ilt x114 x113) (br (cIx y111 x114) (br (cLd y111 a1) (QkU x113 (iadd .i64 x114 1) (List.set y111 a1 ((iadd .i64 x114 1), (lgt Qaw y111 a1).2))) none) none) (some (.exit 0, Qem y111))
def Qqj (x113 x114 : Int) (y111 : List Suite) : Option (Exit × VS) := some (.exit 0, Qem (codeL x114.toNat y111))
theorem QJV (x113 x114 : Int) (y111 : List Suite) : Qai g_f74 Qit Qkc (QoM x113 x114 y111) = QGE x113 x114 y111 := by kernel_rfl
theorem QwJ (x113 x114 : Int) (y111 : List Suite) : QkU x113 x114 y111 = Qvc x113 x114 y111 := (Qap _ _).trans (by
 rw [QJV]
 simp only [QGE, Qvc, QaE, nxt_n, nxt_r, nxt_e, nxt_0]
 rfl)
def r_f74  : Option (V × List VO) :=
 let a1 := ((useP 5 0).1, (((useP 5 0).2).1, ()))
 let a2 := ((useP 20 0).1, (((useP 20 0).2).1, ()))
 let a3 := ((useP 22 0).1, (((useP 22 0).2).1, ()))
 let a4 := ((useP 12 256).1, (((useP 12 256).2).1, ()))
 let a5 := ((useP 10 0).1, (((useP 10 0).2).1, ()))
 let a6 := ((useP 15 168).1, (((useP 15 168).2).1, ()))
 let a7 := ((useP 16 128).1, (((useP 16 128).2).1, ()))
 let a8 := ((useP 17 256).1, (((useP 17 256).2).1, ()))
 let a9 := (ByteArray.mk #[101, 99, 100, 104, 101, 45, 101, 99, 100, 115, 97, 45, 97, 101, 115, 50, 53, 54, 45, 115, 104, 97, 50, 53, 54])
 let a10 := (ByteArray.mk #[101, 99, 100, 104, 101, 45, 101, 99, 100, 115, 97, 45, 97, 101, 115, 50, 53, 54, 45, 103, 99, 109])
 let a11 := ((useP 11 1024).1, (((useP 11 1024).2).1, ()))
 let a12 := (ByteArray.mk #[101, 99, 100, 104, 101, 45, 114, 115, 97, 45, 97, 101, 115, 49, 50, 56, 45, 115, 104, 97])
 let a13 := (ByteArray.mk #[101, 99, 100, 104, 101, 45, 114, 115, 97, 45, 97, 101, 115, 49, 50, 56, 45, 103, 99, 109])
 let a14 := ((useP 14 128).1, (((useP 14 128).2).1, ()))
 let a15 := ((useP 17 128).1, (((useP 17 128).2).1, ()))
 let a16 := (ByteArray.mk #[100, 104, 101, 45, 114, 115, 97, 45, 97, 101, 115, 49, 50, 56, 45, 115, 104, 97])
 let a17 := ((useP 18 0).1, (((useP 18 0).2).1, ()))
 let a18 := ((useP 7 0).1, (((useP 7 0).2).1, ()))
 let a19 := (ByteArray.mk #[100, 104, 101, 45, 100, 115, 97, 45, 100, 101, 115, 51, 45, 115, 104, 97])
 let a20 := (ByteArray.mk #[100, 104, 101, 45, 114, 115, 97, 45, 100, 101, 115, 51, 45, 115, 104, 97])
 let a21 := (ByteArray.mk #[109, 108, 107, 101, 109, 45, 97, 101, 115, 50, 53, 54, 45, 103, 99, 109])
 let a22 := (ByteArray.mk #[101, 99, 100, 104, 101, 45, 114, 115, 97, 45, 99, 104, 97, 99, 104, 97])
 let a23 := (ByteArray.mk #[114, 115, 97, 45, 97, 101, 115, 49, 50, 56, 45, 115, 104, 97])
 let a24 := (ByteArray.mk #[114, 115, 97, 45, 97, 101, 115, 50, 53, 54, 45, 103, 99, 109])
 let a25 := (ByteArray.mk #[114, 115, 97, 45, 100, 101, 115, 51, 45, 115, 104, 97])
 let a26 := (ByteArray.mk #[114, 115, 97, 45, 114, 99, 52, 45, 109, 100, 53])
 let a27 := (ByteArray.mk #[114, 115, 97, 45, 114, 99, 52, 45, 115, 104, 97])
 let a28 := (ByteArray.mk #[97, 101, 115, 49, 50, 56, 45, 103, 99, 109])
 let a29 := ((useP 11 2048).1, (((useP 11 2048).2).1, ()))
 let a30 := ((useP 16 256).1, (((useP 16 256).2).1, ()))
 let a31 := ((useP 12 384).1, (((useP 12 384).2).1, ()))
 let a32 := ((useP 13 768).1, (((useP 13 768).2).1, ()))
 let a33 := (ByteArray.mk #[99, 104, 97, 99, 104, 97])
 let a34 := ((useP 19 0).1, (((useP 19 0).2).1, ()))
 let a35 := ((useP 21 0).1, (((useP 21 0).2).1, ()))
 let a36 := ((useP 6 0).1, (((useP 6 0).2).1, ()))
 br (decide (0 ≤ (0 : Int) ∧ (0 : Int) ≤ 16 ∧ (llen ([(0, (a26, (a5, (a1, (a14, (a34, (1, (2, ())))))))), (0, (a27, (a5, (a1, (a14, (a2, (1, (3, ())))))))), (0, (a25, (a5, (a1, (a6, (a2, (1, (3, ())))))))), (0, (a19, (a11, (a36, (a6, (a2, (1, (3, ())))))))), (0, (a20, (a11, (a1, (a6, (a2, (1, (3, ())))))))), (0, (a23, (a5, (a1, (a7, (a2, (1, (3, ())))))))), (0, (a16, (a29, (a1, (a7, (a2, (1, (3, ())))))))), (0, (a12, (a4, (a1, (a7, (a2, (1, (3, ())))))))), (0, (a9, (a4, (a18, (a30, (a35, (3, (3, ())))))))), (0, (a13, (a4, (a1, (a15, (a3, (3, (3, ())))))))), (0, (a10, (a31, (a18, (a8, (a3, (3, (3, ())))))))), (0, (a22, (a4, (a1, (a17, (a3, (3, (3, ())))))))), (0, (a24, (a5, (a1, (a8, (a3, (3, (3, ())))))))), (0, (a28, (a4, ((0, (0, ())), (a15, (a3, (4, (4, ())))))))), (0, (a33, (a4, ((0, (0, ())), (a17, (a3, (4, (4, ())))))))), (0, (a21, (a32, ((0, (0, ())), (a8, (a3, (4, (4, ()))))))))])) = 16 ∧ ([(0, (a26, (a5, (a1, (a14, (a34, (1, (2, ())))))))), (0, (a27, (a5, (a1, (a14, (a2, (1, (3, ())))))))), (0, (a25, (a5, (a1, (a6, (a2, (1, (3, ())))))))), (0, (a19, (a11, (a36, (a6, (a2, (1, (3, ())))))))), (0, (a20, (a11, (a1, (a6, (a2, (1, (3, ())))))))), (0, (a23, (a5, (a1, (a7, (a2, (1, (3, ())))))))), (0, (a16, (a29, (a1, (a7, (a2, (1, (3, ())))))))), (0, (a12, (a4, (a1, (a7, (a2, (1, (3, ())))))))), (0, (a9, (a4, (a18, (a30, (a35, (3, (3, ())))))))), (0, (a13, (a4, (a1, (a15, (a3, (3, (3, ())))))))), (0, (a10, (a31, (a18, (a8, (a3, (3, (3, ())))))))), (0, (a22, (a4, (a1, (a17, (a3, (3, (3, ())))))))), (0, (a24, (a5, (a1, (a8, (a3, (3, (3, ())))))))), (0, (a28, (a4, ((0, (0, ())), (a15, (a3, (4, (4, ())))))))), (0, (a33, (a4, ((0, (0, ())), (a17, (a3, (4, (4, ())))))))), (0, (a21, (a32, ((0, (0, ())), (a8, (a3, (4, (4, ()))))))))]).length = 16)) (some (.t (.sl Qaw) (codeL (0 : Int).toNat ([(0, (a26, (a5, (a1, (a14, (a34, (1, (2, ())))))))), (0, (a27, (a5, (a1, (a14, (a2, (1, (3, ())))))))), (0, (a25, (a5, (a1, (a6, (a2, (1, (3, ())))))))), (0, (a19, (a11, (a36, (a6, (a2, (1, (3, ())))))))), (0, (a20, (a11, (a1, (a6, (a2, (1, (3, ())))))))), (0, (a23, (a5, (a1, (a7, (a2, (1, (3, ())))))))), (0, (a16, (a29, (a1, (a7, (a2, (1, (3, ())))))))), (0, (a12, (a4, (a1, (a7, (a2, (1, (3, ())))))))), (0, (a9, (a4, (a18, (a30, (a35, (3, (3, ())))))))), (0, (a13, (a4, (a1, (a15, (a3, (3, (3, ())))))))), (0, (a10, (a31, (a18, (a8, (a3, (3, (3, ())))))))), (0, (a22, (a4, (a1, (a17, (a3, (3, (3, ())))))))), (0, (a24, (a5, (a1, (a8, (a3, (3, (3, ())))))))), (0, (a28, (a4, ((0, (0, ())), (a15, (a3, (4, (4, ())))))))), (0, (a33, (a4, ((0, (0, ())), (a17, (a3, (4, (4, ())))))))), (0, (a21, (a32, ((0, (0, ())), (a8, (a3, (4, (4, ()))))))))])), [])) none
theorem e_f74  : runF g_f74 QzK QLC false [] [] = r_f74  := by kernel_rfl
theorem en_f74 : Qag Tryz.prog 74 := .inr ⟨by decide, _, Tryz.func74, by kernel_rfl, by kernel_rfl⟩
theorem gk_f74 : GOk Tryz.prog g_f74 := Qal _ (gA (gC QQS QN8 gN))
theorem QPe (x113 x114 : Int) (y111 : List Suite) (h : (decide (0 ≤ x114 ∧ x114 ≤ 16 ∧ x113 = 16 ∧ y111.length = 16)) = true) : QkU x113 x114 y111 = Qqj x113 x114 y111 := by
 simp only [decide_eq_true_eq] at h
 obtain ⟨h1, h2, rfl, h4⟩ := h
 obtain ⟨k, rfl⟩ := Int.eq_ofNat_of_zero_le h1
 revert y111
 refine QKA 16 (fun k => ∀ y111 : List Suite, y111.length = 16 → QkU 16 (k : Int) y111 = Qqj 16 (k : Int) y111) ?_ ?_ k (by omega)
 ·intro y111 _
  rw [QwJ]
  rfl
 ·intro k hk ih y111 hy
  rw [QwJ]
  have e1 : ilt (k : Int) 16 = true := decide_eq_true (by omega)
  have e2 : cLd y111 k = true := decide_eq_true (by omega)
  have e3 : codeL k y111 = codeL (k + 1) (y111.set k (((k + 1 : Nat) : Int), (y111.getD k Qzh).2)) := by
   have : 16 - k = (16 - (k + 1)) + 1 := by omega
   unfold codeL
   rw [this, List.range'_succ, List.foldl_cons]
  simp only [Qvc, e1, Qac, QaA, show decide (k < y111.length) = true from decide_eq_true (by omega), Int.toNat_natCast, e2, add1 (show k < 4611686018427387904 by omega)]
  rw [ih _ (by rw [List.length_set]; exact hy)]
  simp only [Qqj, Int.toNat_natCast, e3]
theorem QH4 : ∀ S l p, g_f74.L 0 (fgt Qit S) = some (true, l) → pickA l = some p → loopF (Qai g_f74 Qit Qkc) S = some p :=
 QaG (s := Qo9) ⟨by decide, by decide⟩ (by kernel_rfl) fun x y hok p hp => by
 simp only [Qas, Qao] at hp
 exact (QPe x.2.1 x.2.2.1 y.1 (by simpa using hok)).trans hp
theorem lk_f74 : QzK.lok g_f74 := by
 repeat (first | exact trivial | exact QH4 | refine ⟨?_, ?_⟩)
set_option maxRecDepth 100000 in
theorem s_f74 : r_f74 = some (.t (.sl Qaw) QbO, []) := by kernel_rfl
def QKR : Ent := spec .nil (fun x => true) (fun x => (.t (.sl Qaw) QbO))
theorem ms_f74 : Meets Tryz.prog 74 (strip QKR) := Qaf (R := runF g_f74 QzK QLC false) (mG Tryz.func74 (by kernel_rfl) Tryz.ntmps74 (by kernel_rfl) gk_f74 lk_f74) fun x _ => (e_f74 ).trans (s_f74 )
theorem Qyt : (List.length (α := Qaw.T) QbO) = 16 := by kernel_rfl
theorem QlL : llen (α := Qaw.T) QbO = 16 := by kernel_rfl
theorem QqQ {c : Int} (h : 1 ≤ c ∧ c ≤ 16) : cIx (α := Qaw.T) QbO (c - 1) = true := by
 have := Qyt
 simp only [cIx, decide_eq_true_eq]
 omega
def Qay (c : Int) : Suite × Int := if c < 1 ∨ 16 < c then (Qzh, 8) else (lgt Qaw QbO (c - 1).toNat, 0)
noncomputable def Qz1 : TC := (.sq (.reg (rT Tryz.f48 0)) (.sq (.reg (rT Tryz.f48 1)) (.sq (.sq (.reg (rT Tryz.f48 2)) (.cd (.t 13) (.sq (.reg (rT Tryz.f48 3)) .rt) .sk)) (.sq (.reg (rT Tryz.f48 4)) .rt))))
def QLT : List (RV × Option Ty) := [((.c 2 true 12), some Qaw), ((.t 3), some tI)]
def g_f48 : G := ⟨TYs, [], 20, EL [(74, QKR)], keeps, (fun _ _ => none), IL [], RL []⟩
def r_f48 (p0 : Int) : Option (V × List VO) := br (ilt p0 1) (some (.tu [(.t Qaw (0, ((ByteArray.mk #[]), ((0, (0, ())), ((0, (0, ())), ((0, (0, ())), ((0, (0, ())), (0, (0, ()))))))))), (.t tI 8)], [])) (br (igt p0 (llen QbO)) (some (.tu [(.t Qaw (0, ((ByteArray.mk #[]), ((0, (0, ())), ((0, (0, ())), ((0, (0, ())), ((0, (0, ())), (0, (0, ()))))))))), (.t tI 8)], [])) (br (cIx QbO (isub .i64 p0 1)) (some (.tu [(.t Qaw (lgt Qaw QbO (Int.toNat (isub .i64 p0 1)))), (.t tI 0)], [])) none))
theorem e_f48 (p0 : Int) : runF g_f48 Qz1 QLT false [.t tI p0] [] = r_f48 p0 := by kernel_rfl
theorem QxK : Qag Tryz.prog 48 := .inr ⟨by decide, _, Tryz.func48, by kernel_rfl, by kernel_rfl⟩
theorem gk_f48 : GOk Tryz.prog g_f48 := Qal _ (gA (gC en_f74 ms_f74 gN))
theorem lk_f48 : Qz1.lok g_f48 := by repeat (first | exact trivial | refine ⟨?_, ?_⟩)
theorem s_f48 (c : Int) : r_f48 c = some (.tu [.t Qaw (Qay c).1, .t tI (Qay c).2], []) := by
 simp only [r_f48]
 unfold Qay
 refine QaP (fun h1 => ?_) (fun h1 => QaP (fun h2 => ?_) (fun h2 => ?_))
 ·simp only [ilt, decide_eq_true_eq] at h1
  rw [if_pos (.inl h1)]
  rfl
 ·have h2 := of_decide_eq_true h2
  have := QlL
  rw [if_pos (.inr (by omega))]
  rfl
 ·simp only [ilt, decide_eq_false_iff_not] at h1
  have h2 := of_decide_eq_false h2
  have := QlL
  rw [if_neg (by omega), QbD (by omega), QqQ (by omega), Qac]
def Qq4 : Ent := spec (.pr tI .nil) (fun x => true) (fun x => (.tu [(.t Qaw ((Qay x.1).1)), (.t tI ((Qay x.1).2))]))
theorem Qwy : Meets Tryz.prog 48 (strip Qq4) := Qaf (R := runF g_f48 Qz1 QLT false) (mG Tryz.func48 (by kernel_rfl) Tryz.ntmps48 (by kernel_rfl) gk_f48 lk_f48) fun x _ => (e_f48 x.1).trans (s_f48 x.1)
noncomputable def QAg : TC := (.sq (.reg (rT Tryz.f26 0)) (.sq (.sq (.reg (rT Tryz.f26 1)) (.cd (.t 9) (.sq (.reg (rT Tryz.f26 2)) .rt) .sk)) (.sq (.reg (rT Tryz.f26 3)) .rt)))
def QL8 : List (RV × Option Ty) := [((.c 2 true 12), some Qaw), ((.t 3), some tI)]
def g_f26 : G := ⟨TYs, [], 16, EL [(52, QK2)], keeps, (fun _ _ => none), IL [], RL []⟩
def r_f26 (p0 : Int) : Option (V × List VO) := br (ilt p0 1) (some (.tu [(.t Qaw (0, ((ByteArray.mk #[]), ((0, (0, ())), ((0, (0, ())), ((0, (0, ())), ((0, (0, ())), (0, (0, ()))))))))), (.t tI 8)], [])) (br (igt p0 16) (some (.tu [(.t Qaw (0, ((ByteArray.mk #[]), ((0, (0, ())), ((0, (0, ())), ((0, (0, ())), ((0, (0, ())), (0, (0, ()))))))))), (.t tI 8)], [])) (br (cIx QbO (isub .i64 p0 1)) (some (.tu [(.t Qaw (lgt Qaw QbO (Int.toNat (isub .i64 p0 1)))), (.t tI 0)], [])) none))
theorem e_f26 (p0 : Int) : runF g_f26 QAg QL8 false [.t tI p0] [] = r_f26 p0 := by kernel_rfl
theorem QMT : Qag Tryz.prog 26 := .inr ⟨by decide, _, Tryz.func26, by kernel_rfl, by kernel_rfl⟩
theorem gk_f26 : GOk Tryz.prog g_f26 := Qal _ (gA (gC en_f52 ms_f52 gN))
theorem lk_f26 : QAg.lok g_f26 := by repeat (first | exact trivial | refine ⟨?_, ?_⟩)
theorem s_f26 (c : Int) : r_f26 c = some (.tu [.t Qaw (Qay c).1, .t tI (Qay c).2], []) := by
 simp only [r_f26]
 unfold Qay
 refine QaP (fun h1 => ?_) (fun h1 => QaP (fun h2 => ?_) (fun h2 => ?_))
 ·simp only [ilt, decide_eq_true_eq] at h1
  rw [if_pos (.inl h1)]
  rfl
 ·simp only [igt, decide_eq_true_eq] at h2
  rw [if_pos (.inr (by omega))]
  rfl
 ·simp only [ilt, decide_eq_false_iff_not] at h1
  simp only [igt, decide_eq_false_iff_not] at h2
  rw [if_neg (by omega), QbD (by omega), QqQ (by omega), Qac]
def QAG : Ent := spec (.pr tI .nil) (fun x => true) (fun x => (.tu [(.t Qaw ((Qay x.1).1)), (.t tI ((Qay x.1).2))]))
theorem QMB : Meets Tryz.prog 26 (strip QAG) := Qaf (R := runF g_f26 QAg QL8 false) (mG Tryz.func26 (by kernel_rfl) Tryz.ntmps26 (by kernel_rfl) gk_f26 lk_f26) fun x _ => (e_f26 x.1).trans (s_f26 x.1)
def QiC : Fg := ⟨[(0, some (.sl tI)), (1, some tI), (5, some tI)], []⟩
noncomputable def Qkl : TC := (.sq (.sq (.reg (rT Tryz.f27 2)) (.cd (.t 9) .sk (.fg ⟨[], []⟩ (.ex 0)))) (.sq (.bk 1 (.sq (.reg (rT Tryz.f27 3)) (.cd (.t 17) (.sq (.reg (rT Tryz.f27 4)) (.fg ⟨[(4, some .bool)], []⟩ .rt)) .sk))) (.reg (rT Tryz.f27 5))))
noncomputable def QAf : TC := (.sq (.reg (rT Tryz.f27 0)) (.sq (.sq (.reg (rT Tryz.f27 1)) (.bk 0 (.lp 0 QiC Qkl))) (.sq (.reg (rT Tryz.f27 6)) .rt)))
def QL7 : List (RV × Option Ty) := [((.t 4), some .bool)]
abbrev Qpi : Sh := ⟨[(0, .ty (.sl tI)), (1, .ty tI), (5, .ty tI)], []⟩
def QoU (x0 : List Int) (x1 x5 : Int) : VS := Qpi.st (x0, x1, x5, ()) ()
abbrev Qrn : Sh := ⟨[(4, .ty .bool)], []⟩
def Qdg (x4 : Bool) : VS := Qrn.st (x4, ()) ()
abbrev QuH : Sh := ⟨[], []⟩
def Qeu  : VS := QuH.st () ()
def QRt : VS → Option (Bool × List (Bool × Exit × VS)) := mkL Qpi (fun x y => (decide (x.1.length ≤ 100000 ∧ 0 ≤ x.2.2.1 ∧ x.2.2.1 ≤ x.1.length))) (fun x y => [(((x.1.drop x.2.2.1.toNat).contains x.2.1), .ret, Qdg (true)), (true, .exit 0, Qeu)])
def g_f27 : G := ⟨TYs, [], 18, EL [], keeps, (Ls [QRt]), IL [], RL []⟩
def QGN (x0 : List Int) (x1 x5 : Int) : Option (Exit × VS) := br (ilt x5 (llen x0)) (br (cIx x0 x5) (br (ieq (lgt tI x0 (Int.toNat x5)) x1) (some (.ret, Qdg true)) (some (.normal, QoU x0 x1 (iadd .i64 x5 1)))) none) (some (.exit 0, Qeu))
noncomputable def Qk1 (x0 : List Int) (x1 x5 : Int) : Option (Exit × VS) := loopF (Qai g_f27 QiC Qkl) (QoU x0 x1 x5)
noncomputable def Qp9 (x0 : List Int) (x1 x5 : Int) : Option (Exit × VS) := br (ilt x5 (llen x0)) (br (cIx x0 x5) (br (ieq (lgt tI x0 (Int.toNat x5)) x1) (some (.ret, Qdg true)) (Qk1 x0 x1 (iadd .i64 x5 1))) none) (some (.exit 0, Qeu))
def Qlh (x0 : List Int) (x1 x5 : Int) : Option (Exit × VS) := br ((x0.drop x5.toNat).contains x1) (some (.ret, Qdg (true))) <| some (.exit 0, Qeu)
theorem QJ5 (x0 : List Int) (x1 x5 : Int) : Qai g_f27 QiC Qkl (QoU x0 x1 x5) = QGN x0 x1 x5 := by kernel_rfl
theorem QwT (x0 : List Int) (x1 x5 : Int) : Qk1 x0 x1 x5 = Qp9 x0 x1 x5 := (Qap _ _).trans (by
 rw [QJ5]
 simp only [QGN, Qp9, QaE, nxt_n, nxt_r, nxt_e, nxt_0]
 rfl)
def r_f27 (p0 : List Int) (p1 : Int) : Option (V × List VO) := br (decide (p0.length ≤ 100000 ∧ 0 ≤ (0 : Int) ∧ (0 : Int) ≤ p0.length)) (br ((p0.drop (0 : Int).toNat).contains p1) (some (.t .bool (true), [])) (some (.t .bool false, []))) none
theorem e_f27 (p0 : List Int) (p1 : Int) : runF g_f27 QAf QL7 false [.t (.sl tI) p0, .t tI p1] [] = r_f27 p0 p1 := by kernel_rfl
theorem QFo : Qag Tryz.prog 27 := .inr ⟨by decide, _, Tryz.func27, by kernel_rfl, by kernel_rfl⟩
theorem gk_f27 : GOk Tryz.prog g_f27 := Qal _ (fun p hp => by cases hp)
theorem QPn (x0 : List Int) (x1 x5 : Int) (h : (decide (x0.length ≤ 100000 ∧ 0 ≤ x5 ∧ x5 ≤ x0.length)) = true) : Qk1 x0 x1 x5 = Qlh x0 x1 x5 := by
 simp only [decide_eq_true_eq] at h
 obtain ⟨h2, h3, h4⟩ := h
 obtain ⟨k, rfl⟩ := Int.eq_ofNat_of_zero_le h3
 refine Qav x0 (fun k => Qk1 x0 x1 (k : Int) = Qlh x0 x1 (k : Int)) ?_ ?_ k (by omega)
 ·rw [QwT]
  simp [Qp9, Qlh, Qaz, llen, Qae]
 ·intro k hk ih
  rw [QwT]
  simp only [Qp9, Qaz, llen, QaA, hk, decide_true, Qac, Int.toNat_natCast, add1 (show k < 4611686018427387904 by omega), ih, QaF (y := tI) hk]
  simp only [Qlh, Int.toNat_natCast, List.drop_eq_getElem_cons hk, List.contains_cons, ieq]
  have hc : (x1 == x0[k]) = (x0[k] == x1) := Bool.beq_comm
  rw [hc]
  cases x0[k] == x1 <;> rfl
theorem QId : ∀ S l p, g_f27.L 0 (fgt QiC S) = some (true, l) → pickA l = some p → loopF (Qai g_f27 QiC Qkl) S = some p :=
 QaG (s := Qpi) ⟨by decide, by decide⟩ (by kernel_rfl) fun x y hok p hp => by
 simp only [Qas, Qao] at hp
 exact (QPn x.1 x.2.1 x.2.2.1 (by simpa using hok)).trans hp
theorem lk_f27 : QAf.lok g_f27 := by
 repeat (first | exact trivial | exact QId | refine ⟨?_, ?_⟩)
theorem s_f27 (l : List Int) (n : Int) (h : QaU l n = true) : r_f27 l n = some (.t .bool (hasF l n), []) := by
 simp only [QaU, decide_eq_true_eq] at h
 simp only [r_f27, Int.toNat_zero, List.drop_zero]
 rw [Qlv ⟨h, Int.le_refl 0, by omega⟩, Qac]
 unfold hasF
 cases l.contains n <;> rfl
def QAF : Ent := spec (.pr (.sl tI) (.pr tI .nil)) (fun x => (QaU x.1 x.2.1)) (fun x => (.t .bool (hasF x.1 x.2.1)))
theorem QMA : Meets Tryz.prog 27 (strip QAF) := Qaf (R := runF g_f27 QAf QL7 false) (mG Tryz.func27 (by kernel_rfl) Tryz.ntmps27 (by kernel_rfl) gk_f27 lk_f27) fun x hok => (e_f27 x.1 x.2.1).trans (s_f27 x.1 x.2.1 hok)
theorem QPs (a b : Keep) : (and (ieq a.1 b.1) (and (ieq a.2.1 b.2.1) true)) = (a == b) := by
 obtain ⟨a1, a2, _⟩ := a
 obtain ⟨b1, b2, _⟩ := b
 show _ = ((a1 == b1) && ((a2 == b2) && true))
 rfl
-- loop 0: (x0 : (List Keep)) (x1 : (List Keep)) (x5 : Int); out: ('ret',) (x4 : Bool); ('exit', 0)
end
end Go.Proofs.YtkngeegkjhipeaaGreat.K
