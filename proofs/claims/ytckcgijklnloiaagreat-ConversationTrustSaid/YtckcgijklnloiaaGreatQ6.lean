import Derived.Test.YtckcgijklnloiaaGreatQ4
import Derived.Test.YtckcgijklnloiaaGreatQ5
set_option linter.unusedSimpArgs false
set_option linter.unusedVariables false
namespace Go.Proofs.YtckcgijklnloiaaGreat.K
open Go.RowKit
noncomputable section
def kindF (a : Int) : Int := (ofF a).1.2.1
noncomputable def Qxr : TC := (.sq (.reg (rT Tryz.f155 0)) (.sq (.reg (rT Tryz.f155 1)) (.sq (.reg (rT Tryz.f155 2)) .rt)))
def QG9 : List (RV × Option Ty) := [((.t 2), some tI)]
def QBt : G := ⟨TYs, [], 12, EL [(180, Qx0)], keeps, (fun _ _ => none), IL [], RL []⟩
def QSg (p0 : Int) : Option (V × List VO) := some (.t tI ((((ofF p0).1).2).1), [])
theorem e_f155 (p0 : Int) : runF QBt Qxr QG9 false [.t tI p0] [] = QSg p0 := by kernel_rfl
theorem QzE : Qai Tryz.prog 155 := .inr ⟨by decide, _, Tryz.func155, by kernel_rfl, by kernel_rfl⟩
theorem QWL : GOk Tryz.prog QBt := Qal _ (gA (gC QLc QJj gN))
theorem QU9 : Qxr.lok QBt := by repeat (first | exact trivial | refine ⟨?_, ?_⟩)
theorem s_f155 (a : Int) : QSg a = some (.t tI (kindF a), []) := rfl
def Qsh : Ent := spec (.pr tI .nil) (fun x => true) (fun x => (.t tI (kindF x.1)))
theorem QyO : Meets Tryz.prog 155 (strip Qsh) := Qag (R := runF QBt Qxr QG9 false) (mG Tryz.func155 (by kernel_rfl) Tryz.ntmps155 (by kernel_rfl) QWL QU9) fun x _ => (e_f155 x.1).trans (s_f155 x.1)
noncomputable def QxR : TC := (.sq (.reg (rT Tryz.f110 0)) (.sq (.reg (rT Tryz.f110 1)) .rt))
def QHz : List (RV × Option Ty) := [((.t 0), some (.sl Qc5))]
def QBI : G := ⟨TYs, [], 25, EL [], keeps, (fun _ _ => none), IL [], RL []⟩
def QSn  : Option (V × List VO) := some (.t (.sl Qc5) ([((ByteArray.mk #[]), (0, ())), ((ByteArray.mk #[109, 100, 53]), (1, ())), ((ByteArray.mk #[115, 104, 97, 49]), (1, ())), ((ByteArray.mk #[115, 104, 97, 50, 53, 54]), (1, ())), ((ByteArray.mk #[115, 104, 97, 51, 56, 52]), (1, ())), ((ByteArray.mk #[114, 115, 97]), (2, ())), ((ByteArray.mk #[100, 115, 97]), (2, ())), ((ByteArray.mk #[101, 99, 100, 115, 97]), (2, ())), ((ByteArray.mk #[101, 100, 50, 53, 53, 49, 57]), (2, ())), ((ByteArray.mk #[109, 108, 100, 115, 97]), (2, ())), ((ByteArray.mk #[114, 115, 97, 107, 120]), (3, ())), ((ByteArray.mk #[100, 104, 101]), (3, ())), ((ByteArray.mk #[101, 99, 100, 104, 101]), (3, ())), ((ByteArray.mk #[109, 108, 107, 101, 109]), (3, ())), ((ByteArray.mk #[114, 99, 52]), (4, ())), ((ByteArray.mk #[100, 101, 115, 51]), (4, ())), ((ByteArray.mk #[97, 101, 115, 99, 98, 99]), (4, ())), ((ByteArray.mk #[97, 101, 115, 103, 99, 109]), (4, ())), ((ByteArray.mk #[99, 104, 97, 99, 104, 97]), (4, ())), ((ByteArray.mk #[104, 109, 97, 99, 109, 100, 53]), (5, ())), ((ByteArray.mk #[104, 109, 97, 99, 115, 104, 97, 49]), (5, ())), ((ByteArray.mk #[104, 109, 97, 99, 115, 104, 97, 50, 53, 54]), (5, ())), ((ByteArray.mk #[97, 101, 97, 100]), (5, ()))]), [])
theorem e_f110  : runF QBI QxR QHz false [] [] = QSn  := by kernel_rfl
theorem QX4 : Qai Tryz.prog 110 := .inr ⟨by decide, _, Tryz.func110, by kernel_rfl, by kernel_rfl⟩
theorem QXb : GOk Tryz.prog QBI := Qal _ (fun p hp => by cases hp)
theorem QVz : QxR.lok QBI := by repeat (first | exact trivial | refine ⟨?_, ?_⟩)
def QAn : Ty.T (.sl Qc5) := ([((ByteArray.mk #[]), (0, ())), ((ByteArray.mk #[109, 100, 53]), (1, ())), ((ByteArray.mk #[115, 104, 97, 49]), (1, ())), ((ByteArray.mk #[115, 104, 97, 50, 53, 54]), (1, ())), ((ByteArray.mk #[115, 104, 97, 51, 56, 52]), (1, ())), ((ByteArray.mk #[114, 115, 97]), (2, ())), ((ByteArray.mk #[100, 115, 97]), (2, ())), ((ByteArray.mk #[101, 99, 100, 115, 97]), (2, ())), ((ByteArray.mk #[101, 100, 50, 53, 53, 49, 57]), (2, ())), ((ByteArray.mk #[109, 108, 100, 115, 97]), (2, ())), ((ByteArray.mk #[114, 115, 97, 107, 120]), (3, ())), ((ByteArray.mk #[100, 104, 101]), (3, ())), ((ByteArray.mk #[101, 99, 100, 104, 101]), (3, ())), ((ByteArray.mk #[109, 108, 107, 101, 109]), (3, ())), ((ByteArray.mk #[114, 99, 52]), (4, ())), ((ByteArray.mk #[100, 101, 115, 51]), (4, ())), ((ByteArray.mk #[97, 101, 115, 99, 98, 99]), (4, ())), ((ByteArray.mk #[97, 101, 115, 103, 99, 109]), (4, ())), ((ByteArray.mk #[99, 104, 97, 99, 104, 97]), (4, ())), ((ByteArray.mk #[104, 109, 97, 99, 109, 100, 53]), (5, ())), ((ByteArray.mk #[104, 109, 97, 99, 115, 104, 97, 49]), (5, ())), ((ByteArray.mk #[104, 109, 97, 99, 115, 104, 97, 50, 53, 54]), (5, ())), ((ByteArray.mk #[97, 101, 97, 100]), (5, ()))])
theorem s_f110 : QSn = some (.t (.sl Qc5) QAn, []) := rfl
def QF8 : Ent := spec .nil (fun x => true) (fun x => (.t (.sl Qc5) QAn))
theorem QUi : Meets Tryz.prog 110 (strip QF8) := Qag (R := runF QBI QxR QHz false) (mG Tryz.func110 (by kernel_rfl) Tryz.ntmps110 (by kernel_rfl) QXb QVz) fun x _ => (e_f110 ).trans (s_f110 )
noncomputable def QEr : TC := (.sq (.reg (rT Tryz.f70 0)) (.sq (.sq (.reg (rT Tryz.f70 1)) (.cd (.t 8) (.sq (.reg (rT Tryz.f70 2)) .rt) .sk)) (.sq (.reg (rT Tryz.f70 3)) .rt)))
def QRE : List (RV × Option Ty) := [((.t 2), some tI)]
def g_f70 : G := ⟨TYs, [], 14, EL [(110, QF8)], keeps, (fun _ _ => none), IL [], RL []⟩
def r_f70 (p0 : Int) : Option (V × List VO) := br (ilt p0 1) (some (.t tI 0, [])) (br (igt p0 22) (some (.t tI 0, [])) (br (cIx QAn p0) (some (.t tI (((lgt Qc5 QAn (Int.toNat p0)).2).1), [])) none))
theorem e_f70 (p0 : Int) : runF g_f70 QEr QRE false [.t tI p0] [] = r_f70 p0 := by kernel_rfl
theorem QSH : Qai Tryz.prog 70 := .inr ⟨by decide, _, Tryz.func70, by kernel_rfl, by kernel_rfl⟩
theorem gk_f70 : GOk Tryz.prog g_f70 := Qal _ (gA (gC QX4 QUi gN))
theorem lk_f70 : QEr.lok g_f70 := by repeat (first | exact trivial | refine ⟨?_, ?_⟩)
theorem QMV {a : Int} (h1 : 1 ≤ a) (h2 : a ≤ 22) : a = 1 ∨ a = 2 ∨ a = 3 ∨ a = 4 ∨ a = 5 ∨ a = 6 ∨ a = 7 ∨ a = 8 ∨ a = 9 ∨ a = 10 ∨ a = 11 ∨ a = 12 ∨ a = 13 ∨ a = 14 ∨ a = 15 ∨ a = 16 ∨ a = 17 ∨ a = 18 ∨ a = 19 ∨ a = 20 ∨ a = 21 ∨ a = 22 := by omega
theorem s_f70 (a : Int) : r_f70 a = some (.t tI (kindF a), []) := by
 simp only [r_f70]
 refine QaE (fun h1 => ?_) (fun h1 => QaE (fun h2 => ?_) (fun h2 => ?_))
 ·have h1 : a < 1 := by simpa [ilt] using h1
  simp [kindF, ofF, h1, noRow]
 ·have h2 : 22 < a := by simpa [igt] using h2
  simp [kindF, ofF, h2, noRow]
 ·have h1 : ¬ a < 1 := by simpa [ilt] using h1
  have h2 : ¬ 22 < a := by simpa [igt] using h2
  rcases QMV (a := a) (by omega) (by omega) with rfl | rfl | rfl | rfl | rfl | rfl | rfl | rfl | rfl | rfl | rfl | rfl | rfl | rfl | rfl | rfl | rfl | rfl | rfl | rfl | rfl | rfl <;> rfl
def QE4 : Ent := spec (.pr tI .nil) (fun x => true) (fun x => (.t tI (kindF x.1)))
theorem QSr : Meets Tryz.prog 70 (strip QE4) := Qag (R := runF g_f70 QEr QRE false) (mG Tryz.func70 (by kernel_rfl) Tryz.ntmps70 (by kernel_rfl) gk_f70 lk_f70) fun x _ => (e_f70 x.1).trans (s_f70 x.1)
def useP (a b : Int) : Keep := (a, (b, ()))
noncomputable def Qxn : TC := (.sq (.reg (rT Tryz.f159 0)) (.sq (.reg (rT Tryz.f159 1)) .rt))
def QG5 : List (RV × Option Ty) := [((.c 4 true 2), some Qah)]
def QBq : G := ⟨TYs, [], 8, EL [], keeps, (fun _ _ => none), IL [], RL []⟩
def QSf (p0 p1 : Int) : Option (V × List VO) := some (.t Qah (p0, (p1, ())), [])
theorem e_f159 (p0 p1 : Int) : runF QBq Qxn QG5 false [.t tI p0, .t tI p1] [] = QSf p0 p1 := by kernel_rfl
theorem QXH : Qai Tryz.prog 159 := .inr ⟨by decide, _, Tryz.func159, by kernel_rfl, by kernel_rfl⟩
theorem QWH : GOk Tryz.prog QBq := Qal _ (fun p hp => by cases hp)
theorem QU5 : Qxn.lok QBq := by repeat (first | exact trivial | refine ⟨?_, ?_⟩)
theorem s_f159 (a b : Int) : QSf a b = some (.t Qah (useP a b), []) := rfl
def QFK : Ent := spec (.pr tI (.pr tI .nil)) (fun x => true) (fun x => (.t Qah (useP x.1 x.2.1)))
theorem QTV : Meets Tryz.prog 159 (strip QFK) := Qag (R := runF QBq Qxn QG5 false) (mG Tryz.func159 (by kernel_rfl) Tryz.ntmps159 (by kernel_rfl) QWH QU5) fun x _ => (e_f159 x.1 x.2.1).trans (s_f159 x.1 x.2.1)
def suiP (c : Int) (n : ByteArray) (e s f m : Keep) (l o : Int) : Suite := (c, (n, (e, (s, (f, (m, (l, (o, ()))))))))
def QeZ : Ty.T (.sl QaF) :=
 let a1 := (suiP 9 (ByteArray.mk #[101, 99, 100, 104, 101, 45, 101, 99, 100, 115, 97, 45, 97, 101, 115, 50, 53, 54, 45, 115, 104, 97, 50, 53, 54]) (useP 12 256) (useP 7 0) (useP 16 256) (useP 21 0) 3 3)
 let a2 := (suiP 11 (ByteArray.mk #[101, 99, 100, 104, 101, 45, 101, 99, 100, 115, 97, 45, 97, 101, 115, 50, 53, 54, 45, 103, 99, 109]) (useP 12 384) (useP 7 0) (useP 17 256) (useP 22 0) 3 3)
 let a3 := (suiP 10 (ByteArray.mk #[101, 99, 100, 104, 101, 45, 114, 115, 97, 45, 97, 101, 115, 49, 50, 56, 45, 103, 99, 109]) (useP 12 256) (useP 5 0) (useP 17 128) (useP 22 0) 3 3)
 let a4 := (suiP 8 (ByteArray.mk #[101, 99, 100, 104, 101, 45, 114, 115, 97, 45, 97, 101, 115, 49, 50, 56, 45, 115, 104, 97]) (useP 12 256) (useP 5 0) (useP 16 128) (useP 20 0) 1 3)
 let a5 := (suiP 7 (ByteArray.mk #[100, 104, 101, 45, 114, 115, 97, 45, 97, 101, 115, 49, 50, 56, 45, 115, 104, 97]) (useP 11 2048) (useP 5 0) (useP 16 128) (useP 20 0) 1 3)
 let a6 := (suiP 16 (ByteArray.mk #[109, 108, 107, 101, 109, 45, 97, 101, 115, 50, 53, 54, 45, 103, 99, 109]) (useP 13 768) (0, (0, ())) (useP 17 256) (useP 22 0) 4 4)
 let a7 := (suiP 4 (ByteArray.mk #[100, 104, 101, 45, 100, 115, 97, 45, 100, 101, 115, 51, 45, 115, 104, 97]) (useP 11 1024) (useP 6 0) (useP 15 168) (useP 20 0) 1 3)
 let a8 := (suiP 5 (ByteArray.mk #[100, 104, 101, 45, 114, 115, 97, 45, 100, 101, 115, 51, 45, 115, 104, 97]) (useP 11 1024) (useP 5 0) (useP 15 168) (useP 20 0) 1 3)
 let a9 := (suiP 12 (ByteArray.mk #[101, 99, 100, 104, 101, 45, 114, 115, 97, 45, 99, 104, 97, 99, 104, 97]) (useP 12 256) (useP 5 0) (useP 18 0) (useP 22 0) 3 3)
 let a10 := (suiP 13 (ByteArray.mk #[114, 115, 97, 45, 97, 101, 115, 50, 53, 54, 45, 103, 99, 109]) (useP 10 0) (useP 5 0) (useP 17 256) (useP 22 0) 3 3)
 let a11 := (suiP 6 (ByteArray.mk #[114, 115, 97, 45, 97, 101, 115, 49, 50, 56, 45, 115, 104, 97]) (useP 10 0) (useP 5 0) (useP 16 128) (useP 20 0) 1 3)
 let a12 := (suiP 3 (ByteArray.mk #[114, 115, 97, 45, 100, 101, 115, 51, 45, 115, 104, 97]) (useP 10 0) (useP 5 0) (useP 15 168) (useP 20 0) 1 3)
 let a13 := (suiP 1 (ByteArray.mk #[114, 115, 97, 45, 114, 99, 52, 45, 109, 100, 53]) (useP 10 0) (useP 5 0) (useP 14 128) (useP 19 0) 1 2)
 let a14 := (suiP 2 (ByteArray.mk #[114, 115, 97, 45, 114, 99, 52, 45, 115, 104, 97]) (useP 10 0) (useP 5 0) (useP 14 128) (useP 20 0) 1 3)
 let a15 := (suiP 14 (ByteArray.mk #[97, 101, 115, 49, 50, 56, 45, 103, 99, 109]) (useP 12 256) (0, (0, ())) (useP 17 128) (useP 22 0) 4 4)
 let a16 := (suiP 15 (ByteArray.mk #[99, 104, 97, 99, 104, 97]) (useP 12 256) (0, (0, ())) (useP 18 0) (useP 22 0) 4 4)
 let a17 := (((a13.2).2).2)
 let a18 := (((a14.2).2).2)
 let a19 := (((a12.2).2).2)
 let a20 := (((a11.2).2).2)
 let a21 := (((a10.2).2).2)
 let a22 := (((a15.2).2).2)
 let a23 := (((a16.2).2).2)
 let a24 := (((a7.2).2).2)
 let a25 := (((a8.2).2).2)
 let a26 := (((a5.2).2).2)
 let a27 := (((a4.2).2).2)
 let a28 := (((a1.2).2).2)
 let a29 := (((a3.2).2).2)
 let a30 := (((a2.2).2).2)
 let a31 := (((a9.2).2).2)
 let a32 := (((a6.2).2).2)
 ([(a13.1, ((a13.2).1, (((((a13.2).2).1).1, (((((a13.2).2).1).2).1, ())), (((a17.1).1, (((a17.1).2).1, ())), ((((a17.2).1).1, ((((a17.2).1).2).1, ())), (((((a17.2).2).1).1, (((((a17.2).2).1).2).1, ())), ((((a17.2).2).2).1, (((((a17.2).2).2).2).1, ())))))))), (a14.1, ((a14.2).1, (((((a14.2).2).1).1, (((((a14.2).2).1).2).1, ())), (((a18.1).1, (((a18.1).2).1, ())), ((((a18.2).1).1, ((((a18.2).1).2).1, ())), (((((a18.2).2).1).1, (((((a18.2).2).1).2).1, ())), ((((a18.2).2).2).1, (((((a18.2).2).2).2).1, ())))))))), (a12.1, ((a12.2).1, (((((a12.2).2).1).1, (((((a12.2).2).1).2).1, ())), (((a19.1).1, (((a19.1).2).1, ())), ((((a19.2).1).1, ((((a19.2).1).2).1, ())), (((((a19.2).2).1).1, (((((a19.2).2).1).2).1, ())), ((((a19.2).2).2).1, (((((a19.2).2).2).2).1, ())))))))), (a7.1, ((a7.2).1, (((((a7.2).2).1).1, (((((a7.2).2).1).2).1, ())), (((a24.1).1, (((a24.1).2).1, ())), ((((a24.2).1).1, ((((a24.2).1).2).1, ())), (((((a24.2).2).1).1, (((((a24.2).2).1).2).1, ())), ((((a24.2).2).2).1, (((((a24.2).2).2).2).1, ())))))))), (a8.1, ((a8.2).1, (((((a8.2).2).1).1, (((((a8.2).2).1).2).1, ())), (((a25.1).1, (((a25.1).2).1, ())), ((((a25.2).1).1, ((((a25.2).1).2).1, ())), (((((a25.2).2).1).1, (((((a25.2).2).1).2).1, ())), ((((a25.2).2).2).1, (((((a25.2).2).2).2).1, ())))))))), (a11.1, ((a11.2).1, (((((a11.2).2).1).1, (((((a11.2).2).1).2).1, ())), (((a20.1).1, (((a20.1).2).1, ())), ((((a20.2).1).1, ((((a20.2).1).2).1, ())), (((((a20.2).2).1).1, (((((a20.2).2).1).2).1, ())), ((((a20.2).2).2).1, (((((a20.2).2).2).2).1, ())))))))), (a5.1, ((a5.2).1, (((((a5.2).2).1).1, (((((a5.2).2).1).2).1, ())), (((a26.1).1, (((a26.1).2).1, ())), ((((a26.2).1).1, ((((a26.2).1).2).1, ())), (((((a26.2).2).1).1, (((((a26.2).2).1).2).1, ())), ((((a26.2).2).2).1, (((((a26.2).2).2).2).1, ())))))))), (a4.1, ((a4.2).1, (((((a4.2).2).1).1, (((((a4.2).2).1).2).1, ())), (((a27.1).1, (((a27.1).2).1, ())), ((((a27.2).1).1, ((((a27.2).1).2).1, ())), (((((a27.2).2).1).1, (((((a27.2).2).1).2).1, ())), ((((a27.2).2).2).1, (((((a27.2).2).2).2).1, ())))))))), (a1.1, ((a1.2).1, (((((a1.2).2).1).1, (((((a1.2).2).1).2).1, ())), (((a28.1).1, (((a28.1).2).1, ())), ((((a28.2).1).1, ((((a28.2).1).2).1, ())), (((((a28.2).2).1).1, (((((a28.2).2).1).2).1, ())), ((((a28.2).2).2).1, (((((a28.2).2).2).2).1, ())))))))), (a3.1, ((a3.2).1, (((((a3.2).2).1).1, (((((a3.2).2).1).2).1, ())), (((a29.1).1, (((a29.1).2).1, ())), ((((a29.2).1).1, ((((a29.2).1).2).1, ())), (((((a29.2).2).1).1, (((((a29.2).2).1).2).1, ())), ((((a29.2).2).2).1, (((((a29.2).2).2).2).1, ())))))))), (a2.1, ((a2.2).1, (((((a2.2).2).1).1, (((((a2.2).2).1).2).1, ())), (((a30.1).1, (((a30.1).2).1, ())), ((((a30.2).1).1, ((((a30.2).1).2).1, ())), (((((a30.2).2).1).1, (((((a30.2).2).1).2).1, ())), ((((a30.2).2).2).1, (((((a30.2).2).2).2).1, ())))))))), (a9.1, ((a9.2).1, (((((a9.2).2).1).1, (((((a9.2).2).1).2).1, ())), (((a31.1).1, (((a31.1).2).1, ())), ((((a31.2).1).1, ((((a31.2).1).2).1, ())), (((((a31.2).2).1).1, (((((a31.2).2).1).2).1, ())), ((((a31.2).2).2).1, (((((a31.2).2).2).2).1, ())))))))), (a10.1, ((a10.2).1, (((((a10.2).2).1).1, (((((a10.2).2).1).2).1, ())), (((a21.1).1, (((a21.1).2).1, ())), ((((a21.2).1).1, ((((a21.2).1).2).1, ())), (((((a21.2).2).1).1, (((((a21.2).2).1).2).1, ())), ((((a21.2).2).2).1, (((((a21.2).2).2).2).1, ())))))))), (a15.1, ((a15.2).1, (((((a15.2).2).1).1, (((((a15.2).2).1).2).1, ())), (((a22.1).1, (((a22.1).2).1, ())), ((((a22.2).1).1, ((((a22.2).1).2).1, ())), (((((a22.2).2).1).1, (((((a22.2).2).1).2).1, ())), ((((a22.2).2).2).1, (((((a22.2).2).2).2).1, ())))))))), (a16.1, ((a16.2).1, (((((a16.2).2).1).1, (((((a16.2).2).1).2).1, ())), (((a23.1).1, (((a23.1).2).1, ())), ((((a23.2).1).1, ((((a23.2).1).2).1, ())), (((((a23.2).2).1).1, (((((a23.2).2).1).2).1, ())), ((((a23.2).2).2).1, (((((a23.2).2).2).2).1, ())))))))), (a6.1, ((a6.2).1, (((((a6.2).2).1).1, (((((a6.2).2).1).2).1, ())), (((a32.1).1, (((a32.1).2).1, ())), ((((a32.2).1).1, ((((a32.2).1).2).1, ())), (((((a32.2).2).1).1, (((((a32.2).2).1).2).1, ())), ((((a32.2).2).2).1, (((((a32.2).2).2).2).1, ()))))))))])
abbrev QD0 : Suite := Ty.zero QaF
def codeL (k : Nat) (l : List Suite) : List Suite := (List.range' k (16 - k)).foldl (fun l i => l.set i (((i + 1 : Nat) : Int), (l.getD i QD0).2)) l
noncomputable def QLw : List DO := dT Tryz.f133 4
def Qg6 : Fg := ⟨[(15, none), (113, some tI), (114, some tI)], [(111, none)]⟩
noncomputable def QiT : TC := (.sq (.reg (rT Tryz.f133 6)) (.sq (.cd (.t 115) .sk (.fg ⟨[(15, none)], [(111, none)]⟩ (.ex 0))) (.sq (.bk 1 (.sq (.reg (rT Tryz.f133 7)) (.reg (rT Tryz.f133 8)))) (.reg (rT Tryz.f133 9)))))
noncomputable def QxC : TC := (.sq (.reg (rT Tryz.f133 0)) (.sq (.reg (rT Tryz.f133 1)) (.sq (.reg (rT Tryz.f133 2)) (.sq (.reg (rT Tryz.f133 3)) (.sq (.dr QLw [(0, [1]), (1, [2]), (2, []), (3, [11]), (4, []), (5, [1]), (6, [2]), (7, []), (8, [12]), (9, []), (10, [1]), (11, [2]), (12, [6]), (13, [12]), (14, []), (15, []), (16, [3]), (17, [6]), (18, [12]), (19, []), (20, []), (21, [2]), (22, [6]), (23, [12]), (24, []), (25, [1]), (26, [2]), (27, [7]), (28, [12]), (29, []), (30, []), (31, [2]), (32, [7]), (33, [12]), (34, []), (35, [14]), (36, [2]), (37, [7]), (38, [12]), (39, []), (40, [14]), (41, [4]), (42, []), (43, []), (44, []), (45, [14]), (46, [2]), (47, [8]), (48, [13]), (49, []), (50, []), (51, [4]), (52, [9]), (53, [13]), (54, []), (55, [14]), (56, [2]), (57, [10]), (58, [13]), (59, []), (60, [1]), (61, [2]), (62, [9]), (63, [13]), (64, []), (65, [14]), (66, [5]), (67, [8]), (68, [13]), (69, []), (70, [14]), (71, [5]), (72, [10]), (73, [13]), (74, []), (75, []), (76, [5]), (77, [9]), (78, [13]), (79, []), (80, [111, 5111, 10111, 15111]), (81, [111])] (.of [0, 1, 2, 3, 4, 5, 6, 7, 8, 9, 10, 11, 12, 13, 14, 15, 16, 17, 18, 19, 20, 21, 22, 23, 24, 25, 26, 27, 28, 29, 30, 31, 32, 33, 34, 35, 36, 37, 38, 39, 40, 41, 42, 43, 44, 45, 46, 47, 48, 49, 50, 51, 52, 53, 54, 55, 56, 57, 58, 59, 60, 61, 62, 63, 64, 65, 66, 67, 68, 69, 70, 71, 72, 73, 74, 75, 76, 77, 78, 79, 80, 81])) (.sq (.sq (.reg (rT Tryz.f133 5)) (.bk 0 (.lp 0 Qg6 QiT))) (.sq (.reg (rT Tryz.f133 10)) .rt)))))))
def QHk : List (RV × Option Ty) := [((.t 0), some (.sl QaF))]
abbrev Qpd : Sh := ⟨[(15, .ms 111), (113, .ty tI), (114, .ty tI)], [(111, .arr 142 QaF)]⟩
def Qos (x113 x114 : Int) (y111 : List Suite) : VS := Qpd.st ((), x113, x114, ()) (y111, ())
abbrev Qu9 : Sh := ⟨[(15, .ms 111)], [(111, .arr 142 QaF)]⟩
def Qd7 (y111 : List Suite) : VS := Qu9.st ((), ()) (y111, ())
def QQH : VS → Option (Bool × List (Bool × Exit × VS)) := mkL Qpd (fun x y => (decide (0 ≤ x.2.2.1 ∧ x.2.2.1 ≤ 16 ∧ x.2.1 = 16 ∧ y.1.length = 16))) (fun x y => [(true, .exit 0, Qd7 (codeL x.2.2.1.toNat y.1))])
def QlX : G := ⟨TYs, [111], 125, EL [(159, QFK)], keeps, (Ls [QQH]), IL [], RL []⟩
def QCy (x113 x114 : Int) (y111 : List Suite) : Option (Exit × VS) :=
 let a1 := Int.toNat x114
 br (ilt x114 x113) (br (cIx y111 x114) (br (cLd y111 a1) (some (.normal, Qos x113 (iadd .i64 x114 1) (List.set y111 a1 ((iadd .i64 x114 1), (lgt QaF y111 a1).2)))) none) none) (some (.exit 0, Qd7 y111))
noncomputable def QjF (x113 x114 : Int) (y111 : List Suite) : Option (Exit × VS) := loopF (Qaj QlX Qg6 QiT) (Qos x113 x114 y111)
noncomputable def QtJ (x113 x114 : Int) (y111 : List Suite) : Option (Exit × VS) :=
 let a1 := Int.toNat x114
 br (ilt x114 x113) (br (cIx y111 x114) (br (cLd y111 a1) (QjF x113 (iadd .i64 x114 1) (List.set y111 a1 ((iadd .i64 x114 1), (lgt QaF y111 a1).2))) none) none) (some (.exit 0, Qd7 y111))
def Qqk (x113 x114 : Int) (y111 : List Suite) : Option (Exit × VS) := some (.exit 0, Qd7 (codeL x114.toNat y111))
theorem QMl (x113 x114 : Int) (y111 : List Suite) : Qaj QlX Qg6 QiT (Qos x113 x114 y111) = QCy x113 x114 y111 := by kernel_rfl
theorem Qv5 (x113 x114 : Int) (y111 : List Suite) : QjF x113 x114 y111 = QtJ x113 x114 y111 := (Qao _ _).trans (by
 rw [QMl]
 simp only [QCy, QtJ, QaA, nxt_n, nxt_r, nxt_e, nxt_0]
 rfl)
def QSi  : Option (V × List VO) :=
 let a1 := ((useP 5 0).1, (((useP 5 0).2).1, ()))
 let a2 := ((useP 20 0).1, (((useP 20 0).2).1, ()))
 let a3 := ((useP 22 0).1, (((useP 22 0).2).1, ()))
 let a4 := ((useP 12 256).1, (((useP 12 256).2).1, ()))
 let a5 := ((useP 10 0).1, (((useP 10 0).2).1, ()))
 let a6 := ((useP 15 168).1, (((useP 15 168).2).1, ()))
 let a7 := ((useP 16 128).1, (((useP 16 128).2).1, ()))
 let a8 := ((useP 17 256).1, (((useP 17 256).2).1, ()))
 let a9 := (ByteArray.mk #[101, 99, 100, 104, 101, 45, 101, 99, 100, 115, 97, 45, 97, 101, 115, 50, 53, 54, 45, 115, 104, 97, 50, 53, 54])
 let a10 := (ByteArray.mk #[101, 99, 100, 104, 101, 45, 101, 99, 100, 115, 97, 45, 97, 101, 115, 50, 53, 54, 45, 103, 99, 109])
 let a11 := ((useP 11 1024).1, (((useP 11 1024).2).1, ()))
 let a12 := (ByteArray.mk #[101, 99, 100, 104, 101, 45, 114, 115, 97, 45, 97, 101, 115, 49, 50, 56, 45, 115, 104, 97])
 let a13 := (ByteArray.mk #[101, 99, 100, 104, 101, 45, 114, 115, 97, 45, 97, 101, 115, 49, 50, 56, 45, 103, 99, 109])
 let a14 := ((useP 14 128).1, (((useP 14 128).2).1, ()))
 let a15 := ((useP 17 128).1, (((useP 17 128).2).1, ()))
 let a16 := (ByteArray.mk #[100, 104, 101, 45, 114, 115, 97, 45, 97, 101, 115, 49, 50, 56, 45, 115, 104, 97])
 let a17 := ((useP 18 0).1, (((useP 18 0).2).1, ()))
 let a18 := ((useP 7 0).1, (((useP 7 0).2).1, ()))
 let a19 := (ByteArray.mk #[100, 104, 101, 45, 100, 115, 97, 45, 100, 101, 115, 51, 45, 115, 104, 97])
 let a20 := (ByteArray.mk #[100, 104, 101, 45, 114, 115, 97, 45, 100, 101, 115, 51, 45, 115, 104, 97])
 let a21 := (ByteArray.mk #[109, 108, 107, 101, 109, 45, 97, 101, 115, 50, 53, 54, 45, 103, 99, 109])
 let a22 := (ByteArray.mk #[101, 99, 100, 104, 101, 45, 114, 115, 97, 45, 99, 104, 97, 99, 104, 97])
 let a23 := (ByteArray.mk #[114, 115, 97, 45, 97, 101, 115, 49, 50, 56, 45, 115, 104, 97])
 let a24 := (ByteArray.mk #[114, 115, 97, 45, 97, 101, 115, 50, 53, 54, 45, 103, 99, 109])
 let a25 := (ByteArray.mk #[114, 115, 97, 45, 100, 101, 115, 51, 45, 115, 104, 97])
 let a26 := (ByteArray.mk #[114, 115, 97, 45, 114, 99, 52, 45, 109, 100, 53])
 let a27 := (ByteArray.mk #[114, 115, 97, 45, 114, 99, 52, 45, 115, 104, 97])
 let a28 := (ByteArray.mk #[97, 101, 115, 49, 50, 56, 45, 103, 99, 109])
 let a29 := ((useP 11 2048).1, (((useP 11 2048).2).1, ()))
 let a30 := ((useP 16 256).1, (((useP 16 256).2).1, ()))
 let a31 := ((useP 12 384).1, (((useP 12 384).2).1, ()))
 let a32 := ((useP 13 768).1, (((useP 13 768).2).1, ()))
 let a33 := (ByteArray.mk #[99, 104, 97, 99, 104, 97])
 let a34 := ((useP 19 0).1, (((useP 19 0).2).1, ()))
 let a35 := ((useP 21 0).1, (((useP 21 0).2).1, ()))
 let a36 := ((useP 6 0).1, (((useP 6 0).2).1, ()))
 br (decide (0 ≤ (0 : Int) ∧ (0 : Int) ≤ 16 ∧ (llen ([(0, (a26, (a5, (a1, (a14, (a34, (1, (2, ())))))))), (0, (a27, (a5, (a1, (a14, (a2, (1, (3, ())))))))), (0, (a25, (a5, (a1, (a6, (a2, (1, (3, ())))))))), (0, (a19, (a11, (a36, (a6, (a2, (1, (3, ())))))))), (0, (a20, (a11, (a1, (a6, (a2, (1, (3, ())))))))), (0, (a23, (a5, (a1, (a7, (a2, (1, (3, ())))))))), (0, (a16, (a29, (a1, (a7, (a2, (1, (3, ())))))))), (0, (a12, (a4, (a1, (a7, (a2, (1, (3, ())))))))), (0, (a9, (a4, (a18, (a30, (a35, (3, (3, ())))))))), (0, (a13, (a4, (a1, (a15, (a3, (3, (3, ())))))))), (0, (a10, (a31, (a18, (a8, (a3, (3, (3, ())))))))), (0, (a22, (a4, (a1, (a17, (a3, (3, (3, ())))))))), (0, (a24, (a5, (a1, (a8, (a3, (3, (3, ())))))))), (0, (a28, (a4, ((0, (0, ())), (a15, (a3, (4, (4, ())))))))), (0, (a33, (a4, ((0, (0, ())), (a17, (a3, (4, (4, ())))))))), (0, (a21, (a32, ((0, (0, ())), (a8, (a3, (4, (4, ()))))))))])) = 16 ∧ ([(0, (a26, (a5, (a1, (a14, (a34, (1, (2, ())))))))), (0, (a27, (a5, (a1, (a14, (a2, (1, (3, ())))))))), (0, (a25, (a5, (a1, (a6, (a2, (1, (3, ())))))))), (0, (a19, (a11, (a36, (a6, (a2, (1, (3, ())))))))), (0, (a20, (a11, (a1, (a6, (a2, (1, (3, ())))))))), (0, (a23, (a5, (a1, (a7, (a2, (1, (3, ())))))))), (0, (a16, (a29, (a1, (a7, (a2, (1, (3, ())))))))), (0, (a12, (a4, (a1, (a7, (a2, (1, (3, ())))))))), (0, (a9, (a4, (a18, (a30, (a35, (3, (3, ())))))))), (0, (a13, (a4, (a1, (a15, (a3, (3, (3, ())))))))), (0, (a10, (a31, (a18, (a8, (a3, (3, (3, ())))))))), (0, (a22, (a4, (a1, (a17, (a3, (3, (3, ())))))))), (0, (a24, (a5, (a1, (a8, (a3, (3, (3, ())))))))), (0, (a28, (a4, ((0, (0, ())), (a15, (a3, (4, (4, ())))))))), (0, (a33, (a4, ((0, (0, ())), (a17, (a3, (4, (4, ())))))))), (0, (a21, (a32, ((0, (0, ())), (a8, (a3, (4, (4, ()))))))))]).length = 16)) (some (.t (.sl QaF) (codeL (0 : Int).toNat ([(0, (a26, (a5, (a1, (a14, (a34, (1, (2, ())))))))), (0, (a27, (a5, (a1, (a14, (a2, (1, (3, ())))))))), (0, (a25, (a5, (a1, (a6, (a2, (1, (3, ())))))))), (0, (a19, (a11, (a36, (a6, (a2, (1, (3, ())))))))), (0, (a20, (a11, (a1, (a6, (a2, (1, (3, ())))))))), (0, (a23, (a5, (a1, (a7, (a2, (1, (3, ())))))))), (0, (a16, (a29, (a1, (a7, (a2, (1, (3, ())))))))), (0, (a12, (a4, (a1, (a7, (a2, (1, (3, ())))))))), (0, (a9, (a4, (a18, (a30, (a35, (3, (3, ())))))))), (0, (a13, (a4, (a1, (a15, (a3, (3, (3, ())))))))), (0, (a10, (a31, (a18, (a8, (a3, (3, (3, ())))))))), (0, (a22, (a4, (a1, (a17, (a3, (3, (3, ())))))))), (0, (a24, (a5, (a1, (a8, (a3, (3, (3, ())))))))), (0, (a28, (a4, ((0, (0, ())), (a15, (a3, (4, (4, ())))))))), (0, (a33, (a4, ((0, (0, ())), (a17, (a3, (4, (4, ())))))))), (0, (a21, (a32, ((0, (0, ())), (a8, (a3, (4, (4, ()))))))))])), [])) none
theorem e_f133  : runF QlX QxC QHk false [] [] = QSi  := by kernel_rfl
theorem QXT : Qai Tryz.prog 133 := .inr ⟨by decide, _, Tryz.func133, by kernel_rfl, by kernel_rfl⟩
theorem QWW : GOk Tryz.prog QlX := Qal _ (gA (gC QXH QTV gN))
theorem QOD (x113 x114 : Int) (y111 : List Suite) (h : (decide (0 ≤ x114 ∧ x114 ≤ 16 ∧ x113 = 16 ∧ y111.length = 16)) = true) : QjF x113 x114 y111 = Qqk x113 x114 y111 := by
 simp only [decide_eq_true_eq] at h
 obtain ⟨h1, h2, rfl, h4⟩ := h
 obtain ⟨k, rfl⟩ := Int.eq_ofNat_of_zero_le h1
 revert y111
 refine QQR 16 (fun k => ∀ y111 : List Suite, y111.length = 16 → QjF 16 (k : Int) y111 = Qqk 16 (k : Int) y111) ?_ ?_ k (by omega)
 ·intro y111 _
  rw [Qv5]
  rfl
 ·intro k hk ih y111 hy
  rw [Qv5]
  have e1 : ilt (k : Int) 16 = true := decide_eq_true (by omega)
  have e2 : cLd y111 k = true := decide_eq_true (by omega)
  have e3 : codeL k y111 = codeL (k + 1) (y111.set k (((k + 1 : Nat) : Int), (y111.getD k QD0).2)) := by
   have : 16 - k = (16 - (k + 1)) + 1 := by omega
   unfold codeL
   rw [this, List.range'_succ, List.foldl_cons]
  simp only [QtJ, e1, Qad, Qax, show decide (k < y111.length) = true from decide_eq_true (by omega), Int.toNat_natCast, e2, add1 (show k < 4611686018427387904 by omega)]
  rw [ih _ (by rw [List.length_set]; exact hy)]
  simp only [Qqk, Int.toNat_natCast, e3]
theorem QJU : ∀ S l p, QlX.L 0 (fgt Qg6 S) = some (true, l) → pickA l = some p → loopF (Qaj QlX Qg6 QiT) S = some p :=
 QaB (s := Qpd) ⟨by decide, by decide⟩ (by kernel_rfl) fun x y hok p hp => by
 simp only [Qas, Qan] at hp
 exact (QOD x.2.1 x.2.2.1 y.1 (by simpa using hok)).trans hp
theorem QVk : QxC.lok QlX := by
 repeat (first | exact trivial | exact QJU | refine ⟨?_, ?_⟩)
set_option maxRecDepth 100000 in
theorem s_f133 : QSi = some (.t (.sl QaF) QeZ, []) := by kernel_rfl
def QFX : Ent := spec .nil (fun x => true) (fun x => (.t (.sl QaF) QeZ))
theorem QT7 : Meets Tryz.prog 133 (strip QFX) := Qag (R := runF QlX QxC QHk false) (mG Tryz.func133 (by kernel_rfl) Tryz.ntmps133 (by kernel_rfl) QWW QVk) fun x _ => (e_f133 ).trans (s_f133 )
theorem QCP : (List.length (α := QaF.T) QeZ) = 16 := by kernel_rfl
theorem Qn5 : llen (α := QaF.T) QeZ = 16 := by kernel_rfl
theorem QEX {c : Int} (h : 1 ≤ c ∧ c ≤ 16) : cIx (α := QaF.T) QeZ (c - 1) = true := by
 have := QCP
 simp only [cIx, decide_eq_true_eq]
 omega
def QaO (c : Int) : Suite × Int := if c < 1 ∨ 16 < c then (QD0, 8) else (lgt QaF QeZ (c - 1).toNat, 0)
noncomputable def QEj : TC := (.sq (.reg (rT Tryz.f85 0)) (.sq (.reg (rT Tryz.f85 1)) (.sq (.sq (.reg (rT Tryz.f85 2)) (.cd (.t 13) (.sq (.reg (rT Tryz.f85 3)) .rt) .sk)) (.sq (.reg (rT Tryz.f85 4)) .rt))))
def QRw : List (RV × Option Ty) := [((.c 2 true 12), some QaF), ((.t 3), some tI)]
def g_f85 : G := ⟨TYs, [], 20, EL [(133, QFX)], keeps, (fun _ _ => none), IL [], RL []⟩
def r_f85 (p0 : Int) : Option (V × List VO) := br (ilt p0 1) (some (.tu [(.t QaF (0, ((ByteArray.mk #[]), ((0, (0, ())), ((0, (0, ())), ((0, (0, ())), ((0, (0, ())), (0, (0, ()))))))))), (.t tI 8)], [])) (br (igt p0 (llen QeZ)) (some (.tu [(.t QaF (0, ((ByteArray.mk #[]), ((0, (0, ())), ((0, (0, ())), ((0, (0, ())), ((0, (0, ())), (0, (0, ()))))))))), (.t tI 8)], [])) (br (cIx QeZ (isub .i64 p0 1)) (some (.tu [(.t QaF (lgt QaF QeZ (Int.toNat (isub .i64 p0 1)))), (.t tI 0)], [])) none))
theorem e_f85 (p0 : Int) : runF g_f85 QEj QRw false [.t tI p0] [] = r_f85 p0 := by kernel_rfl
theorem QBY : Qai Tryz.prog 85 := .inr ⟨by decide, _, Tryz.func85, by kernel_rfl, by kernel_rfl⟩
theorem gk_f85 : GOk Tryz.prog g_f85 := Qal _ (gA (gC QXT QT7 gN))
theorem lk_f85 : QEj.lok g_f85 := by repeat (first | exact trivial | refine ⟨?_, ?_⟩)
theorem s_f85 (c : Int) : r_f85 c = some (.tu [.t QaF (QaO c).1, .t tI (QaO c).2], []) := by
 simp only [r_f85]
 unfold QaO
 refine QaE (fun h1 => ?_) (fun h1 => QaE (fun h2 => ?_) (fun h2 => ?_))
 ·simp only [ilt, decide_eq_true_eq] at h1
  rw [if_pos (.inl h1)]
  rfl
 ·have h2 := of_decide_eq_true h2
  have := Qn5
  rw [if_pos (.inr (by omega))]
  rfl
 ·simp only [ilt, decide_eq_false_iff_not] at h1
  have h2 := of_decide_eq_false h2
  have := Qn5
  rw [if_neg (by omega), Qco (by omega), QEX (by omega), Qad]
def Quy : Ent := spec (.pr tI .nil) (fun x => true) (fun x => (.tu [(.t QaF ((QaO x.1).1)), (.t tI ((QaO x.1).2))]))
theorem QAB : Meets Tryz.prog 85 (strip Quy) := Qag (R := runF g_f85 QEj QRw false) (mG Tryz.func85 (by kernel_rfl) Tryz.ntmps85 (by kernel_rfl) gk_f85 lk_f85) fun x _ => (e_f85 x.1).trans (s_f85 x.1)
theorem QV1 (a b : Keep) : (and (ieq a.1 b.1) (and (ieq a.2.1 b.2.1) true)) = (a == b) := by
 obtain ⟨a1, a2, _⟩ := a
 obtain ⟨b1, b2, _⟩ := b
 show _ = ((a1 == b1) && ((a2 == b2) && true))
 rfl
end
end Go.Proofs.YtckcgijklnloiaaGreat.K
namespace Go.Proofs.YtckcgijklnloiaaGreat.K
open Go.RowKit
noncomputable section
theorem QtV (a b : Int) : ige a b = !ilt a b := by
 simp only [ige, ilt]
 rw [Bool.eq_iff_iff]
 simp
theorem Qzl (a b : Int) : ile a b = !igt a b := by
 simp only [ile, igt]
 rw [Bool.eq_iff_iff]
 simp
theorem Qzk (a b : Int) : ine a b = !ieq a b := rfl
theorem brB {q r : Bool} {X : Option (V × List VO)} (h : X = some (.t .bool r, [])) : br q (some (.t .bool false, [])) X = some (.t .bool (!q && r), []) := by
 subst h
 cases q <;> rfl
theorem brA {q r : Bool} {X : Option (V × List VO)} (h : X = some (.t .bool r, [])) : br q X (some (.t .bool false, [])) = some (.t .bool (q && r), []) := by
 subst h
 cases q <;> rfl
theorem br9 {q v : Bool} {n : Int} {X : Option (V × List VO)} (h0 : q = true → v = false) (hX : q = false → X = some (.t tI (bif v then 0 else n), [])) : br q (some (.t tI n, [])) X = some (.t tI (bif v then 0 else n), []) := by
 cases q with
 | true => rw [Qad, h0 rfl]; rfl
 | false => rw [Qaf, hX rfl]
open Classical in
def samB {α : Type} (a b : α) : Bool := decide (a = b)
theorem Qpq {α : Type} (a : α) : samB a a = true := by
 unfold samB
 simp
theorem Qyv {α : Type} {a b : α} (h : samB a b = true) : a = b := by
 unfold samB at h
 simpa using h
def keyI (n : Int) : Bool := !ilt n 0 && !igt n 2147483648
noncomputable def QxM : TC := (.sq (.reg (rT Tryz.f121 0)) (.sq (.reg (rT Tryz.f121 1)) .rt))
def QHu : List (RV × Option Ty) := [((.t 2), some .bool)]
def QBH : G := ⟨TYs, [], 9, EL [], keeps, (fun _ _ => none), IL [], RL []⟩
def QID (p0 : Int) : Option (V × List VO) := br (ige p0 0) (some (.t .bool (ile p0 2147483648), [])) (some (.t .bool false, []))
theorem e_f121 (p0 : Int) : runF QBH QxM QHu false [.t tI p0] [] = QID p0 := by kernel_rfl
theorem QzI : Qai Tryz.prog 121 := .inr ⟨by decide, _, Tryz.func121, by kernel_rfl, by kernel_rfl⟩
theorem QW6 : GOk Tryz.prog QBH := Qal _ (fun p hp => by cases hp)
theorem QVu : QxM.lok QBH := by repeat (first | exact trivial | refine ⟨?_, ?_⟩)
theorem s_f121 (n : Int) : QID n = some (.t .bool (keyI n), []) := by
 simp only [QID, QtV, Qzl]
 exact brA rfl
def Qsk : Ent := spec (.pr tI .nil) (fun x => true) (fun x => (.t .bool (keyI x.1)))
theorem QyS : Meets Tryz.prog 121 (strip Qsk) := Qag (R := runF QBH QxM QHu false) (mG Tryz.func121 (by kernel_rfl) Tryz.ntmps121 (by kernel_rfl) QW6 QVu) fun x _ => (e_f121 x.1).trans (s_f121 x.1)
def sumI (n : Int) : Bool := !ilt n 0 && !ige n 4294967296
noncomputable def Qxk : TC := (.sq (.reg (rT Tryz.f165 0)) (.sq (.reg (rT Tryz.f165 1)) .rt))
def QG2 : List (RV × Option Ty) := [((.t 2), some .bool)]
def QBo : G := ⟨TYs, [], 9, EL [], keeps, (fun _ _ => none), IL [], RL []⟩
def QIl (p0 : Int) : Option (V × List VO) := br (ige p0 0) (some (.t .bool (ilt p0 4294967296), [])) (some (.t .bool false, []))
theorem e_f165 (p0 : Int) : runF QBo Qxk QG2 false [.t tI p0] [] = QIl p0 := by kernel_rfl
theorem QXE : Qai Tryz.prog 165 := .inr ⟨by decide, _, Tryz.func165, by kernel_rfl, by kernel_rfl⟩
theorem QWE : GOk Tryz.prog QBo := Qal _ (fun p hp => by cases hp)
theorem QU2 : Qxk.lok QBo := by repeat (first | exact trivial | refine ⟨?_, ?_⟩)
theorem s_f165 (n : Int) : QIl n = some (.t .bool (sumI n), []) := by
 simp only [QIl, sumI, QtV, Bool.not_not]
 exact brA rfl
def QFH : Ent := spec (.pr tI .nil) (fun x => true) (fun x => (.t .bool (sumI x.1)))
theorem QTS : Meets Tryz.prog 165 (strip QFH) := Qag (R := runF QBo Qxk QG2 false) (mG Tryz.func165 (by kernel_rfl) Tryz.ntmps165 (by kernel_rfl) QWE QU2) fun x _ => (e_f165 x.1).trans (s_f165 x.1)
def Qc4 (l : List ByteArray) (k : Nat) : Bool := (List.range' k (l.length - k)).all fun j => Qa6 (l.getD j ByteArray.empty) && (decide (j = 0) || slt (l.getD (j - 1) ByteArray.empty) (l.getD j ByteArray.empty))
theorem QrD (l : List ByteArray) : Qc4 l l.length = true := by
 unfold Qc4
 rw [Nat.sub_self]
 rfl
theorem QpN {l : List ByteArray} {k : Nat} (hk : k < l.length) : Qc4 l k = ((Qa6 l[k] && (decide (k = 0) || slt (l.getD (k - 1) ByteArray.empty) l[k])) && Qc4 l (k + 1)) := by
 have : l.length - k = (l.length - (k + 1)) + 1 := by omega
 unfold Qc4
 rw [this, List.range'_succ, List.all_cons]
 simp only [List.getD_eq_getElem?_getD, List.getElem?_eq_getElem hk, Option.getD_some]
def QhZ (l : List ByteArray) : Bool := Qc4 l 0 && !igt (llen l) 8
def Qb6 (l : List ByteArray) : Bool := decide (l.length ≤ 100000) && l.all nameG
def Qg1 : Fg := ⟨[(0, some (.sl .str)), (5, some (.sl .str)), (6, some tI), (7, some tI)], []⟩
noncomputable def QiO : TC := (.sq (.reg (rT Tryz.f163 2)) (.sq (.cd (.t 8) .sk (.fg ⟨[(0, some (.sl .str))], []⟩ (.ex 0))) (.sq (.bk 1 (.sq (.reg (rT Tryz.f163 3)) (.sq (.reg (rT Tryz.f163 4)) (.cd (.t 27) (.sq (.reg (rT Tryz.f163 5)) (.fg ⟨[(2, some .bool)], []⟩ .rt)) .sk)))) (.reg (rT Tryz.f163 6)))))
noncomputable def Qxm : TC := (.sq (.reg (rT Tryz.f163 0)) (.sq (.sq (.reg (rT Tryz.f163 1)) (.bk 0 (.lp 0 Qg1 QiO))) (.sq (.reg (rT Tryz.f163 7)) .rt)))
def QG4 : List (RV × Option Ty) := [((.t 2), some .bool)]
abbrev Qo5 : Sh := ⟨[(0, .ty (.sl .str)), (5, .ty (.sl .str)), (6, .ty tI), (7, .ty tI)], []⟩
def Qi5 (x0 x5 : List ByteArray) (x6 x7 : Int) : VS := Qo5.st (x0, x5, x6, x7, ()) ()
abbrev QsL : Sh := ⟨[(2, .ty .bool)], []⟩
def QbK (x2 : Bool) : VS := QsL.st (x2, ()) ()
abbrev Qu4 : Sh := ⟨[(0, .ty (.sl .str))], []⟩
def Qd2 (x0 : List ByteArray) : VS := Qu4.st (x0, ()) ()
def QQC : VS → Option (Bool × List (Bool × Exit × VS)) := mkL Qo5 (fun x y => (rngOk x.2.1 x.2.2.1 x.2.2.2.1 && samB x.1 x.2.1 && Qb6 x.2.1)) (fun x y => [((!Qc4 x.2.1 x.2.2.2.1.toNat), .ret, QbK (false)), (true, .exit 0, Qd2 (x.1))])
def QlS : G := ⟨TYs, [], 32, EL [(124, Qsj)], keeps, (Ls [QQC]), IL [], RL []⟩
def QCt (x0 x5 : List ByteArray) (x6 x7 : Int) : Option (Exit × VS) :=
 let a1 := lgt .str x5 (Int.toNat x7)
 br (ilt x7 x6) (br (cIx x5 x7) (br (nameG a1) (br (!(Qa6 a1)) (some (.ret, QbK false)) (br (igt x7 0) (br (cIx x0 (isub .i64 x7 1)) (br (!slt (lgt .str x0 (Int.toNat (isub .i64 x7 1))) a1) (some (.ret, QbK false)) (some (.normal, Qi5 x0 x5 x6 (iadd .i64 x7 1)))) none) (some (.normal, Qi5 x0 x5 x6 (iadd .i64 x7 1))))) none) none) (some (.exit 0, Qd2 x0))
noncomputable def QgE (x0 x5 : List ByteArray) (x6 x7 : Int) : Option (Exit × VS) := loopF (Qaj QlS Qg1 QiO) (Qi5 x0 x5 x6 x7)
noncomputable def Qm4 (x0 x5 : List ByteArray) (x6 x7 : Int) : Option (Exit × VS) :=
 let a1 := lgt .str x5 (Int.toNat x7)
 br (ilt x7 x6) (br (cIx x5 x7) (br (nameG a1) (br (!(Qa6 a1)) (some (.ret, QbK false)) (br (igt x7 0) (br (cIx x0 (isub .i64 x7 1)) (br (!slt (lgt .str x0 (Int.toNat (isub .i64 x7 1))) a1) (some (.ret, QbK false)) (QgE x0 x5 x6 (iadd .i64 x7 1))) none) (QgE x0 x5 x6 (iadd .i64 x7 1)))) none) none) (some (.exit 0, Qd2 x0))
def Qj0 (x0 x5 : List ByteArray) (x6 x7 : Int) : Option (Exit × VS) := br (!Qc4 x5 x7.toNat) (some (.ret, QbK (false))) <| some (.exit 0, Qd2 (x0))
theorem QMg (x0 x5 : List ByteArray) (x6 x7 : Int) : Qaj QlS Qg1 QiO (Qi5 x0 x5 x6 x7) = QCt x0 x5 x6 x7 := by kernel_rfl
theorem Qv0 (x0 x5 : List ByteArray) (x6 x7 : Int) : QgE x0 x5 x6 x7 = Qm4 x0 x5 x6 x7 := (Qao _ _).trans (by
 rw [QMg]
 simp only [QCt, Qm4, QaA, nxt_n, nxt_r, nxt_e, nxt_0]
 rfl)
def QIn (p0 : List ByteArray) : Option (V × List VO) := br (rngOk p0 (llen p0) (0 : Int) && samB p0 p0 && Qb6 p0) (br (!Qc4 p0 (0 : Int).toNat) (some (.t .bool (false), [])) (some (.t .bool (ile (llen (p0)) 8), []))) none
theorem e_f163 (p0 : List ByteArray) : runF QlS Qxm QG4 false [.t (.sl .str) p0] [] = QIn p0 := by kernel_rfl
theorem QXG : Qai Tryz.prog 163 := .inr ⟨by decide, _, Tryz.func163, by kernel_rfl, by kernel_rfl⟩
theorem QWG : GOk Tryz.prog QlS := Qal _ (gA (gC QzH QyR gN))
theorem QAZ {l : List ByteArray} {k : Nat} (h : 0 < k) (hk : k < l.length) : lgt .str l (Int.toNat (isub .i64 (k : Int) 1)) = l.getD (k - 1) ByteArray.empty ∧ cIx l (isub .i64 (k : Int) 1) = decide (k - 1 < l.length) ∨ 4611686018427387904 ≤ k := by
 rcases Nat.lt_or_ge k 4611686018427387904 with hb | hb
 ·left
  have e : isub .i64 (k : Int) 1 = ((k - 1 : Nat) : Int) := by rw [Qco (by omega)]; omega
  rw [e, Int.toNat_natCast, Qax]
  exact ⟨rfl, rfl⟩
 ·exact .inr hb
theorem QOy (x0 x5 : List ByteArray) (x6 x7 : Int) (h : (rngOk x5 x6 x7 && samB x0 x5 && Qb6 x5) = true) : QgE x0 x5 x6 x7 = Qj0 x0 x5 x6 x7 := by
 simp only [Bool.and_eq_true] at h
 obtain ⟨⟨h0, hs⟩, hn⟩ := h
 have hs := Qyv hs
 subst hs
 obtain ⟨rfl, h3, k, rfl, hk⟩ := rng_k h0
 clear h0
 simp only [Qb6, Bool.and_eq_true, List.all_eq_true] at hn
 refine Qau x0 (fun k => QgE x0 x0 (x0.length : Int) (k : Int) = Qj0 x0 x0 (x0.length : Int) (k : Int)) ?_ ?_ k hk
 ·rw [Qv0]
  simp only [Qm4, Qj0, Qat, Nat.lt_irrefl, decide_false, Qaf, Int.toNat_natCast, QrD, Bool.not_true]
 ·intro k hk ih
  rw [Qv0]
  have hx := hn.2 x0[k] (List.getElem_mem hk)
  simp only [Qm4, Qat, Qax, hk, decide_true, Qad, Int.toNat_natCast, add1 (show k < 4611686018427387904 by omega), Qaz (y := .str) hk, hx, ih]
  simp only [Qj0, Int.toNat_natCast, QpN hk]
  cases hg : Qa6 x0[k] with
  | false => rfl
  | true =>
   simp only [Bool.not_true, Qaf, Bool.true_and]
   by_cases h0 : k = 0
   ·subst h0
    simp only [show igt ((0 : Nat) : Int) 0 = false from rfl, Qaf, decide_true, Bool.true_or, Bool.true_and]
   ·rcases QAZ (l := x0) (k := k) (by omega) hk with ⟨e1, e2⟩ | hb
    ·rw [show igt (k : Int) 0 = true from decide_eq_true (by omega), Qad, e2, decide_eq_true (show k - 1 < x0.length by omega), Qad, e1, decide_eq_false h0, Bool.false_or]
     cases slt (x0.getD (k - 1) ByteArray.empty) x0[k] <;> rfl
    ·omega
theorem QJP : ∀ S l p, QlS.L 0 (fgt Qg1 S) = some (true, l) → pickA l = some p → loopF (Qaj QlS Qg1 QiO) S = some p :=
 QaB (s := Qo5) ⟨by decide, by decide⟩ (by kernel_rfl) fun x y hok p hp => by
 simp only [Qas, Qan] at hp
 exact (QOy x.1 x.2.1 x.2.2.1 x.2.2.2.1 (by simpa using hok)).trans hp
theorem QU4 : Qxm.lok QlS := by
 repeat (first | exact trivial | exact QJP | refine ⟨?_, ?_⟩)
theorem s_f163 (l : List ByteArray) (h : Qb6 l = true) : QIn l = some (.t .bool (QhZ l), []) := by
 have hl : l.length ≤ 100000 := by simp only [Qb6, Bool.and_eq_true, decide_eq_true_eq] at h; exact h.1
 simp only [QIn, rng_0 hl, Qpq, h, Bool.and_self, Qad, Int.toNat_zero, Qzl, QhZ]
 cases Qc4 l 0 <;> rfl
def QFJ : Ent := spec (.pr (.sl .str) .nil) (fun x => (Qb6 x.1)) (fun x => (.t .bool (QhZ x.1)))
theorem QTU : Meets Tryz.prog 163 (strip QFJ) := Qag (R := runF QlS Qxm QG4 false) (mG Tryz.func163 (by kernel_rfl) Tryz.ntmps163 (by kernel_rfl) QWG QU4) fun x hok => (e_f163 x.1).trans (s_f163 x.1 hok)
def kindU (u : Keep) (k : Int) : Bool := QbW u && ieq (kindF u.1) k
noncomputable def Qxl : TC := (.sq (.reg (rT Tryz.f164 0)) (.sq (.reg (rT Tryz.f164 1)) .rt))
def QG3 : List (RV × Option Ty) := [((.t 4), some .bool)]
def QBp : G := ⟨TYs, [], 14, EL [(125, Qsi), (155, Qsh)], keeps, (fun _ _ => none), IL [], RL []⟩
def QIm (p0 : Keep) (p1 : Int) : Option (V × List VO) := br (QbW p0) (some (.t .bool (ieq (kindF p0.1) p1), [])) (some (.t .bool false, []))
theorem e_f164 (p0 : Keep) (p1 : Int) : runF QBp Qxl QG3 false [.t Qah p0, .t tI p1] [] = QIm p0 p1 := by kernel_rfl
theorem QXF : Qai Tryz.prog 164 := .inr ⟨by decide, _, Tryz.func164, by kernel_rfl, by kernel_rfl⟩
theorem QWF : GOk Tryz.prog QBp := Qal _ (gA (gC QzG QyQ (gC QzE QyO gN)))
theorem QU3 : Qxl.lok QBp := by repeat (first | exact trivial | refine ⟨?_, ?_⟩)
theorem s_f164 (u : Keep) (k : Int) : QIm u k = some (.t .bool (kindU u k), []) := by
 simp only [QIm]
 exact brA rfl
def QFI : Ent := spec (.pr Qah (.pr tI .nil)) (fun x => true) (fun x => (.t .bool (kindU x.1 x.2.1)))
theorem QTT : Meets Tryz.prog 164 (strip QFI) := Qag (R := runF QBp Qxl QG3 false) (mG Tryz.func164 (by kernel_rfl) Tryz.ntmps164 (by kernel_rfl) QWF QU3) fun x _ => (e_f164 x.1 x.2.1).trans (s_f164 x.1 x.2.1)
def signU (u : Keep) : Bool := kindU u 2
noncomputable def Qxv : TC := (.sq (.reg (rT Tryz.f145 0)) (.sq (.reg (rT Tryz.f145 1)) .rt))
def QHd : List (RV × Option Ty) := [((.t 2), some .bool)]
def QBw : G := ⟨TYs, [], 11, EL [(70, QE4), (147, Qx1)], keeps, (fun _ _ => none), IL [], RL []⟩
def QIs (p0 : Keep) : Option (V × List VO) := br (QbW p0) (some (.t .bool (ieq (kindF p0.1) 2), [])) (some (.t .bool false, []))
theorem e_f145 (p0 : Keep) : runF QBw Qxv QHd false [.t Qah p0] [] = QIs p0 := by kernel_rfl
theorem QXN : Qai Tryz.prog 145 := .inr ⟨by decide, _, Tryz.func145, by kernel_rfl, by kernel_rfl⟩
theorem QWP : GOk Tryz.prog QBw := Qal _ (gA (gC QSH QSr (gC QLe QJl gN)))
theorem QVd : Qxv.lok QBw := by repeat (first | exact trivial | refine ⟨?_, ?_⟩)
theorem s_f145 (u : Keep) : QIs u = some (.t .bool (signU u), []) := by
 simp only [QIs]
 exact brA rfl
def QFQ : Ent := spec (.pr Qah .nil) (fun x => true) (fun x => (.t .bool (signU x.1)))
theorem QT1 : Meets Tryz.prog 145 (strip QFQ) := Qag (R := runF QBw Qxv QHd false) (mG Tryz.func145 (by kernel_rfl) Tryz.ntmps145 (by kernel_rfl) QWP QVd) fun x _ => (e_f145 x.1).trans (s_f145 x.1)
abbrev QaC (c : Qaa) : List ByteArray := c.2.2.2.2.2.2.2.2.2.2.1
abbrev cSeal (c : Qaa) : Keep := c.2.2.2.2.2.2.2.2.2.2.2.1
def QaG (c : Qaa) : Bool := nameG c.2.1 && (nameG c.2.2.1 && Qb6 (QaC c))
def QaD (c : Qaa) : Bool :=
 !ilt c.1 0 && (!igt c.1 1099511627776 && (Qa6 c.2.1 && (Qa6 c.2.2.1 && (QhZ (QaC c) && (kindU c.2.2.2.1 2 && (keyI c.2.2.2.2.1 && (kindU c.2.2.2.2.2.1 1 && (keyI (cSeal c).1 && (sumI (cSeal c).2.1 &&
 (!ilt c.2.2.2.2.2.2.1 0 && (!igt c.2.2.2.2.2.2.1 c.2.2.2.2.2.2.2.1 && (!igt c.2.2.2.2.2.2.2.1 40000 && (!ilt c.2.2.2.2.2.2.2.2.2.1 0 && (!igt c.2.2.2.2.2.2.2.2.2.1 8 && (c.2.2.2.2.2.2.2.2.1 || ieq c.2.2.2.2.2.2.2.2.2.1 0)))))))))))))))
noncomputable def QxB : TC := (.sq (.reg (rT Tryz.f138 0)) (.sq (.sq (.reg (rT Tryz.f138 1)) (.cd (.t 28) (.sq (.reg (rT Tryz.f138 2)) .rt) .sk)) (.sq (.sq (.reg (rT Tryz.f138 3)) (.cd (.t 58) (.sq (.reg (rT Tryz.f138 4)) .rt) .sk)) (.sq (.sq (.reg (rT Tryz.f138 5)) (.cd (.t 73) (.sq (.reg (rT Tryz.f138 6)) .rt) .sk)) (.sq (.reg (rT Tryz.f138 7)) .rt)))))
def QHj : List (RV × Option Ty) := [((.t 2), some .bool)]
def QBA : G := ⟨TYs, [], 91, EL [(121, Qsk), (124, Qsj), (163, QFJ), (164, QFI), (165, QFH)], keeps, (fun _ _ => none), IL [], RL []⟩
def QIy (p0 : Qaa) : Option (V × List VO) := br (ilt p0.1 0) (some (.t .bool false, [])) (br (igt p0.1 1099511627776) (some (.t .bool false, [])) (br (nameG p0.2.1) (br (!(Qa6 p0.2.1)) (some (.t .bool false, [])) (br (nameG p0.2.2.1) (br (!(Qa6 p0.2.2.1)) (some (.t .bool false, [])) (br (Qb6 p0.2.2.2.2.2.2.2.2.2.2.1) (br (!(QhZ p0.2.2.2.2.2.2.2.2.2.2.1)) (some (.t .bool false, [])) (br (!(kindU p0.2.2.2.1 2)) (some (.t .bool false, [])) (br (!(keyI p0.2.2.2.2.1)) (some (.t .bool false, [])) (br (!(kindU p0.2.2.2.2.2.1 1)) (some (.t .bool false, [])) (br (!(keyI p0.2.2.2.2.2.2.2.2.2.2.2.1.1)) (some (.t .bool false, [])) (br (!(sumI p0.2.2.2.2.2.2.2.2.2.2.2.1.2.1)) (some (.t .bool false, [])) (br (ilt p0.2.2.2.2.2.2.1 0) (some (.t .bool false, [])) (br (igt p0.2.2.2.2.2.2.1 p0.2.2.2.2.2.2.2.1) (some (.t .bool false, [])) (br (igt p0.2.2.2.2.2.2.2.1 40000) (some (.t .bool false, [])) (br (ige p0.2.2.2.2.2.2.2.2.2.1 0) (br (ile p0.2.2.2.2.2.2.2.2.2.1 8) (br (p0.2.2.2.2.2.2.2.2.1) (some (.t .bool true, [])) (some (.t .bool (ieq p0.2.2.2.2.2.2.2.2.2.1 0), []))) (some (.t .bool false, []))) (some (.t .bool false, [])))))))))))) none)) none)) none))
theorem e_f138 (p0 : Qaa) : runF QBA QxB QHj false [.t Qac p0] [] = QIy p0 := by kernel_rfl
theorem QLg : Qai Tryz.prog 138 := .inr ⟨by decide, _, Tryz.func138, by kernel_rfl, by kernel_rfl⟩
theorem QWV : GOk Tryz.prog QBA := Qal _ (gA (gC QzI QyS (gC QzH QyR (gC QXG QTU (gC QXF QTT (gC QXE QTS gN))))))
theorem QVj : QxB.lok QBA := by repeat (first | exact trivial | refine ⟨?_, ?_⟩)
theorem s_f138 (c : Qaa) (h : QaG c = true) : QIy c = some (.t .bool (QaD c), []) := by
 simp only [QaG, Bool.and_eq_true] at h
 obtain ⟨h1, h2, h3⟩ := h
 simp only [QIy, h1, h2, h3, Qad, QtV, Qzl]
 refine (brB <| brB <| brB <| brB <| brB <| brB <| brB <| brB <| brB <| brB <| brB <| brB <| brB <| brA <| brA (r := c.2.2.2.2.2.2.2.2.1 || ieq c.2.2.2.2.2.2.2.2.2.1 0) ?_).trans ?_
 ·cases c.2.2.2.2.2.2.2.2.1 <;> rfl
 ·simp only [Bool.not_not, QaD]
def Qx3 : Ent := spec (.pr Qac .nil) (fun x => (QaG x.1)) (fun x => (.t .bool (QaD x.1)))
theorem QJn : Meets Tryz.prog 138 (strip Qx3) := Qag (R := runF QBA QxB QHj false) (mG Tryz.func138 (by kernel_rfl) Tryz.ntmps138 (by kernel_rfl) QWV QVj) fun x hok => (e_f138 x.1).trans (s_f138 x.1 hok)
def QeV (c : Qaa) : Int := bif QaD c then 0 else 9
theorem Qhf (c : Qaa) : ine (QeV c) 0 = !QaD c := by
 unfold QeV
 cases QaD c <;> rfl
noncomputable def QEd : TC := (.sq (.reg (rT Tryz.f96 0)) (.sq (.sq (.reg (rT Tryz.f96 1)) (.cd (.t 5) (.sq (.reg (rT Tryz.f96 2)) .rt) .sk)) (.sq (.reg (rT Tryz.f96 3)) .rt)))
def QRq : List (RV × Option Ty) := [((.t 2), some tI)]
def g_f96 : G := ⟨TYs, [], 6, EL [(138, Qx3)], keeps, (fun _ _ => none), IL [], RL []⟩
def r_f96 (p0 : Qaa) : Option (V × List VO) := br (QaG p0) (br (!(QaD p0)) (some (.t tI 9, [])) (some (.t tI 0, []))) none
theorem e_f96 (p0 : Qaa) : runF g_f96 QEd QRq false [.t Qac p0] [] = r_f96 p0 := by kernel_rfl
theorem QSF : Qai Tryz.prog 96 := .inr ⟨by decide, _, Tryz.func96, by kernel_rfl, by kernel_rfl⟩
theorem gk_f96 : GOk Tryz.prog g_f96 := Qal _ (gA (gC QLg QJn gN))
theorem lk_f96 : QEd.lok g_f96 := by repeat (first | exact trivial | refine ⟨?_, ?_⟩)
theorem s_f96 (c : Qaa) (h : QaG c = true) : r_f96 c = some (.t tI (QeV c), []) := by
 simp only [r_f96, h, Qad, QeV]
 cases QaD c <;> rfl
def QE2 : Ent := spec (.pr Qac .nil) (fun x => (QaG x.1)) (fun x => (.t tI (QeV x.1)))
theorem QSp : Meets Tryz.prog 96 (strip QE2) := Qag (R := runF g_f96 QEd QRq false) (mG Tryz.func96 (by kernel_rfl) Tryz.ntmps96 (by kernel_rfl) gk_f96 lk_f96) fun x hok => (e_f96 x.1).trans (s_f96 x.1 hok)
noncomputable def QLx : List DO := dT Tryz.f130 9
def Qg8 : Fg := ⟨[(1, none), (3, some tI)], [(1, some Qac)]⟩
noncomputable def QiV : TC := (.sq (.sq (.reg (rT Tryz.f130 8)) (.cd (.t 96) .sk (.fg ⟨[(1, none)], [(1, some Qac)]⟩ (.ex 0)))) (.sq (.bk 1 (.sq (.dr QLx [(0, [1]), (1, [1]), (2, []), (3, []), (4, []), (5, []), (6, []), (7, []), (8, []), (9, []), (10, []), (11, [1]), (12, [1]), (13, []), (14, []), (15, []), (16, []), (17, [1]), (18, [1]), (19, []), (20, []), (21, []), (22, []), (23, []), (24, [])] (.of [0, 1, 2, 3, 4, 5, 6, 7, 8, 9, 10, 11, 12, 13, 14, 15, 16, 17, 18, 19, 20, 21, 22, 23, 24])) (.cd (.t 123) (.sq (.reg (rT Tryz.f130 10)) (.fg ⟨[(2, some tI)], []⟩ .rt)) .sk))) (.reg (rT Tryz.f130 11))))
noncomputable def QxF : TC := (.sq (.reg (rT Tryz.f130 0)) (.sq (.sq (.reg (rT Tryz.f130 1)) (.cd (.t 39) (.sq (.reg (rT Tryz.f130 2)) .rt) .sk)) (.sq (.sq (.reg (rT Tryz.f130 3)) (.cd (.t 67) (.sq (.reg (rT Tryz.f130 4)) .rt) .sk)) (.sq (.sq (.reg (rT Tryz.f130 5)) (.cd (.t 91) (.sq (.reg (rT Tryz.f130 6)) .rt) .sk)) (.sq (.sq (.reg (rT Tryz.f130 7)) (.bk 0 (.lp 0 Qg8 QiV))) (.sq (.sq (.reg (rT Tryz.f130 12)) (.cd (.t 145) (.sq (.reg (rT Tryz.f130 13)) .rt) .sk)) (.sq (.reg (rT Tryz.f130 14)) .rt)))))))
def QHn : List (RV × Option Ty) := [((.t 2), some tI)]
abbrev Qpf : Sh := ⟨[(1, .ptr 1 0), (3, .ty tI)], [(1, .box Qac)]⟩
def Qi6 (x3 : Int) (y1 : Qaa) : VS := Qpf.st ((), x3, ()) (y1, ())
abbrev QsQ : Sh := ⟨[(2, .ty tI)], []⟩
def QbM (x2 : Int) : VS := QsQ.st (x2, ()) ()
abbrev Qvb : Sh := ⟨[(1, .ptr 1 0)], [(1, .box Qac)]⟩
def Qd9 (y1 : Qaa) : VS := Qvb.st ((), ()) (y1, ())
def QQJ : VS → Option (Bool × List (Bool × Exit × VS)) := mkL Qpf (fun x y => (decide (0 ≤ x.2.1 ∧ x.2.1 ≤ (QaC y.1).length) && Qb6 (QaC y.1))) (fun x y => [((!Qc4 (QaC y.1) x.2.1.toNat), .ret, QbM (9)), (true, .exit 0, Qd9 (y.1))])
def QlZ : G := ⟨TYs, [], 146, EL [(70, QE4), (145, QFQ), (146, QFP), (147, Qx1)], keeps, (Ls [QQJ]), IL [], RL []⟩
def QCA (x3 : Int) (y1 : Qaa) : Option (Exit × VS) :=
 let a1 := lgt .str y1.2.2.2.2.2.2.2.2.2.2.1 (Int.toNat x3)
 let a2 := cIx y1.2.2.2.2.2.2.2.2.2.2.1 x3
 br (ilt x3 (llen y1.2.2.2.2.2.2.2.2.2.2.1)) (br a2 (br (nameG a1) (br (!(Qa6 a1)) (some (.ret, QbM 9)) (br (igt x3 0) (br (cIx y1.2.2.2.2.2.2.2.2.2.2.1 (isub .i64 x3 1)) (br a2 (br (!slt (lgt .str y1.2.2.2.2.2.2.2.2.2.2.1 (Int.toNat (isub .i64 x3 1))) a1) (some (.ret, QbM 9)) (some (.normal, Qi6 (iadd .i64 x3 1) y1))) none) none) (some (.normal, Qi6 (iadd .i64 x3 1) y1)))) none) none) (some (.exit 0, Qd9 y1))
noncomputable def QgF (x3 : Int) (y1 : Qaa) : Option (Exit × VS) := loopF (Qaj QlZ Qg8 QiV) (Qi6 x3 y1)
noncomputable def Qna (x3 : Int) (y1 : Qaa) : Option (Exit × VS) :=
 let a1 := lgt .str y1.2.2.2.2.2.2.2.2.2.2.1 (Int.toNat x3)
 let a2 := cIx y1.2.2.2.2.2.2.2.2.2.2.1 x3
 br (ilt x3 (llen y1.2.2.2.2.2.2.2.2.2.2.1)) (br a2 (br (nameG a1) (br (!(Qa6 a1)) (some (.ret, QbM 9)) (br (igt x3 0) (br (cIx y1.2.2.2.2.2.2.2.2.2.2.1 (isub .i64 x3 1)) (br a2 (br (!slt (lgt .str y1.2.2.2.2.2.2.2.2.2.2.1 (Int.toNat (isub .i64 x3 1))) a1) (some (.ret, QbM 9)) (QgF (iadd .i64 x3 1) y1)) none) none) (QgF (iadd .i64 x3 1) y1))) none) none) (some (.exit 0, Qd9 y1))
def Qj6 (x3 : Int) (y1 : Qaa) : Option (Exit × VS) := br (!Qc4 (QaC y1) x3.toNat) (some (.ret, QbM (9))) <| some (.exit 0, Qd9 (y1))
theorem QMn (x3 : Int) (y1 : Qaa) : Qaj QlZ Qg8 QiV (Qi6 x3 y1) = QCA x3 y1 := by kernel_rfl
theorem Qv7 (x3 : Int) (y1 : Qaa) : QgF x3 y1 = Qna x3 y1 := (Qao _ _).trans (by
 rw [QMn]
 simp only [QCA, Qna, QaA, nxt_n, nxt_r, nxt_e, nxt_0]
 rfl)
def Qtl (p0 : Qaa) : Option (V × List VO) :=
 let a1 := (((((((((((((p0).2).2).2).2).2).2).2).2).2).2).2).1)
 br (igt (llen p0.2.2.2.2.2.2.2.2.2.2.1) 8) (some (.t tI 9, [])) (br (decide (0 ≤ (0 : Int) ∧ (0 : Int) ≤ (QaC p0).length) && Qb6 (QaC p0)) (br (!Qc4 (QaC p0) (0 : Int).toNat) (some (.t tI (9), [])) (br (ilt (a1.1) 0) (some (.t tI 9, [])) (br (igt (a1.1) 2147483648) (some (.t tI 9, [])) (br (ilt ((a1.2).1) 0) (some (.t tI 9, [])) (br (ige ((a1.2).1) 4294967296) (some (.t tI 9, [])) (some (.t tI 0, []))))))) none)
def QIA (p0 : Qaa) : Option (V × List VO) := br (ilt p0.1 0) (some (.t tI 9, [])) (br (igt p0.1 1099511627776) (some (.t tI 9, [])) (br (nameG p0.2.1) (br (!(Qa6 p0.2.1)) (some (.t tI 9, [])) (br (nameG p0.2.2.1) (br (!(Qa6 p0.2.2.1)) (some (.t tI 9, [])) (br (!(signU p0.2.2.2.1)) (some (.t tI 9, [])) (br (ilt p0.2.2.2.2.1 0) (some (.t tI 9, [])) (br (igt p0.2.2.2.2.1 2147483648) (some (.t tI 9, [])) (br (!(QbW p0.2.2.2.2.2.1)) (some (.t tI 9, [])) (br (ine (kindF p0.2.2.2.2.2.1.1) 1) (some (.t tI 9, [])) (br (ilt p0.2.2.2.2.2.2.1 0) (some (.t tI 9, [])) (br (igt p0.2.2.2.2.2.2.1 p0.2.2.2.2.2.2.2.1) (some (.t tI 9, [])) (br (igt p0.2.2.2.2.2.2.2.1 40000) (some (.t tI 9, [])) (br (ilt p0.2.2.2.2.2.2.2.2.2.1 0) (some (.t tI 9, [])) (br (igt p0.2.2.2.2.2.2.2.2.2.1 8) (some (.t tI 9, [])) (br (!p0.2.2.2.2.2.2.2.2.1) (br (ine p0.2.2.2.2.2.2.2.2.2.1 0) (some (.t tI 9, [])) (Qtl p0)) (Qtl p0))))))))))))) none)) none))
theorem e_f130 (p0 : Qaa) : runF QlZ QxF QHn false [.t Qac p0] [] = QIA p0 := by kernel_rfl
theorem QLh : Qai Tryz.prog 130 := .inr ⟨by decide, _, Tryz.func130, by kernel_rfl, by kernel_rfl⟩
theorem QWZ : GOk Tryz.prog QlZ := Qal _ (gA (gC QSH QSr (gC QXN QT1 (gC QXM QT0 (gC QLe QJl gN)))))
theorem QOF (x3 : Int) (y1 : Qaa) (h : (decide (0 ≤ x3 ∧ x3 ≤ (QaC y1).length) && Qb6 (QaC y1)) = true) : QgF x3 y1 = Qj6 x3 y1 := by
 simp only [Bool.and_eq_true, decide_eq_true_eq] at h
 obtain ⟨⟨h0, h1⟩, hn⟩ := h
 obtain ⟨k, rfl⟩ := Int.eq_ofNat_of_zero_le h0
 simp only [Qb6, Bool.and_eq_true, List.all_eq_true, decide_eq_true_eq] at hn
 refine Qau (QaC y1) (fun k => QgF (k : Int) y1 = Qj6 (k : Int) y1) ?_ ?_ k (by omega)
 ·rw [Qv7]
  simp only [Qna, Qj6, show ilt ((QaC y1).length : Int) (llen (QaC y1)) = false from decide_eq_false (by simp only [llen]; omega), Qaf, Int.toNat_natCast, QrD, Bool.not_true]
 ·intro k hk ih
  rw [Qv7]
  have hx := hn.2 (QaC y1)[k] (List.getElem_mem hk)
  simp only [Qna, show ilt (k : Int) (llen (QaC y1)) = true from decide_eq_true (by simp only [llen]; omega), Qax, hk, decide_true, Qad, Int.toNat_natCast, add1 (show k < 4611686018427387904 by omega), Qaz (y := .str) hk, hx, ih]
  simp only [Qj6, Int.toNat_natCast, QpN hk]
  cases hg : Qa6 (QaC y1)[k] with
  | false => rfl
  | true =>
   simp only [Bool.not_true, Qaf, Bool.true_and]
   by_cases h0 : k = 0
   ·subst h0
    simp only [show igt ((0 : Nat) : Int) 0 = false from rfl, Qaf, decide_true, Bool.true_or, Bool.true_and]
   ·rcases QAZ (l := QaC y1) (k := k) (by omega) hk with ⟨e1, e2⟩ | hb
    ·rw [show igt (k : Int) 0 = true from decide_eq_true (by omega), Qad, e2, decide_eq_true (show k - 1 < (QaC y1).length by omega), Qad, e1, decide_eq_false h0, Bool.false_or]
     cases slt ((QaC y1).getD (k - 1) ByteArray.empty) (QaC y1)[k] <;> rfl
    ·omega
theorem QJW : ∀ S l p, QlZ.L 0 (fgt Qg8 S) = some (true, l) → pickA l = some p → loopF (Qaj QlZ Qg8 QiV) S = some p :=
 QaB (s := Qpf) ⟨by decide, by decide⟩ (by kernel_rfl) fun x y hok p hp => by
 simp only [Qas, Qan] at hp
 exact (QOF x.2.1 y.1 (by simpa using hok)).trans hp
theorem QVn : QxF.lok QlZ := by
 repeat (first | exact trivial | exact QJW | refine ⟨?_, ?_⟩)
theorem s_f130 (c : Qaa) (h : QaG c = true) : QIA c = some (.t tI (QeV c), []) := by
 simp only [QaG, Bool.and_eq_true] at h
 obtain ⟨h1, h2, h3⟩ := h
 have hd : decide ((0 : Int) ≤ 0 ∧ (0 : Int) ≤ (QaC c).length) = true := decide_eq_true (by omega)
 unfold QeV
 simp only [QIA, Qtl, h1, h2, h3, hd, Bool.and_self, Qad, Int.toNat_zero, Qzk]
 refine br9 (fun g => by simp [QaD, g]) fun g1 => br9 (fun g => by simp [QaD, g]) fun g2 => br9 (fun g => by simp only [Bool.not_eq_true'] at g; simp [QaD, g]) fun g3 => br9 (fun g => by simp only [Bool.not_eq_true'] at g; simp [QaD, g]) fun g4 => br9 (fun g => by simp only [Bool.not_eq_true', signU] at g; simp [QaD, g]) fun g5 => br9 (fun g => by simp [QaD, keyI, g]) fun g6 => br9 (fun g => by simp [QaD, keyI, g]) fun g7 => br9 (fun g => by simp only [Bool.not_eq_true'] at g; simp [QaD, kindU, g]) fun g8 => br9 (fun g => by simp only [Bool.not_eq_true'] at g; simp [QaD, kindU, g]) fun g9 => br9 (fun g => by simp [QaD, g]) fun g10 => br9 (fun g => by simp [QaD, g]) fun g11 => br9 (fun g => by simp [QaD, g]) fun g12 => br9 (fun g => by simp [QaD, g]) fun g13 => br9 (fun g => by simp [QaD, g]) fun g14 => ?_
 have tail : ∀ (hp : (c.2.2.2.2.2.2.2.2.1 || ieq c.2.2.2.2.2.2.2.2.2.1 0) = true), br (igt (llen (QaC c)) 8) (some (V.t tI 9, ([] : List VO))) (br (!Qc4 (QaC c) 0) (some (V.t tI 9, [])) (br (ilt (cSeal c).1 0) (some (V.t tI 9, [])) (br (igt (cSeal c).1 2147483648) (some (V.t tI 9, [])) (br (ilt (cSeal c).2.1 0) (some (V.t tI 9, [])) (br (ige (cSeal c).2.1 4294967296) (some (V.t tI 9, [])) (some (V.t tI 0, []))))))) = some (V.t tI (bif QaD c then 0 else 9), ([] : List VO)) := by
  intro hp
  refine br9 (fun g => by simp [QaD, QhZ, g]) fun g15 => br9 (fun g => by simp only [Bool.not_eq_true'] at g; simp [QaD, QhZ, g]) fun g16 => br9 (fun g => by simp [QaD, keyI, g]) fun g17 => br9 (fun g => by simp [QaD, keyI, g]) fun g18 => br9 (fun g => by simp [QaD, sumI, g]) fun g19 => br9 (fun g => by simp [QaD, sumI, g]) fun g20 => ?_
  simp only [Bool.not_eq_false'] at g3 g4 g5 g8 g9 g16
  simp only [signU] at g5
  have : QaD c = true := by
   simp only [QaD, QhZ, kindU, keyI, sumI, g1, g2, g3, g4, g6, g7, g8, g9, g10, g11, g12, g13, g14, g15, g16, g17, g18, g19, g20, hp, Bool.not_false, Bool.and_self, Bool.true_and]
   simpa only [kindU, Bool.and_true] using g5
  rw [this]
  rfl
 cases ha : c.2.2.2.2.2.2.2.2.1 with
 | true =>
  rw [Bool.not_true, Qaf]
  exact tail (by rw [ha]; rfl)
 | false =>
  rw [Bool.not_false, Qad]
  refine br9 (fun g => by simp only [Bool.not_eq_true'] at g; simp [QaD, ha, g]) fun g => ?_
  exact tail (by simp only [Bool.not_eq_false'] at g; rw [g, Bool.or_true])
def Qx4 : Ent := spec (.pr Qac .nil) (fun x => (QaG x.1)) (fun x => (.t tI (QeV x.1)))
theorem QJo : Meets Tryz.prog 130 (strip Qx4) := Qag (R := runF QlZ QxF QHn false) (mG Tryz.func130 (by kernel_rfl) Tryz.ntmps130 (by kernel_rfl) QWZ QVn) fun x hok => (e_f130 x.1).trans (s_f130 x.1 hok)
end
end Go.Proofs.YtckcgijklnloiaaGreat.K
namespace Go.Proofs.YtckcgijklnloiaaGreat.K
open Go.RowKit
noncomputable section
theorem QSo (n : Int) : (intL n).length ≤ 8 := by
 rw [intL, QqT]
 exact QvC n
theorem Qio (n : Nat) (m : Int) : okT (n + 1) (intT m) = true := by
 have := QSo m
 show okV (n + 1) (.mk 2 (intL m) false []) = true
 simp only [okV, List.isEmpty_nil, cond_false, List.all_nil, Bool.and_true, List.length_nil]
 rw [decide_eq_true (by omega)]
 rfl
theorem Qto (n : Nat) {s : ByteArray} (h : s.size ≤ 100000) : okT (n + 1) (txtT s) = true := by
 have := Qdm s
 show okV (n + 1) (.mk 12 (QaI s) false []) = true
 simp only [okV, List.isEmpty_nil, cond_false, List.all_nil, Bool.and_true, List.length_nil]
 rw [decide_eq_true (by omega)]
 rfl
theorem QNy (n : Nat) (b : Bool) : okT (n + 1) (boolT b) = true := by cases b <;> rfl
theorem QyG {n : Nat} {l : List ValT} (hl : l.length ≤ 100000) (h : ∀ x ∈ l, okT n x = true) : okT (n + 1) (lstT l) = true := by
 show okV (n + 1) (.mk 48 [] true (l.map Val.of)) = true
 simp only [okV, List.isEmpty_nil, cond_true, Bool.and_true, List.length_nil, List.length_map, Bool.and_eq_true, List.all_eq_true, List.mem_map]
 refine ⟨⟨⟨rfl, rfl⟩, decide_eq_true ⟨by omega, hl⟩⟩, ?_⟩
 rintro v ⟨x, hx, rfl⟩
 exact h x hx
theorem QqP {n : Nat} {l : List ValT} (hl : l.length ≤ 100000) (h : ∀ x ∈ l, okT n x = true) : copLF (n + 1) l = true := by
 simp only [copLF, Bool.and_eq_true, decide_eq_true_eq, List.all_eq_true]
 exact ⟨hl, h⟩
theorem QkR (x : ValT) : ((x.1, (x.2.1, (x.2.2.1, (List.map Val.of (List.map Val.un x.2.2.2.1), ())))) : ValT) = x := by
 rw [QcN]
theorem Qir (m : Int) : (encT (intT m)).length ≤ 18 := by
 have h1 := QSo m
 have h2 := QhE ((intL m).length + 0)
 rw [QqD]
 simp only [intT, encVs, List.length_cons, List.length_append, List.length_nil]
 omega
theorem Qzy (s : ByteArray) : (encT (txtT s)).length ≤ 10 + s.size := by
 have h1 := Qdm s
 have h2 := QhE ((QaI s).length + 0)
 rw [QqD]
 simp only [txtT, encVs, List.length_cons, List.length_append, List.length_nil]
 omega
theorem QO4 (b : Bool) : (encT (boolT b)).length ≤ 11 := by cases b <;> decide
theorem Qzz (l : List ValT) : (encT (lstT l)).length ≤ 10 + (encL l).length := by
 have h2 := QhE (0 + (encVs (l.map Val.of)).length)
 rw [QqD]
 simp only [lstT, encL, List.length_cons, List.length_append, List.length_nil]
 omega
def useT (u : Keep) : ValT := lstT [intT u.1, intT u.2.1]
def QdE (u : Keep) : Bool := i64Ok u.1 && i64Ok u.2.1
theorem QIT (n : Nat) (u : Keep) : okT (n + 2) (useT u) = true :=
 QyG (by simp) fun x hx => by
  simp only [List.mem_cons, List.not_mem_nil, or_false] at hx
  rcases hx with rfl | rfl <;> exact Qio _ _
theorem QKN (u : Keep) : (encT (useT u)).length ≤ 46 := by
 have h0 := Qzz [intT u.1, intT u.2.1]
 have h1 := Qir u.1
 have h2 := Qir u.2.1
 simp only [Qcq, QhR, List.length_append, List.length_nil] at h0
 unfold useT
 omega
theorem QD6 (u : Keep) : copOk [intT u.1, intT u.2.1] = true :=
 QqP (n := 11) (by simp) fun x hx => by
  simp only [List.mem_cons, List.not_mem_nil, or_false] at hx
  rcases hx with rfl | rfl <;> exact Qio _ _
noncomputable def QLq : List DO := dT Tryz.f225 1
noncomputable def QwS : TC := (.sq (.reg (rT Tryz.f225 0)) (.sq (.dr QLq [(0, [1]), (1, [1]), (2, []), (3, [1]), (4, [1]), (5, []), (6, []), (7, []), (8, [2])] (.of [0, 1, 2, 3, 4, 5, 6, 7, 8])) .rt))
def QGA : List (RV × Option Ty) := [((.c 2 true 4), some Qak)]
def QA8 : G := ⟨TYs, [], 11, EL [(223, Qsg), (224, QxX)], keeps, (fun _ _ => none), IL [], RL []⟩
def QHW (p0 : Keep) : Option (V × List VO) :=
 let a1 := ((intT p0.2.1).1, (((intT p0.2.1).2).1, ((((intT p0.2.1).2).2).1, ((List.map Val.of (List.map Val.un (((((intT p0.2.1).2).2).2).1))), ()))))
 let a2 := ((intT p0.1).1, (((intT p0.1).2).1, ((((intT p0.1).2).2).1, ((List.map Val.of (List.map Val.un (((((intT p0.1).2).2).2).1))), ()))))
 br (i64Ok p0.1) (br (i64Ok p0.2.1) (br (copOk ([a2, a1])) (some (.t Qak (lstT ([a2, a1])), [])) none) none) none
theorem e_f225 (p0 : Keep) : runF QA8 QwS QGA false [.t Qah p0] [] = QHW p0 := by kernel_rfl
theorem QXm : Qai Tryz.prog 225 := .inr ⟨by decide, _, Tryz.func225, by kernel_rfl, by kernel_rfl⟩
theorem QWc : GOk Tryz.prog QA8 := Qal _ (gA (gC QzC QyM (gC QK3 QJg gN)))
theorem QUA : QwS.lok QA8 := by repeat (first | exact trivial | refine ⟨?_, ?_⟩)
theorem s_f225 (u : Keep) (h : QdE u = true) : QHW u = some (.t Qak (useT u), []) := by
 simp only [QdE, Bool.and_eq_true] at h
 simp only [QHW, h.1, h.2, QkR, QD6, Qad]
 rfl
def QFj : Ent := spec (.pr Qah .nil) (fun x => (QdE x.1)) (fun x => (.t Qak (useT x.1)))
theorem QTu : Meets Tryz.prog 225 (strip QFj) := Qag (R := runF QA8 QwS QGA false) (mG Tryz.func225 (by kernel_rfl) Tryz.ntmps225 (by kernel_rfl) QWc QUA) fun x hok => (e_f225 x.1).trans (s_f225 x.1 hok)
noncomputable def QLs : List DO := dT Tryz.f188 1
noncomputable def Qw8 : TC := (.sq (.reg (rT Tryz.f188 0)) (.sq (.dr QLs [(0, [1]), (1, [1]), (2, []), (3, [1]), (4, [1]), (5, []), (6, []), (7, []), (8, [2])] (.of [0, 1, 2, 3, 4, 5, 6, 7, 8])) .rt))
def QGQ : List (RV × Option Ty) := [((.c 2 true 4), some Qak)]
def QBi : G := ⟨TYs, [], 11, EL [(186, QxZ), (187, QxY)], keeps, (fun _ _ => none), IL [], RL []⟩
def QIa (p0 : Keep) : Option (V × List VO) :=
 let a1 := ((intT p0.2.1).1, (((intT p0.2.1).2).1, ((((intT p0.2.1).2).2).1, ((List.map Val.of (List.map Val.un (((((intT p0.2.1).2).2).2).1))), ()))))
 let a2 := ((intT p0.1).1, (((intT p0.1).2).1, ((((intT p0.1).2).2).1, ((List.map Val.of (List.map Val.un (((((intT p0.1).2).2).2).1))), ()))))
 br (i64Ok p0.1) (br (i64Ok p0.2.1) (br (copOk ([a2, a1])) (some (.t Qak (lstT ([a2, a1])), [])) none) none) none
theorem e_f188 (p0 : Keep) : runF QBi Qw8 QGQ false [.t Qah p0] [] = QIa p0 := by kernel_rfl
theorem QXx : Qai Tryz.prog 188 := .inr ⟨by decide, _, Tryz.func188, by kernel_rfl, by kernel_rfl⟩
theorem QWs : GOk Tryz.prog QBi := Qal _ (gA (gC QK8 QJi (gC QK7 QJh gN)))
theorem QUQ : Qw8.lok QBi := by repeat (first | exact trivial | refine ⟨?_, ?_⟩)
theorem s_f188 (u : Keep) (h : QdE u = true) : QIa u = some (.t Qak (useT u), []) := by
 simp only [QdE, Bool.and_eq_true] at h
 simp only [QIa, h.1, h.2, QkR, QD6, Qad]
 rfl
def QFx : Ent := spec (.pr Qah .nil) (fun x => (QdE x.1)) (fun x => (.t Qak (useT x.1)))
theorem QTI : Meets Tryz.prog 188 (strip QFx) := Qag (R := runF QBi Qw8 QGQ false) (mG Tryz.func188 (by kernel_rfl) Tryz.ntmps188 (by kernel_rfl) QWs QUQ) fun x hok => (e_f188 x.1).trans (s_f188 x.1 hok)
def Qgw (c : Qaa) : List ValT := [intT c.1, txtT c.2.1, txtT c.2.2.1, useT c.2.2.2.1, intT c.2.2.2.2.1, useT c.2.2.2.2.2.1, intT c.2.2.2.2.2.2.1, intT c.2.2.2.2.2.2.2.1, boolT c.2.2.2.2.2.2.2.2.1, intT c.2.2.2.2.2.2.2.2.2.1, lstT ((QaC c).map txtT)]
def bodyT (c : Qaa) : ValT := lstT (Qgw c)
def Qf0 (c : Qaa) : Bool := QaG c && QaD c
theorem QCN {u : Keep} (h : QbW u = true) : 0 ≤ u.2.1 ∧ u.2.1 ≤ 16384 ∧ 1 ≤ u.1 ∧ u.1 ≤ 22 := by
 simp only [QbW, decide_eq_true_eq] at h
 have ham : ∀ (s t : List Int), (∀ x ∈ s, 0 ≤ x ∧ x ≤ 16384) → Qbx u.2.1 s t > 0 → 0 ≤ u.2.1 ∧ u.2.1 ≤ 16384 := by
  intro s t hs hg
  unfold Qbx at hg
  split at hg
  ·rename_i k hk
   have hm : u.2.1 ∈ s := by
    have key : ∀ (s : List Int) (k : Nat), idxN u.2.1 s = some k → u.2.1 ∈ s := by
     intro s
     induction s with
     | nil => intro k hk; cases hk
     | cons a s ih =>
      intro k hk
      unfold idxN at hk
      split at hk
      ·rename_i ha
       have := eq_of_beq ha
       rw [this]; exact List.mem_cons_self
      ·obtain ⟨j, hj, _⟩ := Option.map_eq_some_iff.1 hk
       exact List.mem_cons_of_mem _ (ih j hj)
    exact key s k hk
   exact hs _ hm
  ·omega
 rw [← and_assoc]
 unfold strF at h
 repeat' split at h
 ·refine ⟨?_, by omega⟩
  unfold Qek at h
  split at h <;> omega
 ·refine ⟨?_, by omega⟩
  unfold QrM at h
  split at h
  ·rename_i hc
   simp only [hasF, List.contains_iff_mem, List.mem_cons, List.not_mem_nil, or_false] at hc
   omega
  ·omega
 ·exact ⟨ham _ _ (by simp) h, by omega⟩
 ·exact ⟨ham _ _ (by simp) h, by omega⟩
 ·exact ⟨ham _ _ (by simp) h, by omega⟩
 ·exact ⟨ham _ _ (by simp) h, by omega⟩
 ·exact ⟨ham _ _ (by simp) h, by omega⟩
 ·refine ⟨ham _ _ (by simp) h, ?_⟩
  unfold Qbx at h
  split at h
  ·rename_i k hk
   unfold idxN at hk
   split at hk
   ·injection hk with hk
    subst hk
    simp only [List.getD_cons_zero, QcY] at h
    repeat' split at h
    all_goals omega
   ·cases hk
  ·omega
theorem Qwh {u : Keep} {k : Int} (h : kindU u k = true) : QdE u = true := by
 simp only [kindU, Bool.and_eq_true] at h
 have := QCN h.1
 simp only [QdE, i64Ok, Bool.and_eq_true, decide_eq_true_eq]
 omega
theorem Qlb {s : ByteArray} (h : Qa6 s = true) : s.size ≤ 32 := by
 simp only [Qa6, Bool.and_eq_true, decide_eq_true_eq] at h
 exact h.2.2
theorem QC6 {l : List ByteArray} : ∀ {k : Nat}, Qc4 l k = true → ∀ j (hj : j < l.length), k ≤ j → Qa6 l[j] = true := by
 intro k h j hj hk
 simp only [Qc4, List.all_eq_true, List.mem_range'_1, Bool.and_eq_true] at h
 have := (h j ⟨hk, by omega⟩).1
 simpa only [List.getD_eq_getElem?_getD, List.getElem?_eq_getElem hj, Option.getD_some] using this
theorem QI0 {l : List ByteArray} (h : QhZ l = true) : l.length ≤ 8 ∧ ∀ s ∈ l, s.size ≤ 32 := by
 simp only [QhZ, Bool.and_eq_true, Bool.not_eq_true', igt, llen, decide_eq_false_iff_not] at h
 refine ⟨by omega, fun s hs => ?_⟩
 obtain ⟨j, hj, rfl⟩ := List.mem_iff_getElem.1 hs
 exact Qlb (QC6 h.1 j hj (Nat.zero_le _))
theorem Qf4 {c : Qaa} (h : QaD c = true) : i64Ok c.1 = true ∧ c.2.1.size ≤ 32 ∧ c.2.2.1.size ≤ 32 ∧ QdE c.2.2.2.1 = true ∧ i64Ok c.2.2.2.2.1 = true ∧ QdE c.2.2.2.2.2.1 = true ∧ i64Ok c.2.2.2.2.2.2.1 = true ∧ i64Ok c.2.2.2.2.2.2.2.1 = true ∧ i64Ok c.2.2.2.2.2.2.2.2.2.1 = true ∧ (QaC c).length ≤ 8 ∧ ∀ s ∈ QaC c, s.size ≤ 32 := by
 simp only [QaD, keyI, Bool.and_eq_true, Bool.not_eq_true', ilt, igt, decide_eq_false_iff_not] at h
 obtain ⟨h1, h2, h3, h4, h5, h6, ⟨h7, h7'⟩, h8, ⟨h9, h9'⟩, h10, h11, h12, h13, h14, h15, h16⟩ := h
 have hn := QI0 h5
 refine ⟨decide_eq_true (by omega), Qlb h3, Qlb h4, Qwh h6, decide_eq_true (by omega), Qwh h8, decide_eq_true (by omega), decide_eq_true (by omega), decide_eq_true (by omega), hn.1, hn.2⟩
theorem QIU (n : Nat) {l : List ByteArray} (h : l.length ≤ 8) (hs : ∀ s ∈ l, s.size ≤ 32) : okT (n + 2) (lstT (l.map txtT)) = true :=
 QyG (by rw [List.length_map]; omega) fun x hx => by
  obtain ⟨s, hm, rfl⟩ := List.mem_map.1 hx
  exact Qto _ (by have := hs s hm; omega)
theorem Qvy (n : Nat) {c : Qaa} (h : QaD c = true) : ∀ x ∈ Qgw c, okT (n + 2) x = true := by
 obtain ⟨h1, h2, h3, h4, h5, h6, h7, h8, h9, h10, h11⟩ := Qf4 h
 intro x hx
 simp only [Qgw, List.mem_cons, List.not_mem_nil, or_false] at hx
 rcases hx with rfl | rfl | rfl | rfl | rfl | rfl | rfl | rfl | rfl | rfl | rfl
 ·exact Qio _ _
 ·exact Qto _ (by omega)
 ·exact Qto _ (by omega)
 ·exact QIT _ _
 ·exact Qio _ _
 ·exact QIT _ _
 ·exact Qio _ _
 ·exact Qio _ _
 ·exact QNy _ _
 ·exact Qio _ _
 ·exact QIU _ h10 h11
theorem QBW : ∀ {l : List ByteArray}, (∀ s ∈ l, s.size ≤ 32) → (encL (l.map txtT)).length ≤ 42 * l.length
 | [], _ => by simp [QhR]
 | s :: l, h => by
  have h1 := h s (by simp)
  have h2 := Qzy s
  have h3 := QBW (l := l) fun u hu => h u (by simp [hu])
  rw [List.map_cons, Qcq, List.length_append, List.length_cons]
  omega
theorem Qt5 {c : Qaa} (h : QaD c = true) : (encT (bodyT c)).length ≤ 1000 := by
 obtain ⟨h1, h2, h3, h4, h5, h6, h7, h8, h9, h10, h11⟩ := Qf4 h
 have e0 := Qzz (Qgw c)
 have e1 := Qir c.1
 have e2 := Qzy c.2.1
 have e3 := Qzy c.2.2.1
 have e4 := QKN c.2.2.2.1
 have e5 := Qir c.2.2.2.2.1
 have e6 := QKN c.2.2.2.2.2.1
 have e7 := Qir c.2.2.2.2.2.2.1
 have e8 := Qir c.2.2.2.2.2.2.2.1
 have e9 := QO4 c.2.2.2.2.2.2.2.2.1
 have e10 := Qir c.2.2.2.2.2.2.2.2.2.1
 have e11 := Qzz ((QaC c).map txtT)
 have e12 := QBW h11
 simp only [Qgw, Qcq, QhR, List.length_append, List.length_nil] at e0
 unfold bodyT
 simp only [Qgw]
 omega
theorem QSE {c : Qaa} (h : QaD c = true) : encOk (bodyT c) = true := by
 have := Qt5 h
 simp only [encOk, Bool.and_eq_true, decide_eq_true_eq]
 refine ⟨QyG (by simp [Qgw]) (Qvy 9 h), by omega⟩
theorem QvD {c : Qaa} (h : QaD c = true) : copOk ((QaC c).map txtT) = true := by
 obtain ⟨h1, h2, h3, h4, h5, h6, h7, h8, h9, h10, h11⟩ := Qf4 h
 exact QqP (n := 11) (by rw [List.length_map]; omega) fun x hx => by
  obtain ⟨s, hm, rfl⟩ := List.mem_map.1 hx
  exact Qto _ (by have := h11 s hm; omega)
theorem Qvw {c : Qaa} (h : QaD c = true) : copOk (Qgw c) = true := QqP (n := 11) (by simp [Qgw]) (Qvy 9 h)
theorem Qdl {s : ByteArray} (h : s.size ≤ 32) : Qbe s = true := decide_eq_true (by omega)
noncomputable def QLr : List DO := dT Tryz.f202 7
def QgU : Fg := ⟨[(1, none), (2, none), (3, none), (7, some (.sl .str)), (8, some tI), (9, some tI)], [(1, some Qac), (2, some Qak), (3, none), (17, none)]⟩
noncomputable def QiH : TC := (.sq (.reg (rT Tryz.f202 3)) (.sq (.cd (.t 10) .sk (.fg ⟨[(1, none), (2, none), (3, none)], [(1, some Qac), (2, some Qak), (3, none), (17, none)]⟩ (.ex 0))) (.sq (.bk 1 (.sq (.reg (rT Tryz.f202 4)) (.reg (rT Tryz.f202 5)))) (.reg (rT Tryz.f202 6)))))
noncomputable def Qw5 : TC := (.sq (.reg (rT Tryz.f202 0)) (.sq (.reg (rT Tryz.f202 1)) (.sq (.sq (.reg (rT Tryz.f202 2)) (.bk 0 (.nw 3 202 (.lp 0 QgU QiH)))) (.sq (.dr QLr [(0, [1]), (1, [1]), (2, []), (3, [1]), (4, [1]), (5, []), (6, [1]), (7, [1]), (8, []), (9, [1]), (10, [1]), (11, []), (12, [1]), (13, [1]), (14, []), (15, [1]), (16, [1]), (17, []), (18, [1]), (19, [1]), (20, []), (21, [1]), (22, [1]), (23, []), (24, [1]), (25, [1]), (26, []), (27, [1]), (28, [1]), (29, []), (30, [3, 17]), (31, [3, 17, 50, 5050, 10050, 15050]), (32, []), (33, []), (34, [2])] (.of [0, 1, 2, 3, 4, 5, 6, 7, 8, 9, 10, 11, 12, 13, 14, 15, 16, 17, 18, 19, 20, 21, 22, 23, 24, 25, 26, 27, 28, 29, 30, 31, 32, 33, 34])) .rt))))
def QGN : List (RV × Option Ty) := [((.c 2 true 4), some Qak)]
abbrev QoX : Sh := ⟨[(1, .ptr 1 0), (2, .ptr 2 0), (3, .ms 3), (7, .ty (.sl .str)), (8, .ty tI), (9, .ty tI)], [(1, .box Qac), (2, .box Qak), (3, .arr 202 Qak), (17, .no)]⟩
def Qoh (x7 : List ByteArray) (x8 x9 : Int) (y1 : Qaa) (y2 : ValT) (y3 : List ValT) : VS := QoX.st ((), (), (), x7, x8, x9, ()) (y1, y2, y3, (), ())
abbrev QuW : Sh := ⟨[(1, .ptr 1 0), (2, .ptr 2 0), (3, .ms 3)], [(1, .box Qac), (2, .box Qak), (3, .arr 202 Qak), (17, .no)]⟩
def QdV (y1 : Qaa) (y2 : ValT) (y3 : List ValT) : VS := QuW.st ((), (), (), ()) (y1, y2, y3, (), ())
def QQv : VS → Option (Bool × List (Bool × Exit × VS)) := mkL QoX (fun x y => (rngOk x.2.2.2.1 x.2.2.2.2.1 x.2.2.2.2.2.1 && decide (y.2.2.1.length ≤ x.2.2.2.2.2.1.toNat ∧ x.2.2.2.1.length ≤ 8) && x.2.2.2.1.all fun s => decide (s.size ≤ 32))) (fun x y => [(true, .exit 0, QdV (y.1) (y.2.1) (y.2.2.1 ++ (x.2.2.2.1.drop x.2.2.2.2.2.1.toNat).map txtT))])
def QlL : G := ⟨TYs, [], 53, EL [(222, QFk), (223, Qsg), (224, QxX), (225, QFj), (226, QFi), (227, QFh)], keeps, (Ls [QQv]), IL [], RL []⟩
def QCm (x7 : List ByteArray) (x8 x9 : Int) (y1 : Qaa) (y2 : ValT) (y3 : List ValT) : Option (Exit × VS) :=
 let a1 := ((txtT (lgt .str x7 (Int.toNat x9))).1, (((txtT (lgt .str x7 (Int.toNat x9))).2).1, ((((txtT (lgt .str x7 (Int.toNat x9))).2).2).1, ((List.map Val.of (List.map Val.un (((((txtT (lgt .str x7 (Int.toNat x9))).2).2).2).1))), ()))))
 br (ilt x9 x8) (br (cIx x7 x9) (br (Qbe (lgt .str x7 (Int.toNat x9))) (br (cApp y3 ([a1]) 64) (some (.normal, Qoh x7 x8 (iadd .i64 x9 1) y1 y2 (y3 ++ ([a1])))) none) none) none) (some (.exit 0, QdV y1 y2 y3))
noncomputable def Qjt (x7 : List ByteArray) (x8 x9 : Int) (y1 : Qaa) (y2 : ValT) (y3 : List ValT) : Option (Exit × VS) := loopF (Qaj QlL QgU QiH) (Qoh x7 x8 x9 y1 y2 y3)
noncomputable def QmZ (x7 : List ByteArray) (x8 x9 : Int) (y1 : Qaa) (y2 : ValT) (y3 : List ValT) : Option (Exit × VS) :=
 let a1 := ((txtT (lgt .str x7 (Int.toNat x9))).1, (((txtT (lgt .str x7 (Int.toNat x9))).2).1, ((((txtT (lgt .str x7 (Int.toNat x9))).2).2).1, ((List.map Val.of (List.map Val.un (((((txtT (lgt .str x7 (Int.toNat x9))).2).2).2).1))), ()))))
 br (ilt x9 x8) (br (cIx x7 x9) (br (Qbe (lgt .str x7 (Int.toNat x9))) (br (cApp y3 ([a1]) 64) (Qjt x7 x8 (iadd .i64 x9 1) y1 y2 (y3 ++ ([a1]))) none) none) none) (some (.exit 0, QdV y1 y2 y3))
def QjW (x7 : List ByteArray) (x8 x9 : Int) (y1 : Qaa) (y2 : ValT) (y3 : List ValT) : Option (Exit × VS) := some (.exit 0, QdV (y1) (y2) (y3 ++ (x7.drop x9.toNat).map txtT))
theorem QL9 (x7 : List ByteArray) (x8 x9 : Int) (y1 : Qaa) (y2 : ValT) (y3 : List ValT) : Qaj QlL QgU QiH (Qoh x7 x8 x9 y1 y2 y3) = QCm x7 x8 x9 y1 y2 y3 := by kernel_rfl
theorem QvU (x7 : List ByteArray) (x8 x9 : Int) (y1 : Qaa) (y2 : ValT) (y3 : List ValT) : Qjt x7 x8 x9 y1 y2 y3 = QmZ x7 x8 x9 y1 y2 y3 := (Qao _ _).trans (by
 rw [QL9]
 simp only [QCm, QmZ, QaA, nxt_n, nxt_r, nxt_e, nxt_0]
 rfl)
def QH8 (p0 : Qaa) : Option (V × List VO) :=
 let a3 := ((((p0).2).2).2)
 let a1 := ((a3.2).2)
 let a2 := (lstT (([] : List ValT) ++ (p0.2.2.2.2.2.2.2.2.2.2.1.drop (0 : Int).toNat).map txtT))
 let a4 := ((intT (((((a1.2).2).2).2).1)).1, (((intT (((((a1.2).2).2).2).1)).2).1, ((((intT (((((a1.2).2).2).2).1)).2).2).1, ((List.map Val.of (List.map Val.un (((((intT (((((a1.2).2).2).2).1)).2).2).2).1))), ()))))
 let a5 := ((boolT ((((a1.2).2).2).1)).1, (((boolT ((((a1.2).2).2).1)).2).1, ((((boolT ((((a1.2).2).2).1)).2).2).1, ((List.map Val.of (List.map Val.un (((((boolT ((((a1.2).2).2).1)).2).2).2).1))), ()))))
 let a6 := ((txtT ((((p0).2).2).1)).1, (((txtT ((((p0).2).2).1)).2).1, ((((txtT ((((p0).2).2).1)).2).2).1, ((List.map Val.of (List.map Val.un (((((txtT ((((p0).2).2).1)).2).2).2).1))), ()))))
 let a7 := ((intT (((a1.2).2).1)).1, (((intT (((a1.2).2).1)).2).1, ((((intT (((a1.2).2).1)).2).2).1, ((List.map Val.of (List.map Val.un (((((intT (((a1.2).2).1)).2).2).2).1))), ()))))
 let a8 := ((txtT (((p0).2).1)).1, (((txtT (((p0).2).1)).2).1, ((((txtT (((p0).2).1)).2).2).1, ((List.map Val.of (List.map Val.un (((((txtT (((p0).2).1)).2).2).2).1))), ()))))
 let a9 := ((intT ((a3.2).1)).1, (((intT ((a3.2).1)).2).1, ((((intT ((a3.2).1)).2).2).1, ((List.map Val.of (List.map Val.un (((((intT ((a3.2).1)).2).2).2).1))), ()))))
 let a10 := ((intT ((a1.2).1)).1, (((intT ((a1.2).1)).2).1, ((((intT ((a1.2).1)).2).2).1, ((List.map Val.of (List.map Val.un (((((intT ((a1.2).1)).2).2).2).1))), ()))))
 let a11 := ((intT ((p0).1)).1, (((intT ((p0).1)).2).1, ((((intT ((p0).1)).2).2).1, ((List.map Val.of (List.map Val.un (((((intT ((p0).1)).2).2).2).1))), ()))))
 let a12 := ((useT (a3.1)).1, (((useT (a3.1)).2).1, ((((useT (a3.1)).2).2).1, ((List.map Val.of (List.map Val.un (((((useT (a3.1)).2).2).2).1))), ()))))
 let a13 := ((useT (a1.1)).1, (((useT (a1.1)).2).1, ((((useT (a1.1)).2).2).1, ((List.map Val.of (List.map Val.un (((((useT (a1.1)).2).2).2).1))), ()))))
 let a14 := ((a2.2).1, (((a2.2).2).1, ((List.map Val.of (List.map Val.un ((((a2.2).2).2).1))), ())))
 br (rngOk p0.2.2.2.2.2.2.2.2.2.2.1 (llen p0.2.2.2.2.2.2.2.2.2.2.1) (0 : Int) && decide (([] : List ValT).length ≤ (0 : Int).toNat ∧ p0.2.2.2.2.2.2.2.2.2.2.1.length ≤ 8) && p0.2.2.2.2.2.2.2.2.2.2.1.all fun s => decide (s.size ≤ 32)) (br (i64Ok ((p0).1)) (br (Qbe (((p0).2).1)) (br (Qbe ((((p0).2).2).1)) (br (QdE (a3.1)) (br (i64Ok ((a3.2).1)) (br (QdE (a1.1)) (br (i64Ok ((a1.2).1)) (br (i64Ok (((a1.2).2).1)) (br (i64Ok (((((a1.2).2).2).2).1)) (br (copOk (([] : List ValT) ++ (p0.2.2.2.2.2.2.2.2.2.2.1.drop (0 : Int).toNat).map txtT)) (br (copOk ([a11, a8, a6, a12, a9, a13, a10, a7, a5, a4, (a2.1, a14)])) (some (.t Qak (lstT ([a11, a8, a6, a12, a9, a13, a10, a7, a5, a4, (a2.1, a14)])), [])) none) none) none) none) none) none) none) none) none) none) none) none
theorem e_f202 (p0 : Qaa) : runF QlL Qw5 QGN false [.t Qac p0] [] = QH8 p0 := by kernel_rfl
theorem QXu : Qai Tryz.prog 202 := .inr ⟨by decide, _, Tryz.func202, by kernel_rfl, by kernel_rfl⟩
theorem QWp : GOk Tryz.prog QlL := Qal _ (gA (gC QXn QTv (gC QzC QyM (gC QK3 QJg (gC QXm QTu (gC QXl QTt (gC QXk QTs gN)))))))
theorem QOr (x7 : List ByteArray) (x8 x9 : Int) (y1 : Qaa) (y2 : ValT) (y3 : List ValT) (h : (rngOk x7 x8 x9 && decide (y3.length ≤ x9.toNat ∧ x7.length ≤ 8) && x7.all fun s => decide (s.size ≤ 32)) = true) : Qjt x7 x8 x9 y1 y2 y3 = QjW x7 x8 x9 y1 y2 y3 := by
 simp only [Bool.and_eq_true, decide_eq_true_eq, List.all_eq_true] at h
 obtain ⟨⟨h0, h1, h2⟩, hn⟩ := h
 obtain ⟨rfl, h3, k, rfl, hk⟩ := rng_k h0
 clear h0
 rw [Int.toNat_natCast] at h1
 revert y3
 refine Qau x7 (fun k => ∀ y3 : List ValT, y3.length ≤ k → Qjt x7 (x7.length : Int) (k : Int) y1 y2 y3 = QjW x7 (x7.length : Int) (k : Int) y1 y2 y3) ?_ ?_ k hk
 ·intro y3 _
  rw [QvU]
  simp only [QmZ, QjW, Qat, Nat.lt_irrefl, decide_false, Qaf, Int.toNat_natCast, List.drop_length, List.map_nil, List.append_nil]
 ·intro k hk ih y3 hy
  rw [QvU]
  have hx := hn x7[k] (List.getElem_mem hk)
  simp only [QmZ, Qat, Qax, hk, decide_true, Qad, Int.toNat_natCast, add1 (show k < 4611686018427387904 by omega), Qaz (y := .str) hk, Qdl hx, QkR]
  rw [cAppN (by omega) (by simp only [List.length_singleton]; omega), Qad, ih _ (by simp only [List.length_append, List.length_singleton]; omega)]
  simp only [QjW, Int.toNat_natCast, List.drop_eq_getElem_cons hk, List.map_cons, List.append_assoc, List.singleton_append]
theorem QJI : ∀ S l p, QlL.L 0 (fgt QgU S) = some (true, l) → pickA l = some p → loopF (Qaj QlL QgU QiH) S = some p :=
 QaB (s := QoX) ⟨by decide, by decide⟩ (by kernel_rfl) fun x y hok p hp => by
 simp only [Qas, Qan] at hp
 exact (QOr x.2.2.2.1 x.2.2.2.2.1 x.2.2.2.2.2.1 y.1 y.2.1 y.2.2.1 (by simpa using hok)).trans hp
theorem QUN : Qw5.lok QlL := by
 repeat (first | exact trivial | exact QJI | refine ⟨?_, ?_⟩)
theorem s_f202 (c : Qaa) (h : Qf0 c = true) : QH8 c = some (.t Qak (bodyT c), []) := by
 simp only [Qf0, Bool.and_eq_true] at h
 obtain ⟨_, hv⟩ := h
 obtain ⟨h1, h2, h3, h4, h5, h6, h7, h8, h9, h10, h11⟩ := Qf4 hv
 have hc := QvD hv
 have hp := Qvw hv
 have ha : ((QaC c).all fun s => decide (s.size ≤ 32)) = true := List.all_eq_true.2 fun s hs => decide_eq_true (h11 s hs)
 have hl : ([] : List ValT).length ≤ 0 ∧ (QaC c).length ≤ 8 := ⟨by simp, h10⟩
 simp only [Qgw] at hp
 simp only [QH8, rng_0 (show (QaC c).length ≤ 100000 by omega), ha, Bool.and_self, h1, Qdl h2, Qdl h3, h4, h5, h6, h7, h8, h9, Qad, Int.toNat_zero, List.drop_zero, List.nil_append, QkR, hc, hp]
 rw [decide_eq_true hl]
 rfl
def QFu : Ent := spec (.pr Qac .nil) (fun x => (Qf0 x.1)) (fun x => (.t Qak (bodyT x.1)))
theorem QTF : Meets Tryz.prog 202 (strip QFu) := Qag (R := runF QlL Qw5 QGN false) (mG Tryz.func202 (by kernel_rfl) Tryz.ntmps202 (by kernel_rfl) QWp QUN) fun x hok => (e_f202 x.1).trans (s_f202 x.1 hok)
noncomputable def QLu : List DO := dT Tryz.f158 6
def Qg2 : Fg := ⟨[(1, none), (2, none), (3, none), (4, some tI)], [(1, some Qac), (2, some Qak), (3, none), (20, none)]⟩
noncomputable def QiP : TC := (.sq (.sq (.reg (rT Tryz.f158 3)) (.cd (.t 9) .sk (.fg ⟨[(1, none), (2, none), (3, none)], [(1, some Qac), (2, some Qak), (3, none), (20, none)]⟩ (.ex 0)))) (.sq (.bk 1 (.reg (rT Tryz.f158 4))) (.reg (rT Tryz.f158 5))))
noncomputable def Qxo : TC := (.sq (.reg (rT Tryz.f158 0)) (.sq (.reg (rT Tryz.f158 1)) (.sq (.sq (.reg (rT Tryz.f158 2)) (.bk 0 (.nw 3 202 (.lp 0 Qg2 QiP)))) (.sq (.dr QLu [(0, [1]), (1, [1]), (2, []), (3, [1]), (4, [1]), (5, []), (6, [1]), (7, [1]), (8, []), (9, [1]), (10, [1]), (11, []), (12, [1]), (13, [1]), (14, []), (15, [1]), (16, [1]), (17, []), (18, [1]), (19, [1]), (20, []), (21, [1]), (22, [1]), (23, []), (24, [1]), (25, [1]), (26, []), (27, [1]), (28, [1]), (29, []), (30, [3, 20]), (31, [3, 20, 52, 5052, 10052, 15052]), (32, []), (33, []), (34, [2])] (.of [0, 1, 2, 3, 4, 5, 6, 7, 8, 9, 10, 11, 12, 13, 14, 15, 16, 17, 18, 19, 20, 21, 22, 23, 24, 25, 26, 27, 28, 29, 30, 31, 32, 33, 34])) .rt))))
def QG6 : List (RV × Option Ty) := [((.c 2 true 4), some Qak)]
abbrev Qo6 : Sh := ⟨[(1, .ptr 1 0), (2, .ptr 2 0), (3, .ms 3), (4, .ty tI)], [(1, .box Qac), (2, .box Qak), (3, .arr 202 Qak), (20, .no)]⟩
def Qoo (x4 : Int) (y1 : Qaa) (y2 : ValT) (y3 : List ValT) : VS := Qo6.st ((), (), (), x4, ()) (y1, y2, y3, (), ())
abbrev Qu5 : Sh := ⟨[(1, .ptr 1 0), (2, .ptr 2 0), (3, .ms 3)], [(1, .box Qac), (2, .box Qak), (3, .arr 202 Qak), (20, .no)]⟩
def Qd3 (y1 : Qaa) (y2 : ValT) (y3 : List ValT) : VS := Qu5.st ((), (), (), ()) (y1, y2, y3, (), ())
def QQD : VS → Option (Bool × List (Bool × Exit × VS)) := mkL Qo6 (fun x y => (decide (0 ≤ x.2.2.2.1 ∧ x.2.2.2.1 ≤ (QaC y.1).length ∧ y.2.2.1.length ≤ x.2.2.2.1.toNat ∧ (QaC y.1).length ≤ 8) && (QaC y.1).all fun s => decide (s.size ≤ 32))) (fun x y => [(true, .exit 0, Qd3 (y.1) (y.2.1) (y.2.2.1 ++ ((QaC y.1).drop x.2.2.2.1.toNat).map txtT))])
def QlT : G := ⟨TYs, [], 55, EL [(185, QFy), (186, QxZ), (187, QxY), (188, QFx), (189, QFw)], keeps, (Ls [QQD]), IL [], RL []⟩
def QCu (x4 : Int) (y1 : Qaa) (y2 : ValT) (y3 : List ValT) : Option (Exit × VS) :=
 let a1 := txtT (lgt .str y1.2.2.2.2.2.2.2.2.2.2.1 (Int.toNat x4))
 let a2 := ((a1.2).1, (((a1.2).2).1, ((List.map Val.of (List.map Val.un ((((a1.2).2).2).1))), ())))
 br (ilt x4 (llen y1.2.2.2.2.2.2.2.2.2.2.1)) (br (cIx y1.2.2.2.2.2.2.2.2.2.2.1 x4) (br (Qbe (lgt .str y1.2.2.2.2.2.2.2.2.2.2.1 (Int.toNat x4))) (br (cApp y3 ([(a1.1, a2)]) 64) (some (.normal, Qoo (iadd .i64 x4 1) y1 y2 (y3 ++ ([(a1.1, a2)])))) none) none) none) (some (.exit 0, Qd3 y1 y2 y3))
noncomputable def QjA (x4 : Int) (y1 : Qaa) (y2 : ValT) (y3 : List ValT) : Option (Exit × VS) := loopF (Qaj QlT Qg2 QiP) (Qoo x4 y1 y2 y3)
noncomputable def Qm5 (x4 : Int) (y1 : Qaa) (y2 : ValT) (y3 : List ValT) : Option (Exit × VS) :=
 let a1 := txtT (lgt .str y1.2.2.2.2.2.2.2.2.2.2.1 (Int.toNat x4))
 let a2 := ((a1.2).1, (((a1.2).2).1, ((List.map Val.of (List.map Val.un ((((a1.2).2).2).1))), ())))
 br (ilt x4 (llen y1.2.2.2.2.2.2.2.2.2.2.1)) (br (cIx y1.2.2.2.2.2.2.2.2.2.2.1 x4) (br (Qbe (lgt .str y1.2.2.2.2.2.2.2.2.2.2.1 (Int.toNat x4))) (br (cApp y3 ([(a1.1, a2)]) 64) (QjA (iadd .i64 x4 1) y1 y2 (y3 ++ ([(a1.1, a2)]))) none) none) none) (some (.exit 0, Qd3 y1 y2 y3))
def Qj1 (x4 : Int) (y1 : Qaa) (y2 : ValT) (y3 : List ValT) : Option (Exit × VS) := some (.exit 0, Qd3 (y1) (y2) (y3 ++ ((QaC y1).drop x4.toNat).map txtT))
theorem QMh (x4 : Int) (y1 : Qaa) (y2 : ValT) (y3 : List ValT) : Qaj QlT Qg2 QiP (Qoo x4 y1 y2 y3) = QCu x4 y1 y2 y3 := by kernel_rfl
theorem Qv1 (x4 : Int) (y1 : Qaa) (y2 : ValT) (y3 : List ValT) : QjA x4 y1 y2 y3 = Qm5 x4 y1 y2 y3 := (Qao _ _).trans (by
 rw [QMh]
 simp only [QCu, Qm5, QaA, nxt_n, nxt_r, nxt_e, nxt_0]
 rfl)
def QIo (p0 : Qaa) : Option (V × List VO) :=
 let a3 := ((((p0).2).2).2)
 let a1 := ((a3.2).2)
 let a2 := (lstT (([] : List ValT) ++ ((QaC p0).drop (0 : Int).toNat).map txtT))
 let a4 := ((intT (((((a1.2).2).2).2).1)).1, (((intT (((((a1.2).2).2).2).1)).2).1, ((((intT (((((a1.2).2).2).2).1)).2).2).1, ((List.map Val.of (List.map Val.un (((((intT (((((a1.2).2).2).2).1)).2).2).2).1))), ()))))
 let a5 := ((boolT ((((a1.2).2).2).1)).1, (((boolT ((((a1.2).2).2).1)).2).1, ((((boolT ((((a1.2).2).2).1)).2).2).1, ((List.map Val.of (List.map Val.un (((((boolT ((((a1.2).2).2).1)).2).2).2).1))), ()))))
 let a6 := ((txtT ((((p0).2).2).1)).1, (((txtT ((((p0).2).2).1)).2).1, ((((txtT ((((p0).2).2).1)).2).2).1, ((List.map Val.of (List.map Val.un (((((txtT ((((p0).2).2).1)).2).2).2).1))), ()))))
 let a7 := ((intT (((a1.2).2).1)).1, (((intT (((a1.2).2).1)).2).1, ((((intT (((a1.2).2).1)).2).2).1, ((List.map Val.of (List.map Val.un (((((intT (((a1.2).2).1)).2).2).2).1))), ()))))
 let a8 := ((txtT (((p0).2).1)).1, (((txtT (((p0).2).1)).2).1, ((((txtT (((p0).2).1)).2).2).1, ((List.map Val.of (List.map Val.un (((((txtT (((p0).2).1)).2).2).2).1))), ()))))
 let a9 := ((intT ((a3.2).1)).1, (((intT ((a3.2).1)).2).1, ((((intT ((a3.2).1)).2).2).1, ((List.map Val.of (List.map Val.un (((((intT ((a3.2).1)).2).2).2).1))), ()))))
 let a10 := ((intT ((a1.2).1)).1, (((intT ((a1.2).1)).2).1, ((((intT ((a1.2).1)).2).2).1, ((List.map Val.of (List.map Val.un (((((intT ((a1.2).1)).2).2).2).1))), ()))))
 let a11 := ((intT ((p0).1)).1, (((intT ((p0).1)).2).1, ((((intT ((p0).1)).2).2).1, ((List.map Val.of (List.map Val.un (((((intT ((p0).1)).2).2).2).1))), ()))))
 let a12 := ((useT (a3.1)).1, (((useT (a3.1)).2).1, ((((useT (a3.1)).2).2).1, ((List.map Val.of (List.map Val.un (((((useT (a3.1)).2).2).2).1))), ()))))
 let a13 := ((useT (a1.1)).1, (((useT (a1.1)).2).1, ((((useT (a1.1)).2).2).1, ((List.map Val.of (List.map Val.un (((((useT (a1.1)).2).2).2).1))), ()))))
 let a14 := ((a2.2).1, (((a2.2).2).1, ((List.map Val.of (List.map Val.un ((((a2.2).2).2).1))), ())))
 br (decide (0 ≤ (0 : Int) ∧ (0 : Int) ≤ (QaC p0).length ∧ ([] : List ValT).length ≤ (0 : Int).toNat ∧ (QaC p0).length ≤ 8) && (QaC p0).all fun s => decide (s.size ≤ 32)) (br (i64Ok ((p0).1)) (br (Qbe (((p0).2).1)) (br (Qbe ((((p0).2).2).1)) (br (QdE (a3.1)) (br (i64Ok ((a3.2).1)) (br (QdE (a1.1)) (br (i64Ok ((a1.2).1)) (br (i64Ok (((a1.2).2).1)) (br (i64Ok (((((a1.2).2).2).2).1)) (br (copOk (([] : List ValT) ++ ((QaC p0).drop (0 : Int).toNat).map txtT)) (br (copOk ([a11, a8, a6, a12, a9, a13, a10, a7, a5, a4, (a2.1, a14)])) (some (.t Qak (lstT ([a11, a8, a6, a12, a9, a13, a10, a7, a5, a4, (a2.1, a14)])), [])) none) none) none) none) none) none) none) none) none) none) none) none
theorem e_f158 (p0 : Qaa) : runF QlT Qxo QG6 false [.t Qac p0] [] = QIo p0 := by kernel_rfl
theorem QXI : Qai Tryz.prog 158 := .inr ⟨by decide, _, Tryz.func158, by kernel_rfl, by kernel_rfl⟩
theorem QWI : GOk Tryz.prog QlT := Qal _ (gA (gC QXy QTJ (gC QK8 QJi (gC QK7 QJh (gC QXx QTI (gC QXw QTH gN))))))
theorem QOz (x4 : Int) (y1 : Qaa) (y2 : ValT) (y3 : List ValT) (h : (decide (0 ≤ x4 ∧ x4 ≤ (QaC y1).length ∧ y3.length ≤ x4.toNat ∧ (QaC y1).length ≤ 8) && (QaC y1).all fun s => decide (s.size ≤ 32)) = true) : QjA x4 y1 y2 y3 = Qj1 x4 y1 y2 y3 := by
 simp only [Bool.and_eq_true, decide_eq_true_eq, List.all_eq_true] at h
 obtain ⟨⟨h0, h1, h2, h3⟩, hn⟩ := h
 obtain ⟨k, rfl⟩ := Int.eq_ofNat_of_zero_le h0
 rw [Int.toNat_natCast] at h2
 revert y3
 refine Qau (QaC y1) (fun k => ∀ y3 : List ValT, y3.length ≤ k → QjA (k : Int) y1 y2 y3 = Qj1 (k : Int) y1 y2 y3) ?_ ?_ k (by omega)
 ·intro y3 _
  rw [Qv1]
  simp only [Qm5, Qj1, show ilt ((QaC y1).length : Int) (llen (QaC y1)) = false from decide_eq_false (by simp only [llen]; omega), Qaf, Int.toNat_natCast, List.drop_length, List.map_nil, List.append_nil]
 ·intro k hk ih y3 hy
  rw [Qv1]
  have hx := hn (QaC y1)[k] (List.getElem_mem hk)
  simp only [Qm5, show ilt (k : Int) (llen (QaC y1)) = true from decide_eq_true (by simp only [llen]; omega), Qax, hk, decide_true, Qad, Int.toNat_natCast, add1 (show k < 4611686018427387904 by omega), Qaz (y := .str) hk, Qdl hx, QkR]
  rw [cAppN (by omega) (by simp only [List.length_singleton]; omega), Qad, ih _ (by simp only [List.length_append, List.length_singleton]; omega)]
  simp only [Qj1, Int.toNat_natCast, List.drop_eq_getElem_cons hk, List.map_cons, List.append_assoc, List.singleton_append]
theorem QJQ : ∀ S l p, QlT.L 0 (fgt Qg2 S) = some (true, l) → pickA l = some p → loopF (Qaj QlT Qg2 QiP) S = some p :=
 QaB (s := Qo6) ⟨by decide, by decide⟩ (by kernel_rfl) fun x y hok p hp => by
 simp only [Qas, Qan] at hp
 exact (QOz x.2.2.2.1 y.1 y.2.1 y.2.2.1 (by simpa using hok)).trans hp
theorem QU6 : Qxo.lok QlT := by
 repeat (first | exact trivial | exact QJQ | refine ⟨?_, ?_⟩)
theorem s_f158 (c : Qaa) (h : Qf0 c = true) : QIo c = some (.t Qak (bodyT c), []) := by
 simp only [Qf0, Bool.and_eq_true] at h
 obtain ⟨_, hv⟩ := h
 obtain ⟨h1, h2, h3, h4, h5, h6, h7, h8, h9, h10, h11⟩ := Qf4 hv
 have hc := QvD hv
 have hp := Qvw hv
 have ha : ((QaC c).all fun s => decide (s.size ≤ 32)) = true := List.all_eq_true.2 fun s hs => decide_eq_true (h11 s hs)
 have hl : (0 : Int) ≤ 0 ∧ (0 : Int) ≤ (QaC c).length ∧ ([] : List ValT).length ≤ 0 ∧ (QaC c).length ≤ 8 := ⟨by omega, by omega, by simp, h10⟩
 simp only [Qgw] at hp
 simp only [QIo, ha, Bool.and_self, h1, Qdl h2, Qdl h3, h4, h5, h6, h7, h8, h9, Qad, Int.toNat_zero, List.drop_zero, List.nil_append, QkR, hc, hp]
 rw [decide_eq_true hl]
 rfl
def QFL : Ent := spec (.pr Qac .nil) (fun x => (Qf0 x.1)) (fun x => (.t Qak (bodyT x.1)))
theorem QTW : Meets Tryz.prog 158 (strip QFL) := Qag (R := runF QlT Qxo QG6 false) (mG Tryz.func158 (by kernel_rfl) Tryz.ntmps158 (by kernel_rfl) QWI QU6) fun x hok => (e_f158 x.1).trans (s_f158 x.1 hok)
end
end Go.Proofs.YtckcgijklnloiaaGreat.K
namespace Go.Proofs.YtckcgijklnloiaaGreat.K
open Go.RowKit
noncomputable section
def QbV (c : Qaa) : List Int × Int := bif QaD c then encE (bodyT c) else ([], 9)
theorem QLS {c : Qaa} (h : QaD c = true) : QbV c = (encT (bodyT c), 0) := by
 have := Qt5 h
 rw [QbV, h, cond_true, encE, if_neg (by omega)]
theorem QDP (c : Qaa) : (QbV c).1.length ≤ 1000 := by
 cases h : QaD c with
 | true =>
  rw [QLS h]
  exact Qt5 h
 | false =>
  rw [QbV, h]
  simp
noncomputable def Qxj : TC := (.sq (.reg (rT Tryz.f166 0)) (.sq (.sq (.reg (rT Tryz.f166 1)) (.cd (.t 6) (.sq (.reg (rT Tryz.f166 2)) .rt) .sk)) (.sq (.reg (rT Tryz.f166 3)) .rt)))
def QG1 : List (RV × Option Ty) := [((.t 2), some (.sl (.int .u8))), ((.t 3), some tI)]
def QBn : G := ⟨TYs, [], 12, EL [(138, Qx3), (201, QFv), (202, QFu)], keeps, (fun _ _ => none), IL [], RL []⟩
def QAs (p0 : Qaa) : Option (V × List VO) := br (QaG p0) (br (!(QaD p0)) (some (.tu [(.t (.sl (.int .u8)) ([] : List Int)), (.t tI 9)], [])) (br (Qf0 p0) (br (encOk (bodyT p0)) (some (.tu [(.t (.sl (.int .u8)) ((encE (bodyT p0)).1)), (.t tI ((encE (bodyT p0)).2))], [])) none) none)) none
theorem e_f166 (p0 : Qaa) : runF QBn Qxj QG1 false [.t Qac p0] [] = QAs p0 := by kernel_rfl
theorem QXD : Qai Tryz.prog 166 := .inr ⟨by decide, _, Tryz.func166, by kernel_rfl, by kernel_rfl⟩
theorem QWD : GOk Tryz.prog QBn := Qal _ (gA (gC QLg QJn (gC QXv QTG (gC QXu QTF gN))))
theorem QU1 : Qxj.lok QBn := by repeat (first | exact trivial | refine ⟨?_, ?_⟩)
theorem s_f166 (c : Qaa) (h : QaG c = true) : QAs c = some (.tu [.t (.sl (.int .u8)) (QbV c).1, .t tI (QbV c).2], []) := by
 unfold QbV
 cases hv : QaD c with
 | true => simp only [QAs, h, hv, QSE hv, show Qf0 c = true from by rw [Qf0, h, hv]; rfl, Bool.not_true, Qad, Qaf, cond_true]
 | false => simp only [QAs, h, hv, Bool.not_false, Qad, cond_false]
def QFG : Ent := spec (.pr Qac .nil) (fun x => (QaG x.1)) (fun x => (.tu [(.t (.sl (.int .u8)) ((QbV x.1).1)), (.t tI ((QbV x.1).2))]))
theorem QTR : Meets Tryz.prog 166 (strip QFG) := Qag (R := runF QBn Qxj QG1 false) (mG Tryz.func166 (by kernel_rfl) Tryz.ntmps166 (by kernel_rfl) QWD QU1) fun x hok => (e_f166 x.1).trans (s_f166 x.1 hok)
noncomputable def QxE : TC := (.sq (.reg (rT Tryz.f131 0)) (.sq (.sq (.reg (rT Tryz.f131 1)) (.cd (.t 6) (.sq (.reg (rT Tryz.f131 2)) .rt) .sk)) (.sq (.reg (rT Tryz.f131 3)) .rt)))
def QHm : List (RV × Option Ty) := [((.t 2), some (.sl (.int .u8))), ((.t 3), some tI)]
def QBB : G := ⟨TYs, [], 12, EL [(130, Qx4), (157, QFM), (158, QFL)], keeps, (fun _ _ => none), IL [], RL []⟩
def QAt (p0 : Qaa) : Option (V × List VO) := br (QaG p0) (br (ine (QeV p0) 0) (some (.tu [(.t (.sl (.int .u8)) ([] : List Int)), (.t tI 9)], [])) (br (Qf0 p0) (br (encOk (bodyT p0)) (some (.tu [(.t (.sl (.int .u8)) ((encE (bodyT p0)).1)), (.t tI ((encE (bodyT p0)).2))], [])) none) none)) none
theorem e_f131 (p0 : Qaa) : runF QBB QxE QHm false [.t Qac p0] [] = QAt p0 := by kernel_rfl
theorem QXV : Qai Tryz.prog 131 := .inr ⟨by decide, _, Tryz.func131, by kernel_rfl, by kernel_rfl⟩
theorem QWY : GOk Tryz.prog QBB := Qal _ (gA (gC QLh QJo (gC QXJ QTX (gC QXI QTW gN))))
theorem QVm : QxE.lok QBB := by repeat (first | exact trivial | refine ⟨?_, ?_⟩)
theorem s_f131 (c : Qaa) (h : QaG c = true) : QAt c = some (.tu [.t (.sl (.int .u8)) (QbV c).1, .t tI (QbV c).2], []) := by
 unfold QbV
 cases hv : QaD c with
 | true => simp only [QAt, h, hv, Qhf, QSE hv, show Qf0 c = true from by rw [Qf0, h, hv]; rfl, Bool.not_true, Qad, Qaf, cond_true]
 | false => simp only [QAt, h, hv, Qhf, Bool.not_false, Qad, cond_false]
def QFZ : Ent := spec (.pr Qac .nil) (fun x => (QaG x.1)) (fun x => (.tu [(.t (.sl (.int .u8)) ((QbV x.1).1)), (.t tI ((QbV x.1).2))]))
theorem QT9 : Meets Tryz.prog 131 (strip QFZ) := Qag (R := runF QBB QxE QHm false) (mG Tryz.func131 (by kernel_rfl) Tryz.ntmps131 (by kernel_rfl) QWY QVm) fun x hok => (e_f131 x.1).trans (s_f131 x.1 hok)
def stepS (s x : Int) : Int := imul .u32 (ibxor .u32 s (icv .u32 x)) 16777619
def sumB (b : List Int) : Int := icv .i64 (b.foldl stepS 2166136261)
def lenB (b : List Int) : Bool := decide (b.length ≤ 100000)
def Qg0 : Fg := ⟨[(3, some (.int .u32)), (6, some (.sl (.int .u8))), (7, some tI), (8, some tI)], []⟩
noncomputable def QiN : TC := (.sq (.reg (rT Tryz.f167 3)) (.sq (.cd (.t 9) .sk (.fg ⟨[(3, some (.int .u32))], []⟩ (.ex 0))) (.sq (.bk 1 (.sq (.reg (rT Tryz.f167 4)) (.reg (rT Tryz.f167 5)))) (.reg (rT Tryz.f167 6)))))
noncomputable def Qxi : TC := (.sq (.reg (rT Tryz.f167 0)) (.sq (.reg (rT Tryz.f167 1)) (.sq (.sq (.reg (rT Tryz.f167 2)) (.bk 0 (.lp 0 Qg0 QiN))) (.sq (.reg (rT Tryz.f167 7)) .rt))))
def QG0 : List (RV × Option Ty) := [((.t 2), some tI)]
abbrev Qo4 : Sh := ⟨[(3, .ty (.int .u32)), (6, .ty (.sl (.int .u8))), (7, .ty tI), (8, .ty tI)], []⟩
def Qon (x3 : Int) (x6 : List Int) (x7 x8 : Int) : VS := Qo4.st (x3, x6, x7, x8, ()) ()
abbrev Qu3 : Sh := ⟨[(3, .ty (.int .u32))], []⟩
def Qd1 (x3 : Int) : VS := Qu3.st (x3, ()) ()
def QQB : VS → Option (Bool × List (Bool × Exit × VS)) := mkL Qo4 (fun x y => (rngOk x.2.1 x.2.2.1 x.2.2.2.1)) (fun x y => [(true, .exit 0, Qd1 ((x.2.1.drop x.2.2.2.1.toNat).foldl stepS x.1))])
def QlR : G := ⟨TYs, [], 20, EL [], keeps, (Ls [QQB]), IL [], RL []⟩
def QCs (x3 : Int) (x6 : List Int) (x7 x8 : Int) : Option (Exit × VS) := br (ilt x8 x7) (br (cIx x6 x8) (some (.normal, Qon (imul .u32 (ibxor .u32 x3 (icv .u32 (lgt (.int .u8) x6 (Int.toNat x8)))) 16777619) x6 x7 (iadd .i64 x8 1))) none) (some (.exit 0, Qd1 x3))
noncomputable def Qjz (x3 : Int) (x6 : List Int) (x7 x8 : Int) : Option (Exit × VS) := loopF (Qaj QlR Qg0 QiN) (Qon x3 x6 x7 x8)
noncomputable def Qm3 (x3 : Int) (x6 : List Int) (x7 x8 : Int) : Option (Exit × VS) := br (ilt x8 x7) (br (cIx x6 x8) (Qjz (imul .u32 (ibxor .u32 x3 (icv .u32 (lgt (.int .u8) x6 (Int.toNat x8)))) 16777619) x6 x7 (iadd .i64 x8 1)) none) (some (.exit 0, Qd1 x3))
def QjZ (x3 : Int) (x6 : List Int) (x7 x8 : Int) : Option (Exit × VS) := some (.exit 0, Qd1 ((x6.drop x8.toNat).foldl stepS x3))
theorem QMf (x3 : Int) (x6 : List Int) (x7 x8 : Int) : Qaj QlR Qg0 QiN (Qon x3 x6 x7 x8) = QCs x3 x6 x7 x8 := by kernel_rfl
theorem QvZ (x3 : Int) (x6 : List Int) (x7 x8 : Int) : Qjz x3 x6 x7 x8 = Qm3 x3 x6 x7 x8 := (Qao _ _).trans (by
 rw [QMf]
 simp only [QCs, Qm3, QaA, nxt_n, nxt_r, nxt_e, nxt_0]
 rfl)
def QIk (p0 : List Int) : Option (V × List VO) := br (rngOk p0 (llen p0) (0 : Int)) (some (.t tI (icv .i64 ((p0.drop (0 : Int).toNat).foldl stepS (2166136261 : Int))), [])) none
theorem e_f167 (p0 : List Int) : runF QlR Qxi QG0 false [.t (.sl (.int .u8)) p0] [] = QIk p0 := by kernel_rfl
theorem QXC : Qai Tryz.prog 167 := .inr ⟨by decide, _, Tryz.func167, by kernel_rfl, by kernel_rfl⟩
theorem QWC : GOk Tryz.prog QlR := Qal _ (fun p hp => by cases hp)
theorem QOx (x3 : Int) (x6 : List Int) (x7 x8 : Int) (h : (rngOk x6 x7 x8) = true) : Qjz x3 x6 x7 x8 = QjZ x3 x6 x7 x8 := by
 obtain ⟨rfl, h3, k, rfl, hk⟩ := rng_k h
 clear h
 revert x3
 refine Qau x6 (fun k => ∀ x3 : Int, Qjz x3 x6 (x6.length : Int) (k : Int) = QjZ x3 x6 (x6.length : Int) (k : Int)) ?_ ?_ k hk
 ·intro x3
  rw [QvZ]
  simp only [Qm3, QjZ, Qat, Nat.lt_irrefl, decide_false, Qaf, Int.toNat_natCast, List.drop_length, List.foldl_nil]
 ·intro k hk ih x3
  rw [QvZ]
  simp only [Qm3, Qat, Qax, hk, decide_true, Qad, Int.toNat_natCast, add1 (show k < 4611686018427387904 by omega), Qaz (y := .int .u8) hk, ih]
  simp only [QjZ, Int.toNat_natCast, List.drop_eq_getElem_cons hk, List.foldl_cons, stepS]
theorem QJO : ∀ S l p, QlR.L 0 (fgt Qg0 S) = some (true, l) → pickA l = some p → loopF (Qaj QlR Qg0 QiN) S = some p :=
 QaB (s := Qo4) ⟨by decide, by decide⟩ (by kernel_rfl) fun x y hok p hp => by
 simp only [Qas, Qan] at hp
 exact (QOx x.1 x.2.1 x.2.2.1 x.2.2.2.1 (by simpa using hok)).trans hp
theorem QU0 : Qxi.lok QlR := by
 repeat (first | exact trivial | exact QJO | refine ⟨?_, ?_⟩)
theorem s_f167 (b : List Int) (h : lenB b = true) : QIk b = some (.t tI (sumB b), []) := by
 simp only [lenB, decide_eq_true_eq] at h
 simp only [QIk, rng_0 h, Qad, Int.toNat_zero, List.drop_zero]
 rfl
def QFF : Ent := spec (.pr (.sl (.int .u8)) .nil) (fun x => (lenB x.1)) (fun x => (.t tI (sumB x.1)))
theorem QTQ : Meets Tryz.prog 167 (strip QFF) := Qag (R := runF QlR Qxi QG0 false) (mG Tryz.func167 (by kernel_rfl) Tryz.ntmps167 (by kernel_rfl) QWC QU0) fun x hok => (e_f167 x.1).trans (s_f167 x.1 hok)
def Qg7 : Fg := ⟨[(0, some (.sl (.int .u8))), (3, some (.int .u32)), (4, some tI)], []⟩
noncomputable def QiU : TC := (.sq (.sq (.reg (rT Tryz.f132 3)) (.cd (.t 8) .sk (.fg ⟨[(3, some (.int .u32))], []⟩ (.ex 0)))) (.sq (.bk 1 (.reg (rT Tryz.f132 4))) (.reg (rT Tryz.f132 5))))
noncomputable def QxD : TC := (.sq (.reg (rT Tryz.f132 0)) (.sq (.reg (rT Tryz.f132 1)) (.sq (.sq (.reg (rT Tryz.f132 2)) (.bk 0 (.lp 0 Qg7 QiU))) (.sq (.reg (rT Tryz.f132 6)) .rt))))
def QHl : List (RV × Option Ty) := [((.t 2), some tI)]
abbrev Qpe : Sh := ⟨[(0, .ty (.sl (.int .u8))), (3, .ty (.int .u32)), (4, .ty tI)], []⟩
def Qot (x0 : List Int) (x3 x4 : Int) : VS := Qpe.st (x0, x3, x4, ()) ()
abbrev Qva : Sh := ⟨[(3, .ty (.int .u32))], []⟩
def Qd8 (x3 : Int) : VS := Qva.st (x3, ()) ()
def QQI : VS → Option (Bool × List (Bool × Exit × VS)) := mkL Qpe (fun x y => (idxOk x.1 x.2.2.1)) (fun x y => [(true, .exit 0, Qd8 ((x.1.drop x.2.2.1.toNat).foldl stepS x.2.1))])
def QlY : G := ⟨TYs, [], 21, EL [], keeps, (Ls [QQI]), IL [], RL []⟩
def QCz (x0 : List Int) (x3 x4 : Int) : Option (Exit × VS) := br (ilt x4 (llen x0)) (br (cIx x0 x4) (some (.normal, Qot x0 (imul .u32 (ibxor .u32 x3 (icv .u32 (lgt (.int .u8) x0 (Int.toNat x4)))) 16777619) (iadd .i64 x4 1))) none) (some (.exit 0, Qd8 x3))
noncomputable def QjG (x0 : List Int) (x3 x4 : Int) : Option (Exit × VS) := loopF (Qaj QlY Qg7 QiU) (Qot x0 x3 x4)
noncomputable def Qm9 (x0 : List Int) (x3 x4 : Int) : Option (Exit × VS) := br (ilt x4 (llen x0)) (br (cIx x0 x4) (QjG x0 (imul .u32 (ibxor .u32 x3 (icv .u32 (lgt (.int .u8) x0 (Int.toNat x4)))) 16777619) (iadd .i64 x4 1)) none) (some (.exit 0, Qd8 x3))
def Qj5 (x0 : List Int) (x3 x4 : Int) : Option (Exit × VS) := some (.exit 0, Qd8 ((x0.drop x4.toNat).foldl stepS x3))
theorem QMm (x0 : List Int) (x3 x4 : Int) : Qaj QlY Qg7 QiU (Qot x0 x3 x4) = QCz x0 x3 x4 := by kernel_rfl
theorem Qv6 (x0 : List Int) (x3 x4 : Int) : QjG x0 x3 x4 = Qm9 x0 x3 x4 := (Qao _ _).trans (by
 rw [QMm]
 simp only [QCz, Qm9, QaA, nxt_n, nxt_r, nxt_e, nxt_0]
 rfl)
def QIz (p0 : List Int) : Option (V × List VO) := br (idxOk p0 (0 : Int)) (some (.t tI (icv .i64 ((p0.drop (0 : Int).toNat).foldl stepS (2166136261 : Int))), [])) none
theorem e_f132 (p0 : List Int) : runF QlY QxD QHl false [.t (.sl (.int .u8)) p0] [] = QIz p0 := by kernel_rfl
theorem QXU : Qai Tryz.prog 132 := .inr ⟨by decide, _, Tryz.func132, by kernel_rfl, by kernel_rfl⟩
theorem QWX : GOk Tryz.prog QlY := Qal _ (fun p hp => by cases hp)
theorem QOE (x0 : List Int) (x3 x4 : Int) (h : (idxOk x0 x4) = true) : QjG x0 x3 x4 = Qj5 x0 x3 x4 := by
 simp only [idxOk, decide_eq_true_eq] at h
 obtain ⟨h0, h1, h2⟩ := h
 obtain ⟨k, rfl⟩ := Int.eq_ofNat_of_zero_le h0
 revert x3
 refine Qau x0 (fun k => ∀ x3 : Int, QjG x0 x3 (k : Int) = Qj5 x0 x3 (k : Int)) ?_ ?_ k (by omega)
 ·intro x3
  rw [Qv6]
  simp only [Qm9, Qj5, show ilt (x0.length : Int) (llen x0) = false from decide_eq_false (by simp only [llen]; omega), Qaf, Int.toNat_natCast, List.drop_length, List.foldl_nil]
 ·intro k hk ih x3
  rw [Qv6]
  simp only [Qm9, show ilt (k : Int) (llen x0) = true from decide_eq_true (by simp only [llen]; omega), Qax, hk, decide_true, Qad, Int.toNat_natCast, add1 (show k < 4611686018427387904 by omega), Qaz (y := .int .u8) hk, ih]
  simp only [Qj5, Int.toNat_natCast, List.drop_eq_getElem_cons hk, List.foldl_cons, stepS]
theorem QJV : ∀ S l p, QlY.L 0 (fgt Qg7 S) = some (true, l) → pickA l = some p → loopF (Qaj QlY Qg7 QiU) S = some p :=
 QaB (s := Qpe) ⟨by decide, by decide⟩ (by kernel_rfl) fun x y hok p hp => by
 simp only [Qas, Qan] at hp
 exact (QOE x.1 x.2.1 x.2.2.1 (by simpa using hok)).trans hp
theorem QVl : QxD.lok QlY := by
 repeat (first | exact trivial | exact QJV | refine ⟨?_, ?_⟩)
theorem s_f132 (b : List Int) (h : lenB b = true) : QIz b = some (.t tI (sumB b), []) := by
 simp only [lenB, decide_eq_true_eq] at h
 simp only [QIz, show idxOk b 0 = true from decide_eq_true (by omega), Qad, Int.toNat_zero, List.drop_zero]
 rfl
def QFY : Ent := spec (.pr (.sl (.int .u8)) .nil) (fun x => (lenB x.1)) (fun x => (.t tI (sumB x.1)))
theorem QT8 : Meets Tryz.prog 132 (strip QFY) := Qag (R := runF QlY QxD QHl false) (mG Tryz.func132 (by kernel_rfl) Tryz.ntmps132 (by kernel_rfl) QWX QVl) fun x hok => (e_f132 x.1).trans (s_f132 x.1 hok)
theorem QSA (c : Qaa) : lenB (QbV c).1 = true := decide_eq_true (by have := QDP c; omega)
def Qk0 (c : Qaa) (k : Int) : Bool := ieq (QbV c).2 0 && (ieq (cSeal c).1 k && ieq (cSeal c).2.1 (sumB (QbV c).1))
def QeA (c : Qaa) (_k : Int) : Bool := QaG c
noncomputable def QLv : List DO := dT Tryz.f141 2
noncomputable def Qxy : TC := (.sq (.reg (rT Tryz.f141 0)) (.sq (.reg (rT Tryz.f141 1)) (.sq (.dr QLv [(0, []), (1, []), (2, []), (3, [2]), (4, [2]), (5, []), (6, []), (7, []), (8, []), (9, []), (10, []), (11, [])] (.of [0, 1, 2, 3, 4, 5, 6, 7, 8, 9, 10, 11])) .rt)))
def QHg : List (RV × Option Ty) := [((.t 4), some .bool)]
def QBy : G := ⟨TYs, [], 23, EL [(166, QFG), (167, QFF)], keeps, (fun _ _ => none), IL [], RL []⟩
def QIv (p0 : Qaa) (p1 : Int) : Option (V × List VO) := br (QaG p0) (br (ieq ((QbV p0).2) 0) (br (lenB ((QbV p0).1)) (some (.t .bool (and (ieq p0.2.2.2.2.2.2.2.2.2.2.2.1.1 p1) (and (ieq p0.2.2.2.2.2.2.2.2.2.2.2.1.2.1 (sumB ((QbV p0).1))) true)), [])) none) (some (.t .bool false, []))) none
theorem e_f141 (p0 : Qaa) (p1 : Int) : runF QBy Qxy QHg false [.t Qac p0, .t tI p1] [] = QIv p0 p1 := by kernel_rfl
theorem QXP : Qai Tryz.prog 141 := .inr ⟨by decide, _, Tryz.func141, by kernel_rfl, by kernel_rfl⟩
theorem QWS : GOk Tryz.prog QBy := Qal _ (gA (gC QXD QTR (gC QXC QTQ gN)))
theorem QVg : Qxy.lok QBy := by repeat (first | exact trivial | refine ⟨?_, ?_⟩)
theorem s_f141 (c : Qaa) (k : Int) (h : QeA c k = true) : QIv c k = some (.t .bool (Qk0 c k), []) := by
 simp only [QIv, show QaG c = true from h, QSA, Qad, Bool.and_true]
 exact brA rfl
def QFS : Ent := spec (.pr Qac (.pr tI .nil)) (fun x => (QeA x.1 x.2.1)) (fun x => (.t .bool (Qk0 x.1 x.2.1)))
theorem QT3 : Meets Tryz.prog 141 (strip QFS) := Qag (R := runF QBy Qxy QHg false) (mG Tryz.func141 (by kernel_rfl) Tryz.ntmps141 (by kernel_rfl) QWS QVg) fun x hok => (e_f141 x.1 x.2.1).trans (s_f141 x.1 x.2.1 hok)
def copyC (c : Qaa) : Qaa := c
noncomputable def QxG : TC := (.sq (.reg (rT Tryz.f129 0)) (.sq (.reg (rT Tryz.f129 1)) (.sq (.reg (rT Tryz.f129 2)) .rt)))
def QHo : List (RV × Option Ty) := [((.c 2 true 15), some Qac)]
def QBC : G := ⟨TYs, [3], 9, EL [], keeps, (fun _ _ => none), IL [], RL []⟩
def QIB (p0 : Qaa) : Option (V × List VO) := br (cApp ([] : List ByteArray) p0.2.2.2.2.2.2.2.2.2.2.1 16) (some (.t Qac (p0.1, (p0.2.1, (p0.2.2.1, ((p0.2.2.2.1.1, (p0.2.2.2.1.2.1, ())), (p0.2.2.2.2.1, ((p0.2.2.2.2.2.1.1, (p0.2.2.2.2.2.1.2.1, ())), (p0.2.2.2.2.2.2.1, (p0.2.2.2.2.2.2.2.1, (p0.2.2.2.2.2.2.2.2.1, (p0.2.2.2.2.2.2.2.2.2.1, ((([] : List ByteArray) ++ p0.2.2.2.2.2.2.2.2.2.2.1), ((p0.2.2.2.2.2.2.2.2.2.2.2.1.1, (p0.2.2.2.2.2.2.2.2.2.2.2.1.2.1, ())), ())))))))))))), [])) none
theorem e_f129 (p0 : Qaa) : runF QBC QxG QHo false [.t Qac p0] [] = QIB p0 := by kernel_rfl
theorem QXW : Qai Tryz.prog 129 := .inr ⟨by decide, _, Tryz.func129, by kernel_rfl, by kernel_rfl⟩
theorem QW0 : GOk Tryz.prog QBC := Qal _ (fun p hp => by cases hp)
theorem QVo : QxG.lok QBC := by repeat (first | exact trivial | refine ⟨?_, ?_⟩)
theorem QqS {c : Qaa} (h : QaG c = true) : (QaC c).length ≤ 100000 := by
 simp only [QaG, Qb6, Bool.and_eq_true, decide_eq_true_eq] at h
 exact h.2.2.1
theorem s_f129 (c : Qaa) (h : QaG c = true) : QIB c = some (.t Qac (copyC c), []) := by
 have hn : c.2.2.2.2.2.2.2.2.2.2.1.length ≤ 100000 := QqS h
 simp only [QIB]
 rw [cAppN (by omega) (by simp only [List.length_nil]; omega), Qad]
 rfl
def QF0 : Ent := spec (.pr Qac .nil) (fun x => (QaG x.1)) (fun x => (.t Qac (copyC x.1)))
theorem QUa : Meets Tryz.prog 129 (strip QF0) := Qag (R := runF QBC QxG QHo false) (mG Tryz.func129 (by kernel_rfl) Tryz.ntmps129 (by kernel_rfl) QW0 QVo) fun x hok => (e_f129 x.1).trans (s_f129 x.1 hok)
def sealC (c : Qaa) (s : Keep) : Qaa := (c.1, (c.2.1, (c.2.2.1, (c.2.2.2.1, (c.2.2.2.2.1, (c.2.2.2.2.2.1, (c.2.2.2.2.2.2.1, (c.2.2.2.2.2.2.2.1, (c.2.2.2.2.2.2.2.2.1, (c.2.2.2.2.2.2.2.2.2.1, (c.2.2.2.2.2.2.2.2.2.2.1, (s, ()))))))))))))
def unsC (c : Qaa) : Qaa := sealC c (0, (0, ()))
def QGl (c : Qaa) (k : Int) : Bool := !QaD (unsC c) || (ilt k 0 || igt k 2147483648)
abbrev zCert : Qaa := Ty.zero Qac
def signC (c : Qaa) (k : Int) : Qaa × Int := bif QGl c k then (zCert, 9) else (sealC c (k, (sumB (QbV (unsC c)).1, ())), 0)
noncomputable def QEk : TC := (.sq (.reg (rT Tryz.f84 0)) (.sq (.reg (rT Tryz.f84 1)) (.sq (.reg (rT Tryz.f84 2)) (.sq (.sq (.reg (rT Tryz.f84 3)) (.cd (.t 22) (.sq (.reg (rT Tryz.f84 4)) .rt) .sk)) (.sq (.reg (rT Tryz.f84 5)) (.sq (.reg (rT Tryz.f84 6)) (.sq (.reg (rT Tryz.f84 7)) .rt)))))))
def QRx : List (RV × Option Ty) := [((.c 4 true 15), some Qac), ((.t 5), some tI)]
def g_f84 : G := ⟨TYs, [], 35, EL [(129, QF0), (130, Qx4), (131, QFZ), (132, QFY)], keeps, (fun _ _ => none), IL [], RL []⟩
def r_f84 (p0 : Qaa) (p1 : Int) : Option (V × List VO) :=
 let a4 := ((copyC p0).2)
 let a1 := ((((a4.2).2).2).2)
 let a5 := (((a1.2).2).2)
 let a2 := ((QbV ((copyC p0).1, (a4.1, ((a4.2).1, (((a4.2).2).1, ((((a4.2).2).2).1, (a1.1, ((a1.2).1, (((a1.2).2).1, (a5.1, ((a5.2).1, (((a5.2).2).1, ((0, (0, ())), (((a5.2).2).2).2))))))))))))).1)
 let a3 := (QaG ((copyC p0).1, (a4.1, ((a4.2).1, (((a4.2).2).1, ((((a4.2).2).2).1, (a1.1, ((a1.2).1, (((a1.2).2).1, (a5.1, ((a5.2).1, (((a5.2).2).1, ((0, (0, ())), (((a5.2).2).2).2)))))))))))))
 let a6 := ByteArray.mk #[]
 br (QaG p0) (br a3 (br (ine (QeV ((copyC p0).1, (a4.1, ((a4.2).1, (((a4.2).2).1, ((((a4.2).2).2).1, (a1.1, ((a1.2).1, (((a1.2).2).1, (a5.1, ((a5.2).1, (((a5.2).2).1, ((0, (0, ())), (((a5.2).2).2).2))))))))))))) 0) (some (.tu [(.t Qac (0, (a6, (a6, ((0, (0, ())), (0, ((0, (0, ())), (0, (0, (false, (0, (([] : List ByteArray), ((0, (0, ())), ()))))))))))))), (.t tI 9)], [])) (br (ilt p1 0) (some (.tu [(.t Qac (0, (a6, (a6, ((0, (0, ())), (0, ((0, (0, ())), (0, (0, (false, (0, (([] : List ByteArray), ((0, (0, ())), ()))))))))))))), (.t tI 9)], [])) (br (igt p1 2147483648) (some (.tu [(.t Qac (0, (a6, (a6, ((0, (0, ())), (0, ((0, (0, ())), (0, (0, (false, (0, (([] : List ByteArray), ((0, (0, ())), ()))))))))))))), (.t tI 9)], [])) (br a3 (br (lenB a2) (some (.tu [(.t Qac ((copyC p0).1, (a4.1, ((a4.2).1, (((a4.2).2).1, ((((a4.2).2).2).1, (a1.1, ((a1.2).1, (((a1.2).2).1, (a5.1, ((a5.2).1, (((a5.2).2).1, ((p1, ((sumB a2), ())), (((a5.2).2).2).2))))))))))))), (.t tI 0)], [])) none) none)))) none) none
theorem e_f84 (p0 : Qaa) (p1 : Int) : runF g_f84 QEk QRx false [.t Qac p0, .t tI p1] [] = r_f84 p0 p1 := by kernel_rfl
theorem en_f84 : Qai Tryz.prog 84 := .inr ⟨by decide, _, Tryz.func84, by kernel_rfl, by kernel_rfl⟩
theorem gk_f84 : GOk Tryz.prog g_f84 := Qal _ (gA (gC QXW QUa (gC QLh QJo (gC QXV QT9 (gC QXU QT8 gN)))))
theorem lk_f84 : QEk.lok g_f84 := by repeat (first | exact trivial | refine ⟨?_, ?_⟩)
theorem s_f84 (c : Qaa) (k : Int) (h : QeA c k = true) : r_f84 c k = some (.tu [.t Qac (signC c k).1, .t tI (signC c k).2], []) := by
 have h : QaG c = true := h
 have hu : QaG (unsC c) = true := h
 have e : ((copyC c).1, ((copyC c).2.1, ((copyC c).2.2.1, ((copyC c).2.2.2.1, ((copyC c).2.2.2.2.1, ((copyC c).2.2.2.2.2.1, ((copyC c).2.2.2.2.2.2.1, ((copyC c).2.2.2.2.2.2.2.1, ((copyC c).2.2.2.2.2.2.2.2.1, ((copyC c).2.2.2.2.2.2.2.2.2.1, ((copyC c).2.2.2.2.2.2.2.2.2.2.1, ((0, (0, ())), ())))))))))))) = unsC c := rfl
 simp only [r_f84, h, e, hu, Qhf, QSA, Qad]
 unfold signC QGl
 cases QaD (unsC c) with
 | false => rfl
 | true =>
  rw [Bool.not_true, Qaf, Bool.false_or]
  cases ilt k 0 with
  | true => rfl
  | false =>
   rw [Qaf, Bool.false_or]
   cases igt k 2147483648 <;> rfl
def QQ0 : Ent := spec (.pr Qac (.pr tI .nil)) (fun x => (QeA x.1 x.2.1)) (fun x => (.tu [(.t Qac ((signC x.1 x.2.1).1)), (.t tI ((signC x.1 x.2.1).2))]))
theorem ms_f84 : Meets Tryz.prog 84 (strip QQ0) := Qag (R := runF g_f84 QEk QRx false) (mG Tryz.func84 (by kernel_rfl) Tryz.ntmps84 (by kernel_rfl) gk_f84 lk_f84) fun x hok => (e_f84 x.1 x.2.1).trans (s_f84 x.1 x.2.1 hok)
def QaR (l : List Qaa) : Bool := decide (l.length ≤ 100000) && l.all QaG
def Qqv (key : Keep) (id : Int) (l : List Qaa) : Bool := ieq (llen l) 0 || (((l.getD 0 zCert).2.2.2.1 == key) && ieq (l.getD 0 zCert).2.2.2.2.1 id)
def Qja (key : Keep) (id : Int) (l : List Qaa) : Bool := QbW key && (!ine (kindF key.1) 2 && (keyI id && (!igt (llen l) 8 && (l.all QaD && Qqv key id l))))
def QoJ (_key : Keep) (_id : Int) (l : List Qaa) : Bool := QaR l
theorem QDs (key : Keep) (id : Int) (l : List Qaa) : br (ieq (llen l) 0) (some (V.t .bool true, ([] : List VO))) (br (cIx l 0) (br ((lgt Qac l 0).2.2.2.1 == key) (br (cIx l 0) (some (V.t .bool (ieq (lgt Qac l 0).2.2.2.2.1 id), [])) none) (some (V.t .bool false, []))) none) = some (V.t .bool (Qqv key id l), []) := by
 unfold Qqv
 cases l with
 | nil => rfl
 | cons c l =>
  have h1 : ieq (llen (c :: l)) 0 = false := by
   simp only [ieq, llen, List.length_cons, beq_eq_false_iff_ne]
   omega
  have h2 : cIx (c :: l) 0 = true := by simp only [cIx, List.length_cons, decide_eq_true_eq]; omega
  rw [h1, Qaf, h2, Qad, Bool.false_or, Qad]
  show br (c.2.2.2.1 == key) _ _ = some (V.t .bool ((c.2.2.2.1 == key) && ieq c.2.2.2.2.1 id), [])
  cases c.2.2.2.1 == key <;> rfl
noncomputable def QLy : List DO := dT Tryz.f117 9
def Qha : Fg := ⟨[(1, some tI), (2, some (.sl Qac)), (3, none), (28, some (.sl Qac)), (29, some tI), (30, some tI)], [(3, some Qah)]⟩
noncomputable def QiX : TC := (.sq (.reg (rT Tryz.f117 4)) (.sq (.cd (.t 31) .sk (.fg ⟨[(1, some tI), (2, some (.sl Qac)), (3, none)], [(3, some Qah)]⟩ (.ex 0))) (.sq (.bk 1 (.sq (.reg (rT Tryz.f117 5)) (.sq (.reg (rT Tryz.f117 6)) (.cd (.t 36) (.sq (.reg (rT Tryz.f117 7)) (.fg ⟨[(6, some .bool)], []⟩ .rt)) .sk)))) (.reg (rT Tryz.f117 8)))))
noncomputable def QxN : TC := (.sq (.reg (rT Tryz.f117 0)) (.sq (.sq (.reg (rT Tryz.f117 1)) (.cd (.t 27) (.sq (.reg (rT Tryz.f117 2)) .rt) .sk)) (.sq (.sq (.reg (rT Tryz.f117 3)) (.bk 0 (.lp 0 Qha QiX))) (.sq (.dr QLy [(0, []), (1, []), (2, []), (3, []), (4, []), (5, []), (6, []), (7, []), (8, [3]), (9, []), (10, []), (11, []), (12, []), (13, []), (14, []), (15, []), (16, []), (17, []), (18, []), (19, [])] (.of [0, 1, 2, 3, 4, 5, 6, 7, 8, 9, 10, 11, 12, 13, 14, 15, 16, 17, 18, 19])) .rt))))
def QHv : List (RV × Option Ty) := [((.t 6), some .bool)]
abbrev Qpj : Sh := ⟨[(1, .ty tI), (2, .ty (.sl Qac)), (3, .ptr 3 0), (28, .ty (.sl Qac)), (29, .ty tI), (30, .ty tI)], [(3, .box Qah)]⟩
def Qov (x1 : Int) (x2 x28 : List Qaa) (x29 x30 : Int) (y3 : Keep) : VS := Qpj.st (x1, x2, (), x28, x29, x30, ()) (y3, ())
abbrev QsS : Sh := ⟨[(6, .ty .bool)], []⟩
def Qde (x6 : Bool) : VS := QsS.st (x6, ()) ()
abbrev Qvd : Sh := ⟨[(1, .ty tI), (2, .ty (.sl Qac)), (3, .ptr 3 0)], [(3, .box Qah)]⟩
def Qeb (x1 : Int) (x2 : List Qaa) (y3 : Keep) : VS := Qvd.st (x1, x2, (), ()) (y3, ())
def QQL : VS → Option (Bool × List (Bool × Exit × VS)) := mkL Qpj (fun x y => (rngOk x.2.2.2.1 x.2.2.2.2.1 x.2.2.2.2.2.1 && QaR x.2.2.2.1)) (fun x y => [((!(x.2.2.2.1.drop x.2.2.2.2.2.1.toNat).all QaD), .ret, Qde (false)), (true, .exit 0, Qeb (x.1) (x.2.1) (y.1))])
def Ql1 : G := ⟨TYs, [], 57, EL [(96, QE2), (121, Qsk), (125, Qsi), (155, Qsh)], keeps, (Ls [QQL]), IL [], RL []⟩
def QCC (x1 : Int) (x2 x28 : List Qaa) (x29 x30 : Int) (y3 : Keep) : Option (Exit × VS) :=
 let a1 := lgt Qac x28 (Int.toNat x30)
 br (ilt x30 x29) (br (cIx x28 x30) (br (QaG a1) (br (ine (QeV a1) 0) (some (.ret, Qde false)) (some (.normal, Qov x1 x2 x28 x29 (iadd .i64 x30 1) y3))) none) none) (some (.exit 0, Qeb x1 x2 y3))
noncomputable def QjI (x1 : Int) (x2 x28 : List Qaa) (x29 x30 : Int) (y3 : Keep) : Option (Exit × VS) := loopF (Qaj Ql1 Qha QiX) (Qov x1 x2 x28 x29 x30 y3)
noncomputable def Qnc (x1 : Int) (x2 x28 : List Qaa) (x29 x30 : Int) (y3 : Keep) : Option (Exit × VS) :=
 let a1 := lgt Qac x28 (Int.toNat x30)
 br (ilt x30 x29) (br (cIx x28 x30) (br (QaG a1) (br (ine (QeV a1) 0) (some (.ret, Qde false)) (QjI x1 x2 x28 x29 (iadd .i64 x30 1) y3)) none) none) (some (.exit 0, Qeb x1 x2 y3))
def Qj8 (x1 : Int) (x2 x28 : List Qaa) (x29 x30 : Int) (y3 : Keep) : Option (Exit × VS) := br (!(x28.drop x30.toNat).all QaD) (some (.ret, Qde (false))) <| some (.exit 0, Qeb (x1) (x2) (y3))
theorem QMp (x1 : Int) (x2 x28 : List Qaa) (x29 x30 : Int) (y3 : Keep) : Qaj Ql1 Qha QiX (Qov x1 x2 x28 x29 x30 y3) = QCC x1 x2 x28 x29 x30 y3 := by kernel_rfl
theorem Qv9 (x1 : Int) (x2 x28 : List Qaa) (x29 x30 : Int) (y3 : Keep) : QjI x1 x2 x28 x29 x30 y3 = Qnc x1 x2 x28 x29 x30 y3 := (Qao _ _).trans (by
 rw [QMp]
 simp only [QCC, Qnc, QaA, nxt_n, nxt_r, nxt_e, nxt_0]
 rfl)
def QIE (p0 : Keep) (p1 : Int) (p2 : List Qaa) : Option (V × List VO) :=
 let a1 := ((((lgt Qac (p2) (Int.toNat 0)).2).2).2)
 br (!(QbW p0)) (some (.t .bool false, [])) (br (ine (kindF p0.1) 2) (some (.t .bool false, [])) (br (!(keyI p1)) (some (.t .bool false, [])) (br (igt (llen p2) 8) (some (.t .bool false, [])) (br (rngOk p2 (llen p2) (0 : Int) && QaR p2) (br (!(p2.drop (0 : Int).toNat).all QaD) (some (.t .bool (false), [])) (br (ieq (llen (p2)) 0) (some (.t .bool true, [])) (br (cIx (p2) 0) (br (and (ieq ((a1.1).1) ((p0).1)) (and (ieq (((a1.1).2).1) (((p0).2).1)) true)) (br (cIx (p2) 0) (some (.t .bool (ieq ((a1.2).1) (p1)), [])) none) (some (.t .bool false, []))) none))) none))))
theorem e_f117 (p0 : Keep) (p1 : Int) (p2 : List Qaa) : runF Ql1 QxN QHv false [.t Qah p0, .t tI p1, .t (.sl Qac) p2] [] = QIE p0 p1 p2 := by kernel_rfl
theorem QX0 : Qai Tryz.prog 117 := .inr ⟨by decide, _, Tryz.func117, by kernel_rfl, by kernel_rfl⟩
theorem QW7 : GOk Tryz.prog Ql1 := Qal _ (gA (gC QSF QSp (gC QzI QyS (gC QzG QyQ (gC QzE QyO gN)))))
theorem QOH (x1 : Int) (x2 x28 : List Qaa) (x29 x30 : Int) (y3 : Keep) (h : (rngOk x28 x29 x30 && QaR x28) = true) : QjI x1 x2 x28 x29 x30 y3 = Qj8 x1 x2 x28 x29 x30 y3 := by
 simp only [Bool.and_eq_true] at h
 obtain ⟨h0, hc⟩ := h
 obtain ⟨rfl, h3, k, rfl, hk⟩ := rng_k h0
 clear h0
 simp only [QaR, Bool.and_eq_true, List.all_eq_true] at hc
 refine Qau x28 (fun k => QjI x1 x2 x28 (x28.length : Int) (k : Int) y3 = Qj8 x1 x2 x28 (x28.length : Int) (k : Int) y3) ?_ ?_ k hk
 ·rw [Qv9]
  simp only [Qnc, Qj8, Qat, Nat.lt_irrefl, decide_false, Qaf, Int.toNat_natCast, List.drop_length, List.all_nil, Bool.not_true]
 ·intro k hk ih
  rw [Qv9]
  have hx := hc.2 x28[k] (List.getElem_mem hk)
  simp only [Qnc, Qat, Qax, hk, decide_true, Qad, Int.toNat_natCast, add1 (show k < 4611686018427387904 by omega), Qaz (y := Qac) hk, hx, Qhf, ih]
  simp only [Qj8, Int.toNat_natCast, List.drop_eq_getElem_cons hk, List.all_cons]
  cases QaD x28[k] <;> rfl
theorem QJY : ∀ S l p, Ql1.L 0 (fgt Qha S) = some (true, l) → pickA l = some p → loopF (Qaj Ql1 Qha QiX) S = some p :=
 QaB (s := Qpj) ⟨by decide, by decide⟩ (by kernel_rfl) fun x y hok p hp => by
 simp only [Qas, Qan] at hp
 exact (QOH x.1 x.2.1 x.2.2.2.1 x.2.2.2.2.1 x.2.2.2.2.2.1 y.1 (by simpa using hok)).trans hp
theorem QVv : QxN.lok Ql1 := by
 repeat (first | exact trivial | exact QJY | refine ⟨?_, ?_⟩)
theorem s_f117 (key : Keep) (id : Int) (l : List Qaa) (h : QoJ key id l = true) : QIE key id l = some (.t .bool (Qja key id l), []) := by
 have h : QaR l = true := h
 have hl : l.length ≤ 100000 := by simp only [QaR, Bool.and_eq_true, decide_eq_true_eq] at h; exact h.1
 simp only [QIE, rng_0 hl, h, Bool.and_self, Qad, Int.toNat_zero, List.drop_zero, QV1]
 unfold Qja
 refine (brB <| brB <| brB <| brB <| brB (QDs key id l)).trans ?_
 simp only [Bool.not_not]
def QF4 : Ent := spec (.pr Qah (.pr tI (.pr (.sl Qac) .nil))) (fun x => (QoJ x.1 x.2.1 x.2.2.1)) (fun x => (.t .bool (Qja x.1 x.2.1 x.2.2.1)))
theorem QUe : Meets Tryz.prog 117 (strip QF4) := Qag (R := runF Ql1 QxN QHv false) (mG Tryz.func117 (by kernel_rfl) Tryz.ntmps117 (by kernel_rfl) QW7 QVv) fun x hok => (e_f117 x.1 x.2.1 x.2.2.1).trans (s_f117 x.1 x.2.1 x.2.2.1 hok)
end
end Go.Proofs.YtckcgijklnloiaaGreat.K
