import Derived.Test.YtckcgijklnloiaaGreatQ4
import Derived.Test.YtckcgijklnloiaaGreatQ5
set_option linter.unusedSimpArgs false
set_option linter.unusedVariables false
namespace Go.Proofs.YtckcgijklnloiaaGreat.K
open Go.RowKit
noncomputable section
def kindF (a : Int) : Int := (ofF a).1.2.1
noncomputable def QwN : TC := (.sq (.reg (rT Tryz.f155 0)) (.sq (.reg (rT Tryz.f155 1)) (.sq (.reg (rT Tryz.f155 2)) .rt)))
def QGd : List (RV × Option Ty) := [((.t 2), some tI)]
def QAC : G := ⟨TYs, [], 12, EL [(180, Qxl)], keeps, (fun _ _ => none), IL [], RL []⟩
def QQR (p0 : Int) : Option (V × List VO) := some (.t tI ((((ofF p0).1).2).1), [])
theorem e_f155 (p0 : Int) : runF QAC QwN QGd false [.t tI p0] [] = QQR p0 := by kernel_rfl
theorem QyU : Qai Tryz.prog 155 := .inr ⟨by decide, _, Tryz.func155, by kernel_rfl, by kernel_rfl⟩
theorem QVi : GOk Tryz.prog QAC := Qal _ (gA (gC QKf QIo gN))
theorem QTL : QwN.lok QAC := by repeat (first | exact trivial | refine ⟨?_, ?_⟩)
theorem s_f155 (a : Int) : QQR a = some (.t tI (kindF a), []) := rfl
def QrM : Ent := spec (.pr tI .nil) (fun x => true) (fun x => (.t tI (kindF x.1)))
theorem Qx4 : Meets Tryz.prog 155 (strip QrM) := Qag (R := runF QAC QwN QGd false) (mG Tryz.func155 (by kernel_rfl) Tryz.ntmps155 (by kernel_rfl) QVi QTL) fun x _ => (e_f155 x.1).trans (s_f155 x.1)
noncomputable def Qxd : TC := (.sq (.reg (rT Tryz.f110 0)) (.sq (.reg (rT Tryz.f110 1)) .rt))
def QGD : List (RV × Option Ty) := [((.t 0), some (.sl Qc7))]
def QAR : G := ⟨TYs, [], 25, EL [], keeps, (fun _ _ => none), IL [], RL []⟩
def QQY  : Option (V × List VO) := some (.t (.sl Qc7) ([((ByteArray.mk #[]), (0, ())), ((ByteArray.mk #[109, 100, 53]), (1, ())), ((ByteArray.mk #[115, 104, 97, 49]), (1, ())), ((ByteArray.mk #[115, 104, 97, 50, 53, 54]), (1, ())), ((ByteArray.mk #[115, 104, 97, 51, 56, 52]), (1, ())), ((ByteArray.mk #[114, 115, 97]), (2, ())), ((ByteArray.mk #[100, 115, 97]), (2, ())), ((ByteArray.mk #[101, 99, 100, 115, 97]), (2, ())), ((ByteArray.mk #[101, 100, 50, 53, 53, 49, 57]), (2, ())), ((ByteArray.mk #[109, 108, 100, 115, 97]), (2, ())), ((ByteArray.mk #[114, 115, 97, 107, 120]), (3, ())), ((ByteArray.mk #[100, 104, 101]), (3, ())), ((ByteArray.mk #[101, 99, 100, 104, 101]), (3, ())), ((ByteArray.mk #[109, 108, 107, 101, 109]), (3, ())), ((ByteArray.mk #[114, 99, 52]), (4, ())), ((ByteArray.mk #[100, 101, 115, 51]), (4, ())), ((ByteArray.mk #[97, 101, 115, 99, 98, 99]), (4, ())), ((ByteArray.mk #[97, 101, 115, 103, 99, 109]), (4, ())), ((ByteArray.mk #[99, 104, 97, 99, 104, 97]), (4, ())), ((ByteArray.mk #[104, 109, 97, 99, 109, 100, 53]), (5, ())), ((ByteArray.mk #[104, 109, 97, 99, 115, 104, 97, 49]), (5, ())), ((ByteArray.mk #[104, 109, 97, 99, 115, 104, 97, 50, 53, 54]), (5, ())), ((ByteArray.mk #[97, 101, 97, 100]), (5, ()))]), [])
theorem e_f110  : runF QAR Qxd QGD false [] [] = QQY  := by kernel_rfl
theorem QWB : Qai Tryz.prog 110 := .inr ⟨by decide, _, Tryz.func110, by kernel_rfl, by kernel_rfl⟩
theorem QVI : GOk Tryz.prog QAR := Qal _ (fun p hp => by cases hp)
theorem QUb : Qxd.lok QAR := by repeat (first | exact trivial | refine ⟨?_, ?_⟩)
def Qzy : Ty.T (.sl Qc7) := ([((ByteArray.mk #[]), (0, ())), ((ByteArray.mk #[109, 100, 53]), (1, ())), ((ByteArray.mk #[115, 104, 97, 49]), (1, ())), ((ByteArray.mk #[115, 104, 97, 50, 53, 54]), (1, ())), ((ByteArray.mk #[115, 104, 97, 51, 56, 52]), (1, ())), ((ByteArray.mk #[114, 115, 97]), (2, ())), ((ByteArray.mk #[100, 115, 97]), (2, ())), ((ByteArray.mk #[101, 99, 100, 115, 97]), (2, ())), ((ByteArray.mk #[101, 100, 50, 53, 53, 49, 57]), (2, ())), ((ByteArray.mk #[109, 108, 100, 115, 97]), (2, ())), ((ByteArray.mk #[114, 115, 97, 107, 120]), (3, ())), ((ByteArray.mk #[100, 104, 101]), (3, ())), ((ByteArray.mk #[101, 99, 100, 104, 101]), (3, ())), ((ByteArray.mk #[109, 108, 107, 101, 109]), (3, ())), ((ByteArray.mk #[114, 99, 52]), (4, ())), ((ByteArray.mk #[100, 101, 115, 51]), (4, ())), ((ByteArray.mk #[97, 101, 115, 99, 98, 99]), (4, ())), ((ByteArray.mk #[97, 101, 115, 103, 99, 109]), (4, ())), ((ByteArray.mk #[99, 104, 97, 99, 104, 97]), (4, ())), ((ByteArray.mk #[104, 109, 97, 99, 109, 100, 53]), (5, ())), ((ByteArray.mk #[104, 109, 97, 99, 115, 104, 97, 49]), (5, ())), ((ByteArray.mk #[104, 109, 97, 99, 115, 104, 97, 50, 53, 54]), (5, ())), ((ByteArray.mk #[97, 101, 97, 100]), (5, ()))])
theorem s_f110 : QQY = some (.t (.sl Qc7) Qzy, []) := rfl
def QFe : Ent := spec .nil (fun x => true) (fun x => (.t (.sl Qc7) Qzy))
theorem QST : Meets Tryz.prog 110 (strip QFe) := Qag (R := runF QAR Qxd QGD false) (mG Tryz.func110 (by kernel_rfl) Tryz.ntmps110 (by kernel_rfl) QVI QUb) fun x _ => (e_f110 ).trans (s_f110 )
noncomputable def QDy : TC := (.sq (.reg (rT Tryz.f70 0)) (.sq (.sq (.reg (rT Tryz.f70 1)) (.cd (.t 8) (.sq (.reg (rT Tryz.f70 2)) .rt) .sk)) (.sq (.reg (rT Tryz.f70 3)) .rt)))
def QQg : List (RV × Option Ty) := [((.t 2), some tI)]
def g_f70 : G := ⟨TYs, [], 14, EL [(110, QFe)], keeps, (fun _ _ => none), IL [], RL []⟩
def r_f70 (p0 : Int) : Option (V × List VO) := br (ilt p0 1) (some (.t tI 0, [])) (br (igt p0 22) (some (.t tI 0, [])) (br (cIx Qzy p0) (some (.t tI (((lgt Qc7 Qzy (Int.toNat p0)).2).1), [])) none))
theorem e_f70 (p0 : Int) : runF g_f70 QDy QQg false [.t tI p0] [] = r_f70 p0 := by kernel_rfl
theorem QRi : Qai Tryz.prog 70 := .inr ⟨by decide, _, Tryz.func70, by kernel_rfl, by kernel_rfl⟩
theorem gk_f70 : GOk Tryz.prog g_f70 := Qal _ (gA (gC QWB QST gN))
theorem lk_f70 : QDy.lok g_f70 := by repeat (first | exact trivial | refine ⟨?_, ?_⟩)
theorem QLN {a : Int} (h1 : 1 ≤ a) (h2 : a ≤ 22) : a = 1 ∨ a = 2 ∨ a = 3 ∨ a = 4 ∨ a = 5 ∨ a = 6 ∨ a = 7 ∨ a = 8 ∨ a = 9 ∨ a = 10 ∨ a = 11 ∨ a = 12 ∨ a = 13 ∨ a = 14 ∨ a = 15 ∨ a = 16 ∨ a = 17 ∨ a = 18 ∨ a = 19 ∨ a = 20 ∨ a = 21 ∨ a = 22 := by omega
theorem s_f70 (a : Int) : r_f70 a = some (.t tI (kindF a), []) := by
 simp only [r_f70]
 refine QaB (fun h1 => ?_) (fun h1 => QaB (fun h2 => ?_) (fun h2 => ?_))
 ·have h1 : a < 1 := by simpa [ilt] using h1
  simp [kindF, ofF, h1, noRow]
 ·have h2 : 22 < a := by simpa [igt] using h2
  simp [kindF, ofF, h2, noRow]
 ·have h1 : ¬ a < 1 := by simpa [ilt] using h1
  have h2 : ¬ 22 < a := by simpa [igt] using h2
  rcases QLN (a := a) (by omega) (by omega) with rfl | rfl | rfl | rfl | rfl | rfl | rfl | rfl | rfl | rfl | rfl | rfl | rfl | rfl | rfl | rfl | rfl | rfl | rfl | rfl | rfl | rfl <;> rfl
def QEa : Ent := spec (.pr tI .nil) (fun x => true) (fun x => (.t tI (kindF x.1)))
theorem QQ2 : Meets Tryz.prog 70 (strip QEa) := Qag (R := runF g_f70 QDy QQg false) (mG Tryz.func70 (by kernel_rfl) Tryz.ntmps70 (by kernel_rfl) gk_f70 lk_f70) fun x _ => (e_f70 x.1).trans (s_f70 x.1)
def useP (a b : Int) : Keep := (a, (b, ()))
noncomputable def QwJ : TC := (.sq (.reg (rT Tryz.f159 0)) (.sq (.reg (rT Tryz.f159 1)) .rt))
def QF9 : List (RV × Option Ty) := [((.c 4 true 2), some Qah)]
def QAz : G := ⟨TYs, [], 8, EL [], keeps, (fun _ _ => none), IL [], RL []⟩
def QQQ (p0 p1 : Int) : Option (V × List VO) := some (.t Qah (p0, (p1, ())), [])
theorem e_f159 (p0 p1 : Int) : runF QAz QwJ QF9 false [.t tI p0, .t tI p1] [] = QQQ p0 p1 := by kernel_rfl
theorem QWe : Qai Tryz.prog 159 := .inr ⟨by decide, _, Tryz.func159, by kernel_rfl, by kernel_rfl⟩
theorem QVe : GOk Tryz.prog QAz := Qal _ (fun p hp => by cases hp)
theorem QTH : QwJ.lok QAz := by repeat (first | exact trivial | refine ⟨?_, ?_⟩)
theorem s_f159 (a b : Int) : QQQ a b = some (.t Qah (useP a b), []) := rfl
def QEQ : Ent := spec (.pr tI (.pr tI .nil)) (fun x => true) (fun x => (.t Qah (useP x.1 x.2.1)))
theorem QSw : Meets Tryz.prog 159 (strip QEQ) := Qag (R := runF QAz QwJ QF9 false) (mG Tryz.func159 (by kernel_rfl) Tryz.ntmps159 (by kernel_rfl) QVe QTH) fun x _ => (e_f159 x.1 x.2.1).trans (s_f159 x.1 x.2.1)
def suiP (c : Int) (n : ByteArray) (e s f m : Keep) (l o : Int) : Suite := (c, (n, (e, (s, (f, (m, (l, (o, ()))))))))
def Qe1 : Ty.T (.sl QaF) :=
 let a1 := (suiP 9 (ByteArray.mk #[101, 99, 100, 104, 101, 45, 101, 99, 100, 115, 97, 45, 97, 101, 115, 50, 53, 54, 45, 115, 104, 97, 50, 53, 54]) (useP 12 256) (useP 7 0) (useP 16 256) (useP 21 0) 3 3)
 let a2 := (suiP 11 (ByteArray.mk #[101, 99, 100, 104, 101, 45, 101, 99, 100, 115, 97, 45, 97, 101, 115, 50, 53, 54, 45, 103, 99, 109]) (useP 12 384) (useP 7 0) (useP 17 256) (useP 22 0) 3 3)
 let a3 := (suiP 10 (ByteArray.mk #[101, 99, 100, 104, 101, 45, 114, 115, 97, 45, 97, 101, 115, 49, 50, 56, 45, 103, 99, 109]) (useP 12 256) (useP 5 0) (useP 17 128) (useP 22 0) 3 3)
 let a4 := (suiP 8 (ByteArray.mk #[101, 99, 100, 104, 101, 45, 114, 115, 97, 45, 97, 101, 115, 49, 50, 56, 45, 115, 104, 97]) (useP 12 256) (useP 5 0) (useP 16 128) (useP 20 0) 1 3)
 let a5 := (suiP 7 (ByteArray.mk #[100, 104, 101, 45, 114, 115, 97, 45, 97, 101, 115, 49, 50, 56, 45, 115, 104, 97]) (useP 11 2048) (useP 5 0) (useP 16 128) (useP 20 0) 1 3)
 let a6 := (suiP 16 (ByteArray.mk #[109, 108, 107, 101, 109, 45, 97, 101, 115, 50, 53, 54, 45, 103, 99, 109]) (useP 13 768) (0, (0, ())) (useP 17 256) (useP 22 0) 4 4)
 let a7 := (suiP 4 (ByteArray.mk #[100, 104, 101, 45, 100, 115, 97, 45, 100, 101, 115, 51, 45, 115, 104, 97]) (useP 11 1024) (useP 6 0) (useP 15 168) (useP 20 0) 1 3)
 let a8 := (suiP 5 (ByteArray.mk #[100, 104, 101, 45, 114, 115, 97, 45, 100, 101, 115, 51, 45, 115, 104, 97]) (useP 11 1024) (useP 5 0) (useP 15 168) (useP 20 0) 1 3)
 let a9 := (suiP 12 (ByteArray.mk #[101, 99, 100, 104, 101, 45, 114, 115, 97, 45, 99, 104, 97, 99, 104, 97]) (useP 12 256) (useP 5 0) (useP 18 0) (useP 22 0) 3 3)
 let a10 := (suiP 13 (ByteArray.mk #[114, 115, 97, 45, 97, 101, 115, 50, 53, 54, 45, 103, 99, 109]) (useP 10 0) (useP 5 0) (useP 17 256) (useP 22 0) 3 3)
 let a11 := (suiP 6 (ByteArray.mk #[114, 115, 97, 45, 97, 101, 115, 49, 50, 56, 45, 115, 104, 97]) (useP 10 0) (useP 5 0) (useP 16 128) (useP 20 0) 1 3)
 let a12 := (suiP 3 (ByteArray.mk #[114, 115, 97, 45, 100, 101, 115, 51, 45, 115, 104, 97]) (useP 10 0) (useP 5 0) (useP 15 168) (useP 20 0) 1 3)
 let a13 := (suiP 1 (ByteArray.mk #[114, 115, 97, 45, 114, 99, 52, 45, 109, 100, 53]) (useP 10 0) (useP 5 0) (useP 14 128) (useP 19 0) 1 2)
 let a14 := (suiP 2 (ByteArray.mk #[114, 115, 97, 45, 114, 99, 52, 45, 115, 104, 97]) (useP 10 0) (useP 5 0) (useP 14 128) (useP 20 0) 1 3)
 let a15 := (suiP 14 (ByteArray.mk #[97, 101, 115, 49, 50, 56, 45, 103, 99, 109]) (useP 12 256) (0, (0, ())) (useP 17 128) (useP 22 0) 4 4)
 let a16 := (suiP 15 (ByteArray.mk #[99, 104, 97, 99, 104, 97]) (useP 12 256) (0, (0, ())) (useP 18 0) (useP 22 0) 4 4)
 let a17 := (((a13.2).2).2)
 let a18 := (((a14.2).2).2)
 let a19 := (((a12.2).2).2)
 let a20 := (((a11.2).2).2)
 let a21 := (((a10.2).2).2)
 let a22 := (((a15.2).2).2)
 let a23 := (((a16.2).2).2)
 let a24 := (((a7.2).2).2)
 let a25 := (((a8.2).2).2)
 let a26 := (((a5.2).2).2)
 let a27 := (((a4.2).2).2)
 let a28 := (((a1.2).2).2)
 let a29 := (((a3.2).2).2)
 let a30 := (((a2.2).2).2)
 let a31 := (((a9.2).2).2)
 let a32 := (((a6.2).2).2)
 ([(a13.1, ((a13.2).1, (((((a13.2).2).1).1, (((((a13.2).2).1).2).1, ())), (((a17.1).1, (((a17.1).2).1, ())), ((((a17.2).1).1, ((((a17.2).1).2).1, ())), (((((a17.2).2).1).1, (((((a17.2).2).1).2).1, ())), ((((a17.2).2).2).1, (((((a17.2).2).2).2).1, ())))))))), (a14.1, ((a14.2).1, (((((a14.2).2).1).1, (((((a14.2).2).1).2).1, ())), (((a18.1).1, (((a18.1).2).1, ())), ((((a18.2).1).1, ((((a18.2).1).2).1, ())), (((((a18.2).2).1).1, (((((a18.2).2).1).2).1, ())), ((((a18.2).2).2).1, (((((a18.2).2).2).2).1, ())))))))), (a12.1, ((a12.2).1, (((((a12.2).2).1).1, (((((a12.2).2).1).2).1, ())), (((a19.1).1, (((a19.1).2).1, ())), ((((a19.2).1).1, ((((a19.2).1).2).1, ())), (((((a19.2).2).1).1, (((((a19.2).2).1).2).1, ())), ((((a19.2).2).2).1, (((((a19.2).2).2).2).1, ())))))))), (a7.1, ((a7.2).1, (((((a7.2).2).1).1, (((((a7.2).2).1).2).1, ())), (((a24.1).1, (((a24.1).2).1, ())), ((((a24.2).1).1, ((((a24.2).1).2).1, ())), (((((a24.2).2).1).1, (((((a24.2).2).1).2).1, ())), ((((a24.2).2).2).1, (((((a24.2).2).2).2).1, ())))))))), (a8.1, ((a8.2).1, (((((a8.2).2).1).1, (((((a8.2).2).1).2).1, ())), (((a25.1).1, (((a25.1).2).1, ())), ((((a25.2).1).1, ((((a25.2).1).2).1, ())), (((((a25.2).2).1).1, (((((a25.2).2).1).2).1, ())), ((((a25.2).2).2).1, (((((a25.2).2).2).2).1, ())))))))), (a11.1, ((a11.2).1, (((((a11.2).2).1).1, (((((a11.2).2).1).2).1, ())), (((a20.1).1, (((a20.1).2).1, ())), ((((a20.2).1).1, ((((a20.2).1).2).1, ())), (((((a20.2).2).1).1, (((((a20.2).2).1).2).1, ())), ((((a20.2).2).2).1, (((((a20.2).2).2).2).1, ())))))))), (a5.1, ((a5.2).1, (((((a5.2).2).1).1, (((((a5.2).2).1).2).1, ())), (((a26.1).1, (((a26.1).2).1, ())), ((((a26.2).1).1, ((((a26.2).1).2).1, ())), (((((a26.2).2).1).1, (((((a26.2).2).1).2).1, ())), ((((a26.2).2).2).1, (((((a26.2).2).2).2).1, ())))))))), (a4.1, ((a4.2).1, (((((a4.2).2).1).1, (((((a4.2).2).1).2).1, ())), (((a27.1).1, (((a27.1).2).1, ())), ((((a27.2).1).1, ((((a27.2).1).2).1, ())), (((((a27.2).2).1).1, (((((a27.2).2).1).2).1, ())), ((((a27.2).2).2).1, (((((a27.2).2).2).2).1, ())))))))), (a1.1, ((a1.2).1, (((((a1.2).2).1).1, (((((a1.2).2).1).2).1, ())), (((a28.1).1, (((a28.1).2).1, ())), ((((a28.2).1).1, ((((a28.2).1).2).1, ())), (((((a28.2).2).1).1, (((((a28.2).2).1).2).1, ())), ((((a28.2).2).2).1, (((((a28.2).2).2).2).1, ())))))))), (a3.1, ((a3.2).1, (((((a3.2).2).1).1, (((((a3.2).2).1).2).1, ())), (((a29.1).1, (((a29.1).2).1, ())), ((((a29.2).1).1, ((((a29.2).1).2).1, ())), (((((a29.2).2).1).1, (((((a29.2).2).1).2).1, ())), ((((a29.2).2).2).1, (((((a29.2).2).2).2).1, ())))))))), (a2.1, ((a2.2).1, (((((a2.2).2).1).1, (((((a2.2).2).1).2).1, ())), (((a30.1).1, (((a30.1).2).1, ())), ((((a30.2).1).1, ((((a30.2).1).2).1, ())), (((((a30.2).2).1).1, (((((a30.2).2).1).2).1, ())), ((((a30.2).2).2).1, (((((a30.2).2).2).2).1, ())))))))), (a9.1, ((a9.2).1, (((((a9.2).2).1).1, (((((a9.2).2).1).2).1, ())), (((a31.1).1, (((a31.1).2).1, ())), ((((a31.2).1).1, ((((a31.2).1).2).1, ())), (((((a31.2).2).1).1, (((((a31.2).2).1).2).1, ())), ((((a31.2).2).2).1, (((((a31.2).2).2).2).1, ())))))))), (a10.1, ((a10.2).1, (((((a10.2).2).1).1, (((((a10.2).2).1).2).1, ())), (((a21.1).1, (((a21.1).2).1, ())), ((((a21.2).1).1, ((((a21.2).1).2).1, ())), (((((a21.2).2).1).1, (((((a21.2).2).1).2).1, ())), ((((a21.2).2).2).1, (((((a21.2).2).2).2).1, ())))))))), (a15.1, ((a15.2).1, (((((a15.2).2).1).1, (((((a15.2).2).1).2).1, ())), (((a22.1).1, (((a22.1).2).1, ())), ((((a22.2).1).1, ((((a22.2).1).2).1, ())), (((((a22.2).2).1).1, (((((a22.2).2).1).2).1, ())), ((((a22.2).2).2).1, (((((a22.2).2).2).2).1, ())))))))), (a16.1, ((a16.2).1, (((((a16.2).2).1).1, (((((a16.2).2).1).2).1, ())), (((a23.1).1, (((a23.1).2).1, ())), ((((a23.2).1).1, ((((a23.2).1).2).1, ())), (((((a23.2).2).1).1, (((((a23.2).2).1).2).1, ())), ((((a23.2).2).2).1, (((((a23.2).2).2).2).1, ())))))))), (a6.1, ((a6.2).1, (((((a6.2).2).1).1, (((((a6.2).2).1).2).1, ())), (((a32.1).1, (((a32.1).2).1, ())), ((((a32.2).1).1, ((((a32.2).1).2).1, ())), (((((a32.2).2).1).1, (((((a32.2).2).1).2).1, ())), ((((a32.2).2).2).1, (((((a32.2).2).2).2).1, ()))))))))])
abbrev QC8 : Suite := Ty.zero QaF
def codeL (k : Nat) (l : List Suite) : List Suite := (List.range' k (16 - k)).foldl (fun l i => l.set i (((i + 1 : Nat) : Int), (l.getD i QC8).2)) l
noncomputable def QKy : List DO := dT Tryz.f133 4
def QgX : Fg := ⟨[(15, none), (113, some tI), (114, some tI)], [(111, none)]⟩
noncomputable def QiM : TC := (.sq (.reg (rT Tryz.f133 6)) (.sq (.cd (.t 115) .sk (.fg ⟨[(15, none)], [(111, none)]⟩ (.ex 0))) (.sq (.bk 1 (.sq (.reg (rT Tryz.f133 7)) (.reg (rT Tryz.f133 8)))) (.reg (rT Tryz.f133 9)))))
noncomputable def QwY : TC := (.sq (.reg (rT Tryz.f133 0)) (.sq (.reg (rT Tryz.f133 1)) (.sq (.reg (rT Tryz.f133 2)) (.sq (.reg (rT Tryz.f133 3)) (.sq (.dr QKy [(0, [1]), (1, [2]), (2, []), (3, [11]), (4, []), (5, [1]), (6, [2]), (7, []), (8, [12]), (9, []), (10, [1]), (11, [2]), (12, [6]), (13, [12]), (14, []), (15, []), (16, [3]), (17, [6]), (18, [12]), (19, []), (20, []), (21, [2]), (22, [6]), (23, [12]), (24, []), (25, [1]), (26, [2]), (27, [7]), (28, [12]), (29, []), (30, []), (31, [2]), (32, [7]), (33, [12]), (34, []), (35, [14]), (36, [2]), (37, [7]), (38, [12]), (39, []), (40, [14]), (41, [4]), (42, []), (43, []), (44, []), (45, [14]), (46, [2]), (47, [8]), (48, [13]), (49, []), (50, []), (51, [4]), (52, [9]), (53, [13]), (54, []), (55, [14]), (56, [2]), (57, [10]), (58, [13]), (59, []), (60, [1]), (61, [2]), (62, [9]), (63, [13]), (64, []), (65, [14]), (66, [5]), (67, [8]), (68, [13]), (69, []), (70, [14]), (71, [5]), (72, [10]), (73, [13]), (74, []), (75, []), (76, [5]), (77, [9]), (78, [13]), (79, []), (80, [111, 5111, 10111, 15111]), (81, [111])] (.of [0, 1, 2, 3, 4, 5, 6, 7, 8, 9, 10, 11, 12, 13, 14, 15, 16, 17, 18, 19, 20, 21, 22, 23, 24, 25, 26, 27, 28, 29, 30, 31, 32, 33, 34, 35, 36, 37, 38, 39, 40, 41, 42, 43, 44, 45, 46, 47, 48, 49, 50, 51, 52, 53, 54, 55, 56, 57, 58, 59, 60, 61, 62, 63, 64, 65, 66, 67, 68, 69, 70, 71, 72, 73, 74, 75, 76, 77, 78, 79, 80, 81])) (.sq (.sq (.reg (rT Tryz.f133 5)) (.bk 0 (.lp 0 QgX QiM))) (.sq (.reg (rT Tryz.f133 10)) .rt)))))))
def QGo : List (RV × Option Ty) := [((.t 0), some (.sl QaF))]
abbrev QoJ : Sh := ⟨[(15, .ms 111), (113, .ty tI), (114, .ty tI)], [(111, .arr 142 QaF)]⟩
def QnX (x113 x114 : Int) (y111 : List Suite) : VS := QoJ.st ((), x113, x114, ()) (y111, ())
abbrev Qut : Sh := ⟨[(15, .ms 111)], [(111, .arr 142 QaF)]⟩
def Qd8 (y111 : List Suite) : VS := Qut.st ((), ()) (y111, ())
def QPm : VS → Option (Bool × List (Bool × Exit × VS)) := mkL QoJ (fun x y => (decide (0 ≤ x.2.2.1 ∧ x.2.2.1 ≤ 16 ∧ x.2.1 = 16 ∧ y.1.length = 16))) (fun x y => [(true, .exit 0, Qd8 (codeL x.2.2.1.toNat y.1))])
def QlG : G := ⟨TYs, [111], 125, EL [(159, QEQ)], keeps, (Ls [QPm]), IL [], RL []⟩
def QBF (x113 x114 : Int) (y111 : List Suite) : Option (Exit × VS) :=
 let a1 := Int.toNat x114
 br (ilt x114 x113) (br (cIx y111 x114) (br (cLd y111 a1) (some (.normal, QnX x113 (iadd .i64 x114 1) (List.set y111 a1 ((iadd .i64 x114 1), (lgt QaF y111 a1).2)))) none) none) (some (.exit 0, Qd8 y111))
noncomputable def Qjw (x113 x114 : Int) (y111 : List Suite) : Option (Exit × VS) := loopF (Qak QlG QgX QiM) (QnX x113 x114 y111)
noncomputable def Qs2 (x113 x114 : Int) (y111 : List Suite) : Option (Exit × VS) :=
 let a1 := Int.toNat x114
 br (ilt x114 x113) (br (cIx y111 x114) (br (cLd y111 a1) (Qjw x113 (iadd .i64 x114 1) (List.set y111 a1 ((iadd .i64 x114 1), (lgt QaF y111 a1).2))) none) none) (some (.exit 0, Qd8 y111))
def QpT (x113 x114 : Int) (y111 : List Suite) : Option (Exit × VS) := some (.exit 0, Qd8 (codeL x114.toNat y111))
theorem QLj (x113 x114 : Int) (y111 : List Suite) : Qak QlG QgX QiM (QnX x113 x114 y111) = QBF x113 x114 y111 := by kernel_rfl
theorem Qvp (x113 x114 : Int) (y111 : List Suite) : Qjw x113 x114 y111 = Qs2 x113 x114 y111 := (Qao _ _).trans (by
 rw [QLj]
 simp only [QBF, Qs2, Qay, nxt_n, nxt_r, nxt_e, nxt_0]
 rfl)
def QQT  : Option (V × List VO) :=
 let a1 := ((useP 5 0).1, (((useP 5 0).2).1, ()))
 let a2 := ((useP 20 0).1, (((useP 20 0).2).1, ()))
 let a3 := ((useP 22 0).1, (((useP 22 0).2).1, ()))
 let a4 := ((useP 12 256).1, (((useP 12 256).2).1, ()))
 let a5 := ((useP 10 0).1, (((useP 10 0).2).1, ()))
 let a6 := ((useP 15 168).1, (((useP 15 168).2).1, ()))
 let a7 := ((useP 16 128).1, (((useP 16 128).2).1, ()))
 let a8 := ((useP 17 256).1, (((useP 17 256).2).1, ()))
 let a9 := (ByteArray.mk #[101, 99, 100, 104, 101, 45, 101, 99, 100, 115, 97, 45, 97, 101, 115, 50, 53, 54, 45, 115, 104, 97, 50, 53, 54])
 let a10 := (ByteArray.mk #[101, 99, 100, 104, 101, 45, 101, 99, 100, 115, 97, 45, 97, 101, 115, 50, 53, 54, 45, 103, 99, 109])
 let a11 := ((useP 11 1024).1, (((useP 11 1024).2).1, ()))
 let a12 := (ByteArray.mk #[101, 99, 100, 104, 101, 45, 114, 115, 97, 45, 97, 101, 115, 49, 50, 56, 45, 115, 104, 97])
 let a13 := (ByteArray.mk #[101, 99, 100, 104, 101, 45, 114, 115, 97, 45, 97, 101, 115, 49, 50, 56, 45, 103, 99, 109])
 let a14 := ((useP 14 128).1, (((useP 14 128).2).1, ()))
 let a15 := ((useP 17 128).1, (((useP 17 128).2).1, ()))
 let a16 := (ByteArray.mk #[100, 104, 101, 45, 114, 115, 97, 45, 97, 101, 115, 49, 50, 56, 45, 115, 104, 97])
 let a17 := ((useP 18 0).1, (((useP 18 0).2).1, ()))
 let a18 := ((useP 7 0).1, (((useP 7 0).2).1, ()))
 let a19 := (ByteArray.mk #[100, 104, 101, 45, 100, 115, 97, 45, 100, 101, 115, 51, 45, 115, 104, 97])
 let a20 := (ByteArray.mk #[100, 104, 101, 45, 114, 115, 97, 45, 100, 101, 115, 51, 45, 115, 104, 97])
 let a21 := (ByteArray.mk #[109, 108, 107, 101, 109, 45, 97, 101, 115, 50, 53, 54, 45, 103, 99, 109])
 let a22 := (ByteArray.mk #[101, 99, 100, 104, 101, 45, 114, 115, 97, 45, 99, 104, 97, 99, 104, 97])
 let a23 := (ByteArray.mk #[114, 115, 97, 45, 97, 101, 115, 49, 50, 56, 45, 115, 104, 97])
 let a24 := (ByteArray.mk #[114, 115, 97, 45, 97, 101, 115, 50, 53, 54, 45, 103, 99, 109])
 let a25 := (ByteArray.mk #[114, 115, 97, 45, 100, 101, 115, 51, 45, 115, 104, 97])
 let a26 := (ByteArray.mk #[114, 115, 97, 45, 114, 99, 52, 45, 109, 100, 53])
 let a27 := (ByteArray.mk #[114, 115, 97, 45, 114, 99, 52, 45, 115, 104, 97])
 let a28 := (ByteArray.mk #[97, 101, 115, 49, 50, 56, 45, 103, 99, 109])
 let a29 := ((useP 11 2048).1, (((useP 11 2048).2).1, ()))
 let a30 := ((useP 16 256).1, (((useP 16 256).2).1, ()))
 let a31 := ((useP 12 384).1, (((useP 12 384).2).1, ()))
 let a32 := ((useP 13 768).1, (((useP 13 768).2).1, ()))
 let a33 := (ByteArray.mk #[99, 104, 97, 99, 104, 97])
 let a34 := ((useP 19 0).1, (((useP 19 0).2).1, ()))
 let a35 := ((useP 21 0).1, (((useP 21 0).2).1, ()))
 let a36 := ((useP 6 0).1, (((useP 6 0).2).1, ()))
 br (decide (0 ≤ (0 : Int) ∧ (0 : Int) ≤ 16 ∧ (llen ([(0, (a26, (a5, (a1, (a14, (a34, (1, (2, ())))))))), (0, (a27, (a5, (a1, (a14, (a2, (1, (3, ())))))))), (0, (a25, (a5, (a1, (a6, (a2, (1, (3, ())))))))), (0, (a19, (a11, (a36, (a6, (a2, (1, (3, ())))))))), (0, (a20, (a11, (a1, (a6, (a2, (1, (3, ())))))))), (0, (a23, (a5, (a1, (a7, (a2, (1, (3, ())))))))), (0, (a16, (a29, (a1, (a7, (a2, (1, (3, ())))))))), (0, (a12, (a4, (a1, (a7, (a2, (1, (3, ())))))))), (0, (a9, (a4, (a18, (a30, (a35, (3, (3, ())))))))), (0, (a13, (a4, (a1, (a15, (a3, (3, (3, ())))))))), (0, (a10, (a31, (a18, (a8, (a3, (3, (3, ())))))))), (0, (a22, (a4, (a1, (a17, (a3, (3, (3, ())))))))), (0, (a24, (a5, (a1, (a8, (a3, (3, (3, ())))))))), (0, (a28, (a4, ((0, (0, ())), (a15, (a3, (4, (4, ())))))))), (0, (a33, (a4, ((0, (0, ())), (a17, (a3, (4, (4, ())))))))), (0, (a21, (a32, ((0, (0, ())), (a8, (a3, (4, (4, ()))))))))])) = 16 ∧ ([(0, (a26, (a5, (a1, (a14, (a34, (1, (2, ())))))))), (0, (a27, (a5, (a1, (a14, (a2, (1, (3, ())))))))), (0, (a25, (a5, (a1, (a6, (a2, (1, (3, ())))))))), (0, (a19, (a11, (a36, (a6, (a2, (1, (3, ())))))))), (0, (a20, (a11, (a1, (a6, (a2, (1, (3, ())))))))), (0, (a23, (a5, (a1, (a7, (a2, (1, (3, ())))))))), (0, (a16, (a29, (a1, (a7, (a2, (1, (3, ())))))))), (0, (a12, (a4, (a1, (a7, (a2, (1, (3, ())))))))), (0, (a9, (a4, (a18, (a30, (a35, (3, (3, ())))))))), (0, (a13, (a4, (a1, (a15, (a3, (3, (3, ())))))))), (0, (a10, (a31, (a18, (a8, (a3, (3, (3, ())))))))), (0, (a22, (a4, (a1, (a17, (a3, (3, (3, ())))))))), (0, (a24, (a5, (a1, (a8, (a3, (3, (3, ())))))))), (0, (a28, (a4, ((0, (0, ())), (a15, (a3, (4, (4, ())))))))), (0, (a33, (a4, ((0, (0, ())), (a17, (a3, (4, (4, ())))))))), (0, (a21, (a32, ((0, (0, ())), (a8, (a3, (4, (4, ()))))))))]).length = 16)) (some (.t (.sl QaF) (codeL (0 : Int).toNat ([(0, (a26, (a5, (a1, (a14, (a34, (1, (2, ())))))))), (0, (a27, (a5, (a1, (a14, (a2, (1, (3, ())))))))), (0, (a25, (a5, (a1, (a6, (a2, (1, (3, ())))))))), (0, (a19, (a11, (a36, (a6, (a2, (1, (3, ())))))))), (0, (a20, (a11, (a1, (a6, (a2, (1, (3, ())))))))), (0, (a23, (a5, (a1, (a7, (a2, (1, (3, ())))))))), (0, (a16, (a29, (a1, (a7, (a2, (1, (3, ())))))))), (0, (a12, (a4, (a1, (a7, (a2, (1, (3, ())))))))), (0, (a9, (a4, (a18, (a30, (a35, (3, (3, ())))))))), (0, (a13, (a4, (a1, (a15, (a3, (3, (3, ())))))))), (0, (a10, (a31, (a18, (a8, (a3, (3, (3, ())))))))), (0, (a22, (a4, (a1, (a17, (a3, (3, (3, ())))))))), (0, (a24, (a5, (a1, (a8, (a3, (3, (3, ())))))))), (0, (a28, (a4, ((0, (0, ())), (a15, (a3, (4, (4, ())))))))), (0, (a33, (a4, ((0, (0, ())), (a17, (a3, (4, (4, ())))))))), (0, (a21, (a32, ((0, (0, ())), (a8, (a3, (4, (4, ()))))))))])), [])) none
theorem e_f133  : runF QlG QwY QGo false [] [] = QQT  := by kernel_rfl
theorem QWq : Qai Tryz.prog 133 := .inr ⟨by decide, _, Tryz.func133, by kernel_rfl, by kernel_rfl⟩
theorem QVt : GOk Tryz.prog QlG := Qal _ (gA (gC QWe QSw gN))
theorem QNv (x113 x114 : Int) (y111 : List Suite) (h : (decide (0 ≤ x114 ∧ x114 ≤ 16 ∧ x113 = 16 ∧ y111.length = 16)) = true) : Qjw x113 x114 y111 = QpT x113 x114 y111 := by
 simp only [decide_eq_true_eq] at h
 obtain ⟨h1, h2, rfl, h4⟩ := h
 obtain ⟨k, rfl⟩ := Int.eq_ofNat_of_zero_le h1
 revert y111
 refine QPw 16 (fun k => ∀ y111 : List Suite, y111.length = 16 → Qjw 16 (k : Int) y111 = QpT 16 (k : Int) y111) ?_ ?_ k (by omega)
 ·intro y111 _
  rw [Qvp]
  rfl
 ·intro k hk ih y111 hy
  rw [Qvp]
  have e1 : ilt (k : Int) 16 = true := decide_eq_true (by omega)
  have e2 : cLd y111 k = true := decide_eq_true (by omega)
  have e3 : codeL k y111 = codeL (k + 1) (y111.set k (((k + 1 : Nat) : Int), (y111.getD k QC8).2)) := by
   have : 16 - k = (16 - (k + 1)) + 1 := by omega
   unfold codeL
   rw [this, List.range'_succ, List.foldl_cons]
  simp only [Qs2, e1, Qac, Qav, show decide (k < y111.length) = true from decide_eq_true (by omega), Int.toNat_natCast, e2, add1 (show k < 4611686018427387904 by omega)]
  rw [ih _ (by rw [List.length_set]; exact hy)]
  simp only [QpT, Int.toNat_natCast, e3]
theorem QIY : ∀ S l p, QlG.L 0 (fgt QgX S) = some (true, l) → pickA l = some p → loopF (Qak QlG QgX QiM) S = some p :=
 QaD (s := QoJ) ⟨by decide, by decide⟩ (by kernel_rfl) fun x y hok p hp => by
 simp only [Qaq, Qan] at hp
 exact (QNv x.2.1 x.2.2.1 y.1 (by simpa using hok)).trans hp
theorem QTW : QwY.lok QlG := by
 repeat (first | exact trivial | exact QIY | refine ⟨?_, ?_⟩)
set_option maxRecDepth 100000 in
theorem s_f133 : QQT = some (.t (.sl QaF) Qe1, []) := by kernel_rfl
def QE2 : Ent := spec .nil (fun x => true) (fun x => (.t (.sl QaF) Qe1))
theorem QSI : Meets Tryz.prog 133 (strip QE2) := Qag (R := runF QlG QwY QGo false) (mG Tryz.func133 (by kernel_rfl) Tryz.ntmps133 (by kernel_rfl) QVt QTW) fun x _ => (e_f133 ).trans (s_f133 )
theorem QBW : (List.length (α := QaF.T) Qe1) = 16 := by kernel_rfl
theorem QnA : llen (α := QaF.T) Qe1 = 16 := by kernel_rfl
theorem QD3 {c : Int} (h : 1 ≤ c ∧ c ≤ 16) : cIx (α := QaF.T) Qe1 (c - 1) = true := by
 have := QBW
 simp only [cIx, decide_eq_true_eq]
 omega
def QaP (c : Int) : Suite × Int := if c < 1 ∨ 16 < c then (QC8, 8) else (lgt QaF Qe1 (c - 1).toNat, 0)
noncomputable def QDq : TC := (.sq (.reg (rT Tryz.f85 0)) (.sq (.reg (rT Tryz.f85 1)) (.sq (.sq (.reg (rT Tryz.f85 2)) (.cd (.t 13) (.sq (.reg (rT Tryz.f85 3)) .rt) .sk)) (.sq (.reg (rT Tryz.f85 4)) .rt))))
def QP8 : List (RV × Option Ty) := [((.c 2 true 12), some QaF), ((.t 3), some tI)]
def g_f85 : G := ⟨TYs, [], 20, EL [(133, QE2)], keeps, (fun _ _ => none), IL [], RL []⟩
def r_f85 (p0 : Int) : Option (V × List VO) := br (ilt p0 1) (some (.tu [(.t QaF (0, ((ByteArray.mk #[]), ((0, (0, ())), ((0, (0, ())), ((0, (0, ())), ((0, (0, ())), (0, (0, ()))))))))), (.t tI 8)], [])) (br (igt p0 (llen Qe1)) (some (.tu [(.t QaF (0, ((ByteArray.mk #[]), ((0, (0, ())), ((0, (0, ())), ((0, (0, ())), ((0, (0, ())), (0, (0, ()))))))))), (.t tI 8)], [])) (br (cIx Qe1 (isub .i64 p0 1)) (some (.tu [(.t QaF (lgt QaF Qe1 (Int.toNat (isub .i64 p0 1)))), (.t tI 0)], [])) none))
theorem e_f85 (p0 : Int) : runF g_f85 QDq QP8 false [.t tI p0] [] = r_f85 p0 := by kernel_rfl
theorem QA4 : Qai Tryz.prog 85 := .inr ⟨by decide, _, Tryz.func85, by kernel_rfl, by kernel_rfl⟩
theorem gk_f85 : GOk Tryz.prog g_f85 := Qal _ (gA (gC QWq QSI gN))
theorem lk_f85 : QDq.lok g_f85 := by repeat (first | exact trivial | refine ⟨?_, ?_⟩)
theorem s_f85 (c : Int) : r_f85 c = some (.tu [.t QaF (QaP c).1, .t tI (QaP c).2], []) := by
 simp only [r_f85]
 unfold QaP
 refine QaB (fun h1 => ?_) (fun h1 => QaB (fun h2 => ?_) (fun h2 => ?_))
 ·simp only [ilt, decide_eq_true_eq] at h1
  rw [if_pos (.inl h1)]
  rfl
 ·have h2 := of_decide_eq_true h2
  have := QnA
  rw [if_pos (.inr (by omega))]
  rfl
 ·simp only [ilt, decide_eq_false_iff_not] at h1
  have h2 := of_decide_eq_false h2
  have := QnA
  rw [if_neg (by omega), QbU (by omega), QD3 (by omega), Qac]
def QtT : Ent := spec (.pr tI .nil) (fun x => true) (fun x => (.tu [(.t QaF ((QaP x.1).1)), (.t tI ((QaP x.1).2))]))
theorem QzO : Meets Tryz.prog 85 (strip QtT) := Qag (R := runF g_f85 QDq QP8 false) (mG Tryz.func85 (by kernel_rfl) Tryz.ntmps85 (by kernel_rfl) gk_f85 lk_f85) fun x _ => (e_f85 x.1).trans (s_f85 x.1)
theorem QUy (a b : Keep) : (and (ieq a.1 b.1) (and (ieq a.2.1 b.2.1) true)) = (a == b) := by
 obtain ⟨a1, a2, _⟩ := a
 obtain ⟨b1, b2, _⟩ := b
 show _ = ((a1 == b1) && ((a2 == b2) && true))
 rfl
end
end Go.Proofs.YtckcgijklnloiaaGreat.K
namespace Go.Proofs.YtckcgijklnloiaaGreat.K
open Go.RowKit
noncomputable section
theorem Qtf (a b : Int) : ige a b = !ilt a b := by
 simp only [ige, ilt]
 rw [Bool.eq_iff_iff]
 simp
theorem QyB (a b : Int) : ile a b = !igt a b := by
 simp only [ile, igt]
 rw [Bool.eq_iff_iff]
 simp
theorem QyA (a b : Int) : ine a b = !ieq a b := rfl
theorem brB {q r : Bool} {X : Option (V × List VO)} (h : X = some (.t .bool r, [])) : br q (some (.t .bool false, [])) X = some (.t .bool (!q && r), []) := by
 subst h
 cases q <;> rfl
theorem brA {q r : Bool} {X : Option (V × List VO)} (h : X = some (.t .bool r, [])) : br q X (some (.t .bool false, [])) = some (.t .bool (q && r), []) := by
 subst h
 cases q <;> rfl
theorem br9 {q v : Bool} {n : Int} {X : Option (V × List VO)} (h0 : q = true → v = false) (hX : q = false → X = some (.t tI (bif v then 0 else n), [])) : br q (some (.t tI n, [])) X = some (.t tI (bif v then 0 else n), []) := by
 cases q with
 | true => rw [Qac, h0 rfl]; rfl
 | false => rw [Qaf, hX rfl]
open Classical in
def samB {α : Type} (a b : α) : Bool := decide (a = b)
theorem QoW {α : Type} (a : α) : samB a a = true := by
 unfold samB
 simp
theorem QxL {α : Type} {a b : α} (h : samB a b = true) : a = b := by
 unfold samB at h
 simpa using h
def keyI (n : Int) : Bool := !ilt n 0 && !igt n 2147483648
noncomputable def Qw8 : TC := (.sq (.reg (rT Tryz.f121 0)) (.sq (.reg (rT Tryz.f121 1)) .rt))
def QGy : List (RV × Option Ty) := [((.t 2), some .bool)]
def QAQ : G := ⟨TYs, [], 9, EL [], keeps, (fun _ _ => none), IL [], RL []⟩
def QHJ (p0 : Int) : Option (V × List VO) := br (ige p0 0) (some (.t .bool (ile p0 2147483648), [])) (some (.t .bool false, []))
theorem e_f121 (p0 : Int) : runF QAQ Qw8 QGy false [.t tI p0] [] = QHJ p0 := by kernel_rfl
theorem QyY : Qai Tryz.prog 121 := .inr ⟨by decide, _, Tryz.func121, by kernel_rfl, by kernel_rfl⟩
theorem QVD : GOk Tryz.prog QAQ := Qal _ (fun p hp => by cases hp)
theorem QT6 : Qw8.lok QAQ := by repeat (first | exact trivial | refine ⟨?_, ?_⟩)
theorem s_f121 (n : Int) : QHJ n = some (.t .bool (keyI n), []) := by
 simp only [QHJ, Qtf, QyB]
 exact brA rfl
def QrP : Ent := spec (.pr tI .nil) (fun x => true) (fun x => (.t .bool (keyI x.1)))
theorem Qx8 : Meets Tryz.prog 121 (strip QrP) := Qag (R := runF QAQ Qw8 QGy false) (mG Tryz.func121 (by kernel_rfl) Tryz.ntmps121 (by kernel_rfl) QVD QT6) fun x _ => (e_f121 x.1).trans (s_f121 x.1)
def sumI (n : Int) : Bool := !ilt n 0 && !ige n 4294967296
noncomputable def QwG : TC := (.sq (.reg (rT Tryz.f165 0)) (.sq (.reg (rT Tryz.f165 1)) .rt))
def QF6 : List (RV × Option Ty) := [((.t 2), some .bool)]
def QAx : G := ⟨TYs, [], 9, EL [], keeps, (fun _ _ => none), IL [], RL []⟩
def QHr (p0 : Int) : Option (V × List VO) := br (ige p0 0) (some (.t .bool (ilt p0 4294967296), [])) (some (.t .bool false, []))
theorem e_f165 (p0 : Int) : runF QAx QwG QF6 false [.t tI p0] [] = QHr p0 := by kernel_rfl
theorem QWb : Qai Tryz.prog 165 := .inr ⟨by decide, _, Tryz.func165, by kernel_rfl, by kernel_rfl⟩
theorem QVb : GOk Tryz.prog QAx := Qal _ (fun p hp => by cases hp)
theorem QTE : QwG.lok QAx := by repeat (first | exact trivial | refine ⟨?_, ?_⟩)
theorem s_f165 (n : Int) : QHr n = some (.t .bool (sumI n), []) := by
 simp only [QHr, sumI, Qtf, Bool.not_not]
 exact brA rfl
def QEN : Ent := spec (.pr tI .nil) (fun x => true) (fun x => (.t .bool (sumI x.1)))
theorem QSt : Meets Tryz.prog 165 (strip QEN) := Qag (R := runF QAx QwG QF6 false) (mG Tryz.func165 (by kernel_rfl) Tryz.ntmps165 (by kernel_rfl) QVb QTE) fun x _ => (e_f165 x.1).trans (s_f165 x.1)
def Qc6 (l : List ByteArray) (k : Nat) : Bool := (List.range' k (l.length - k)).all fun j => Qa9 (l.getD j ByteArray.empty) && (decide (j = 0) || slt (l.getD (j - 1) ByteArray.empty) (l.getD j ByteArray.empty))
theorem Qrb (l : List ByteArray) : Qc6 l l.length = true := by
 unfold Qc6
 rw [Nat.sub_self]
 rfl
theorem Qpj {l : List ByteArray} {k : Nat} (hk : k < l.length) : Qc6 l k = ((Qa9 l[k] && (decide (k = 0) || slt (l.getD (k - 1) ByteArray.empty) l[k])) && Qc6 l (k + 1)) := by
 have : l.length - k = (l.length - (k + 1)) + 1 := by omega
 unfold Qc6
 rw [this, List.range'_succ, List.all_cons]
 simp only [List.getD_eq_getElem?_getD, List.getElem?_eq_getElem hk, Option.getD_some]
def QhQ (l : List ByteArray) : Bool := Qc6 l 0 && !igt (llen l) 8
def Qb5 (l : List ByteArray) : Bool := decide (l.length ≤ 100000) && l.all nameG
def QgS : Fg := ⟨[(0, some (.sl .str)), (5, some (.sl .str)), (6, some tI), (7, some tI)], []⟩
noncomputable def QiH : TC := (.sq (.reg (rT Tryz.f163 2)) (.sq (.cd (.t 8) .sk (.fg ⟨[(0, some (.sl .str))], []⟩ (.ex 0))) (.sq (.bk 1 (.sq (.reg (rT Tryz.f163 3)) (.sq (.reg (rT Tryz.f163 4)) (.cd (.t 27) (.sq (.reg (rT Tryz.f163 5)) (.fg ⟨[(2, some .bool)], []⟩ .rt)) .sk)))) (.reg (rT Tryz.f163 6)))))
noncomputable def QwI : TC := (.sq (.reg (rT Tryz.f163 0)) (.sq (.sq (.reg (rT Tryz.f163 1)) (.bk 0 (.lp 0 QgS QiH))) (.sq (.reg (rT Tryz.f163 7)) .rt)))
def QF8 : List (RV × Option Ty) := [((.t 2), some .bool)]
abbrev QoB : Sh := ⟨[(0, .ty (.sl .str)), (5, .ty (.sl .str)), (6, .ty tI), (7, .ty tI)], []⟩
def QiY (x0 x5 : List ByteArray) (x6 x7 : Int) : VS := QoB.st (x0, x5, x6, x7, ()) ()
abbrev Qsb : Sh := ⟨[(2, .ty .bool)], []⟩
def QbG (x2 : Bool) : VS := Qsb.st (x2, ()) ()
abbrev Quo : Sh := ⟨[(0, .ty (.sl .str))], []⟩
def Qd3 (x0 : List ByteArray) : VS := Quo.st (x0, ()) ()
def QPh : VS → Option (Bool × List (Bool × Exit × VS)) := mkL QoB (fun x y => (rngOk x.2.1 x.2.2.1 x.2.2.2.1 && samB x.1 x.2.1 && Qb5 x.2.1)) (fun x y => [((!Qc6 x.2.1 x.2.2.2.1.toNat), .ret, QbG (false)), (true, .exit 0, Qd3 (x.1))])
def QlB : G := ⟨TYs, [], 32, EL [(124, QrO)], keeps, (Ls [QPh]), IL [], RL []⟩
def QBA (x0 x5 : List ByteArray) (x6 x7 : Int) : Option (Exit × VS) :=
 let a1 := lgt .str x5 (Int.toNat x7)
 br (ilt x7 x6) (br (cIx x5 x7) (br (nameG a1) (br (!(Qa9 a1)) (some (.ret, QbG false)) (br (igt x7 0) (br (cIx x0 (isub .i64 x7 1)) (br (!slt (lgt .str x0 (Int.toNat (isub .i64 x7 1))) a1) (some (.ret, QbG false)) (some (.normal, QiY x0 x5 x6 (iadd .i64 x7 1)))) none) (some (.normal, QiY x0 x5 x6 (iadd .i64 x7 1))))) none) none) (some (.exit 0, Qd3 x0))
noncomputable def Qgw (x0 x5 : List ByteArray) (x6 x7 : Int) : Option (Exit × VS) := loopF (Qak QlB QgS QiH) (QiY x0 x5 x6 x7)
noncomputable def QmL (x0 x5 : List ByteArray) (x6 x7 : Int) : Option (Exit × VS) :=
 let a1 := lgt .str x5 (Int.toNat x7)
 br (ilt x7 x6) (br (cIx x5 x7) (br (nameG a1) (br (!(Qa9 a1)) (some (.ret, QbG false)) (br (igt x7 0) (br (cIx x0 (isub .i64 x7 1)) (br (!slt (lgt .str x0 (Int.toNat (isub .i64 x7 1))) a1) (some (.ret, QbG false)) (Qgw x0 x5 x6 (iadd .i64 x7 1))) none) (Qgw x0 x5 x6 (iadd .i64 x7 1)))) none) none) (some (.exit 0, Qd3 x0))
def QjR (x0 x5 : List ByteArray) (x6 x7 : Int) : Option (Exit × VS) := br (!Qc6 x5 x7.toNat) (some (.ret, QbG (false))) <| some (.exit 0, Qd3 (x0))
theorem QLe (x0 x5 : List ByteArray) (x6 x7 : Int) : Qak QlB QgS QiH (QiY x0 x5 x6 x7) = QBA x0 x5 x6 x7 := by kernel_rfl
theorem Qvk (x0 x5 : List ByteArray) (x6 x7 : Int) : Qgw x0 x5 x6 x7 = QmL x0 x5 x6 x7 := (Qao _ _).trans (by
 rw [QLe]
 simp only [QBA, QmL, Qay, nxt_n, nxt_r, nxt_e, nxt_0]
 rfl)
def QHt (p0 : List ByteArray) : Option (V × List VO) := br (rngOk p0 (llen p0) (0 : Int) && samB p0 p0 && Qb5 p0) (br (!Qc6 p0 (0 : Int).toNat) (some (.t .bool (false), [])) (some (.t .bool (ile (llen (p0)) 8), []))) none
theorem e_f163 (p0 : List ByteArray) : runF QlB QwI QF8 false [.t (.sl .str) p0] [] = QHt p0 := by kernel_rfl
theorem QWd : Qai Tryz.prog 163 := .inr ⟨by decide, _, Tryz.func163, by kernel_rfl, by kernel_rfl⟩
theorem QVd : GOk Tryz.prog QlB := Qal _ (gA (gC QyX Qx7 gN))
theorem Qz7 {l : List ByteArray} {k : Nat} (h : 0 < k) (hk : k < l.length) : lgt .str l (Int.toNat (isub .i64 (k : Int) 1)) = l.getD (k - 1) ByteArray.empty ∧ cIx l (isub .i64 (k : Int) 1) = decide (k - 1 < l.length) ∨ 4611686018427387904 ≤ k := by
 rcases Nat.lt_or_ge k 4611686018427387904 with hb | hb
 ·left
  have e : isub .i64 (k : Int) 1 = ((k - 1 : Nat) : Int) := by rw [QbU (by omega)]; omega
  rw [e, Int.toNat_natCast, Qav]
  exact ⟨rfl, rfl⟩
 ·exact .inr hb
theorem QNq (x0 x5 : List ByteArray) (x6 x7 : Int) (h : (rngOk x5 x6 x7 && samB x0 x5 && Qb5 x5) = true) : Qgw x0 x5 x6 x7 = QjR x0 x5 x6 x7 := by
 simp only [Bool.and_eq_true] at h
 obtain ⟨⟨h0, hs⟩, hn⟩ := h
 have hs := QxL hs
 subst hs
 obtain ⟨rfl, h3, k, rfl, hk⟩ := rng_k h0
 clear h0
 simp only [Qb5, Bool.and_eq_true, List.all_eq_true] at hn
 refine Qat x0 (fun k => Qgw x0 x0 (x0.length : Int) (k : Int) = QjR x0 x0 (x0.length : Int) (k : Int)) ?_ ?_ k hk
 ·rw [Qvk]
  simp only [QmL, QjR, Qar, Nat.lt_irrefl, decide_false, Qaf, Int.toNat_natCast, Qrb, Bool.not_true]
 ·intro k hk ih
  rw [Qvk]
  have hx := hn.2 x0[k] (List.getElem_mem hk)
  simp only [QmL, Qar, Qav, hk, decide_true, Qac, Int.toNat_natCast, add1 (show k < 4611686018427387904 by omega), QaA (y := .str) hk, hx, ih]
  simp only [QjR, Int.toNat_natCast, Qpj hk]
  cases hg : Qa9 x0[k] with
  | false => rfl
  | true =>
   simp only [Bool.not_true, Qaf, Bool.true_and]
   by_cases h0 : k = 0
   ·subst h0
    simp only [show igt ((0 : Nat) : Int) 0 = false from rfl, Qaf, decide_true, Bool.true_or, Bool.true_and]
   ·rcases Qz7 (l := x0) (k := k) (by omega) hk with ⟨e1, e2⟩ | hb
    ·rw [show igt (k : Int) 0 = true from decide_eq_true (by omega), Qac, e2, decide_eq_true (show k - 1 < x0.length by omega), Qac, e1, decide_eq_false h0, Bool.false_or]
     cases slt (x0.getD (k - 1) ByteArray.empty) x0[k] <;> rfl
    ·omega
theorem QIT : ∀ S l p, QlB.L 0 (fgt QgS S) = some (true, l) → pickA l = some p → loopF (Qak QlB QgS QiH) S = some p :=
 QaD (s := QoB) ⟨by decide, by decide⟩ (by kernel_rfl) fun x y hok p hp => by
 simp only [Qaq, Qan] at hp
 exact (QNq x.1 x.2.1 x.2.2.1 x.2.2.2.1 (by simpa using hok)).trans hp
theorem QTG : QwI.lok QlB := by
 repeat (first | exact trivial | exact QIT | refine ⟨?_, ?_⟩)
theorem s_f163 (l : List ByteArray) (h : Qb5 l = true) : QHt l = some (.t .bool (QhQ l), []) := by
 have hl : l.length ≤ 100000 := by simp only [Qb5, Bool.and_eq_true, decide_eq_true_eq] at h; exact h.1
 simp only [QHt, rng_0 hl, QoW, h, Bool.and_self, Qac, Int.toNat_zero, QyB, QhQ]
 cases Qc6 l 0 <;> rfl
def QEP : Ent := spec (.pr (.sl .str) .nil) (fun x => (Qb5 x.1)) (fun x => (.t .bool (QhQ x.1)))
theorem QSv : Meets Tryz.prog 163 (strip QEP) := Qag (R := runF QlB QwI QF8 false) (mG Tryz.func163 (by kernel_rfl) Tryz.ntmps163 (by kernel_rfl) QVd QTG) fun x hok => (e_f163 x.1).trans (s_f163 x.1 hok)
def kindU (u : Keep) (k : Int) : Bool := QbV u && ieq (kindF u.1) k
noncomputable def QwH : TC := (.sq (.reg (rT Tryz.f164 0)) (.sq (.reg (rT Tryz.f164 1)) .rt))
def QF7 : List (RV × Option Ty) := [((.t 4), some .bool)]
def QAy : G := ⟨TYs, [], 14, EL [(125, QrN), (155, QrM)], keeps, (fun _ _ => none), IL [], RL []⟩
def QHs (p0 : Keep) (p1 : Int) : Option (V × List VO) := br (QbV p0) (some (.t .bool (ieq (kindF p0.1) p1), [])) (some (.t .bool false, []))
theorem e_f164 (p0 : Keep) (p1 : Int) : runF QAy QwH QF7 false [.t Qah p0, .t tI p1] [] = QHs p0 p1 := by kernel_rfl
theorem QWc : Qai Tryz.prog 164 := .inr ⟨by decide, _, Tryz.func164, by kernel_rfl, by kernel_rfl⟩
theorem QVc : GOk Tryz.prog QAy := Qal _ (gA (gC QyW Qx6 (gC QyU Qx4 gN)))
theorem QTF : QwH.lok QAy := by repeat (first | exact trivial | refine ⟨?_, ?_⟩)
theorem s_f164 (u : Keep) (k : Int) : QHs u k = some (.t .bool (kindU u k), []) := by
 simp only [QHs]
 exact brA rfl
def QEO : Ent := spec (.pr Qah (.pr tI .nil)) (fun x => true) (fun x => (.t .bool (kindU x.1 x.2.1)))
theorem QSu : Meets Tryz.prog 164 (strip QEO) := Qag (R := runF QAy QwH QF7 false) (mG Tryz.func164 (by kernel_rfl) Tryz.ntmps164 (by kernel_rfl) QVc QTF) fun x _ => (e_f164 x.1 x.2.1).trans (s_f164 x.1 x.2.1)
def signU (u : Keep) : Bool := kindU u 2
noncomputable def QwR : TC := (.sq (.reg (rT Tryz.f145 0)) (.sq (.reg (rT Tryz.f145 1)) .rt))
def QGh : List (RV × Option Ty) := [((.t 2), some .bool)]
def QAF : G := ⟨TYs, [], 11, EL [(70, QEa), (147, Qxm)], keeps, (fun _ _ => none), IL [], RL []⟩
def QHy (p0 : Keep) : Option (V × List VO) := br (QbV p0) (some (.t .bool (ieq (kindF p0.1) 2), [])) (some (.t .bool false, []))
theorem e_f145 (p0 : Keep) : runF QAF QwR QGh false [.t Qah p0] [] = QHy p0 := by kernel_rfl
theorem QWk : Qai Tryz.prog 145 := .inr ⟨by decide, _, Tryz.func145, by kernel_rfl, by kernel_rfl⟩
theorem QVm : GOk Tryz.prog QAF := Qal _ (gA (gC QRi QQ2 (gC QKg QIp gN)))
theorem QTP : QwR.lok QAF := by repeat (first | exact trivial | refine ⟨?_, ?_⟩)
theorem s_f145 (u : Keep) : QHy u = some (.t .bool (signU u), []) := by
 simp only [QHy]
 exact brA rfl
def QEW : Ent := spec (.pr Qah .nil) (fun x => true) (fun x => (.t .bool (signU x.1)))
theorem QSC : Meets Tryz.prog 145 (strip QEW) := Qag (R := runF QAF QwR QGh false) (mG Tryz.func145 (by kernel_rfl) Tryz.ntmps145 (by kernel_rfl) QVm QTP) fun x _ => (e_f145 x.1).trans (s_f145 x.1)
abbrev Qaz (c : Qaa) : List ByteArray := c.2.2.2.2.2.2.2.2.2.2.1
abbrev cSeal (c : Qaa) : Keep := c.2.2.2.2.2.2.2.2.2.2.2.1
def QaG (c : Qaa) : Bool := nameG c.2.1 && (nameG c.2.2.1 && Qb5 (Qaz c))
def QaE (c : Qaa) : Bool :=
 !ilt c.1 0 && (!igt c.1 1099511627776 && (Qa9 c.2.1 && (Qa9 c.2.2.1 && (QhQ (Qaz c) && (kindU c.2.2.2.1 2 && (keyI c.2.2.2.2.1 && (kindU c.2.2.2.2.2.1 1 && (keyI (cSeal c).1 && (sumI (cSeal c).2.1 &&
 (!ilt c.2.2.2.2.2.2.1 0 && (!igt c.2.2.2.2.2.2.1 c.2.2.2.2.2.2.2.1 && (!igt c.2.2.2.2.2.2.2.1 40000 && (!ilt c.2.2.2.2.2.2.2.2.2.1 0 && (!igt c.2.2.2.2.2.2.2.2.2.1 8 && (c.2.2.2.2.2.2.2.2.1 || ieq c.2.2.2.2.2.2.2.2.2.1 0)))))))))))))))
noncomputable def QwX : TC := (.sq (.reg (rT Tryz.f138 0)) (.sq (.sq (.reg (rT Tryz.f138 1)) (.cd (.t 28) (.sq (.reg (rT Tryz.f138 2)) .rt) .sk)) (.sq (.sq (.reg (rT Tryz.f138 3)) (.cd (.t 58) (.sq (.reg (rT Tryz.f138 4)) .rt) .sk)) (.sq (.sq (.reg (rT Tryz.f138 5)) (.cd (.t 73) (.sq (.reg (rT Tryz.f138 6)) .rt) .sk)) (.sq (.reg (rT Tryz.f138 7)) .rt)))))
def QGn : List (RV × Option Ty) := [((.t 2), some .bool)]
def QAJ : G := ⟨TYs, [], 91, EL [(121, QrP), (124, QrO), (163, QEP), (164, QEO), (165, QEN)], keeps, (fun _ _ => none), IL [], RL []⟩
def QHE (p0 : Qaa) : Option (V × List VO) := br (ilt p0.1 0) (some (.t .bool false, [])) (br (igt p0.1 1099511627776) (some (.t .bool false, [])) (br (nameG p0.2.1) (br (!(Qa9 p0.2.1)) (some (.t .bool false, [])) (br (nameG p0.2.2.1) (br (!(Qa9 p0.2.2.1)) (some (.t .bool false, [])) (br (Qb5 p0.2.2.2.2.2.2.2.2.2.2.1) (br (!(QhQ p0.2.2.2.2.2.2.2.2.2.2.1)) (some (.t .bool false, [])) (br (!(kindU p0.2.2.2.1 2)) (some (.t .bool false, [])) (br (!(keyI p0.2.2.2.2.1)) (some (.t .bool false, [])) (br (!(kindU p0.2.2.2.2.2.1 1)) (some (.t .bool false, [])) (br (!(keyI p0.2.2.2.2.2.2.2.2.2.2.2.1.1)) (some (.t .bool false, [])) (br (!(sumI p0.2.2.2.2.2.2.2.2.2.2.2.1.2.1)) (some (.t .bool false, [])) (br (ilt p0.2.2.2.2.2.2.1 0) (some (.t .bool false, [])) (br (igt p0.2.2.2.2.2.2.1 p0.2.2.2.2.2.2.2.1) (some (.t .bool false, [])) (br (igt p0.2.2.2.2.2.2.2.1 40000) (some (.t .bool false, [])) (br (ige p0.2.2.2.2.2.2.2.2.2.1 0) (br (ile p0.2.2.2.2.2.2.2.2.2.1 8) (br (p0.2.2.2.2.2.2.2.2.1) (some (.t .bool true, [])) (some (.t .bool (ieq p0.2.2.2.2.2.2.2.2.2.1 0), []))) (some (.t .bool false, []))) (some (.t .bool false, [])))))))))))) none)) none)) none))
theorem e_f138 (p0 : Qaa) : runF QAJ QwX QGn false [.t Qad p0] [] = QHE p0 := by kernel_rfl
theorem QKi : Qai Tryz.prog 138 := .inr ⟨by decide, _, Tryz.func138, by kernel_rfl, by kernel_rfl⟩
theorem QVs : GOk Tryz.prog QAJ := Qal _ (gA (gC QyY Qx8 (gC QyX Qx7 (gC QWd QSv (gC QWc QSu (gC QWb QSt gN))))))
theorem QTV : QwX.lok QAJ := by repeat (first | exact trivial | refine ⟨?_, ?_⟩)
theorem s_f138 (c : Qaa) (h : QaG c = true) : QHE c = some (.t .bool (QaE c), []) := by
 simp only [QaG, Bool.and_eq_true] at h
 obtain ⟨h1, h2, h3⟩ := h
 simp only [QHE, h1, h2, h3, Qac, Qtf, QyB]
 refine (brB <| brB <| brB <| brB <| brB <| brB <| brB <| brB <| brB <| brB <| brB <| brB <| brB <| brA <| brA (r := c.2.2.2.2.2.2.2.2.1 || ieq c.2.2.2.2.2.2.2.2.2.1 0) ?_).trans ?_
 ·cases c.2.2.2.2.2.2.2.2.1 <;> rfl
 ·simp only [Bool.not_not, QaE]
def Qxo : Ent := spec (.pr Qad .nil) (fun x => (QaG x.1)) (fun x => (.t .bool (QaE x.1)))
theorem QIr : Meets Tryz.prog 138 (strip Qxo) := Qag (R := runF QAJ QwX QGn false) (mG Tryz.func138 (by kernel_rfl) Tryz.ntmps138 (by kernel_rfl) QVs QTV) fun x hok => (e_f138 x.1).trans (s_f138 x.1 hok)
def QeX (c : Qaa) : Int := bif QaE c then 0 else 9
theorem Qg6 (c : Qaa) : ine (QeX c) 0 = !QaE c := by
 unfold QeX
 cases QaE c <;> rfl
noncomputable def QDl : TC := (.sq (.reg (rT Tryz.f96 0)) (.sq (.sq (.reg (rT Tryz.f96 1)) (.cd (.t 5) (.sq (.reg (rT Tryz.f96 2)) .rt) .sk)) (.sq (.reg (rT Tryz.f96 3)) .rt)))
def QP3 : List (RV × Option Ty) := [((.t 2), some tI)]
def g_f96 : G := ⟨TYs, [], 6, EL [(138, Qxo)], keeps, (fun _ _ => none), IL [], RL []⟩
def r_f96 (p0 : Qaa) : Option (V × List VO) := br (QaG p0) (br (!(QaE p0)) (some (.t tI 9, [])) (some (.t tI 0, []))) none
theorem e_f96 (p0 : Qaa) : runF g_f96 QDl QP3 false [.t Qad p0] [] = r_f96 p0 := by kernel_rfl
theorem QRg : Qai Tryz.prog 96 := .inr ⟨by decide, _, Tryz.func96, by kernel_rfl, by kernel_rfl⟩
theorem gk_f96 : GOk Tryz.prog g_f96 := Qal _ (gA (gC QKi QIr gN))
theorem lk_f96 : QDl.lok g_f96 := by repeat (first | exact trivial | refine ⟨?_, ?_⟩)
theorem s_f96 (c : Qaa) (h : QaG c = true) : r_f96 c = some (.t tI (QeX c), []) := by
 simp only [r_f96, h, Qac, QeX]
 cases QaE c <;> rfl
def QD8 : Ent := spec (.pr Qad .nil) (fun x => (QaG x.1)) (fun x => (.t tI (QeX x.1)))
theorem QQ0 : Meets Tryz.prog 96 (strip QD8) := Qag (R := runF g_f96 QDl QP3 false) (mG Tryz.func96 (by kernel_rfl) Tryz.ntmps96 (by kernel_rfl) gk_f96 lk_f96) fun x hok => (e_f96 x.1).trans (s_f96 x.1 hok)
noncomputable def QKz : List DO := dT Tryz.f130 9
def QgZ : Fg := ⟨[(1, none), (3, some tI)], [(1, some Qad)]⟩
noncomputable def QiO : TC := (.sq (.sq (.reg (rT Tryz.f130 8)) (.cd (.t 96) .sk (.fg ⟨[(1, none)], [(1, some Qad)]⟩ (.ex 0)))) (.sq (.bk 1 (.sq (.dr QKz [(0, [1]), (1, [1]), (2, []), (3, []), (4, []), (5, []), (6, []), (7, []), (8, []), (9, []), (10, []), (11, [1]), (12, [1]), (13, []), (14, []), (15, []), (16, []), (17, [1]), (18, [1]), (19, []), (20, []), (21, []), (22, []), (23, []), (24, [])] (.of [0, 1, 2, 3, 4, 5, 6, 7, 8, 9, 10, 11, 12, 13, 14, 15, 16, 17, 18, 19, 20, 21, 22, 23, 24])) (.cd (.t 123) (.sq (.reg (rT Tryz.f130 10)) (.fg ⟨[(2, some tI)], []⟩ .rt)) .sk))) (.reg (rT Tryz.f130 11))))
noncomputable def Qw1 : TC := (.sq (.reg (rT Tryz.f130 0)) (.sq (.sq (.reg (rT Tryz.f130 1)) (.cd (.t 39) (.sq (.reg (rT Tryz.f130 2)) .rt) .sk)) (.sq (.sq (.reg (rT Tryz.f130 3)) (.cd (.t 67) (.sq (.reg (rT Tryz.f130 4)) .rt) .sk)) (.sq (.sq (.reg (rT Tryz.f130 5)) (.cd (.t 91) (.sq (.reg (rT Tryz.f130 6)) .rt) .sk)) (.sq (.sq (.reg (rT Tryz.f130 7)) (.bk 0 (.lp 0 QgZ QiO))) (.sq (.sq (.reg (rT Tryz.f130 12)) (.cd (.t 145) (.sq (.reg (rT Tryz.f130 13)) .rt) .sk)) (.sq (.reg (rT Tryz.f130 14)) .rt)))))))
def QGr : List (RV × Option Ty) := [((.t 2), some tI)]
abbrev QoL : Sh := ⟨[(1, .ptr 1 0), (3, .ty tI)], [(1, .box Qad)]⟩
def QiZ (x3 : Int) (y1 : Qaa) : VS := QoL.st ((), x3, ()) (y1, ())
abbrev Qsg : Sh := ⟨[(2, .ty tI)], []⟩
def QbI (x2 : Int) : VS := Qsg.st (x2, ()) ()
abbrev Quv : Sh := ⟨[(1, .ptr 1 0)], [(1, .box Qad)]⟩
def Qea (y1 : Qaa) : VS := Quv.st ((), ()) (y1, ())
def QPo : VS → Option (Bool × List (Bool × Exit × VS)) := mkL QoL (fun x y => (decide (0 ≤ x.2.1 ∧ x.2.1 ≤ (Qaz y.1).length) && Qb5 (Qaz y.1))) (fun x y => [((!Qc6 (Qaz y.1) x.2.1.toNat), .ret, QbI (9)), (true, .exit 0, Qea (y.1))])
def QlI : G := ⟨TYs, [], 146, EL [(70, QEa), (145, QEW), (146, QEV), (147, Qxm)], keeps, (Ls [QPo]), IL [], RL []⟩
def QBH (x3 : Int) (y1 : Qaa) : Option (Exit × VS) :=
 let a1 := lgt .str y1.2.2.2.2.2.2.2.2.2.2.1 (Int.toNat x3)
 let a2 := cIx y1.2.2.2.2.2.2.2.2.2.2.1 x3
 br (ilt x3 (llen y1.2.2.2.2.2.2.2.2.2.2.1)) (br a2 (br (nameG a1) (br (!(Qa9 a1)) (some (.ret, QbI 9)) (br (igt x3 0) (br (cIx y1.2.2.2.2.2.2.2.2.2.2.1 (isub .i64 x3 1)) (br a2 (br (!slt (lgt .str y1.2.2.2.2.2.2.2.2.2.2.1 (Int.toNat (isub .i64 x3 1))) a1) (some (.ret, QbI 9)) (some (.normal, QiZ (iadd .i64 x3 1) y1))) none) none) (some (.normal, QiZ (iadd .i64 x3 1) y1)))) none) none) (some (.exit 0, Qea y1))
noncomputable def Qgx (x3 : Int) (y1 : Qaa) : Option (Exit × VS) := loopF (Qak QlI QgZ QiO) (QiZ x3 y1)
noncomputable def QmR (x3 : Int) (y1 : Qaa) : Option (Exit × VS) :=
 let a1 := lgt .str y1.2.2.2.2.2.2.2.2.2.2.1 (Int.toNat x3)
 let a2 := cIx y1.2.2.2.2.2.2.2.2.2.2.1 x3
 br (ilt x3 (llen y1.2.2.2.2.2.2.2.2.2.2.1)) (br a2 (br (nameG a1) (br (!(Qa9 a1)) (some (.ret, QbI 9)) (br (igt x3 0) (br (cIx y1.2.2.2.2.2.2.2.2.2.2.1 (isub .i64 x3 1)) (br a2 (br (!slt (lgt .str y1.2.2.2.2.2.2.2.2.2.2.1 (Int.toNat (isub .i64 x3 1))) a1) (some (.ret, QbI 9)) (Qgx (iadd .i64 x3 1) y1)) none) none) (Qgx (iadd .i64 x3 1) y1))) none) none) (some (.exit 0, Qea y1))
def QjX (x3 : Int) (y1 : Qaa) : Option (Exit × VS) := br (!Qc6 (Qaz y1) x3.toNat) (some (.ret, QbI (9))) <| some (.exit 0, Qea (y1))
theorem QLl (x3 : Int) (y1 : Qaa) : Qak QlI QgZ QiO (QiZ x3 y1) = QBH x3 y1 := by kernel_rfl
theorem Qvr (x3 : Int) (y1 : Qaa) : Qgx x3 y1 = QmR x3 y1 := (Qao _ _).trans (by
 rw [QLl]
 simp only [QBH, QmR, Qay, nxt_n, nxt_r, nxt_e, nxt_0]
 rfl)
def QsK (p0 : Qaa) : Option (V × List VO) :=
 let a1 := (((((((((((((p0).2).2).2).2).2).2).2).2).2).2).2).1)
 br (igt (llen p0.2.2.2.2.2.2.2.2.2.2.1) 8) (some (.t tI 9, [])) (br (decide (0 ≤ (0 : Int) ∧ (0 : Int) ≤ (Qaz p0).length) && Qb5 (Qaz p0)) (br (!Qc6 (Qaz p0) (0 : Int).toNat) (some (.t tI (9), [])) (br (ilt (a1.1) 0) (some (.t tI 9, [])) (br (igt (a1.1) 2147483648) (some (.t tI 9, [])) (br (ilt ((a1.2).1) 0) (some (.t tI 9, [])) (br (ige ((a1.2).1) 4294967296) (some (.t tI 9, [])) (some (.t tI 0, []))))))) none)
def QHG (p0 : Qaa) : Option (V × List VO) := br (ilt p0.1 0) (some (.t tI 9, [])) (br (igt p0.1 1099511627776) (some (.t tI 9, [])) (br (nameG p0.2.1) (br (!(Qa9 p0.2.1)) (some (.t tI 9, [])) (br (nameG p0.2.2.1) (br (!(Qa9 p0.2.2.1)) (some (.t tI 9, [])) (br (!(signU p0.2.2.2.1)) (some (.t tI 9, [])) (br (ilt p0.2.2.2.2.1 0) (some (.t tI 9, [])) (br (igt p0.2.2.2.2.1 2147483648) (some (.t tI 9, [])) (br (!(QbV p0.2.2.2.2.2.1)) (some (.t tI 9, [])) (br (ine (kindF p0.2.2.2.2.2.1.1) 1) (some (.t tI 9, [])) (br (ilt p0.2.2.2.2.2.2.1 0) (some (.t tI 9, [])) (br (igt p0.2.2.2.2.2.2.1 p0.2.2.2.2.2.2.2.1) (some (.t tI 9, [])) (br (igt p0.2.2.2.2.2.2.2.1 40000) (some (.t tI 9, [])) (br (ilt p0.2.2.2.2.2.2.2.2.2.1 0) (some (.t tI 9, [])) (br (igt p0.2.2.2.2.2.2.2.2.2.1 8) (some (.t tI 9, [])) (br (!p0.2.2.2.2.2.2.2.2.1) (br (ine p0.2.2.2.2.2.2.2.2.2.1 0) (some (.t tI 9, [])) (QsK p0)) (QsK p0))))))))))))) none)) none))
theorem e_f130 (p0 : Qaa) : runF QlI Qw1 QGr false [.t Qad p0] [] = QHG p0 := by kernel_rfl
theorem QKj : Qai Tryz.prog 130 := .inr ⟨by decide, _, Tryz.func130, by kernel_rfl, by kernel_rfl⟩
theorem QVw : GOk Tryz.prog QlI := Qal _ (gA (gC QRi QQ2 (gC QWk QSC (gC QWj QSB (gC QKg QIp gN)))))
theorem QNx (x3 : Int) (y1 : Qaa) (h : (decide (0 ≤ x3 ∧ x3 ≤ (Qaz y1).length) && Qb5 (Qaz y1)) = true) : Qgx x3 y1 = QjX x3 y1 := by
 simp only [Bool.and_eq_true, decide_eq_true_eq] at h
 obtain ⟨⟨h0, h1⟩, hn⟩ := h
 obtain ⟨k, rfl⟩ := Int.eq_ofNat_of_zero_le h0
 simp only [Qb5, Bool.and_eq_true, List.all_eq_true, decide_eq_true_eq] at hn
 refine Qat (Qaz y1) (fun k => Qgx (k : Int) y1 = QjX (k : Int) y1) ?_ ?_ k (by omega)
 ·rw [Qvr]
  simp only [QmR, QjX, show ilt ((Qaz y1).length : Int) (llen (Qaz y1)) = false from decide_eq_false (by simp only [llen]; omega), Qaf, Int.toNat_natCast, Qrb, Bool.not_true]
 ·intro k hk ih
  rw [Qvr]
  have hx := hn.2 (Qaz y1)[k] (List.getElem_mem hk)
  simp only [QmR, show ilt (k : Int) (llen (Qaz y1)) = true from decide_eq_true (by simp only [llen]; omega), Qav, hk, decide_true, Qac, Int.toNat_natCast, add1 (show k < 4611686018427387904 by omega), QaA (y := .str) hk, hx, ih]
  simp only [QjX, Int.toNat_natCast, Qpj hk]
  cases hg : Qa9 (Qaz y1)[k] with
  | false => rfl
  | true =>
   simp only [Bool.not_true, Qaf, Bool.true_and]
   by_cases h0 : k = 0
   ·subst h0
    simp only [show igt ((0 : Nat) : Int) 0 = false from rfl, Qaf, decide_true, Bool.true_or, Bool.true_and]
   ·rcases Qz7 (l := Qaz y1) (k := k) (by omega) hk with ⟨e1, e2⟩ | hb
    ·rw [show igt (k : Int) 0 = true from decide_eq_true (by omega), Qac, e2, decide_eq_true (show k - 1 < (Qaz y1).length by omega), Qac, e1, decide_eq_false h0, Bool.false_or]
     cases slt ((Qaz y1).getD (k - 1) ByteArray.empty) (Qaz y1)[k] <;> rfl
    ·omega
theorem QI0 : ∀ S l p, QlI.L 0 (fgt QgZ S) = some (true, l) → pickA l = some p → loopF (Qak QlI QgZ QiO) S = some p :=
 QaD (s := QoL) ⟨by decide, by decide⟩ (by kernel_rfl) fun x y hok p hp => by
 simp only [Qaq, Qan] at hp
 exact (QNx x.2.1 y.1 (by simpa using hok)).trans hp
theorem QTZ : Qw1.lok QlI := by
 repeat (first | exact trivial | exact QI0 | refine ⟨?_, ?_⟩)
theorem s_f130 (c : Qaa) (h : QaG c = true) : QHG c = some (.t tI (QeX c), []) := by
 simp only [QaG, Bool.and_eq_true] at h
 obtain ⟨h1, h2, h3⟩ := h
 have hd : decide ((0 : Int) ≤ 0 ∧ (0 : Int) ≤ (Qaz c).length) = true := decide_eq_true (by omega)
 unfold QeX
 simp only [QHG, QsK, h1, h2, h3, hd, Bool.and_self, Qac, Int.toNat_zero, QyA]
 refine br9 (fun g => by simp [QaE, g]) fun g1 => br9 (fun g => by simp [QaE, g]) fun g2 => br9 (fun g => by simp only [Bool.not_eq_true'] at g; simp [QaE, g]) fun g3 => br9 (fun g => by simp only [Bool.not_eq_true'] at g; simp [QaE, g]) fun g4 => br9 (fun g => by simp only [Bool.not_eq_true', signU] at g; simp [QaE, g]) fun g5 => br9 (fun g => by simp [QaE, keyI, g]) fun g6 => br9 (fun g => by simp [QaE, keyI, g]) fun g7 => br9 (fun g => by simp only [Bool.not_eq_true'] at g; simp [QaE, kindU, g]) fun g8 => br9 (fun g => by simp only [Bool.not_eq_true'] at g; simp [QaE, kindU, g]) fun g9 => br9 (fun g => by simp [QaE, g]) fun g10 => br9 (fun g => by simp [QaE, g]) fun g11 => br9 (fun g => by simp [QaE, g]) fun g12 => br9 (fun g => by simp [QaE, g]) fun g13 => br9 (fun g => by simp [QaE, g]) fun g14 => ?_
 have tail : ∀ (hp : (c.2.2.2.2.2.2.2.2.1 || ieq c.2.2.2.2.2.2.2.2.2.1 0) = true), br (igt (llen (Qaz c)) 8) (some (V.t tI 9, ([] : List VO))) (br (!Qc6 (Qaz c) 0) (some (V.t tI 9, [])) (br (ilt (cSeal c).1 0) (some (V.t tI 9, [])) (br (igt (cSeal c).1 2147483648) (some (V.t tI 9, [])) (br (ilt (cSeal c).2.1 0) (some (V.t tI 9, [])) (br (ige (cSeal c).2.1 4294967296) (some (V.t tI 9, [])) (some (V.t tI 0, []))))))) = some (V.t tI (bif QaE c then 0 else 9), ([] : List VO)) := by
  intro hp
  refine br9 (fun g => by simp [QaE, QhQ, g]) fun g15 => br9 (fun g => by simp only [Bool.not_eq_true'] at g; simp [QaE, QhQ, g]) fun g16 => br9 (fun g => by simp [QaE, keyI, g]) fun g17 => br9 (fun g => by simp [QaE, keyI, g]) fun g18 => br9 (fun g => by simp [QaE, sumI, g]) fun g19 => br9 (fun g => by simp [QaE, sumI, g]) fun g20 => ?_
  simp only [Bool.not_eq_false'] at g3 g4 g5 g8 g9 g16
  simp only [signU] at g5
  have : QaE c = true := by
   simp only [QaE, QhQ, kindU, keyI, sumI, g1, g2, g3, g4, g6, g7, g8, g9, g10, g11, g12, g13, g14, g15, g16, g17, g18, g19, g20, hp, Bool.not_false, Bool.and_self, Bool.true_and]
   simpa only [kindU, Bool.and_true] using g5
  rw [this]
  rfl
 cases ha : c.2.2.2.2.2.2.2.2.1 with
 | true =>
  rw [Bool.not_true, Qaf]
  exact tail (by rw [ha]; rfl)
 | false =>
  rw [Bool.not_false, Qac]
  refine br9 (fun g => by simp only [Bool.not_eq_true'] at g; simp [QaE, ha, g]) fun g => ?_
  exact tail (by simp only [Bool.not_eq_false'] at g; rw [g, Bool.or_true])
def Qxp : Ent := spec (.pr Qad .nil) (fun x => (QaG x.1)) (fun x => (.t tI (QeX x.1)))
theorem QIs : Meets Tryz.prog 130 (strip Qxp) := Qag (R := runF QlI Qw1 QGr false) (mG Tryz.func130 (by kernel_rfl) Tryz.ntmps130 (by kernel_rfl) QVw QTZ) fun x hok => (e_f130 x.1).trans (s_f130 x.1 hok)
end
end Go.Proofs.YtckcgijklnloiaaGreat.K
namespace Go.Proofs.YtckcgijklnloiaaGreat.K
open Go.RowKit
noncomputable section
theorem QQZ (n : Int) : (intL n).length ≤ 8 := by
 rw [intL, Qqs]
 exact QuW n
theorem Qih (n : Nat) (m : Int) : okT (n + 1) (intT m) = true := by
 have := QQZ m
 show okV (n + 1) (.mk 2 (intL m) false []) = true
 simp only [okV, List.isEmpty_nil, cond_false, List.all_nil, Bool.and_true, List.length_nil]
 rw [decide_eq_true (by omega)]
 rfl
theorem QsN (n : Nat) {s : ByteArray} (h : s.size ≤ 100000) : okT (n + 1) (txtT s) = true := by
 have := Qdo s
 show okV (n + 1) (.mk 12 (QaI s) false []) = true
 simp only [okV, List.isEmpty_nil, cond_false, List.all_nil, Bool.and_true, List.length_nil]
 rw [decide_eq_true (by omega)]
 rfl
theorem QMu (n : Nat) (b : Bool) : okT (n + 1) (boolT b) = true := by cases b <;> rfl
theorem QxV {n : Nat} {l : List ValT} (hl : l.length ≤ 100000) (h : ∀ x ∈ l, okT n x = true) : okT (n + 1) (lstT l) = true := by
 show okV (n + 1) (.mk 48 [] true (l.map Val.of)) = true
 simp only [okV, List.isEmpty_nil, cond_true, Bool.and_true, List.length_nil, List.length_map, Bool.and_eq_true, List.all_eq_true, List.mem_map]
 refine ⟨⟨⟨rfl, rfl⟩, decide_eq_true ⟨by omega, hl⟩⟩, ?_⟩
 rintro v ⟨x, hx, rfl⟩
 exact h x hx
theorem Qqp {n : Nat} {l : List ValT} (hl : l.length ≤ 100000) (h : ∀ x ∈ l, okT n x = true) : copLF (n + 1) l = true := by
 simp only [copLF, Bool.and_eq_true, decide_eq_true_eq, List.all_eq_true]
 exact ⟨hl, h⟩
theorem QkB (x : ValT) : ((x.1, (x.2.1, (x.2.2.1, (List.map Val.of (List.map Val.un x.2.2.2.1), ())))) : ValT) = x := by
 rw [QcP]
theorem Qij (m : Int) : (encT (intT m)).length ≤ 18 := by
 have h1 := QQZ m
 have h2 := Qhu ((intL m).length + 0)
 rw [Qqd]
 simp only [intT, encVs, List.length_cons, List.length_append, List.length_nil]
 omega
theorem QyO (s : ByteArray) : (encT (txtT s)).length ≤ 10 + s.size := by
 have h1 := Qdo s
 have h2 := Qhu ((QaI s).length + 0)
 rw [Qqd]
 simp only [txtT, encVs, List.length_cons, List.length_append, List.length_nil]
 omega
theorem QNV (b : Bool) : (encT (boolT b)).length ≤ 11 := by cases b <;> decide
theorem QyP (l : List ValT) : (encT (lstT l)).length ≤ 10 + (encL l).length := by
 have h2 := Qhu (0 + (encVs (l.map Val.of)).length)
 rw [Qqd]
 simp only [lstT, encL, List.length_cons, List.length_append, List.length_nil]
 omega
def useT (u : Keep) : ValT := lstT [intT u.1, intT u.2.1]
def QdH (u : Keep) : Bool := i64Ok u.1 && i64Ok u.2.1
theorem QHY (n : Nat) (u : Keep) : okT (n + 2) (useT u) = true :=
 QxV (by simp) fun x hx => by
  simp only [List.mem_cons, List.not_mem_nil, or_false] at hx
  rcases hx with rfl | rfl <;> exact Qih _ _
theorem QJQ (u : Keep) : (encT (useT u)).length ≤ 46 := by
 have h0 := QyP [intT u.1, intT u.2.1]
 have h1 := Qij u.1
 have h2 := Qij u.2.1
 simp only [Qcp, QhH, List.length_append, List.length_nil] at h0
 unfold useT
 omega
theorem QDf (u : Keep) : copOk [intT u.1, intT u.2.1] = true :=
 Qqp (n := 11) (by simp) fun x hx => by
  simp only [List.mem_cons, List.not_mem_nil, or_false] at hx
  rcases hx with rfl | rfl <;> exact Qih _ _
noncomputable def QKs : List DO := dT Tryz.f225 1
noncomputable def Qwe : TC := (.sq (.reg (rT Tryz.f225 0)) (.sq (.dr QKs [(0, [1]), (1, [1]), (2, []), (3, [1]), (4, [1]), (5, []), (6, []), (7, []), (8, [2])] (.of [0, 1, 2, 3, 4, 5, 6, 7, 8])) .rt))
def QFE : List (RV × Option Ty) := [((.c 2 true 4), some Qaj)]
def QAh : G := ⟨TYs, [], 11, EL [(223, QrL), (224, Qxi)], keeps, (fun _ _ => none), IL [], RL []⟩
def QG2 (p0 : Keep) : Option (V × List VO) :=
 let a1 := ((intT p0.2.1).1, (((intT p0.2.1).2).1, ((((intT p0.2.1).2).2).1, ((List.map Val.of (List.map Val.un (((((intT p0.2.1).2).2).2).1))), ()))))
 let a2 := ((intT p0.1).1, (((intT p0.1).2).1, ((((intT p0.1).2).2).1, ((List.map Val.of (List.map Val.un (((((intT p0.1).2).2).2).1))), ()))))
 br (i64Ok p0.1) (br (i64Ok p0.2.1) (br (copOk ([a2, a1])) (some (.t Qaj (lstT ([a2, a1])), [])) none) none) none
theorem e_f225 (p0 : Keep) : runF QAh Qwe QFE false [.t Qah p0] [] = QG2 p0 := by kernel_rfl
theorem QVT : Qai Tryz.prog 225 := .inr ⟨by decide, _, Tryz.func225, by kernel_rfl, by kernel_rfl⟩
theorem QUJ : GOk Tryz.prog QAh := Qal _ (gA (gC QyS Qx2 (gC QJ6 QIl gN)))
theorem QTc : Qwe.lok QAh := by repeat (first | exact trivial | refine ⟨?_, ?_⟩)
theorem s_f225 (u : Keep) (h : QdH u = true) : QG2 u = some (.t Qaj (useT u), []) := by
 simp only [QdH, Bool.and_eq_true] at h
 simp only [QG2, h.1, h.2, QkB, QDf, Qac]
 rfl
def QEp : Ent := spec (.pr Qah .nil) (fun x => (QdH x.1)) (fun x => (.t Qaj (useT x.1)))
theorem QR5 : Meets Tryz.prog 225 (strip QEp) := Qag (R := runF QAh Qwe QFE false) (mG Tryz.func225 (by kernel_rfl) Tryz.ntmps225 (by kernel_rfl) QUJ QTc) fun x hok => (e_f225 x.1).trans (s_f225 x.1 hok)
noncomputable def QKu : List DO := dT Tryz.f188 1
noncomputable def Qwu : TC := (.sq (.reg (rT Tryz.f188 0)) (.sq (.dr QKu [(0, [1]), (1, [1]), (2, []), (3, [1]), (4, [1]), (5, []), (6, []), (7, []), (8, [2])] (.of [0, 1, 2, 3, 4, 5, 6, 7, 8])) .rt))
def QFU : List (RV × Option Ty) := [((.c 2 true 4), some Qaj)]
def QAr : G := ⟨TYs, [], 11, EL [(186, Qxk), (187, Qxj)], keeps, (fun _ _ => none), IL [], RL []⟩
def QHg (p0 : Keep) : Option (V × List VO) :=
 let a1 := ((intT p0.2.1).1, (((intT p0.2.1).2).1, ((((intT p0.2.1).2).2).1, ((List.map Val.of (List.map Val.un (((((intT p0.2.1).2).2).2).1))), ()))))
 let a2 := ((intT p0.1).1, (((intT p0.1).2).1, ((((intT p0.1).2).2).1, ((List.map Val.of (List.map Val.un (((((intT p0.1).2).2).2).1))), ()))))
 br (i64Ok p0.1) (br (i64Ok p0.2.1) (br (copOk ([a2, a1])) (some (.t Qaj (lstT ([a2, a1])), [])) none) none) none
theorem e_f188 (p0 : Keep) : runF QAr Qwu QFU false [.t Qah p0] [] = QHg p0 := by kernel_rfl
theorem QV4 : Qai Tryz.prog 188 := .inr ⟨by decide, _, Tryz.func188, by kernel_rfl, by kernel_rfl⟩
theorem QUZ : GOk Tryz.prog QAr := Qal _ (gA (gC QKb QIn (gC QKa QIm gN)))
theorem QTs : Qwu.lok QAr := by repeat (first | exact trivial | refine ⟨?_, ?_⟩)
theorem s_f188 (u : Keep) (h : QdH u = true) : QHg u = some (.t Qaj (useT u), []) := by
 simp only [QdH, Bool.and_eq_true] at h
 simp only [QHg, h.1, h.2, QkB, QDf, Qac]
 rfl
def QED : Ent := spec (.pr Qah .nil) (fun x => (QdH x.1)) (fun x => (.t Qaj (useT x.1)))
theorem QSj : Meets Tryz.prog 188 (strip QED) := Qag (R := runF QAr Qwu QFU false) (mG Tryz.func188 (by kernel_rfl) Tryz.ntmps188 (by kernel_rfl) QUZ QTs) fun x hok => (e_f188 x.1).trans (s_f188 x.1 hok)
def Qgp (c : Qaa) : List ValT := [intT c.1, txtT c.2.1, txtT c.2.2.1, useT c.2.2.2.1, intT c.2.2.2.2.1, useT c.2.2.2.2.2.1, intT c.2.2.2.2.2.2.1, intT c.2.2.2.2.2.2.2.1, boolT c.2.2.2.2.2.2.2.2.1, intT c.2.2.2.2.2.2.2.2.2.1, lstT ((Qaz c).map txtT)]
def bodyT (c : Qaa) : ValT := lstT (Qgp c)
def QfV (c : Qaa) : Bool := QaG c && QaE c
theorem QBU {u : Keep} (h : QbV u = true) : 0 ≤ u.2.1 ∧ u.2.1 ≤ 16384 ∧ 1 ≤ u.1 ∧ u.1 ≤ 22 := by
 simp only [QbV, decide_eq_true_eq] at h
 have ham : ∀ (s t : List Int), (∀ x ∈ s, 0 ≤ x ∧ x ≤ 16384) → Qby u.2.1 s t > 0 → 0 ≤ u.2.1 ∧ u.2.1 ≤ 16384 := by
  intro s t hs hg
  unfold Qby at hg
  split at hg
  ·rename_i k hk
   have hm : u.2.1 ∈ s := by
    have key : ∀ (s : List Int) (k : Nat), idxN u.2.1 s = some k → u.2.1 ∈ s := by
     intro s
     induction s with
     | nil => intro k hk; cases hk
     | cons a s ih =>
      intro k hk
      unfold idxN at hk
      split at hk
      ·rename_i ha
       have := eq_of_beq ha
       rw [this]; exact List.mem_cons_self
      ·obtain ⟨j, hj, _⟩ := Option.map_eq_some_iff.1 hk
       exact List.mem_cons_of_mem _ (ih j hj)
    exact key s k hk
   exact hs _ hm
  ·omega
 rw [← and_assoc]
 unfold strF at h
 repeat' split at h
 ·refine ⟨?_, by omega⟩
  unfold Qel at h
  split at h <;> omega
 ·refine ⟨?_, by omega⟩
  unfold Qrk at h
  split at h
  ·rename_i hc
   simp only [hasF, List.contains_iff_mem, List.mem_cons, List.not_mem_nil, or_false] at hc
   omega
  ·omega
 ·exact ⟨ham _ _ (by simp) h, by omega⟩
 ·exact ⟨ham _ _ (by simp) h, by omega⟩
 ·exact ⟨ham _ _ (by simp) h, by omega⟩
 ·exact ⟨ham _ _ (by simp) h, by omega⟩
 ·exact ⟨ham _ _ (by simp) h, by omega⟩
 ·refine ⟨ham _ _ (by simp) h, ?_⟩
  unfold Qby at h
  split at h
  ·rename_i k hk
   unfold idxN at hk
   split at hk
   ·injection hk with hk
    subst hk
    simp only [List.getD_cons_zero, Qc0] at h
    repeat' split at h
    all_goals omega
   ·cases hk
  ·omega
theorem QvB {u : Keep} {k : Int} (h : kindU u k = true) : QdH u = true := by
 simp only [kindU, Bool.and_eq_true] at h
 have := QBU h.1
 simp only [QdH, i64Ok, Bool.and_eq_true, decide_eq_true_eq]
 omega
theorem QkV {s : ByteArray} (h : Qa9 s = true) : s.size ≤ 32 := by
 simp only [Qa9, Bool.and_eq_true, decide_eq_true_eq] at h
 exact h.2.2
theorem QCe {l : List ByteArray} : ∀ {k : Nat}, Qc6 l k = true → ∀ j (hj : j < l.length), k ≤ j → Qa9 l[j] = true := by
 intro k h j hj hk
 simp only [Qc6, List.all_eq_true, List.mem_range'_1, Bool.and_eq_true] at h
 have := (h j ⟨hk, by omega⟩).1
 simpa only [List.getD_eq_getElem?_getD, List.getElem?_eq_getElem hj, Option.getD_some] using this
theorem QH5 {l : List ByteArray} (h : QhQ l = true) : l.length ≤ 8 ∧ ∀ s ∈ l, s.size ≤ 32 := by
 simp only [QhQ, Bool.and_eq_true, Bool.not_eq_true', igt, llen, decide_eq_false_iff_not] at h
 refine ⟨by omega, fun s hs => ?_⟩
 obtain ⟨j, hj, rfl⟩ := List.mem_iff_getElem.1 hs
 exact QkV (QCe h.1 j hj (Nat.zero_le _))
theorem QfY {c : Qaa} (h : QaE c = true) : i64Ok c.1 = true ∧ c.2.1.size ≤ 32 ∧ c.2.2.1.size ≤ 32 ∧ QdH c.2.2.2.1 = true ∧ i64Ok c.2.2.2.2.1 = true ∧ QdH c.2.2.2.2.2.1 = true ∧ i64Ok c.2.2.2.2.2.2.1 = true ∧ i64Ok c.2.2.2.2.2.2.2.1 = true ∧ i64Ok c.2.2.2.2.2.2.2.2.2.1 = true ∧ (Qaz c).length ≤ 8 ∧ ∀ s ∈ Qaz c, s.size ≤ 32 := by
 simp only [QaE, keyI, Bool.and_eq_true, Bool.not_eq_true', ilt, igt, decide_eq_false_iff_not] at h
 obtain ⟨h1, h2, h3, h4, h5, h6, ⟨h7, h7'⟩, h8, ⟨h9, h9'⟩, h10, h11, h12, h13, h14, h15, h16⟩ := h
 have hn := QH5 h5
 refine ⟨decide_eq_true (by omega), QkV h3, QkV h4, QvB h6, decide_eq_true (by omega), QvB h8, decide_eq_true (by omega), decide_eq_true (by omega), decide_eq_true (by omega), hn.1, hn.2⟩
theorem QHZ (n : Nat) {l : List ByteArray} (h : l.length ≤ 8) (hs : ∀ s ∈ l, s.size ≤ 32) : okT (n + 2) (lstT (l.map txtT)) = true :=
 QxV (by rw [List.length_map]; omega) fun x hx => by
  obtain ⟨s, hm, rfl⟩ := List.mem_map.1 hx
  exact QsN _ (by have := hs s hm; omega)
theorem QuS (n : Nat) {c : Qaa} (h : QaE c = true) : ∀ x ∈ Qgp c, okT (n + 2) x = true := by
 obtain ⟨h1, h2, h3, h4, h5, h6, h7, h8, h9, h10, h11⟩ := QfY h
 intro x hx
 simp only [Qgp, List.mem_cons, List.not_mem_nil, or_false] at hx
 rcases hx with rfl | rfl | rfl | rfl | rfl | rfl | rfl | rfl | rfl | rfl | rfl
 ·exact Qih _ _
 ·exact QsN _ (by omega)
 ·exact QsN _ (by omega)
 ·exact QHY _ _
 ·exact Qih _ _
 ·exact QHY _ _
 ·exact Qih _ _
 ·exact Qih _ _
 ·exact QMu _ _
 ·exact Qih _ _
 ·exact QHZ _ h10 h11
theorem QA2 : ∀ {l : List ByteArray}, (∀ s ∈ l, s.size ≤ 32) → (encL (l.map txtT)).length ≤ 42 * l.length
 | [], _ => by simp [QhH]
 | s :: l, h => by
  have h1 := h s (by simp)
  have h2 := QyO s
  have h3 := QA2 (l := l) fun u hu => h u (by simp [hu])
  rw [List.map_cons, Qcp, List.length_append, List.length_cons]
  omega
theorem Qtr {c : Qaa} (h : QaE c = true) : (encT (bodyT c)).length ≤ 1000 := by
 obtain ⟨h1, h2, h3, h4, h5, h6, h7, h8, h9, h10, h11⟩ := QfY h
 have e0 := QyP (Qgp c)
 have e1 := Qij c.1
 have e2 := QyO c.2.1
 have e3 := QyO c.2.2.1
 have e4 := QJQ c.2.2.2.1
 have e5 := Qij c.2.2.2.2.1
 have e6 := QJQ c.2.2.2.2.2.1
 have e7 := Qij c.2.2.2.2.2.2.1
 have e8 := Qij c.2.2.2.2.2.2.2.1
 have e9 := QNV c.2.2.2.2.2.2.2.2.1
 have e10 := Qij c.2.2.2.2.2.2.2.2.2.1
 have e11 := QyP ((Qaz c).map txtT)
 have e12 := QA2 h11
 simp only [Qgp, Qcp, QhH, List.length_append, List.length_nil] at e0
 unfold bodyT
 simp only [Qgp]
 omega
theorem QRf {c : Qaa} (h : QaE c = true) : encOk (bodyT c) = true := by
 have := Qtr h
 simp only [encOk, Bool.and_eq_true, decide_eq_true_eq]
 refine ⟨QxV (by simp [Qgp]) (QuS 9 h), by omega⟩
theorem QuX {c : Qaa} (h : QaE c = true) : copOk ((Qaz c).map txtT) = true := by
 obtain ⟨h1, h2, h3, h4, h5, h6, h7, h8, h9, h10, h11⟩ := QfY h
 exact Qqp (n := 11) (by rw [List.length_map]; omega) fun x hx => by
  obtain ⟨s, hm, rfl⟩ := List.mem_map.1 hx
  exact QsN _ (by have := h11 s hm; omega)
theorem QuQ {c : Qaa} (h : QaE c = true) : copOk (Qgp c) = true := Qqp (n := 11) (by simp [Qgp]) (QuS 9 h)
theorem Qdn {s : ByteArray} (h : s.size ≤ 32) : Qbh s = true := decide_eq_true (by omega)
noncomputable def QKt : List DO := dT Tryz.f202 7
def QgL : Fg := ⟨[(1, none), (2, none), (3, none), (7, some (.sl .str)), (8, some tI), (9, some tI)], [(1, some Qad), (2, some Qaj), (3, none), (17, none)]⟩
noncomputable def QiA : TC := (.sq (.reg (rT Tryz.f202 3)) (.sq (.cd (.t 10) .sk (.fg ⟨[(1, none), (2, none), (3, none)], [(1, some Qad), (2, some Qaj), (3, none), (17, none)]⟩ (.ex 0))) (.sq (.bk 1 (.sq (.reg (rT Tryz.f202 4)) (.reg (rT Tryz.f202 5)))) (.reg (rT Tryz.f202 6)))))
noncomputable def Qwr : TC := (.sq (.reg (rT Tryz.f202 0)) (.sq (.reg (rT Tryz.f202 1)) (.sq (.sq (.reg (rT Tryz.f202 2)) (.bk 0 (.nw 3 202 (.lp 0 QgL QiA)))) (.sq (.dr QKt [(0, [1]), (1, [1]), (2, []), (3, [1]), (4, [1]), (5, []), (6, [1]), (7, [1]), (8, []), (9, [1]), (10, [1]), (11, []), (12, [1]), (13, [1]), (14, []), (15, [1]), (16, [1]), (17, []), (18, [1]), (19, [1]), (20, []), (21, [1]), (22, [1]), (23, []), (24, [1]), (25, [1]), (26, []), (27, [1]), (28, [1]), (29, []), (30, [3, 17]), (31, [3, 17, 50, 5050, 10050, 15050]), (32, []), (33, []), (34, [2])] (.of [0, 1, 2, 3, 4, 5, 6, 7, 8, 9, 10, 11, 12, 13, 14, 15, 16, 17, 18, 19, 20, 21, 22, 23, 24, 25, 26, 27, 28, 29, 30, 31, 32, 33, 34])) .rt))))
def QFR : List (RV × Option Ty) := [((.c 2 true 4), some Qaj)]
abbrev Qot : Sh := ⟨[(1, .ptr 1 0), (2, .ptr 2 0), (3, .ms 3), (7, .ty (.sl .str)), (8, .ty tI), (9, .ty tI)], [(1, .box Qad), (2, .box Qaj), (3, .arr 202 Qaj), (17, .no)]⟩
def QnM (x7 : List ByteArray) (x8 x9 : Int) (y1 : Qaa) (y2 : ValT) (y3 : List ValT) : VS := Qot.st ((), (), (), x7, x8, x9, ()) (y1, y2, y3, (), ())
abbrev Quh : Sh := ⟨[(1, .ptr 1 0), (2, .ptr 2 0), (3, .ms 3)], [(1, .box Qad), (2, .box Qaj), (3, .arr 202 Qaj), (17, .no)]⟩
def QdX (y1 : Qaa) (y2 : ValT) (y3 : List ValT) : VS := Quh.st ((), (), (), ()) (y1, y2, y3, (), ())
def QPa : VS → Option (Bool × List (Bool × Exit × VS)) := mkL Qot (fun x y => (rngOk x.2.2.2.1 x.2.2.2.2.1 x.2.2.2.2.2.1 && decide (y.2.2.1.length ≤ x.2.2.2.2.2.1.toNat ∧ x.2.2.2.1.length ≤ 8) && x.2.2.2.1.all fun s => decide (s.size ≤ 32))) (fun x y => [(true, .exit 0, QdX (y.1) (y.2.1) (y.2.2.1 ++ (x.2.2.2.1.drop x.2.2.2.2.2.1.toNat).map txtT))])
def Qlu : G := ⟨TYs, [], 53, EL [(222, QEq), (223, QrL), (224, Qxi), (225, QEp), (226, QEo), (227, QEn)], keeps, (Ls [QPa]), IL [], RL []⟩
def QBt (x7 : List ByteArray) (x8 x9 : Int) (y1 : Qaa) (y2 : ValT) (y3 : List ValT) : Option (Exit × VS) :=
 let a1 := ((txtT (lgt .str x7 (Int.toNat x9))).1, (((txtT (lgt .str x7 (Int.toNat x9))).2).1, ((((txtT (lgt .str x7 (Int.toNat x9))).2).2).1, ((List.map Val.of (List.map Val.un (((((txtT (lgt .str x7 (Int.toNat x9))).2).2).2).1))), ()))))
 br (ilt x9 x8) (br (cIx x7 x9) (br (Qbh (lgt .str x7 (Int.toNat x9))) (br (cApp y3 ([a1]) 64) (some (.normal, QnM x7 x8 (iadd .i64 x9 1) y1 y2 (y3 ++ ([a1])))) none) none) none) (some (.exit 0, QdX y1 y2 y3))
noncomputable def Qjk (x7 : List ByteArray) (x8 x9 : Int) (y1 : Qaa) (y2 : ValT) (y3 : List ValT) : Option (Exit × VS) := loopF (Qak Qlu QgL QiA) (QnM x7 x8 x9 y1 y2 y3)
noncomputable def QmG (x7 : List ByteArray) (x8 x9 : Int) (y1 : Qaa) (y2 : ValT) (y3 : List ValT) : Option (Exit × VS) :=
 let a1 := ((txtT (lgt .str x7 (Int.toNat x9))).1, (((txtT (lgt .str x7 (Int.toNat x9))).2).1, ((((txtT (lgt .str x7 (Int.toNat x9))).2).2).1, ((List.map Val.of (List.map Val.un (((((txtT (lgt .str x7 (Int.toNat x9))).2).2).2).1))), ()))))
 br (ilt x9 x8) (br (cIx x7 x9) (br (Qbh (lgt .str x7 (Int.toNat x9))) (br (cApp y3 ([a1]) 64) (Qjk x7 x8 (iadd .i64 x9 1) y1 y2 (y3 ++ ([a1]))) none) none) none) (some (.exit 0, QdX y1 y2 y3))
def QjN (x7 : List ByteArray) (x8 x9 : Int) (y1 : Qaa) (y2 : ValT) (y3 : List ValT) : Option (Exit × VS) := some (.exit 0, QdX (y1) (y2) (y3 ++ (x7.drop x9.toNat).map txtT))
theorem QK7 (x7 : List ByteArray) (x8 x9 : Int) (y1 : Qaa) (y2 : ValT) (y3 : List ValT) : Qak Qlu QgL QiA (QnM x7 x8 x9 y1 y2 y3) = QBt x7 x8 x9 y1 y2 y3 := by kernel_rfl
theorem Qve (x7 : List ByteArray) (x8 x9 : Int) (y1 : Qaa) (y2 : ValT) (y3 : List ValT) : Qjk x7 x8 x9 y1 y2 y3 = QmG x7 x8 x9 y1 y2 y3 := (Qao _ _).trans (by
 rw [QK7]
 simp only [QBt, QmG, Qay, nxt_n, nxt_r, nxt_e, nxt_0]
 rfl)
def QHe (p0 : Qaa) : Option (V × List VO) :=
 let a3 := ((((p0).2).2).2)
 let a1 := ((a3.2).2)
 let a2 := (lstT (([] : List ValT) ++ (p0.2.2.2.2.2.2.2.2.2.2.1.drop (0 : Int).toNat).map txtT))
 let a4 := ((intT (((((a1.2).2).2).2).1)).1, (((intT (((((a1.2).2).2).2).1)).2).1, ((((intT (((((a1.2).2).2).2).1)).2).2).1, ((List.map Val.of (List.map Val.un (((((intT (((((a1.2).2).2).2).1)).2).2).2).1))), ()))))
 let a5 := ((boolT ((((a1.2).2).2).1)).1, (((boolT ((((a1.2).2).2).1)).2).1, ((((boolT ((((a1.2).2).2).1)).2).2).1, ((List.map Val.of (List.map Val.un (((((boolT ((((a1.2).2).2).1)).2).2).2).1))), ()))))
 let a6 := ((txtT ((((p0).2).2).1)).1, (((txtT ((((p0).2).2).1)).2).1, ((((txtT ((((p0).2).2).1)).2).2).1, ((List.map Val.of (List.map Val.un (((((txtT ((((p0).2).2).1)).2).2).2).1))), ()))))
 let a7 := ((intT (((a1.2).2).1)).1, (((intT (((a1.2).2).1)).2).1, ((((intT (((a1.2).2).1)).2).2).1, ((List.map Val.of (List.map Val.un (((((intT (((a1.2).2).1)).2).2).2).1))), ()))))
 let a8 := ((txtT (((p0).2).1)).1, (((txtT (((p0).2).1)).2).1, ((((txtT (((p0).2).1)).2).2).1, ((List.map Val.of (List.map Val.un (((((txtT (((p0).2).1)).2).2).2).1))), ()))))
 let a9 := ((intT ((a3.2).1)).1, (((intT ((a3.2).1)).2).1, ((((intT ((a3.2).1)).2).2).1, ((List.map Val.of (List.map Val.un (((((intT ((a3.2).1)).2).2).2).1))), ()))))
 let a10 := ((intT ((a1.2).1)).1, (((intT ((a1.2).1)).2).1, ((((intT ((a1.2).1)).2).2).1, ((List.map Val.of (List.map Val.un (((((intT ((a1.2).1)).2).2).2).1))), ()))))
 let a11 := ((intT ((p0).1)).1, (((intT ((p0).1)).2).1, ((((intT ((p0).1)).2).2).1, ((List.map Val.of (List.map Val.un (((((intT ((p0).1)).2).2).2).1))), ()))))
 let a12 := ((useT (a3.1)).1, (((useT (a3.1)).2).1, ((((useT (a3.1)).2).2).1, ((List.map Val.of (List.map Val.un (((((useT (a3.1)).2).2).2).1))), ()))))
 let a13 := ((useT (a1.1)).1, (((useT (a1.1)).2).1, ((((useT (a1.1)).2).2).1, ((List.map Val.of (List.map Val.un (((((useT (a1.1)).2).2).2).1))), ()))))
 let a14 := ((a2.2).1, (((a2.2).2).1, ((List.map Val.of (List.map Val.un ((((a2.2).2).2).1))), ())))
 br (rngOk p0.2.2.2.2.2.2.2.2.2.2.1 (llen p0.2.2.2.2.2.2.2.2.2.2.1) (0 : Int) && decide (([] : List ValT).length ≤ (0 : Int).toNat ∧ p0.2.2.2.2.2.2.2.2.2.2.1.length ≤ 8) && p0.2.2.2.2.2.2.2.2.2.2.1.all fun s => decide (s.size ≤ 32)) (br (i64Ok ((p0).1)) (br (Qbh (((p0).2).1)) (br (Qbh ((((p0).2).2).1)) (br (QdH (a3.1)) (br (i64Ok ((a3.2).1)) (br (QdH (a1.1)) (br (i64Ok ((a1.2).1)) (br (i64Ok (((a1.2).2).1)) (br (i64Ok (((((a1.2).2).2).2).1)) (br (copOk (([] : List ValT) ++ (p0.2.2.2.2.2.2.2.2.2.2.1.drop (0 : Int).toNat).map txtT)) (br (copOk ([a11, a8, a6, a12, a9, a13, a10, a7, a5, a4, (a2.1, a14)])) (some (.t Qaj (lstT ([a11, a8, a6, a12, a9, a13, a10, a7, a5, a4, (a2.1, a14)])), [])) none) none) none) none) none) none) none) none) none) none) none) none
theorem e_f202 (p0 : Qaa) : runF Qlu Qwr QFR false [.t Qad p0] [] = QHe p0 := by kernel_rfl
theorem QV1 : Qai Tryz.prog 202 := .inr ⟨by decide, _, Tryz.func202, by kernel_rfl, by kernel_rfl⟩
theorem QUW : GOk Tryz.prog Qlu := Qal _ (gA (gC QVU QR6 (gC QyS Qx2 (gC QJ6 QIl (gC QVT QR5 (gC QVS QR4 (gC QVR QR3 gN)))))))
theorem QNj (x7 : List ByteArray) (x8 x9 : Int) (y1 : Qaa) (y2 : ValT) (y3 : List ValT) (h : (rngOk x7 x8 x9 && decide (y3.length ≤ x9.toNat ∧ x7.length ≤ 8) && x7.all fun s => decide (s.size ≤ 32)) = true) : Qjk x7 x8 x9 y1 y2 y3 = QjN x7 x8 x9 y1 y2 y3 := by
 simp only [Bool.and_eq_true, decide_eq_true_eq, List.all_eq_true] at h
 obtain ⟨⟨h0, h1, h2⟩, hn⟩ := h
 obtain ⟨rfl, h3, k, rfl, hk⟩ := rng_k h0
 clear h0
 rw [Int.toNat_natCast] at h1
 revert y3
 refine Qat x7 (fun k => ∀ y3 : List ValT, y3.length ≤ k → Qjk x7 (x7.length : Int) (k : Int) y1 y2 y3 = QjN x7 (x7.length : Int) (k : Int) y1 y2 y3) ?_ ?_ k hk
 ·intro y3 _
  rw [Qve]
  simp only [QmG, QjN, Qar, Nat.lt_irrefl, decide_false, Qaf, Int.toNat_natCast, List.drop_length, List.map_nil, List.append_nil]
 ·intro k hk ih y3 hy
  rw [Qve]
  have hx := hn x7[k] (List.getElem_mem hk)
  simp only [QmG, Qar, Qav, hk, decide_true, Qac, Int.toNat_natCast, add1 (show k < 4611686018427387904 by omega), QaA (y := .str) hk, Qdn hx, QkB]
  rw [cAppN (by omega) (by simp only [List.length_singleton]; omega), Qac, ih _ (by simp only [List.length_append, List.length_singleton]; omega)]
  simp only [QjN, Int.toNat_natCast, List.drop_eq_getElem_cons hk, List.map_cons, List.append_assoc, List.singleton_append]
theorem QIM : ∀ S l p, Qlu.L 0 (fgt QgL S) = some (true, l) → pickA l = some p → loopF (Qak Qlu QgL QiA) S = some p :=
 QaD (s := Qot) ⟨by decide, by decide⟩ (by kernel_rfl) fun x y hok p hp => by
 simp only [Qaq, Qan] at hp
 exact (QNj x.2.2.2.1 x.2.2.2.2.1 x.2.2.2.2.2.1 y.1 y.2.1 y.2.2.1 (by simpa using hok)).trans hp
theorem QTp : Qwr.lok Qlu := by
 repeat (first | exact trivial | exact QIM | refine ⟨?_, ?_⟩)
theorem s_f202 (c : Qaa) (h : QfV c = true) : QHe c = some (.t Qaj (bodyT c), []) := by
 simp only [QfV, Bool.and_eq_true] at h
 obtain ⟨_, hv⟩ := h
 obtain ⟨h1, h2, h3, h4, h5, h6, h7, h8, h9, h10, h11⟩ := QfY hv
 have hc := QuX hv
 have hp := QuQ hv
 have ha : ((Qaz c).all fun s => decide (s.size ≤ 32)) = true := List.all_eq_true.2 fun s hs => decide_eq_true (h11 s hs)
 have hl : ([] : List ValT).length ≤ 0 ∧ (Qaz c).length ≤ 8 := ⟨by simp, h10⟩
 simp only [Qgp] at hp
 simp only [QHe, rng_0 (show (Qaz c).length ≤ 100000 by omega), ha, Bool.and_self, h1, Qdn h2, Qdn h3, h4, h5, h6, h7, h8, h9, Qac, Int.toNat_zero, List.drop_zero, List.nil_append, QkB, hc, hp]
 rw [decide_eq_true hl]
 rfl
def QEA : Ent := spec (.pr Qad .nil) (fun x => (QfV x.1)) (fun x => (.t Qaj (bodyT x.1)))
theorem QSg : Meets Tryz.prog 202 (strip QEA) := Qag (R := runF Qlu Qwr QFR false) (mG Tryz.func202 (by kernel_rfl) Tryz.ntmps202 (by kernel_rfl) QUW QTp) fun x hok => (e_f202 x.1).trans (s_f202 x.1 hok)
noncomputable def QKw : List DO := dT Tryz.f158 6
def QgT : Fg := ⟨[(1, none), (2, none), (3, none), (4, some tI)], [(1, some Qad), (2, some Qaj), (3, none), (20, none)]⟩
noncomputable def QiI : TC := (.sq (.sq (.reg (rT Tryz.f158 3)) (.cd (.t 9) .sk (.fg ⟨[(1, none), (2, none), (3, none)], [(1, some Qad), (2, some Qaj), (3, none), (20, none)]⟩ (.ex 0)))) (.sq (.bk 1 (.reg (rT Tryz.f158 4))) (.reg (rT Tryz.f158 5))))
noncomputable def QwK : TC := (.sq (.reg (rT Tryz.f158 0)) (.sq (.reg (rT Tryz.f158 1)) (.sq (.sq (.reg (rT Tryz.f158 2)) (.bk 0 (.nw 3 202 (.lp 0 QgT QiI)))) (.sq (.dr QKw [(0, [1]), (1, [1]), (2, []), (3, [1]), (4, [1]), (5, []), (6, [1]), (7, [1]), (8, []), (9, [1]), (10, [1]), (11, []), (12, [1]), (13, [1]), (14, []), (15, [1]), (16, [1]), (17, []), (18, [1]), (19, [1]), (20, []), (21, [1]), (22, [1]), (23, []), (24, [1]), (25, [1]), (26, []), (27, [1]), (28, [1]), (29, []), (30, [3, 20]), (31, [3, 20, 52, 5052, 10052, 15052]), (32, []), (33, []), (34, [2])] (.of [0, 1, 2, 3, 4, 5, 6, 7, 8, 9, 10, 11, 12, 13, 14, 15, 16, 17, 18, 19, 20, 21, 22, 23, 24, 25, 26, 27, 28, 29, 30, 31, 32, 33, 34])) .rt))))
def QGa : List (RV × Option Ty) := [((.c 2 true 4), some Qaj)]
abbrev QoC : Sh := ⟨[(1, .ptr 1 0), (2, .ptr 2 0), (3, .ms 3), (4, .ty tI)], [(1, .box Qad), (2, .box Qaj), (3, .arr 202 Qaj), (20, .no)]⟩
def QnT (x4 : Int) (y1 : Qaa) (y2 : ValT) (y3 : List ValT) : VS := QoC.st ((), (), (), x4, ()) (y1, y2, y3, (), ())
abbrev Qup : Sh := ⟨[(1, .ptr 1 0), (2, .ptr 2 0), (3, .ms 3)], [(1, .box Qad), (2, .box Qaj), (3, .arr 202 Qaj), (20, .no)]⟩
def Qd4 (y1 : Qaa) (y2 : ValT) (y3 : List ValT) : VS := Qup.st ((), (), (), ()) (y1, y2, y3, (), ())
def QPi : VS → Option (Bool × List (Bool × Exit × VS)) := mkL QoC (fun x y => (decide (0 ≤ x.2.2.2.1 ∧ x.2.2.2.1 ≤ (Qaz y.1).length ∧ y.2.2.1.length ≤ x.2.2.2.1.toNat ∧ (Qaz y.1).length ≤ 8) && (Qaz y.1).all fun s => decide (s.size ≤ 32))) (fun x y => [(true, .exit 0, Qd4 (y.1) (y.2.1) (y.2.2.1 ++ ((Qaz y.1).drop x.2.2.2.1.toNat).map txtT))])
def QlC : G := ⟨TYs, [], 55, EL [(185, QEE), (186, Qxk), (187, Qxj), (188, QED), (189, QEC)], keeps, (Ls [QPi]), IL [], RL []⟩
def QBB (x4 : Int) (y1 : Qaa) (y2 : ValT) (y3 : List ValT) : Option (Exit × VS) :=
 let a1 := txtT (lgt .str y1.2.2.2.2.2.2.2.2.2.2.1 (Int.toNat x4))
 let a2 := ((a1.2).1, (((a1.2).2).1, ((List.map Val.of (List.map Val.un ((((a1.2).2).2).1))), ())))
 br (ilt x4 (llen y1.2.2.2.2.2.2.2.2.2.2.1)) (br (cIx y1.2.2.2.2.2.2.2.2.2.2.1 x4) (br (Qbh (lgt .str y1.2.2.2.2.2.2.2.2.2.2.1 (Int.toNat x4))) (br (cApp y3 ([(a1.1, a2)]) 64) (some (.normal, QnT (iadd .i64 x4 1) y1 y2 (y3 ++ ([(a1.1, a2)])))) none) none) none) (some (.exit 0, Qd4 y1 y2 y3))
noncomputable def Qjr (x4 : Int) (y1 : Qaa) (y2 : ValT) (y3 : List ValT) : Option (Exit × VS) := loopF (Qak QlC QgT QiI) (QnT x4 y1 y2 y3)
noncomputable def QmM (x4 : Int) (y1 : Qaa) (y2 : ValT) (y3 : List ValT) : Option (Exit × VS) :=
 let a1 := txtT (lgt .str y1.2.2.2.2.2.2.2.2.2.2.1 (Int.toNat x4))
 let a2 := ((a1.2).1, (((a1.2).2).1, ((List.map Val.of (List.map Val.un ((((a1.2).2).2).1))), ())))
 br (ilt x4 (llen y1.2.2.2.2.2.2.2.2.2.2.1)) (br (cIx y1.2.2.2.2.2.2.2.2.2.2.1 x4) (br (Qbh (lgt .str y1.2.2.2.2.2.2.2.2.2.2.1 (Int.toNat x4))) (br (cApp y3 ([(a1.1, a2)]) 64) (Qjr (iadd .i64 x4 1) y1 y2 (y3 ++ ([(a1.1, a2)]))) none) none) none) (some (.exit 0, Qd4 y1 y2 y3))
def QjS (x4 : Int) (y1 : Qaa) (y2 : ValT) (y3 : List ValT) : Option (Exit × VS) := some (.exit 0, Qd4 (y1) (y2) (y3 ++ ((Qaz y1).drop x4.toNat).map txtT))
theorem QLf (x4 : Int) (y1 : Qaa) (y2 : ValT) (y3 : List ValT) : Qak QlC QgT QiI (QnT x4 y1 y2 y3) = QBB x4 y1 y2 y3 := by kernel_rfl
theorem Qvl (x4 : Int) (y1 : Qaa) (y2 : ValT) (y3 : List ValT) : Qjr x4 y1 y2 y3 = QmM x4 y1 y2 y3 := (Qao _ _).trans (by
 rw [QLf]
 simp only [QBB, QmM, Qay, nxt_n, nxt_r, nxt_e, nxt_0]
 rfl)
def QHu (p0 : Qaa) : Option (V × List VO) :=
 let a3 := ((((p0).2).2).2)
 let a1 := ((a3.2).2)
 let a2 := (lstT (([] : List ValT) ++ ((Qaz p0).drop (0 : Int).toNat).map txtT))
 let a4 := ((intT (((((a1.2).2).2).2).1)).1, (((intT (((((a1.2).2).2).2).1)).2).1, ((((intT (((((a1.2).2).2).2).1)).2).2).1, ((List.map Val.of (List.map Val.un (((((intT (((((a1.2).2).2).2).1)).2).2).2).1))), ()))))
 let a5 := ((boolT ((((a1.2).2).2).1)).1, (((boolT ((((a1.2).2).2).1)).2).1, ((((boolT ((((a1.2).2).2).1)).2).2).1, ((List.map Val.of (List.map Val.un (((((boolT ((((a1.2).2).2).1)).2).2).2).1))), ()))))
 let a6 := ((txtT ((((p0).2).2).1)).1, (((txtT ((((p0).2).2).1)).2).1, ((((txtT ((((p0).2).2).1)).2).2).1, ((List.map Val.of (List.map Val.un (((((txtT ((((p0).2).2).1)).2).2).2).1))), ()))))
 let a7 := ((intT (((a1.2).2).1)).1, (((intT (((a1.2).2).1)).2).1, ((((intT (((a1.2).2).1)).2).2).1, ((List.map Val.of (List.map Val.un (((((intT (((a1.2).2).1)).2).2).2).1))), ()))))
 let a8 := ((txtT (((p0).2).1)).1, (((txtT (((p0).2).1)).2).1, ((((txtT (((p0).2).1)).2).2).1, ((List.map Val.of (List.map Val.un (((((txtT (((p0).2).1)).2).2).2).1))), ()))))
 let a9 := ((intT ((a3.2).1)).1, (((intT ((a3.2).1)).2).1, ((((intT ((a3.2).1)).2).2).1, ((List.map Val.of (List.map Val.un (((((intT ((a3.2).1)).2).2).2).1))), ()))))
 let a10 := ((intT ((a1.2).1)).1, (((intT ((a1.2).1)).2).1, ((((intT ((a1.2).1)).2).2).1, ((List.map Val.of (List.map Val.un (((((intT ((a1.2).1)).2).2).2).1))), ()))))
 let a11 := ((intT ((p0).1)).1, (((intT ((p0).1)).2).1, ((((intT ((p0).1)).2).2).1, ((List.map Val.of (List.map Val.un (((((intT ((p0).1)).2).2).2).1))), ()))))
 let a12 := ((useT (a3.1)).1, (((useT (a3.1)).2).1, ((((useT (a3.1)).2).2).1, ((List.map Val.of (List.map Val.un (((((useT (a3.1)).2).2).2).1))), ()))))
 let a13 := ((useT (a1.1)).1, (((useT (a1.1)).2).1, ((((useT (a1.1)).2).2).1, ((List.map Val.of (List.map Val.un (((((useT (a1.1)).2).2).2).1))), ()))))
 let a14 := ((a2.2).1, (((a2.2).2).1, ((List.map Val.of (List.map Val.un ((((a2.2).2).2).1))), ())))
 br (decide (0 ≤ (0 : Int) ∧ (0 : Int) ≤ (Qaz p0).length ∧ ([] : List ValT).length ≤ (0 : Int).toNat ∧ (Qaz p0).length ≤ 8) && (Qaz p0).all fun s => decide (s.size ≤ 32)) (br (i64Ok ((p0).1)) (br (Qbh (((p0).2).1)) (br (Qbh ((((p0).2).2).1)) (br (QdH (a3.1)) (br (i64Ok ((a3.2).1)) (br (QdH (a1.1)) (br (i64Ok ((a1.2).1)) (br (i64Ok (((a1.2).2).1)) (br (i64Ok (((((a1.2).2).2).2).1)) (br (copOk (([] : List ValT) ++ ((Qaz p0).drop (0 : Int).toNat).map txtT)) (br (copOk ([a11, a8, a6, a12, a9, a13, a10, a7, a5, a4, (a2.1, a14)])) (some (.t Qaj (lstT ([a11, a8, a6, a12, a9, a13, a10, a7, a5, a4, (a2.1, a14)])), [])) none) none) none) none) none) none) none) none) none) none) none) none
theorem e_f158 (p0 : Qaa) : runF QlC QwK QGa false [.t Qad p0] [] = QHu p0 := by kernel_rfl
theorem QWf : Qai Tryz.prog 158 := .inr ⟨by decide, _, Tryz.func158, by kernel_rfl, by kernel_rfl⟩
theorem QVf : GOk Tryz.prog QlC := Qal _ (gA (gC QV5 QSk (gC QKb QIn (gC QKa QIm (gC QV4 QSj (gC QV3 QSi gN))))))
theorem QNr (x4 : Int) (y1 : Qaa) (y2 : ValT) (y3 : List ValT) (h : (decide (0 ≤ x4 ∧ x4 ≤ (Qaz y1).length ∧ y3.length ≤ x4.toNat ∧ (Qaz y1).length ≤ 8) && (Qaz y1).all fun s => decide (s.size ≤ 32)) = true) : Qjr x4 y1 y2 y3 = QjS x4 y1 y2 y3 := by
 simp only [Bool.and_eq_true, decide_eq_true_eq, List.all_eq_true] at h
 obtain ⟨⟨h0, h1, h2, h3⟩, hn⟩ := h
 obtain ⟨k, rfl⟩ := Int.eq_ofNat_of_zero_le h0
 rw [Int.toNat_natCast] at h2
 revert y3
 refine Qat (Qaz y1) (fun k => ∀ y3 : List ValT, y3.length ≤ k → Qjr (k : Int) y1 y2 y3 = QjS (k : Int) y1 y2 y3) ?_ ?_ k (by omega)
 ·intro y3 _
  rw [Qvl]
  simp only [QmM, QjS, show ilt ((Qaz y1).length : Int) (llen (Qaz y1)) = false from decide_eq_false (by simp only [llen]; omega), Qaf, Int.toNat_natCast, List.drop_length, List.map_nil, List.append_nil]
 ·intro k hk ih y3 hy
  rw [Qvl]
  have hx := hn (Qaz y1)[k] (List.getElem_mem hk)
  simp only [QmM, show ilt (k : Int) (llen (Qaz y1)) = true from decide_eq_true (by simp only [llen]; omega), Qav, hk, decide_true, Qac, Int.toNat_natCast, add1 (show k < 4611686018427387904 by omega), QaA (y := .str) hk, Qdn hx, QkB]
  rw [cAppN (by omega) (by simp only [List.length_singleton]; omega), Qac, ih _ (by simp only [List.length_append, List.length_singleton]; omega)]
  simp only [QjS, Int.toNat_natCast, List.drop_eq_getElem_cons hk, List.map_cons, List.append_assoc, List.singleton_append]
theorem QIU : ∀ S l p, QlC.L 0 (fgt QgT S) = some (true, l) → pickA l = some p → loopF (Qak QlC QgT QiI) S = some p :=
 QaD (s := QoC) ⟨by decide, by decide⟩ (by kernel_rfl) fun x y hok p hp => by
 simp only [Qaq, Qan] at hp
 exact (QNr x.2.2.2.1 y.1 y.2.1 y.2.2.1 (by simpa using hok)).trans hp
theorem QTI : QwK.lok QlC := by
 repeat (first | exact trivial | exact QIU | refine ⟨?_, ?_⟩)
theorem s_f158 (c : Qaa) (h : QfV c = true) : QHu c = some (.t Qaj (bodyT c), []) := by
 simp only [QfV, Bool.and_eq_true] at h
 obtain ⟨_, hv⟩ := h
 obtain ⟨h1, h2, h3, h4, h5, h6, h7, h8, h9, h10, h11⟩ := QfY hv
 have hc := QuX hv
 have hp := QuQ hv
 have ha : ((Qaz c).all fun s => decide (s.size ≤ 32)) = true := List.all_eq_true.2 fun s hs => decide_eq_true (h11 s hs)
 have hl : (0 : Int) ≤ 0 ∧ (0 : Int) ≤ (Qaz c).length ∧ ([] : List ValT).length ≤ 0 ∧ (Qaz c).length ≤ 8 := ⟨by omega, by omega, by simp, h10⟩
 simp only [Qgp] at hp
 simp only [QHu, ha, Bool.and_self, h1, Qdn h2, Qdn h3, h4, h5, h6, h7, h8, h9, Qac, Int.toNat_zero, List.drop_zero, List.nil_append, QkB, hc, hp]
 rw [decide_eq_true hl]
 rfl
def QER : Ent := spec (.pr Qad .nil) (fun x => (QfV x.1)) (fun x => (.t Qaj (bodyT x.1)))
theorem QSx : Meets Tryz.prog 158 (strip QER) := Qag (R := runF QlC QwK QGa false) (mG Tryz.func158 (by kernel_rfl) Tryz.ntmps158 (by kernel_rfl) QVf QTI) fun x hok => (e_f158 x.1).trans (s_f158 x.1 hok)
end
end Go.Proofs.YtckcgijklnloiaaGreat.K
namespace Go.Proofs.YtckcgijklnloiaaGreat.K
open Go.RowKit
noncomputable section
def QbT (c : Qaa) : List Int × Int := bif QaE c then encE (bodyT c) else ([], 9)
theorem QKR {c : Qaa} (h : QaE c = true) : QbT c = (encT (bodyT c), 0) := by
 have := Qtr h
 rw [QbT, h, cond_true, encE, if_neg (by omega)]
theorem QCX (c : Qaa) : (QbT c).1.length ≤ 1000 := by
 cases h : QaE c with
 | true =>
  rw [QKR h]
  exact Qtr h
 | false =>
  rw [QbT, h]
  simp
noncomputable def QwF : TC := (.sq (.reg (rT Tryz.f166 0)) (.sq (.sq (.reg (rT Tryz.f166 1)) (.cd (.t 6) (.sq (.reg (rT Tryz.f166 2)) .rt) .sk)) (.sq (.reg (rT Tryz.f166 3)) .rt)))
def QF5 : List (RV × Option Ty) := [((.t 2), some (.sl (.int .u8))), ((.t 3), some tI)]
def QAw : G := ⟨TYs, [], 12, EL [(138, Qxo), (201, QEB), (202, QEA)], keeps, (fun _ _ => none), IL [], RL []⟩
def QzD (p0 : Qaa) : Option (V × List VO) := br (QaG p0) (br (!(QaE p0)) (some (.tu [(.t (.sl (.int .u8)) ([] : List Int)), (.t tI 9)], [])) (br (QfV p0) (br (encOk (bodyT p0)) (some (.tu [(.t (.sl (.int .u8)) ((encE (bodyT p0)).1)), (.t tI ((encE (bodyT p0)).2))], [])) none) none)) none
theorem e_f166 (p0 : Qaa) : runF QAw QwF QF5 false [.t Qad p0] [] = QzD p0 := by kernel_rfl
theorem QWa : Qai Tryz.prog 166 := .inr ⟨by decide, _, Tryz.func166, by kernel_rfl, by kernel_rfl⟩
theorem QVa : GOk Tryz.prog QAw := Qal _ (gA (gC QKi QIr (gC QV2 QSh (gC QV1 QSg gN))))
theorem QTD : QwF.lok QAw := by repeat (first | exact trivial | refine ⟨?_, ?_⟩)
theorem s_f166 (c : Qaa) (h : QaG c = true) : QzD c = some (.tu [.t (.sl (.int .u8)) (QbT c).1, .t tI (QbT c).2], []) := by
 unfold QbT
 cases hv : QaE c with
 | true => simp only [QzD, h, hv, QRf hv, show QfV c = true from by rw [QfV, h, hv]; rfl, Bool.not_true, Qac, Qaf, cond_true]
 | false => simp only [QzD, h, hv, Bool.not_false, Qac, cond_false]
def QEM : Ent := spec (.pr Qad .nil) (fun x => (QaG x.1)) (fun x => (.tu [(.t (.sl (.int .u8)) ((QbT x.1).1)), (.t tI ((QbT x.1).2))]))
theorem QSs : Meets Tryz.prog 166 (strip QEM) := Qag (R := runF QAw QwF QF5 false) (mG Tryz.func166 (by kernel_rfl) Tryz.ntmps166 (by kernel_rfl) QVa QTD) fun x hok => (e_f166 x.1).trans (s_f166 x.1 hok)
noncomputable def Qw0 : TC := (.sq (.reg (rT Tryz.f131 0)) (.sq (.sq (.reg (rT Tryz.f131 1)) (.cd (.t 6) (.sq (.reg (rT Tryz.f131 2)) .rt) .sk)) (.sq (.reg (rT Tryz.f131 3)) .rt)))
def QGq : List (RV × Option Ty) := [((.t 2), some (.sl (.int .u8))), ((.t 3), some tI)]
def QAK : G := ⟨TYs, [], 12, EL [(130, Qxp), (157, QES), (158, QER)], keeps, (fun _ _ => none), IL [], RL []⟩
def QzE (p0 : Qaa) : Option (V × List VO) := br (QaG p0) (br (ine (QeX p0) 0) (some (.tu [(.t (.sl (.int .u8)) ([] : List Int)), (.t tI 9)], [])) (br (QfV p0) (br (encOk (bodyT p0)) (some (.tu [(.t (.sl (.int .u8)) ((encE (bodyT p0)).1)), (.t tI ((encE (bodyT p0)).2))], [])) none) none)) none
theorem e_f131 (p0 : Qaa) : runF QAK Qw0 QGq false [.t Qad p0] [] = QzE p0 := by kernel_rfl
theorem QWs : Qai Tryz.prog 131 := .inr ⟨by decide, _, Tryz.func131, by kernel_rfl, by kernel_rfl⟩
theorem QVv : GOk Tryz.prog QAK := Qal _ (gA (gC QKj QIs (gC QWg QSy (gC QWf QSx gN))))
theorem QTY : Qw0.lok QAK := by repeat (first | exact trivial | refine ⟨?_, ?_⟩)
theorem s_f131 (c : Qaa) (h : QaG c = true) : QzE c = some (.tu [.t (.sl (.int .u8)) (QbT c).1, .t tI (QbT c).2], []) := by
 unfold QbT
 cases hv : QaE c with
 | true => simp only [QzE, h, hv, Qg6, QRf hv, show QfV c = true from by rw [QfV, h, hv]; rfl, Bool.not_true, Qac, Qaf, cond_true]
 | false => simp only [QzE, h, hv, Qg6, Bool.not_false, Qac, cond_false]
def QE4 : Ent := spec (.pr Qad .nil) (fun x => (QaG x.1)) (fun x => (.tu [(.t (.sl (.int .u8)) ((QbT x.1).1)), (.t tI ((QbT x.1).2))]))
theorem QSK : Meets Tryz.prog 131 (strip QE4) := Qag (R := runF QAK Qw0 QGq false) (mG Tryz.func131 (by kernel_rfl) Tryz.ntmps131 (by kernel_rfl) QVv QTY) fun x hok => (e_f131 x.1).trans (s_f131 x.1 hok)
def stepS (s x : Int) : Int := imul .u32 (ibxor .u32 s (icv .u32 x)) 16777619
def sumB (b : List Int) : Int := icv .i64 (b.foldl stepS 2166136261)
def lenB (b : List Int) : Bool := decide (b.length ≤ 100000)
def QgR : Fg := ⟨[(3, some (.int .u32)), (6, some (.sl (.int .u8))), (7, some tI), (8, some tI)], []⟩
noncomputable def QiG : TC := (.sq (.reg (rT Tryz.f167 3)) (.sq (.cd (.t 9) .sk (.fg ⟨[(3, some (.int .u32))], []⟩ (.ex 0))) (.sq (.bk 1 (.sq (.reg (rT Tryz.f167 4)) (.reg (rT Tryz.f167 5)))) (.reg (rT Tryz.f167 6)))))
noncomputable def QwE : TC := (.sq (.reg (rT Tryz.f167 0)) (.sq (.reg (rT Tryz.f167 1)) (.sq (.sq (.reg (rT Tryz.f167 2)) (.bk 0 (.lp 0 QgR QiG))) (.sq (.reg (rT Tryz.f167 7)) .rt))))
def QF4 : List (RV × Option Ty) := [((.t 2), some tI)]
abbrev QoA : Sh := ⟨[(3, .ty (.int .u32)), (6, .ty (.sl (.int .u8))), (7, .ty tI), (8, .ty tI)], []⟩
def QnS (x3 : Int) (x6 : List Int) (x7 x8 : Int) : VS := QoA.st (x3, x6, x7, x8, ()) ()
abbrev Qun : Sh := ⟨[(3, .ty (.int .u32))], []⟩
def Qd2 (x3 : Int) : VS := Qun.st (x3, ()) ()
def QPg : VS → Option (Bool × List (Bool × Exit × VS)) := mkL QoA (fun x y => (rngOk x.2.1 x.2.2.1 x.2.2.2.1)) (fun x y => [(true, .exit 0, Qd2 ((x.2.1.drop x.2.2.2.1.toNat).foldl stepS x.1))])
def QlA : G := ⟨TYs, [], 20, EL [], keeps, (Ls [QPg]), IL [], RL []⟩
def QBz (x3 : Int) (x6 : List Int) (x7 x8 : Int) : Option (Exit × VS) := br (ilt x8 x7) (br (cIx x6 x8) (some (.normal, QnS (imul .u32 (ibxor .u32 x3 (icv .u32 (lgt (.int .u8) x6 (Int.toNat x8)))) 16777619) x6 x7 (iadd .i64 x8 1))) none) (some (.exit 0, Qd2 x3))
noncomputable def Qjq (x3 : Int) (x6 : List Int) (x7 x8 : Int) : Option (Exit × VS) := loopF (Qak QlA QgR QiG) (QnS x3 x6 x7 x8)
noncomputable def QmK (x3 : Int) (x6 : List Int) (x7 x8 : Int) : Option (Exit × VS) := br (ilt x8 x7) (br (cIx x6 x8) (Qjq (imul .u32 (ibxor .u32 x3 (icv .u32 (lgt (.int .u8) x6 (Int.toNat x8)))) 16777619) x6 x7 (iadd .i64 x8 1)) none) (some (.exit 0, Qd2 x3))
def QjQ (x3 : Int) (x6 : List Int) (x7 x8 : Int) : Option (Exit × VS) := some (.exit 0, Qd2 ((x6.drop x8.toNat).foldl stepS x3))
theorem QLd (x3 : Int) (x6 : List Int) (x7 x8 : Int) : Qak QlA QgR QiG (QnS x3 x6 x7 x8) = QBz x3 x6 x7 x8 := by kernel_rfl
theorem Qvj (x3 : Int) (x6 : List Int) (x7 x8 : Int) : Qjq x3 x6 x7 x8 = QmK x3 x6 x7 x8 := (Qao _ _).trans (by
 rw [QLd]
 simp only [QBz, QmK, Qay, nxt_n, nxt_r, nxt_e, nxt_0]
 rfl)
def QHq (p0 : List Int) : Option (V × List VO) := br (rngOk p0 (llen p0) (0 : Int)) (some (.t tI (icv .i64 ((p0.drop (0 : Int).toNat).foldl stepS (2166136261 : Int))), [])) none
theorem e_f167 (p0 : List Int) : runF QlA QwE QF4 false [.t (.sl (.int .u8)) p0] [] = QHq p0 := by kernel_rfl
theorem QV9 : Qai Tryz.prog 167 := .inr ⟨by decide, _, Tryz.func167, by kernel_rfl, by kernel_rfl⟩
theorem QU9 : GOk Tryz.prog QlA := Qal _ (fun p hp => by cases hp)
theorem QNp (x3 : Int) (x6 : List Int) (x7 x8 : Int) (h : (rngOk x6 x7 x8) = true) : Qjq x3 x6 x7 x8 = QjQ x3 x6 x7 x8 := by
 obtain ⟨rfl, h3, k, rfl, hk⟩ := rng_k h
 clear h
 revert x3
 refine Qat x6 (fun k => ∀ x3 : Int, Qjq x3 x6 (x6.length : Int) (k : Int) = QjQ x3 x6 (x6.length : Int) (k : Int)) ?_ ?_ k hk
 ·intro x3
  rw [Qvj]
  simp only [QmK, QjQ, Qar, Nat.lt_irrefl, decide_false, Qaf, Int.toNat_natCast, List.drop_length, List.foldl_nil]
 ·intro k hk ih x3
  rw [Qvj]
  simp only [QmK, Qar, Qav, hk, decide_true, Qac, Int.toNat_natCast, add1 (show k < 4611686018427387904 by omega), QaA (y := .int .u8) hk, ih]
  simp only [QjQ, Int.toNat_natCast, List.drop_eq_getElem_cons hk, List.foldl_cons, stepS]
theorem QIS : ∀ S l p, QlA.L 0 (fgt QgR S) = some (true, l) → pickA l = some p → loopF (Qak QlA QgR QiG) S = some p :=
 QaD (s := QoA) ⟨by decide, by decide⟩ (by kernel_rfl) fun x y hok p hp => by
 simp only [Qaq, Qan] at hp
 exact (QNp x.1 x.2.1 x.2.2.1 x.2.2.2.1 (by simpa using hok)).trans hp
theorem QTC : QwE.lok QlA := by
 repeat (first | exact trivial | exact QIS | refine ⟨?_, ?_⟩)
theorem s_f167 (b : List Int) (h : lenB b = true) : QHq b = some (.t tI (sumB b), []) := by
 simp only [lenB, decide_eq_true_eq] at h
 simp only [QHq, rng_0 h, Qac, Int.toNat_zero, List.drop_zero]
 rfl
def QEL : Ent := spec (.pr (.sl (.int .u8)) .nil) (fun x => (lenB x.1)) (fun x => (.t tI (sumB x.1)))
theorem QSr : Meets Tryz.prog 167 (strip QEL) := Qag (R := runF QlA QwE QF4 false) (mG Tryz.func167 (by kernel_rfl) Tryz.ntmps167 (by kernel_rfl) QU9 QTC) fun x hok => (e_f167 x.1).trans (s_f167 x.1 hok)
def QgY : Fg := ⟨[(0, some (.sl (.int .u8))), (3, some (.int .u32)), (4, some tI)], []⟩
noncomputable def QiN : TC := (.sq (.sq (.reg (rT Tryz.f132 3)) (.cd (.t 8) .sk (.fg ⟨[(3, some (.int .u32))], []⟩ (.ex 0)))) (.sq (.bk 1 (.reg (rT Tryz.f132 4))) (.reg (rT Tryz.f132 5))))
noncomputable def QwZ : TC := (.sq (.reg (rT Tryz.f132 0)) (.sq (.reg (rT Tryz.f132 1)) (.sq (.sq (.reg (rT Tryz.f132 2)) (.bk 0 (.lp 0 QgY QiN))) (.sq (.reg (rT Tryz.f132 6)) .rt))))
def QGp : List (RV × Option Ty) := [((.t 2), some tI)]
abbrev QoK : Sh := ⟨[(0, .ty (.sl (.int .u8))), (3, .ty (.int .u32)), (4, .ty tI)], []⟩
def QnY (x0 : List Int) (x3 x4 : Int) : VS := QoK.st (x0, x3, x4, ()) ()
abbrev Quu : Sh := ⟨[(3, .ty (.int .u32))], []⟩
def Qd9 (x3 : Int) : VS := Quu.st (x3, ()) ()
def QPn : VS → Option (Bool × List (Bool × Exit × VS)) := mkL QoK (fun x y => (idxOk x.1 x.2.2.1)) (fun x y => [(true, .exit 0, Qd9 ((x.1.drop x.2.2.1.toNat).foldl stepS x.2.1))])
def QlH : G := ⟨TYs, [], 21, EL [], keeps, (Ls [QPn]), IL [], RL []⟩
def QBG (x0 : List Int) (x3 x4 : Int) : Option (Exit × VS) := br (ilt x4 (llen x0)) (br (cIx x0 x4) (some (.normal, QnY x0 (imul .u32 (ibxor .u32 x3 (icv .u32 (lgt (.int .u8) x0 (Int.toNat x4)))) 16777619) (iadd .i64 x4 1))) none) (some (.exit 0, Qd9 x3))
noncomputable def Qjx (x0 : List Int) (x3 x4 : Int) : Option (Exit × VS) := loopF (Qak QlH QgY QiN) (QnY x0 x3 x4)
noncomputable def QmQ (x0 : List Int) (x3 x4 : Int) : Option (Exit × VS) := br (ilt x4 (llen x0)) (br (cIx x0 x4) (Qjx x0 (imul .u32 (ibxor .u32 x3 (icv .u32 (lgt (.int .u8) x0 (Int.toNat x4)))) 16777619) (iadd .i64 x4 1)) none) (some (.exit 0, Qd9 x3))
def QjW (x0 : List Int) (x3 x4 : Int) : Option (Exit × VS) := some (.exit 0, Qd9 ((x0.drop x4.toNat).foldl stepS x3))
theorem QLk (x0 : List Int) (x3 x4 : Int) : Qak QlH QgY QiN (QnY x0 x3 x4) = QBG x0 x3 x4 := by kernel_rfl
theorem Qvq (x0 : List Int) (x3 x4 : Int) : Qjx x0 x3 x4 = QmQ x0 x3 x4 := (Qao _ _).trans (by
 rw [QLk]
 simp only [QBG, QmQ, Qay, nxt_n, nxt_r, nxt_e, nxt_0]
 rfl)
def QHF (p0 : List Int) : Option (V × List VO) := br (idxOk p0 (0 : Int)) (some (.t tI (icv .i64 ((p0.drop (0 : Int).toNat).foldl stepS (2166136261 : Int))), [])) none
theorem e_f132 (p0 : List Int) : runF QlH QwZ QGp false [.t (.sl (.int .u8)) p0] [] = QHF p0 := by kernel_rfl
theorem QWr : Qai Tryz.prog 132 := .inr ⟨by decide, _, Tryz.func132, by kernel_rfl, by kernel_rfl⟩
theorem QVu : GOk Tryz.prog QlH := Qal _ (fun p hp => by cases hp)
theorem QNw (x0 : List Int) (x3 x4 : Int) (h : (idxOk x0 x4) = true) : Qjx x0 x3 x4 = QjW x0 x3 x4 := by
 simp only [idxOk, decide_eq_true_eq] at h
 obtain ⟨h0, h1, h2⟩ := h
 obtain ⟨k, rfl⟩ := Int.eq_ofNat_of_zero_le h0
 revert x3
 refine Qat x0 (fun k => ∀ x3 : Int, Qjx x0 x3 (k : Int) = QjW x0 x3 (k : Int)) ?_ ?_ k (by omega)
 ·intro x3
  rw [Qvq]
  simp only [QmQ, QjW, show ilt (x0.length : Int) (llen x0) = false from decide_eq_false (by simp only [llen]; omega), Qaf, Int.toNat_natCast, List.drop_length, List.foldl_nil]
 ·intro k hk ih x3
  rw [Qvq]
  simp only [QmQ, show ilt (k : Int) (llen x0) = true from decide_eq_true (by simp only [llen]; omega), Qav, hk, decide_true, Qac, Int.toNat_natCast, add1 (show k < 4611686018427387904 by omega), QaA (y := .int .u8) hk, ih]
  simp only [QjW, Int.toNat_natCast, List.drop_eq_getElem_cons hk, List.foldl_cons, stepS]
theorem QIZ : ∀ S l p, QlH.L 0 (fgt QgY S) = some (true, l) → pickA l = some p → loopF (Qak QlH QgY QiN) S = some p :=
 QaD (s := QoK) ⟨by decide, by decide⟩ (by kernel_rfl) fun x y hok p hp => by
 simp only [Qaq, Qan] at hp
 exact (QNw x.1 x.2.1 x.2.2.1 (by simpa using hok)).trans hp
theorem QTX : QwZ.lok QlH := by
 repeat (first | exact trivial | exact QIZ | refine ⟨?_, ?_⟩)
theorem s_f132 (b : List Int) (h : lenB b = true) : QHF b = some (.t tI (sumB b), []) := by
 simp only [lenB, decide_eq_true_eq] at h
 simp only [QHF, show idxOk b 0 = true from decide_eq_true (by omega), Qac, Int.toNat_zero, List.drop_zero]
 rfl
def QE3 : Ent := spec (.pr (.sl (.int .u8)) .nil) (fun x => (lenB x.1)) (fun x => (.t tI (sumB x.1)))
theorem QSJ : Meets Tryz.prog 132 (strip QE3) := Qag (R := runF QlH QwZ QGp false) (mG Tryz.func132 (by kernel_rfl) Tryz.ntmps132 (by kernel_rfl) QVu QTX) fun x hok => (e_f132 x.1).trans (s_f132 x.1 hok)
theorem QRb (c : Qaa) : lenB (QbT c).1 = true := decide_eq_true (by have := QCX c; omega)
def QkK (c : Qaa) (k : Int) : Bool := ieq (QbT c).2 0 && (ieq (cSeal c).1 k && ieq (cSeal c).2.1 (sumB (QbT c).1))
def QeC (c : Qaa) (_k : Int) : Bool := QaG c
noncomputable def QKx : List DO := dT Tryz.f141 2
noncomputable def QwU : TC := (.sq (.reg (rT Tryz.f141 0)) (.sq (.reg (rT Tryz.f141 1)) (.sq (.dr QKx [(0, []), (1, []), (2, []), (3, [2]), (4, [2]), (5, []), (6, []), (7, []), (8, []), (9, []), (10, []), (11, [])] (.of [0, 1, 2, 3, 4, 5, 6, 7, 8, 9, 10, 11])) .rt)))
def QGk : List (RV × Option Ty) := [((.t 4), some .bool)]
def QAH : G := ⟨TYs, [], 23, EL [(166, QEM), (167, QEL)], keeps, (fun _ _ => none), IL [], RL []⟩
def QHB (p0 : Qaa) (p1 : Int) : Option (V × List VO) := br (QaG p0) (br (ieq ((QbT p0).2) 0) (br (lenB ((QbT p0).1)) (some (.t .bool (and (ieq p0.2.2.2.2.2.2.2.2.2.2.2.1.1 p1) (and (ieq p0.2.2.2.2.2.2.2.2.2.2.2.1.2.1 (sumB ((QbT p0).1))) true)), [])) none) (some (.t .bool false, []))) none
theorem e_f141 (p0 : Qaa) (p1 : Int) : runF QAH QwU QGk false [.t Qad p0, .t tI p1] [] = QHB p0 p1 := by kernel_rfl
theorem QWm : Qai Tryz.prog 141 := .inr ⟨by decide, _, Tryz.func141, by kernel_rfl, by kernel_rfl⟩
theorem QVp : GOk Tryz.prog QAH := Qal _ (gA (gC QWa QSs (gC QV9 QSr gN)))
theorem QTS : QwU.lok QAH := by repeat (first | exact trivial | refine ⟨?_, ?_⟩)
theorem s_f141 (c : Qaa) (k : Int) (h : QeC c k = true) : QHB c k = some (.t .bool (QkK c k), []) := by
 simp only [QHB, show QaG c = true from h, QRb, Qac, Bool.and_true]
 exact brA rfl
def QEY : Ent := spec (.pr Qad (.pr tI .nil)) (fun x => (QeC x.1 x.2.1)) (fun x => (.t .bool (QkK x.1 x.2.1)))
theorem QSE : Meets Tryz.prog 141 (strip QEY) := Qag (R := runF QAH QwU QGk false) (mG Tryz.func141 (by kernel_rfl) Tryz.ntmps141 (by kernel_rfl) QVp QTS) fun x hok => (e_f141 x.1 x.2.1).trans (s_f141 x.1 x.2.1 hok)
def copyC (c : Qaa) : Qaa := c
noncomputable def Qw2 : TC := (.sq (.reg (rT Tryz.f129 0)) (.sq (.reg (rT Tryz.f129 1)) (.sq (.reg (rT Tryz.f129 2)) .rt)))
def QGs : List (RV × Option Ty) := [((.c 2 true 15), some Qad)]
def QAL : G := ⟨TYs, [3], 9, EL [], keeps, (fun _ _ => none), IL [], RL []⟩
def QHH (p0 : Qaa) : Option (V × List VO) := br (cApp ([] : List ByteArray) p0.2.2.2.2.2.2.2.2.2.2.1 16) (some (.t Qad (p0.1, (p0.2.1, (p0.2.2.1, ((p0.2.2.2.1.1, (p0.2.2.2.1.2.1, ())), (p0.2.2.2.2.1, ((p0.2.2.2.2.2.1.1, (p0.2.2.2.2.2.1.2.1, ())), (p0.2.2.2.2.2.2.1, (p0.2.2.2.2.2.2.2.1, (p0.2.2.2.2.2.2.2.2.1, (p0.2.2.2.2.2.2.2.2.2.1, ((([] : List ByteArray) ++ p0.2.2.2.2.2.2.2.2.2.2.1), ((p0.2.2.2.2.2.2.2.2.2.2.2.1.1, (p0.2.2.2.2.2.2.2.2.2.2.2.1.2.1, ())), ())))))))))))), [])) none
theorem e_f129 (p0 : Qaa) : runF QAL Qw2 QGs false [.t Qad p0] [] = QHH p0 := by kernel_rfl
theorem QWt : Qai Tryz.prog 129 := .inr ⟨by decide, _, Tryz.func129, by kernel_rfl, by kernel_rfl⟩
theorem QVx : GOk Tryz.prog QAL := Qal _ (fun p hp => by cases hp)
theorem QT0 : Qw2.lok QAL := by repeat (first | exact trivial | refine ⟨?_, ?_⟩)
theorem QvV {c : Qaa} (h : QaG c = true) : (Qaz c).length ≤ 100000 := by
 simp only [QaG, Qb5, Bool.and_eq_true, decide_eq_true_eq] at h
 exact h.2.2.1
theorem s_f129 (c : Qaa) (h : QaG c = true) : QHH c = some (.t Qad (copyC c), []) := by
 have hn : c.2.2.2.2.2.2.2.2.2.2.1.length ≤ 100000 := QvV h
 simp only [QHH]
 rw [cAppN (by omega) (by simp only [List.length_nil]; omega), Qac]
 rfl
def QE6 : Ent := spec (.pr Qad .nil) (fun x => (QaG x.1)) (fun x => (.t Qad (copyC x.1)))
theorem QSL : Meets Tryz.prog 129 (strip QE6) := Qag (R := runF QAL Qw2 QGs false) (mG Tryz.func129 (by kernel_rfl) Tryz.ntmps129 (by kernel_rfl) QVx QT0) fun x hok => (e_f129 x.1).trans (s_f129 x.1 hok)
def sealC (c : Qaa) (s : Keep) : Qaa := (c.1, (c.2.1, (c.2.2.1, (c.2.2.2.1, (c.2.2.2.2.1, (c.2.2.2.2.2.1, (c.2.2.2.2.2.2.1, (c.2.2.2.2.2.2.2.1, (c.2.2.2.2.2.2.2.2.1, (c.2.2.2.2.2.2.2.2.2.1, (c.2.2.2.2.2.2.2.2.2.2.1, (s, ()))))))))))))
def unsC (c : Qaa) : Qaa := sealC c (0, (0, ()))
def QFp (c : Qaa) (k : Int) : Bool := !QaE (unsC c) || (ilt k 0 || igt k 2147483648)
abbrev zCert : Qaa := Ty.zero Qad
def signC (c : Qaa) (k : Int) : Qaa × Int := bif QFp c k then (zCert, 9) else (sealC c (k, (sumB (QbT (unsC c)).1, ())), 0)
noncomputable def QDr : TC := (.sq (.reg (rT Tryz.f84 0)) (.sq (.reg (rT Tryz.f84 1)) (.sq (.reg (rT Tryz.f84 2)) (.sq (.sq (.reg (rT Tryz.f84 3)) (.cd (.t 22) (.sq (.reg (rT Tryz.f84 4)) .rt) .sk)) (.sq (.reg (rT Tryz.f84 5)) (.sq (.reg (rT Tryz.f84 6)) (.sq (.reg (rT Tryz.f84 7)) .rt)))))))
def QP9 : List (RV × Option Ty) := [((.c 4 true 15), some Qad), ((.t 5), some tI)]
def g_f84 : G := ⟨TYs, [], 35, EL [(129, QE6), (130, Qxp), (131, QE4), (132, QE3)], keeps, (fun _ _ => none), IL [], RL []⟩
def r_f84 (p0 : Qaa) (p1 : Int) : Option (V × List VO) :=
 let a4 := ((copyC p0).2)
 let a1 := ((((a4.2).2).2).2)
 let a5 := (((a1.2).2).2)
 let a2 := ((QbT ((copyC p0).1, (a4.1, ((a4.2).1, (((a4.2).2).1, ((((a4.2).2).2).1, (a1.1, ((a1.2).1, (((a1.2).2).1, (a5.1, ((a5.2).1, (((a5.2).2).1, ((0, (0, ())), (((a5.2).2).2).2))))))))))))).1)
 let a3 := (QaG ((copyC p0).1, (a4.1, ((a4.2).1, (((a4.2).2).1, ((((a4.2).2).2).1, (a1.1, ((a1.2).1, (((a1.2).2).1, (a5.1, ((a5.2).1, (((a5.2).2).1, ((0, (0, ())), (((a5.2).2).2).2)))))))))))))
 let a6 := ByteArray.mk #[]
 br (QaG p0) (br a3 (br (ine (QeX ((copyC p0).1, (a4.1, ((a4.2).1, (((a4.2).2).1, ((((a4.2).2).2).1, (a1.1, ((a1.2).1, (((a1.2).2).1, (a5.1, ((a5.2).1, (((a5.2).2).1, ((0, (0, ())), (((a5.2).2).2).2))))))))))))) 0) (some (.tu [(.t Qad (0, (a6, (a6, ((0, (0, ())), (0, ((0, (0, ())), (0, (0, (false, (0, (([] : List ByteArray), ((0, (0, ())), ()))))))))))))), (.t tI 9)], [])) (br (ilt p1 0) (some (.tu [(.t Qad (0, (a6, (a6, ((0, (0, ())), (0, ((0, (0, ())), (0, (0, (false, (0, (([] : List ByteArray), ((0, (0, ())), ()))))))))))))), (.t tI 9)], [])) (br (igt p1 2147483648) (some (.tu [(.t Qad (0, (a6, (a6, ((0, (0, ())), (0, ((0, (0, ())), (0, (0, (false, (0, (([] : List ByteArray), ((0, (0, ())), ()))))))))))))), (.t tI 9)], [])) (br a3 (br (lenB a2) (some (.tu [(.t Qad ((copyC p0).1, (a4.1, ((a4.2).1, (((a4.2).2).1, ((((a4.2).2).2).1, (a1.1, ((a1.2).1, (((a1.2).2).1, (a5.1, ((a5.2).1, (((a5.2).2).1, ((p1, ((sumB a2), ())), (((a5.2).2).2).2))))))))))))), (.t tI 0)], [])) none) none)))) none) none
theorem e_f84 (p0 : Qaa) (p1 : Int) : runF g_f84 QDr QP9 false [.t Qad p0, .t tI p1] [] = r_f84 p0 p1 := by kernel_rfl
theorem en_f84 : Qai Tryz.prog 84 := .inr ⟨by decide, _, Tryz.func84, by kernel_rfl, by kernel_rfl⟩
theorem gk_f84 : GOk Tryz.prog g_f84 := Qal _ (gA (gC QWt QSL (gC QKj QIs (gC QWs QSK (gC QWr QSJ gN)))))
theorem lk_f84 : QDr.lok g_f84 := by repeat (first | exact trivial | refine ⟨?_, ?_⟩)
theorem s_f84 (c : Qaa) (k : Int) (h : QeC c k = true) : r_f84 c k = some (.tu [.t Qad (signC c k).1, .t tI (signC c k).2], []) := by
 have h : QaG c = true := h
 have hu : QaG (unsC c) = true := h
 have e : ((copyC c).1, ((copyC c).2.1, ((copyC c).2.2.1, ((copyC c).2.2.2.1, ((copyC c).2.2.2.2.1, ((copyC c).2.2.2.2.2.1, ((copyC c).2.2.2.2.2.2.1, ((copyC c).2.2.2.2.2.2.2.1, ((copyC c).2.2.2.2.2.2.2.2.1, ((copyC c).2.2.2.2.2.2.2.2.2.1, ((copyC c).2.2.2.2.2.2.2.2.2.2.1, ((0, (0, ())), ())))))))))))) = unsC c := rfl
 simp only [r_f84, h, e, hu, Qg6, QRb, Qac]
 unfold signC QFp
 cases QaE (unsC c) with
 | false => rfl
 | true =>
  rw [Bool.not_true, Qaf, Bool.false_or]
  cases ilt k 0 with
  | true => rfl
  | false =>
   rw [Qaf, Bool.false_or]
   cases igt k 2147483648 <;> rfl
def QPE : Ent := spec (.pr Qad (.pr tI .nil)) (fun x => (QeC x.1 x.2.1)) (fun x => (.tu [(.t Qad ((signC x.1 x.2.1).1)), (.t tI ((signC x.1 x.2.1).2))]))
theorem ms_f84 : Meets Tryz.prog 84 (strip QPE) := Qag (R := runF g_f84 QDr QP9 false) (mG Tryz.func84 (by kernel_rfl) Tryz.ntmps84 (by kernel_rfl) gk_f84 lk_f84) fun x hok => (e_f84 x.1 x.2.1).trans (s_f84 x.1 x.2.1 hok)
def QaV (l : List Qaa) : Bool := decide (l.length ≤ 100000) && l.all QaG
def Qp4 (key : Keep) (id : Int) (l : List Qaa) : Bool := ieq (llen l) 0 || (((l.getD 0 zCert).2.2.2.1 == key) && ieq (l.getD 0 zCert).2.2.2.2.1 id)
def Qi1 (key : Keep) (id : Int) (l : List Qaa) : Bool := QbV key && (!ine (kindF key.1) 2 && (keyI id && (!igt (llen l) 8 && (l.all QaE && Qp4 key id l))))
def Qof (_key : Keep) (_id : Int) (l : List Qaa) : Bool := QaV l
theorem QCA (key : Keep) (id : Int) (l : List Qaa) : br (ieq (llen l) 0) (some (V.t .bool true, ([] : List VO))) (br (cIx l 0) (br ((lgt Qad l 0).2.2.2.1 == key) (br (cIx l 0) (some (V.t .bool (ieq (lgt Qad l 0).2.2.2.2.1 id), [])) none) (some (V.t .bool false, []))) none) = some (V.t .bool (Qp4 key id l), []) := by
 unfold Qp4
 cases l with
 | nil => rfl
 | cons c l =>
  have h1 : ieq (llen (c :: l)) 0 = false := by
   simp only [ieq, llen, List.length_cons, beq_eq_false_iff_ne]
   omega
  have h2 : cIx (c :: l) 0 = true := by simp only [cIx, List.length_cons, decide_eq_true_eq]; omega
  rw [h1, Qaf, h2, Qac, Bool.false_or, Qac]
  show br (c.2.2.2.1 == key) _ _ = some (V.t .bool ((c.2.2.2.1 == key) && ieq c.2.2.2.2.1 id), [])
  cases c.2.2.2.1 == key <;> rfl
noncomputable def QKA : List DO := dT Tryz.f117 9
def Qg1 : Fg := ⟨[(1, some tI), (2, some (.sl Qad)), (3, none), (28, some (.sl Qad)), (29, some tI), (30, some tI)], [(3, some Qah)]⟩
noncomputable def QiQ : TC := (.sq (.reg (rT Tryz.f117 4)) (.sq (.cd (.t 31) .sk (.fg ⟨[(1, some tI), (2, some (.sl Qad)), (3, none)], [(3, some Qah)]⟩ (.ex 0))) (.sq (.bk 1 (.sq (.reg (rT Tryz.f117 5)) (.sq (.reg (rT Tryz.f117 6)) (.cd (.t 36) (.sq (.reg (rT Tryz.f117 7)) (.fg ⟨[(6, some .bool)], []⟩ .rt)) .sk)))) (.reg (rT Tryz.f117 8)))))
noncomputable def Qw9 : TC := (.sq (.reg (rT Tryz.f117 0)) (.sq (.sq (.reg (rT Tryz.f117 1)) (.cd (.t 27) (.sq (.reg (rT Tryz.f117 2)) .rt) .sk)) (.sq (.sq (.reg (rT Tryz.f117 3)) (.bk 0 (.lp 0 Qg1 QiQ))) (.sq (.dr QKA [(0, []), (1, []), (2, []), (3, []), (4, []), (5, []), (6, []), (7, []), (8, [3]), (9, []), (10, []), (11, []), (12, []), (13, []), (14, []), (15, []), (16, []), (17, []), (18, []), (19, [])] (.of [0, 1, 2, 3, 4, 5, 6, 7, 8, 9, 10, 11, 12, 13, 14, 15, 16, 17, 18, 19])) .rt))))
def QGz : List (RV × Option Ty) := [((.t 6), some .bool)]
abbrev QoP : Sh := ⟨[(1, .ty tI), (2, .ty (.sl Qad)), (3, .ptr 3 0), (28, .ty (.sl Qad)), (29, .ty tI), (30, .ty tI)], [(3, .box Qah)]⟩
def Qn0 (x1 : Int) (x2 x28 : List Qaa) (x29 x30 : Int) (y3 : Keep) : VS := QoP.st (x1, x2, (), x28, x29, x30, ()) (y3, ())
abbrev Qsi : Sh := ⟨[(6, .ty .bool)], []⟩
def Qdg (x6 : Bool) : VS := Qsi.st (x6, ()) ()
abbrev Qux : Sh := ⟨[(1, .ty tI), (2, .ty (.sl Qad)), (3, .ptr 3 0)], [(3, .box Qah)]⟩
def Qec (x1 : Int) (x2 : List Qaa) (y3 : Keep) : VS := Qux.st (x1, x2, (), ()) (y3, ())
def QPq : VS → Option (Bool × List (Bool × Exit × VS)) := mkL QoP (fun x y => (rngOk x.2.2.2.1 x.2.2.2.2.1 x.2.2.2.2.2.1 && QaV x.2.2.2.1)) (fun x y => [((!(x.2.2.2.1.drop x.2.2.2.2.2.1.toNat).all QaE), .ret, Qdg (false)), (true, .exit 0, Qec (x.1) (x.2.1) (y.1))])
def QlK : G := ⟨TYs, [], 57, EL [(96, QD8), (121, QrP), (125, QrN), (155, QrM)], keeps, (Ls [QPq]), IL [], RL []⟩
def QBJ (x1 : Int) (x2 x28 : List Qaa) (x29 x30 : Int) (y3 : Keep) : Option (Exit × VS) :=
 let a1 := lgt Qad x28 (Int.toNat x30)
 br (ilt x30 x29) (br (cIx x28 x30) (br (QaG a1) (br (ine (QeX a1) 0) (some (.ret, Qdg false)) (some (.normal, Qn0 x1 x2 x28 x29 (iadd .i64 x30 1) y3))) none) none) (some (.exit 0, Qec x1 x2 y3))
noncomputable def Qjz (x1 : Int) (x2 x28 : List Qaa) (x29 x30 : Int) (y3 : Keep) : Option (Exit × VS) := loopF (Qak QlK Qg1 QiQ) (Qn0 x1 x2 x28 x29 x30 y3)
noncomputable def QmT (x1 : Int) (x2 x28 : List Qaa) (x29 x30 : Int) (y3 : Keep) : Option (Exit × VS) :=
 let a1 := lgt Qad x28 (Int.toNat x30)
 br (ilt x30 x29) (br (cIx x28 x30) (br (QaG a1) (br (ine (QeX a1) 0) (some (.ret, Qdg false)) (Qjz x1 x2 x28 x29 (iadd .i64 x30 1) y3)) none) none) (some (.exit 0, Qec x1 x2 y3))
def QjZ (x1 : Int) (x2 x28 : List Qaa) (x29 x30 : Int) (y3 : Keep) : Option (Exit × VS) := br (!(x28.drop x30.toNat).all QaE) (some (.ret, Qdg (false))) <| some (.exit 0, Qec (x1) (x2) (y3))
theorem QLn (x1 : Int) (x2 x28 : List Qaa) (x29 x30 : Int) (y3 : Keep) : Qak QlK Qg1 QiQ (Qn0 x1 x2 x28 x29 x30 y3) = QBJ x1 x2 x28 x29 x30 y3 := by kernel_rfl
theorem Qvt (x1 : Int) (x2 x28 : List Qaa) (x29 x30 : Int) (y3 : Keep) : Qjz x1 x2 x28 x29 x30 y3 = QmT x1 x2 x28 x29 x30 y3 := (Qao _ _).trans (by
 rw [QLn]
 simp only [QBJ, QmT, Qay, nxt_n, nxt_r, nxt_e, nxt_0]
 rfl)
def QHK (p0 : Keep) (p1 : Int) (p2 : List Qaa) : Option (V × List VO) :=
 let a1 := ((((lgt Qad (p2) (Int.toNat 0)).2).2).2)
 br (!(QbV p0)) (some (.t .bool false, [])) (br (ine (kindF p0.1) 2) (some (.t .bool false, [])) (br (!(keyI p1)) (some (.t .bool false, [])) (br (igt (llen p2) 8) (some (.t .bool false, [])) (br (rngOk p2 (llen p2) (0 : Int) && QaV p2) (br (!(p2.drop (0 : Int).toNat).all QaE) (some (.t .bool (false), [])) (br (ieq (llen (p2)) 0) (some (.t .bool true, [])) (br (cIx (p2) 0) (br (and (ieq ((a1.1).1) ((p0).1)) (and (ieq (((a1.1).2).1) (((p0).2).1)) true)) (br (cIx (p2) 0) (some (.t .bool (ieq ((a1.2).1) (p1)), [])) none) (some (.t .bool false, []))) none))) none))))
theorem e_f117 (p0 : Keep) (p1 : Int) (p2 : List Qaa) : runF QlK Qw9 QGz false [.t Qah p0, .t tI p1, .t (.sl Qad) p2] [] = QHK p0 p1 p2 := by kernel_rfl
theorem QWx : Qai Tryz.prog 117 := .inr ⟨by decide, _, Tryz.func117, by kernel_rfl, by kernel_rfl⟩
theorem QVE : GOk Tryz.prog QlK := Qal _ (gA (gC QRg QQ0 (gC QyY Qx8 (gC QyW Qx6 (gC QyU Qx4 gN)))))
theorem QNz (x1 : Int) (x2 x28 : List Qaa) (x29 x30 : Int) (y3 : Keep) (h : (rngOk x28 x29 x30 && QaV x28) = true) : Qjz x1 x2 x28 x29 x30 y3 = QjZ x1 x2 x28 x29 x30 y3 := by
 simp only [Bool.and_eq_true] at h
 obtain ⟨h0, hc⟩ := h
 obtain ⟨rfl, h3, k, rfl, hk⟩ := rng_k h0
 clear h0
 simp only [QaV, Bool.and_eq_true, List.all_eq_true] at hc
 refine Qat x28 (fun k => Qjz x1 x2 x28 (x28.length : Int) (k : Int) y3 = QjZ x1 x2 x28 (x28.length : Int) (k : Int) y3) ?_ ?_ k hk
 ·rw [Qvt]
  simp only [QmT, QjZ, Qar, Nat.lt_irrefl, decide_false, Qaf, Int.toNat_natCast, List.drop_length, List.all_nil, Bool.not_true]
 ·intro k hk ih
  rw [Qvt]
  have hx := hc.2 x28[k] (List.getElem_mem hk)
  simp only [QmT, Qar, Qav, hk, decide_true, Qac, Int.toNat_natCast, add1 (show k < 4611686018427387904 by omega), QaA (y := Qad) hk, hx, Qg6, ih]
  simp only [QjZ, Int.toNat_natCast, List.drop_eq_getElem_cons hk, List.all_cons]
  cases QaE x28[k] <;> rfl
theorem QI2 : ∀ S l p, QlK.L 0 (fgt Qg1 S) = some (true, l) → pickA l = some p → loopF (Qak QlK Qg1 QiQ) S = some p :=
 QaD (s := QoP) ⟨by decide, by decide⟩ (by kernel_rfl) fun x y hok p hp => by
 simp only [Qaq, Qan] at hp
 exact (QNz x.1 x.2.1 x.2.2.2.1 x.2.2.2.2.1 x.2.2.2.2.2.1 y.1 (by simpa using hok)).trans hp
theorem QT7 : Qw9.lok QlK := by
 repeat (first | exact trivial | exact QI2 | refine ⟨?_, ?_⟩)
theorem s_f117 (key : Keep) (id : Int) (l : List Qaa) (h : Qof key id l = true) : QHK key id l = some (.t .bool (Qi1 key id l), []) := by
 have h : QaV l = true := h
 have hl : l.length ≤ 100000 := by simp only [QaV, Bool.and_eq_true, decide_eq_true_eq] at h; exact h.1
 simp only [QHK, rng_0 hl, h, Bool.and_self, Qac, Int.toNat_zero, List.drop_zero, QUy]
 unfold Qi1
 refine (brB <| brB <| brB <| brB <| brB (QCA key id l)).trans ?_
 simp only [Bool.not_not]
def QFa : Ent := spec (.pr Qah (.pr tI (.pr (.sl Qad) .nil))) (fun x => (Qof x.1 x.2.1 x.2.2.1)) (fun x => (.t .bool (Qi1 x.1 x.2.1 x.2.2.1)))
theorem QSP : Meets Tryz.prog 117 (strip QFa) := Qag (R := runF QlK Qw9 QGz false) (mG Tryz.func117 (by kernel_rfl) Tryz.ntmps117 (by kernel_rfl) QVE QT7) fun x hok => (e_f117 x.1 x.2.1 x.2.2.1).trans (s_f117 x.1 x.2.1 x.2.2.1 hok)
end
end Go.Proofs.YtckcgijklnloiaaGreat.K
