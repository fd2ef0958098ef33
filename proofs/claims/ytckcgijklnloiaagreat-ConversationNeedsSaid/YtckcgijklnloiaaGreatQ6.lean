import Derived.Test.YtckcgijklnloiaaGreatQ4
import Derived.Test.YtckcgijklnloiaaGreatQ5
set_option linter.unusedSimpArgs false
set_option linter.unusedVariables false
namespace Go.Proofs.YtckcgijklnloiaaGreat.K
open Go.RowKit
noncomputable section
def kindF (a : Int) : Int := (ofF a).1.2.1
noncomputable def Qws : TC := (.sq (.reg (rT Tryz.f155 0)) (.sq (.reg (rT Tryz.f155 1)) (.sq (.reg (rT Tryz.f155 2)) .rt)))
def QFK : List (RV × Option Ty) := [((.t 2), some tI)]
def QAi : G := ⟨TYs, [], 12, EL [(180, Qw0)], keeps, (fun _ _ => none), IL [], RL []⟩
def QQh (p0 : Int) : Option (V × List VO) := some (.t tI ((((ofF p0).1).2).1), [])
theorem e_f155 (p0 : Int) : runF QAi Qws QFK false [.t tI p0] [] = QQh p0 := by kernel_rfl
theorem QyA : Qah Tryz.prog 155 := .inr ⟨by decide, _, Tryz.func155, by kernel_rfl, by kernel_rfl⟩
theorem QUB : GOk Tryz.prog QAi := Qal _ (gA (gC QJI QHU gN))
theorem QS4 : Qws.lok QAi := by repeat (first | exact trivial | refine ⟨?_, ?_⟩)
theorem s_f155 (a : Int) : QQh a = some (.t tI (kindF a), []) := rfl
def Qrt : Ent := spec (.pr tI .nil) (fun x => true) (fun x => (.t tI (kindF x.1)))
theorem QxJ : Meets Tryz.prog 155 (strip Qrt) := Qag (R := runF QAi Qws QFK false) (mG Tryz.func155 (by kernel_rfl) Tryz.ntmps155 (by kernel_rfl) QUB QS4) fun x _ => (e_f155 x.1).trans (s_f155 x.1)
noncomputable def QwS : TC := (.sq (.reg (rT Tryz.f110 0)) (.sq (.reg (rT Tryz.f110 1)) .rt))
def QGa : List (RV × Option Ty) := [((.t 0), some (.sl Qc1))]
def QAx : G := ⟨TYs, [], 25, EL [], keeps, (fun _ _ => none), IL [], RL []⟩
def QQo  : Option (V × List VO) := some (.t (.sl Qc1) ([((ByteArray.mk #[]), (0, ())), ((ByteArray.mk #[109, 100, 53]), (1, ())), ((ByteArray.mk #[115, 104, 97, 49]), (1, ())), ((ByteArray.mk #[115, 104, 97, 50, 53, 54]), (1, ())), ((ByteArray.mk #[115, 104, 97, 51, 56, 52]), (1, ())), ((ByteArray.mk #[114, 115, 97]), (2, ())), ((ByteArray.mk #[100, 115, 97]), (2, ())), ((ByteArray.mk #[101, 99, 100, 115, 97]), (2, ())), ((ByteArray.mk #[101, 100, 50, 53, 53, 49, 57]), (2, ())), ((ByteArray.mk #[109, 108, 100, 115, 97]), (2, ())), ((ByteArray.mk #[114, 115, 97, 107, 120]), (3, ())), ((ByteArray.mk #[100, 104, 101]), (3, ())), ((ByteArray.mk #[101, 99, 100, 104, 101]), (3, ())), ((ByteArray.mk #[109, 108, 107, 101, 109]), (3, ())), ((ByteArray.mk #[114, 99, 52]), (4, ())), ((ByteArray.mk #[100, 101, 115, 51]), (4, ())), ((ByteArray.mk #[97, 101, 115, 99, 98, 99]), (4, ())), ((ByteArray.mk #[97, 101, 115, 103, 99, 109]), (4, ())), ((ByteArray.mk #[99, 104, 97, 99, 104, 97]), (4, ())), ((ByteArray.mk #[104, 109, 97, 99, 109, 100, 53]), (5, ())), ((ByteArray.mk #[104, 109, 97, 99, 115, 104, 97, 49]), (5, ())), ((ByteArray.mk #[104, 109, 97, 99, 115, 104, 97, 50, 53, 54]), (5, ())), ((ByteArray.mk #[97, 101, 97, 100]), (5, ()))]), [])
theorem e_f110  : runF QAx QwS QGa false [] [] = QQo  := by kernel_rfl
theorem QVU : Qah Tryz.prog 110 := .inr ⟨by decide, _, Tryz.func110, by kernel_rfl, by kernel_rfl⟩
theorem QU1 : GOk Tryz.prog QAx := Qal _ (fun p hp => by cases hp)
theorem QTu : QwS.lok QAx := by repeat (first | exact trivial | refine ⟨?_, ?_⟩)
def Qzg : Ty.T (.sl Qc1) := ([((ByteArray.mk #[]), (0, ())), ((ByteArray.mk #[109, 100, 53]), (1, ())), ((ByteArray.mk #[115, 104, 97, 49]), (1, ())), ((ByteArray.mk #[115, 104, 97, 50, 53, 54]), (1, ())), ((ByteArray.mk #[115, 104, 97, 51, 56, 52]), (1, ())), ((ByteArray.mk #[114, 115, 97]), (2, ())), ((ByteArray.mk #[100, 115, 97]), (2, ())), ((ByteArray.mk #[101, 99, 100, 115, 97]), (2, ())), ((ByteArray.mk #[101, 100, 50, 53, 53, 49, 57]), (2, ())), ((ByteArray.mk #[109, 108, 100, 115, 97]), (2, ())), ((ByteArray.mk #[114, 115, 97, 107, 120]), (3, ())), ((ByteArray.mk #[100, 104, 101]), (3, ())), ((ByteArray.mk #[101, 99, 100, 104, 101]), (3, ())), ((ByteArray.mk #[109, 108, 107, 101, 109]), (3, ())), ((ByteArray.mk #[114, 99, 52]), (4, ())), ((ByteArray.mk #[100, 101, 115, 51]), (4, ())), ((ByteArray.mk #[97, 101, 115, 99, 98, 99]), (4, ())), ((ByteArray.mk #[97, 101, 115, 103, 99, 109]), (4, ())), ((ByteArray.mk #[99, 104, 97, 99, 104, 97]), (4, ())), ((ByteArray.mk #[104, 109, 97, 99, 109, 100, 53]), (5, ())), ((ByteArray.mk #[104, 109, 97, 99, 115, 104, 97, 49]), (5, ())), ((ByteArray.mk #[104, 109, 97, 99, 115, 104, 97, 50, 53, 54]), (5, ())), ((ByteArray.mk #[97, 101, 97, 100]), (5, ()))])
theorem s_f110 : QQo = some (.t (.sl Qc1) Qzg, []) := rfl
def QEM : Ent := spec .nil (fun x => true) (fun x => (.t (.sl Qc1) Qzg))
theorem QSd : Meets Tryz.prog 110 (strip QEM) := Qag (R := runF QAx QwS QGa false) (mG Tryz.func110 (by kernel_rfl) Tryz.ntmps110 (by kernel_rfl) QU1 QTu) fun x _ => (e_f110 ).trans (s_f110 )
noncomputable def QDd : TC := (.sq (.reg (rT Tryz.f70 0)) (.sq (.sq (.reg (rT Tryz.f70 1)) (.cd (.t 8) (.sq (.reg (rT Tryz.f70 2)) .rt) .sk)) (.sq (.reg (rT Tryz.f70 3)) .rt)))
def QPJ : List (RV × Option Ty) := [((.t 2), some tI)]
def g_f70 : G := ⟨TYs, [], 14, EL [(110, QEM)], keeps, (fun _ _ => none), IL [], RL []⟩
def r_f70 (p0 : Int) : Option (V × List VO) := br (ilt p0 1) (some (.t tI 0, [])) (br (igt p0 22) (some (.t tI 0, [])) (br (cIx Qzg p0) (some (.t tI (((lgt Qc1 Qzg (Int.toNat p0)).2).1), [])) none))
theorem e_f70 (p0 : Int) : runF g_f70 QDd QPJ false [.t tI p0] [] = r_f70 p0 := by kernel_rfl
theorem QQE : Qah Tryz.prog 70 := .inr ⟨by decide, _, Tryz.func70, by kernel_rfl, by kernel_rfl⟩
theorem gk_f70 : GOk Tryz.prog g_f70 := Qal _ (gA (gC QVU QSd gN))
theorem lk_f70 : QDd.lok g_f70 := by repeat (first | exact trivial | refine ⟨?_, ?_⟩)
theorem QLg {a : Int} (h1 : 1 ≤ a) (h2 : a ≤ 22) : a = 1 ∨ a = 2 ∨ a = 3 ∨ a = 4 ∨ a = 5 ∨ a = 6 ∨ a = 7 ∨ a = 8 ∨ a = 9 ∨ a = 10 ∨ a = 11 ∨ a = 12 ∨ a = 13 ∨ a = 14 ∨ a = 15 ∨ a = 16 ∨ a = 17 ∨ a = 18 ∨ a = 19 ∨ a = 20 ∨ a = 21 ∨ a = 22 := by omega
theorem s_f70 (a : Int) : r_f70 a = some (.t tI (kindF a), []) := by
 simp only [r_f70]
 refine QaB (fun h1 => ?_) (fun h1 => QaB (fun h2 => ?_) (fun h2 => ?_))
 ·have h1 : a < 1 := by simpa [ilt] using h1
  simp [kindF, ofF, h1, noRow]
 ·have h2 : 22 < a := by simpa [igt] using h2
  simp [kindF, ofF, h2, noRow]
 ·have h1 : ¬ a < 1 := by simpa [ilt] using h1
  have h2 : ¬ 22 < a := by simpa [igt] using h2
  rcases QLg (a := a) (by omega) (by omega) with rfl | rfl | rfl | rfl | rfl | rfl | rfl | rfl | rfl | rfl | rfl | rfl | rfl | rfl | rfl | rfl | rfl | rfl | rfl | rfl | rfl | rfl <;> rfl
def QDM : Ent := spec (.pr tI .nil) (fun x => true) (fun x => (.t tI (kindF x.1)))
theorem QQs : Meets Tryz.prog 70 (strip QDM) := Qag (R := runF g_f70 QDd QPJ false) (mG Tryz.func70 (by kernel_rfl) Tryz.ntmps70 (by kernel_rfl) gk_f70 lk_f70) fun x _ => (e_f70 x.1).trans (s_f70 x.1)
def useP (a b : Int) : Keep := (a, (b, ()))
noncomputable def Qwo : TC := (.sq (.reg (rT Tryz.f159 0)) (.sq (.reg (rT Tryz.f159 1)) .rt))
def QFG : List (RV × Option Ty) := [((.c 4 true 2), some Qai)]
def QAf : G := ⟨TYs, [], 8, EL [], keeps, (fun _ _ => none), IL [], RL []⟩
def QQg (p0 p1 : Int) : Option (V × List VO) := some (.t Qai (p0, (p1, ())), [])
theorem e_f159 (p0 p1 : Int) : runF QAf Qwo QFG false [.t tI p0, .t tI p1] [] = QQg p0 p1 := by kernel_rfl
theorem QVx : Qah Tryz.prog 159 := .inr ⟨by decide, _, Tryz.func159, by kernel_rfl, by kernel_rfl⟩
theorem QUx : GOk Tryz.prog QAf := Qal _ (fun p hp => by cases hp)
theorem QS0 : Qwo.lok QAf := by repeat (first | exact trivial | refine ⟨?_, ?_⟩)
theorem s_f159 (a b : Int) : QQg a b = some (.t Qai (useP a b), []) := rfl
def QEp : Ent := spec (.pr tI (.pr tI .nil)) (fun x => true) (fun x => (.t Qai (useP x.1 x.2.1)))
theorem QRQ : Meets Tryz.prog 159 (strip QEp) := Qag (R := runF QAf Qwo QFG false) (mG Tryz.func159 (by kernel_rfl) Tryz.ntmps159 (by kernel_rfl) QUx QS0) fun x _ => (e_f159 x.1 x.2.1).trans (s_f159 x.1 x.2.1)
def suiP (c : Int) (n : ByteArray) (e s f m : Keep) (l o : Int) : Suite := (c, (n, (e, (s, (f, (m, (l, (o, ()))))))))
def QeV : Ty.T (.sl QaF) :=
 let a1 := (suiP 9 (ByteArray.mk #[101, 99, 100, 104, 101, 45, 101, 99, 100, 115, 97, 45, 97, 101, 115, 50, 53, 54, 45, 115, 104, 97, 50, 53, 54]) (useP 12 256) (useP 7 0) (useP 16 256) (useP 21 0) 3 3)
 let a2 := (suiP 11 (ByteArray.mk #[101, 99, 100, 104, 101, 45, 101, 99, 100, 115, 97, 45, 97, 101, 115, 50, 53, 54, 45, 103, 99, 109]) (useP 12 384) (useP 7 0) (useP 17 256) (useP 22 0) 3 3)
 let a3 := (suiP 10 (ByteArray.mk #[101, 99, 100, 104, 101, 45, 114, 115, 97, 45, 97, 101, 115, 49, 50, 56, 45, 103, 99, 109]) (useP 12 256) (useP 5 0) (useP 17 128) (useP 22 0) 3 3)
 let a4 := (suiP 8 (ByteArray.mk #[101, 99, 100, 104, 101, 45, 114, 115, 97, 45, 97, 101, 115, 49, 50, 56, 45, 115, 104, 97]) (useP 12 256) (useP 5 0) (useP 16 128) (useP 20 0) 1 3)
 let a5 := (suiP 7 (ByteArray.mk #[100, 104, 101, 45, 114, 115, 97, 45, 97, 101, 115, 49, 50, 56, 45, 115, 104, 97]) (useP 11 2048) (useP 5 0) (useP 16 128) (useP 20 0) 1 3)
 let a6 := (suiP 16 (ByteArray.mk #[109, 108, 107, 101, 109, 45, 97, 101, 115, 50, 53, 54, 45, 103, 99, 109]) (useP 13 768) (0, (0, ())) (useP 17 256) (useP 22 0) 4 4)
 let a7 := (suiP 4 (ByteArray.mk #[100, 104, 101, 45, 100, 115, 97, 45, 100, 101, 115, 51, 45, 115, 104, 97]) (useP 11 1024) (useP 6 0) (useP 15 168) (useP 20 0) 1 3)
 let a8 := (suiP 5 (ByteArray.mk #[100, 104, 101, 45, 114, 115, 97, 45, 100, 101, 115, 51, 45, 115, 104, 97]) (useP 11 1024) (useP 5 0) (useP 15 168) (useP 20 0) 1 3)
 let a9 := (suiP 12 (ByteArray.mk #[101, 99, 100, 104, 101, 45, 114, 115, 97, 45, 99, 104, 97, 99, 104, 97]) (useP 12 256) (useP 5 0) (useP 18 0) (useP 22 0) 3 3)
 let a10 := (suiP 13 (ByteArray.mk #[114, 115, 97, 45, 97, 101, 115, 50, 53, 54, 45, 103, 99, 109]) (useP 10 0) (useP 5 0) (useP 17 256) (useP 22 0) 3 3)
 let a11 := (suiP 6 (ByteArray.mk #[114, 115, 97, 45, 97, 101, 115, 49, 50, 56, 45, 115, 104, 97]) (useP 10 0) (useP 5 0) (useP 16 128) (useP 20 0) 1 3)
 let a12 := (suiP 3 (ByteArray.mk #[114, 115, 97, 45, 100, 101, 115, 51, 45, 115, 104, 97]) (useP 10 0) (useP 5 0) (useP 15 168) (useP 20 0) 1 3)
 let a13 := (suiP 1 (ByteArray.mk #[114, 115, 97, 45, 114, 99, 52, 45, 109, 100, 53]) (useP 10 0) (useP 5 0) (useP 14 128) (useP 19 0) 1 2)
 let a14 := (suiP 2 (ByteArray.mk #[114, 115, 97, 45, 114, 99, 52, 45, 115, 104, 97]) (useP 10 0) (useP 5 0) (useP 14 128) (useP 20 0) 1 3)
 let a15 := (suiP 14 (ByteArray.mk #[97, 101, 115, 49, 50, 56, 45, 103, 99, 109]) (useP 12 256) (0, (0, ())) (useP 17 128) (useP 22 0) 4 4)
 let a16 := (suiP 15 (ByteArray.mk #[99, 104, 97, 99, 104, 97]) (useP 12 256) (0, (0, ())) (useP 18 0) (useP 22 0) 4 4)
 let a17 := (((a13.2).2).2)
 let a18 := (((a14.2).2).2)
 let a19 := (((a12.2).2).2)
 let a20 := (((a11.2).2).2)
 let a21 := (((a10.2).2).2)
 let a22 := (((a15.2).2).2)
 let a23 := (((a16.2).2).2)
 let a24 := (((a7.2).2).2)
 let a25 := (((a8.2).2).2)
 let a26 := (((a5.2).2).2)
 let a27 := (((a4.2).2).2)
 let a28 := (((a1.2).2).2)
 let a29 := (((a3.2).2).2)
 let a30 := (((a2.2).2).2)
 let a31 := (((a9.2).2).2)
 let a32 := (((a6.2).2).2)
 ([(a13.1, ((a13.2).1, (((((a13.2).2).1).1, (((((a13.2).2).1).2).1, ())), (((a17.1).1, (((a17.1).2).1, ())), ((((a17.2).1).1, ((((a17.2).1).2).1, ())), (((((a17.2).2).1).1, (((((a17.2).2).1).2).1, ())), ((((a17.2).2).2).1, (((((a17.2).2).2).2).1, ())))))))), (a14.1, ((a14.2).1, (((((a14.2).2).1).1, (((((a14.2).2).1).2).1, ())), (((a18.1).1, (((a18.1).2).1, ())), ((((a18.2).1).1, ((((a18.2).1).2).1, ())), (((((a18.2).2).1).1, (((((a18.2).2).1).2).1, ())), ((((a18.2).2).2).1, (((((a18.2).2).2).2).1, ())))))))), (a12.1, ((a12.2).1, (((((a12.2).2).1).1, (((((a12.2).2).1).2).1, ())), (((a19.1).1, (((a19.1).2).1, ())), ((((a19.2).1).1, ((((a19.2).1).2).1, ())), (((((a19.2).2).1).1, (((((a19.2).2).1).2).1, ())), ((((a19.2).2).2).1, (((((a19.2).2).2).2).1, ())))))))), (a7.1, ((a7.2).1, (((((a7.2).2).1).1, (((((a7.2).2).1).2).1, ())), (((a24.1).1, (((a24.1).2).1, ())), ((((a24.2).1).1, ((((a24.2).1).2).1, ())), (((((a24.2).2).1).1, (((((a24.2).2).1).2).1, ())), ((((a24.2).2).2).1, (((((a24.2).2).2).2).1, ())))))))), (a8.1, ((a8.2).1, (((((a8.2).2).1).1, (((((a8.2).2).1).2).1, ())), (((a25.1).1, (((a25.1).2).1, ())), ((((a25.2).1).1, ((((a25.2).1).2).1, ())), (((((a25.2).2).1).1, (((((a25.2).2).1).2).1, ())), ((((a25.2).2).2).1, (((((a25.2).2).2).2).1, ())))))))), (a11.1, ((a11.2).1, (((((a11.2).2).1).1, (((((a11.2).2).1).2).1, ())), (((a20.1).1, (((a20.1).2).1, ())), ((((a20.2).1).1, ((((a20.2).1).2).1, ())), (((((a20.2).2).1).1, (((((a20.2).2).1).2).1, ())), ((((a20.2).2).2).1, (((((a20.2).2).2).2).1, ())))))))), (a5.1, ((a5.2).1, (((((a5.2).2).1).1, (((((a5.2).2).1).2).1, ())), (((a26.1).1, (((a26.1).2).1, ())), ((((a26.2).1).1, ((((a26.2).1).2).1, ())), (((((a26.2).2).1).1, (((((a26.2).2).1).2).1, ())), ((((a26.2).2).2).1, (((((a26.2).2).2).2).1, ())))))))), (a4.1, ((a4.2).1, (((((a4.2).2).1).1, (((((a4.2).2).1).2).1, ())), (((a27.1).1, (((a27.1).2).1, ())), ((((a27.2).1).1, ((((a27.2).1).2).1, ())), (((((a27.2).2).1).1, (((((a27.2).2).1).2).1, ())), ((((a27.2).2).2).1, (((((a27.2).2).2).2).1, ())))))))), (a1.1, ((a1.2).1, (((((a1.2).2).1).1, (((((a1.2).2).1).2).1, ())), (((a28.1).1, (((a28.1).2).1, ())), ((((a28.2).1).1, ((((a28.2).1).2).1, ())), (((((a28.2).2).1).1, (((((a28.2).2).1).2).1, ())), ((((a28.2).2).2).1, (((((a28.2).2).2).2).1, ())))))))), (a3.1, ((a3.2).1, (((((a3.2).2).1).1, (((((a3.2).2).1).2).1, ())), (((a29.1).1, (((a29.1).2).1, ())), ((((a29.2).1).1, ((((a29.2).1).2).1, ())), (((((a29.2).2).1).1, (((((a29.2).2).1).2).1, ())), ((((a29.2).2).2).1, (((((a29.2).2).2).2).1, ())))))))), (a2.1, ((a2.2).1, (((((a2.2).2).1).1, (((((a2.2).2).1).2).1, ())), (((a30.1).1, (((a30.1).2).1, ())), ((((a30.2).1).1, ((((a30.2).1).2).1, ())), (((((a30.2).2).1).1, (((((a30.2).2).1).2).1, ())), ((((a30.2).2).2).1, (((((a30.2).2).2).2).1, ())))))))), (a9.1, ((a9.2).1, (((((a9.2).2).1).1, (((((a9.2).2).1).2).1, ())), (((a31.1).1, (((a31.1).2).1, ())), ((((a31.2).1).1, ((((a31.2).1).2).1, ())), (((((a31.2).2).1).1, (((((a31.2).2).1).2).1, ())), ((((a31.2).2).2).1, (((((a31.2).2).2).2).1, ())))))))), (a10.1, ((a10.2).1, (((((a10.2).2).1).1, (((((a10.2).2).1).2).1, ())), (((a21.1).1, (((a21.1).2).1, ())), ((((a21.2).1).1, ((((a21.2).1).2).1, ())), (((((a21.2).2).1).1, (((((a21.2).2).1).2).1, ())), ((((a21.2).2).2).1, (((((a21.2).2).2).2).1, ())))))))), (a15.1, ((a15.2).1, (((((a15.2).2).1).1, (((((a15.2).2).1).2).1, ())), (((a22.1).1, (((a22.1).2).1, ())), ((((a22.2).1).1, ((((a22.2).1).2).1, ())), (((((a22.2).2).1).1, (((((a22.2).2).1).2).1, ())), ((((a22.2).2).2).1, (((((a22.2).2).2).2).1, ())))))))), (a16.1, ((a16.2).1, (((((a16.2).2).1).1, (((((a16.2).2).1).2).1, ())), (((a23.1).1, (((a23.1).2).1, ())), ((((a23.2).1).1, ((((a23.2).1).2).1, ())), (((((a23.2).2).1).1, (((((a23.2).2).1).2).1, ())), ((((a23.2).2).2).1, (((((a23.2).2).2).2).1, ())))))))), (a6.1, ((a6.2).1, (((((a6.2).2).1).1, (((((a6.2).2).1).2).1, ())), (((a32.1).1, (((a32.1).2).1, ())), ((((a32.2).1).1, ((((a32.2).1).2).1, ())), (((((a32.2).2).1).1, (((((a32.2).2).1).2).1, ())), ((((a32.2).2).2).1, (((((a32.2).2).2).2).1, ()))))))))])
abbrev QCN : Suite := Ty.zero QaF
def codeL (k : Nat) (l : List Suite) : List Suite := (List.range' k (16 - k)).foldl (fun l i => l.set i (((i + 1 : Nat) : Int), (l.getD i QCN).2)) l
noncomputable def QJ1 : List DO := dT Tryz.f133 4
def QgT : Fg := ⟨[(15, none), (113, some tI), (114, some tI)], [(111, none)]⟩
noncomputable def QiF : TC := (.sq (.reg (rT Tryz.f133 6)) (.sq (.cd (.t 115) .sk (.fg ⟨[(15, none)], [(111, none)]⟩ (.ex 0))) (.sq (.bk 1 (.sq (.reg (rT Tryz.f133 7)) (.reg (rT Tryz.f133 8)))) (.reg (rT Tryz.f133 9)))))
noncomputable def QwD : TC := (.sq (.reg (rT Tryz.f133 0)) (.sq (.reg (rT Tryz.f133 1)) (.sq (.reg (rT Tryz.f133 2)) (.sq (.reg (rT Tryz.f133 3)) (.sq (.dr QJ1 [(0, [1]), (1, [2]), (2, []), (3, [11]), (4, []), (5, [1]), (6, [2]), (7, []), (8, [12]), (9, []), (10, [1]), (11, [2]), (12, [6]), (13, [12]), (14, []), (15, []), (16, [3]), (17, [6]), (18, [12]), (19, []), (20, []), (21, [2]), (22, [6]), (23, [12]), (24, []), (25, [1]), (26, [2]), (27, [7]), (28, [12]), (29, []), (30, []), (31, [2]), (32, [7]), (33, [12]), (34, []), (35, [14]), (36, [2]), (37, [7]), (38, [12]), (39, []), (40, [14]), (41, [4]), (42, []), (43, []), (44, []), (45, [14]), (46, [2]), (47, [8]), (48, [13]), (49, []), (50, []), (51, [4]), (52, [9]), (53, [13]), (54, []), (55, [14]), (56, [2]), (57, [10]), (58, [13]), (59, []), (60, [1]), (61, [2]), (62, [9]), (63, [13]), (64, []), (65, [14]), (66, [5]), (67, [8]), (68, [13]), (69, []), (70, [14]), (71, [5]), (72, [10]), (73, [13]), (74, []), (75, []), (76, [5]), (77, [9]), (78, [13]), (79, []), (80, [111, 5111, 10111, 15111]), (81, [111])] (.of [0, 1, 2, 3, 4, 5, 6, 7, 8, 9, 10, 11, 12, 13, 14, 15, 16, 17, 18, 19, 20, 21, 22, 23, 24, 25, 26, 27, 28, 29, 30, 31, 32, 33, 34, 35, 36, 37, 38, 39, 40, 41, 42, 43, 44, 45, 46, 47, 48, 49, 50, 51, 52, 53, 54, 55, 56, 57, 58, 59, 60, 61, 62, 63, 64, 65, 66, 67, 68, 69, 70, 71, 72, 73, 74, 75, 76, 77, 78, 79, 80, 81])) (.sq (.sq (.reg (rT Tryz.f133 5)) (.bk 0 (.lp 0 QgT QiF))) (.sq (.reg (rT Tryz.f133 10)) .rt)))))))
def QFV : List (RV × Option Ty) := [((.t 0), some (.sl QaF))]
abbrev Qot : Sh := ⟨[(15, .ms 111), (113, .ty tI), (114, .ty tI)], [(111, .arr 142 QaF)]⟩
def QnJ (x113 x114 : Int) (y111 : List Suite) : VS := Qot.st ((), x113, x114, ()) (y111, ())
abbrev Qt8 : Sh := ⟨[(15, .ms 111)], [(111, .arr 142 QaF)]⟩
def Qd1 (y111 : List Suite) : VS := Qt8.st ((), ()) (y111, ())
def QOM : VS → Option (Bool × List (Bool × Exit × VS)) := mkL Qot (fun x y => (decide (0 ≤ x.2.2.1 ∧ x.2.2.1 ≤ 16 ∧ x.2.1 = 16 ∧ y.1.length = 16))) (fun x y => [(true, .exit 0, Qd1 (codeL x.2.2.1.toNat y.1))])
def Qlx : G := ⟨TYs, [111], 125, EL [(159, QEp)], keeps, (Ls [QOM]), IL [], RL []⟩
def QBl (x113 x114 : Int) (y111 : List Suite) : Option (Exit × VS) :=
 let a1 := Int.toNat x114
 br (ilt x114 x113) (br (cIx y111 x114) (br (cLd y111 a1) (some (.normal, QnJ x113 (iadd .i64 x114 1) (List.set y111 a1 ((iadd .i64 x114 1), (lgt QaF y111 a1).2)))) none) none) (some (.exit 0, Qd1 y111))
noncomputable def Qjq (x113 x114 : Int) (y111 : List Suite) : Option (Exit × VS) := loopF (Qak Qlx QgT QiF) (QnJ x113 x114 y111)
noncomputable def QsI (x113 x114 : Int) (y111 : List Suite) : Option (Exit × VS) :=
 let a1 := Int.toNat x114
 br (ilt x114 x113) (br (cIx y111 x114) (br (cLd y111 a1) (Qjq x113 (iadd .i64 x114 1) (List.set y111 a1 ((iadd .i64 x114 1), (lgt QaF y111 a1).2))) none) none) (some (.exit 0, Qd1 y111))
def QpA (x113 x114 : Int) (y111 : List Suite) : Option (Exit × VS) := some (.exit 0, Qd1 (codeL x114.toNat y111))
theorem QKM (x113 x114 : Int) (y111 : List Suite) : Qak Qlx QgT QiF (QnJ x113 x114 y111) = QBl x113 x114 y111 := by kernel_rfl
theorem Qu4 (x113 x114 : Int) (y111 : List Suite) : Qjq x113 x114 y111 = QsI x113 x114 y111 := (Qan _ _).trans (by
 rw [QKM]
 simp only [QBl, QsI, Qax, nxt_n, nxt_r, nxt_e, nxt_0]
 rfl)
def QQj  : Option (V × List VO) :=
 let a1 := ((useP 5 0).1, (((useP 5 0).2).1, ()))
 let a2 := ((useP 20 0).1, (((useP 20 0).2).1, ()))
 let a3 := ((useP 22 0).1, (((useP 22 0).2).1, ()))
 let a4 := ((useP 12 256).1, (((useP 12 256).2).1, ()))
 let a5 := ((useP 10 0).1, (((useP 10 0).2).1, ()))
 let a6 := ((useP 15 168).1, (((useP 15 168).2).1, ()))
 let a7 := ((useP 16 128).1, (((useP 16 128).2).1, ()))
 let a8 := ((useP 17 256).1, (((useP 17 256).2).1, ()))
 let a9 := (ByteArray.mk #[101, 99, 100, 104, 101, 45, 101, 99, 100, 115, 97, 45, 97, 101, 115, 50, 53, 54, 45, 115, 104, 97, 50, 53, 54])
 let a10 := (ByteArray.mk #[101, 99, 100, 104, 101, 45, 101, 99, 100, 115, 97, 45, 97, 101, 115, 50, 53, 54, 45, 103, 99, 109])
 let a11 := ((useP 11 1024).1, (((useP 11 1024).2).1, ()))
 let a12 := (ByteArray.mk #[101, 99, 100, 104, 101, 45, 114, 115, 97, 45, 97, 101, 115, 49, 50, 56, 45, 115, 104, 97])
 let a13 := (ByteArray.mk #[101, 99, 100, 104, 101, 45, 114, 115, 97, 45, 97, 101, 115, 49, 50, 56, 45, 103, 99, 109])
 let a14 := ((useP 14 128).1, (((useP 14 128).2).1, ()))
 let a15 := ((useP 17 128).1, (((useP 17 128).2).1, ()))
 let a16 := (ByteArray.mk #[100, 104, 101, 45, 114, 115, 97, 45, 97, 101, 115, 49, 50, 56, 45, 115, 104, 97])
 let a17 := ((useP 18 0).1, (((useP 18 0).2).1, ()))
 let a18 := ((useP 7 0).1, (((useP 7 0).2).1, ()))
 let a19 := (ByteArray.mk #[100, 104, 101, 45, 100, 115, 97, 45, 100, 101, 115, 51, 45, 115, 104, 97])
 let a20 := (ByteArray.mk #[100, 104, 101, 45, 114, 115, 97, 45, 100, 101, 115, 51, 45, 115, 104, 97])
 let a21 := (ByteArray.mk #[109, 108, 107, 101, 109, 45, 97, 101, 115, 50, 53, 54, 45, 103, 99, 109])
 let a22 := (ByteArray.mk #[101, 99, 100, 104, 101, 45, 114, 115, 97, 45, 99, 104, 97, 99, 104, 97])
 let a23 := (ByteArray.mk #[114, 115, 97, 45, 97, 101, 115, 49, 50, 56, 45, 115, 104, 97])
 let a24 := (ByteArray.mk #[114, 115, 97, 45, 97, 101, 115, 50, 53, 54, 45, 103, 99, 109])
 let a25 := (ByteArray.mk #[114, 115, 97, 45, 100, 101, 115, 51, 45, 115, 104, 97])
 let a26 := (ByteArray.mk #[114, 115, 97, 45, 114, 99, 52, 45, 109, 100, 53])
 let a27 := (ByteArray.mk #[114, 115, 97, 45, 114, 99, 52, 45, 115, 104, 97])
 let a28 := (ByteArray.mk #[97, 101, 115, 49, 50, 56, 45, 103, 99, 109])
 let a29 := ((useP 11 2048).1, (((useP 11 2048).2).1, ()))
 let a30 := ((useP 16 256).1, (((useP 16 256).2).1, ()))
 let a31 := ((useP 12 384).1, (((useP 12 384).2).1, ()))
 let a32 := ((useP 13 768).1, (((useP 13 768).2).1, ()))
 let a33 := (ByteArray.mk #[99, 104, 97, 99, 104, 97])
 let a34 := ((useP 19 0).1, (((useP 19 0).2).1, ()))
 let a35 := ((useP 21 0).1, (((useP 21 0).2).1, ()))
 let a36 := ((useP 6 0).1, (((useP 6 0).2).1, ()))
 br (decide (0 ≤ (0 : Int) ∧ (0 : Int) ≤ 16 ∧ (llen ([(0, (a26, (a5, (a1, (a14, (a34, (1, (2, ())))))))), (0, (a27, (a5, (a1, (a14, (a2, (1, (3, ())))))))), (0, (a25, (a5, (a1, (a6, (a2, (1, (3, ())))))))), (0, (a19, (a11, (a36, (a6, (a2, (1, (3, ())))))))), (0, (a20, (a11, (a1, (a6, (a2, (1, (3, ())))))))), (0, (a23, (a5, (a1, (a7, (a2, (1, (3, ())))))))), (0, (a16, (a29, (a1, (a7, (a2, (1, (3, ())))))))), (0, (a12, (a4, (a1, (a7, (a2, (1, (3, ())))))))), (0, (a9, (a4, (a18, (a30, (a35, (3, (3, ())))))))), (0, (a13, (a4, (a1, (a15, (a3, (3, (3, ())))))))), (0, (a10, (a31, (a18, (a8, (a3, (3, (3, ())))))))), (0, (a22, (a4, (a1, (a17, (a3, (3, (3, ())))))))), (0, (a24, (a5, (a1, (a8, (a3, (3, (3, ())))))))), (0, (a28, (a4, ((0, (0, ())), (a15, (a3, (4, (4, ())))))))), (0, (a33, (a4, ((0, (0, ())), (a17, (a3, (4, (4, ())))))))), (0, (a21, (a32, ((0, (0, ())), (a8, (a3, (4, (4, ()))))))))])) = 16 ∧ ([(0, (a26, (a5, (a1, (a14, (a34, (1, (2, ())))))))), (0, (a27, (a5, (a1, (a14, (a2, (1, (3, ())))))))), (0, (a25, (a5, (a1, (a6, (a2, (1, (3, ())))))))), (0, (a19, (a11, (a36, (a6, (a2, (1, (3, ())))))))), (0, (a20, (a11, (a1, (a6, (a2, (1, (3, ())))))))), (0, (a23, (a5, (a1, (a7, (a2, (1, (3, ())))))))), (0, (a16, (a29, (a1, (a7, (a2, (1, (3, ())))))))), (0, (a12, (a4, (a1, (a7, (a2, (1, (3, ())))))))), (0, (a9, (a4, (a18, (a30, (a35, (3, (3, ())))))))), (0, (a13, (a4, (a1, (a15, (a3, (3, (3, ())))))))), (0, (a10, (a31, (a18, (a8, (a3, (3, (3, ())))))))), (0, (a22, (a4, (a1, (a17, (a3, (3, (3, ())))))))), (0, (a24, (a5, (a1, (a8, (a3, (3, (3, ())))))))), (0, (a28, (a4, ((0, (0, ())), (a15, (a3, (4, (4, ())))))))), (0, (a33, (a4, ((0, (0, ())), (a17, (a3, (4, (4, ())))))))), (0, (a21, (a32, ((0, (0, ())), (a8, (a3, (4, (4, ()))))))))]).length = 16)) (some (.t (.sl QaF) (codeL (0 : Int).toNat ([(0, (a26, (a5, (a1, (a14, (a34, (1, (2, ())))))))), (0, (a27, (a5, (a1, (a14, (a2, (1, (3, ())))))))), (0, (a25, (a5, (a1, (a6, (a2, (1, (3, ())))))))), (0, (a19, (a11, (a36, (a6, (a2, (1, (3, ())))))))), (0, (a20, (a11, (a1, (a6, (a2, (1, (3, ())))))))), (0, (a23, (a5, (a1, (a7, (a2, (1, (3, ())))))))), (0, (a16, (a29, (a1, (a7, (a2, (1, (3, ())))))))), (0, (a12, (a4, (a1, (a7, (a2, (1, (3, ())))))))), (0, (a9, (a4, (a18, (a30, (a35, (3, (3, ())))))))), (0, (a13, (a4, (a1, (a15, (a3, (3, (3, ())))))))), (0, (a10, (a31, (a18, (a8, (a3, (3, (3, ())))))))), (0, (a22, (a4, (a1, (a17, (a3, (3, (3, ())))))))), (0, (a24, (a5, (a1, (a8, (a3, (3, (3, ())))))))), (0, (a28, (a4, ((0, (0, ())), (a15, (a3, (4, (4, ())))))))), (0, (a33, (a4, ((0, (0, ())), (a17, (a3, (4, (4, ())))))))), (0, (a21, (a32, ((0, (0, ())), (a8, (a3, (4, (4, ()))))))))])), [])) none
theorem e_f133  : runF Qlx QwD QFV false [] [] = QQj  := by kernel_rfl
theorem QVJ : Qah Tryz.prog 133 := .inr ⟨by decide, _, Tryz.func133, by kernel_rfl, by kernel_rfl⟩
theorem QUM : GOk Tryz.prog Qlx := Qal _ (gA (gC QVx QRQ gN))
theorem QMV (x113 x114 : Int) (y111 : List Suite) (h : (decide (0 ≤ x114 ∧ x114 ≤ 16 ∧ x113 = 16 ∧ y111.length = 16)) = true) : Qjq x113 x114 y111 = QpA x113 x114 y111 := by
 simp only [decide_eq_true_eq] at h
 obtain ⟨h1, h2, rfl, h4⟩ := h
 obtain ⟨k, rfl⟩ := Int.eq_ofNat_of_zero_le h1
 revert y111
 refine QOW 16 (fun k => ∀ y111 : List Suite, y111.length = 16 → Qjq 16 (k : Int) y111 = QpA 16 (k : Int) y111) ?_ ?_ k (by omega)
 ·intro y111 _
  rw [Qu4]
  rfl
 ·intro k hk ih y111 hy
  rw [Qu4]
  have e1 : ilt (k : Int) 16 = true := decide_eq_true (by omega)
  have e2 : cLd y111 k = true := decide_eq_true (by omega)
  have e3 : codeL k y111 = codeL (k + 1) (y111.set k (((k + 1 : Nat) : Int), (y111.getD k QCN).2)) := by
   have : 16 - k = (16 - (k + 1)) + 1 := by omega
   unfold codeL
   rw [this, List.range'_succ, List.foldl_cons]
  simp only [QsI, e1, Qac, Qau, show decide (k < y111.length) = true from decide_eq_true (by omega), Int.toNat_natCast, e2, add1 (show k < 4611686018427387904 by omega)]
  rw [ih _ (by rw [List.length_set]; exact hy)]
  simp only [QpA, Int.toNat_natCast, e3]
theorem QIs : ∀ S l p, Qlx.L 0 (fgt QgT S) = some (true, l) → pickA l = some p → loopF (Qak Qlx QgT QiF) S = some p :=
 QaD (s := Qot) ⟨by decide, by decide⟩ (by kernel_rfl) fun x y hok p hp => by
 simp only [Qap, Qam] at hp
 exact (QMV x.2.1 x.2.2.1 y.1 (by simpa using hok)).trans hp
theorem QTf : QwD.lok Qlx := by
 repeat (first | exact trivial | exact QIs | refine ⟨?_, ?_⟩)
set_option maxRecDepth 100000 in
theorem s_f133 : QQj = some (.t (.sl QaF) QeV, []) := by kernel_rfl
def QEB : Ent := spec .nil (fun x => true) (fun x => (.t (.sl QaF) QeV))
theorem QR2 : Meets Tryz.prog 133 (strip QEB) := Qag (R := runF Qlx QwD QFV false) (mG Tryz.func133 (by kernel_rfl) Tryz.ntmps133 (by kernel_rfl) QUM QTf) fun x _ => (e_f133 ).trans (s_f133 )
theorem QBD : (List.length (α := QaF.T) QeV) = 16 := by kernel_rfl
theorem Qnm : llen (α := QaF.T) QeV = 16 := by kernel_rfl
theorem QDF {c : Int} (h : 1 ≤ c ∧ c ≤ 16) : cIx (α := QaF.T) QeV (c - 1) = true := by
 have := QBD
 simp only [cIx, decide_eq_true_eq]
 omega
def QaN (c : Int) : Suite × Int := if c < 1 ∨ 16 < c then (QCN, 8) else (lgt QaF QeV (c - 1).toNat, 0)
noncomputable def QC5 : TC := (.sq (.reg (rT Tryz.f85 0)) (.sq (.reg (rT Tryz.f85 1)) (.sq (.sq (.reg (rT Tryz.f85 2)) (.cd (.t 13) (.sq (.reg (rT Tryz.f85 3)) .rt) .sk)) (.sq (.reg (rT Tryz.f85 4)) .rt))))
def QPB : List (RV × Option Ty) := [((.c 2 true 12), some QaF), ((.t 3), some tI)]
def g_f85 : G := ⟨TYs, [], 20, EL [(133, QEB)], keeps, (fun _ _ => none), IL [], RL []⟩
def r_f85 (p0 : Int) : Option (V × List VO) := br (ilt p0 1) (some (.tu [(.t QaF (0, ((ByteArray.mk #[]), ((0, (0, ())), ((0, (0, ())), ((0, (0, ())), ((0, (0, ())), (0, (0, ()))))))))), (.t tI 8)], [])) (br (igt p0 (llen QeV)) (some (.tu [(.t QaF (0, ((ByteArray.mk #[]), ((0, (0, ())), ((0, (0, ())), ((0, (0, ())), ((0, (0, ())), (0, (0, ()))))))))), (.t tI 8)], [])) (br (cIx QeV (isub .i64 p0 1)) (some (.tu [(.t QaF (lgt QaF QeV (Int.toNat (isub .i64 p0 1)))), (.t tI 0)], [])) none))
theorem e_f85 (p0 : Int) : runF g_f85 QC5 QPB false [.t tI p0] [] = r_f85 p0 := by kernel_rfl
theorem QAM : Qah Tryz.prog 85 := .inr ⟨by decide, _, Tryz.func85, by kernel_rfl, by kernel_rfl⟩
theorem gk_f85 : GOk Tryz.prog g_f85 := Qal _ (gA (gC QVJ QR2 gN))
theorem lk_f85 : QC5.lok g_f85 := by repeat (first | exact trivial | refine ⟨?_, ?_⟩)
theorem s_f85 (c : Int) : r_f85 c = some (.tu [.t QaF (QaN c).1, .t tI (QaN c).2], []) := by
 simp only [r_f85]
 unfold QaN
 refine QaB (fun h1 => ?_) (fun h1 => QaB (fun h2 => ?_) (fun h2 => ?_))
 ·simp only [ilt, decide_eq_true_eq] at h1
  rw [if_pos (.inl h1)]
  rfl
 ·have h2 := of_decide_eq_true h2
  have := Qnm
  rw [if_pos (.inr (by omega))]
  rfl
 ·simp only [ilt, decide_eq_false_iff_not] at h1
  have h2 := of_decide_eq_false h2
  have := Qnm
  rw [if_neg (by omega), Qch (by omega), QDF (by omega), Qac]
def Qtw : Ent := spec (.pr tI .nil) (fun x => true) (fun x => (.tu [(.t QaF ((QaN x.1).1)), (.t tI ((QaN x.1).2))]))
theorem Qzv : Meets Tryz.prog 85 (strip Qtw) := Qag (R := runF g_f85 QC5 QPB false) (mG Tryz.func85 (by kernel_rfl) Tryz.ntmps85 (by kernel_rfl) gk_f85 lk_f85) fun x _ => (e_f85 x.1).trans (s_f85 x.1)
theorem QTQ (a b : Keep) : (and (ieq a.1 b.1) (and (ieq a.2.1 b.2.1) true)) = (a == b) := by
 obtain ⟨a1, a2, _⟩ := a
 obtain ⟨b1, b2, _⟩ := b
 show _ = ((a1 == b1) && ((a2 == b2) && true))
 rfl
end
end Go.Proofs.YtckcgijklnloiaaGreat.K
namespace Go.Proofs.YtckcgijklnloiaaGreat.K
open Go.RowKit
noncomputable section
theorem QsU (a b : Int) : ige a b = !ilt a b := by
 simp only [ige, ilt]
 rw [Bool.eq_iff_iff]
 simp
theorem Qyg (a b : Int) : ile a b = !igt a b := by
 simp only [ile, igt]
 rw [Bool.eq_iff_iff]
 simp
theorem Qyf (a b : Int) : ine a b = !ieq a b := rfl
theorem brB {q r : Bool} {X : Option (V × List VO)} (h : X = some (.t .bool r, [])) : br q (some (.t .bool false, [])) X = some (.t .bool (!q && r), []) := by
 subst h
 cases q <;> rfl
theorem brA {q r : Bool} {X : Option (V × List VO)} (h : X = some (.t .bool r, [])) : br q X (some (.t .bool false, [])) = some (.t .bool (q && r), []) := by
 subst h
 cases q <;> rfl
theorem br9 {q v : Bool} {n : Int} {X : Option (V × List VO)} (h0 : q = true → v = false) (hX : q = false → X = some (.t tI (bif v then 0 else n), [])) : br q (some (.t tI n, [])) X = some (.t tI (bif v then 0 else n), []) := by
 cases q with
 | true => rw [Qac, h0 rfl]; rfl
 | false => rw [Qaf, hX rfl]
open Classical in
def samB {α : Type} (a b : α) : Bool := decide (a = b)
theorem QoG {α : Type} (a : α) : samB a a = true := by
 unfold samB
 simp
theorem Qxp {α : Type} {a b : α} (h : samB a b = true) : a = b := by
 unfold samB at h
 simpa using h
def keyI (n : Int) : Bool := !ilt n 0 && !igt n 2147483648
noncomputable def QwN : TC := (.sq (.reg (rT Tryz.f121 0)) (.sq (.reg (rT Tryz.f121 1)) .rt))
def QF5 : List (RV × Option Ty) := [((.t 2), some .bool)]
def QAw : G := ⟨TYs, [], 9, EL [], keeps, (fun _ _ => none), IL [], RL []⟩
def QHf (p0 : Int) : Option (V × List VO) := br (ige p0 0) (some (.t .bool (ile p0 2147483648), [])) (some (.t .bool false, []))
theorem e_f121 (p0 : Int) : runF QAw QwN QF5 false [.t tI p0] [] = QHf p0 := by kernel_rfl
theorem QyE : Qah Tryz.prog 121 := .inr ⟨by decide, _, Tryz.func121, by kernel_rfl, by kernel_rfl⟩
theorem QUW : GOk Tryz.prog QAw := Qal _ (fun p hp => by cases hp)
theorem QTp : QwN.lok QAw := by repeat (first | exact trivial | refine ⟨?_, ?_⟩)
theorem s_f121 (n : Int) : QHf n = some (.t .bool (keyI n), []) := by
 simp only [QHf, QsU, Qyg]
 exact brA rfl
def Qrw : Ent := spec (.pr tI .nil) (fun x => true) (fun x => (.t .bool (keyI x.1)))
theorem QxN : Meets Tryz.prog 121 (strip Qrw) := Qag (R := runF QAw QwN QF5 false) (mG Tryz.func121 (by kernel_rfl) Tryz.ntmps121 (by kernel_rfl) QUW QTp) fun x _ => (e_f121 x.1).trans (s_f121 x.1)
def sumI (n : Int) : Bool := !ilt n 0 && !ige n 4294967296
noncomputable def Qwl : TC := (.sq (.reg (rT Tryz.f165 0)) (.sq (.reg (rT Tryz.f165 1)) .rt))
def QFD : List (RV × Option Ty) := [((.t 2), some .bool)]
def QAd : G := ⟨TYs, [], 9, EL [], keeps, (fun _ _ => none), IL [], RL []⟩
def QGX (p0 : Int) : Option (V × List VO) := br (ige p0 0) (some (.t .bool (ilt p0 4294967296), [])) (some (.t .bool false, []))
theorem e_f165 (p0 : Int) : runF QAd Qwl QFD false [.t tI p0] [] = QGX p0 := by kernel_rfl
theorem QVu : Qah Tryz.prog 165 := .inr ⟨by decide, _, Tryz.func165, by kernel_rfl, by kernel_rfl⟩
theorem QUu : GOk Tryz.prog QAd := Qal _ (fun p hp => by cases hp)
theorem QSX : Qwl.lok QAd := by repeat (first | exact trivial | refine ⟨?_, ?_⟩)
theorem s_f165 (n : Int) : QGX n = some (.t .bool (sumI n), []) := by
 simp only [QGX, sumI, QsU, Bool.not_not]
 exact brA rfl
def QEm : Ent := spec (.pr tI .nil) (fun x => true) (fun x => (.t .bool (sumI x.1)))
theorem QRN : Meets Tryz.prog 165 (strip QEm) := Qag (R := runF QAd Qwl QFD false) (mG Tryz.func165 (by kernel_rfl) Tryz.ntmps165 (by kernel_rfl) QUu QSX) fun x _ => (e_f165 x.1).trans (s_f165 x.1)
def Qc0 (l : List ByteArray) (k : Nat) : Bool := (List.range' k (l.length - k)).all fun j => Qa3 (l.getD j ByteArray.empty) && (decide (j = 0) || slt (l.getD (j - 1) ByteArray.empty) (l.getD j ByteArray.empty))
theorem QqV (l : List ByteArray) : Qc0 l l.length = true := by
 unfold Qc0
 rw [Nat.sub_self]
 rfl
theorem Qo2 {l : List ByteArray} {k : Nat} (hk : k < l.length) : Qc0 l k = ((Qa3 l[k] && (decide (k = 0) || slt (l.getD (k - 1) ByteArray.empty) l[k])) && Qc0 l (k + 1)) := by
 have : l.length - k = (l.length - (k + 1)) + 1 := by omega
 unfold Qc0
 rw [this, List.range'_succ, List.all_cons]
 simp only [List.getD_eq_getElem?_getD, List.getElem?_eq_getElem hk, Option.getD_some]
def QhJ (l : List ByteArray) : Bool := Qc0 l 0 && !igt (llen l) 8
def QbY (l : List ByteArray) : Bool := decide (l.length ≤ 100000) && l.all nameG
def QgO : Fg := ⟨[(0, some (.sl .str)), (5, some (.sl .str)), (6, some tI), (7, some tI)], []⟩
noncomputable def QiA : TC := (.sq (.reg (rT Tryz.f163 2)) (.sq (.cd (.t 8) .sk (.fg ⟨[(0, some (.sl .str))], []⟩ (.ex 0))) (.sq (.bk 1 (.sq (.reg (rT Tryz.f163 3)) (.sq (.reg (rT Tryz.f163 4)) (.cd (.t 27) (.sq (.reg (rT Tryz.f163 5)) (.fg ⟨[(2, some .bool)], []⟩ .rt)) .sk)))) (.reg (rT Tryz.f163 6)))))
noncomputable def Qwn : TC := (.sq (.reg (rT Tryz.f163 0)) (.sq (.sq (.reg (rT Tryz.f163 1)) (.bk 0 (.lp 0 QgO QiA))) (.sq (.reg (rT Tryz.f163 7)) .rt)))
def QFF : List (RV × Option Ty) := [((.t 2), some .bool)]
abbrev Qol : Sh := ⟨[(0, .ty (.sl .str)), (5, .ty (.sl .str)), (6, .ty tI), (7, .ty tI)], []⟩
def QiQ (x0 x5 : List ByteArray) (x6 x7 : Int) : VS := Qol.st (x0, x5, x6, x7, ()) ()
abbrev QrR : Sh := ⟨[(2, .ty .bool)], []⟩
def QbB (x2 : Bool) : VS := QrR.st (x2, ()) ()
abbrev Qt3 : Sh := ⟨[(0, .ty (.sl .str))], []⟩
def QdW (x0 : List ByteArray) : VS := Qt3.st (x0, ()) ()
def QOH : VS → Option (Bool × List (Bool × Exit × VS)) := mkL Qol (fun x y => (rngOk x.2.1 x.2.2.1 x.2.2.2.1 && samB x.1 x.2.1 && QbY x.2.1)) (fun x y => [((!Qc0 x.2.1 x.2.2.2.1.toNat), .ret, QbB (false)), (true, .exit 0, QdW (x.1))])
def Qls : G := ⟨TYs, [], 32, EL [(124, Qrv)], keeps, (Ls [QOH]), IL [], RL []⟩
def QBg (x0 x5 : List ByteArray) (x6 x7 : Int) : Option (Exit × VS) :=
 let a1 := lgt .str x5 (Int.toNat x7)
 br (ilt x7 x6) (br (cIx x5 x7) (br (nameG a1) (br (!(Qa3 a1)) (some (.ret, QbB false)) (br (igt x7 0) (br (cIx x0 (isub .i64 x7 1)) (br (!slt (lgt .str x0 (Int.toNat (isub .i64 x7 1))) a1) (some (.ret, QbB false)) (some (.normal, QiQ x0 x5 x6 (iadd .i64 x7 1)))) none) (some (.normal, QiQ x0 x5 x6 (iadd .i64 x7 1))))) none) none) (some (.exit 0, QdW x0))
noncomputable def Qgs (x0 x5 : List ByteArray) (x6 x7 : Int) : Option (Exit × VS) := loopF (Qak Qls QgO QiA) (QiQ x0 x5 x6 x7)
noncomputable def Qmx (x0 x5 : List ByteArray) (x6 x7 : Int) : Option (Exit × VS) :=
 let a1 := lgt .str x5 (Int.toNat x7)
 br (ilt x7 x6) (br (cIx x5 x7) (br (nameG a1) (br (!(Qa3 a1)) (some (.ret, QbB false)) (br (igt x7 0) (br (cIx x0 (isub .i64 x7 1)) (br (!slt (lgt .str x0 (Int.toNat (isub .i64 x7 1))) a1) (some (.ret, QbB false)) (Qgs x0 x5 x6 (iadd .i64 x7 1))) none) (Qgs x0 x5 x6 (iadd .i64 x7 1)))) none) none) (some (.exit 0, QdW x0))
def QjK (x0 x5 : List ByteArray) (x6 x7 : Int) : Option (Exit × VS) := br (!Qc0 x5 x7.toNat) (some (.ret, QbB (false))) <| some (.exit 0, QdW (x0))
theorem QKH (x0 x5 : List ByteArray) (x6 x7 : Int) : Qak Qls QgO QiA (QiQ x0 x5 x6 x7) = QBg x0 x5 x6 x7 := by kernel_rfl
theorem QuZ (x0 x5 : List ByteArray) (x6 x7 : Int) : Qgs x0 x5 x6 x7 = Qmx x0 x5 x6 x7 := (Qan _ _).trans (by
 rw [QKH]
 simp only [QBg, Qmx, Qax, nxt_n, nxt_r, nxt_e, nxt_0]
 rfl)
def QGZ (p0 : List ByteArray) : Option (V × List VO) := br (rngOk p0 (llen p0) (0 : Int) && samB p0 p0 && QbY p0) (br (!Qc0 p0 (0 : Int).toNat) (some (.t .bool (false), [])) (some (.t .bool (ile (llen (p0)) 8), []))) none
theorem e_f163 (p0 : List ByteArray) : runF Qls Qwn QFF false [.t (.sl .str) p0] [] = QGZ p0 := by kernel_rfl
theorem QVw : Qah Tryz.prog 163 := .inr ⟨by decide, _, Tryz.func163, by kernel_rfl, by kernel_rfl⟩
theorem QUw : GOk Tryz.prog Qls := Qal _ (gA (gC QyD QxM gN))
theorem QzN {l : List ByteArray} {k : Nat} (h : 0 < k) (hk : k < l.length) : lgt .str l (Int.toNat (isub .i64 (k : Int) 1)) = l.getD (k - 1) ByteArray.empty ∧ cIx l (isub .i64 (k : Int) 1) = decide (k - 1 < l.length) ∨ 4611686018427387904 ≤ k := by
 rcases Nat.lt_or_ge k 4611686018427387904 with hb | hb
 ·left
  have e : isub .i64 (k : Int) 1 = ((k - 1 : Nat) : Int) := by rw [Qch (by omega)]; omega
  rw [e, Int.toNat_natCast, Qau]
  exact ⟨rfl, rfl⟩
 ·exact .inr hb
theorem QMQ (x0 x5 : List ByteArray) (x6 x7 : Int) (h : (rngOk x5 x6 x7 && samB x0 x5 && QbY x5) = true) : Qgs x0 x5 x6 x7 = QjK x0 x5 x6 x7 := by
 simp only [Bool.and_eq_true] at h
 obtain ⟨⟨h0, hs⟩, hn⟩ := h
 have hs := Qxp hs
 subst hs
 obtain ⟨rfl, h3, k, rfl, hk⟩ := rng_k h0
 clear h0
 simp only [QbY, Bool.and_eq_true, List.all_eq_true] at hn
 refine Qat x0 (fun k => Qgs x0 x0 (x0.length : Int) (k : Int) = QjK x0 x0 (x0.length : Int) (k : Int)) ?_ ?_ k hk
 ·rw [QuZ]
  simp only [Qmx, QjK, Qar, Nat.lt_irrefl, decide_false, Qaf, Int.toNat_natCast, QqV, Bool.not_true]
 ·intro k hk ih
  rw [QuZ]
  have hx := hn.2 x0[k] (List.getElem_mem hk)
  simp only [Qmx, Qar, Qau, hk, decide_true, Qac, Int.toNat_natCast, add1 (show k < 4611686018427387904 by omega), Qay (y := .str) hk, hx, ih]
  simp only [QjK, Int.toNat_natCast, Qo2 hk]
  cases hg : Qa3 x0[k] with
  | false => rfl
  | true =>
   simp only [Bool.not_true, Qaf, Bool.true_and]
   by_cases h0 : k = 0
   ·subst h0
    simp only [show igt ((0 : Nat) : Int) 0 = false from rfl, Qaf, decide_true, Bool.true_or, Bool.true_and]
   ·rcases QzN (l := x0) (k := k) (by omega) hk with ⟨e1, e2⟩ | hb
    ·rw [show igt (k : Int) 0 = true from decide_eq_true (by omega), Qac, e2, decide_eq_true (show k - 1 < x0.length by omega), Qac, e1, decide_eq_false h0, Bool.false_or]
     cases slt (x0.getD (k - 1) ByteArray.empty) x0[k] <;> rfl
    ·omega
theorem QIn : ∀ S l p, Qls.L 0 (fgt QgO S) = some (true, l) → pickA l = some p → loopF (Qak Qls QgO QiA) S = some p :=
 QaD (s := Qol) ⟨by decide, by decide⟩ (by kernel_rfl) fun x y hok p hp => by
 simp only [Qap, Qam] at hp
 exact (QMQ x.1 x.2.1 x.2.2.1 x.2.2.2.1 (by simpa using hok)).trans hp
theorem QSZ : Qwn.lok Qls := by
 repeat (first | exact trivial | exact QIn | refine ⟨?_, ?_⟩)
theorem s_f163 (l : List ByteArray) (h : QbY l = true) : QGZ l = some (.t .bool (QhJ l), []) := by
 have hl : l.length ≤ 100000 := by simp only [QbY, Bool.and_eq_true, decide_eq_true_eq] at h; exact h.1
 simp only [QGZ, rng_0 hl, QoG, h, Bool.and_self, Qac, Int.toNat_zero, Qyg, QhJ]
 cases Qc0 l 0 <;> rfl
def QEo : Ent := spec (.pr (.sl .str) .nil) (fun x => (QbY x.1)) (fun x => (.t .bool (QhJ x.1)))
theorem QRP : Meets Tryz.prog 163 (strip QEo) := Qag (R := runF Qls Qwn QFF false) (mG Tryz.func163 (by kernel_rfl) Tryz.ntmps163 (by kernel_rfl) QUw QSZ) fun x hok => (e_f163 x.1).trans (s_f163 x.1 hok)
def kindU (u : Keep) (k : Int) : Bool := QbO u && ieq (kindF u.1) k
noncomputable def Qwm : TC := (.sq (.reg (rT Tryz.f164 0)) (.sq (.reg (rT Tryz.f164 1)) .rt))
def QFE : List (RV × Option Ty) := [((.t 4), some .bool)]
def QAe : G := ⟨TYs, [], 14, EL [(125, Qru), (155, Qrt)], keeps, (fun _ _ => none), IL [], RL []⟩
def QGY (p0 : Keep) (p1 : Int) : Option (V × List VO) := br (QbO p0) (some (.t .bool (ieq (kindF p0.1) p1), [])) (some (.t .bool false, []))
theorem e_f164 (p0 : Keep) (p1 : Int) : runF QAe Qwm QFE false [.t Qai p0, .t tI p1] [] = QGY p0 p1 := by kernel_rfl
theorem QVv : Qah Tryz.prog 164 := .inr ⟨by decide, _, Tryz.func164, by kernel_rfl, by kernel_rfl⟩
theorem QUv : GOk Tryz.prog QAe := Qal _ (gA (gC QyC QxL (gC QyA QxJ gN)))
theorem QSY : Qwm.lok QAe := by repeat (first | exact trivial | refine ⟨?_, ?_⟩)
theorem s_f164 (u : Keep) (k : Int) : QGY u k = some (.t .bool (kindU u k), []) := by
 simp only [QGY]
 exact brA rfl
def QEn : Ent := spec (.pr Qai (.pr tI .nil)) (fun x => true) (fun x => (.t .bool (kindU x.1 x.2.1)))
theorem QRO : Meets Tryz.prog 164 (strip QEn) := Qag (R := runF QAe Qwm QFE false) (mG Tryz.func164 (by kernel_rfl) Tryz.ntmps164 (by kernel_rfl) QUv QSY) fun x _ => (e_f164 x.1 x.2.1).trans (s_f164 x.1 x.2.1)
def signU (u : Keep) : Bool := kindU u 2
noncomputable def Qww : TC := (.sq (.reg (rT Tryz.f145 0)) (.sq (.reg (rT Tryz.f145 1)) .rt))
def QFO : List (RV × Option Ty) := [((.t 2), some .bool)]
def QAl : G := ⟨TYs, [], 11, EL [(70, QDM), (147, Qw1)], keeps, (fun _ _ => none), IL [], RL []⟩
def QG4 (p0 : Keep) : Option (V × List VO) := br (QbO p0) (some (.t .bool (ieq (kindF p0.1) 2), [])) (some (.t .bool false, []))
theorem e_f145 (p0 : Keep) : runF QAl Qww QFO false [.t Qai p0] [] = QG4 p0 := by kernel_rfl
theorem QVD : Qah Tryz.prog 145 := .inr ⟨by decide, _, Tryz.func145, by kernel_rfl, by kernel_rfl⟩
theorem QUF : GOk Tryz.prog QAl := Qal _ (gA (gC QQE QQs (gC QJJ QHV gN)))
theorem QS8 : Qww.lok QAl := by repeat (first | exact trivial | refine ⟨?_, ?_⟩)
theorem s_f145 (u : Keep) : QG4 u = some (.t .bool (signU u), []) := by
 simp only [QG4]
 exact brA rfl
def QEv : Ent := spec (.pr Qai .nil) (fun x => true) (fun x => (.t .bool (signU x.1)))
theorem QRW : Meets Tryz.prog 145 (strip QEv) := Qag (R := runF QAl Qww QFO false) (mG Tryz.func145 (by kernel_rfl) Tryz.ntmps145 (by kernel_rfl) QUF QS8) fun x _ => (e_f145 x.1).trans (s_f145 x.1)
abbrev Qaz (c : Qaa) : List ByteArray := c.2.2.2.2.2.2.2.2.2.2.1
abbrev cSeal (c : Qaa) : Keep := c.2.2.2.2.2.2.2.2.2.2.2.1
def QaG (c : Qaa) : Bool := nameG c.2.1 && (nameG c.2.2.1 && QbY (Qaz c))
def QaC (c : Qaa) : Bool :=
 !ilt c.1 0 && (!igt c.1 1099511627776 && (Qa3 c.2.1 && (Qa3 c.2.2.1 && (QhJ (Qaz c) && (kindU c.2.2.2.1 2 && (keyI c.2.2.2.2.1 && (kindU c.2.2.2.2.2.1 1 && (keyI (cSeal c).1 && (sumI (cSeal c).2.1 &&
 (!ilt c.2.2.2.2.2.2.1 0 && (!igt c.2.2.2.2.2.2.1 c.2.2.2.2.2.2.2.1 && (!igt c.2.2.2.2.2.2.2.1 40000 && (!ilt c.2.2.2.2.2.2.2.2.2.1 0 && (!igt c.2.2.2.2.2.2.2.2.2.1 8 && (c.2.2.2.2.2.2.2.2.1 || ieq c.2.2.2.2.2.2.2.2.2.1 0)))))))))))))))
noncomputable def QwC : TC := (.sq (.reg (rT Tryz.f138 0)) (.sq (.sq (.reg (rT Tryz.f138 1)) (.cd (.t 28) (.sq (.reg (rT Tryz.f138 2)) .rt) .sk)) (.sq (.sq (.reg (rT Tryz.f138 3)) (.cd (.t 58) (.sq (.reg (rT Tryz.f138 4)) .rt) .sk)) (.sq (.sq (.reg (rT Tryz.f138 5)) (.cd (.t 73) (.sq (.reg (rT Tryz.f138 6)) .rt) .sk)) (.sq (.reg (rT Tryz.f138 7)) .rt)))))
def QFU : List (RV × Option Ty) := [((.t 2), some .bool)]
def QAp : G := ⟨TYs, [], 91, EL [(121, Qrw), (124, Qrv), (163, QEo), (164, QEn), (165, QEm)], keeps, (fun _ _ => none), IL [], RL []⟩
def QHa (p0 : Qaa) : Option (V × List VO) := br (ilt p0.1 0) (some (.t .bool false, [])) (br (igt p0.1 1099511627776) (some (.t .bool false, [])) (br (nameG p0.2.1) (br (!(Qa3 p0.2.1)) (some (.t .bool false, [])) (br (nameG p0.2.2.1) (br (!(Qa3 p0.2.2.1)) (some (.t .bool false, [])) (br (QbY p0.2.2.2.2.2.2.2.2.2.2.1) (br (!(QhJ p0.2.2.2.2.2.2.2.2.2.2.1)) (some (.t .bool false, [])) (br (!(kindU p0.2.2.2.1 2)) (some (.t .bool false, [])) (br (!(keyI p0.2.2.2.2.1)) (some (.t .bool false, [])) (br (!(kindU p0.2.2.2.2.2.1 1)) (some (.t .bool false, [])) (br (!(keyI p0.2.2.2.2.2.2.2.2.2.2.2.1.1)) (some (.t .bool false, [])) (br (!(sumI p0.2.2.2.2.2.2.2.2.2.2.2.1.2.1)) (some (.t .bool false, [])) (br (ilt p0.2.2.2.2.2.2.1 0) (some (.t .bool false, [])) (br (igt p0.2.2.2.2.2.2.1 p0.2.2.2.2.2.2.2.1) (some (.t .bool false, [])) (br (igt p0.2.2.2.2.2.2.2.1 40000) (some (.t .bool false, [])) (br (ige p0.2.2.2.2.2.2.2.2.2.1 0) (br (ile p0.2.2.2.2.2.2.2.2.2.1 8) (br (p0.2.2.2.2.2.2.2.2.1) (some (.t .bool true, [])) (some (.t .bool (ieq p0.2.2.2.2.2.2.2.2.2.1 0), []))) (some (.t .bool false, []))) (some (.t .bool false, [])))))))))))) none)) none)) none))
theorem e_f138 (p0 : Qaa) : runF QAp QwC QFU false [.t Qad p0] [] = QHa p0 := by kernel_rfl
theorem QJL : Qah Tryz.prog 138 := .inr ⟨by decide, _, Tryz.func138, by kernel_rfl, by kernel_rfl⟩
theorem QUL : GOk Tryz.prog QAp := Qal _ (gA (gC QyE QxN (gC QyD QxM (gC QVw QRP (gC QVv QRO (gC QVu QRN gN))))))
theorem QTe : QwC.lok QAp := by repeat (first | exact trivial | refine ⟨?_, ?_⟩)
theorem s_f138 (c : Qaa) (h : QaG c = true) : QHa c = some (.t .bool (QaC c), []) := by
 simp only [QaG, Bool.and_eq_true] at h
 obtain ⟨h1, h2, h3⟩ := h
 simp only [QHa, h1, h2, h3, Qac, QsU, Qyg]
 refine (brB <| brB <| brB <| brB <| brB <| brB <| brB <| brB <| brB <| brB <| brB <| brB <| brB <| brA <| brA (r := c.2.2.2.2.2.2.2.2.1 || ieq c.2.2.2.2.2.2.2.2.2.1 0) ?_).trans ?_
 ·cases c.2.2.2.2.2.2.2.2.1 <;> rfl
 ·simp only [Bool.not_not, QaC]
def Qw3 : Ent := spec (.pr Qad .nil) (fun x => (QaG x.1)) (fun x => (.t .bool (QaC x.1)))
theorem QHX : Meets Tryz.prog 138 (strip Qw3) := Qag (R := runF QAp QwC QFU false) (mG Tryz.func138 (by kernel_rfl) Tryz.ntmps138 (by kernel_rfl) QUL QTe) fun x hok => (e_f138 x.1).trans (s_f138 x.1 hok)
def QeR (c : Qaa) : Int := bif QaC c then 0 else 9
theorem Qg2 (c : Qaa) : ine (QeR c) 0 = !QaC c := by
 unfold QeR
 cases QaC c <;> rfl
noncomputable def QC0 : TC := (.sq (.reg (rT Tryz.f96 0)) (.sq (.sq (.reg (rT Tryz.f96 1)) (.cd (.t 5) (.sq (.reg (rT Tryz.f96 2)) .rt) .sk)) (.sq (.reg (rT Tryz.f96 3)) .rt)))
def QPw : List (RV × Option Ty) := [((.t 2), some tI)]
def g_f96 : G := ⟨TYs, [], 6, EL [(138, Qw3)], keeps, (fun _ _ => none), IL [], RL []⟩
def r_f96 (p0 : Qaa) : Option (V × List VO) := br (QaG p0) (br (!(QaC p0)) (some (.t tI 9, [])) (some (.t tI 0, []))) none
theorem e_f96 (p0 : Qaa) : runF g_f96 QC0 QPw false [.t Qad p0] [] = r_f96 p0 := by kernel_rfl
theorem QQC : Qah Tryz.prog 96 := .inr ⟨by decide, _, Tryz.func96, by kernel_rfl, by kernel_rfl⟩
theorem gk_f96 : GOk Tryz.prog g_f96 := Qal _ (gA (gC QJL QHX gN))
theorem lk_f96 : QC0.lok g_f96 := by repeat (first | exact trivial | refine ⟨?_, ?_⟩)
theorem s_f96 (c : Qaa) (h : QaG c = true) : r_f96 c = some (.t tI (QeR c), []) := by
 simp only [r_f96, h, Qac, QeR]
 cases QaC c <;> rfl
def QDK : Ent := spec (.pr Qad .nil) (fun x => (QaG x.1)) (fun x => (.t tI (QeR x.1)))
theorem QQq : Meets Tryz.prog 96 (strip QDK) := Qag (R := runF g_f96 QC0 QPw false) (mG Tryz.func96 (by kernel_rfl) Tryz.ntmps96 (by kernel_rfl) gk_f96 lk_f96) fun x hok => (e_f96 x.1).trans (s_f96 x.1 hok)
noncomputable def QJ2 : List DO := dT Tryz.f130 9
def QgV : Fg := ⟨[(1, none), (3, some tI)], [(1, some Qad)]⟩
noncomputable def QiH : TC := (.sq (.sq (.reg (rT Tryz.f130 8)) (.cd (.t 96) .sk (.fg ⟨[(1, none)], [(1, some Qad)]⟩ (.ex 0)))) (.sq (.bk 1 (.sq (.dr QJ2 [(0, [1]), (1, [1]), (2, []), (3, []), (4, []), (5, []), (6, []), (7, []), (8, []), (9, []), (10, []), (11, [1]), (12, [1]), (13, []), (14, []), (15, []), (16, []), (17, [1]), (18, [1]), (19, []), (20, []), (21, []), (22, []), (23, []), (24, [])] (.of [0, 1, 2, 3, 4, 5, 6, 7, 8, 9, 10, 11, 12, 13, 14, 15, 16, 17, 18, 19, 20, 21, 22, 23, 24])) (.cd (.t 123) (.sq (.reg (rT Tryz.f130 10)) (.fg ⟨[(2, some tI)], []⟩ .rt)) .sk))) (.reg (rT Tryz.f130 11))))
noncomputable def QwG : TC := (.sq (.reg (rT Tryz.f130 0)) (.sq (.sq (.reg (rT Tryz.f130 1)) (.cd (.t 39) (.sq (.reg (rT Tryz.f130 2)) .rt) .sk)) (.sq (.sq (.reg (rT Tryz.f130 3)) (.cd (.t 67) (.sq (.reg (rT Tryz.f130 4)) .rt) .sk)) (.sq (.sq (.reg (rT Tryz.f130 5)) (.cd (.t 91) (.sq (.reg (rT Tryz.f130 6)) .rt) .sk)) (.sq (.sq (.reg (rT Tryz.f130 7)) (.bk 0 (.lp 0 QgV QiH))) (.sq (.sq (.reg (rT Tryz.f130 12)) (.cd (.t 145) (.sq (.reg (rT Tryz.f130 13)) .rt) .sk)) (.sq (.reg (rT Tryz.f130 14)) .rt)))))))
def QFY : List (RV × Option Ty) := [((.t 2), some tI)]
abbrev Qov : Sh := ⟨[(1, .ptr 1 0), (3, .ty tI)], [(1, .box Qad)]⟩
def QiR (x3 : Int) (y1 : Qaa) : VS := Qov.st ((), x3, ()) (y1, ())
abbrev QrW : Sh := ⟨[(2, .ty tI)], []⟩
def QbD (x2 : Int) : VS := QrW.st (x2, ()) ()
abbrev Qua : Sh := ⟨[(1, .ptr 1 0)], [(1, .box Qad)]⟩
def Qd3 (y1 : Qaa) : VS := Qua.st ((), ()) (y1, ())
def QOO : VS → Option (Bool × List (Bool × Exit × VS)) := mkL Qov (fun x y => (decide (0 ≤ x.2.1 ∧ x.2.1 ≤ (Qaz y.1).length) && QbY (Qaz y.1))) (fun x y => [((!Qc0 (Qaz y.1) x.2.1.toNat), .ret, QbD (9)), (true, .exit 0, Qd3 (y.1))])
def Qlz : G := ⟨TYs, [], 146, EL [(70, QDM), (145, QEv), (146, QEu), (147, Qw1)], keeps, (Ls [QOO]), IL [], RL []⟩
def QBn (x3 : Int) (y1 : Qaa) : Option (Exit × VS) :=
 let a1 := lgt .str y1.2.2.2.2.2.2.2.2.2.2.1 (Int.toNat x3)
 let a2 := cIx y1.2.2.2.2.2.2.2.2.2.2.1 x3
 br (ilt x3 (llen y1.2.2.2.2.2.2.2.2.2.2.1)) (br a2 (br (nameG a1) (br (!(Qa3 a1)) (some (.ret, QbD 9)) (br (igt x3 0) (br (cIx y1.2.2.2.2.2.2.2.2.2.2.1 (isub .i64 x3 1)) (br a2 (br (!slt (lgt .str y1.2.2.2.2.2.2.2.2.2.2.1 (Int.toNat (isub .i64 x3 1))) a1) (some (.ret, QbD 9)) (some (.normal, QiR (iadd .i64 x3 1) y1))) none) none) (some (.normal, QiR (iadd .i64 x3 1) y1)))) none) none) (some (.exit 0, Qd3 y1))
noncomputable def Qgt (x3 : Int) (y1 : Qaa) : Option (Exit × VS) := loopF (Qak Qlz QgV QiH) (QiR x3 y1)
noncomputable def QmD (x3 : Int) (y1 : Qaa) : Option (Exit × VS) :=
 let a1 := lgt .str y1.2.2.2.2.2.2.2.2.2.2.1 (Int.toNat x3)
 let a2 := cIx y1.2.2.2.2.2.2.2.2.2.2.1 x3
 br (ilt x3 (llen y1.2.2.2.2.2.2.2.2.2.2.1)) (br a2 (br (nameG a1) (br (!(Qa3 a1)) (some (.ret, QbD 9)) (br (igt x3 0) (br (cIx y1.2.2.2.2.2.2.2.2.2.2.1 (isub .i64 x3 1)) (br a2 (br (!slt (lgt .str y1.2.2.2.2.2.2.2.2.2.2.1 (Int.toNat (isub .i64 x3 1))) a1) (some (.ret, QbD 9)) (Qgt (iadd .i64 x3 1) y1)) none) none) (Qgt (iadd .i64 x3 1) y1))) none) none) (some (.exit 0, Qd3 y1))
def QjQ (x3 : Int) (y1 : Qaa) : Option (Exit × VS) := br (!Qc0 (Qaz y1) x3.toNat) (some (.ret, QbD (9))) <| some (.exit 0, Qd3 (y1))
theorem QKO (x3 : Int) (y1 : Qaa) : Qak Qlz QgV QiH (QiR x3 y1) = QBn x3 y1 := by kernel_rfl
theorem Qu6 (x3 : Int) (y1 : Qaa) : Qgt x3 y1 = QmD x3 y1 := (Qan _ _).trans (by
 rw [QKO]
 simp only [QBn, QmD, Qax, nxt_n, nxt_r, nxt_e, nxt_0]
 rfl)
def Qsq (p0 : Qaa) : Option (V × List VO) :=
 let a1 := (((((((((((((p0).2).2).2).2).2).2).2).2).2).2).2).1)
 br (igt (llen p0.2.2.2.2.2.2.2.2.2.2.1) 8) (some (.t tI 9, [])) (br (decide (0 ≤ (0 : Int) ∧ (0 : Int) ≤ (Qaz p0).length) && QbY (Qaz p0)) (br (!Qc0 (Qaz p0) (0 : Int).toNat) (some (.t tI (9), [])) (br (ilt (a1.1) 0) (some (.t tI 9, [])) (br (igt (a1.1) 2147483648) (some (.t tI 9, [])) (br (ilt ((a1.2).1) 0) (some (.t tI 9, [])) (br (ige ((a1.2).1) 4294967296) (some (.t tI 9, [])) (some (.t tI 0, []))))))) none)
def QHc (p0 : Qaa) : Option (V × List VO) := br (ilt p0.1 0) (some (.t tI 9, [])) (br (igt p0.1 1099511627776) (some (.t tI 9, [])) (br (nameG p0.2.1) (br (!(Qa3 p0.2.1)) (some (.t tI 9, [])) (br (nameG p0.2.2.1) (br (!(Qa3 p0.2.2.1)) (some (.t tI 9, [])) (br (!(signU p0.2.2.2.1)) (some (.t tI 9, [])) (br (ilt p0.2.2.2.2.1 0) (some (.t tI 9, [])) (br (igt p0.2.2.2.2.1 2147483648) (some (.t tI 9, [])) (br (!(QbO p0.2.2.2.2.2.1)) (some (.t tI 9, [])) (br (ine (kindF p0.2.2.2.2.2.1.1) 1) (some (.t tI 9, [])) (br (ilt p0.2.2.2.2.2.2.1 0) (some (.t tI 9, [])) (br (igt p0.2.2.2.2.2.2.1 p0.2.2.2.2.2.2.2.1) (some (.t tI 9, [])) (br (igt p0.2.2.2.2.2.2.2.1 40000) (some (.t tI 9, [])) (br (ilt p0.2.2.2.2.2.2.2.2.2.1 0) (some (.t tI 9, [])) (br (igt p0.2.2.2.2.2.2.2.2.2.1 8) (some (.t tI 9, [])) (br (!p0.2.2.2.2.2.2.2.2.1) (br (ine p0.2.2.2.2.2.2.2.2.2.1 0) (some (.t tI 9, [])) (Qsq p0)) (Qsq p0))))))))))))) none)) none))
theorem e_f130 (p0 : Qaa) : runF Qlz QwG QFY false [.t Qad p0] [] = QHc p0 := by kernel_rfl
theorem QJM : Qah Tryz.prog 130 := .inr ⟨by decide, _, Tryz.func130, by kernel_rfl, by kernel_rfl⟩
theorem QUP : GOk Tryz.prog Qlz := Qal _ (gA (gC QQE QQs (gC QVD QRW (gC QVC QRV (gC QJJ QHV gN)))))
theorem QMX (x3 : Int) (y1 : Qaa) (h : (decide (0 ≤ x3 ∧ x3 ≤ (Qaz y1).length) && QbY (Qaz y1)) = true) : Qgt x3 y1 = QjQ x3 y1 := by
 simp only [Bool.and_eq_true, decide_eq_true_eq] at h
 obtain ⟨⟨h0, h1⟩, hn⟩ := h
 obtain ⟨k, rfl⟩ := Int.eq_ofNat_of_zero_le h0
 simp only [QbY, Bool.and_eq_true, List.all_eq_true, decide_eq_true_eq] at hn
 refine Qat (Qaz y1) (fun k => Qgt (k : Int) y1 = QjQ (k : Int) y1) ?_ ?_ k (by omega)
 ·rw [Qu6]
  simp only [QmD, QjQ, show ilt ((Qaz y1).length : Int) (llen (Qaz y1)) = false from decide_eq_false (by simp only [llen]; omega), Qaf, Int.toNat_natCast, QqV, Bool.not_true]
 ·intro k hk ih
  rw [Qu6]
  have hx := hn.2 (Qaz y1)[k] (List.getElem_mem hk)
  simp only [QmD, show ilt (k : Int) (llen (Qaz y1)) = true from decide_eq_true (by simp only [llen]; omega), Qau, hk, decide_true, Qac, Int.toNat_natCast, add1 (show k < 4611686018427387904 by omega), Qay (y := .str) hk, hx, ih]
  simp only [QjQ, Int.toNat_natCast, Qo2 hk]
  cases hg : Qa3 (Qaz y1)[k] with
  | false => rfl
  | true =>
   simp only [Bool.not_true, Qaf, Bool.true_and]
   by_cases h0 : k = 0
   ·subst h0
    simp only [show igt ((0 : Nat) : Int) 0 = false from rfl, Qaf, decide_true, Bool.true_or, Bool.true_and]
   ·rcases QzN (l := Qaz y1) (k := k) (by omega) hk with ⟨e1, e2⟩ | hb
    ·rw [show igt (k : Int) 0 = true from decide_eq_true (by omega), Qac, e2, decide_eq_true (show k - 1 < (Qaz y1).length by omega), Qac, e1, decide_eq_false h0, Bool.false_or]
     cases slt ((Qaz y1).getD (k - 1) ByteArray.empty) (Qaz y1)[k] <;> rfl
    ·omega
theorem QIu : ∀ S l p, Qlz.L 0 (fgt QgV S) = some (true, l) → pickA l = some p → loopF (Qak Qlz QgV QiH) S = some p :=
 QaD (s := Qov) ⟨by decide, by decide⟩ (by kernel_rfl) fun x y hok p hp => by
 simp only [Qap, Qam] at hp
 exact (QMX x.2.1 y.1 (by simpa using hok)).trans hp
theorem QTi : QwG.lok Qlz := by
 repeat (first | exact trivial | exact QIu | refine ⟨?_, ?_⟩)
theorem s_f130 (c : Qaa) (h : QaG c = true) : QHc c = some (.t tI (QeR c), []) := by
 simp only [QaG, Bool.and_eq_true] at h
 obtain ⟨h1, h2, h3⟩ := h
 have hd : decide ((0 : Int) ≤ 0 ∧ (0 : Int) ≤ (Qaz c).length) = true := decide_eq_true (by omega)
 unfold QeR
 simp only [QHc, Qsq, h1, h2, h3, hd, Bool.and_self, Qac, Int.toNat_zero, Qyf]
 refine br9 (fun g => by simp [QaC, g]) fun g1 => br9 (fun g => by simp [QaC, g]) fun g2 => br9 (fun g => by simp only [Bool.not_eq_true'] at g; simp [QaC, g]) fun g3 => br9 (fun g => by simp only [Bool.not_eq_true'] at g; simp [QaC, g]) fun g4 => br9 (fun g => by simp only [Bool.not_eq_true', signU] at g; simp [QaC, g]) fun g5 => br9 (fun g => by simp [QaC, keyI, g]) fun g6 => br9 (fun g => by simp [QaC, keyI, g]) fun g7 => br9 (fun g => by simp only [Bool.not_eq_true'] at g; simp [QaC, kindU, g]) fun g8 => br9 (fun g => by simp only [Bool.not_eq_true'] at g; simp [QaC, kindU, g]) fun g9 => br9 (fun g => by simp [QaC, g]) fun g10 => br9 (fun g => by simp [QaC, g]) fun g11 => br9 (fun g => by simp [QaC, g]) fun g12 => br9 (fun g => by simp [QaC, g]) fun g13 => br9 (fun g => by simp [QaC, g]) fun g14 => ?_
 have tail : ∀ (hp : (c.2.2.2.2.2.2.2.2.1 || ieq c.2.2.2.2.2.2.2.2.2.1 0) = true), br (igt (llen (Qaz c)) 8) (some (V.t tI 9, ([] : List VO))) (br (!Qc0 (Qaz c) 0) (some (V.t tI 9, [])) (br (ilt (cSeal c).1 0) (some (V.t tI 9, [])) (br (igt (cSeal c).1 2147483648) (some (V.t tI 9, [])) (br (ilt (cSeal c).2.1 0) (some (V.t tI 9, [])) (br (ige (cSeal c).2.1 4294967296) (some (V.t tI 9, [])) (some (V.t tI 0, []))))))) = some (V.t tI (bif QaC c then 0 else 9), ([] : List VO)) := by
  intro hp
  refine br9 (fun g => by simp [QaC, QhJ, g]) fun g15 => br9 (fun g => by simp only [Bool.not_eq_true'] at g; simp [QaC, QhJ, g]) fun g16 => br9 (fun g => by simp [QaC, keyI, g]) fun g17 => br9 (fun g => by simp [QaC, keyI, g]) fun g18 => br9 (fun g => by simp [QaC, sumI, g]) fun g19 => br9 (fun g => by simp [QaC, sumI, g]) fun g20 => ?_
  simp only [Bool.not_eq_false'] at g3 g4 g5 g8 g9 g16
  simp only [signU] at g5
  have : QaC c = true := by
   simp only [QaC, QhJ, kindU, keyI, sumI, g1, g2, g3, g4, g6, g7, g8, g9, g10, g11, g12, g13, g14, g15, g16, g17, g18, g19, g20, hp, Bool.not_false, Bool.and_self, Bool.true_and]
   simpa only [kindU, Bool.and_true] using g5
  rw [this]
  rfl
 cases ha : c.2.2.2.2.2.2.2.2.1 with
 | true =>
  rw [Bool.not_true, Qaf]
  exact tail (by rw [ha]; rfl)
 | false =>
  rw [Bool.not_false, Qac]
  refine br9 (fun g => by simp only [Bool.not_eq_true'] at g; simp [QaC, ha, g]) fun g => ?_
  exact tail (by simp only [Bool.not_eq_false'] at g; rw [g, Bool.or_true])
def Qw4 : Ent := spec (.pr Qad .nil) (fun x => (QaG x.1)) (fun x => (.t tI (QeR x.1)))
theorem QHY : Meets Tryz.prog 130 (strip Qw4) := Qag (R := runF Qlz QwG QFY false) (mG Tryz.func130 (by kernel_rfl) Tryz.ntmps130 (by kernel_rfl) QUP QTi) fun x hok => (e_f130 x.1).trans (s_f130 x.1 hok)
end
end Go.Proofs.YtckcgijklnloiaaGreat.K
namespace Go.Proofs.YtckcgijklnloiaaGreat.K
open Go.RowKit
noncomputable section
theorem QQp (n : Int) : (intL n).length ≤ 8 := by
 rw [intL, Qp9]
 exact QuC n
theorem Qh9 (n : Nat) (m : Int) : okT (n + 1) (intT m) = true := by
 have := QQp m
 show okV (n + 1) (.mk 2 (intL m) false []) = true
 simp only [okV, List.isEmpty_nil, cond_false, List.all_nil, Bool.and_true, List.length_nil]
 rw [decide_eq_true (by omega)]
 rfl
theorem Qst (n : Nat) {s : ByteArray} (h : s.size ≤ 100000) : okT (n + 1) (txtT s) = true := by
 have := Qdi s
 show okV (n + 1) (.mk 12 (QaI s) false []) = true
 simp only [okV, List.isEmpty_nil, cond_false, List.all_nil, Bool.and_true, List.length_nil]
 rw [decide_eq_true (by omega)]
 rfl
theorem QLW (n : Nat) (b : Bool) : okT (n + 1) (boolT b) = true := by cases b <;> rfl
theorem Qxz {n : Nat} {l : List ValT} (hl : l.length ≤ 100000) (h : ∀ x ∈ l, okT n x = true) : okT (n + 1) (lstT l) = true := by
 show okV (n + 1) (.mk 48 [] true (l.map Val.of)) = true
 simp only [okV, List.isEmpty_nil, cond_true, Bool.and_true, List.length_nil, List.length_map, Bool.and_eq_true, List.all_eq_true, List.mem_map]
 refine ⟨⟨⟨rfl, rfl⟩, decide_eq_true ⟨by omega, hl⟩⟩, ?_⟩
 rintro v ⟨x, hx, rfl⟩
 exact h x hx
theorem Qp5 {n : Nat} {l : List ValT} (hl : l.length ≤ 100000) (h : ∀ x ∈ l, okT n x = true) : copLF (n + 1) l = true := by
 simp only [copLF, Bool.and_eq_true, decide_eq_true_eq, List.all_eq_true]
 exact ⟨hl, h⟩
theorem Qkr (x : ValT) : ((x.1, (x.2.1, (x.2.2.1, (List.map Val.of (List.map Val.un x.2.2.2.1), ())))) : ValT) = x := by
 rw [QcJ]
theorem Qic (m : Int) : (encT (intT m)).length ≤ 18 := by
 have h1 := QQp m
 have h2 := Qhp ((intL m).length + 0)
 rw [QpT]
 simp only [intT, encVs, List.length_cons, List.length_append, List.length_nil]
 omega
theorem Qyu (s : ByteArray) : (encT (txtT s)).length ≤ 10 + s.size := by
 have h1 := Qdi s
 have h2 := Qhp ((QaI s).length + 0)
 rw [QpT]
 simp only [txtT, encVs, List.length_cons, List.length_append, List.length_nil]
 omega
theorem QNm (b : Bool) : (encT (boolT b)).length ≤ 11 := by cases b <;> decide
theorem Qyv (l : List ValT) : (encT (lstT l)).length ≤ 10 + (encL l).length := by
 have h2 := Qhp (0 + (encVs (l.map Val.of)).length)
 rw [QpT]
 simp only [lstT, encL, List.length_cons, List.length_append, List.length_nil]
 omega
def useT (u : Keep) : ValT := lstT [intT u.1, intT u.2.1]
def Qdy (u : Keep) : Bool := i64Ok u.1 && i64Ok u.2.1
theorem QHu (n : Nat) (u : Keep) : okT (n + 2) (useT u) = true :=
 Qxz (by simp) fun x hx => by
  simp only [List.mem_cons, List.not_mem_nil, or_false] at hx
  rcases hx with rfl | rfl <;> exact Qh9 _ _
theorem QJj (u : Keep) : (encT (useT u)).length ≤ 46 := by
 have h0 := Qyv [intT u.1, intT u.2.1]
 have h1 := Qic u.1
 have h2 := Qic u.2.1
 simp only [Qck, QhB, List.length_append, List.length_nil] at h0
 unfold useT
 omega
theorem QCU (u : Keep) : copOk [intT u.1, intT u.2.1] = true :=
 Qp5 (n := 11) (by simp) fun x hx => by
  simp only [List.mem_cons, List.not_mem_nil, or_false] at hx
  rcases hx with rfl | rfl <;> exact Qh9 _ _
noncomputable def QJV : List DO := dT Tryz.f225 1
noncomputable def QvT : TC := (.sq (.reg (rT Tryz.f225 0)) (.sq (.dr QJV [(0, [1]), (1, [1]), (2, []), (3, [1]), (4, [1]), (5, []), (6, []), (7, []), (8, [2])] (.of [0, 1, 2, 3, 4, 5, 6, 7, 8])) .rt))
def QFb : List (RV × Option Ty) := [((.c 2 true 4), some Qaj)]
def QzX : G := ⟨TYs, [], 11, EL [(223, Qrs), (224, QwX)], keeps, (fun _ _ => none), IL [], RL []⟩
def QGy (p0 : Keep) : Option (V × List VO) :=
 let a1 := ((intT p0.2.1).1, (((intT p0.2.1).2).1, ((((intT p0.2.1).2).2).1, ((List.map Val.of (List.map Val.un (((((intT p0.2.1).2).2).2).1))), ()))))
 let a2 := ((intT p0.1).1, (((intT p0.1).2).1, ((((intT p0.1).2).2).1, ((List.map Val.of (List.map Val.un (((((intT p0.1).2).2).2).1))), ()))))
 br (i64Ok p0.1) (br (i64Ok p0.2.1) (br (copOk ([a2, a1])) (some (.t Qaj (lstT ([a2, a1])), [])) none) none) none
theorem e_f225 (p0 : Keep) : runF QzX QvT QFb false [.t Qai p0] [] = QGy p0 := by kernel_rfl
theorem QVc : Qah Tryz.prog 225 := .inr ⟨by decide, _, Tryz.func225, by kernel_rfl, by kernel_rfl⟩
theorem QT2 : GOk Tryz.prog QzX := Qal _ (gA (gC Qyy QxH (gC QJz QHR gN)))
theorem QSv : QvT.lok QzX := by repeat (first | exact trivial | refine ⟨?_, ?_⟩)
theorem s_f225 (u : Keep) (h : Qdy u = true) : QGy u = some (.t Qaj (useT u), []) := by
 simp only [Qdy, Bool.and_eq_true] at h
 simp only [QGy, h.1, h.2, Qkr, QCU, Qac]
 rfl
def QDX : Ent := spec (.pr Qai .nil) (fun x => (Qdy x.1)) (fun x => (.t Qaj (useT x.1)))
theorem QRp : Meets Tryz.prog 225 (strip QDX) := Qag (R := runF QzX QvT QFb false) (mG Tryz.func225 (by kernel_rfl) Tryz.ntmps225 (by kernel_rfl) QT2 QSv) fun x hok => (e_f225 x.1).trans (s_f225 x.1 hok)
noncomputable def QJX : List DO := dT Tryz.f188 1
noncomputable def Qv9 : TC := (.sq (.reg (rT Tryz.f188 0)) (.sq (.dr QJX [(0, [1]), (1, [1]), (2, []), (3, [1]), (4, [1]), (5, []), (6, []), (7, []), (8, [2])] (.of [0, 1, 2, 3, 4, 5, 6, 7, 8])) .rt))
def QFr : List (RV × Option Ty) := [((.c 2 true 4), some Qaj)]
def Qz7 : G := ⟨TYs, [], 11, EL [(186, QwZ), (187, QwY)], keeps, (fun _ _ => none), IL [], RL []⟩
def QGM (p0 : Keep) : Option (V × List VO) :=
 let a1 := ((intT p0.2.1).1, (((intT p0.2.1).2).1, ((((intT p0.2.1).2).2).1, ((List.map Val.of (List.map Val.un (((((intT p0.2.1).2).2).2).1))), ()))))
 let a2 := ((intT p0.1).1, (((intT p0.1).2).1, ((((intT p0.1).2).2).1, ((List.map Val.of (List.map Val.un (((((intT p0.1).2).2).2).1))), ()))))
 br (i64Ok p0.1) (br (i64Ok p0.2.1) (br (copOk ([a2, a1])) (some (.t Qaj (lstT ([a2, a1])), [])) none) none) none
theorem e_f188 (p0 : Keep) : runF Qz7 Qv9 QFr false [.t Qai p0] [] = QGM p0 := by kernel_rfl
theorem QVn : Qah Tryz.prog 188 := .inr ⟨by decide, _, Tryz.func188, by kernel_rfl, by kernel_rfl⟩
theorem QUi : GOk Tryz.prog Qz7 := Qal _ (gA (gC QJE QHT (gC QJD QHS gN)))
theorem QSL : Qv9.lok Qz7 := by repeat (first | exact trivial | refine ⟨?_, ?_⟩)
theorem s_f188 (u : Keep) (h : Qdy u = true) : QGM u = some (.t Qaj (useT u), []) := by
 simp only [Qdy, Bool.and_eq_true] at h
 simp only [QGM, h.1, h.2, Qkr, QCU, Qac]
 rfl
def QEb : Ent := spec (.pr Qai .nil) (fun x => (Qdy x.1)) (fun x => (.t Qaj (useT x.1)))
theorem QRD : Meets Tryz.prog 188 (strip QEb) := Qag (R := runF Qz7 Qv9 QFr false) (mG Tryz.func188 (by kernel_rfl) Tryz.ntmps188 (by kernel_rfl) QUi QSL) fun x hok => (e_f188 x.1).trans (s_f188 x.1 hok)
def Qgk (c : Qaa) : List ValT := [intT c.1, txtT c.2.1, txtT c.2.2.1, useT c.2.2.2.1, intT c.2.2.2.2.1, useT c.2.2.2.2.2.1, intT c.2.2.2.2.2.2.1, intT c.2.2.2.2.2.2.2.1, boolT c.2.2.2.2.2.2.2.2.1, intT c.2.2.2.2.2.2.2.2.2.1, lstT ((Qaz c).map txtT)]
def bodyT (c : Qaa) : ValT := lstT (Qgk c)
def QfP (c : Qaa) : Bool := QaG c && QaC c
theorem QBB {u : Keep} (h : QbO u = true) : 0 ≤ u.2.1 ∧ u.2.1 ≤ 16384 ∧ 1 ≤ u.1 ∧ u.1 ≤ 22 := by
 simp only [QbO, decide_eq_true_eq] at h
 have ham : ∀ (s t : List Int), (∀ x ∈ s, 0 ≤ x ∧ x ≤ 16384) → Qbt u.2.1 s t > 0 → 0 ≤ u.2.1 ∧ u.2.1 ≤ 16384 := by
  intro s t hs hg
  unfold Qbt at hg
  split at hg
  ·rename_i k hk
   have hm : u.2.1 ∈ s := by
    have key : ∀ (s : List Int) (k : Nat), idxN u.2.1 s = some k → u.2.1 ∈ s := by
     intro s
     induction s with
     | nil => intro k hk; cases hk
     | cons a s ih =>
      intro k hk
      unfold idxN at hk
      split at hk
      ·rename_i ha
       have := eq_of_beq ha
       rw [this]; exact List.mem_cons_self
      ·obtain ⟨j, hj, _⟩ := Option.map_eq_some_iff.1 hk
       exact List.mem_cons_of_mem _ (ih j hj)
    exact key s k hk
   exact hs _ hm
  ·omega
 rw [← and_assoc]
 unfold strF at h
 repeat' split at h
 ·refine ⟨?_, by omega⟩
  unfold Qee at h
  split at h <;> omega
 ·refine ⟨?_, by omega⟩
  unfold Qq4 at h
  split at h
  ·rename_i hc
   simp only [hasF, List.contains_iff_mem, List.mem_cons, List.not_mem_nil, or_false] at hc
   omega
  ·omega
 ·exact ⟨ham _ _ (by simp) h, by omega⟩
 ·exact ⟨ham _ _ (by simp) h, by omega⟩
 ·exact ⟨ham _ _ (by simp) h, by omega⟩
 ·exact ⟨ham _ _ (by simp) h, by omega⟩
 ·exact ⟨ham _ _ (by simp) h, by omega⟩
 ·refine ⟨ham _ _ (by simp) h, ?_⟩
  unfold Qbt at h
  split at h
  ·rename_i k hk
   unfold idxN at hk
   split at hk
   ·injection hk with hk
    subst hk
    simp only [List.getD_cons_zero, QcU] at h
    repeat' split at h
    all_goals omega
   ·cases hk
  ·omega
theorem Qvh {u : Keep} {k : Int} (h : kindU u k = true) : Qdy u = true := by
 simp only [kindU, Bool.and_eq_true] at h
 have := QBB h.1
 simp only [Qdy, i64Ok, Bool.and_eq_true, decide_eq_true_eq]
 omega
theorem QkM {s : ByteArray} (h : Qa3 s = true) : s.size ≤ 32 := by
 simp only [Qa3, Bool.and_eq_true, decide_eq_true_eq] at h
 exact h.2.2
theorem QBV {l : List ByteArray} : ∀ {k : Nat}, Qc0 l k = true → ∀ j (hj : j < l.length), k ≤ j → Qa3 l[j] = true := by
 intro k h j hj hk
 simp only [Qc0, List.all_eq_true, List.mem_range'_1, Bool.and_eq_true] at h
 have := (h j ⟨hk, by omega⟩).1
 simpa only [List.getD_eq_getElem?_getD, List.getElem?_eq_getElem hj, Option.getD_some] using this
theorem QHB {l : List ByteArray} (h : QhJ l = true) : l.length ≤ 8 ∧ ∀ s ∈ l, s.size ≤ 32 := by
 simp only [QhJ, Bool.and_eq_true, Bool.not_eq_true', igt, llen, decide_eq_false_iff_not] at h
 refine ⟨by omega, fun s hs => ?_⟩
 obtain ⟨j, hj, rfl⟩ := List.mem_iff_getElem.1 hs
 exact QkM (QBV h.1 j hj (Nat.zero_le _))
theorem QfS {c : Qaa} (h : QaC c = true) : i64Ok c.1 = true ∧ c.2.1.size ≤ 32 ∧ c.2.2.1.size ≤ 32 ∧ Qdy c.2.2.2.1 = true ∧ i64Ok c.2.2.2.2.1 = true ∧ Qdy c.2.2.2.2.2.1 = true ∧ i64Ok c.2.2.2.2.2.2.1 = true ∧ i64Ok c.2.2.2.2.2.2.2.1 = true ∧ i64Ok c.2.2.2.2.2.2.2.2.2.1 = true ∧ (Qaz c).length ≤ 8 ∧ ∀ s ∈ Qaz c, s.size ≤ 32 := by
 simp only [QaC, keyI, Bool.and_eq_true, Bool.not_eq_true', ilt, igt, decide_eq_false_iff_not] at h
 obtain ⟨h1, h2, h3, h4, h5, h6, ⟨h7, h7'⟩, h8, ⟨h9, h9'⟩, h10, h11, h12, h13, h14, h15, h16⟩ := h
 have hn := QHB h5
 refine ⟨decide_eq_true (by omega), QkM h3, QkM h4, Qvh h6, decide_eq_true (by omega), Qvh h8, decide_eq_true (by omega), decide_eq_true (by omega), decide_eq_true (by omega), hn.1, hn.2⟩
theorem QHv (n : Nat) {l : List ByteArray} (h : l.length ≤ 8) (hs : ∀ s ∈ l, s.size ≤ 32) : okT (n + 2) (lstT (l.map txtT)) = true :=
 Qxz (by rw [List.length_map]; omega) fun x hx => by
  obtain ⟨s, hm, rfl⟩ := List.mem_map.1 hx
  exact Qst _ (by have := hs s hm; omega)
theorem Qux (n : Nat) {c : Qaa} (h : QaC c = true) : ∀ x ∈ Qgk c, okT (n + 2) x = true := by
 obtain ⟨h1, h2, h3, h4, h5, h6, h7, h8, h9, h10, h11⟩ := QfS h
 intro x hx
 simp only [Qgk, List.mem_cons, List.not_mem_nil, or_false] at hx
 rcases hx with rfl | rfl | rfl | rfl | rfl | rfl | rfl | rfl | rfl | rfl | rfl
 ·exact Qh9 _ _
 ·exact Qst _ (by omega)
 ·exact Qst _ (by omega)
 ·exact QHu _ _
 ·exact Qh9 _ _
 ·exact QHu _ _
 ·exact Qh9 _ _
 ·exact Qh9 _ _
 ·exact QLW _ _
 ·exact Qh9 _ _
 ·exact QHv _ h10 h11
theorem QAK : ∀ {l : List ByteArray}, (∀ s ∈ l, s.size ≤ 32) → (encL (l.map txtT)).length ≤ 42 * l.length
 | [], _ => by simp [QhB]
 | s :: l, h => by
  have h1 := h s (by simp)
  have h2 := Qyu s
  have h3 := QAK (l := l) fun u hu => h u (by simp [hu])
  rw [List.map_cons, Qck, List.length_append, List.length_cons]
  omega
theorem Qs5 {c : Qaa} (h : QaC c = true) : (encT (bodyT c)).length ≤ 1000 := by
 obtain ⟨h1, h2, h3, h4, h5, h6, h7, h8, h9, h10, h11⟩ := QfS h
 have e0 := Qyv (Qgk c)
 have e1 := Qic c.1
 have e2 := Qyu c.2.1
 have e3 := Qyu c.2.2.1
 have e4 := QJj c.2.2.2.1
 have e5 := Qic c.2.2.2.2.1
 have e6 := QJj c.2.2.2.2.2.1
 have e7 := Qic c.2.2.2.2.2.2.1
 have e8 := Qic c.2.2.2.2.2.2.2.1
 have e9 := QNm c.2.2.2.2.2.2.2.2.1
 have e10 := Qic c.2.2.2.2.2.2.2.2.2.1
 have e11 := Qyv ((Qaz c).map txtT)
 have e12 := QAK h11
 simp only [Qgk, Qck, QhB, List.length_append, List.length_nil] at e0
 unfold bodyT
 simp only [Qgk]
 omega
theorem QQB {c : Qaa} (h : QaC c = true) : encOk (bodyT c) = true := by
 have := Qs5 h
 simp only [encOk, Bool.and_eq_true, decide_eq_true_eq]
 refine ⟨Qxz (by simp [Qgk]) (Qux 9 h), by omega⟩
theorem QuD {c : Qaa} (h : QaC c = true) : copOk ((Qaz c).map txtT) = true := by
 obtain ⟨h1, h2, h3, h4, h5, h6, h7, h8, h9, h10, h11⟩ := QfS h
 exact Qp5 (n := 11) (by rw [List.length_map]; omega) fun x hx => by
  obtain ⟨s, hm, rfl⟩ := List.mem_map.1 hx
  exact Qst _ (by have := h11 s hm; omega)
theorem Quv {c : Qaa} (h : QaC c = true) : copOk (Qgk c) = true := Qp5 (n := 11) (by simp [Qgk]) (Qux 9 h)
theorem Qdh {s : ByteArray} (h : s.size ≤ 32) : Qbd s = true := decide_eq_true (by omega)
noncomputable def QJW : List DO := dT Tryz.f202 7
def QgH : Fg := ⟨[(1, none), (2, none), (3, none), (7, some (.sl .str)), (8, some tI), (9, some tI)], [(1, some Qad), (2, some Qaj), (3, none), (17, none)]⟩
noncomputable def Qit : TC := (.sq (.reg (rT Tryz.f202 3)) (.sq (.cd (.t 10) .sk (.fg ⟨[(1, none), (2, none), (3, none)], [(1, some Qad), (2, some Qaj), (3, none), (17, none)]⟩ (.ex 0))) (.sq (.bk 1 (.sq (.reg (rT Tryz.f202 4)) (.reg (rT Tryz.f202 5)))) (.reg (rT Tryz.f202 6)))))
noncomputable def Qv6 : TC := (.sq (.reg (rT Tryz.f202 0)) (.sq (.reg (rT Tryz.f202 1)) (.sq (.sq (.reg (rT Tryz.f202 2)) (.bk 0 (.nw 3 202 (.lp 0 QgH Qit)))) (.sq (.dr QJW [(0, [1]), (1, [1]), (2, []), (3, [1]), (4, [1]), (5, []), (6, [1]), (7, [1]), (8, []), (9, [1]), (10, [1]), (11, []), (12, [1]), (13, [1]), (14, []), (15, [1]), (16, [1]), (17, []), (18, [1]), (19, [1]), (20, []), (21, [1]), (22, [1]), (23, []), (24, [1]), (25, [1]), (26, []), (27, [1]), (28, [1]), (29, []), (30, [3, 17]), (31, [3, 17, 50, 5050, 10050, 15050]), (32, []), (33, []), (34, [2])] (.of [0, 1, 2, 3, 4, 5, 6, 7, 8, 9, 10, 11, 12, 13, 14, 15, 16, 17, 18, 19, 20, 21, 22, 23, 24, 25, 26, 27, 28, 29, 30, 31, 32, 33, 34])) .rt))))
def QFo : List (RV × Option Ty) := [((.c 2 true 4), some Qaj)]
abbrev Qod : Sh := ⟨[(1, .ptr 1 0), (2, .ptr 2 0), (3, .ms 3), (7, .ty (.sl .str)), (8, .ty tI), (9, .ty tI)], [(1, .box Qad), (2, .box Qaj), (3, .arr 202 Qaj), (17, .no)]⟩
def Qny (x7 : List ByteArray) (x8 x9 : Int) (y1 : Qaa) (y2 : ValT) (y3 : List ValT) : VS := Qod.st ((), (), (), x7, x8, x9, ()) (y1, y2, y3, (), ())
abbrev QtV : Sh := ⟨[(1, .ptr 1 0), (2, .ptr 2 0), (3, .ms 3)], [(1, .box Qad), (2, .box Qaj), (3, .arr 202 Qaj), (17, .no)]⟩
def QdP (y1 : Qaa) (y2 : ValT) (y3 : List ValT) : VS := QtV.st ((), (), (), ()) (y1, y2, y3, (), ())
def QOA : VS → Option (Bool × List (Bool × Exit × VS)) := mkL Qod (fun x y => (rngOk x.2.2.2.1 x.2.2.2.2.1 x.2.2.2.2.2.1 && decide (y.2.2.1.length ≤ x.2.2.2.2.2.1.toNat ∧ x.2.2.2.1.length ≤ 8) && x.2.2.2.1.all fun s => decide (s.size ≤ 32))) (fun x y => [(true, .exit 0, QdP (y.1) (y.2.1) (y.2.2.1 ++ (x.2.2.2.1.drop x.2.2.2.2.2.1.toNat).map txtT))])
def Qll : G := ⟨TYs, [], 53, EL [(222, QDY), (223, Qrs), (224, QwX), (225, QDX), (226, QDW), (227, QDV)], keeps, (Ls [QOA]), IL [], RL []⟩
def QA9 (x7 : List ByteArray) (x8 x9 : Int) (y1 : Qaa) (y2 : ValT) (y3 : List ValT) : Option (Exit × VS) :=
 let a1 := ((txtT (lgt .str x7 (Int.toNat x9))).1, (((txtT (lgt .str x7 (Int.toNat x9))).2).1, ((((txtT (lgt .str x7 (Int.toNat x9))).2).2).1, ((List.map Val.of (List.map Val.un (((((txtT (lgt .str x7 (Int.toNat x9))).2).2).2).1))), ()))))
 br (ilt x9 x8) (br (cIx x7 x9) (br (Qbd (lgt .str x7 (Int.toNat x9))) (br (cApp y3 ([a1]) 64) (some (.normal, Qny x7 x8 (iadd .i64 x9 1) y1 y2 (y3 ++ ([a1])))) none) none) none) (some (.exit 0, QdP y1 y2 y3))
noncomputable def Qje (x7 : List ByteArray) (x8 x9 : Int) (y1 : Qaa) (y2 : ValT) (y3 : List ValT) : Option (Exit × VS) := loopF (Qak Qll QgH Qit) (Qny x7 x8 x9 y1 y2 y3)
noncomputable def Qms (x7 : List ByteArray) (x8 x9 : Int) (y1 : Qaa) (y2 : ValT) (y3 : List ValT) : Option (Exit × VS) :=
 let a1 := ((txtT (lgt .str x7 (Int.toNat x9))).1, (((txtT (lgt .str x7 (Int.toNat x9))).2).1, ((((txtT (lgt .str x7 (Int.toNat x9))).2).2).1, ((List.map Val.of (List.map Val.un (((((txtT (lgt .str x7 (Int.toNat x9))).2).2).2).1))), ()))))
 br (ilt x9 x8) (br (cIx x7 x9) (br (Qbd (lgt .str x7 (Int.toNat x9))) (br (cApp y3 ([a1]) 64) (Qje x7 x8 (iadd .i64 x9 1) y1 y2 (y3 ++ ([a1]))) none) none) none) (some (.exit 0, QdP y1 y2 y3))
def QjG (x7 : List ByteArray) (x8 x9 : Int) (y1 : Qaa) (y2 : ValT) (y3 : List ValT) : Option (Exit × VS) := some (.exit 0, QdP (y1) (y2) (y3 ++ (x7.drop x9.toNat).map txtT))
theorem QKA (x7 : List ByteArray) (x8 x9 : Int) (y1 : Qaa) (y2 : ValT) (y3 : List ValT) : Qak Qll QgH Qit (Qny x7 x8 x9 y1 y2 y3) = QA9 x7 x8 x9 y1 y2 y3 := by kernel_rfl
theorem QuT (x7 : List ByteArray) (x8 x9 : Int) (y1 : Qaa) (y2 : ValT) (y3 : List ValT) : Qje x7 x8 x9 y1 y2 y3 = Qms x7 x8 x9 y1 y2 y3 := (Qan _ _).trans (by
 rw [QKA]
 simp only [QA9, Qms, Qax, nxt_n, nxt_r, nxt_e, nxt_0]
 rfl)
def QGK (p0 : Qaa) : Option (V × List VO) :=
 let a3 := ((((p0).2).2).2)
 let a1 := ((a3.2).2)
 let a2 := (lstT (([] : List ValT) ++ (p0.2.2.2.2.2.2.2.2.2.2.1.drop (0 : Int).toNat).map txtT))
 let a4 := ((intT (((((a1.2).2).2).2).1)).1, (((intT (((((a1.2).2).2).2).1)).2).1, ((((intT (((((a1.2).2).2).2).1)).2).2).1, ((List.map Val.of (List.map Val.un (((((intT (((((a1.2).2).2).2).1)).2).2).2).1))), ()))))
 let a5 := ((boolT ((((a1.2).2).2).1)).1, (((boolT ((((a1.2).2).2).1)).2).1, ((((boolT ((((a1.2).2).2).1)).2).2).1, ((List.map Val.of (List.map Val.un (((((boolT ((((a1.2).2).2).1)).2).2).2).1))), ()))))
 let a6 := ((txtT ((((p0).2).2).1)).1, (((txtT ((((p0).2).2).1)).2).1, ((((txtT ((((p0).2).2).1)).2).2).1, ((List.map Val.of (List.map Val.un (((((txtT ((((p0).2).2).1)).2).2).2).1))), ()))))
 let a7 := ((intT (((a1.2).2).1)).1, (((intT (((a1.2).2).1)).2).1, ((((intT (((a1.2).2).1)).2).2).1, ((List.map Val.of (List.map Val.un (((((intT (((a1.2).2).1)).2).2).2).1))), ()))))
 let a8 := ((txtT (((p0).2).1)).1, (((txtT (((p0).2).1)).2).1, ((((txtT (((p0).2).1)).2).2).1, ((List.map Val.of (List.map Val.un (((((txtT (((p0).2).1)).2).2).2).1))), ()))))
 let a9 := ((intT ((a3.2).1)).1, (((intT ((a3.2).1)).2).1, ((((intT ((a3.2).1)).2).2).1, ((List.map Val.of (List.map Val.un (((((intT ((a3.2).1)).2).2).2).1))), ()))))
 let a10 := ((intT ((a1.2).1)).1, (((intT ((a1.2).1)).2).1, ((((intT ((a1.2).1)).2).2).1, ((List.map Val.of (List.map Val.un (((((intT ((a1.2).1)).2).2).2).1))), ()))))
 let a11 := ((intT ((p0).1)).1, (((intT ((p0).1)).2).1, ((((intT ((p0).1)).2).2).1, ((List.map Val.of (List.map Val.un (((((intT ((p0).1)).2).2).2).1))), ()))))
 let a12 := ((useT (a3.1)).1, (((useT (a3.1)).2).1, ((((useT (a3.1)).2).2).1, ((List.map Val.of (List.map Val.un (((((useT (a3.1)).2).2).2).1))), ()))))
 let a13 := ((useT (a1.1)).1, (((useT (a1.1)).2).1, ((((useT (a1.1)).2).2).1, ((List.map Val.of (List.map Val.un (((((useT (a1.1)).2).2).2).1))), ()))))
 let a14 := ((a2.2).1, (((a2.2).2).1, ((List.map Val.of (List.map Val.un ((((a2.2).2).2).1))), ())))
 br (rngOk p0.2.2.2.2.2.2.2.2.2.2.1 (llen p0.2.2.2.2.2.2.2.2.2.2.1) (0 : Int) && decide (([] : List ValT).length ≤ (0 : Int).toNat ∧ p0.2.2.2.2.2.2.2.2.2.2.1.length ≤ 8) && p0.2.2.2.2.2.2.2.2.2.2.1.all fun s => decide (s.size ≤ 32)) (br (i64Ok ((p0).1)) (br (Qbd (((p0).2).1)) (br (Qbd ((((p0).2).2).1)) (br (Qdy (a3.1)) (br (i64Ok ((a3.2).1)) (br (Qdy (a1.1)) (br (i64Ok ((a1.2).1)) (br (i64Ok (((a1.2).2).1)) (br (i64Ok (((((a1.2).2).2).2).1)) (br (copOk (([] : List ValT) ++ (p0.2.2.2.2.2.2.2.2.2.2.1.drop (0 : Int).toNat).map txtT)) (br (copOk ([a11, a8, a6, a12, a9, a13, a10, a7, a5, a4, (a2.1, a14)])) (some (.t Qaj (lstT ([a11, a8, a6, a12, a9, a13, a10, a7, a5, a4, (a2.1, a14)])), [])) none) none) none) none) none) none) none) none) none) none) none) none
theorem e_f202 (p0 : Qaa) : runF Qll Qv6 QFo false [.t Qad p0] [] = QGK p0 := by kernel_rfl
theorem QVk : Qah Tryz.prog 202 := .inr ⟨by decide, _, Tryz.func202, by kernel_rfl, by kernel_rfl⟩
theorem QUf : GOk Tryz.prog Qll := Qal _ (gA (gC QVd QRq (gC Qyy QxH (gC QJz QHR (gC QVc QRp (gC QVb QRo (gC QVa QRn gN)))))))
theorem QMJ (x7 : List ByteArray) (x8 x9 : Int) (y1 : Qaa) (y2 : ValT) (y3 : List ValT) (h : (rngOk x7 x8 x9 && decide (y3.length ≤ x9.toNat ∧ x7.length ≤ 8) && x7.all fun s => decide (s.size ≤ 32)) = true) : Qje x7 x8 x9 y1 y2 y3 = QjG x7 x8 x9 y1 y2 y3 := by
 simp only [Bool.and_eq_true, decide_eq_true_eq, List.all_eq_true] at h
 obtain ⟨⟨h0, h1, h2⟩, hn⟩ := h
 obtain ⟨rfl, h3, k, rfl, hk⟩ := rng_k h0
 clear h0
 rw [Int.toNat_natCast] at h1
 revert y3
 refine Qat x7 (fun k => ∀ y3 : List ValT, y3.length ≤ k → Qje x7 (x7.length : Int) (k : Int) y1 y2 y3 = QjG x7 (x7.length : Int) (k : Int) y1 y2 y3) ?_ ?_ k hk
 ·intro y3 _
  rw [QuT]
  simp only [Qms, QjG, Qar, Nat.lt_irrefl, decide_false, Qaf, Int.toNat_natCast, List.drop_length, List.map_nil, List.append_nil]
 ·intro k hk ih y3 hy
  rw [QuT]
  have hx := hn x7[k] (List.getElem_mem hk)
  simp only [Qms, Qar, Qau, hk, decide_true, Qac, Int.toNat_natCast, add1 (show k < 4611686018427387904 by omega), Qay (y := .str) hk, Qdh hx, Qkr]
  rw [cAppN (by omega) (by simp only [List.length_singleton]; omega), Qac, ih _ (by simp only [List.length_append, List.length_singleton]; omega)]
  simp only [QjG, Int.toNat_natCast, List.drop_eq_getElem_cons hk, List.map_cons, List.append_assoc, List.singleton_append]
theorem QIg : ∀ S l p, Qll.L 0 (fgt QgH S) = some (true, l) → pickA l = some p → loopF (Qak Qll QgH Qit) S = some p :=
 QaD (s := Qod) ⟨by decide, by decide⟩ (by kernel_rfl) fun x y hok p hp => by
 simp only [Qap, Qam] at hp
 exact (QMJ x.2.2.2.1 x.2.2.2.2.1 x.2.2.2.2.2.1 y.1 y.2.1 y.2.2.1 (by simpa using hok)).trans hp
theorem QSI : Qv6.lok Qll := by
 repeat (first | exact trivial | exact QIg | refine ⟨?_, ?_⟩)
theorem s_f202 (c : Qaa) (h : QfP c = true) : QGK c = some (.t Qaj (bodyT c), []) := by
 simp only [QfP, Bool.and_eq_true] at h
 obtain ⟨_, hv⟩ := h
 obtain ⟨h1, h2, h3, h4, h5, h6, h7, h8, h9, h10, h11⟩ := QfS hv
 have hc := QuD hv
 have hp := Quv hv
 have ha : ((Qaz c).all fun s => decide (s.size ≤ 32)) = true := List.all_eq_true.2 fun s hs => decide_eq_true (h11 s hs)
 have hl : ([] : List ValT).length ≤ 0 ∧ (Qaz c).length ≤ 8 := ⟨by simp, h10⟩
 simp only [Qgk] at hp
 simp only [QGK, rng_0 (show (Qaz c).length ≤ 100000 by omega), ha, Bool.and_self, h1, Qdh h2, Qdh h3, h4, h5, h6, h7, h8, h9, Qac, Int.toNat_zero, List.drop_zero, List.nil_append, Qkr, hc, hp]
 rw [decide_eq_true hl]
 rfl
def QD8 : Ent := spec (.pr Qad .nil) (fun x => (QfP x.1)) (fun x => (.t Qaj (bodyT x.1)))
theorem QRA : Meets Tryz.prog 202 (strip QD8) := Qag (R := runF Qll Qv6 QFo false) (mG Tryz.func202 (by kernel_rfl) Tryz.ntmps202 (by kernel_rfl) QUf QSI) fun x hok => (e_f202 x.1).trans (s_f202 x.1 hok)
noncomputable def QJZ : List DO := dT Tryz.f158 6
def QgP : Fg := ⟨[(1, none), (2, none), (3, none), (4, some tI)], [(1, some Qad), (2, some Qaj), (3, none), (20, none)]⟩
noncomputable def QiB : TC := (.sq (.sq (.reg (rT Tryz.f158 3)) (.cd (.t 9) .sk (.fg ⟨[(1, none), (2, none), (3, none)], [(1, some Qad), (2, some Qaj), (3, none), (20, none)]⟩ (.ex 0)))) (.sq (.bk 1 (.reg (rT Tryz.f158 4))) (.reg (rT Tryz.f158 5))))
noncomputable def Qwp : TC := (.sq (.reg (rT Tryz.f158 0)) (.sq (.reg (rT Tryz.f158 1)) (.sq (.sq (.reg (rT Tryz.f158 2)) (.bk 0 (.nw 3 202 (.lp 0 QgP QiB)))) (.sq (.dr QJZ [(0, [1]), (1, [1]), (2, []), (3, [1]), (4, [1]), (5, []), (6, [1]), (7, [1]), (8, []), (9, [1]), (10, [1]), (11, []), (12, [1]), (13, [1]), (14, []), (15, [1]), (16, [1]), (17, []), (18, [1]), (19, [1]), (20, []), (21, [1]), (22, [1]), (23, []), (24, [1]), (25, [1]), (26, []), (27, [1]), (28, [1]), (29, []), (30, [3, 20]), (31, [3, 20, 52, 5052, 10052, 15052]), (32, []), (33, []), (34, [2])] (.of [0, 1, 2, 3, 4, 5, 6, 7, 8, 9, 10, 11, 12, 13, 14, 15, 16, 17, 18, 19, 20, 21, 22, 23, 24, 25, 26, 27, 28, 29, 30, 31, 32, 33, 34])) .rt))))
def QFH : List (RV × Option Ty) := [((.c 2 true 4), some Qaj)]
abbrev Qom : Sh := ⟨[(1, .ptr 1 0), (2, .ptr 2 0), (3, .ms 3), (4, .ty tI)], [(1, .box Qad), (2, .box Qaj), (3, .arr 202 Qaj), (20, .no)]⟩
def QnF (x4 : Int) (y1 : Qaa) (y2 : ValT) (y3 : List ValT) : VS := Qom.st ((), (), (), x4, ()) (y1, y2, y3, (), ())
abbrev Qt4 : Sh := ⟨[(1, .ptr 1 0), (2, .ptr 2 0), (3, .ms 3)], [(1, .box Qad), (2, .box Qaj), (3, .arr 202 Qaj), (20, .no)]⟩
def QdX (y1 : Qaa) (y2 : ValT) (y3 : List ValT) : VS := Qt4.st ((), (), (), ()) (y1, y2, y3, (), ())
def QOI : VS → Option (Bool × List (Bool × Exit × VS)) := mkL Qom (fun x y => (decide (0 ≤ x.2.2.2.1 ∧ x.2.2.2.1 ≤ (Qaz y.1).length ∧ y.2.2.1.length ≤ x.2.2.2.1.toNat ∧ (Qaz y.1).length ≤ 8) && (Qaz y.1).all fun s => decide (s.size ≤ 32))) (fun x y => [(true, .exit 0, QdX (y.1) (y.2.1) (y.2.2.1 ++ ((Qaz y.1).drop x.2.2.2.1.toNat).map txtT))])
def Qlt : G := ⟨TYs, [], 55, EL [(185, QEc), (186, QwZ), (187, QwY), (188, QEb), (189, QEa)], keeps, (Ls [QOI]), IL [], RL []⟩
def QBh (x4 : Int) (y1 : Qaa) (y2 : ValT) (y3 : List ValT) : Option (Exit × VS) :=
 let a1 := txtT (lgt .str y1.2.2.2.2.2.2.2.2.2.2.1 (Int.toNat x4))
 let a2 := ((a1.2).1, (((a1.2).2).1, ((List.map Val.of (List.map Val.un ((((a1.2).2).2).1))), ())))
 br (ilt x4 (llen y1.2.2.2.2.2.2.2.2.2.2.1)) (br (cIx y1.2.2.2.2.2.2.2.2.2.2.1 x4) (br (Qbd (lgt .str y1.2.2.2.2.2.2.2.2.2.2.1 (Int.toNat x4))) (br (cApp y3 ([(a1.1, a2)]) 64) (some (.normal, QnF (iadd .i64 x4 1) y1 y2 (y3 ++ ([(a1.1, a2)])))) none) none) none) (some (.exit 0, QdX y1 y2 y3))
noncomputable def Qjl (x4 : Int) (y1 : Qaa) (y2 : ValT) (y3 : List ValT) : Option (Exit × VS) := loopF (Qak Qlt QgP QiB) (QnF x4 y1 y2 y3)
noncomputable def Qmy (x4 : Int) (y1 : Qaa) (y2 : ValT) (y3 : List ValT) : Option (Exit × VS) :=
 let a1 := txtT (lgt .str y1.2.2.2.2.2.2.2.2.2.2.1 (Int.toNat x4))
 let a2 := ((a1.2).1, (((a1.2).2).1, ((List.map Val.of (List.map Val.un ((((a1.2).2).2).1))), ())))
 br (ilt x4 (llen y1.2.2.2.2.2.2.2.2.2.2.1)) (br (cIx y1.2.2.2.2.2.2.2.2.2.2.1 x4) (br (Qbd (lgt .str y1.2.2.2.2.2.2.2.2.2.2.1 (Int.toNat x4))) (br (cApp y3 ([(a1.1, a2)]) 64) (Qjl (iadd .i64 x4 1) y1 y2 (y3 ++ ([(a1.1, a2)]))) none) none) none) (some (.exit 0, QdX y1 y2 y3))
def QjL (x4 : Int) (y1 : Qaa) (y2 : ValT) (y3 : List ValT) : Option (Exit × VS) := some (.exit 0, QdX (y1) (y2) (y3 ++ ((Qaz y1).drop x4.toNat).map txtT))
theorem QKI (x4 : Int) (y1 : Qaa) (y2 : ValT) (y3 : List ValT) : Qak Qlt QgP QiB (QnF x4 y1 y2 y3) = QBh x4 y1 y2 y3 := by kernel_rfl
theorem Qu0 (x4 : Int) (y1 : Qaa) (y2 : ValT) (y3 : List ValT) : Qjl x4 y1 y2 y3 = Qmy x4 y1 y2 y3 := (Qan _ _).trans (by
 rw [QKI]
 simp only [QBh, Qmy, Qax, nxt_n, nxt_r, nxt_e, nxt_0]
 rfl)
def QG0 (p0 : Qaa) : Option (V × List VO) :=
 let a3 := ((((p0).2).2).2)
 let a1 := ((a3.2).2)
 let a2 := (lstT (([] : List ValT) ++ ((Qaz p0).drop (0 : Int).toNat).map txtT))
 let a4 := ((intT (((((a1.2).2).2).2).1)).1, (((intT (((((a1.2).2).2).2).1)).2).1, ((((intT (((((a1.2).2).2).2).1)).2).2).1, ((List.map Val.of (List.map Val.un (((((intT (((((a1.2).2).2).2).1)).2).2).2).1))), ()))))
 let a5 := ((boolT ((((a1.2).2).2).1)).1, (((boolT ((((a1.2).2).2).1)).2).1, ((((boolT ((((a1.2).2).2).1)).2).2).1, ((List.map Val.of (List.map Val.un (((((boolT ((((a1.2).2).2).1)).2).2).2).1))), ()))))
 let a6 := ((txtT ((((p0).2).2).1)).1, (((txtT ((((p0).2).2).1)).2).1, ((((txtT ((((p0).2).2).1)).2).2).1, ((List.map Val.of (List.map Val.un (((((txtT ((((p0).2).2).1)).2).2).2).1))), ()))))
 let a7 := ((intT (((a1.2).2).1)).1, (((intT (((a1.2).2).1)).2).1, ((((intT (((a1.2).2).1)).2).2).1, ((List.map Val.of (List.map Val.un (((((intT (((a1.2).2).1)).2).2).2).1))), ()))))
 let a8 := ((txtT (((p0).2).1)).1, (((txtT (((p0).2).1)).2).1, ((((txtT (((p0).2).1)).2).2).1, ((List.map Val.of (List.map Val.un (((((txtT (((p0).2).1)).2).2).2).1))), ()))))
 let a9 := ((intT ((a3.2).1)).1, (((intT ((a3.2).1)).2).1, ((((intT ((a3.2).1)).2).2).1, ((List.map Val.of (List.map Val.un (((((intT ((a3.2).1)).2).2).2).1))), ()))))
 let a10 := ((intT ((a1.2).1)).1, (((intT ((a1.2).1)).2).1, ((((intT ((a1.2).1)).2).2).1, ((List.map Val.of (List.map Val.un (((((intT ((a1.2).1)).2).2).2).1))), ()))))
 let a11 := ((intT ((p0).1)).1, (((intT ((p0).1)).2).1, ((((intT ((p0).1)).2).2).1, ((List.map Val.of (List.map Val.un (((((intT ((p0).1)).2).2).2).1))), ()))))
 let a12 := ((useT (a3.1)).1, (((useT (a3.1)).2).1, ((((useT (a3.1)).2).2).1, ((List.map Val.of (List.map Val.un (((((useT (a3.1)).2).2).2).1))), ()))))
 let a13 := ((useT (a1.1)).1, (((useT (a1.1)).2).1, ((((useT (a1.1)).2).2).1, ((List.map Val.of (List.map Val.un (((((useT (a1.1)).2).2).2).1))), ()))))
 let a14 := ((a2.2).1, (((a2.2).2).1, ((List.map Val.of (List.map Val.un ((((a2.2).2).2).1))), ())))
 br (decide (0 ≤ (0 : Int) ∧ (0 : Int) ≤ (Qaz p0).length ∧ ([] : List ValT).length ≤ (0 : Int).toNat ∧ (Qaz p0).length ≤ 8) && (Qaz p0).all fun s => decide (s.size ≤ 32)) (br (i64Ok ((p0).1)) (br (Qbd (((p0).2).1)) (br (Qbd ((((p0).2).2).1)) (br (Qdy (a3.1)) (br (i64Ok ((a3.2).1)) (br (Qdy (a1.1)) (br (i64Ok ((a1.2).1)) (br (i64Ok (((a1.2).2).1)) (br (i64Ok (((((a1.2).2).2).2).1)) (br (copOk (([] : List ValT) ++ ((Qaz p0).drop (0 : Int).toNat).map txtT)) (br (copOk ([a11, a8, a6, a12, a9, a13, a10, a7, a5, a4, (a2.1, a14)])) (some (.t Qaj (lstT ([a11, a8, a6, a12, a9, a13, a10, a7, a5, a4, (a2.1, a14)])), [])) none) none) none) none) none) none) none) none) none) none) none) none
theorem e_f158 (p0 : Qaa) : runF Qlt Qwp QFH false [.t Qad p0] [] = QG0 p0 := by kernel_rfl
theorem QVy : Qah Tryz.prog 158 := .inr ⟨by decide, _, Tryz.func158, by kernel_rfl, by kernel_rfl⟩
theorem QUy : GOk Tryz.prog Qlt := Qal _ (gA (gC QVo QRE (gC QJE QHT (gC QJD QHS (gC QVn QRD (gC QVm QRC gN))))))
theorem QMR (x4 : Int) (y1 : Qaa) (y2 : ValT) (y3 : List ValT) (h : (decide (0 ≤ x4 ∧ x4 ≤ (Qaz y1).length ∧ y3.length ≤ x4.toNat ∧ (Qaz y1).length ≤ 8) && (Qaz y1).all fun s => decide (s.size ≤ 32)) = true) : Qjl x4 y1 y2 y3 = QjL x4 y1 y2 y3 := by
 simp only [Bool.and_eq_true, decide_eq_true_eq, List.all_eq_true] at h
 obtain ⟨⟨h0, h1, h2, h3⟩, hn⟩ := h
 obtain ⟨k, rfl⟩ := Int.eq_ofNat_of_zero_le h0
 rw [Int.toNat_natCast] at h2
 revert y3
 refine Qat (Qaz y1) (fun k => ∀ y3 : List ValT, y3.length ≤ k → Qjl (k : Int) y1 y2 y3 = QjL (k : Int) y1 y2 y3) ?_ ?_ k (by omega)
 ·intro y3 _
  rw [Qu0]
  simp only [Qmy, QjL, show ilt ((Qaz y1).length : Int) (llen (Qaz y1)) = false from decide_eq_false (by simp only [llen]; omega), Qaf, Int.toNat_natCast, List.drop_length, List.map_nil, List.append_nil]
 ·intro k hk ih y3 hy
  rw [Qu0]
  have hx := hn (Qaz y1)[k] (List.getElem_mem hk)
  simp only [Qmy, show ilt (k : Int) (llen (Qaz y1)) = true from decide_eq_true (by simp only [llen]; omega), Qau, hk, decide_true, Qac, Int.toNat_natCast, add1 (show k < 4611686018427387904 by omega), Qay (y := .str) hk, Qdh hx, Qkr]
  rw [cAppN (by omega) (by simp only [List.length_singleton]; omega), Qac, ih _ (by simp only [List.length_append, List.length_singleton]; omega)]
  simp only [QjL, Int.toNat_natCast, List.drop_eq_getElem_cons hk, List.map_cons, List.append_assoc, List.singleton_append]
theorem QIo : ∀ S l p, Qlt.L 0 (fgt QgP S) = some (true, l) → pickA l = some p → loopF (Qak Qlt QgP QiB) S = some p :=
 QaD (s := Qom) ⟨by decide, by decide⟩ (by kernel_rfl) fun x y hok p hp => by
 simp only [Qap, Qam] at hp
 exact (QMR x.2.2.2.1 y.1 y.2.1 y.2.2.1 (by simpa using hok)).trans hp
theorem QS1 : Qwp.lok Qlt := by
 repeat (first | exact trivial | exact QIo | refine ⟨?_, ?_⟩)
theorem s_f158 (c : Qaa) (h : QfP c = true) : QG0 c = some (.t Qaj (bodyT c), []) := by
 simp only [QfP, Bool.and_eq_true] at h
 obtain ⟨_, hv⟩ := h
 obtain ⟨h1, h2, h3, h4, h5, h6, h7, h8, h9, h10, h11⟩ := QfS hv
 have hc := QuD hv
 have hp := Quv hv
 have ha : ((Qaz c).all fun s => decide (s.size ≤ 32)) = true := List.all_eq_true.2 fun s hs => decide_eq_true (h11 s hs)
 have hl : (0 : Int) ≤ 0 ∧ (0 : Int) ≤ (Qaz c).length ∧ ([] : List ValT).length ≤ 0 ∧ (Qaz c).length ≤ 8 := ⟨by omega, by omega, by simp, h10⟩
 simp only [Qgk] at hp
 simp only [QG0, ha, Bool.and_self, h1, Qdh h2, Qdh h3, h4, h5, h6, h7, h8, h9, Qac, Int.toNat_zero, List.drop_zero, List.nil_append, Qkr, hc, hp]
 rw [decide_eq_true hl]
 rfl
def QEq : Ent := spec (.pr Qad .nil) (fun x => (QfP x.1)) (fun x => (.t Qaj (bodyT x.1)))
theorem QRR : Meets Tryz.prog 158 (strip QEq) := Qag (R := runF Qlt Qwp QFH false) (mG Tryz.func158 (by kernel_rfl) Tryz.ntmps158 (by kernel_rfl) QUy QS1) fun x hok => (e_f158 x.1).trans (s_f158 x.1 hok)
end
end Go.Proofs.YtckcgijklnloiaaGreat.K
namespace Go.Proofs.YtckcgijklnloiaaGreat.K
open Go.RowKit
noncomputable section
def QbM (c : Qaa) : List Int × Int := bif QaC c then encE (bodyT c) else ([], 9)
theorem QKk {c : Qaa} (h : QaC c = true) : QbM c = (encT (bodyT c), 0) := by
 have := Qs5 h
 rw [QbM, h, cond_true, encE, if_neg (by omega)]
theorem QCC (c : Qaa) : (QbM c).1.length ≤ 1000 := by
 cases h : QaC c with
 | true =>
  rw [QKk h]
  exact Qs5 h
 | false =>
  rw [QbM, h]
  simp
noncomputable def Qwk : TC := (.sq (.reg (rT Tryz.f166 0)) (.sq (.sq (.reg (rT Tryz.f166 1)) (.cd (.t 6) (.sq (.reg (rT Tryz.f166 2)) .rt) .sk)) (.sq (.reg (rT Tryz.f166 3)) .rt)))
def QFC : List (RV × Option Ty) := [((.t 2), some (.sl (.int .u8))), ((.t 3), some tI)]
def QAc : G := ⟨TYs, [], 12, EL [(138, Qw3), (201, QD9), (202, QD8)], keeps, (fun _ _ => none), IL [], RL []⟩
def Qzl (p0 : Qaa) : Option (V × List VO) := br (QaG p0) (br (!(QaC p0)) (some (.tu [(.t (.sl (.int .u8)) ([] : List Int)), (.t tI 9)], [])) (br (QfP p0) (br (encOk (bodyT p0)) (some (.tu [(.t (.sl (.int .u8)) ((encE (bodyT p0)).1)), (.t tI ((encE (bodyT p0)).2))], [])) none) none)) none
theorem e_f166 (p0 : Qaa) : runF QAc Qwk QFC false [.t Qad p0] [] = Qzl p0 := by kernel_rfl
theorem QVt : Qah Tryz.prog 166 := .inr ⟨by decide, _, Tryz.func166, by kernel_rfl, by kernel_rfl⟩
theorem QUt : GOk Tryz.prog QAc := Qal _ (gA (gC QJL QHX (gC QVl QRB (gC QVk QRA gN))))
theorem QSW : Qwk.lok QAc := by repeat (first | exact trivial | refine ⟨?_, ?_⟩)
theorem s_f166 (c : Qaa) (h : QaG c = true) : Qzl c = some (.tu [.t (.sl (.int .u8)) (QbM c).1, .t tI (QbM c).2], []) := by
 unfold QbM
 cases hv : QaC c with
 | true => simp only [Qzl, h, hv, QQB hv, show QfP c = true from by rw [QfP, h, hv]; rfl, Bool.not_true, Qac, Qaf, cond_true]
 | false => simp only [Qzl, h, hv, Bool.not_false, Qac, cond_false]
def QEl : Ent := spec (.pr Qad .nil) (fun x => (QaG x.1)) (fun x => (.tu [(.t (.sl (.int .u8)) ((QbM x.1).1)), (.t tI ((QbM x.1).2))]))
theorem QRM : Meets Tryz.prog 166 (strip QEl) := Qag (R := runF QAc Qwk QFC false) (mG Tryz.func166 (by kernel_rfl) Tryz.ntmps166 (by kernel_rfl) QUt QSW) fun x hok => (e_f166 x.1).trans (s_f166 x.1 hok)
noncomputable def QwF : TC := (.sq (.reg (rT Tryz.f131 0)) (.sq (.sq (.reg (rT Tryz.f131 1)) (.cd (.t 6) (.sq (.reg (rT Tryz.f131 2)) .rt) .sk)) (.sq (.reg (rT Tryz.f131 3)) .rt)))
def QFX : List (RV × Option Ty) := [((.t 2), some (.sl (.int .u8))), ((.t 3), some tI)]
def QAq : G := ⟨TYs, [], 12, EL [(130, Qw4), (157, QEr), (158, QEq)], keeps, (fun _ _ => none), IL [], RL []⟩
def Qzm (p0 : Qaa) : Option (V × List VO) := br (QaG p0) (br (ine (QeR p0) 0) (some (.tu [(.t (.sl (.int .u8)) ([] : List Int)), (.t tI 9)], [])) (br (QfP p0) (br (encOk (bodyT p0)) (some (.tu [(.t (.sl (.int .u8)) ((encE (bodyT p0)).1)), (.t tI ((encE (bodyT p0)).2))], [])) none) none)) none
theorem e_f131 (p0 : Qaa) : runF QAq QwF QFX false [.t Qad p0] [] = Qzm p0 := by kernel_rfl
theorem QVL : Qah Tryz.prog 131 := .inr ⟨by decide, _, Tryz.func131, by kernel_rfl, by kernel_rfl⟩
theorem QUO : GOk Tryz.prog QAq := Qal _ (gA (gC QJM QHY (gC QVz QRS (gC QVy QRR gN))))
theorem QTh : QwF.lok QAq := by repeat (first | exact trivial | refine ⟨?_, ?_⟩)
theorem s_f131 (c : Qaa) (h : QaG c = true) : Qzm c = some (.tu [.t (.sl (.int .u8)) (QbM c).1, .t tI (QbM c).2], []) := by
 unfold QbM
 cases hv : QaC c with
 | true => simp only [Qzm, h, hv, Qg2, QQB hv, show QfP c = true from by rw [QfP, h, hv]; rfl, Bool.not_true, Qac, Qaf, cond_true]
 | false => simp only [Qzm, h, hv, Qg2, Bool.not_false, Qac, cond_false]
def QED : Ent := spec (.pr Qad .nil) (fun x => (QaG x.1)) (fun x => (.tu [(.t (.sl (.int .u8)) ((QbM x.1).1)), (.t tI ((QbM x.1).2))]))
theorem QR4 : Meets Tryz.prog 131 (strip QED) := Qag (R := runF QAq QwF QFX false) (mG Tryz.func131 (by kernel_rfl) Tryz.ntmps131 (by kernel_rfl) QUO QTh) fun x hok => (e_f131 x.1).trans (s_f131 x.1 hok)
def stepS (s x : Int) : Int := imul .u32 (ibxor .u32 s (icv .u32 x)) 16777619
def sumB (b : List Int) : Int := icv .i64 (b.foldl stepS 2166136261)
def lenB (b : List Int) : Bool := decide (b.length ≤ 100000)
def QgN : Fg := ⟨[(3, some (.int .u32)), (6, some (.sl (.int .u8))), (7, some tI), (8, some tI)], []⟩
noncomputable def Qiz : TC := (.sq (.reg (rT Tryz.f167 3)) (.sq (.cd (.t 9) .sk (.fg ⟨[(3, some (.int .u32))], []⟩ (.ex 0))) (.sq (.bk 1 (.sq (.reg (rT Tryz.f167 4)) (.reg (rT Tryz.f167 5)))) (.reg (rT Tryz.f167 6)))))
noncomputable def Qwj : TC := (.sq (.reg (rT Tryz.f167 0)) (.sq (.reg (rT Tryz.f167 1)) (.sq (.sq (.reg (rT Tryz.f167 2)) (.bk 0 (.lp 0 QgN Qiz))) (.sq (.reg (rT Tryz.f167 7)) .rt))))
def QFB : List (RV × Option Ty) := [((.t 2), some tI)]
abbrev Qok : Sh := ⟨[(3, .ty (.int .u32)), (6, .ty (.sl (.int .u8))), (7, .ty tI), (8, .ty tI)], []⟩
def QnE (x3 : Int) (x6 : List Int) (x7 x8 : Int) : VS := Qok.st (x3, x6, x7, x8, ()) ()
abbrev Qt2 : Sh := ⟨[(3, .ty (.int .u32))], []⟩
def QdV (x3 : Int) : VS := Qt2.st (x3, ()) ()
def QOG : VS → Option (Bool × List (Bool × Exit × VS)) := mkL Qok (fun x y => (rngOk x.2.1 x.2.2.1 x.2.2.2.1)) (fun x y => [(true, .exit 0, QdV ((x.2.1.drop x.2.2.2.1.toNat).foldl stepS x.1))])
def Qlr : G := ⟨TYs, [], 20, EL [], keeps, (Ls [QOG]), IL [], RL []⟩
def QBf (x3 : Int) (x6 : List Int) (x7 x8 : Int) : Option (Exit × VS) := br (ilt x8 x7) (br (cIx x6 x8) (some (.normal, QnE (imul .u32 (ibxor .u32 x3 (icv .u32 (lgt (.int .u8) x6 (Int.toNat x8)))) 16777619) x6 x7 (iadd .i64 x8 1))) none) (some (.exit 0, QdV x3))
noncomputable def Qjk (x3 : Int) (x6 : List Int) (x7 x8 : Int) : Option (Exit × VS) := loopF (Qak Qlr QgN Qiz) (QnE x3 x6 x7 x8)
noncomputable def Qmw (x3 : Int) (x6 : List Int) (x7 x8 : Int) : Option (Exit × VS) := br (ilt x8 x7) (br (cIx x6 x8) (Qjk (imul .u32 (ibxor .u32 x3 (icv .u32 (lgt (.int .u8) x6 (Int.toNat x8)))) 16777619) x6 x7 (iadd .i64 x8 1)) none) (some (.exit 0, QdV x3))
def QjJ (x3 : Int) (x6 : List Int) (x7 x8 : Int) : Option (Exit × VS) := some (.exit 0, QdV ((x6.drop x8.toNat).foldl stepS x3))
theorem QKG (x3 : Int) (x6 : List Int) (x7 x8 : Int) : Qak Qlr QgN Qiz (QnE x3 x6 x7 x8) = QBf x3 x6 x7 x8 := by kernel_rfl
theorem QuY (x3 : Int) (x6 : List Int) (x7 x8 : Int) : Qjk x3 x6 x7 x8 = Qmw x3 x6 x7 x8 := (Qan _ _).trans (by
 rw [QKG]
 simp only [QBf, Qmw, Qax, nxt_n, nxt_r, nxt_e, nxt_0]
 rfl)
def QGW (p0 : List Int) : Option (V × List VO) := br (rngOk p0 (llen p0) (0 : Int)) (some (.t tI (icv .i64 ((p0.drop (0 : Int).toNat).foldl stepS (2166136261 : Int))), [])) none
theorem e_f167 (p0 : List Int) : runF Qlr Qwj QFB false [.t (.sl (.int .u8)) p0] [] = QGW p0 := by kernel_rfl
theorem QVs : Qah Tryz.prog 167 := .inr ⟨by decide, _, Tryz.func167, by kernel_rfl, by kernel_rfl⟩
theorem QUs : GOk Tryz.prog Qlr := Qal _ (fun p hp => by cases hp)
theorem QMP (x3 : Int) (x6 : List Int) (x7 x8 : Int) (h : (rngOk x6 x7 x8) = true) : Qjk x3 x6 x7 x8 = QjJ x3 x6 x7 x8 := by
 obtain ⟨rfl, h3, k, rfl, hk⟩ := rng_k h
 clear h
 revert x3
 refine Qat x6 (fun k => ∀ x3 : Int, Qjk x3 x6 (x6.length : Int) (k : Int) = QjJ x3 x6 (x6.length : Int) (k : Int)) ?_ ?_ k hk
 ·intro x3
  rw [QuY]
  simp only [Qmw, QjJ, Qar, Nat.lt_irrefl, decide_false, Qaf, Int.toNat_natCast, List.drop_length, List.foldl_nil]
 ·intro k hk ih x3
  rw [QuY]
  simp only [Qmw, Qar, Qau, hk, decide_true, Qac, Int.toNat_natCast, add1 (show k < 4611686018427387904 by omega), Qay (y := .int .u8) hk, ih]
  simp only [QjJ, Int.toNat_natCast, List.drop_eq_getElem_cons hk, List.foldl_cons, stepS]
theorem QIm : ∀ S l p, Qlr.L 0 (fgt QgN S) = some (true, l) → pickA l = some p → loopF (Qak Qlr QgN Qiz) S = some p :=
 QaD (s := Qok) ⟨by decide, by decide⟩ (by kernel_rfl) fun x y hok p hp => by
 simp only [Qap, Qam] at hp
 exact (QMP x.1 x.2.1 x.2.2.1 x.2.2.2.1 (by simpa using hok)).trans hp
theorem QSV : Qwj.lok Qlr := by
 repeat (first | exact trivial | exact QIm | refine ⟨?_, ?_⟩)
theorem s_f167 (b : List Int) (h : lenB b = true) : QGW b = some (.t tI (sumB b), []) := by
 simp only [lenB, decide_eq_true_eq] at h
 simp only [QGW, rng_0 h, Qac, Int.toNat_zero, List.drop_zero]
 rfl
def QEk : Ent := spec (.pr (.sl (.int .u8)) .nil) (fun x => (lenB x.1)) (fun x => (.t tI (sumB x.1)))
theorem QRL : Meets Tryz.prog 167 (strip QEk) := Qag (R := runF Qlr Qwj QFB false) (mG Tryz.func167 (by kernel_rfl) Tryz.ntmps167 (by kernel_rfl) QUs QSV) fun x hok => (e_f167 x.1).trans (s_f167 x.1 hok)
def QgU : Fg := ⟨[(0, some (.sl (.int .u8))), (3, some (.int .u32)), (4, some tI)], []⟩
noncomputable def QiG : TC := (.sq (.sq (.reg (rT Tryz.f132 3)) (.cd (.t 8) .sk (.fg ⟨[(3, some (.int .u32))], []⟩ (.ex 0)))) (.sq (.bk 1 (.reg (rT Tryz.f132 4))) (.reg (rT Tryz.f132 5))))
noncomputable def QwE : TC := (.sq (.reg (rT Tryz.f132 0)) (.sq (.reg (rT Tryz.f132 1)) (.sq (.sq (.reg (rT Tryz.f132 2)) (.bk 0 (.lp 0 QgU QiG))) (.sq (.reg (rT Tryz.f132 6)) .rt))))
def QFW : List (RV × Option Ty) := [((.t 2), some tI)]
abbrev Qou : Sh := ⟨[(0, .ty (.sl (.int .u8))), (3, .ty (.int .u32)), (4, .ty tI)], []⟩
def QnK (x0 : List Int) (x3 x4 : Int) : VS := Qou.st (x0, x3, x4, ()) ()
abbrev Qt9 : Sh := ⟨[(3, .ty (.int .u32))], []⟩
def Qd2 (x3 : Int) : VS := Qt9.st (x3, ()) ()
def QON : VS → Option (Bool × List (Bool × Exit × VS)) := mkL Qou (fun x y => (idxOk x.1 x.2.2.1)) (fun x y => [(true, .exit 0, Qd2 ((x.1.drop x.2.2.1.toNat).foldl stepS x.2.1))])
def Qly : G := ⟨TYs, [], 21, EL [], keeps, (Ls [QON]), IL [], RL []⟩
def QBm (x0 : List Int) (x3 x4 : Int) : Option (Exit × VS) := br (ilt x4 (llen x0)) (br (cIx x0 x4) (some (.normal, QnK x0 (imul .u32 (ibxor .u32 x3 (icv .u32 (lgt (.int .u8) x0 (Int.toNat x4)))) 16777619) (iadd .i64 x4 1))) none) (some (.exit 0, Qd2 x3))
noncomputable def Qjr (x0 : List Int) (x3 x4 : Int) : Option (Exit × VS) := loopF (Qak Qly QgU QiG) (QnK x0 x3 x4)
noncomputable def QmC (x0 : List Int) (x3 x4 : Int) : Option (Exit × VS) := br (ilt x4 (llen x0)) (br (cIx x0 x4) (Qjr x0 (imul .u32 (ibxor .u32 x3 (icv .u32 (lgt (.int .u8) x0 (Int.toNat x4)))) 16777619) (iadd .i64 x4 1)) none) (some (.exit 0, Qd2 x3))
def QjP (x0 : List Int) (x3 x4 : Int) : Option (Exit × VS) := some (.exit 0, Qd2 ((x0.drop x4.toNat).foldl stepS x3))
theorem QKN (x0 : List Int) (x3 x4 : Int) : Qak Qly QgU QiG (QnK x0 x3 x4) = QBm x0 x3 x4 := by kernel_rfl
theorem Qu5 (x0 : List Int) (x3 x4 : Int) : Qjr x0 x3 x4 = QmC x0 x3 x4 := (Qan _ _).trans (by
 rw [QKN]
 simp only [QBm, QmC, Qax, nxt_n, nxt_r, nxt_e, nxt_0]
 rfl)
def QHb (p0 : List Int) : Option (V × List VO) := br (idxOk p0 (0 : Int)) (some (.t tI (icv .i64 ((p0.drop (0 : Int).toNat).foldl stepS (2166136261 : Int))), [])) none
theorem e_f132 (p0 : List Int) : runF Qly QwE QFW false [.t (.sl (.int .u8)) p0] [] = QHb p0 := by kernel_rfl
theorem QVK : Qah Tryz.prog 132 := .inr ⟨by decide, _, Tryz.func132, by kernel_rfl, by kernel_rfl⟩
theorem QUN : GOk Tryz.prog Qly := Qal _ (fun p hp => by cases hp)
theorem QMW (x0 : List Int) (x3 x4 : Int) (h : (idxOk x0 x4) = true) : Qjr x0 x3 x4 = QjP x0 x3 x4 := by
 simp only [idxOk, decide_eq_true_eq] at h
 obtain ⟨h0, h1, h2⟩ := h
 obtain ⟨k, rfl⟩ := Int.eq_ofNat_of_zero_le h0
 revert x3
 refine Qat x0 (fun k => ∀ x3 : Int, Qjr x0 x3 (k : Int) = QjP x0 x3 (k : Int)) ?_ ?_ k (by omega)
 ·intro x3
  rw [Qu5]
  simp only [QmC, QjP, show ilt (x0.length : Int) (llen x0) = false from decide_eq_false (by simp only [llen]; omega), Qaf, Int.toNat_natCast, List.drop_length, List.foldl_nil]
 ·intro k hk ih x3
  rw [Qu5]
  simp only [QmC, show ilt (k : Int) (llen x0) = true from decide_eq_true (by simp only [llen]; omega), Qau, hk, decide_true, Qac, Int.toNat_natCast, add1 (show k < 4611686018427387904 by omega), Qay (y := .int .u8) hk, ih]
  simp only [QjP, Int.toNat_natCast, List.drop_eq_getElem_cons hk, List.foldl_cons, stepS]
theorem QIt : ∀ S l p, Qly.L 0 (fgt QgU S) = some (true, l) → pickA l = some p → loopF (Qak Qly QgU QiG) S = some p :=
 QaD (s := Qou) ⟨by decide, by decide⟩ (by kernel_rfl) fun x y hok p hp => by
 simp only [Qap, Qam] at hp
 exact (QMW x.1 x.2.1 x.2.2.1 (by simpa using hok)).trans hp
theorem QTg : QwE.lok Qly := by
 repeat (first | exact trivial | exact QIt | refine ⟨?_, ?_⟩)
theorem s_f132 (b : List Int) (h : lenB b = true) : QHb b = some (.t tI (sumB b), []) := by
 simp only [lenB, decide_eq_true_eq] at h
 simp only [QHb, show idxOk b 0 = true from decide_eq_true (by omega), Qac, Int.toNat_zero, List.drop_zero]
 rfl
def QEC : Ent := spec (.pr (.sl (.int .u8)) .nil) (fun x => (lenB x.1)) (fun x => (.t tI (sumB x.1)))
theorem QR3 : Meets Tryz.prog 132 (strip QEC) := Qag (R := runF Qly QwE QFW false) (mG Tryz.func132 (by kernel_rfl) Tryz.ntmps132 (by kernel_rfl) QUN QTg) fun x hok => (e_f132 x.1).trans (s_f132 x.1 hok)
theorem QQx (c : Qaa) : lenB (QbM c).1 = true := decide_eq_true (by have := QCC c; omega)
def QkB (c : Qaa) (k : Int) : Bool := ieq (QbM c).2 0 && (ieq (cSeal c).1 k && ieq (cSeal c).2.1 (sumB (QbM c).1))
def Qev (c : Qaa) (_k : Int) : Bool := QaG c
noncomputable def QJ0 : List DO := dT Tryz.f141 2
noncomputable def Qwz : TC := (.sq (.reg (rT Tryz.f141 0)) (.sq (.reg (rT Tryz.f141 1)) (.sq (.dr QJ0 [(0, []), (1, []), (2, []), (3, [2]), (4, [2]), (5, []), (6, []), (7, []), (8, []), (9, []), (10, []), (11, [])] (.of [0, 1, 2, 3, 4, 5, 6, 7, 8, 9, 10, 11])) .rt)))
def QFR : List (RV × Option Ty) := [((.t 4), some .bool)]
def QAn : G := ⟨TYs, [], 23, EL [(166, QEl), (167, QEk)], keeps, (fun _ _ => none), IL [], RL []⟩
def QG7 (p0 : Qaa) (p1 : Int) : Option (V × List VO) := br (QaG p0) (br (ieq ((QbM p0).2) 0) (br (lenB ((QbM p0).1)) (some (.t .bool (and (ieq p0.2.2.2.2.2.2.2.2.2.2.2.1.1 p1) (and (ieq p0.2.2.2.2.2.2.2.2.2.2.2.1.2.1 (sumB ((QbM p0).1))) true)), [])) none) (some (.t .bool false, []))) none
theorem e_f141 (p0 : Qaa) (p1 : Int) : runF QAn Qwz QFR false [.t Qad p0, .t tI p1] [] = QG7 p0 p1 := by kernel_rfl
theorem QVF : Qah Tryz.prog 141 := .inr ⟨by decide, _, Tryz.func141, by kernel_rfl, by kernel_rfl⟩
theorem QUI : GOk Tryz.prog QAn := Qal _ (gA (gC QVt QRM (gC QVs QRL gN)))
theorem QTb : Qwz.lok QAn := by repeat (first | exact trivial | refine ⟨?_, ?_⟩)
theorem s_f141 (c : Qaa) (k : Int) (h : Qev c k = true) : QG7 c k = some (.t .bool (QkB c k), []) := by
 simp only [QG7, show QaG c = true from h, QQx, Qac, Bool.and_true]
 exact brA rfl
def QEx : Ent := spec (.pr Qad (.pr tI .nil)) (fun x => (Qev x.1 x.2.1)) (fun x => (.t .bool (QkB x.1 x.2.1)))
theorem QRY : Meets Tryz.prog 141 (strip QEx) := Qag (R := runF QAn Qwz QFR false) (mG Tryz.func141 (by kernel_rfl) Tryz.ntmps141 (by kernel_rfl) QUI QTb) fun x hok => (e_f141 x.1 x.2.1).trans (s_f141 x.1 x.2.1 hok)
def copyC (c : Qaa) : Qaa := c
noncomputable def QwH : TC := (.sq (.reg (rT Tryz.f129 0)) (.sq (.reg (rT Tryz.f129 1)) (.sq (.reg (rT Tryz.f129 2)) .rt)))
def QFZ : List (RV × Option Ty) := [((.c 2 true 15), some Qad)]
def QAr : G := ⟨TYs, [3], 9, EL [], keeps, (fun _ _ => none), IL [], RL []⟩
def QHd (p0 : Qaa) : Option (V × List VO) := br (cApp ([] : List ByteArray) p0.2.2.2.2.2.2.2.2.2.2.1 16) (some (.t Qad (p0.1, (p0.2.1, (p0.2.2.1, ((p0.2.2.2.1.1, (p0.2.2.2.1.2.1, ())), (p0.2.2.2.2.1, ((p0.2.2.2.2.2.1.1, (p0.2.2.2.2.2.1.2.1, ())), (p0.2.2.2.2.2.2.1, (p0.2.2.2.2.2.2.2.1, (p0.2.2.2.2.2.2.2.2.1, (p0.2.2.2.2.2.2.2.2.2.1, ((([] : List ByteArray) ++ p0.2.2.2.2.2.2.2.2.2.2.1), ((p0.2.2.2.2.2.2.2.2.2.2.2.1.1, (p0.2.2.2.2.2.2.2.2.2.2.2.1.2.1, ())), ())))))))))))), [])) none
theorem e_f129 (p0 : Qaa) : runF QAr QwH QFZ false [.t Qad p0] [] = QHd p0 := by kernel_rfl
theorem QVM : Qah Tryz.prog 129 := .inr ⟨by decide, _, Tryz.func129, by kernel_rfl, by kernel_rfl⟩
theorem QUQ : GOk Tryz.prog QAr := Qal _ (fun p hp => by cases hp)
theorem QTj : QwH.lok QAr := by repeat (first | exact trivial | refine ⟨?_, ?_⟩)
theorem Qvz {c : Qaa} (h : QaG c = true) : (Qaz c).length ≤ 100000 := by
 simp only [QaG, QbY, Bool.and_eq_true, decide_eq_true_eq] at h
 exact h.2.2.1
theorem s_f129 (c : Qaa) (h : QaG c = true) : QHd c = some (.t Qad (copyC c), []) := by
 have hn : c.2.2.2.2.2.2.2.2.2.2.1.length ≤ 100000 := Qvz h
 simp only [QHd]
 rw [cAppN (by omega) (by simp only [List.length_nil]; omega), Qac]
 rfl
def QEE : Ent := spec (.pr Qad .nil) (fun x => (QaG x.1)) (fun x => (.t Qad (copyC x.1)))
theorem QR5 : Meets Tryz.prog 129 (strip QEE) := Qag (R := runF QAr QwH QFZ false) (mG Tryz.func129 (by kernel_rfl) Tryz.ntmps129 (by kernel_rfl) QUQ QTj) fun x hok => (e_f129 x.1).trans (s_f129 x.1 hok)
def sealC (c : Qaa) (s : Keep) : Qaa := (c.1, (c.2.1, (c.2.2.1, (c.2.2.2.1, (c.2.2.2.2.1, (c.2.2.2.2.2.1, (c.2.2.2.2.2.2.1, (c.2.2.2.2.2.2.2.1, (c.2.2.2.2.2.2.2.2.1, (c.2.2.2.2.2.2.2.2.2.1, (c.2.2.2.2.2.2.2.2.2.2.1, (s, ()))))))))))))
def unsC (c : Qaa) : Qaa := sealC c (0, (0, ()))
def QEW (c : Qaa) (k : Int) : Bool := !QaC (unsC c) || (ilt k 0 || igt k 2147483648)
abbrev zCert : Qaa := Ty.zero Qad
def signC (c : Qaa) (k : Int) : Qaa × Int := bif QEW c k then (zCert, 9) else (sealC c (k, (sumB (QbM (unsC c)).1, ())), 0)
noncomputable def QC6 : TC := (.sq (.reg (rT Tryz.f84 0)) (.sq (.reg (rT Tryz.f84 1)) (.sq (.reg (rT Tryz.f84 2)) (.sq (.sq (.reg (rT Tryz.f84 3)) (.cd (.t 22) (.sq (.reg (rT Tryz.f84 4)) .rt) .sk)) (.sq (.reg (rT Tryz.f84 5)) (.sq (.reg (rT Tryz.f84 6)) (.sq (.reg (rT Tryz.f84 7)) .rt)))))))
def QPC : List (RV × Option Ty) := [((.c 4 true 15), some Qad), ((.t 5), some tI)]
def g_f84 : G := ⟨TYs, [], 35, EL [(129, QEE), (130, Qw4), (131, QED), (132, QEC)], keeps, (fun _ _ => none), IL [], RL []⟩
def r_f84 (p0 : Qaa) (p1 : Int) : Option (V × List VO) :=
 let a4 := ((copyC p0).2)
 let a1 := ((((a4.2).2).2).2)
 let a5 := (((a1.2).2).2)
 let a2 := ((QbM ((copyC p0).1, (a4.1, ((a4.2).1, (((a4.2).2).1, ((((a4.2).2).2).1, (a1.1, ((a1.2).1, (((a1.2).2).1, (a5.1, ((a5.2).1, (((a5.2).2).1, ((0, (0, ())), (((a5.2).2).2).2))))))))))))).1)
 let a3 := (QaG ((copyC p0).1, (a4.1, ((a4.2).1, (((a4.2).2).1, ((((a4.2).2).2).1, (a1.1, ((a1.2).1, (((a1.2).2).1, (a5.1, ((a5.2).1, (((a5.2).2).1, ((0, (0, ())), (((a5.2).2).2).2)))))))))))))
 let a6 := ByteArray.mk #[]
 br (QaG p0) (br a3 (br (ine (QeR ((copyC p0).1, (a4.1, ((a4.2).1, (((a4.2).2).1, ((((a4.2).2).2).1, (a1.1, ((a1.2).1, (((a1.2).2).1, (a5.1, ((a5.2).1, (((a5.2).2).1, ((0, (0, ())), (((a5.2).2).2).2))))))))))))) 0) (some (.tu [(.t Qad (0, (a6, (a6, ((0, (0, ())), (0, ((0, (0, ())), (0, (0, (false, (0, (([] : List ByteArray), ((0, (0, ())), ()))))))))))))), (.t tI 9)], [])) (br (ilt p1 0) (some (.tu [(.t Qad (0, (a6, (a6, ((0, (0, ())), (0, ((0, (0, ())), (0, (0, (false, (0, (([] : List ByteArray), ((0, (0, ())), ()))))))))))))), (.t tI 9)], [])) (br (igt p1 2147483648) (some (.tu [(.t Qad (0, (a6, (a6, ((0, (0, ())), (0, ((0, (0, ())), (0, (0, (false, (0, (([] : List ByteArray), ((0, (0, ())), ()))))))))))))), (.t tI 9)], [])) (br a3 (br (lenB a2) (some (.tu [(.t Qad ((copyC p0).1, (a4.1, ((a4.2).1, (((a4.2).2).1, ((((a4.2).2).2).1, (a1.1, ((a1.2).1, (((a1.2).2).1, (a5.1, ((a5.2).1, (((a5.2).2).1, ((p1, ((sumB a2), ())), (((a5.2).2).2).2))))))))))))), (.t tI 0)], [])) none) none)))) none) none
theorem e_f84 (p0 : Qaa) (p1 : Int) : runF g_f84 QC6 QPC false [.t Qad p0, .t tI p1] [] = r_f84 p0 p1 := by kernel_rfl
theorem en_f84 : Qah Tryz.prog 84 := .inr ⟨by decide, _, Tryz.func84, by kernel_rfl, by kernel_rfl⟩
theorem gk_f84 : GOk Tryz.prog g_f84 := Qal _ (gA (gC QVM QR5 (gC QJM QHY (gC QVL QR4 (gC QVK QR3 gN)))))
theorem lk_f84 : QC6.lok g_f84 := by repeat (first | exact trivial | refine ⟨?_, ?_⟩)
theorem s_f84 (c : Qaa) (k : Int) (h : Qev c k = true) : r_f84 c k = some (.tu [.t Qad (signC c k).1, .t tI (signC c k).2], []) := by
 have h : QaG c = true := h
 have hu : QaG (unsC c) = true := h
 have e : ((copyC c).1, ((copyC c).2.1, ((copyC c).2.2.1, ((copyC c).2.2.2.1, ((copyC c).2.2.2.2.1, ((copyC c).2.2.2.2.2.1, ((copyC c).2.2.2.2.2.2.1, ((copyC c).2.2.2.2.2.2.2.1, ((copyC c).2.2.2.2.2.2.2.2.1, ((copyC c).2.2.2.2.2.2.2.2.2.1, ((copyC c).2.2.2.2.2.2.2.2.2.2.1, ((0, (0, ())), ())))))))))))) = unsC c := rfl
 simp only [r_f84, h, e, hu, Qg2, QQx, Qac]
 unfold signC QEW
 cases QaC (unsC c) with
 | false => rfl
 | true =>
  rw [Bool.not_true, Qaf, Bool.false_or]
  cases ilt k 0 with
  | true => rfl
  | false =>
   rw [Qaf, Bool.false_or]
   cases igt k 2147483648 <;> rfl
def QO4 : Ent := spec (.pr Qad (.pr tI .nil)) (fun x => (Qev x.1 x.2.1)) (fun x => (.tu [(.t Qad ((signC x.1 x.2.1).1)), (.t tI ((signC x.1 x.2.1).2))]))
theorem ms_f84 : Meets Tryz.prog 84 (strip QO4) := Qag (R := runF g_f84 QC6 QPC false) (mG Tryz.func84 (by kernel_rfl) Tryz.ntmps84 (by kernel_rfl) gk_f84 lk_f84) fun x hok => (e_f84 x.1 x.2.1).trans (s_f84 x.1 x.2.1 hok)
def QaZ (l : List Qaa) : Bool := decide (l.length ≤ 100000) && l.all QaG
def QpL (key : Keep) (id : Int) (l : List Qaa) : Bool := ieq (llen l) 0 || (((l.getD 0 zCert).2.2.2.1 == key) && ieq (l.getD 0 zCert).2.2.2.2.1 id)
def QiU (key : Keep) (id : Int) (l : List Qaa) : Bool := QbO key && (!ine (kindF key.1) 2 && (keyI id && (!igt (llen l) 8 && (l.all QaC && QpL key id l))))
def QnZ (_key : Keep) (_id : Int) (l : List Qaa) : Bool := QaZ l
theorem QCh (key : Keep) (id : Int) (l : List Qaa) : br (ieq (llen l) 0) (some (V.t .bool true, ([] : List VO))) (br (cIx l 0) (br ((lgt Qad l 0).2.2.2.1 == key) (br (cIx l 0) (some (V.t .bool (ieq (lgt Qad l 0).2.2.2.2.1 id), [])) none) (some (V.t .bool false, []))) none) = some (V.t .bool (QpL key id l), []) := by
 unfold QpL
 cases l with
 | nil => rfl
 | cons c l =>
  have h1 : ieq (llen (c :: l)) 0 = false := by
   simp only [ieq, llen, List.length_cons, beq_eq_false_iff_ne]
   omega
  have h2 : cIx (c :: l) 0 = true := by simp only [cIx, List.length_cons, decide_eq_true_eq]; omega
  rw [h1, Qaf, h2, Qac, Bool.false_or, Qac]
  show br (c.2.2.2.1 == key) _ _ = some (V.t .bool ((c.2.2.2.1 == key) && ieq c.2.2.2.2.1 id), [])
  cases c.2.2.2.1 == key <;> rfl
noncomputable def QJ3 : List DO := dT Tryz.f117 9
def QgX : Fg := ⟨[(1, some tI), (2, some (.sl Qad)), (3, none), (28, some (.sl Qad)), (29, some tI), (30, some tI)], [(3, some Qai)]⟩
noncomputable def QiJ : TC := (.sq (.reg (rT Tryz.f117 4)) (.sq (.cd (.t 31) .sk (.fg ⟨[(1, some tI), (2, some (.sl Qad)), (3, none)], [(3, some Qai)]⟩ (.ex 0))) (.sq (.bk 1 (.sq (.reg (rT Tryz.f117 5)) (.sq (.reg (rT Tryz.f117 6)) (.cd (.t 36) (.sq (.reg (rT Tryz.f117 7)) (.fg ⟨[(6, some .bool)], []⟩ .rt)) .sk)))) (.reg (rT Tryz.f117 8)))))
noncomputable def QwO : TC := (.sq (.reg (rT Tryz.f117 0)) (.sq (.sq (.reg (rT Tryz.f117 1)) (.cd (.t 27) (.sq (.reg (rT Tryz.f117 2)) .rt) .sk)) (.sq (.sq (.reg (rT Tryz.f117 3)) (.bk 0 (.lp 0 QgX QiJ))) (.sq (.dr QJ3 [(0, []), (1, []), (2, []), (3, []), (4, []), (5, []), (6, []), (7, []), (8, [3]), (9, []), (10, []), (11, []), (12, []), (13, []), (14, []), (15, []), (16, []), (17, []), (18, []), (19, [])] (.of [0, 1, 2, 3, 4, 5, 6, 7, 8, 9, 10, 11, 12, 13, 14, 15, 16, 17, 18, 19])) .rt))))
def QF6 : List (RV × Option Ty) := [((.t 6), some .bool)]
abbrev Qoz : Sh := ⟨[(1, .ty tI), (2, .ty (.sl Qad)), (3, .ptr 3 0), (28, .ty (.sl Qad)), (29, .ty tI), (30, .ty tI)], [(3, .box Qai)]⟩
def QnM (x1 : Int) (x2 x28 : List Qaa) (x29 x30 : Int) (y3 : Keep) : VS := Qoz.st (x1, x2, (), x28, x29, x30, ()) (y3, ())
abbrev QrY : Sh := ⟨[(6, .ty .bool)], []⟩
def Qda (x6 : Bool) : VS := QrY.st (x6, ()) ()
abbrev Quc : Sh := ⟨[(1, .ty tI), (2, .ty (.sl Qad)), (3, .ptr 3 0)], [(3, .box Qai)]⟩
def Qd5 (x1 : Int) (x2 : List Qaa) (y3 : Keep) : VS := Quc.st (x1, x2, (), ()) (y3, ())
def QOQ : VS → Option (Bool × List (Bool × Exit × VS)) := mkL Qoz (fun x y => (rngOk x.2.2.2.1 x.2.2.2.2.1 x.2.2.2.2.2.1 && QaZ x.2.2.2.1)) (fun x y => [((!(x.2.2.2.1.drop x.2.2.2.2.2.1.toNat).all QaC), .ret, Qda (false)), (true, .exit 0, Qd5 (x.1) (x.2.1) (y.1))])
def QlB : G := ⟨TYs, [], 57, EL [(96, QDK), (121, Qrw), (125, Qru), (155, Qrt)], keeps, (Ls [QOQ]), IL [], RL []⟩
def QBp (x1 : Int) (x2 x28 : List Qaa) (x29 x30 : Int) (y3 : Keep) : Option (Exit × VS) :=
 let a1 := lgt Qad x28 (Int.toNat x30)
 br (ilt x30 x29) (br (cIx x28 x30) (br (QaG a1) (br (ine (QeR a1) 0) (some (.ret, Qda false)) (some (.normal, QnM x1 x2 x28 x29 (iadd .i64 x30 1) y3))) none) none) (some (.exit 0, Qd5 x1 x2 y3))
noncomputable def Qjt (x1 : Int) (x2 x28 : List Qaa) (x29 x30 : Int) (y3 : Keep) : Option (Exit × VS) := loopF (Qak QlB QgX QiJ) (QnM x1 x2 x28 x29 x30 y3)
noncomputable def QmF (x1 : Int) (x2 x28 : List Qaa) (x29 x30 : Int) (y3 : Keep) : Option (Exit × VS) :=
 let a1 := lgt Qad x28 (Int.toNat x30)
 br (ilt x30 x29) (br (cIx x28 x30) (br (QaG a1) (br (ine (QeR a1) 0) (some (.ret, Qda false)) (Qjt x1 x2 x28 x29 (iadd .i64 x30 1) y3)) none) none) (some (.exit 0, Qd5 x1 x2 y3))
def QjS (x1 : Int) (x2 x28 : List Qaa) (x29 x30 : Int) (y3 : Keep) : Option (Exit × VS) := br (!(x28.drop x30.toNat).all QaC) (some (.ret, Qda (false))) <| some (.exit 0, Qd5 (x1) (x2) (y3))
theorem QKQ (x1 : Int) (x2 x28 : List Qaa) (x29 x30 : Int) (y3 : Keep) : Qak QlB QgX QiJ (QnM x1 x2 x28 x29 x30 y3) = QBp x1 x2 x28 x29 x30 y3 := by kernel_rfl
theorem Qu8 (x1 : Int) (x2 x28 : List Qaa) (x29 x30 : Int) (y3 : Keep) : Qjt x1 x2 x28 x29 x30 y3 = QmF x1 x2 x28 x29 x30 y3 := (Qan _ _).trans (by
 rw [QKQ]
 simp only [QBp, QmF, Qax, nxt_n, nxt_r, nxt_e, nxt_0]
 rfl)
def QHg (p0 : Keep) (p1 : Int) (p2 : List Qaa) : Option (V × List VO) :=
 let a1 := ((((lgt Qad (p2) (Int.toNat 0)).2).2).2)
 br (!(QbO p0)) (some (.t .bool false, [])) (br (ine (kindF p0.1) 2) (some (.t .bool false, [])) (br (!(keyI p1)) (some (.t .bool false, [])) (br (igt (llen p2) 8) (some (.t .bool false, [])) (br (rngOk p2 (llen p2) (0 : Int) && QaZ p2) (br (!(p2.drop (0 : Int).toNat).all QaC) (some (.t .bool (false), [])) (br (ieq (llen (p2)) 0) (some (.t .bool true, [])) (br (cIx (p2) 0) (br (and (ieq ((a1.1).1) ((p0).1)) (and (ieq (((a1.1).2).1) (((p0).2).1)) true)) (br (cIx (p2) 0) (some (.t .bool (ieq ((a1.2).1) (p1)), [])) none) (some (.t .bool false, []))) none))) none))))
theorem e_f117 (p0 : Keep) (p1 : Int) (p2 : List Qaa) : runF QlB QwO QF6 false [.t Qai p0, .t tI p1, .t (.sl Qad) p2] [] = QHg p0 p1 p2 := by kernel_rfl
theorem QVQ : Qah Tryz.prog 117 := .inr ⟨by decide, _, Tryz.func117, by kernel_rfl, by kernel_rfl⟩
theorem QUX : GOk Tryz.prog QlB := Qal _ (gA (gC QQC QQq (gC QyE QxN (gC QyC QxL (gC QyA QxJ gN)))))
theorem QMZ (x1 : Int) (x2 x28 : List Qaa) (x29 x30 : Int) (y3 : Keep) (h : (rngOk x28 x29 x30 && QaZ x28) = true) : Qjt x1 x2 x28 x29 x30 y3 = QjS x1 x2 x28 x29 x30 y3 := by
 simp only [Bool.and_eq_true] at h
 obtain ⟨h0, hc⟩ := h
 obtain ⟨rfl, h3, k, rfl, hk⟩ := rng_k h0
 clear h0
 simp only [QaZ, Bool.and_eq_true, List.all_eq_true] at hc
 refine Qat x28 (fun k => Qjt x1 x2 x28 (x28.length : Int) (k : Int) y3 = QjS x1 x2 x28 (x28.length : Int) (k : Int) y3) ?_ ?_ k hk
 ·rw [Qu8]
  simp only [QmF, QjS, Qar, Nat.lt_irrefl, decide_false, Qaf, Int.toNat_natCast, List.drop_length, List.all_nil, Bool.not_true]
 ·intro k hk ih
  rw [Qu8]
  have hx := hc.2 x28[k] (List.getElem_mem hk)
  simp only [QmF, Qar, Qau, hk, decide_true, Qac, Int.toNat_natCast, add1 (show k < 4611686018427387904 by omega), Qay (y := Qad) hk, hx, Qg2, ih]
  simp only [QjS, Int.toNat_natCast, List.drop_eq_getElem_cons hk, List.all_cons]
  cases QaC x28[k] <;> rfl
theorem QIw : ∀ S l p, QlB.L 0 (fgt QgX S) = some (true, l) → pickA l = some p → loopF (Qak QlB QgX QiJ) S = some p :=
 QaD (s := Qoz) ⟨by decide, by decide⟩ (by kernel_rfl) fun x y hok p hp => by
 simp only [Qap, Qam] at hp
 exact (QMZ x.1 x.2.1 x.2.2.2.1 x.2.2.2.2.1 x.2.2.2.2.2.1 y.1 (by simpa using hok)).trans hp
theorem QTq : QwO.lok QlB := by
 repeat (first | exact trivial | exact QIw | refine ⟨?_, ?_⟩)
theorem s_f117 (key : Keep) (id : Int) (l : List Qaa) (h : QnZ key id l = true) : QHg key id l = some (.t .bool (QiU key id l), []) := by
 have h : QaZ l = true := h
 have hl : l.length ≤ 100000 := by simp only [QaZ, Bool.and_eq_true, decide_eq_true_eq] at h; exact h.1
 simp only [QHg, rng_0 hl, h, Bool.and_self, Qac, Int.toNat_zero, List.drop_zero, QTQ]
 unfold QiU
 refine (brB <| brB <| brB <| brB <| brB (QCh key id l)).trans ?_
 simp only [Bool.not_not]
def QEI : Ent := spec (.pr Qai (.pr tI (.pr (.sl Qad) .nil))) (fun x => (QnZ x.1 x.2.1 x.2.2.1)) (fun x => (.t .bool (QiU x.1 x.2.1 x.2.2.1)))
theorem QR9 : Meets Tryz.prog 117 (strip QEI) := Qag (R := runF QlB QwO QF6 false) (mG Tryz.func117 (by kernel_rfl) Tryz.ntmps117 (by kernel_rfl) QUX QTq) fun x hok => (e_f117 x.1 x.2.1 x.2.2.1).trans (s_f117 x.1 x.2.1 x.2.2.1 hok)
end
end Go.Proofs.YtckcgijklnloiaaGreat.K
