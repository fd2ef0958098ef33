import Derived.Test.YtkngeegkjhipeaaGreatM1
import Derived.Test.YtkngeegkjhipeaaGreatKD
set_option linter.unusedSimpArgs false
set_option linter.unusedVariables false
namespace Go.Proofs.YtkngeegkjhipeaaGreat.K
open Go.RowKit
noncomputable def Quc : TC := (.sq (.reg (rT Tryz.f148 0)) (.sq (.reg (rT Tryz.f148 1)) .rt))
def QCw : List (RV × Option Ty) := [((.c 0 true 115), some (.pr tyRow (.pr tyRow (.pr tyRow (.pr tyRow (.pr tyRow (.pr tyRow (.pr tyRow (.pr tyRow (.pr tyRow (.pr tyRow (.pr tyRow (.pr tyRow (.pr tyRow (.pr tyRow (.pr tyRow (.pr tyRow (.pr tyRow (.pr tyRow (.pr tyRow (.pr tyRow (.pr tyRow (.pr tyRow (.pr tyRow .nil))))))))))))))))))))))))]
def QxT : G := ⟨TYs, [], 46, EL [], keeps, (fun _ _ => none), IL [], RL []⟩
def QM7  : Option (V × List VO) := some (.t (.pr tyRow (.pr tyRow (.pr tyRow (.pr tyRow (.pr tyRow (.pr tyRow (.pr tyRow (.pr tyRow (.pr tyRow (.pr tyRow (.pr tyRow (.pr tyRow (.pr tyRow (.pr tyRow (.pr tyRow (.pr tyRow (.pr tyRow (.pr tyRow (.pr tyRow (.pr tyRow (.pr tyRow (.pr tyRow (.pr tyRow .nil))))))))))))))))))))))) (((ByteArray.mk #[]), (0, (0, (([] : List Int), (([] : List Int), ()))))), (((ByteArray.mk #[109, 100, 53]), (1, (0, (([] : List Int), ([18], ()))))), (((ByteArray.mk #[115, 104, 97, 49]), (1, (0, (([] : List Int), ([60], ()))))), (((ByteArray.mk #[115, 104, 97, 50, 53, 54]), (1, (0, (([] : List Int), ([128], ()))))), (((ByteArray.mk #[115, 104, 97, 51, 56, 52]), (1, (0, (([] : List Int), ([192], ()))))), (((ByteArray.mk #[114, 115, 97]), (2, (1, (([] : List Int), (([] : List Int), ()))))), (((ByteArray.mk #[100, 115, 97]), (2, (1, (([] : List Int), (([] : List Int), ()))))), (((ByteArray.mk #[101, 99, 100, 115, 97]), (2, (2, (([] : List Int), (([] : List Int), ()))))), (((ByteArray.mk #[101, 100, 50, 53, 53, 49, 57]), (2, (0, (([] : List Int), ([128], ()))))), (((ByteArray.mk #[109, 108, 100, 115, 97]), (2, (3, ([44, 65, 87], ([128, 192, 256], ()))))), (((ByteArray.mk #[114, 115, 97, 107, 120]), (3, (1, (([] : List Int), (([] : List Int), ()))))), (((ByteArray.mk #[100, 104, 101]), (3, (1, (([] : List Int), (([] : List Int), ()))))), (((ByteArray.mk #[101, 99, 100, 104, 101]), (3, (2, (([] : List Int), (([] : List Int), ()))))), (((ByteArray.mk #[109, 108, 107, 101, 109]), (3, (3, ([512, 768, 1024], ([128, 192, 256], ()))))), (((ByteArray.mk #[114, 99, 52]), (4, (3, ([40, 128], ([40, 60], ()))))), (((ByteArray.mk #[100, 101, 115, 51]), (4, (3, ([112, 168], ([80, 112], ()))))), (((ByteArray.mk #[97, 101, 115, 99, 98, 99]), (4, (3, ([128, 256], ([128, 256], ()))))), (((ByteArray.mk #[97, 101, 115, 103, 99, 109]), (4, (3, ([128, 256], ([128, 256], ()))))), (((ByteArray.mk #[99, 104, 97, 99, 104, 97]), (4, (0, (([] : List Int), ([256], ()))))), (((ByteArray.mk #[104, 109, 97, 99, 109, 100, 53]), (5, (0, (([] : List Int), ([64], ()))))), (((ByteArray.mk #[104, 109, 97, 99, 115, 104, 97, 49]), (5, (0, (([] : List Int), ([80], ()))))), (((ByteArray.mk #[104, 109, 97, 99, 115, 104, 97, 50, 53, 54]), (5, (0, (([] : List Int), ([128], ()))))), (((ByteArray.mk #[97, 101, 97, 100]), (5, (0, (([] : List Int), ([256], ()))))), ()))))))))))))))))))))))), [])
theorem e_f148  : runF QxT Quc QCw false [] [] = QM7  := by kernel_rfl
theorem QRp : Qag Tryz.prog 148 := .inr ⟨by decide, _, Tryz.func148, by kernel_rfl, by kernel_rfl⟩
theorem QQM : GOk Tryz.prog QxT := Qao _ (fun p hp => by cases hp)
theorem QPx : Quc.lok QxT := by repeat (first | exact trivial | refine ⟨?_, ?_⟩)
def rowsF : Ty.T (.pr tyRow (.pr tyRow (.pr tyRow (.pr tyRow (.pr tyRow (.pr tyRow (.pr tyRow (.pr tyRow (.pr tyRow (.pr tyRow (.pr tyRow (.pr tyRow (.pr tyRow (.pr tyRow (.pr tyRow (.pr tyRow (.pr tyRow (.pr tyRow (.pr tyRow (.pr tyRow (.pr tyRow (.pr tyRow (.pr tyRow .nil))))))))))))))))))))))) := (((ByteArray.mk #[]), (0, (0, (([] : List Int), (([] : List Int), ()))))), (((ByteArray.mk #[109, 100, 53]), (1, (0, (([] : List Int), ([18], ()))))), (((ByteArray.mk #[115, 104, 97, 49]), (1, (0, (([] : List Int), ([60], ()))))), (((ByteArray.mk #[115, 104, 97, 50, 53, 54]), (1, (0, (([] : List Int), ([128], ()))))), (((ByteArray.mk #[115, 104, 97, 51, 56, 52]), (1, (0, (([] : List Int), ([192], ()))))), (((ByteArray.mk #[114, 115, 97]), (2, (1, (([] : List Int), (([] : List Int), ()))))), (((ByteArray.mk #[100, 115, 97]), (2, (1, (([] : List Int), (([] : List Int), ()))))), (((ByteArray.mk #[101, 99, 100, 115, 97]), (2, (2, (([] : List Int), (([] : List Int), ()))))), (((ByteArray.mk #[101, 100, 50, 53, 53, 49, 57]), (2, (0, (([] : List Int), ([128], ()))))), (((ByteArray.mk #[109, 108, 100, 115, 97]), (2, (3, ([44, 65, 87], ([128, 192, 256], ()))))), (((ByteArray.mk #[114, 115, 97, 107, 120]), (3, (1, (([] : List Int), (([] : List Int), ()))))), (((ByteArray.mk #[100, 104, 101]), (3, (1, (([] : List Int), (([] : List Int), ()))))), (((ByteArray.mk #[101, 99, 100, 104, 101]), (3, (2, (([] : List Int), (([] : List Int), ()))))), (((ByteArray.mk #[109, 108, 107, 101, 109]), (3, (3, ([512, 768, 1024], ([128, 192, 256], ()))))), (((ByteArray.mk #[114, 99, 52]), (4, (3, ([40, 128], ([40, 60], ()))))), (((ByteArray.mk #[100, 101, 115, 51]), (4, (3, ([112, 168], ([80, 112], ()))))), (((ByteArray.mk #[97, 101, 115, 99, 98, 99]), (4, (3, ([128, 256], ([128, 256], ()))))), (((ByteArray.mk #[97, 101, 115, 103, 99, 109]), (4, (3, ([128, 256], ([128, 256], ()))))), (((ByteArray.mk #[99, 104, 97, 99, 104, 97]), (4, (0, (([] : List Int), ([256], ()))))), (((ByteArray.mk #[104, 109, 97, 99, 109, 100, 53]), (5, (0, (([] : List Int), ([64], ()))))), (((ByteArray.mk #[104, 109, 97, 99, 115, 104, 97, 49]), (5, (0, (([] : List Int), ([80], ()))))), (((ByteArray.mk #[104, 109, 97, 99, 115, 104, 97, 50, 53, 54]), (5, (0, (([] : List Int), ([128], ()))))), (((ByteArray.mk #[97, 101, 97, 100]), (5, (0, (([] : List Int), ([256], ()))))), ())))))))))))))))))))))))
theorem s_f148 : QM7 = some (.t (tyR tyRow 23) rowsF, []) := rfl
def QBC : Ent := spec .nil (fun x => true) (fun x => (.t (.pr tyRow (.pr tyRow (.pr tyRow (.pr tyRow (.pr tyRow (.pr tyRow (.pr tyRow (.pr tyRow (.pr tyRow (.pr tyRow (.pr tyRow (.pr tyRow (.pr tyRow (.pr tyRow (.pr tyRow (.pr tyRow (.pr tyRow (.pr tyRow (.pr tyRow (.pr tyRow (.pr tyRow (.pr tyRow (.pr tyRow .nil))))))))))))))))))))))) rowsF))
theorem QOD : Meets Tryz.prog 148 (strip QBC) := Qaf (R := runF QxT Quc QCw false) (mG Tryz.func148 (by kernel_rfl) Tryz.ntmps148 (by kernel_rfl) QQM QPx) fun x _ => (e_f148 ).trans (s_f148 )
def noRow : Row := ((ByteArray.mk #[]), (0, (0, (([] : List Int), (([] : List Int), ())))))
def ofF (a : Int) : Row × Bool := if a < 1 ∨ 22 < a then (noRow, false) else (Qbd tyRow 23 rowsF a, true)
noncomputable def Qui : TC := (.sq (.reg (rT Tryz.f135 0)) (.sq (.sq (.reg (rT Tryz.f135 1)) (.cd (.t 9) (.sq (.reg (rT Tryz.f135 2)) .rt) .sk)) (.sq (.reg (rT Tryz.f135 3)) .rt)))
def QCC : List (RV × Option Ty) := [((.c 2 true 5), some tyRow), ((.t 3), some .bool)]
def QxW : G := ⟨TYs, [], 14, EL [(148, QBC), (1002738, Qff)], keeps, (fun _ _ => none), IL [], RL []⟩
def QDA (p0 : Int) : Option (V × List VO) := br (ilt p0 1) (some (.tu [(.t tyRow ((ByteArray.mk #[]), (0, (0, (([] : List Int), (([] : List Int), ())))))), (.t .bool false)], [])) (br (igt p0 22) (some (.tu [(.t tyRow ((ByteArray.mk #[]), (0, (0, (([] : List Int), (([] : List Int), ())))))), (.t .bool false)], [])) (br (arrOk tyRow 23 rowsF p0) (some (.tu [(.t tyRow (Qbd tyRow 23 rowsF p0)), (.t .bool true)], [])) none))
theorem e_f135 (p0 : Int) : runF QxW Qui QCC false [.t tI p0] [] = QDA p0 := by kernel_rfl
theorem QGf : Qag Tryz.prog 135 := .inr ⟨by decide, _, Tryz.func135, by kernel_rfl, by kernel_rfl⟩
theorem QQS : GOk Tryz.prog QxW := Qao _ (gA (gC QRp QOD (gC QnQ Qna gN)))
theorem QPD : Qui.lok QxW := by repeat (first | exact trivial | refine ⟨?_, ?_⟩)
theorem s_f135 (a : Int) : QDA a = some (.tu [.t tyRow (ofF a).1, .t .bool (ofF a).2], []) := by
 simp only [QDA]
 refine QaP (fun h1 => ?_) (fun h1 => QaP (fun h2 => ?_) (fun h2 => ?_))
 ·have h1 : a < 1 := by simpa [ilt] using h1
  simp [ofF, h1, noRow]
 ·have h2 : 22 < a := by simpa [igt] using h2
  simp [ofF, h2, noRow]
 ·have h1 : ¬ a < 1 := by simpa [ilt] using h1
  have h2 : ¬ 22 < a := by simpa [igt] using h2
  have h3 : arrOk tyRow 23 rowsF a = true := by simp [arrOk]; omega
  rw [h3, Qac]
  simp [ofF, h1, h2]
def QuL : Ent := spec (.pr tI .nil) (fun x => true) (fun x => (.tu [(.t tyRow ((ofF x.1).1)), (.t .bool ((ofF x.1).2))]))
theorem QEo : Meets Tryz.prog 135 (strip QuL) := Qaf (R := runF QxW Qui QCC false) (mG Tryz.func135 (by kernel_rfl) Tryz.ntmps135 (by kernel_rfl) QQS QPD) fun x _ => (e_f135 x.1).trans (s_f135 x.1)
def modL : List (Int × Int) := [(1024, 56), (2048, 80), (3072, 112), (7680, 128), (15360, 192)]
def modA : (Keep × (Keep × (Keep × (Keep × (Keep × Unit))))) := ((1024, (56, ())), ((2048, (80, ())), ((3072, (112, ())), ((7680, (128, ())), ((15360, (192, ())), ())))))
def modZ (b i : Int) : Option Int := ((modL.drop i.toNat).find? fun x => ilt b x.1).map (·.2)
def modF (b : Int) : Int := (modZ b 0).getD 256
def QfK : Fg := ⟨[(0, some tI), (10, some (.pr Qan (.pr Qan (.pr Qan (.pr Qan (.pr Qan .nil)))))), (11, some tI)], []⟩
noncomputable def Qhk : TC := (.sq (.reg (rT Tryz.f147 2)) (.sq (.cd (.t 12) .sk (.fg ⟨[], []⟩ (.ex 0))) (.sq (.bk 1 (.sq (.reg (rT Tryz.f147 3)) (.sq (.reg (rT Tryz.f147 4)) (.cd (.t 17) (.sq (.reg (rT Tryz.f147 5)) (.fg ⟨[(2, some tI)], []⟩ .rt)) .sk)))) (.reg (rT Tryz.f147 6)))))
noncomputable def Qud : TC := (.sq (.reg (rT Tryz.f147 0)) (.sq (.sq (.reg (rT Tryz.f147 1)) (.bk 0 (.lp 0 QfK Qhk))) (.sq (.reg (rT Tryz.f147 7)) .rt)))
def QCx : List (RV × Option Ty) := [((.t 2), some tI)]
abbrev QmE : Sh := ⟨[(0, .ty tI), (10, .ty (.pr Qan (.pr Qan (.pr Qan (.pr Qan (.pr Qan .nil)))))), (11, .ty tI)], []⟩
def Ql9 (x0 : Int) (x10 : (Keep × (Keep × (Keep × (Keep × (Keep × Unit)))))) (x11 : Int) : VS := QmE.st (x0, x10, x11, ()) ()
abbrev QpD : Sh := ⟨[(2, .ty tI)], []⟩
def QcA (x2 : Int) : VS := QpD.st (x2, ()) ()
abbrev QrT : Sh := ⟨[], []⟩
def Qdp  : VS := QrT.st () ()
def QK5 : VS → Option (Bool × List (Bool × Exit × VS)) := mkL QmE (fun x y => (x.2.1 == modA && decide (0 ≤ x.2.2.1 ∧ x.2.2.1 ≤ 5))) (fun x y => [(((modZ x.1 x.2.2.1).isSome), .ret, QcA ((modZ x.1 x.2.2.1).getD 0)), (true, .exit 0, Qdp)])
def QjY : G := ⟨TYs, [], 21, EL [(1002994, Qfe)], keeps, (Ls [QK5]), IL [], RL []⟩
def QyJ (x0 : Int) (x10 : (Keep × (Keep × (Keep × (Keep × (Keep × Unit)))))) (x11 : Int) : Option (Exit × VS) :=
 let a1 := Qbd Qan 5 x10 x11
 br (ilt x11 5) (br (arrOk Qan 5 x10 x11) (br (ilt x0 (a1.1)) (some (.ret, QcA ((a1.2).1))) (some (.normal, Ql9 x0 x10 (iadd .i64 x11 1)))) none) (some (.exit 0, Qdp))
noncomputable def QhU (x0 : Int) (x10 : (Keep × (Keep × (Keep × (Keep × (Keep × Unit)))))) (x11 : Int) : Option (Exit × VS) := loopF (Qaj QjY QfK Qhk) (Ql9 x0 x10 x11)
noncomputable def Qqv (x0 : Int) (x10 : (Keep × (Keep × (Keep × (Keep × (Keep × Unit)))))) (x11 : Int) : Option (Exit × VS) :=
 let a1 := Qbd Qan 5 x10 x11
 br (ilt x11 5) (br (arrOk Qan 5 x10 x11) (br (ilt x0 (a1.1)) (some (.ret, QcA ((a1.2).1))) (QhU x0 x10 (iadd .i64 x11 1))) none) (some (.exit 0, Qdp))
def QcS (x0 : Int) (x10 : (Keep × (Keep × (Keep × (Keep × (Keep × Unit)))))) (x11 : Int) : Option (Exit × VS) := br ((modZ x0 x11).isSome) (some (.ret, QcA ((modZ x0 x11).getD 0))) <| some (.exit 0, Qdp)
theorem QG0 (x0 : Int) (x10 : (Keep × (Keep × (Keep × (Keep × (Keep × Unit)))))) (x11 : Int) : Qaj QjY QfK Qhk (Ql9 x0 x10 x11) = QyJ x0 x10 x11 := by kernel_rfl
theorem QsW (x0 : Int) (x10 : (Keep × (Keep × (Keep × (Keep × (Keep × Unit)))))) (x11 : Int) : QhU x0 x10 x11 = Qqv x0 x10 x11 := (Qaq _ _).trans (by
 rw [QG0]
 simp only [QyJ, Qqv, QaE, nxt_n, nxt_r, nxt_e, nxt_0]
 rfl)
def QDv (p0 : Int) : Option (V × List VO) := br (((1024, (56, ())), ((2048, (80, ())), ((3072, (112, ())), ((7680, (128, ())), ((15360, (192, ())), ()))))) == modA && decide (0 ≤ (0 : Int) ∧ (0 : Int) ≤ 5)) (br ((modZ p0 (0 : Int)).isSome) (some (.t tI ((modZ p0 (0 : Int)).getD 0), [])) (some (.t tI 256, []))) none
theorem e_f147 (p0 : Int) : runF QjY Qud QCx false [.t tI p0] [] = QDv p0 := by kernel_rfl
theorem QRq : Qag Tryz.prog 147 := .inr ⟨by decide, _, Tryz.func147, by kernel_rfl, by kernel_rfl⟩
theorem QQN : GOk Tryz.prog QjY := Qao _ (gA (gC QnP Qm9 gN))
theorem QJc (x0 : Int) (x10 : (Keep × (Keep × (Keep × (Keep × (Keep × Unit)))))) (x11 : Int) (h : (x10 == modA && decide (0 ≤ x11 ∧ x11 ≤ 5)) = true) : QhU x0 x10 x11 = QcS x0 x10 x11 := by
 simp only [Bool.and_eq_true, decide_eq_true_eq, beq_iff_eq] at h
 obtain ⟨rfl, h1, h2⟩ := h
 obtain ⟨k, rfl⟩ := Int.eq_ofNat_of_zero_le h1
 refine QLf 5 (fun k => QhU x0 modA (k : Int) = QcS x0 modA (k : Int)) ?_ ?_ k (by omega)
 ·rw [QsW]
  rfl
 ·intro k hk ih
  rw [QsW]
  simp only [Qqv, add1 (show k < 4611686018427387904 by omega), ih]
  have e1 : ilt (k : Int) 5 = true := by simp only [ilt, decide_eq_true_eq]; omega
  have e2 : arrOk Qan 5 modA (k : Int) = true := by simp only [arrOk, decide_eq_true_eq]; omega
  simp only [e1, e2, Qac]
  have hk5 : k = 0 ∨ k = 1 ∨ k = 2 ∨ k = 3 ∨ k = 4 := by omega
  rcases hk5 with rfl | rfl | rfl | rfl | rfl
  ·show br (ilt x0 1024) _ _ = _
   cases h : ilt x0 1024 <;> simp [QcS, modZ, modL, h, Qac, Qae] <;> rfl
  ·show br (ilt x0 2048) _ _ = _
   cases h : ilt x0 2048 <;> simp [QcS, modZ, modL, h, Qac, Qae] <;> rfl
  ·show br (ilt x0 3072) _ _ = _
   cases h : ilt x0 3072 <;> simp [QcS, modZ, modL, h, Qac, Qae] <;> rfl
  ·show br (ilt x0 7680) _ _ = _
   cases h : ilt x0 7680 <;> simp [QcS, modZ, modL, h, Qac, Qae] <;> rfl
  ·show br (ilt x0 15360) _ _ = _
   cases h : ilt x0 15360 <;> simp [QcS, modZ, modL, h, Qac, Qae] <;> rfl
theorem QEM : ∀ S l p, QjY.L 0 (fgt QfK S) = some (true, l) → pickA l = some p → loopF (Qaj QjY QfK Qhk) S = some p :=
 QaF (s := QmE) ⟨by decide, by decide⟩ (by kernel_rfl) fun x y hok p hp => by
 simp only [Qar, Qap] at hp
 exact (QJc x.1 x.2.1 x.2.2.1 (by simpa using hok)).trans hp
theorem QPy : Qud.lok QjY := by
 repeat (first | exact trivial | exact QEM | refine ⟨?_, ?_⟩)
theorem s_f147 (b : Int) : QDv b = some (.t tI (modF b), []) := by
 simp only [QDv]
 show br true (br (modZ b 0).isSome (some (V.t tI ((modZ b 0).getD 0), [])) _) _ = _
 rw [Qac, modF]
 cases modZ b 0 <;> rfl
def QBD : Ent := spec (.pr tI .nil) (fun x => true) (fun x => (.t tI (modF x.1)))
theorem QOE : Meets Tryz.prog 147 (strip QBD) := Qaf (R := runF QjY Qud QCx false) (mG Tryz.func147 (by kernel_rfl) Tryz.ntmps147 (by kernel_rfl) QQN QPy) fun x _ => (e_f147 x.1).trans (s_f147 x.1)
def idxN (v : Int) : List Int → Option Nat
 | [] => none
 | a :: l => if a == v then some 0 else (idxN v l).map (· + 1)
theorem QFq {v : Int} : ∀ {l : List Int} {k : Nat}, idxN v l = some k → k < l.length
 | [], _, h => by cases h
 | a :: l, k, h => by
  unfold idxN at h
  split at h
  ·injection h with h; subst h; simp
  ·obtain ⟨j, h1, h2⟩ := Option.map_eq_some_iff.1 h
   have := QFq h1
   simp only [List.length_cons]; omega
theorem QnB {v : Int} : ∀ {l : List Int}, idxN v l = none ↔ v ∉ l
 | [] => by simp [idxN]
 | a :: l => by
  have ih := QnB (v := v) (l := l)
  unfold idxN
  by_cases h : a = v
  ·simp [h]
  ·have h' : ¬ v = a := fun e => h e.symm
   simp [h, h', ih]
def idxF (l : List Int) (v : Int) : Int := match idxN v l with | some k => (k : Int) | none => -1
def QaW (l : List Int) (_v : Int) : Bool := decide (l.length ≤ 100000)
def Qiu : Fg := ⟨[(0, some (.sl tI)), (1, some tI), (7, some tI), (8, some tI)], []⟩
noncomputable def Qkd : TC := (.sq (.reg (rT Tryz.f89 2)) (.sq (.cd (.t 9) .sk (.fg ⟨[], []⟩ (.ex 0))) (.sq (.bk 1 (.sq (.reg (rT Tryz.f89 3)) (.sq (.reg (rT Tryz.f89 4)) (.cd (.t 16) (.sq (.reg (rT Tryz.f89 5)) (.fg ⟨[(4, some tI)], []⟩ .rt)) .sk)))) (.reg (rT Tryz.f89 6)))))
noncomputable def Qz7 : TC := (.sq (.reg (rT Tryz.f89 0)) (.sq (.sq (.reg (rT Tryz.f89 1)) (.bk 0 (.lp 0 Qiu Qkd))) (.sq (.reg (rT Tryz.f89 7)) .rt)))
def QL9 : List (RV × Option Ty) := [((.t 4), some tI)]
abbrev Qpj : Sh := ⟨[(0, .ty (.sl tI)), (1, .ty tI), (7, .ty tI), (8, .ty tI)], []⟩
def QoW (x0 : List Int) (x1 x7 x8 : Int) : VS := Qpj.st (x0, x1, x7, x8, ()) ()
abbrev Qrw : Sh := ⟨[(4, .ty tI)], []⟩
def Qc6 (x4 : Int) : VS := Qrw.st (x4, ()) ()
abbrev QuV : Sh := ⟨[], []⟩
def Qee  : VS := QuV.st () ()
def QR7 : VS → Option (Bool × List (Bool × Exit × VS)) := mkL Qpj (fun x y => (rngOk x.1 x.2.2.1 x.2.2.2.1)) (fun x y => [(((idxN x.2.1 (x.1.drop x.2.2.2.1.toNat)).isSome), .ret, Qc6 (x.2.2.2.1 + ((idxN x.2.1 (x.1.drop x.2.2.2.1.toNat)).getD 0 : Nat))), (true, .exit 0, Qee)])
def g_f89 : G := ⟨TYs, [], 19, EL [], keeps, (Ls [QR7]), IL [], RL []⟩
def QHb (x0 : List Int) (x1 x7 x8 : Int) : Option (Exit × VS) := br (ilt x8 x7) (br (cIx x0 x8) (br (ieq x1 (lgt tI x0 (Int.toNat x8))) (some (.ret, Qc6 x8)) (some (.normal, QoW x0 x1 x7 (iadd .i64 x8 1)))) none) (some (.exit 0, Qee))
noncomputable def QkY (x0 : List Int) (x1 x7 x8 : Int) : Option (Exit × VS) := loopF (Qaj g_f89 Qiu Qkd) (QoW x0 x1 x7 x8)
noncomputable def Qqe (x0 : List Int) (x1 x7 x8 : Int) : Option (Exit × VS) := br (ilt x8 x7) (br (cIx x0 x8) (br (ieq x1 (lgt tI x0 (Int.toNat x8))) (some (.ret, Qc6 x8)) (QkY x0 x1 x7 (iadd .i64 x8 1))) none) (some (.exit 0, Qee))
def Qld (x0 : List Int) (x1 x7 x8 : Int) : Option (Exit × VS) :=
 let a1 := idxN x1 (x0.drop x8.toNat)
 br (a1.isSome) (some (.ret, Qc6 (x8 + (a1.getD 0 : Nat)))) <| some (.exit 0, Qee)
theorem QKu (x0 : List Int) (x1 x7 x8 : Int) : Qaj g_f89 Qiu Qkd (QoW x0 x1 x7 x8) = QHb x0 x1 x7 x8 := by kernel_rfl
theorem Qxb (x0 : List Int) (x1 x7 x8 : Int) : QkY x0 x1 x7 x8 = Qqe x0 x1 x7 x8 := (Qaq _ _).trans (by
 rw [QKu]
 simp only [QHb, Qqe, QaE, nxt_n, nxt_r, nxt_e, nxt_0]
 rfl)
def r_f89 (p0 : List Int) (p1 : Int) : Option (V × List VO) :=
 let a1 := (idxN p1 (p0.drop (0 : Int).toNat))
 br (rngOk p0 (llen p0) (0 : Int)) (br (a1.isSome) (some (.t tI ((0 : Int) + (a1.getD 0 : Nat)), [])) (some (.t tI (-1), []))) none
theorem e_f89 (p0 : List Int) (p1 : Int) : runF g_f89 Qz7 QL9 false [.t (.sl tI) p0, .t tI p1] [] = r_f89 p0 p1 := by kernel_rfl
theorem QNz : Qag Tryz.prog 89 := .inr ⟨by decide, _, Tryz.func89, by kernel_rfl, by kernel_rfl⟩
theorem gk_f89 : GOk Tryz.prog g_f89 := Qao _ (fun p hp => by cases hp)
theorem QPZ (x0 : List Int) (x1 x7 x8 : Int) (h : (rngOk x0 x7 x8) = true) : QkY x0 x1 x7 x8 = Qld x0 x1 x7 x8 := by
 obtain ⟨rfl, h3, k, rfl, hk⟩ := rng_k h
 clear h
 refine Qav x0 (fun k => QkY x0 x1 (x0.length : Int) (k : Int) = Qld x0 x1 (x0.length : Int) (k : Int)) ?_ ?_ k hk
 ·rw [Qxb]
  simp [Qqe, Qld, Qaz, Qae, idxN]
 ·intro k hk ih
  rw [Qxb]
  simp only [Qqe, Qaz, Qay, hk, decide_true, Qac, Int.toNat_natCast, add1 (show k < 4611686018427387904 by omega), ih, QaG (y := tI) hk]
  simp only [Qld, Int.toNat_natCast, List.drop_eq_getElem_cons hk, idxN, ieq]
  have hc : (x1 == x0[k]) = (x0[k] == x1) := Bool.beq_comm
  cases h : x0[k] == x1 with
  | true => simp [h, hc, Qac]
  | false =>
   simp only [h, hc, Qae, Bool.false_eq_true, if_false]
   cases hq : idxN x1 (x0.drop (k + 1)) with
   | none => rfl
   | some j =>
    simp only [Option.map_some, Option.isSome_some, Option.getD_some, Qac]
    congr 3
    omega
theorem QIB : ∀ S l p, g_f89.L 0 (fgt Qiu S) = some (true, l) → pickA l = some p → loopF (Qaj g_f89 Qiu Qkd) S = some p :=
 QaF (s := Qpj) ⟨by decide, by decide⟩ (by kernel_rfl) fun x y hok p hp => by
 simp only [Qar, Qap] at hp
 exact (QPZ x.1 x.2.1 x.2.2.1 x.2.2.2.1 (by simpa using hok)).trans hp
theorem lk_f89 : Qz7.lok g_f89 := by
 repeat (first | exact trivial | exact QIB | refine ⟨?_, ?_⟩)
theorem s_f89 (l : List Int) (v : Int) (h : QaW l v = true) : r_f89 l v = some (.t tI (idxF l v), []) := by
 simp only [QaW, decide_eq_true_eq] at h
 simp only [r_f89, rng_0 h, Qac, Int.toNat_zero, List.drop_zero, idxF]
 cases idxN v l <;> simp [Qac, Qae]
def QA9 : Ent := spec (.pr (.sl tI) (.pr tI .nil)) (fun x => (QaW x.1 x.2.1)) (fun x => (.t tI (idxF x.1 x.2.1)))
theorem QNg : Meets Tryz.prog 89 (strip QA9) := Qaf (R := runF g_f89 Qz7 QL9 false) (mG Tryz.func89 (by kernel_rfl) Tryz.ntmps89 (by kernel_rfl) gk_f89 lk_f89) fun x hok => (e_f89 x.1 x.2.1).trans (s_f89 x.1 x.2.1 hok)
def hasF (l : List Int) (v : Int) : Bool := l.contains v
noncomputable def QAr : TC := (.sq (.reg (rT Tryz.f59 0)) (.sq (.reg (rT Tryz.f59 1)) .rt))
def QMt : List (RV × Option Ty) := [((.t 4), some .bool)]
def g_f59 : G := ⟨TYs, [], 9, EL [(89, QA9)], keeps, (fun _ _ => none), IL [], RL []⟩
def r_f59 (p0 : List Int) (p1 : Int) : Option (V × List VO) := br (QaW p0 p1) (some (.t .bool (ige (idxF p0 p1) 0), [])) none
theorem e_f59 (p0 : List Int) (p1 : Int) : runF g_f59 QAr QMt false [.t (.sl tI) p0, .t tI p1] [] = r_f59 p0 p1 := by kernel_rfl
theorem Qtq : Qag Tryz.prog 59 := .inr ⟨by decide, _, Tryz.func59, by kernel_rfl, by kernel_rfl⟩
theorem gk_f59 : GOk Tryz.prog g_f59 := Qao _ (gA (gC QNz QNg gN))
theorem lk_f59 : QAr.lok g_f59 := by repeat (first | exact trivial | refine ⟨?_, ?_⟩)
theorem s_f59 (l : List Int) (v : Int) (h : QaW l v = true) : r_f59 l v = some (.t .bool (hasF l v), []) := by
 simp only [r_f59, h, Qac]
 congr 3
 unfold idxF hasF
 cases hq : idxN v l with
 | none =>
  have := QnB.1 hq
  simp [ige, this]
 | some k =>
  have : v ∈ l := Classical.byContradiction fun hn => by rw [QnB.2 hn] at hq; cases hq
  simp only [ige, List.contains_iff_mem.2 this, decide_eq_true_eq]
  omega
def Qop : Ent := spec (.pr (.sl tI) (.pr tI .nil)) (fun x => (QaW x.1 x.2.1)) (fun x => (.t .bool (hasF x.1 x.2.1)))
theorem QsF : Meets Tryz.prog 59 (strip Qop) := Qaf (R := runF g_f59 QAr QMt false) (mG Tryz.func59 (by kernel_rfl) Tryz.ntmps59 (by kernel_rfl) gk_f59 lk_f59) fun x hok => (e_f59 x.1 x.2.1).trans (s_f59 x.1 x.2.1 hok)
end Go.Proofs.YtkngeegkjhipeaaGreat.K
