import Derived.Test.YtkngeegkjhipeaaGreatV6
set_option linter.unusedSimpArgs false
set_option linter.unusedVariables false
namespace Go.Proofs.YtkngeegkjhipeaaGreat.K
open Go.RowKit
theorem QaZ {d : Dice} {l : List Int} (h : dOk d = true) : dOk (dofN d l) = true := Qat h
theorem Qbx {d : Dice} {l : List Int} (h : l ≠ []) : dof d l ∈ l := by
 have hl : 0 < (l.length : Int) := by
  cases l with
  | nil => exact absurd rfl h
  | cons a l => rw [List.length_cons]; omega
 have h2 := QbF (d := d) hl
 have h3 : (dval d l.length).toNat < l.length := by omega
 unfold dof
 rw [List.getD_eq_getElem?_getD, List.getElem?_eq_getElem h3]
 exact List.getElem_mem h3
def szL (a : Int) : List Int :=
 if a = 5 ∨ a = 6 ∨ a = 10 ∨ a = 11 then [2048, 1024, 512, 3072, 1023, 4096, 16384]
 else if a = 7 ∨ a = 12 then [256, 160, 224, 384, 521]
 else if a = 9 then [65, 44, 87]
 else if a = 13 then [768, 512, 1024]
 else if a = 14 then [128, 40]
 else if a = 15 then [168, 112]
 else if a = 16 ∨ a = 17 then [128, 256]
 else []
def sizeV (d : Dice) (a : Int) : Int := if szL a = [] then 0 else dof d (szL a)
def sizeN (d : Dice) (a : Int) : Dice := if szL a = [] then d else dofN d (szL a)
def dOk1 (d : Dice) (_a : Int) : Bool := dOk d
noncomputable def QzS : TC := (.sq (.reg (rT Tryz.f55 0)) (.sq (.sq (.reg (rT Tryz.f55 1)) (.bk 0 (.sq (.sq (.reg (rT Tryz.f55 2)) (.cd (.t 6) .sk (.sq (.reg (rT Tryz.f55 3)) (.cd (.t 6) .sk (.sq (.reg (rT Tryz.f55 4)) (.cd (.t 6) .sk (.reg (rT Tryz.f55 5)))))))) (.cd (.t 6) (.sq (.reg (rT Tryz.f55 6)) .rt) (.sq (.sq (.reg (rT Tryz.f55 7)) (.cd (.t 14) .sk (.reg (rT Tryz.f55 8)))) (.cd (.t 14) (.sq (.reg (rT Tryz.f55 9)) .rt) (.sq (.reg (rT Tryz.f55 10)) (.cd (.t 20) (.sq (.reg (rT Tryz.f55 11)) .rt) (.sq (.reg (rT Tryz.f55 12)) (.cd (.t 25) (.sq (.reg (rT Tryz.f55 13)) .rt) (.sq (.reg (rT Tryz.f55 14)) (.cd (.t 30) (.sq (.reg (rT Tryz.f55 15)) .rt) (.sq (.reg (rT Tryz.f55 16)) (.cd (.t 35) (.sq (.reg (rT Tryz.f55 17)) .rt) (.sq (.sq (.reg (rT Tryz.f55 18)) (.cd (.t 40) .sk (.reg (rT Tryz.f55 19)))) (.cd (.t 40) (.sq (.reg (rT Tryz.f55 20)) .rt) .sk)))))))))))))))) (.sq (.reg (rT Tryz.f55 21)) .rt)))
def QLR : List (RV × Option Ty) := [((.t 4), some tI)]
def g_f55 : G := ⟨TYs, [], 46, EL [(11, Qob)], keeps, (fun _ _ => none), IL [], RL []⟩
def QmQ (d0 : Dice) (p1 : Int) : Option (V × List VO) := br (ofOk d0 ([2048, 1024, 512, 3072, 1023, 4096, 16384])) (some (.t tI (dof d0 ([2048, 1024, 512, 3072, 1023, 4096, 16384])), [.box (.t Qau (dofN d0 ([2048, 1024, 512, 3072, 1023, 4096, 16384])))])) none
def Qu7 (d0 : Dice) (p1 : Int) : Option (V × List VO) := br (ofOk d0 ([256, 160, 224, 384, 521])) (some (.t tI (dof d0 ([256, 160, 224, 384, 521])), [.box (.t Qau (dofN d0 ([256, 160, 224, 384, 521])))])) none
def Qu5 (d0 : Dice) (p1 : Int) : Option (V × List VO) := br (ofOk d0 ([128, 256])) (some (.t tI (dof d0 ([128, 256])), [.box (.t Qau (dofN d0 ([128, 256])))])) none
def Qu6 (d0 : Dice) (p1 : Int) : Option (V × List VO) := br (ieq p1 9) (br (ofOk d0 ([65, 44, 87])) (some (.t tI (dof d0 ([65, 44, 87])), [.box (.t Qau (dofN d0 ([65, 44, 87])))])) none) (br (ieq p1 13) (br (ofOk d0 ([768, 512, 1024])) (some (.t tI (dof d0 ([768, 512, 1024])), [.box (.t Qau (dofN d0 ([768, 512, 1024])))])) none) (br (ieq p1 14) (br (ofOk d0 ([128, 40])) (some (.t tI (dof d0 ([128, 40])), [.box (.t Qau (dofN d0 ([128, 40])))])) none) (br (ieq p1 15) (br (ofOk d0 ([168, 112])) (some (.t tI (dof d0 ([168, 112])), [.box (.t Qau (dofN d0 ([168, 112])))])) none) (br (ieq p1 16) (br (ieq p1 16) (Qu5 d0 p1) (some (.t tI 0, [.box (.t Qau d0)]))) (br (ieq p1 17) (Qu5 d0 p1) (some (.t tI 0, [.box (.t Qau d0)])))))))
def QmP (d0 : Dice) (p1 : Int) : Option (V × List VO) := br (ieq p1 7) (br (ieq p1 7) (Qu7 d0 p1) (Qu6 d0 p1)) (br (ieq p1 12) (Qu7 d0 p1) (Qu6 d0 p1))
def r_f55 (d0 : Dice) (p1 : Int) : Option (V × List VO) := br (ieq p1 5) (br (ieq p1 5) (QmQ d0 p1) (QmP d0 p1)) (br (ieq p1 6) (br (ieq p1 6) (QmQ d0 p1) (QmP d0 p1)) (br (ieq p1 10) (br (ieq p1 10) (QmQ d0 p1) (QmP d0 p1)) (br (ieq p1 11) (QmQ d0 p1) (QmP d0 p1))))
theorem e_f55 (d0 : Dice) (p1 : Int) : runF g_f55 QzS QLR false [.ptr 50000 0, .t tI p1] [.box (.t Qau d0)] = r_f55 d0 p1 := by kernel_rfl
theorem QMT : Qag Tryz.prog 55 := .inr ⟨by decide, _, Tryz.func55, by kernel_rfl, by kernel_rfl⟩
theorem gk_f55 : GOk Tryz.prog g_f55 := Qan _ (gA (gC Qs4 Qsi gN))
theorem lk_f55 : QzS.lok g_f55 := by repeat (first | exact trivial | refine ⟨?_, ?_⟩)
theorem s_f55 (d : Dice) (a : Int) (h : dOk1 d a = true) : r_f55 d a = some (.t tI (sizeV d a), [.box (.t Qau (sizeN d a))]) := by
 have h : dOk d = true := h
 have ho : ∀ l : List Int, l ≠ [] → l.length ≤ 100 → ofOk d l = true := fun l h1 h2 => by
  have : 0 < l.length := List.length_pos_iff.2 h1
  simp only [ofOk, h, Bool.true_and, decide_eq_true_eq]
  omega
 simp only [r_f55, QmQ, QmP, Qu7, Qu6, Qu5, ho _ (show ([2048, 1024, 512, 3072, 1023, 4096, 16384] : List Int) ≠ [] by decide) (by decide), ho _ (show ([256, 160, 224, 384, 521] : List Int) ≠ [] by decide) (by decide), ho _ (show ([65, 44, 87] : List Int) ≠ [] by decide) (by decide), ho _ (show ([768, 512, 1024] : List Int) ≠ [] by decide) (by decide), ho _ (show ([128, 40] : List Int) ≠ [] by decide) (by decide), ho _ (show ([168, 112] : List Int) ≠ [] by decide) (by decide), ho _ (show ([128, 256] : List Int) ≠ [] by decide) (by decide), Qac]
 rcases QnP a with ⟨e, hb⟩ | hc
 ·have e1 : szL a = [] := by
   unfold szL
   repeat rw [if_neg (by omega)]
  simp only [e 5 (by decide), e 6 (by decide), e 7 (by decide), e 9 (by decide), e 10 (by decide), e 11 (by decide), e 12 (by decide), e 13 (by decide), e 14 (by decide), e 15 (by decide), e 16 (by decide), e 17 (by decide), Qae, sizeV, sizeN, e1, if_true]
 ·rcases hc with rfl | rfl | rfl | rfl | rfl | rfl | rfl | rfl | rfl | rfl | rfl | rfl | rfl | rfl | rfl | rfl | rfl | rfl | rfl | rfl | rfl | rfl <;> rfl
def QAz : Ent := specP Qau (.pr tI .nil) (fun d x => (dOk1 d x.1)) (fun d x => (.t tI (sizeV d x.1))) (fun d x => (sizeN d x.1))
theorem QMC : Meets Tryz.prog 55 (strip QAz) := QbD (R := runF g_f55 QzS QLR false) (mG Tryz.func55 (by kernel_rfl) Tryz.ntmps55 (by kernel_rfl) gk_f55 lk_f55) rfl fun d x hok => (e_f55 d x.1).trans (s_f55 d x.1 hok)
theorem QqA {d : Dice} {a : Int} (h : dOk d = true) : dOk (sizeN d a) = true := by
 unfold sizeN
 split
 ·exact h
 ·exact QaZ h
theorem Qyw {d : Dice} {a : Int} (h1 : 1 ≤ a) (h2 : a ≤ 22) : Qcv (a, (sizeV d a, ())) = true := by
 have hm : sizeV d a ∈ (if szL a = [] then [0] else szL a) := by
  unfold sizeV
  split
  ·simp
  ·rename_i h
   exact Qbx h
 have ha : ∀ l : List Int, (∀ x, x ∈ l → Qcv (a, (x, ())) = true) → sizeV d a ∈ l → Qcv (a, (sizeV d a, ())) = true := fun l h hm => h _ hm
 have hc : a = 1 ∨ a = 2 ∨ a = 3 ∨ a = 4 ∨ a = 5 ∨ a = 6 ∨ a = 7 ∨ a = 8 ∨ a = 9 ∨ a = 10 ∨ a = 11 ∨ a = 12 ∨ a = 13 ∨ a = 14 ∨ a = 15 ∨ a = 16 ∨ a = 17 ∨ a = 18 ∨ a = 19 ∨ a = 20 ∨ a = 21 ∨ a = 22 := by omega
 rcases hc with rfl | rfl | rfl | rfl | rfl | rfl | rfl | rfl | rfl | rfl | rfl | rfl | rfl | rfl | rfl | rfl | rfl | rfl | rfl | rfl | rfl | rfl <;> exact ha _ (by decide) hm
end Go.Proofs.YtkngeegkjhipeaaGreat.K
