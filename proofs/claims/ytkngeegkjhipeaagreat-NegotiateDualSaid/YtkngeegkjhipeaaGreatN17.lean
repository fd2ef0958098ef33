import Derived.Test.YtkngeegkjhipeaaGreatM2S
import Derived.Test.YtkngeegkjhipeaaGreatN16
set_option linter.unusedSimpArgs false
set_option linter.unusedVariables false
namespace Go.Proofs.YtkngeegkjhipeaaGreat.K
open Go.RowKit
noncomputable section
theorem QdP {d : Dice} {l : List Int} (h : dOk d = true) (h1 : l ≠ []) (h2 : l.length ≤ 100) : ofOk d l = true := by
 have : 0 < l.length := List.length_pos_iff.2 h1
 simp only [ofOk, h, Bool.true_and, decide_eq_true_eq]
 omega
theorem Qa1 {d : Dice} {n : Int} (h : dOk d = true) (hn : n ≤ 1000000) : QaN d n = true := by
 simp only [QaN, h, Bool.true_and, decide_eq_true_eq]
 omega
theorem Qdz {d : Dice} {n : Int} (h : dOk d = true) (h0 : 0 ≤ n) (hn : n ≤ 1000000) : oneOk d n = true := by
 simp only [oneOk, Qa1 h hn, Bool.true_and, decide_eq_true_eq]
 omega
abbrev kAlg (d : Dice) : Int := dof d [5, 7, 5, 6, 8, 9]
def keyV (d : Dice) : Keep := (kAlg d, (sizeV (dofN d [5, 7, 5, 6, 8, 9]) (kAlg d), ()))
def keyN (d : Dice) : Dice := sizeN (dofN d [5, 7, 5, 6, 8, 9]) (kAlg d)
theorem QvR {d : Dice} (h : dOk d = true) : dOk (keyN d) = true := QqA (QaZ h)
noncomputable def QzT : TC := (.sq (.reg (rT Tryz.f54 0)) (.sq (.reg (rT Tryz.f54 1)) (.sq (.reg (rT Tryz.f54 2)) .rt)))
def QLS : List (RV × Option Ty) := [((.c 2 true 2), some Qam)]
def g_f54 : G := ⟨TYs, [], 12, EL [(11, Qob), (55, QAz)], keeps, (fun _ _ => none), IL [], RL []⟩
def r_f54 (d0 : Dice) : Option (V × List VO) :=
 let a1 := (dof d0 ([5, 7, 5, 6, 8, 9]))
 let a2 := (dofN d0 ([5, 7, 5, 6, 8, 9]))
 br (ofOk d0 ([5, 7, 5, 6, 8, 9])) (br (dOk1 a2 a1) (some (.t Qam (a1, ((sizeV a2 a1), ())), [.box (.t Qau (sizeN a2 a1))])) none) none
theorem e_f54 (d0 : Dice) : runF g_f54 QzT QLS false [.ptr 50000 0] [.box (.t Qau d0)] = r_f54 d0 := by kernel_rfl
theorem en_f54 : Qag Tryz.prog 54 := .inr ⟨by decide, _, Tryz.func54, by kernel_rfl, by kernel_rfl⟩
theorem gk_f54 : GOk Tryz.prog g_f54 := Qan _ (gA (gC Qs4 Qsi (gC QMT QMC gN)))
theorem lk_f54 : QzT.lok g_f54 := by repeat (first | exact trivial | refine ⟨?_, ?_⟩)
theorem s_f54 (d : Dice) (h : dOk d = true) : r_f54 d = some (.t Qam (keyV d), [.box (.t Qau (keyN d))]) := by
 have h1 : ofOk d [5, 7, 5, 6, 8, 9] = true := QdP h (by decide) (by decide)
 have h2 : dOk1 (dofN d [5, 7, 5, 6, 8, 9]) (dof d [5, 7, 5, 6, 8, 9]) = true := QaZ (l := [5, 7, 5, 6, 8, 9]) h
 simp only [r_f54, h1, h2, Qac]
 rfl
def QK0 : Ent := specP Qau .nil (fun d x => (dOk d)) (fun d x => (.t Qam (keyV d))) (fun d x => (keyN d))
theorem ms_f54 : Meets Tryz.prog 54 (strip QK0) := QbD (R := runF g_f54 QzT QLS false) (mG Tryz.func54 (by kernel_rfl) Tryz.ntmps54 (by kernel_rfl) gk_f54 lk_f54) rfl fun d x hok => (e_f54 d).trans (s_f54 d hok)
abbrev cD1 (d : Dice) : Dice := dnext d 1000
abbrev cD2 (d : Dice) : Dice := dofN (cD1 d) [3, 2, 4, 1]
abbrev cD3 (d : Dice) : Dice := dofN (cD2 d) [0, 5, 10]
abbrev cD4 (d : Dice) : Dice := dofN (cD3 d) [1000, 100, 50, 20]
def cD5 (d : Dice) (a : Bool) : Dice := bif a then dofN (cD4 d) [3, 0, 1] else cD4 d
def cPath (d : Dice) (a : Bool) : Int := bif a then dof (cD4 d) [3, 0, 1] else 0
def cNm (d : Dice) (a : Bool) (s : ByteArray) : List ByteArray := bif done (cD5 d a) 3 then [s, scat s (ByteArray.mk #[120])] else [s]
def cRaw (d : Dice) (i s : ByteArray) (k : Keep) (id : Int) (a : Bool) : Qaa :=
 (dval d 1000, (i, (s, (k, (id, ((dof (cD1 d) [3, 2, 4, 1], (0, ())), (dof (cD2 d) [0, 5, 10], (dof (cD3 d) [1000, 100, 50, 20], (a, (cPath d a, (cNm d a s, ((0, (0, ())), ()))))))))))))
def cerV (d : Dice) (i s : ByteArray) (k : Keep) (id g : Int) (a : Bool) : Qaa := (signC (cRaw d i s k id a) g).1
def cerN (d : Dice) (_i _s : ByteArray) (_k : Keep) (_id _g : Int) (a : Bool) : Dice := dnext (cD5 d a) 3
def cerOk (d : Dice) (i s : ByteArray) (_k : Keep) (_id _g : Int) (_a : Bool) : Bool := dOk d && decide (i.size ≤ 1000 ∧ s.size ≤ 1000)
theorem QMZ {d : Dice} (h : dOk d = true) : dOk (cD4 d) = true := QaZ (QaZ (QaZ (Qat h)))
theorem dOk_c5 {d : Dice} {a : Bool} (h : dOk d = true) : dOk (cD5 d a) = true := by
 cases a
 ·exact QMZ h
 ·exact QaZ (l := [3, 0, 1]) (QMZ h)
theorem QFN {d : Dice} {i s : ByteArray} {k : Keep} {id g : Int} {a : Bool} (h : dOk d = true) : dOk (cerN d i s k id g a) = true := Qat (dOk_c5 h)
theorem QrK (a b : ByteArray) : (scat a b).size = a.size + b.size := by simp [scat]
theorem Qg1 {i s : ByteArray} {k : Keep} {id : Int} {a : Bool} {q p : Int} {u v : Keep} {x y : Int} (hi : i.size ≤ 1000) (hs : s.size ≤ 1000) {l : List ByteArray} (hl : l.length ≤ 2) (hn : ∀ t ∈ l, t.size ≤ 1001) :
  QaB (q, (i, (s, (k, (id, (u, (x, (y, (a, (p, (l, (v, ())))))))))))) = true := by
 have hg : ∀ t : ByteArray, t.size ≤ 1001 → nameG t = true := fun t ht => decide_eq_true (by omega)
 simp only [QaB, Bool.and_eq_true]
 refine ⟨hg _ (by omega), hg _ (by omega), ?_⟩
 simp only [QbC, Bool.and_eq_true, List.all_eq_true]
 exact ⟨decide_eq_true (by show l.length ≤ _; omega), fun t ht => hg t (hn t ht)⟩
noncomputable def QJr : List DO := dT Tryz.f57 1
noncomputable def QzQ : TC := (.sq (.reg (rT Tryz.f57 0)) (.sq (.dr QJr [(0, [50000]), (1, [17, 5017, 10017, 15017, 50000]), (2, []), (3, []), (4, [10]), (5, []), (6, [50000]), (7, []), (8, [24, 5024, 10024, 15024, 50000]), (9, []), (10, [50000]), (11, []), (12, [28, 5028, 10028, 15028, 50000]), (13, [50000]), (14, []), (15, [31, 5031, 10031, 15031, 50000]), (16, []), (17, []), (18, [15, 5015, 10015, 15015]), (19, [14, 15, 40, 49])] (.one 0 (.one 2 (.one 3 (.one 4 (.one 5 (.one 6 (.one 7 (.one 10 (.one 11 (.one 13 (.one 14 (.one 16 (.alt 1 (.alt 8 (.one 9 (.alt 12 (.alt 15 (.of [17, 18, 19]) (.of [18, 15, 17, 19])) (.of [18, 12, 15, 17, 19]))) (.of [18, 8, 9, 12, 15, 17, 19])) (.of [18, 1, 8, 9, 12, 15, 17, 19]))))))))))))))) (.sq (.sq (.reg (rT Tryz.f57 2)) (.cd (.t 34) (.reg (rT Tryz.f57 3)) .sk)) (.sq (.reg (rT Tryz.f57 4)) (.sq (.sq (.reg (rT Tryz.f57 5)) (.cd (.t 43) (.reg (rT Tryz.f57 6)) .sk)) (.sq (.reg (rT Tryz.f57 7)) (.sq (.reg (rT Tryz.f57 8)) .rt)))))))
def QLP : List (RV × Option Ty) := [((.c 14 true 15), some Qab)]
def g_f57 : G := ⟨TYs, [40], 58, EL [(11, Qob), (32, Qjy), (33, Qq8), (87, QKI)], keeps, (fun _ _ => none), IL [], RL []⟩
def QpE (d0 : Dice) (p1 p2 : ByteArray) (p3 : Keep) (p4 p5 : Int) (p6 : Bool) : Option (V × List VO) :=
 let a1 := (dofN (dofN (dnext d0 1000) ([3, 2, 4, 1])) ([0, 5, 10]))
 let a2 := (dof (dofN (dnext d0 1000) ([3, 2, 4, 1])) ([0, 5, 10]))
 let a3 := (dofN a1 ([1000, 100, 50, 20]))
 let a4 := (dof (dnext d0 1000) ([3, 2, 4, 1]))
 let a5 := (dof a1 ([1000, 100, 50, 20]))
 let a6 := scat p2 (ByteArray.mk #[120])
 let a7 := dval d0 1000
 let a8 := (dofN a3 ([3, 0, 1]))
 let a9 := (dof a3 ([3, 0, 1]))
 let a10 := cCat p2 (ByteArray.mk #[120])
 let a11 := cApp ([p2]) ([a6]) 16
 br (ofOk a1 ([1000, 100, 50, 20])) (br (p6) (br (ofOk a3 ([3, 0, 1])) (br (oneOk a8 3) (br (done a8 3) (br a10 (br a11 (br (Qbu (a7, (p1, (p2, ((p3.1, (p3.2.1, ())), (p4, ((a4, (0, ())), (a2, (a5, (p6, (a9, ((([p2]) ++ ([a6])), ((0, (0, ())), ())))))))))))) p5) (some (.t Qab ((signC (a7, (p1, (p2, ((p3.1, (p3.2.1, ())), (p4, ((a4, (0, ())), (a2, (a5, (p6, (a9, ((([p2]) ++ ([a6])), ((0, (0, ())), ())))))))))))) p5).1), [.box (.t Qau (dnext a8 3))])) none) none) none) (br (Qbu (a7, (p1, (p2, ((p3.1, (p3.2.1, ())), (p4, ((a4, (0, ())), (a2, (a5, (p6, (a9, ([p2], ((0, (0, ())), ())))))))))))) p5) (some (.t Qab ((signC (a7, (p1, (p2, ((p3.1, (p3.2.1, ())), (p4, ((a4, (0, ())), (a2, (a5, (p6, (a9, ([p2], ((0, (0, ())), ())))))))))))) p5).1), [.box (.t Qau (dnext a8 3))])) none)) none) none) (br (oneOk a3 3) (br (done a3 3) (br a10 (br a11 (br (Qbu (a7, (p1, (p2, ((p3.1, (p3.2.1, ())), (p4, ((a4, (0, ())), (a2, (a5, (p6, (0, ((([p2]) ++ ([a6])), ((0, (0, ())), ())))))))))))) p5) (some (.t Qab ((signC (a7, (p1, (p2, ((p3.1, (p3.2.1, ())), (p4, ((a4, (0, ())), (a2, (a5, (p6, (0, ((([p2]) ++ ([a6])), ((0, (0, ())), ())))))))))))) p5).1), [.box (.t Qau (dnext a3 3))])) none) none) none) (br (Qbu (a7, (p1, (p2, ((p3.1, (p3.2.1, ())), (p4, ((a4, (0, ())), (a2, (a5, (p6, (0, ([p2], ((0, (0, ())), ())))))))))))) p5) (some (.t Qab ((signC (a7, (p1, (p2, ((p3.1, (p3.2.1, ())), (p4, ((a4, (0, ())), (a2, (a5, (p6, (0, ([p2], ((0, (0, ())), ())))))))))))) p5).1), [.box (.t Qau (dnext a3 3))])) none)) none)) none
def Qu4 (d0 : Dice) (p1 p2 : ByteArray) (p3 : Keep) (p4 p5 : Int) (p6 : Bool) : Option (V × List VO) := br (ofOk (dofN (dnext d0 1000) ([3, 2, 4, 1])) ([0, 5, 10])) (QpE d0 p1 p2 p3 p4 p5 p6) none
def Qu3 (d0 : Dice) (p1 p2 : ByteArray) (p3 : Keep) (p4 p5 : Int) (p6 : Bool) : Option (V × List VO) := br (ofOk (dnext d0 1000) ([3, 2, 4, 1])) (Qu4 d0 p1 p2 p3 p4 p5 p6) none
def r_f57 (d0 : Dice) (p1 p2 : ByteArray) (p3 : Keep) (p4 p5 : Int) (p6 : Bool) : Option (V × List VO) := frk (br (QaN d0 1000) (frk (br (ofOk (dnext d0 1000) ([3, 2, 4, 1])) (frk (br (ofOk (dofN (dnext d0 1000) ([3, 2, 4, 1])) ([0, 5, 10])) (frk (QpE d0 p1 p2 p3 p4 p5 p6) (QpE d0 p1 p2 p3 p4 p5 p6)) none) (Qu4 d0 p1 p2 p3 p4 p5 p6)) none) (Qu3 d0 p1 p2 p3 p4 p5 p6)) none) (br (QaN d0 1000) (Qu3 d0 p1 p2 p3 p4 p5 p6) none)
theorem e_f57 (d0 : Dice) (p1 p2 : ByteArray) (p3 : Keep) (p4 p5 : Int) (p6 : Bool) : runF g_f57 QzQ QLP false [.ptr 50000 0, .t .str p1, .t .str p2, .t Qam p3, .t tI p4, .t tI p5, .t .bool p6] [.box (.t Qau d0)] = r_f57 d0 p1 p2 p3 p4 p5 p6 := by kernel_rfl
theorem en_f57 : Qag Tryz.prog 57 := .inr ⟨by decide, _, Tryz.func57, by kernel_rfl, by kernel_rfl⟩
theorem gk_f57 : GOk Tryz.prog g_f57 := Qan _ (gA (gC Qs4 Qsi (gC QnD Qm3 (gC QxG Qwv (gC en_f87 ms_f87 gN)))))
theorem lk_f57 : QzQ.lok g_f57 := by repeat (first | exact trivial | refine ⟨?_, ?_⟩)
theorem s_f57 (d : Dice) (i s : ByteArray) (k : Keep) (id g : Int) (a : Bool) (h : cerOk d i s k id g a = true) : r_f57 d i s k id g a = some (.t Qab (cerV d i s k id g a), [.box (.t Qau (cerN d i s k id g a))]) := by
 simp only [cerOk, Bool.and_eq_true, decide_eq_true_eq] at h
 obtain ⟨h, hi, hs⟩ := h
 have h1 : QaN d 1000 = true := Qa1 h (by omega)
 have k1 := Qat (n := 1000) h
 have h2 : ofOk (dnext d 1000) [3, 2, 4, 1] = true := QdP k1 (by decide) (by decide)
 have k2 := QaZ (l := [3, 2, 4, 1]) k1
 have h3 : ofOk (dofN (dnext d 1000) [3, 2, 4, 1]) [0, 5, 10] = true := QdP k2 (by decide) (by decide)
 have k3 := QaZ (l := [0, 5, 10]) k2
 have h4 : ofOk (dofN (dofN (dnext d 1000) [3, 2, 4, 1]) [0, 5, 10]) [1000, 100, 50, 20] = true := QdP k3 (by decide) (by decide)
 have k4 := QaZ (l := [1000, 100, 50, 20]) k3
 have h5 : ofOk (dofN (dofN (dofN (dnext d 1000) [3, 2, 4, 1]) [0, 5, 10]) [1000, 100, 50, 20]) [3, 0, 1] = true := QdP k4 (by decide) (by decide)
 have h6 : oneOk (dofN (dofN (dofN (dofN (dnext d 1000) [3, 2, 4, 1]) [0, 5, 10]) [1000, 100, 50, 20]) [3, 0, 1]) 3 = true := Qdz (QaZ k4) (by omega) (by omega)
 have h7 : oneOk (dofN (dofN (dofN (dnext d 1000) [3, 2, 4, 1]) [0, 5, 10]) [1000, 100, 50, 20]) 3 = true := Qdz k4 (by omega) (by omega)
 have c1 : cCat s (ByteArray.mk #[120]) = true := decide_eq_true (by show ((s.size + 1 : Nat) : Int) ≤ _; omega)
 have c2 : cApp [s] [scat s (ByteArray.mk #[120])] 16 = true := by rfl
 have hn1 : ∀ t ∈ [s], t.size ≤ 1001 := fun t ht => by
  rw [List.mem_singleton] at ht
  subst ht
  omega
 have hn2 : ∀ t ∈ [s] ++ [scat s (ByteArray.mk #[120])], t.size ≤ 1001 := fun t ht => by
  simp only [List.mem_append, List.mem_singleton] at ht
  rcases ht with rfl | rfl
  ·omega
  ·rw [QrK]; show s.size + 1 ≤ _; omega
 have c3 : ∀ (q p x y : Int) (u v : Keep) (kk : Keep), Qbu (q, (i, (s, (kk, (id, (u, (x, (y, (a, (p, ([s], (v, ())))))))))))) g = true := fun q p x y u v kk => Qg1 hi hs (by simp) hn1
 have c4 : ∀ (q p x y : Int) (u v : Keep) (kk : Keep), Qbu (q, (i, (s, (kk, (id, (u, (x, (y, (a, (p, ([s] ++ [scat s (ByteArray.mk #[120])], (v, ())))))))))))) g = true := fun q p x y u v kk => Qg1 hi hs (by simp) hn2
 simp only [r_f57, QpE, Qu4, Qu3, Qcm, h1, h2, h3, h4, h5, h6, h7, c1, c2, c3, c4, Qac, Qcm]
 unfold cerV cerN cRaw cNm cD5 cPath
 cases a with
 | true =>
  rw [Qac]
  simp only [cond_true]
  cases done (dofN (dofN (dofN (dofN (dnext d 1000) [3, 2, 4, 1]) [0, 5, 10]) [1000, 100, 50, 20]) [3, 0, 1]) 3 <;> rfl
 | false =>
  rw [Qae]
  simp only [cond_false]
  cases done (dofN (dofN (dofN (dnext d 1000) [3, 2, 4, 1]) [0, 5, 10]) [1000, 100, 50, 20]) 3 <;> rfl
def QKY : Ent := specP Qau (.pr .str (.pr .str (.pr Qam (.pr tI (.pr tI (.pr .bool .nil)))))) (fun d x => (cerOk d x.1 x.2.1 x.2.2.1 x.2.2.2.1 x.2.2.2.2.1 x.2.2.2.2.2.1)) (fun d x => (.t Qab (cerV d x.1 x.2.1 x.2.2.1 x.2.2.2.1 x.2.2.2.2.1 x.2.2.2.2.2.1))) (fun d x => (cerN d x.1 x.2.1 x.2.2.1 x.2.2.2.1 x.2.2.2.2.1 x.2.2.2.2.2.1))
theorem ms_f57 : Meets Tryz.prog 57 (strip QKY) := QbD (R := runF g_f57 QzQ QLP false) (mG Tryz.func57 (by kernel_rfl) Tryz.ntmps57 (by kernel_rfl) gk_f57 lk_f57) rfl fun d x hok => (e_f57 d x.1 x.2.1 x.2.2.1 x.2.2.2.1 x.2.2.2.2.1 x.2.2.2.2.2.1).trans (s_f57 d x.1 x.2.1 x.2.2.1 x.2.2.2.1 x.2.2.2.2.1 x.2.2.2.2.2.1 hok)
end
end Go.Proofs.YtkngeegkjhipeaaGreat.K
