import Derived.Test.YtkngeegkjhipeaaGreatN30
set_option linter.unusedSimpArgs false
set_option linter.unusedVariables false
namespace Go.Proofs.YtkngeegkjhipeaaGreat.K
open Go.RowKit
noncomputable section
def endSm (e : Qad) : Bool := decide (e.1.size ≤ 1000 ∧ (Qan e).length ≤ 1000 ∧ (eIds e).length ≤ 1000 ∧ (eAnch e).length ≤ 1000 ∧ (eHash e).length ≤ 1000) && (eIds e).all idLen
theorem QLl (d : Dice) : (dwdG d sOdd).size ≤ 1001 := by
 unfold dwdG
 have : ∀ k : Nat, (sOdd.getD k ByteArray.empty).size ≤ 1001 := fun k => by
  rcases k with _ | _ | _ | k
  ·decide
  ·decide
  ·decide
  ·exact Nat.zero_le _
 exact this _
theorem QbY {e : Qad} (h1 : e.1.size ≤ 1001) (h2 : (Qan e).length ≤ 1001) (h3 : (eIds e).length ≤ 1001) (h4 : (eAnch e).length ≤ 1001) (h5 : (eHash e).length ≤ 1001) (h6 : (eIds e).all idLen = true) : QaS e = true := by
 simp only [QaS, Bool.and_eq_true, decide_eq_true_eq]
 exact ⟨⟨decide_eq_true (by omega), by omega, by omega, by omega, by omega⟩, h6⟩
theorem bif_q {b : Bool} {x y : Qad × Dice} {p : Qad → Prop} (hx : p x.1) (hy : p y.1) : p (bif b then x else y).1 := by
 cases b
 ·exact hy
 ·exact hx
theorem QGT {d : Dice} {e : Qad} (hd : dOk d = true) (h : endSm e = true) : QaS (oddV d e) = true := by
 simp only [endSm, Bool.and_eq_true, decide_eq_true_eq] at h
 obtain ⟨⟨h1, h2, h3, h4, h5⟩, h6⟩ := h
 have k1 := Qav (n := 8) hd
 have g1 : e.1.size ≤ 1001 := by omega
 have g2 : (Qan e).length ≤ 1001 := by omega
 have g3 : (eIds e).length ≤ 1001 := by omega
 have g4 : (eAnch e).length ≤ 1001 := by omega
 have g5 : (eHash e).length ≤ 1001 := by omega
 unfold oddV oddP
 refine bif_q (p := fun e => QaS e = true) (QbY (QLl _) g2 g3 g4 g5 h6) ?_
 refine bif_q (p := fun e => QaS e = true) (QbY g1 g2 g3 g4 g5 h6) ?_
 refine bif_q (p := fun e => QaS e = true) (QbY g1 g2 g3 g4 g5 h6) ?_
 refine bif_q (p := fun e => QaS e = true) (QbY g1 (by show (e.2.2.2.1 ++ [_]).length ≤ 1001; rw [List.length_append]; show (Qan e).length + 1 ≤ _; omega) g3 g4 g5 h6) ?_
 refine bif_q (p := fun e => QaS e = true) (QbY g1 g2 g3 (show 2 ≤ 1001 by decide) g5 h6) ?_
 refine bif_q (p := fun e => QaS e = true) (QbY g1 g2 g3 g4 (show 1 ≤ 1001 by decide) h6) ?_
 have ha : ∀ x : Qaq, idLen x = true → ((eIds e ++ [x]).all idLen = true) ∧ (eIds e ++ [x]).length ≤ 1001 := fun x hx => by
  refine ⟨?_, ?_⟩
  ·rw [List.all_append, h6, List.all_cons, hx]; rfl
  ·rw [List.length_append, List.length_singleton]; omega
 have a1 := ha ((1, (0, ())), (0, (([] : List Qaa), ()))) rfl
 have a2 := ha (kRSA, (7, (chnV (dnext d 8) sA kRSA 8, ()))) (QvP (nm := sA) (by decide) k1)
 exact bif_q (p := fun e => QaS e = true) (QbY g1 g2 a1.2 g4 g5 a1.1) (QbY g1 g2 a2.2 g4 g5 a2.1)
end
end Go.Proofs.YtkngeegkjhipeaaGreat.K
