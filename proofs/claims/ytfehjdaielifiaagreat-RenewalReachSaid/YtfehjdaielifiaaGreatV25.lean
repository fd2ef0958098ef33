/-
  lifetime: Renew.
-/
import Derived.Test.YtfehjdaielifiaaGreatV21
import Derived.Test.YtfehjdaielifiaaGreatB5
set_option linter.unusedSimpArgs false
set_option linter.unusedVariables false
namespace Go.Proofs.YtfehjdaielifiaaGreat.K
open Go.RowKit
def noItem : Item := (ByteArray.mk #[], (0, (0, (([] : List Link), (0, ())))))
def renE (y : Policy) (i : Item) (u : Keep) (day : Int) : Int := if fineB y i = false then ofE y i else if validF u = false then 7 else if day ≤ lastDay i ∨ 40000 < day then 13 else if i.2.2.2.1.length = 8 then 3 else 0
def moreL (i : Item) (u : Keep) (day : Int) : Item := (i.1, (i.2.1, (i.2.2.1, (i.2.2.2.1 ++ [(u, (day, ()))], (i.2.2.2.2.1, ())))))
def RenewF (y : Policy) (i : Item) (u : Keep) (day : Int) : Item × Int := if renE y i u day = 0 then (moreL i u day, 0) else (noItem, renE y i u day)
def renLen (y : Policy) (i : Item) (_u : Keep) (_day : Int) : Bool := fineLen y i
theorem ren_tail {y : Policy} {i : Item} {u : Keep} {day : Int} (h : fineB y i = true) (a5 : ofE y i = ofE y i) :
    br (!(validF u)) (some (V.tu [(.t tyItem noItem), (.t tI 7)], [])) (br (cIx i.2.2.2.1 (isub .i64 (llen i.2.2.2.1) 1)) (br (ile day (lgt tyLink i.2.2.2.1 (Int.toNat (isub .i64 (llen i.2.2.2.1) 1))).2.1) (some (.tu [(.t tyItem noItem), (.t tI 13)], ([] : List VO))) (br (igt day 40000) (some (.tu [(.t tyItem noItem), (.t tI 13)], [])) (br (ieq (llen i.2.2.2.1) 8) (some (.tu [(.t tyItem noItem), (.t tI 3)], [])) (br (lenOk5 i.2.2.2.1) (br (cApp (cloneL i.2.2.2.1) ([((u.1, (u.2.1, ())), (day, ()))]) 24) (some (.tu [(.t tyItem (i.1, (i.2.1, (i.2.2.1, (((cloneL i.2.2.2.1) ++ ([((u.1, (u.2.1, ())), (day, ()))])), (i.2.2.2.2.1, ())))))), (.t tI 0)], [])) none) none)))) none) = some (.tu [.t tyItem (RenewF y i u day).1, .t tI (RenewF y i u day).2], []) := by
  obtain ⟨_, _, _, e7, e8⟩ := fine_lens h
  have hf := h
  simp only [fineB, Bool.and_eq_true] at hf
  have hl := (itemOk_iff.1 hf.2).2.2.2.1
  have c1 : lenOk5 i.2.2.2.1 = true := decide_eq_true (by omega)
  have c2 : cApp (cloneL i.2.2.2.1) ([((u.1, (u.2.1, ())), (day, ()))]) 24 = true := cApp_ok (by simp [cloneL]; omega) (by omega)
  rw [e7, e8, c1, c2]
  simp only [br_true, Int.toNat_natCast]
  have hd : (lgt tyLink i.2.2.2.1 (i.2.2.2.1.length - 1)).2.1 = lastDay i := rfl
  rw [hd]
  have e0 : renE y i u day = if validF u = false then 7 else if day ≤ lastDay i ∨ 40000 < day then 13 else if i.2.2.2.1.length = 8 then 3 else 0 := by
    unfold renE
    rw [if_neg (show ¬ fineB y i = false by rw [h]; simp)]
  have fin : ∀ n, ¬ n = 0 → renE y i u day = n → some (V.tu [(.t tyItem noItem), (.t tI n)], ([] : List VO)) = some (.tu [.t tyItem (RenewF y i u day).1, .t tI (RenewF y i u day).2], []) := fun n hn e => by
    unfold RenewF
    rw [e, if_neg hn]
  cases hv : validF u with
  | false =>
    rw [hv, if_pos rfl] at e0
    exact fin 7 (by omega) e0
  | true =>
    rw [hv, if_neg (show ¬ true = false by simp)] at e0
    rw [Bool.not_true, br_false]
    refine br_intro (fun g => ?_) (fun g1 => br_intro (fun g => ?_) (fun g2 => br_intro (fun g => ?_) (fun g3 => ?_)))
    · rw [if_pos (.inl (of_decide_eq_true g))] at e0
      exact fin 13 (by omega) e0
    · rw [if_pos (.inr (of_decide_eq_true g))] at e0
      exact fin 13 (by omega) e0
    · have g1 := of_decide_eq_false g1
      have g2 := of_decide_eq_false g2
      simp only [ieq_dec, llen, decide_eq_true_eq] at g
      rw [if_neg (by omega), if_pos (by omega)] at e0
      exact fin 3 (by omega) e0
    · have g1 := of_decide_eq_false g1
      have g2 := of_decide_eq_false g2
      simp only [ieq_dec, llen, decide_eq_false_iff_not] at g3
      rw [if_neg (by omega), if_neg (by omega)] at e0
      unfold RenewF
      rw [if_pos e0]
      rfl
end Go.Proofs.YtfehjdaielifiaaGreat.K
