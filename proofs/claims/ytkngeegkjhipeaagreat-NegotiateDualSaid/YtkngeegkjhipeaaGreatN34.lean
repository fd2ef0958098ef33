import Derived.Test.YtkngeegkjhipeaaGreatN32
import Derived.Test.YtkngeegkjhipeaaGreatN33
set_option linter.unusedSimpArgs false
set_option linter.unusedVariables false
namespace Go.Proofs.YtkngeegkjhipeaaGreat.K
open Go.RowKit
noncomputable section
theorem QRA {c s : Qad} {x : Keep} (hx : x ∈ Qby c s) : posE s (Qao c) x.1 x.2.1 = true ∧ loC c s ≤ x.1 ∧ x.1 ≤ hiC c s := by
 unfold Qby at hx
 cases hr : Qcx c s with
 | false => rw [hr] at hx; cases hx
 | true =>
  rw [hr] at hx
  obtain ⟨hv, hw⟩ := Bool.and_eq_true_iff.1 hr
  have v1 := QbG hv
  have v2 := QbG hw
  have b1 : 1 ≤ loC c s := by simp only [loC, imx]; omega
  change x ∈ verC s (Qao c) (loC c s).toNat (hiC c s + 1 - loC c s).toNat at hx
  unfold verC rowC at hx
  simp only [List.mem_flatMap, List.mem_range'_1, List.mem_map, List.mem_filter] at hx
  obtain ⟨j, hj, k, ⟨_, hp⟩, rfl⟩ := hx
  exact ⟨hp, by show loC c s ≤ (j : Int); omega, by show (j : Int) ≤ hiC c s; omega⟩
theorem QyX {c s : Qad} {v k : Int} (hr : Qcx c s = true) (h1 : loC c s ≤ v) (h2 : v ≤ hiC c s) (hp : posE s (Qao c) v k = true) : (v, (k, ())) ∈ Qby c s := by
 have hk : 1 ≤ k ∧ k ≤ 16 := by
  simp only [posE, Bool.and_eq_true] at hp
  exact QlM hp.1
 obtain ⟨hv, hw⟩ := Bool.and_eq_true_iff.1 hr
 have v1 := QbG hv
 have v2 := QbG hw
 have b1 : 1 ≤ loC c s := by simp only [loC, imx]; omega
 unfold Qby
 rw [hr]
 show _ ∈ verC s (Qao c) (loC c s).toNat (hiC c s + 1 - loC c s).toNat
 unfold verC rowC
 simp only [List.mem_flatMap, List.mem_range'_1, List.mem_map, List.mem_filter]
 refine ⟨v.toNat, by omega, k.toNat, ⟨by omega, ?_⟩, ?_⟩
 ·rw [Int.toNat_of_nonneg (by omega), Int.toNat_of_nonneg (by omega)]
  exact hp
 ·rw [Int.toNat_of_nonneg (by omega), Int.toNat_of_nonneg (by omega)]
theorem QFP {c s : Qad} {d : Int} (hr : Qcx c s = true) (hd : 0 ≤ d ∧ d ≤ 40000) : QaU c s d = if hiC c s < loC c s then (zK, 27) else overF c s (hiC c s) d (Qao c) (outL s (Qao c)) := by
 obtain ⟨hv, hw⟩ := Bool.and_eq_true_iff.1 hr
 have v1 := QbG hv
 have v2 := QbG hw
 have g1 : ilt d 0 = false := decide_eq_false (by omega)
 have g2 : igt d 40000 = false := decide_eq_false (by omega)
 have g3 : ilt c.2.2.1 1 = false := decide_eq_false (by omega)
 have g4 : igt c.2.2.1 4 = false := decide_eq_false (by omega)
 unfold QaU withF
 rw [hr, g1, g2, g3, g4]
 simp only [Bool.not_true, cond_false]
 by_cases h : hiC c s < loC c s
 ·rw [if_pos h]
  by_cases h1 : imn c.2.2.1 s.2.2.1 < c.2.1
  ·rw [show ilt (imn c.2.2.1 s.2.2.1) c.2.1 = true from decide_eq_true h1, cond_true]
  ·have h2 : imn c.2.2.1 s.2.2.1 < s.2.1 := by
    simp only [hiC, loC, imx] at h
    omega
   rw [show ilt (imn c.2.2.1 s.2.2.1) c.2.1 = false from decide_eq_false h1, show ilt (imn c.2.2.1 s.2.2.1) s.2.1 = true from decide_eq_true h2]
   rfl
 ·rw [if_neg h]
  have h1 : ¬ imn c.2.2.1 s.2.2.1 < c.2.1 := by
   simp only [hiC, loC, imx] at h
   omega
  have h2 : ¬ imn c.2.2.1 s.2.2.1 < s.2.1 := by
   simp only [hiC, loC, imx] at h
   omega
  rw [show ilt (imn c.2.2.1 s.2.2.1) c.2.1 = false from decide_eq_false h1, show ilt (imn c.2.2.1 s.2.2.1) s.2.1 = false from decide_eq_false h2]
  rfl
theorem Qj1 {c s : Qad} {d : Int} (hr : Qcx c s = true) (hd : 0 ≤ d ∧ d ≤ 40000) :
  (QaU c s d = (zK, 27) ∧ Qby c s = [] ∧ hiC c s < loC c s) ∨ (QaU c s d = (zK, 28) ∧ fstG (posE s (Qao c) (hiC c s)) (outL s (Qao c)) = none) ∨ (QaU c s d = (zK, 29) ∧ Qby c s ≠ []) ∨
  (∃ k, k < (outL s (Qao c)).length ∧ fstG (posE s (Qao c) (hiC c s)) (outL s (Qao c)) = some k ∧ loC c s ≤ hiC c s ∧ posE s (Qao c) (hiC c s) ((outL s (Qao c)).getD k 0) = true ∧ pickE c s d ((outL s (Qao c)).getD k 0) = 0 ∧ QaU c s d = ((hiC c s, ((outL s (Qao c)).getD k 0, ())), 0)) := by
 have he := QFP (d := d) hr hd
 by_cases h : hiC c s < loC c s
 ·left
  rw [if_pos h] at he
  refine ⟨he, ?_, h⟩
  unfold Qby
  rw [hr]
  show verC s (Qao c) (loC c s).toNat (hiC c s + 1 - loC c s).toNat = []
  rw [show (hiC c s + 1 - loC c s).toNat = 0 by omega]
  rfl
 ·right
  rw [if_neg h] at he
  unfold overF at he
  cases hf : fstG (posE s (Qao c) (hiC c s)) (outL s (Qao c)) with
  | none => rw [hf] at he; exact .inl ⟨he, rfl⟩
  | some k =>
   right
   rw [hf] at he
   obtain ⟨h1, h2⟩ := QvD hf
   change QaU c s d = pickF c s (hiC c s) d ((outL s (Qao c)).getD k 0) at he
   unfold pickF at he
   cases hp : ine (pickE c s d ((outL s (Qao c)).getD k 0)) 0 with
   | true =>
    left
    rw [hp] at he
    refine ⟨he, fun hn => ?_⟩
    have := QyX hr (by omega) (Int.le_refl _) h2
    rw [hn] at this
    cases this
   | false =>
    right
    rw [hp] at he
    refine ⟨k, h1, rfl, by omega, h2, ?_, he⟩
    simpa [ine] using hp
end
end Go.Proofs.YtkngeegkjhipeaaGreat.K
