import Derived.Test.YtkngeegkjhipeaaGreatN24
import Derived.Test.YtkngeegkjhipeaaGreatB4
set_option linter.unusedSimpArgs false
set_option linter.unusedVariables false
namespace Go.Proofs.YtkngeegkjhipeaaGreat.K
open Go.RowKit
noncomputable section
theorem QBk (l : List Int) : (sortI l).Pairwise (· ≤ ·) := by
 have := List.pairwise_mergeSort (le := fun x y : Int => decide (x ≤ y)) (fun a b c h1 h2 => by simp only [decide_eq_true_eq] at *; omega) (fun a b => by simp only [Bool.or_eq_true, decide_eq_true_eq]; omega) l
 exact this.imp fun h => of_decide_eq_true h
theorem Qrb {l : List Int} {p : Int → Bool} (hn : l.Nodup) (hr : ∀ x ∈ l, 1 ≤ x ∧ x ≤ 16) (hp : ∀ x, p x = true → x ∈ l) : (sortI l).filter p = (((List.range' 1 16).filter fun (j : Nat) => p (j : Int)).map fun (j : Nat) => (j : Int)) := by
 have hperm : (sortI l).Perm l := List.mergeSort_perm _ _
 refine List.Perm.eq_of_pairwise (le := (· ≤ ·)) (fun a b _ _ h1 h2 => by omega) ((QBk l).filter _) ?_ ?_
 ·rw [List.pairwise_map]
  refine List.Pairwise.filter _ ?_
  refine (List.pairwise_lt_range' (s := 1) (n := 16)).imp fun h => by omega
 ·refine (List.perm_ext_iff_of_nodup ((hperm.nodup_iff.2 hn).filter _) ?_).2 fun a => ?_
  ·rw [List.nodup_iff_pairwise_ne, List.pairwise_map]
   refine List.Pairwise.filter _ ?_
   refine (List.pairwise_lt_range' (s := 1) (n := 16)).imp fun h => by omega
  ·simp only [List.mem_filter, List.mem_map, List.mem_range'_1, hperm.mem_iff]
   constructor
   ·rintro ⟨h1, h2⟩
    have := hr a h1
    exact ⟨a.toNat, ⟨by omega, by rw [Int.toNat_of_nonneg (by omega)]; exact h2⟩, Int.toNat_of_nonneg (by omega)⟩
   ·rintro ⟨j, ⟨_, h2⟩, rfl⟩
    exact ⟨hp _ h2, h2⟩
def rowS (s : Qad) (o : List Int) (v : Int) (l : List Int) : List Keep := (l.filter fun j => posE s o v j).map fun j => (v, (j, ()))
theorem QG7 {l : List Int} (h : suitF l = true) : ∀ x ∈ l, 1 ≤ x ∧ x ≤ 16 := by
 intro x hx
 obtain ⟨k, hk, rfl⟩ := List.mem_iff_getElem.1 hx
 exact (Qi2 h k hk).1
theorem QNh {s : Qad} {o : List Int} {v : Int} (h : suitF o = true) : rowS s o v (sortI o) = rowC s o v 1 := by
 unfold rowS rowC
 rw [Qrb (p := fun j => posE s o v j) (Qn7 h) (QG7 h) (fun x hx => by
  simp only [posE, Bool.and_eq_true] at hx
  exact List.contains_iff_mem.1 hx.2.2.2.1), List.map_map]
 rfl
theorem Qyl {c : Qad} (h : QaO c = true) : suitF (Qao c) = true := by
 simp only [QaO, Bool.and_eq_true] at h
 exact h.2.2.2.2.1
end
end Go.Proofs.YtkngeegkjhipeaaGreat.K
