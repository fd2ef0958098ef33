/-
 A printed text, read again: plain facts.
-/
import Derived.Test.YtkkoedniahnneaaDoorA23
set_option linter.unusedSimpArgs false
set_option linter.unusedVariables false
namespace Go.Proofs.YtkkoedniahnneaaDoor.K
open Go.RowKit
noncomputable section
theorem no10_w {s : ByteArray} (h : wrdB s = true) : (10 : UInt8) ∉ bl s := fun hm => (wdC_p (List.all_eq_true.1 (wrd_all h) 10 hm)).2.2.2.2.2.2.1 rfl
theorem no10_v {s : ByteArray} (h : valB s = true) : (10 : UInt8) ∉ bl s := fun hm => absurd (List.all_eq_true.1 (val_all h) 10 hm) (by decide)
theorem no10_st {x : Setting} (h : rgtB x = true) : (10 : UInt8) ∉ stL x := by
 obtain ⟨_, h2, h3⟩ := rgt_p h
 unfold stL
 simp only [List.mem_append, List.mem_cons, not_or]
 exact ⟨no10_w h2, by decide, by decide, by decide, no10_v h3⟩
theorem no10_sc {x : Setting} (h : rgtB x = true) : (10 : UInt8) ∉ scL x := by
 obtain ⟨h1, _, _⟩ := rgt_p h
 unfold scL
 simp only [List.mem_append, List.mem_cons, not_or, List.not_mem_nil, not_false_eq_true, and_true]
 refine ⟨by decide, ?_, by decide⟩
 rcases h1 with h1 | h1
 ·rw [h1]
  exact List.not_mem_nil
 ·exact no10_w h1
theorem lnP_no10 : ∀ (l : List Setting) (sec : ByteArray), l.all rgtB = true → ∀ p ∈ lnP sec l, (10 : UInt8) ∉ p
 | [], _, _, p, hp => absurd hp List.not_mem_nil
 | x :: r, sec, hr, p, hp => by
  rw [List.all_cons] at hr
  obtain ⟨hx, hr⟩ := Bool.and_eq_true_iff.1 hr
  have ih := lnP_no10 r x.1 hr p
  unfold lnP at hp
  cases hs : seq x.1 sec with
  | true =>
   rw [hs, cond_true, List.mem_cons] at hp
   rcases hp with rfl | hp
   ·exact no10_st hx
   ·exact ih hp
  | false =>
   rw [hs, cond_false, List.mem_cons, List.mem_cons] at hp
   rcases hp with rfl | rfl | hp
   ·exact no10_sc hx
   ·exact no10_st hx
   ·exact ih hp
theorem seq_eB : seq eB eB = true := seq_iff'.2 rfl
end
end Go.Proofs.YtkkoedniahnneaaDoor.K
