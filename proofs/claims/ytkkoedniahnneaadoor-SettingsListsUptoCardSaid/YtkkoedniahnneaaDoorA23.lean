/-
 The text of settings, and what it means when it is read: plain facts.
-/
import Derived.Test.YtkkoedniahnneaaDoorA21
set_option linter.unusedSimpArgs false
set_option linter.unusedVariables false
namespace Go.Proofs.YtkkoedniahnneaaDoor.K
open Go.RowKit
noncomputable section
abbrev eB : ByteArray := ByteArray.mk #[]
def stL (x : Setting) : List UInt8 := bl x.2.1 ++ 32 :: 61 :: 32 :: bl x.2.2.1
def scL (x : Setting) : List UInt8 := 91 :: (bl x.1 ++ [93])
def lnP : ByteArray → List Setting → List (List UInt8)
 | _, [] => []
 | sec, x :: r => bif seq x.1 sec then stL x :: lnP x.1 r else scL x :: stL x :: lnP x.1 r
def prL (sec : ByteArray) (l : List Setting) : List UInt8 := ((lnP sec l).map (· ++ [10])).flatten
def ordB : ByteArray → List Setting → Bool
 | _, [] => true
 | sec, x :: r => !(seq x.1 eB && !seq sec eB) && ordB x.1 r
def prnF (l : List Setting) : ByteArray × Int := bif l.all rgtB then (bif ordB eB l then (bif decide ((prL eB l).length ≤ 8192) && decide ((prL eB l).count 10 ≤ 200) then (mkB (prL eB l), 0) else (eB, 3)) else (eB, 6)) else (eB, 1)
theorem all_of_I {s : ByteArray} {p : Int → Bool} {q : UInt8 → Bool} (h : (bytesL s).all p = true) (g : ∀ c : UInt8, p ((c.toNat : Nat) : Int) = true → q c = true) : (bl s).all q = true := by
 rw [List.all_eq_true] at h ⊢
 intro c hc
 exact g c (h _ (List.mem_map.2 ⟨c, hc, rfl⟩))
def wdC (c : UInt8) : Bool := isCl c && (!isBl c && (!(c == 61) && (!(c == 35) && (!(c == 59) && (!(c == 91) && (!(c == 10) && !(c == 92)))))))
theorem wdC_tab : ((List.range 256).all fun n => !letW (n : Int) || wdC n.toUInt8) = true := by kernel_rfl
theorem wdC_of {c : UInt8} (h : letW ((c.toNat : Nat) : Int) = true) : wdC c = true := by
 have := List.all_eq_true.1 wdC_tab c.toNat (List.mem_range.2 c.toNat_lt)
 rw [h] at this
 simpa using this
theorem wrd_all {s : ByteArray} (h : wrdB s = true) : (bl s).all wdC = true := all_of_I (Bool.and_eq_true_iff.1 h).1 fun _ => wdC_of
def vlC (c : UInt8) : Bool := isCl c && !(c == 10)
theorem vlC_tab : ((List.range 256).all fun n => !isVI (n : Int) || vlC n.toUInt8) = true := by kernel_rfl
theorem vlC_of {c : UInt8} (h : isVI ((c.toNat : Nat) : Int) = true) : vlC c = true := by
 have := List.all_eq_true.1 vlC_tab c.toNat (List.mem_range.2 c.toNat_lt)
 rw [h] at this
 simpa using this
theorem val_all {s : ByteArray} (h : valB s = true) : (bl s).all vlC = true := all_of_I (Bool.and_eq_true_iff.1 h).1 fun _ => vlC_of
theorem wdC_p {c : UInt8} (h : wdC c = true) : isCl c = true ∧ isBl c = false ∧ c ≠ 61 ∧ c ≠ 35 ∧ c ≠ 59 ∧ c ≠ 91 ∧ c ≠ 10 ∧ c ≠ 92 := by
 simp only [wdC, Bool.and_eq_true, Bool.not_eq_true', beq_eq_false_iff_ne] at h
 exact h
theorem rgt_p {x : Setting} (h : rgtB x = true) : (x.1 = eB ∨ wrdB x.1 = true) ∧ wrdB x.2.1 = true ∧ valB x.2.2.1 = true := by
 unfold rgtB at h
 obtain ⟨h1, h⟩ := Bool.and_eq_true_iff.1 h
 obtain ⟨h2, h3⟩ := Bool.and_eq_true_iff.1 h
 refine ⟨?_, h2, h3⟩
 rcases Bool.or_eq_true_iff.1 h1 with h | h
 ·exact .inl (seq_iff'.1 h)
 ·exact .inr h
theorem seq_no {s t : ByteArray} (h : s ≠ t) : seq s t = false := by
 cases hx : seq s t with
 | false => rfl
 | true => exact absurd (seq_iff'.1 hx) h
end
end Go.Proofs.YtkkoedniahnneaaDoor.K
