/-
  Strings that differ in one byte have different sums (plain).
-/
import Derived.Test.YtnimpcffagidoaaSum
namespace Go.Proofs.Ytnimpcffagidoaa
set_option linter.unusedSimpArgs false
set_option linter.unusedVariables false

theorem mul_inj (a b : Nat) (ha : a < 4294967296) (hb : b < 4294967296) (h : a * 16777619 % 4294967296 = b * 16777619 % 4294967296) : a = b := by
  have h1 : (a * 16777619) * 899433627 % 4294967296 = (b * 16777619) * 899433627 % 4294967296 := by
    rw [Nat.mul_mod, h, ← Nat.mul_mod]
  have e : ∀ x : Nat, x * 16777619 * 899433627 % 4294967296 = x % 4294967296 := fun x => by
    rw [Nat.mul_assoc, Nat.mul_mod]
    have : 16777619 * 899433627 % 4294967296 = 1 := by decide +kernel
    rw [this, Nat.mul_one, Nat.mod_mod]
  rw [e, e, Nat.mod_eq_of_lt ha, Nat.mod_eq_of_lt hb] at h1
  exact h1
theorem xor_left_inj (a b c : Nat) (h : a ^^^ c = b ^^^ c) : a = b := by
  have := congrArg (· ^^^ c) h
  simpa [Nat.xor_assoc] using this
theorem xor_right_inj (a b c : Nat) (h : c ^^^ a = c ^^^ b) : a = b := by
  rw [Nat.xor_comm c a, Nat.xor_comm c b] at h
  exact xor_left_inj a b c h
theorem fnvStep_inj_h (a b : Nat) (c : UInt8) (ha : a < 4294967296) (hb : b < 4294967296) (h : fnvStep a c = fnvStep b c) : a = b := by
  unfold fnvStep at h
  exact xor_left_inj _ _ _ (mul_inj _ _ (xor_lt a c ha) (xor_lt b c hb) h)
theorem fnvStep_inj_c (a : Nat) (c d : UInt8) (ha : a < 4294967296) (h : fnvStep a c = fnvStep a d) : c = d := by
  unfold fnvStep at h
  have := xor_right_inj _ _ _ (mul_inj _ _ (xor_lt a c ha) (xor_lt a d ha) h)
  exact UInt8.toNat_inj.1 this
theorem fold_lt (l : List UInt8) (h : Nat) (hh : h < 4294967296) : l.foldl fnvStep h < 4294967296 := by
  induction l generalizing h with
  | nil => exact hh
  | cons c l ih => exact ih _ (fnvStep_lt _ _)
theorem fold_inj (l : List UInt8) (a b : Nat) (ha : a < 4294967296) (hb : b < 4294967296) (h : l.foldl fnvStep a = l.foldl fnvStep b) : a = b := by
  induction l generalizing a b with
  | nil => exact h
  | cons c l ih => exact fnvStep_inj_h a b c ha hb (ih _ _ (fnvStep_lt _ _) (fnvStep_lt _ _) h)
theorem init_lt : (2166136261 : Nat) < 4294967296 := by omega
theorem fnv_set_ne (l : List UInt8) (i : Nat) (c : UInt8) (hi : i < l.length) (hc : c ≠ l[i]) : fnv (l.set i c) ≠ fnv l := by
  intro h
  have hl : l = l.take i ++ l[i] :: l.drop (i + 1) := by
    rw [← List.drop_eq_getElem_cons hi]; exact (List.take_append_drop i l).symm
  have hs : l.set i c = l.take i ++ c :: l.drop (i + 1) := by
    rw [List.set_eq_take_append_cons_drop, if_pos hi]
  rw [hs] at h
  conv at h => rhs; rw [hl]
  unfold fnv at h
  rw [List.foldl_append, List.foldl_append, List.foldl_cons, List.foldl_cons] at h
  have h1 := fold_inj _ _ _ (fnvStep_lt _ _) (fnvStep_lt _ _) h
  exact hc (fnvStep_inj_c _ _ _ (fold_lt _ _ init_lt) h1)
theorem byte_bump (c : UInt8) (b : Nat) (hb : b < 256) : UInt8.ofNat (c.toNat + (1 + b % 255)) ≠ c := by
  intro h
  have := congrArg UInt8.toNat h
  rw [UInt8.toNat_ofNat'] at this
  have := c.toNat_lt
  omega
theorem fnv_a : fnv [97] = 3826002220 := by decide +kernel
theorem fnv_foobar : fnv [102, 111, 111, 98, 97, 114] = 3214735720 := by decide +kernel
end Go.Proofs.Ytnimpcffagidoaa
