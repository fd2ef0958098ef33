/-
 What a text means, by the answer: lines that go on, sections, settings.
-/
import Derived.Test.YtkkoedniahnneaaDoorA3
set_option linter.unusedSimpArgs false
set_option linter.unusedVariables false
namespace Go.Proofs.YtkkoedniahnneaaDoor.K
open Go.RowKit
noncomputable section
def lnsOk (l : List ByteArray) : Bool := decide (l.length ≤ 100000) && l.all fun x => decide (x.size ≤ 10000)
theorem lnsOk_at {l : List ByteArray} (h : lnsOk l = true) {k : Nat} (hk : k < l.length) : l[k].size ≤ 10000 := of_decide_eq_true (List.all_eq_true.1 (Bool.and_eq_true_iff.1 h).2 _ (List.getElem_mem hk))
theorem lnsOk_len {l : List ByteArray} (h : lnsOk l = true) : l.length ≤ 100000 := of_decide_eq_true (Bool.and_eq_true_iff.1 h).1
def rjZ (l : List ByteArray) (i : Int) (s : ByteArray) (n : Int) : ByteArray × Int × Bool := ((jnF (l.drop (i.toNat + n.toNat)) s n.toNat).1, (((jnF (l.drop (i.toNat + n.toNat)) s n.toNat).2.1 : Nat) : Int), (jnF (l.drop (i.toNat + n.toNat)) s n.toNat).2.2)
def rjnF (l : List ByteArray) (i : Int) : ByteArray × Int × Bool := bif (rjZ l i (tB (lgt .str l i.toNat)) 1).2.2 then (tB (rjZ l i (tB (lgt .str l i.toNat)) 1).1, (rjZ l i (tB (lgt .str l i.toNat)) 1).2.1, true) else (ByteArray.mk #[], (rjZ l i (tB (lgt .str l i.toNat)) 1).2.1, false)
theorem bsl_dec {s : ByteArray} (h : 0 < s.size) {β : Type} (L R : Option β) : br (cSx s (isub .i64 (slen s) 1)) (br (ieq (sgt s (isub .i64 (slen s) 1)) 92) L R) none = br (bsl s) L R ∨ 9223372036854775807 < s.size := by
 by_cases hb : 9223372036854775807 < s.size
 ·exact .inr hb
 ·left
  have hk : s.size - 1 < (bl s).length := by rw [bl_len]; omega
  have e1 : isub .i64 (slen s) 1 = ((s.size - 1 : Nat) : Int) := by rw [isub_in (by simp only [slen]; omega)]; simp only [slen]; omega
  rw [e1, cSx_bl hk, br_true, sgt_bl hk]
  have e2 : bsl s = ((bl s)[s.size - 1] == 92) := by
   unfold bsl
   rw [List.getLast?_eq_getElem?, bl_len, List.getElem?_eq_getElem hk]
   rfl
  have := ((bl s)[s.size - 1]).toNat_lt
  have e3 : ieq (((bl s)[s.size - 1].toNat : Nat) : Int) 92 = ((bl s)[s.size - 1] == 92) := by
   generalize (bl s)[s.size - 1] = c at this
   rw [Bool.eq_iff_iff, beq_iff_eq, beq_iff_eq, ← UInt8.toNat_inj]
   show _ ↔ c.toNat = 92
   omega
  rw [e2, e3]
theorem bsl_pos {s : ByteArray} (h : bsl s = true) : 0 < s.size := by
 have := congrArg List.length (bsl_cut h)
 rw [bl_len, List.length_append] at this
 simp only [List.length_singleton] at this
 omega
theorem cutL_size {s : ByteArray} (h : bsl s = true) : (cutL s).size + 1 = s.size := by
 have := congrArg List.length (bsl_cut h)
 rw [bl_len, List.length_append, bl_len] at this
 simp only [List.length_singleton] at this
 omega
-- loop 0: (x0 : (List ByteArray)) (x1 : Int) (x7 : ByteArray) (x8 : Int); out: ('ret',) (x4 : ByteArray) (x5 : Int) (x6 : Bool); ('exit', 0) (x7 : ByteArray) (x8 : Int)
theorem jnF_size : ∀ (r : List ByteArray) (s : ByteArray) (n : Nat), (∀ x ∈ r, x.size ≤ 10000) → (jnF r s n).1.size ≤ s.size + 10000 * r.length
 | [], s, n, _ => by
  unfold jnF
  split
  ·exact Nat.zero_le _
  ·exact Nat.le_refl _
 | x :: r, s, n, h => by
  unfold jnF
  split
  ·rename_i hb
   have h1 := jnF_size r (cutL s ++ tB x) (n + 1) fun y hy => h y (List.mem_cons_of_mem _ hy)
   have h2 := tB_size x
   have h3 := h x List.mem_cons_self
   have h4 := cutL_size hb
   rw [ByteArray.size_append] at h1
   rw [List.length_cons]
   omega
  ·show s.size ≤ _
   omega
theorem rjZ_size {l : List ByteArray} {i : Nat} (h : lnsOk l = true) (hi : i < l.length) : (rjZ l i (tB (lgt .str l i)) 1).1.size ≤ 1000010000 := by
 have hl := lnsOk_len h
 have hs := lnsOk_at h hi
 have ht := tB_size l[i]
 have := jnF_size (l.drop (i + 1)) (tB l[i]) 1 fun x hx => by
  obtain ⟨k, hk, rfl⟩ := List.getElem_of_mem (List.mem_of_mem_drop hx)
  exact lnsOk_at h hk
 rw [List.length_drop] at this
 rw [lgt_get (y := .str) hi]
 show (jnF (l.drop ((i : Int).toNat + (1 : Int).toNat)) (tB l[i]) (1 : Int).toNat).1.size ≤ _
 rw [Int.toNat_natCast, show (1 : Int).toNat = 1 from rfl]
 omega
theorem rjn_pos {l : List ByteArray} {i : Nat} (hi : i < l.length) : 1 ≤ (rjnF l i).2.1 ∧ (i : Int) + (rjnF l i).2.1 ≤ l.length := by
 have hj := jnF_n (l.drop ((i : Int).toNat + (1 : Int).toNat)) (tB (lgt .str l (i : Int).toNat)) (1 : Int).toNat
 have e : (rjnF l i).2.1 = (((jnF (l.drop ((i : Int).toNat + (1 : Int).toNat)) (tB (lgt .str l (i : Int).toNat)) (1 : Int).toNat).2.1 : Nat) : Int) := by
  unfold rjnF
  cases (rjZ l (i : Int) (tB (lgt .str l (i : Int).toNat)) 1).2.2 <;> rfl
 rw [e]
 rw [List.length_drop] at hj
 simp only [Int.toNat_natCast, show (1 : Int).toNat = 1 from rfl] at hj ⊢
 omega
theorem rjn_size {l : List ByteArray} {i : Nat} (h : lnsOk l = true) (hi : i < l.length) : (rjnF l i).1.size ≤ 1000010000 := by
 have := rjZ_size h hi
 unfold rjnF
 rw [Int.toNat_natCast]
 cases (rjZ l (i : Int) (tB (lgt .str l i)) 1).2.2 with
 | false => exact Nat.zero_le _
 | true => exact Nat.le_trans (tB_size _) this
end
end Go.Proofs.YtkkoedniahnneaaDoor.K
