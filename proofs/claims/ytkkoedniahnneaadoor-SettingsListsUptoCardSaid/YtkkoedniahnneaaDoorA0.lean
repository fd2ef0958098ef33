/-
 Texts in plain words: blanks at both ends, words, lines.
-/
import Derived.Test.YtkkoedniahnneaaDoorN0
import Derived.Lib.SlTrimSet
set_option linter.unusedSimpArgs false
set_option linter.unusedVariables false
namespace Go.Proofs.YtkkoedniahnneaaDoor.K
open Go.RowKit
noncomputable section
theorem brY {β : Type} {c : Bool} {a b r : Option β} (h : c = true) (k : a = r) : br c a b = r := by
 subst h
 exact k
theorem cAppN {α : Type} {l l2 : List α} {c : Nat} (hc : c ≤ 1000) (h : l.length + l2.length ≤ 100000000000) : cApp l l2 c = true := by
 simp only [cApp, decide_eq_true_eq]
 have : (l.length + l2.length) * (c + 1) ≤ 100000000000 * 1001 := Nat.mul_le_mul h (by omega)
 omega
abbrev bl (s : ByteArray) : List UInt8 := s.data.toList
abbrev mkB (l : List UInt8) : ByteArray := ⟨l.toArray⟩
theorem bl_mk (l : List UInt8) : bl (mkB l) = l := by simp
theorem mk_bl (s : ByteArray) : mkB (bl s) = s := by cases s; simp
theorem bl_len (s : ByteArray) : (bl s).length = s.size := by simp
theorem bl_app (a b : ByteArray) : bl (a ++ b) = bl a ++ bl b := by simp [ByteArray.data_append]
theorem bl_ssl (z : ByteArray) (a h : Int) : bl (ssl z a h) = ((bl z).drop a.toNat).take (h.toNat - a.toNat) := by
 show (z.extract a.toNat h.toNat).data.toList = _
 rw [ByteArray.data_extract, Array.toList_extract]
theorem bl_ext {a b : ByteArray} (h : bl a = bl b) : a = b := by rw [← mk_bl a, ← mk_bl b, h]
theorem mk_size (l : List UInt8) : (mkB l).size = l.length := by show Array.size _ = _; simp
theorem sgt_bl {s : ByteArray} {k : Nat} (h : k < (bl s).length) : sgt s (k : Int) = (((bl s)[k].toNat : Nat) : Int) := by
 simp only [sgt, Int.toNat_natCast, List.getD_eq_getElem?_getD, List.getElem?_eq_getElem h, Option.getD_some]
theorem cSx_bl {s : ByteArray} {k : Nat} (h : k < (bl s).length) : cSx s (k : Int) = true := decide_eq_true (by rw [bl_len] at h; omega)
theorem seq_iff' {a b : ByteArray} : seq a b = true ↔ a = b := by
 unfold seq
 rw [beq_iff_eq]
 constructor
 ·intro h
  rw [Go.Lib.toList_data, Go.Lib.toList_data] at h
  exact bl_ext h
 ·intro h
  rw [h]
theorem seq_dec (a b : ByteArray) : seq a b = decide (a = b) := by
 rw [Bool.eq_iff_iff, seq_iff', decide_eq_true_eq]
def isBl (c : UInt8) : Bool := c == 32 || c == 9
def tL (l : List UInt8) : List UInt8 := l.dropWhile isBl
def tR (l : List UInt8) : List UInt8 := (l.reverse.dropWhile isBl).reverse
def tB (s : ByteArray) : ByteArray := mkB (tL (tR (bl s)))
theorem set_bl : (fun b : UInt8 => ([32, 9] : List UInt8).contains b) = isBl := by
 funext b
 simp only [isBl, List.contains, List.elem]
 cases b == 32 <;> cases b == 9 <;> rfl
theorem trimS_bl (l : List UInt8) : Lib.trimS l [32, 9] = tL (tR l) := by
 unfold Lib.trimS Lib.trimLeftS Lib.trimRightS tL tR
 rw [set_bl]
theorem trimR_bl (l : List UInt8) : Lib.trimRightS l [32, 9] = tR l := by
 unfold Lib.trimRightS tR
 rw [set_bl]
theorem tR_nil : tR [] = [] := rfl
theorem tR_cons (x : UInt8) (l : List UInt8) : tR (x :: l) = if tR l = [] ∧ isBl x = true then [] else x :: tR l := by
 unfold tR
 rw [List.reverse_cons, List.dropWhile_append]
 by_cases h : (l.reverse.dropWhile isBl).isEmpty = true
 ·rw [if_pos h]
  have h2 : l.reverse.dropWhile isBl = [] := List.isEmpty_iff.1 h
  rw [h2]
  simp only [List.reverse_nil, true_and]
  cases hx : isBl x with
  | true => simp [List.dropWhile, hx]
  | false => simp [List.dropWhile, hx]
 ·rw [if_neg h]
  have h2 : ¬ l.reverse.dropWhile isBl = [] := fun e => h (List.isEmpty_iff.2 e)
  rw [if_neg (fun e => h2 (List.reverse_eq_nil_iff.1 e.1))]
  simp
theorem tL_cons (x : UInt8) (l : List UInt8) : tL (x :: l) = if isBl x = true then tL l else x :: l := by
 unfold tL
 cases h : isBl x <;> simp [List.dropWhile, h]
theorem tLR (l : List UInt8) : tL (tR l) = tR (tL l) := by
 induction l with
 | nil => rfl
 | cons x l ih =>
  rw [tL_cons, tR_cons]
  cases hx : isBl x with
  | false => simp [tL_cons, tR_cons, hx]
  | true =>
   by_cases hr : tR l = []
   ·rw [if_pos ⟨hr, rfl⟩, if_pos rfl, ← ih, hr]
   ·rw [if_neg (fun e => hr e.1), tL_cons, hx, if_pos rfl, if_pos rfl]
    exact ih
theorem tR_snoc (l : List UInt8) (x : UInt8) : tR (l ++ [x]) = if isBl x = true then tR l else l ++ [x] := by
 unfold tR
 rw [List.reverse_append, List.reverse_singleton, List.singleton_append]
 cases h : isBl x <;> simp [List.dropWhile, h]
theorem tR_idem (l : List UInt8) : tR (tR l) = tR l := by
 have : ∀ (n : Nat) (l : List UInt8), l.length ≤ n → tR (tR l) = tR l := by
  intro n
  induction n with
  | zero => intro l h; rw [List.eq_nil_of_length_eq_zero (Nat.le_zero.1 h)]; rfl
  | succ n ih =>
   intro l h
   rcases List.eq_nil_or_concat l with rfl | ⟨r, c, rfl⟩
   ·rfl
   ·rw [List.concat_eq_append] at h ⊢
    rw [tR_snoc]
    simp only [List.length_append, List.length_singleton] at h
    cases hc : isBl c with
    | true => rw [if_pos rfl]; exact ih r (by omega)
    | false => rw [if_neg (by simp), tR_snoc, hc, if_neg (by simp)]
 exact this _ l (Nat.le_refl _)
theorem tL_idem (l : List UInt8) : tL (tL l) = tL l := by
 induction l with
 | nil => rfl
 | cons x l ih =>
  rw [tL_cons]
  cases hx : isBl x with
  | true => rw [if_pos rfl]; exact ih
  | false => rw [if_neg (by simp), tL_cons, hx, if_neg (by simp)]
def tb (l : List UInt8) : List UInt8 := tL (tR l)
theorem tb_idem (l : List UInt8) : tb (tb l) = tb l := by
 unfold tb
 rw [tLR (tL (tR l)), tL_idem, ← tLR, tR_idem]
theorem tB_bl (s : ByteArray) : bl (tB s) = tb (bl s) := bl_mk _
theorem tB_idem (s : ByteArray) : tB (tB s) = tB s := bl_ext (by rw [tB_bl, tB_bl, tb_idem])
theorem tR_len (l : List UInt8) : (tR l).length ≤ l.length := by
 unfold tR
 rw [List.length_reverse]
 exact Nat.le_trans (List.Sublist.length_le (List.dropWhile_sublist _)) (by simp)
theorem tL_len (l : List UInt8) : (tL l).length ≤ l.length := List.Sublist.length_le (List.dropWhile_sublist _)
theorem tb_len (l : List UInt8) : (tb l).length ≤ l.length := Nat.le_trans (tL_len _) (tR_len _)
theorem tB_size (s : ByteArray) : (tB s).size ≤ s.size := by
 rw [← bl_len, ← bl_len, tB_bl]
 exact tb_len _
theorem tb_head {l : List UInt8} {x : UInt8} {r : List UInt8} (h : tb l = x :: r) : isBl x = false := by
 have h2 := tb_idem l
 rw [h] at h2
 cases hx : isBl x with
 | false => rfl
 | true =>
  have h3 : (tb (x :: r)).length ≤ r.length := by
   unfold tb
   rw [tLR, tL_cons, hx, if_pos rfl]
   exact Nat.le_trans (tR_len _) (tL_len _)
  rw [h2, List.length_cons] at h3
  omega
def isCl (c : UInt8) : Bool := c == 9 || (decide (32 ≤ c.toNat) && decide (c.toNat ≤ 126))
def clB (s : ByteArray) : Bool := (bl s).all isCl
theorem bl_cl {c : UInt8} (h : isBl c = true) : isCl c = true := by
 simp only [isBl, Bool.or_eq_true, beq_iff_eq] at h
 rcases h with rfl | rfl <;> decide
theorem all_tR (l : List UInt8) : (tR l).all isCl = l.all isCl := by
 induction l with
 | nil => rfl
 | cons x l ih =>
  rw [tR_cons]
  by_cases h : tR l = [] ∧ isBl x = true
  ·rw [if_pos h, List.all_cons, ← ih, h.1, bl_cl h.2]
   rfl
  ·rw [if_neg h, List.all_cons, List.all_cons, ih]
theorem all_tL (l : List UInt8) : (tL l).all isCl = l.all isCl := by
 induction l with
 | nil => rfl
 | cons x l ih =>
  rw [tL_cons]
  cases hx : isBl x with
  | true => rw [if_pos rfl, ih, List.all_cons, bl_cl hx, Bool.true_and]
  | false => rw [if_neg (by simp)]
theorem cl_tB (s : ByteArray) : clB (tB s) = clB s := by
 unfold clB
 rw [tB_bl]
 unfold tb
 rw [all_tL, all_tR]
theorem cl_app (a b : ByteArray) : clB (a ++ b) = (clB a && clB b) := by
 unfold clB
 rw [bl_app, List.all_append]
def bsl (s : ByteArray) : Bool := (bl s).getLast? == some 92
def cutL (s : ByteArray) : ByteArray := mkB (bl s).dropLast
theorem bsl_cut {s : ByteArray} (h : bsl s = true) : bl s = bl (cutL s) ++ [92] := by
 have h : (bl s).getLast? = some 92 := eq_of_beq h
 obtain ⟨r, hr⟩ := List.getLast?_eq_some_iff.1 h
 have e : bl (cutL s) = r := by
  unfold cutL
  rw [bl_mk, hr, List.dropLast_concat]
 rw [e]
 exact hr
theorem cl_cut {s : ByteArray} (h : bsl s = true) : clB (cutL s) = clB s := by
 unfold clB
 rw [bsl_cut h, List.all_append]
 show _ = (_ && true)
 rw [Bool.and_true]
def jnF : List ByteArray → ByteArray → Nat → ByteArray × Nat × Bool
 | [], s, n => if bsl s then (ByteArray.mk #[], n, false) else (s, n, true)
 | x :: r, s, n => if bsl s then jnF r (cutL s ++ tB x) (n + 1) else (s, n, true)
def jnP : List ByteArray → ByteArray → Nat → Bool → ByteArray × Nat × Bool
 | [], s, n, ok => if bsl s then (ByteArray.mk #[], n, false) else (s, n, ok)
 | x :: r, s, n, ok => if bsl s then jnP r (cutL s ++ tB x) (n + 1) (ok && clB x) else (s, n, ok)
theorem jnP_eq : ∀ (r : List ByteArray) (s : ByteArray) (n : Nat), (jnP r s n (clB s)).2.2 = ((jnF r s n).2.2 && clB (jnF r s n).1) ∧ ((jnF r s n).2.2 = true → (jnP r s n (clB s)).1 = (jnF r s n).1) ∧ (jnP r s n (clB s)).2.1 = (jnF r s n).2.1
 | [], s, n => by
  unfold jnP jnF
  cases h : bsl s with
  | true => exact ⟨rfl, fun _ => rfl, rfl⟩
  | false => exact ⟨by simp, fun _ => rfl, rfl⟩
 | x :: r, s, n => by
  unfold jnP jnF
  cases h : bsl s with
  | false => exact ⟨by simp, fun _ => rfl, rfl⟩
  | true =>
   rw [if_pos rfl, if_pos rfl]
   have e : (clB s && clB x) = clB (cutL s ++ tB x) := by rw [cl_app, cl_cut h, cl_tB]
   rw [e]
   exact jnP_eq r _ _
theorem jnF_n : ∀ (r : List ByteArray) (s : ByteArray) (n : Nat), n ≤ (jnF r s n).2.1 ∧ (jnF r s n).2.1 ≤ n + r.length
 | [], s, n => by
  unfold jnF
  split <;> exact ⟨Nat.le_refl _, Nat.le_refl _⟩
 | x :: r, s, n => by
  unfold jnF
  split
  ·have := jnF_n r (cutL s ++ tB x) (n + 1)
   rw [List.length_cons]
   omega
  ·exact ⟨Nat.le_refl _, Nat.le_add_right _ _⟩
def alnum (c : Int) : Bool := decide (97 ≤ c ∧ c ≤ 122) || (decide (65 ≤ c ∧ c ≤ 90) || decide (48 ≤ c ∧ c ≤ 57))
abbrev wrdO : ByteArray := ByteArray.mk #[45, 95, 46]
end
end Go.Proofs.YtkkoedniahnneaaDoor.K
