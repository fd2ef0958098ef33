/-
 Get by the answer; agree; the law's texts.
-/
import Derived.Test.YtkkoedniahnneaaDoorA16
set_option linter.unusedSimpArgs false
set_option linter.unusedVariables false
namespace Go.Proofs.YtkkoedniahnneaaDoor.K
open Go.RowKit
noncomputable section
theorem pgZ_len : ∀ (n : Nat) (l : List ByteArray) (sec : ByteArray) (i : Int) (out : List Setting), (pgZ n l sec i out).1.length ≤ out.length + n
 | 0, _, _, _, _ => Nat.le_refl _
 | n + 1, l, sec, i, out => by
  unfold pgZ
  cases ilt i (llen l) with
  | false => exact Nat.le_add_right _ _
  | true =>
   cases (!(rjnF l i).2.2 || !clB (rjnF l i).1) with
   | true => exact Nat.le_add_right _ _
   | false =>
    simp only [cond_true, cond_false]
    cases h : stpS (rjnF l i).1 sec (i + 1) out with
    | none => exact Nat.le_add_right _ _
    | some p =>
     have h1 := stp_len h
     have h2 := pgZ_len n l p.1 (i + (rjnF l i).2.1) p.2
     simp only
     omega
theorem dwd_size {d : Dice} {l : List ByteArray} {m : Nat} (h : l.all (fun x => decide (x.size ≤ m)) = true) : (dwdG d l).size ≤ m := by
 unfold dwdG
 rw [List.getD_eq_getElem?_getD]
 cases hx : l[(dval d l.length).toNat]? with
 | none => exact Nat.zero_le _
 | some x => exact of_decide_eq_true (List.all_eq_true.1 h x (List.mem_of_getElem? hx))
-- loop 0: (x3 : ByteArray) (x4 : Int) (y50000 : Dice); out: ('exit', 0) (x3 : ByteArray) (y50000 : Dice)
end
end Go.Proofs.YtkkoedniahnneaaDoor.K
