/-
 Get by the answer; agree; the law's texts.
-/
import Derived.Test.YtkkoedniahnneaaDoorA16
set_option linter.unusedSimpArgs false
set_option linter.unusedVariables false
namespace Go.Proofs.YtkkoedniahnneaaDoor.K
open Go.RowKit
noncomputable section
theorem dwd_size {d : Dice} {l : List ByteArray} {m : Nat} (h : l.all (fun x => decide (x.size ≤ m)) = true) : (dwdG d l).size ≤ m := by
 unfold dwdG
 rw [List.getD_eq_getElem?_getD]
 cases hx : l[(dval d l.length).toNat]? with
 | none => exact Nat.zero_le _
 | some x => exact of_decide_eq_true (List.all_eq_true.1 h x (List.mem_of_getElem? hx))
-- loop 0: (x3 : ByteArray) (x4 : Int) (y50000 : Dice); out: ('exit', 0) (x3 : ByteArray) (y50000 : Dice)
end
end Go.Proofs.YtkkoedniahnneaaDoor.K
