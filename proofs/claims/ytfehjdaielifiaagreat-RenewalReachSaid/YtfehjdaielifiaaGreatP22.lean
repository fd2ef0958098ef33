/-
  Items: those out of dice are valid; links in time; a policy without rules.
-/
import Derived.Test.YtfehjdaielifiaaGreatV21
import Derived.Test.YtfehjdaielifiaaGreatM3
import Derived.Test.YtfehjdaielifiaaGreatM2P
set_option linter.unusedSimpArgs false
set_option linter.unusedVariables false
namespace Go.Proofs.YtfehjdaielifiaaGreat.K
open Go.RowKit
theorem useL_valid : useL.all validF = true := by kernel_rfl
theorem lgt_mem {y : Ty} {l : List y.T} {i : Nat} (h : i < l.length) : lgt y l i ∈ l := by
  rw [lgt_get (y := y) h]
  exact List.getElem_mem h
theorem step_in {e : Dice} : 0 ≤ dof e [5, 30, 0, 100] ∧ dof e [5, 30, 0, 100] ≤ 100 := by
  have h := dof_mem (d := e) (l := [5, 30, 0, 100]) (by decide)
  simp only [List.mem_cons, List.not_mem_nil, or_false] at h
  omega
theorem linkZ_ok : ∀ (n : Nat) (day : Int) (d : Dice) (pv : Option Int), n ≤ 3 → 0 ≤ day → day + 101 * n ≤ 1000 → (∀ e, pv = some e → e < day) → linksB pv (linkZ n day d).1 = true
  | 0, _, _, pv, _, _, _, _ => by cases pv <;> rfl
  | n + 1, day, d, pv, h1, h2, h3, h4 => by
    have hv := dval_lt (d := d) (n := 6) (by omega)
    have hs := step_in (e := dnext d 6)
    have e1 : iadd .i64 (iadd .i64 day 1) (dof (dnext d 6) [5, 30, 0, 100]) = day + 1 + dof (dnext d 6) [5, 30, 0, 100] := by rw [iadd_in (a := day) (b := 1) (by omega), iadd_in (by omega)]
    unfold linkZ
    rw [linksB_cons, e1]
    have hu : validF (lgt tyKeep useL (dval d 6).toNat) = true := List.all_eq_true.1 useL_valid _ (lgt_mem (y := tyKeep) (by have : useL.length = 6 := rfl; omega))
    have hr := linkZ_ok n (day + 1 + dof (dnext d 6) [5, 30, 0, 100]) (dofN (dnext d 6) [5, 30, 0, 100]) (some day) (by omega) (by omega) (by omega) (fun e he => by injection he; omega)
    simp only [hu, hr, decide_eq_true (show 0 ≤ day ∧ day ≤ 40000 by omega), Bool.true_and, Bool.and_true]
    cases pv with
    | none => rfl
    | some e => exact decide_eq_true (h4 e rfl)
theorem linkZ_head : ∀ (n : Nat) (day : Int) (d : Dice), 0 < n → ((linkZ n day d).1.headD ((0, (0, ())), (0, ()))).2.1 = day
  | 0, _, _, h => by omega
  | n + 1, day, d, _ => rfl
theorem itLk_len (d : Dice) : 1 ≤ (itLk d).1.length ∧ (itLk d).1.length ≤ 3 := by
  have b3 := dval_lt (d := dnext (dnext (dnext d 2) 4) 20) (n := 3) (by omega)
  have e3 : iadd .i64 1 (dval (dnext (dnext (dnext d 2) 4) 20) 3) = 1 + dval (dnext (dnext (dnext d 2) 4) 20) 3 := iadd_in (by omega)
  unfold itLk
  rw [link_len, e3]
  omega
theorem item_ok (d : Dice) {s : ByteArray} (hs : namedF s = true) : itemOk (itemV d s) = true := by
  have b2 := dval_lt (d := d) (n := 2) (by omega)
  have b4 := dval_lt (d := dnext d 2) (n := 4) (by omega)
  have b20 := dval_lt (d := dnext (dnext d 2) 4) (n := 20) (by omega)
  have b3 := dval_lt (d := dnext (dnext (dnext d 2) 4) 20) (n := 3) (by omega)
  have e2 : iadd .i64 1 (dval d 2) = 1 + dval d 2 := iadd_in (by omega)
  have e4 : iadd .i64 1 (dval (dnext d 2) 4) = 1 + dval (dnext d 2) 4 := iadd_in (by omega)
  have e3 : iadd .i64 1 (dval (dnext (dnext (dnext d 2) 4) 20) 3) = 1 + dval (dnext (dnext (dnext d 2) 4) 20) 3 := iadd_in (by omega)
  have hl := itLk_len d
  have hh : ((itLk d).1.headD ((0, (0, ())), (0, ()))).2.1 = dval (dnext (dnext d 2) 4) 20 := linkZ_head _ _ _ (by rw [e3]; omega)
  have e0 : lgt tyLink (itLk d).1 0 = (itLk d).1.headD ((0, (0, ())), (0, ())) := by
    cases hq : (itLk d).1 with
    | nil => rw [hq] at hl; simp at hl
    | cons a l => rfl
  have hu : 0 ≤ dof (itLk d).2 [50, 300, 0, 3000] ∧ dof (itLk d).2 [50, 300, 0, 3000] ≤ 3000 := by
    have h := dof_mem (d := (itLk d).2) (l := [50, 300, 0, 3000]) (by decide)
    simp only [List.mem_cons, List.not_mem_nil, or_false] at h
    omega
  have eu : iadd .i64 (lgt tyLink (itLk d).1 0).2.1 (dof (itLk d).2 [50, 300, 0, 3000]) = (lgt tyLink (itLk d).1 0).2.1 + dof (itLk d).2 [50, 300, 0, 3000] := iadd_in (by rw [e0, hh]; omega)
  refine itemOk_iff.2 ⟨hs, ?_, ?_, ?_, ?_, ?_⟩
  · show 1 ≤ iadd .i64 1 (dval d 2) ∧ iadd .i64 1 (dval d 2) ≤ 2
    omega
  · show 1 ≤ iadd .i64 1 (dval (dnext d 2) 4) ∧ iadd .i64 1 (dval (dnext d 2) 4) ≤ 4
    omega
  · show 1 ≤ (itLk d).1.length ∧ (itLk d).1.length ≤ 8
    omega
  · exact linkZ_ok _ _ _ none (by rw [e3]; omega) (by omega) (by omega) (fun e he => by cases he)
  · show ((itLk d).1.headD ((0, (0, ())), (0, ()))).2.1 ≤ iadd .i64 (lgt tyLink (itLk d).1 0).2.1 (dof (itLk d).2 [50, 300, 0, 3000]) ∧ iadd .i64 (lgt tyLink (itLk d).1 0).2.1 (dof (itLk d).2 [50, 300, 0, 3000]) ≤ 40000
    rw [eu, e0, hh]
    omega
theorem named_deed : namedF (ByteArray.mk #[100, 101, 101, 100]) = true := by kernel_rfl
theorem len_of {y : Policy} {i : Item} (h : fineB y i = true) : fineLen y i = true := by
  simp only [fineB, Bool.and_eq_true] at h
  have hi := (itemOk_iff.1 h.2).1
  simp only [namedF, Bool.and_eq_true, decide_eq_true_eq] at hi
  unfold fineLen
  have hp : polLen y = true := (pol_len h.1).1
  simp only [hp, nameOk, Bool.true_and, decide_eq_true_eq]
  omega
/-! links in time -/
def cnd (a x : LinkX) : Bool := !a.2.2.1 || ilt x.1 a.2.1
/-! a policy without rules -/
end Go.Proofs.YtfehjdaielifiaaGreat.K
