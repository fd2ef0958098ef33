/-
  Items: those out of dice are valid; links in time; a policy without rules.
-/
import Derived.Test.YtfehjdaielifiaaGreatV21
import Derived.Test.YtfehjdaielifiaaGreatM3
import Derived.Test.YtfehjdaielifiaaGreatM2P
set_option linter.unusedSimpArgs false
set_option linter.unusedVariables false
namespace Go.Proofs.YtfehjdaielifiaaGreat.K
open Go.RowKit
theorem useL_valid : useL.all validF = true := by kernel_rfl
theorem lgt_mem {y : Ty} {l : List y.T} {i : Nat} (h : i < l.length) : lgt y l i ∈ l := by
  rw [lgt_get (y := y) h]
  exact List.getElem_mem h
theorem step_in {e : Dice} : 0 ≤ dof e [5, 30, 0, 100] ∧ dof e [5, 30, 0, 100] ≤ 100 := by
  have h := dof_mem (d := e) (l := [5, 30, 0, 100]) (by decide)
  simp only [List.mem_cons, List.not_mem_nil, or_false] at h
  omega
theorem linkZ_ok : ∀ (n : Nat) (day : Int) (d : Dice) (pv : Option Int), n ≤ 3 → 0 ≤ day → day + 101 * n ≤ 1000 → (∀ e, pv = some e → e < day) → linksB pv (linkZ n day d).1 = true
  | 0, _, _, pv, _, _, _, _ => by cases pv <;> rfl
  | n + 1, day, d, pv, h1, h2, h3, h4 => by
    have hv := dval_lt (d := d) (n := 6) (by omega)
    have hs := step_in (e := dnext d 6)
    have e1 : iadd .i64 (iadd .i64 day 1) (dof (dnext d 6) [5, 30, 0, 100]) = day + 1 + dof (dnext d 6) [5, 30, 0, 100] := by rw [iadd_in (a := day) (b := 1) (by omega), iadd_in (by omega)]
    unfold linkZ
    rw [linksB_cons, e1]
    have hu : validF (lgt tyKeep useL (dval d 6).toNat) = true := List.all_eq_true.1 useL_valid _ (lgt_mem (y := tyKeep) (by have : useL.length = 6 := rfl; omega))
    have hr := linkZ_ok n (day + 1 + dof (dnext d 6) [5, 30, 0, 100]) (dofN (dnext d 6) [5, 30, 0, 100]) (some day) (by omega) (by omega) (by omega) (fun e he => by injection he; omega)
    simp only [hu, hr, decide_eq_true (show 0 ≤ day ∧ day ≤ 40000 by omega), Bool.true_and, Bool.and_true]
    cases pv with
    | none => rfl
    | some e => exact decide_eq_true (h4 e rfl)
theorem linkZ_head : ∀ (n : Nat) (day : Int) (d : Dice), 0 < n → ((linkZ n day d).1.headD ((0, (0, ())), (0, ()))).2.1 = day
  | 0, _, _, h => by omega
  | n + 1, day, d, _ => rfl
theorem itLk_len (d : Dice) : 1 ≤ (itLk d).1.length ∧ (itLk d).1.length ≤ 3 := by
  have b3 := dval_lt (d := dnext (dnext (dnext d 2) 4) 20) (n := 3) (by omega)
  have e3 : iadd .i64 1 (dval (dnext (dnext (dnext d 2) 4) 20) 3) = 1 + dval (dnext (dnext (dnext d 2) 4) 20) 3 := iadd_in (by omega)
  unfold itLk
  rw [link_len, e3]
  omega
theorem item_ok (d : Dice) {s : ByteArray} (hs : namedF s = true) : itemOk (itemV d s) = true := by
  have b2 := dval_lt (d := d) (n := 2) (by omega)
  have b4 := dval_lt (d := dnext d 2) (n := 4) (by omega)
  have b20 := dval_lt (d := dnext (dnext d 2) 4) (n := 20) (by omega)
  have b3 := dval_lt (d := dnext (dnext (dnext d 2) 4) 20) (n := 3) (by omega)
  have e2 : iadd .i64 1 (dval d 2) = 1 + dval d 2 := iadd_in (by omega)
  have e4 : iadd .i64 1 (dval (dnext d 2) 4) = 1 + dval (dnext d 2) 4 := iadd_in (by omega)
  have e3 : iadd .i64 1 (dval (dnext (dnext (dnext d 2) 4) 20) 3) = 1 + dval (dnext (dnext (dnext d 2) 4) 20) 3 := iadd_in (by omega)
  have hl := itLk_len d
  have hh : ((itLk d).1.headD ((0, (0, ())), (0, ()))).2.1 = dval (dnext (dnext d 2) 4) 20 := linkZ_head _ _ _ (by rw [e3]; omega)
  have e0 : lgt tyLink (itLk d).1 0 = (itLk d).1.headD ((0, (0, ())), (0, ())) := by
    cases hq : (itLk d).1 with
    | nil => rw [hq] at hl; simp at hl
    | cons a l => rfl
  have hu : 0 ≤ dof (itLk d).2 [50, 300, 0, 3000] ∧ dof (itLk d).2 [50, 300, 0, 3000] ≤ 3000 := by
    have h := dof_mem (d := (itLk d).2) (l := [50, 300, 0, 3000]) (by decide)
    simp only [List.mem_cons, List.not_mem_nil, or_false] at h
    omega
  have eu : iadd .i64 (lgt tyLink (itLk d).1 0).2.1 (dof (itLk d).2 [50, 300, 0, 3000]) = (lgt tyLink (itLk d).1 0).2.1 + dof (itLk d).2 [50, 300, 0, 3000] := iadd_in (by rw [e0, hh]; omega)
  refine itemOk_iff.2 ⟨hs, ?_, ?_, ?_, ?_, ?_⟩
  · show 1 ≤ iadd .i64 1 (dval d 2) ∧ iadd .i64 1 (dval d 2) ≤ 2
    omega
  · show 1 ≤ iadd .i64 1 (dval (dnext d 2) 4) ∧ iadd .i64 1 (dval (dnext d 2) 4) ≤ 4
    omega
  · show 1 ≤ (itLk d).1.length ∧ (itLk d).1.length ≤ 8
    omega
  · exact linkZ_ok _ _ _ none (by rw [e3]; omega) (by omega) (by omega) (fun e he => by cases he)
  · show ((itLk d).1.headD ((0, (0, ())), (0, ()))).2.1 ≤ iadd .i64 (lgt tyLink (itLk d).1 0).2.1 (dof (itLk d).2 [50, 300, 0, 3000]) ∧ iadd .i64 (lgt tyLink (itLk d).1 0).2.1 (dof (itLk d).2 [50, 300, 0, 3000]) ≤ 40000
    rw [eu, e0, hh]
    omega
theorem item_kind {i : Item} {k : Int} (h : itemOk i = true) (hk : 1 ≤ k ∧ k ≤ 2) : itemOk (i.1, (k, i.2.2)) = true := by
  have h := itemOk_iff.1 h
  exact itemOk_iff.2 ⟨h.1, hk, h.2.2⟩
theorem named_deed : namedF (ByteArray.mk #[100, 101, 101, 100]) = true := by kernel_rfl
theorem named_vault : namedF (ByteArray.mk #[118, 97, 117, 108, 116]) = true := by kernel_rfl
theorem len_of {y : Policy} {i : Item} (h : fineB y i = true) : fineLen y i = true := by
  simp only [fineB, Bool.and_eq_true] at h
  have hi := (itemOk_iff.1 h.2).1
  simp only [namedF, Bool.and_eq_true, decide_eq_true_eq] at hi
  unfold fineLen
  have hp : polLen y = true := (pol_len h.1).1
  simp only [hp, nameOk, Bool.true_and, decide_eq_true_eq]
  omega
/-! links in time -/
def cnd (a x : LinkX) : Bool := !a.2.2.1 || ilt x.1 a.2.1
theorem cnt_lt : ∀ (r : List LinkX) (a : LinkX) (i : Nat), i < cntL a r → ∃ x y, (a :: r)[i]? = some x ∧ (a :: r)[i + 1]? = some y ∧ cnd x y = true
  | [], a, i, h => by simp [cntL] at h
  | b :: r, a, i, h => by
    unfold cntL at h
    cases hq : (!a.2.2.1 || ilt b.1 a.2.1) with
    | false => rw [hq] at h; simp at h
    | true =>
      rw [hq] at h
      cases i with
      | zero => exact ⟨a, b, rfl, rfl, hq⟩
      | succ i =>
        obtain ⟨x, y, h1, h2, h3⟩ := cnt_lt r b i (by simpa using h)
        exact ⟨x, y, by simpa using h1, by simpa using h2, h3⟩
theorem cnt_eq : ∀ (r : List LinkX) (a : LinkX), cntL a r < r.length → ∃ x y, (a :: r)[cntL a r]? = some x ∧ (a :: r)[cntL a r + 1]? = some y ∧ cnd x y = false
  | [], a, h => by simp at h
  | b :: r, a, h => by
    unfold cntL at h ⊢
    cases hq : (!a.2.2.1 || ilt b.1 a.2.1) with
    | false => exact ⟨a, b, rfl, rfl, hq⟩
    | true =>
      rw [hq] at h
      simp only [if_true, List.length_cons] at h
      obtain ⟨x, y, h1, h2, h3⟩ := cnt_eq r b (by omega)
      simp only [if_true]
      exact ⟨x, y, by simpa using h1, by simpa using h2, h3⟩
/-- links in time are the first ones -/
theorem cnt_cnd {l : List LinkX} {k : Nat} (h : k + 1 < l.length) (hk : (k : Int) + 1 ≤ sgCount l) : cnd l[k] l[k + 1] = ilt ((k : Int) + 1) (sgCount l) := by
  cases l with
  | nil => simp at h
  | cons a r =>
    have es : sgCount (a :: r) = 1 + (cntL a r : Int) := rfl
    rw [es] at hk ⊢
    by_cases hc : k < cntL a r
    · obtain ⟨x, y, h1, h2, h3⟩ := cnt_lt r a k hc
      rw [List.getElem?_eq_getElem (by omega)] at h1 h2
      injection h1 with h1
      injection h2 with h2
      rw [h1, h2, h3]
      exact (decide_eq_true (by omega)).symm
    · have hk2 : k = cntL a r := by omega
      subst hk2
      obtain ⟨x, y, h1, h2, h3⟩ := cnt_eq r a (by simp at h; omega)
      rw [List.getElem?_eq_getElem (by omega)] at h1 h2
      injection h1 with h1
      injection h2 with h2
      rw [h1, h2, h3]
      exact (decide_eq_false (by omega)).symm
/-! a policy without rules -/
def polE : Policy := (([] : List Rule), (([] : List Keep), ()))
theorem polE_spans (u : Keep) (p : Int) : spansF polE u p = [(0, (40001, ()))] := by
  unfold spansF
  rw [cuts_eq]
  rfl
theorem polE_lk (p : Int) (x : Link) : lkF polE p x = (x.2.1, (0, (false, ()))) := by
  unfold lkF
  rw [polE_spans]
  rfl
theorem sec_none : ∀ (l : List LinkX) (s : Int × Bool), (∀ x ∈ l, x.2.2.1 = false) → l.foldl secStep s = s
  | [], _, _ => rfl
  | a :: l, s, h => by
    have ha : (goneV a).2 = false := h a (by simp)
    rw [List.foldl_cons, show secStep s a = s by unfold secStep; rw [ha]; rfl]
    exact sec_none l s fun x hx => h x (by simp [hx])
theorem polE_fails (i : Item) : (failsL polE i).2 = false := by
  have hall : ∀ x ∈ lksF polE i, x.2.2.1 = false := fun x hx => by
    obtain ⟨y, _, rfl⟩ := List.mem_map.1 hx
    rw [polE_lk]
  unfold failsL
  split
  · rw [secFails, sec_none _ _ hall]
  · unfold sgFails
    have : (goneV (sgLast (lksF polE i))).2 = false := by
      show (sgLast (lksF polE i)).2.2.1 = false
      unfold sgLast
      rw [List.getD_eq_getElem?_getD]
      cases hq : (lksF polE i)[(sgCount (lksF polE i) - 1).toNat]? with
      | none => rfl
      | some x => exact hall x (List.mem_of_getElem? hq)
    rw [this]
    rfl
end Go.Proofs.YtfehjdaielifiaaGreat.K
