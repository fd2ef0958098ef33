/-
 Plain laws on one more link.
-/
import Derived.Test.YtfehjdaielifiaaGreatP23
import Derived.Test.YtfehjdaielifiaaGreatV25
set_option linter.unusedSimpArgs false
set_option linter.unusedVariables false
namespace Go.Proofs.YtfehjdaielifiaaGreat.K
open Go.RowKit
theorem linksB_app {u : Keep} {day : Int} (hu : validF u = true) (hd : 0 ≤ day ∧ day ≤ 40000) : ∀ {l : List Link} {pv : Option Int}, linksB pv l = true → (∀ d, pv = some d → d < day) → (∀ x, x ∈ l → x.2.1 < day) → linksB pv (l ++ [(u, (day, ()))]) = true
 | [], pv, _, h2, _ => by
  rw [List.nil_append, linksB_cons, hu, decide_eq_true hd]
  cases pv with
  | none => rfl
  | some d =>
   show (true && true && decide (d < day) && true) = true
   rw [decide_eq_true (h2 d rfl)]
   rfl
 | a :: l, pv, h, h2, h3 => by
  rw [linksB_cons, Bool.and_eq_true] at h
  rw [List.cons_append, linksB_cons, h.1, Bool.true_and]
  exact linksB_app hu hd h.2 (fun d hd => by injection hd with hd; have := h3 a (by simp); omega) (fun x hx => h3 x (by simp [hx]))
theorem last_mem {i : Item} (h : 1 ≤ i.2.2.2.1.length) : ∃ l x, i.2.2.2.1 = l ++ [x] ∧ lastDay i = x.2.1 := by
 rcases List.eq_nil_or_concat i.2.2.2.1 with e | ⟨l, x, e⟩
 ·rw [e] at h
  simp at h
 ·rw [List.concat_eq_append] at e
  refine ⟨l, x, e, ?_⟩
  unfold lastDay
  rw [e]
  have hk : (l ++ [x]).length - 1 = l.length := by simp
  rw [hk, lgt_get (y := tyLink) (by simp), List.getElem_append_right (Nat.le_refl _)]
  simp
theorem item_more {i : Item} {u : Keep} {day : Int} (hi : itemOk i = true) (hu : validF u = true) (h1 : lastDay i < day) (h2 : day ≤ 40000) (h8 : i.2.2.2.1.length < 8) : itemOk (moreL i u day) = true := by
 have hI := itemOk_iff.1 hi
 obtain ⟨l, x, e, hx⟩ := last_mem (i := i) hI.2.2.2.1.1
 have ha := linksB_asc hI.2.2.2.2.1
 have hall := linksB_all hI.2.2.2.2.1
 have hlt : ∀ z, z ∈ i.2.2.2.1 → z.2.1 < day := fun z hz => by
  have hp := ha.1
  rw [e] at hz hp
  obtain ⟨_, _, hp⟩ := List.pairwise_append.1 hp
  rcases List.mem_append.1 hz with hz | hz
  ·have := hp z hz x (by simp)
   omega
  ·rw [List.mem_singleton.1 hz]
   omega
 have hx0 := (hall x (by rw [e]; simp)).2
 refine itemOk_iff.2 ⟨hI.1, hI.2.1, hI.2.2.1, ?_, ?_, ?_⟩
 ·show 1 ≤ (i.2.2.2.1 ++ [(u, (day, ()))]).length ∧ (i.2.2.2.1 ++ [(u, (day, ()))]).length ≤ 8
  rw [List.length_append, List.length_singleton]
  omega
 ·exact linksB_app hu ⟨by omega, h2⟩ hI.2.2.2.2.1 (fun d hd => by cases hd) hlt
 ·show ((i.2.2.2.1 ++ [(u, (day, ()))]).headD ((0, (0, ())), (0, ()))).2.1 ≤ i.2.2.2.2.1 ∧ _
  have e2 : (i.2.2.2.1 ++ [(u, (day, ()))]).headD ((0, (0, ())), (0, ())) = i.2.2.2.1.headD ((0, (0, ())), (0, ())) := by
   cases hq : i.2.2.2.1 with
   | nil => rw [hq] at hI; simp at hI
   | cons a r => rfl
  rw [e2]
  exact hI.2.2.2.2.2
theorem lks_more (y : Policy) (i : Item) (u : Keep) (day : Int) : lksF y (moreL i u day) = lksF y i ++ [lkF y i.2.2.1 (u, (day, ()))] := by
 show (i.2.2.2.1 ++ [(u, (day, ()))]).map (lkF y i.2.2.1) = _
 rw [List.map_append]
 rfl
theorem cnt_app (x : LinkX) : ∀ (r : List LinkX) (a : LinkX), cntL a (r ++ [x]) = if cntL a r = r.length then (if cnd ((a :: r).getLast (by simp)) x then r.length + 1 else r.length) else cntL a r
 | [], a => rfl
 | b :: r, a => by
  have e1 : cntL a (b :: r ++ [x]) = if cnd a b then cntL b (r ++ [x]) + 1 else 0 := rfl
  have e2 : cntL a (b :: r) = if cnd a b then cntL b r + 1 else 0 := rfl
  have e3 : (a :: b :: r).getLast (by simp) = (b :: r).getLast (by simp) := List.getLast_cons (by simp)
  rw [e1, e2, e3, cnt_app x r b]
  by_cases hc : cnd a b = true
  ·rw [if_pos hc, if_pos hc]
   by_cases hl : cntL b r = r.length
   ·rw [if_pos hl, if_pos (show cntL b r + 1 = (b :: r).length by rw [hl]; rfl)]
    by_cases hx : cnd ((b :: r).getLast (by simp)) x = true
    ·rw [if_pos hx, if_pos hx]
     rfl
    ·rw [if_neg hx, if_neg hx]
     rfl
   ·rw [if_neg hl, if_neg (show ¬ cntL b r + 1 = (b :: r).length by rw [List.length_cons]; omega)]
  ·rw [if_neg hc, if_neg hc]
   rw [if_neg (show ¬ 0 = (b :: r).length by rw [List.length_cons]; omega)]
theorem sg_more {l : List LinkX} {b x : LinkX} (ho : sgCount (l ++ [b]) = ((l ++ [b]).length : Int)) :
  (cnd b x = true → sgCount (l ++ [b] ++ [x]) = ((l ++ [b]).length : Int) + 1 ∧ sgLast (l ++ [b] ++ [x]) = x) ∧ (cnd b x = false → sgCount (l ++ [b] ++ [x]) = ((l ++ [b]).length : Int) ∧ sgLast (l ++ [b] ++ [x]) = b) ∧ sgLast (l ++ [b]) = b := by
 obtain ⟨a, r, e⟩ : ∃ a r, l ++ [b] = a :: r := by cases l <;> exact ⟨_, _, rfl⟩
 have hb : (a :: r).getLast (by simp) = b := by
  have : (l ++ [b]).getLast (by simp) = b := List.getLast_concat
  simp only [e] at this
  exact this
 have hn : (l ++ [b]).length = l.length + 1 := by simp
 have g1 : (l ++ [b] ++ [x]).getD (l.length + 1) tyLinkX.zero = x := by
  rw [List.getD_eq_getElem?_getD, List.getElem?_append_right (by rw [hn]; omega), hn, Nat.sub_self]
  rfl
 have g2 : (l ++ [b] ++ [x]).getD l.length tyLinkX.zero = b := by
  rw [List.getD_eq_getElem?_getD, List.getElem?_append_left (by rw [hn]; omega), List.getElem?_append_right (Nat.le_refl _), Nat.sub_self]
  rfl
 have g3 : (l ++ [b]).getD l.length tyLinkX.zero = b := by
  rw [List.getD_eq_getElem?_getD, List.getElem?_append_right (Nat.le_refl _), Nat.sub_self]
  rfl
 have hc : cntL a r = r.length := by
  rw [e] at ho
  have : sgCount (a :: r) = 1 + (cntL a r : Int) := rfl
  rw [this, List.length_cons] at ho
  omega
 have hr : r.length = l.length := by
  have := congrArg List.length e
  rw [hn, List.length_cons] at this
  omega
 have hq : sgCount (l ++ [b] ++ [x]) = 1 + (cntL a (r ++ [x]) : Int) := by rw [e]; rfl
 have hk := cnt_app x r a
 rw [if_pos hc, hb] at hk
 refine ⟨fun h => ?_, fun h => ?_, ?_⟩
 ·rw [if_pos h] at hk
  rw [hq, hk]
  refine ⟨by rw [hn]; omega, ?_⟩
  unfold sgLast
  rw [hq, hk, show (1 + ((r.length + 1 : Nat) : Int) - 1).toNat = l.length + 1 by omega]
  exact g1
 ·rw [if_neg (by rw [h]; simp)] at hk
  rw [hq, hk]
  refine ⟨by rw [hn]; omega, ?_⟩
  unfold sgLast
  rw [hq, hk, show (1 + ((r.length : Nat) : Int) - 1).toNat = l.length by omega]
  exact g2
 ·unfold sgLast
  rw [ho, hn, show (((l.length + 1 : Nat) : Int) - 1).toNat = l.length by omega]
  exact g3
theorem ren_ok {y : Policy} {i : Item} {u : Keep} {day : Int} (hf : fineB y i = true) (hu : validF u = true) (h1 : lastDay i < day) (h2 : day ≤ 40000) (h8 : i.2.2.2.1.length < 8) : RenewF y i u day = (moreL i u day, 0) ∧ fineB y (moreL i u day) = true := by
 have hf2 := hf
 simp only [fineB, Bool.and_eq_true] at hf2
 constructor
 ·have e : renE y i u day = 0 := by
   unfold renE
   rw [if_neg (by rw [hf]; simp), if_neg (by rw [hu]; simp), if_neg (by omega), if_neg (by omega)]
  unfold RenewF
  rw [if_pos e]
 ·unfold fineB
  rw [hf2.1, item_more hf2.2 hu h1 h2 h8]
  rfl
end Go.Proofs.YtfehjdaielifiaaGreat.K
