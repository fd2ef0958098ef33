/-
  Plain laws on policies that allow more, and on how far an item reaches.
-/
import Derived.Test.YtfehjdaielifiaaGreatP26
set_option linter.unusedSimpArgs false
set_option linter.unusedVariables false
namespace Go.Proofs.YtfehjdaielifiaaGreat.K
open Go.RowKit
theorem first_dayR {i : Item} (hi : itemOk i = true) {z : Link} (hz : z ∈ i.2.2.2.1) : (lgt tyLink i.2.2.2.1 (Int.toNat 0)).2.1 ≤ z.2.1 := by
  have hI := itemOk_iff.1 hi
  have ha := (linksB_asc hI.2.2.2.2.1).1
  cases hq : i.2.2.2.1 with
  | nil => rw [hq] at hz; cases hz
  | cons a r =>
    rw [hq] at hz ha
    have e : lgt tyLink (a :: r) (Int.toNat 0) = a := rfl
    rw [e]
    rcases List.mem_cons.1 hz with rfl | hz
    · exact Int.le_refl _
    · exact Int.le_of_lt ((List.pairwise_cons.1 ha).1 z hz)
theorem sgLast_mem {l : List LinkX} (h : l ≠ []) : sgLast l ∈ l := by
  have hc := sgCount_le h
  have hk : (sgCount l - 1).toNat < l.length := by omega
  unfold sgLast
  rw [List.getD_eq_getElem?_getD, List.getElem?_eq_getElem hk]
  exact List.getElem_mem hk
/-- an item fails where one of its links is worth nothing any more -/
theorem fails_at {y : Policy} {i : Item} (hf : fineB y i = true) (h : (failsL y i).2 = true) : ∃ x, x ∈ i.2.2.2.1 ∧ (fallL (spansF y x.1 i.2.2.1)).2 = true ∧ (failsL y i).1 = max x.2.1 (fallL (spansF y x.1 i.2.2.1)).1 := by
  have hf2 := hf
  simp only [fineB, Bool.and_eq_true] at hf2
  have hI := itemOk_iff.1 hf2.2
  have hlen : (lksF y i).length = i.2.2.2.1.length := by simp [lksF]
  have hne : lksF y i ≠ [] := fun e => by rw [e] at hlen; simp at hlen; omega
  have main : ∀ z, z ∈ lksF y i → z.2.2.1 = true → (failsL y i).1 = (goneV z).1 → ∃ x, x ∈ i.2.2.2.1 ∧ (fallL (spansF y x.1 i.2.2.1)).2 = true ∧ (failsL y i).1 = max x.2.1 (fallL (spansF y x.1 i.2.2.1)).1 := fun z hz h1 h2 => by
    obtain ⟨x, hx, rfl⟩ := List.mem_map.1 hz
    refine ⟨x, hx, h1, ?_⟩
    rw [h2, gone_eq]
    rfl
  by_cases hk : ieq i.2.1 1 = true
  · have e : failsL y i = secFails (lksF y i) := by unfold failsL; rw [if_pos hk]
    rw [e] at h
    obtain ⟨z, h1, h2, h3⟩ := sec_at h
    exact main z h1 h2 (by rw [e, h3])
  · have e : failsL y i = sgFails (lksF y i) := by unfold failsL; rw [if_neg hk]
    rw [e] at h
    have h1 := sgF_true.1 h
    exact main _ (sgLast_mem hne) h1 (by rw [e, sgF_val h1])
theorem reach_in {y : Policy} {i : Item} (hf : fineB y i = true) {D : Int} (hD : D = (lgt tyLink i.2.2.2.1 (Int.toNat 0)).2.1) : D - 1 ≤ reachF y i ∧ reachF y i ≤ 40000 ∧ 0 ≤ D ∧ D ≤ 40000 := by
  have hf2 := hf
  simp only [fineB, Bool.and_eq_true] at hf2
  have hI := itemOk_iff.1 hf2.2
  have h0 : 0 ≤ D ∧ D ≤ 40000 := by
    rw [hD]
    exact (linksB_all hI.2.2.2.2.1 _ (lgt_mem (y := tyLink) (l := i.2.2.2.1) (i := 0) (by show 0 < i.2.2.2.1.length; omega))).2
  have hfd : ∀ x : Link, x ∈ i.2.2.2.1 → D ≤ x.2.1 := fun x hx => by
    rw [hD]
    exact first_dayR hf2.2 hx
  clear hD
  rw [reach_fine hf]
  cases hq : (failsL y i).2 with
  | false =>
    rw [if_neg (show ¬ (false = true) by simp)]
    omega
  | true =>
    obtain ⟨x, h1, h2, h3⟩ := fails_at hf hq
    have h4 := hfd x h1
    have h5 := (linksB_all hI.2.2.2.2.1 x h1).2
    have h6 := fallI hf2.1 (f := (fallL (spansF y x.1 i.2.2.1)).1) (Prod.ext rfl h2)
    rw [if_pos rfl, h3, isub_in (by omega)]
    omega
/-! a policy that allows more -/
def More (y z : Policy) (p : Int) : Prop := ∀ (u : Keep) (d : Int), 0 ≤ d → d ≤ 40000 → allF y u p d = true → allF z u p d = true
theorem cnt_mono {f g : Link → LinkX} (h : ∀ x, leL (f x) (g x)) : ∀ (r : List Link) (a : Link), cntL (f a) (r.map f) = r.length → cntL (g a) (r.map g) = r.length
  | [], _, _ => rfl
  | b :: r, a, hc => by
    have e1 : cntL (f a) ((b :: r).map f) = if cnd (f a) (f b) then cntL (f b) (r.map f) + 1 else 0 := rfl
    have e2 : cntL (g a) ((b :: r).map g) = if cnd (g a) (g b) then cntL (g b) (r.map g) + 1 else 0 := rfl
    rw [e1] at hc
    rw [e2]
    by_cases hk : cnd (f a) (f b) = true
    · rw [if_pos hk, List.length_cons] at hc
      have ih := cnt_mono h r b (by omega)
      have hg : cnd (g a) (g b) = true := by
        cases hq : cnd (g a) (g b) with
        | true => rfl
        | false =>
          obtain ⟨q1, q2⟩ := cnd_false.1 hq
          obtain ⟨p1, p2⟩ := (h a).2 q1
          have : cnd (f a) (f b) = false := cnd_false.2 ⟨p1, by rw [(h b).1]; omega⟩
          rw [this] at hk
          cases hk
      rw [if_pos hg, ih, List.length_cons]
    · rw [if_neg hk, List.length_cons] at hc
      omega
theorem latest_mono {y z : Policy} {i : Item} (hf : fineB y i = true) (hz : polOk z = true) (hm : More y z i.2.2.1) (ho : (LatestF y i).2.1 = true) : fineB z i = true ∧ (LatestF z i).2.1 = true ∧ (LatestF y i).1 ≤ (LatestF z i).1 := by
  have hf2 := hf
  simp only [fineB, Bool.and_eq_true] at hf2
  have hI := itemOk_iff.1 hf2.2
  have fz : fineB z i = true := by unfold fineB; rw [hz, hf2.2]; rfl
  obtain ⟨l, x, e, hx, hk, hc, eL, hlt, hle, hl0, hcase⟩ := latest_law hf ho
  have hL : ∀ a : Link, leL (lkF y i.2.2.1 a) (lkF z i.2.2.1 a) := fun a => lk_mono hz hf2.1 (fun u d h0 h1 ha => hm u d h0 h1 ha) a
  have hlen : ∀ w : Policy, (lksF w i).length = i.2.2.2.1.length := fun w => by simp [lksF]
  obtain ⟨a, r, hr⟩ : ∃ a r, i.2.2.2.1 = a :: r := by
    cases hq : i.2.2.2.1 with
    | nil => rw [hq] at hI; simp at hI
    | cons a r => exact ⟨a, r, rfl⟩
  have ek : ∀ w : Policy, lksF w i = lkF w i.2.2.1 a :: r.map (lkF w i.2.2.1) := fun w => by
    show i.2.2.2.1.map _ = _
    rw [hr]
    rfl
  have es : ∀ w : Policy, sgCount (lksF w i) = 1 + (cntL (lkF w i.2.2.1 a) (r.map (lkF w i.2.2.1)) : Int) := fun w => by rw [ek]; rfl
  have hrl : i.2.2.2.1.length = r.length + 1 := by rw [hr]; rfl
  have hcz : sgCount (lksF z i) = (i.2.2.2.1.length : Int) := by
    have h1 := es y
    rw [hc] at h1
    have h2 := cnt_mono hL r a (by omega)
    rw [es z, h2]
    omega
  have hop : sgOpen (lksF z i) = true := by
    simp only [sgOpen, ieq_dec, llen, decide_eq_true_eq]
    rw [hcz, hlen]
  have eKz : lksF z i = l.map (lkF z i.2.2.1) ++ [lkF z i.2.2.1 x] := by
    show i.2.2.2.1.map _ = _
    rw [e, List.map_append]
    rfl
  have hc2 : sgCount (l.map (lkF z i.2.2.1) ++ [lkF z i.2.2.1 x]) = ((l.map (lkF z i.2.2.1) ++ [lkF z i.2.2.1 x]).length : Int) := by rw [← eKz, hcz, hlen]
  have sL : sgLast (lksF z i) = lkF z i.2.2.1 x := by rw [eKz]; exact (sg_more (x := lkF z i.2.2.1 x) hc2).2.2
  have hge : lastI2 y i ≤ lastI2 z i := by
    cases hfa : (fallL (spansF z x.1 i.2.2.1)).2 with
    | false =>
      have hno : (sgFails (lksF z i)).2 = false := by
        cases hq : (sgFails (lksF z i)).2 with
        | false => rfl
        | true =>
          have := sgF_true.1 hq
          rw [sL] at this
          have h2 : (fallL (spansF z x.1 i.2.2.1)).2 = true := this
          rw [hfa] at h2
          cases h2
      have e4 : lastI2 z i = 40000 := by unfold lastI2; rw [hno]; rfl
      omega
    | true =>
      obtain ⟨q1, q2⟩ := (hL x).2 hfa
      have q1 : (fallL (spansF y x.1 i.2.2.1)).2 = true := q1
      have q2 : (fallL (spansF y x.1 i.2.2.1)).1 ≤ (fallL (spansF z x.1 i.2.2.1)).1 := q2
      have hfi := fallI hz (f := (fallL (spansF z x.1 i.2.2.1)).1) (Prod.ext rfl hfa)
      rcases hcase with ⟨c1, _, _⟩ | ⟨f, c1, c2, c3, _⟩
      · rw [q1] at c1
        cases c1
      · rw [c1] at q2
        have q2 : f ≤ (fallL (spansF z x.1 i.2.2.1)).1 := q2
        have hv : sgFails (lksF z i) = (max x.2.1 (fallL (spansF z x.1 i.2.2.1)).1, true) := by
          rw [sgF_val (l := lksF z i) (by rw [sL]; exact hfa), sL, gone_eq]
          rfl
        have e4 : lastI2 z i = max x.2.1 (fallL (spansF z x.1 i.2.2.1)).1 - 1 := by
          unfold lastI2
          rw [hv, if_pos rfl]
          exact isub_in (by simp only; omega)
        omega
  have eZ : LatestF z i = (lastI2 z i, true, 0) := by
    unfold LatestF
    rw [fz, if_pos rfl, hk, if_neg (by simp), hop, if_pos rfl, show ile (lastI2 z i) (lastDay i) = false from decide_eq_false (by omega), if_neg (by simp)]
  rw [eZ, eL]
  exact ⟨fz, rfl, hge⟩
/-- a rule more that allows -/
theorem all_app {y : Policy} {r : Rule} {ks : List Keep} {u : Keep} {p d : Int} : allF (y.1 ++ [r], (ks, ())) u p d = if matches' r u p d then r.1 else allF y u p d := by
  unfold allF allL
  rw [decLa]
  by_cases hm : matches' r u p d = true
  · rw [if_pos hm, if_pos hm]
    simp
  · rw [if_neg hm, if_neg hm]
    cases hk : decL y.1 u p d with
    | none => rfl
    | some k =>
      have := decLl hk
      simp only [List.getElem?_append_left this]
theorem all_allow {y : Policy} {r : Rule} (hr : r.1 = true) {ks : List Keep} (p : Int) : More y (y.1 ++ [r], (ks, ())) p := fun u d _ _ h => by
  rw [all_app, hr]
  split
  · rfl
  · exact h
theorem no_fall {y : Policy} {u : Keep} {p : Int} (hp : polOk y = true) (h : allF y u p 40000 = true) : (fallL (spansF y u p)).2 = false := by
  cases hq : (fallL (spansF y u p)).2 with
  | false => rfl
  | true =>
    have hf : fallL (spansF y u p) = ((fallL (spansF y u p)).1, true) := Prod.ext rfl hq
    have := fallI hp hf
    rw [fallA hp hf (by omega) (by omega) this.2] at h
    cases h
end Go.Proofs.YtfehjdaielifiaaGreat.K
