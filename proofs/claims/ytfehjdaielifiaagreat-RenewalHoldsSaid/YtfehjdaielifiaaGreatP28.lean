/-
  Plain laws on schedules.
-/
import Derived.Test.YtfehjdaielifiaaGreatP27
set_option linter.unusedSimpArgs false
set_option linter.unusedVariables false
namespace Go.Proofs.YtfehjdaielifiaaGreat.K
open Go.RowKit
theorem apply_nil (i : Item) : applyF i [] = i := by
  unfold applyF
  rw [List.append_nil]
theorem apply_app (i : Item) (x : Link) (l : List Link) : applyF (applyF i [x]) l = applyF i (x :: l) := by
  unfold applyF
  simp
def LinkOk (y : Policy) (p : Int) (x : Link) : Prop := validF x.1 = true ∧ 0 ≤ x.2.1 ∧ x.2.1 ≤ 40000 ∧ allF y x.1 p x.2.1 = true
structure SchOk (y : Policy) (i : Item) (l : List Link) : Prop where
  fine : fineB y (applyF i l) = true
  holds : ilt (reachF y (applyF i l)) i.2.2.2.2.1 = false
  none : l = [] ↔ ilt (reachF y i) i.2.2.2.2.1 = false
  count : l ≠ [] → ieq i.2.1 1 = false ∧ sgCount (lksF y i) = (i.2.2.2.1.length : Int) ∧ sgCount (lksF y (applyF i l)) = (i.2.2.2.1.length : Int) + (l.length : Int)
  all : ∀ x, x ∈ l → LinkOk y i.2.2.1 x
theorem sch_inv {y : Policy} {us : List Keep} {from_ : Int} (hu : us.all validF = true) (h0 : 0 ≤ from_) : ∀ (n : Nat) (i : Item) (out : List Link), fineB y i = true → 9 ≤ n + i.2.2.2.1.length →
    ((schZ y us from_ n i out).2 = 0 ∧ ∃ l, (schZ y us from_ n i out).1 = out ++ l ∧ SchOk y i l) ∨ (((schZ y us from_ n i out).2 = 51 ∨ (schZ y us from_ n i out).2 = 3) ∧ ilt (reachF y i) i.2.2.2.2.1 = true)
  | 0, i, out, hf, hn => by
    simp only [fineB, Bool.and_eq_true] at hf
    have := (itemOk_iff.1 hf.2).2.2.2.1.2
    omega
  | n + 1, i, out, hf, hn => by
    have hf2 := hf
    simp only [fineB, Bool.and_eq_true] at hf2
    have hI := itemOk_iff.1 hf2.2
    unfold schZ
    cases c1 : ilt (reachF y i) i.2.2.2.2.1 with
    | false =>
      refine .inl ⟨rfl, [], by simp, ⟨by rw [apply_nil]; exact hf, by rw [apply_nil]; exact c1, ⟨fun _ => c1, fun _ => rfl⟩, fun h => absurd rfl h, fun x hx => by cases hx⟩⟩
    | true =>
      rw [cond_true]
      cases c2 : (LatestF y i).2.1 with
      | false => exact .inr ⟨.inl rfl, rfl⟩
      | true =>
        rw [cond_true]
        cases c3 : (nxB y us from_ i).2 with
        | false => exact .inr ⟨.inl rfl, rfl⟩
        | true =>
          rw [cond_true]
          cases c4 : ige (llen i.2.2.2.1) 8 with
          | true => exact .inr ⟨.inr rfl, rfl⟩
          | false =>
            simp only [ige, llen, decide_eq_false_iff_not] at c4
            rw [cond_false]
            cases c5 : ile (reachF y (applyF i [(nxB y us from_ i).1])) (reachF y i) with
            | true => exact .inr ⟨.inl rfl, rfl⟩
            | false =>
              rw [cond_false]
              obtain ⟨u, d, g1, g2, g3, g4, g5, g6, g7, g8, g9, g10⟩ := nx_law hf hu h0 c2 c3
              obtain ⟨n1, n2, n3, n4⟩ := next_law hf c2 g2 (by omega) g6 g8 g10
              obtain ⟨_, _, _, _, hk, hc, _, _, _, hl0, _⟩ := latest_law hf c2
              have ea : applyF i [(nxB y us from_ i).1] = moreL i u d := by rw [g4]; rfl
              have hlen : (moreL i u d).2.2.2.1.length = i.2.2.2.1.length + 1 := by
                show (i.2.2.2.1 ++ [(u, (d, ()))]).length = _
                simp
              have ih := sch_inv hu h0 n (moreL i u d) (out ++ [(nxB y us from_ i).1]) n1 (by rw [hlen]; omega)
              rw [ea]
              rcases ih with ⟨k1, l, k2, k3⟩ | ⟨k1, _⟩
              · refine .inl ⟨k1, (nxB y us from_ i).1 :: l, by rw [k2, List.append_assoc]; rfl, ?_⟩
                have ec : applyF (moreL i u d) l = applyF i ((nxB y us from_ i).1 :: l) := by rw [← ea, apply_app]
                obtain ⟨s1, s2, s3, s4, s5⟩ := k3
                rw [ec] at s1 s2 s4
                refine ⟨s1, s2, ⟨fun h => (by cases h), fun h => absurd (c1.symm.trans h) (by simp)⟩, fun _ => ⟨hk, hc, ?_⟩, fun x hx => ?_⟩
                · by_cases hl : l = []
                  · subst hl
                    rw [← ec, apply_nil, n2]
                    rfl
                  · rw [(s4 hl).2.2, hlen, List.length_cons]
                    omega
                · rcases List.mem_cons.1 hx with rfl | hx
                  · rw [g4]
                    exact ⟨g2, by show 0 ≤ d; omega, g9, g10⟩
                  · exact s5 x hx
              · exact .inr ⟨k1, rfl⟩
theorem sch_cases {y : Policy} {us : List Keep} {i : Item} (hf : fineB y i = true) (hu : us.all validF = true) : ((schF y i us 0).2 = 0 ∧ SchOk y i (schF y i us 0).1) ∨ ((schF y i us 0).1 = [] ∧ ((schF y i us 0).2 = 51 ∨ (schF y i us 0).2 = 3) ∧ ilt (reachF y i) i.2.2.2.2.1 = true) := by
  have hf2 := hf
  simp only [fineB, Bool.and_eq_true] at hf2
  have hI := itemOk_iff.1 hf2.2
  have e : schF y i us 0 = if (schZ y us 0 (9 - i.2.2.2.1.length) i []).2 = 0 then ((schZ y us 0 (9 - i.2.2.2.1.length) i []).1, 0) else ([], (schZ y us 0 (9 - i.2.2.2.1.length) i []).2) := by
    unfold schF
    rw [if_neg (by rw [hf]; simp), any_valid, hu, if_neg (by simp), if_neg (by omega)]
  rw [e]
  rcases sch_inv (from_ := 0) hu (Int.le_refl 0) (9 - i.2.2.2.1.length) i [] hf (by omega) with ⟨k1, l, k2, k3⟩ | ⟨k1, k2⟩
  · rw [if_pos k1, k2, List.nil_append]
    exact .inl ⟨rfl, k3⟩
  · rw [if_neg (by omega)]
    exact .inr ⟨rfl, k1, k2⟩
theorem links_fine {y : Policy} {i : Item} (hf : fineB y i = true) : LinksF y i = (if ieq i.2.1 1 then (i.2.2.2.1.length : Int) else sgCount (lksF y i), 0) := by
  unfold LinksF
  rw [hf, if_pos rfl]
  have : scCount (lksF y i) = (i.2.2.2.1.length : Int) := by simp [scCount, lksF]
  rw [this]
theorem holds_fine {y : Policy} {i : Item} (hf : fineB y i = true) : HoldsF y i = (!(ilt (reachF y i) i.2.2.2.2.1), 0) := by
  unfold HoldsF
  rw [hf, if_pos rfl]
  simp only [ige, ilt]
  rw [← decide_not]
  congr 2
  exact propext ⟨fun h => Int.not_lt.2 h, fun h => Int.not_lt.1 h⟩
/-- a link that is not in time changes nothing -/
theorem late_law {y : Policy} {i : Item} {u : Keep} {d : Int} (hf : fineB y i = true) (ho : (LatestF y i).2.1 = true) (hm : fineB y (moreL i u d) = true) (hd : (LatestF y i).1 < d) (h4 : d ≤ 40000) : reachF y (moreL i u d) = reachF y i := by
  obtain ⟨l, x, e, hx, hk, hc, eL, hlt, hle, h0, hcase⟩ := latest_law hf ho
  rw [eL] at hd
  have hd : lastI2 y i < d := hd
  rcases hcase with ⟨_, q2, _⟩ | ⟨f, q1, q2, q3, q4⟩
  · omega
  · have eK : lksF y i = l.map (lkF y i.2.2.1) ++ [lkF y i.2.2.1 x] := by
      show i.2.2.2.1.map _ = _
      rw [e, List.map_append]
      rfl
    have hlen : (lksF y i).length = i.2.2.2.1.length := by simp [lksF]
    have hc2 : sgCount (l.map (lkF y i.2.2.1) ++ [lkF y i.2.2.1 x]) = ((l.map (lkF y i.2.2.1) ++ [lkF y i.2.2.1 x]).length : Int) := by rw [← eK, hc, hlen]
    have hfa : (lkF y i.2.2.1 x).2.2.1 = true := by show (fallL (spansF y x.1 i.2.2.1)).2 = true; rw [q1]
    have hcd : cnd (lkF y i.2.2.1 x) (lkF y i.2.2.1 (u, (d, ()))) = false := cnd_false.2 ⟨hfa, by show (fallL (spansF y x.1 i.2.2.1)).1 ≤ d; rw [q1]; show f ≤ d; omega⟩
    have m2 := ((sg_more hc2).2.1 hcd).2
    have m3 := (sg_more (x := lkF y i.2.2.1 x) hc2).2.2
    have eM : lksF y (moreL i u d) = l.map (lkF y i.2.2.1) ++ [lkF y i.2.2.1 x] ++ [lkF y i.2.2.1 (u, (d, ()))] := by rw [lks_more, eK]
    have eF : failsL y (moreL i u d) = failsL y i := by
      have e1 : failsL y (moreL i u d) = sgFails (lksF y (moreL i u d)) := by unfold failsL; rw [show ieq (moreL i u d).2.1 1 = false from hk]; rfl
      have e2 : failsL y i = sgFails (lksF y i) := by unfold failsL; rw [hk]; rfl
      rw [e1, e2, sgF_eq, sgF_eq, eM, m2, eK, m3]
    rw [reach_fine hm, reach_fine hf, eF]
/-- the first scheduled link -/
theorem sch_first {y : Policy} {us : List Keep} {i : Item} (hf : fineB y i = true) (hu : us.all validF = true) (h1 : (schF y i us 0).2 = 0) (h2 : (schF y i us 0).1 ≠ []) :
    ilt (reachF y i) i.2.2.2.2.1 = true ∧ (LatestF y i).2.1 = true ∧ (nxB y us 0 i).2 = true ∧ i.2.2.2.1.length < 8 ∧ (ilt (reachF y (applyF i [(nxB y us 0 i).1])) i.2.2.2.2.1 = false → (schF y i us 0).1 = [(nxB y us 0 i).1]) := by
  have hf2 := hf
  simp only [fineB, Bool.and_eq_true] at hf2
  have hI := itemOk_iff.1 hf2.2
  have e9 : 9 - i.2.2.2.1.length = (8 - i.2.2.2.1.length) + 1 := by omega
  have e : schF y i us 0 = if (schZ y us 0 ((8 - i.2.2.2.1.length) + 1) i []).2 = 0 then ((schZ y us 0 ((8 - i.2.2.2.1.length) + 1) i []).1, 0) else ([], (schZ y us 0 ((8 - i.2.2.2.1.length) + 1) i []).2) := by
    unfold schF
    rw [if_neg (by rw [hf]; simp), any_valid, hu, if_neg (by simp), if_neg (by omega), e9]
  rw [e] at h1 h2 ⊢
  unfold schZ at h1 h2 ⊢
  cases c1 : ilt (reachF y i) i.2.2.2.2.1 with
  | false => rw [c1] at h2; exact absurd rfl h2
  | true =>
    rw [c1] at h1 h2
    rw [cond_true] at h1 h2 ⊢
    cases c2 : (LatestF y i).2.1 with
    | false => rw [c2] at h1; exact absurd h1 (by simp)
    | true =>
      rw [c2] at h1 h2
      rw [cond_true] at h1 h2 ⊢
      cases c3 : (nxB y us 0 i).2 with
      | false => rw [c3] at h1; exact absurd h1 (by simp)
      | true =>
        rw [c3] at h1 h2
        rw [cond_true] at h1 h2 ⊢
        cases c4 : ige (llen i.2.2.2.1) 8 with
        | true => rw [c4] at h1; exact absurd h1 (by simp)
        | false =>
          rw [c4] at h1 h2
          rw [cond_false] at h1 h2 ⊢
          simp only [ige, llen, decide_eq_false_iff_not] at c4
          cases c5 : ile (reachF y (applyF i [(nxB y us 0 i).1])) (reachF y i) with
          | true => rw [c5] at h1; exact absurd h1 (by simp)
          | false =>
            rw [cond_false]
            refine ⟨rfl, rfl, rfl, by omega, fun h => ?_⟩
            obtain ⟨n, hn⟩ : ∃ n, 8 - i.2.2.2.1.length = n + 1 := ⟨7 - i.2.2.2.1.length, by omega⟩
            have hu2 : (applyF i [(nxB y us 0 i).1]).2.2.2.2.1 = i.2.2.2.2.1 := rfl
            rw [hn]
            unfold schZ
            rw [hu2, h]
            rfl
end Go.Proofs.YtfehjdaielifiaaGreat.K
