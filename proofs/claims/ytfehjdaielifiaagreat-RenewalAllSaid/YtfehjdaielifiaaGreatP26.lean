/-
 Plain laws on what a new link in time does.
-/
import Derived.Test.YtfehjdaielifiaaGreatP25
set_option linter.unusedSimpArgs false
set_option linter.unusedVariables false
namespace Go.Proofs.YtfehjdaielifiaaGreat.K
open Go.RowKit
theorem latest_law {y : Policy} {i : Item} (hf : fineB y i = true) (ho : (LatestF y i).2.1 = true) : ∃ l x, i.2.2.2.1 = l ++ [x] ∧ lastDay i = x.2.1 ∧ ieq i.2.1 1 = false ∧ sgCount (lksF y i) = (i.2.2.2.1.length : Int) ∧ LatestF y i = (lastI2 y i, true, 0) ∧ lastDay i < lastI2 y i ∧ lastI2 y i ≤ 40000 ∧ 0 ≤ lastDay i ∧
  (((fallL (spansF y x.1 i.2.2.1)).2 = false ∧ lastI2 y i = 40000 ∧ (failsL y i).2 = false) ∨ ∃ f, fallL (spansF y x.1 i.2.2.1) = (f, true) ∧ lastI2 y i = f - 1 ∧ x.2.1 < f ∧ failsL y i = (f, true)) := by
 have hf2 := hf
 simp only [fineB, Bool.and_eq_true] at hf2
 have hI := itemOk_iff.1 hf2.2
 have eL : LatestF y i = if ieq i.2.1 1 then (0, false, 0) else if sgOpen (lksF y i) then (if ile (lastI2 y i) (lastDay i) then (0, false, 0) else (lastI2 y i, true, 0)) else (0, false, 0) := by
  unfold LatestF
  rw [hf]
  rfl
 rw [eL] at ho
 have hk : ieq i.2.1 1 = false := by
  cases hq : ieq i.2.1 1 with
  | false => rfl
  | true => rw [hq] at ho; simp at ho
 rw [hk, if_neg (by simp)] at ho eL
 have hop : sgOpen (lksF y i) = true := by
  cases hq : sgOpen (lksF y i) with
  | true => rfl
  | false => rw [hq] at ho; simp at ho
 rw [hop, if_pos rfl] at ho eL
 have hla : ile (lastI2 y i) (lastDay i) = false := by
  cases hq : ile (lastI2 y i) (lastDay i) with
  | false => rfl
  | true => rw [hq] at ho; simp at ho
 rw [hla, if_neg (by simp)] at eL
 have hla := of_decide_eq_false hla
 have hlen : (lksF y i).length = i.2.2.2.1.length := by simp [lksF]
 have hc : sgCount (lksF y i) = ((lksF y i).length : Int) := by
  simp only [sgOpen, ieq_dec, llen, decide_eq_true_eq] at hop
  exact hop
 obtain ⟨l, x, e, hx⟩ := last_mem (i := i) hI.2.2.2.1.1
 have eK : lksF y i = l.map (lkF y i.2.2.1) ++ [lkF y i.2.2.1 x] := by
  show i.2.2.2.1.map _ = _
  rw [e, List.map_append]
  rfl
 have hx0 := (linksB_all hI.2.2.2.2.1 x (by rw [e]; simp)).2
 have hc2 := hc
 rw [eK] at hc2
 have sL : sgLast (lksF y i) = lkF y i.2.2.1 x := by rw [eK]; exact (sg_more (x := lkF y i.2.2.1 x) hc2).2.2
 have eF : failsL y i = sgFails (lksF y i) := by unfold failsL; rw [hk]; rfl
 refine ⟨l, x, e, hx, hk, by rw [hc, hlen], eL, by omega, ?_⟩
 cases hfa : (fallL (spansF y x.1 i.2.2.1)).2 with
 | false =>
  have hno : (sgFails (lksF y i)).2 = false := by
   cases hq : (sgFails (lksF y i)).2 with
   | false => rfl
   | true =>
    have := sgF_true.1 hq
    rw [sL] at this
    have h2 : (fallL (spansF y x.1 i.2.2.1)).2 = true := this
    rw [hfa] at h2
    cases h2
  have e4 : lastI2 y i = 40000 := by unfold lastI2; rw [hno]; rfl
  exact ⟨by omega, by omega, .inl ⟨rfl, e4, by rw [eF]; exact hno⟩⟩
 | true =>
  obtain ⟨f, hff⟩ : ∃ f, fallL (spansF y x.1 i.2.2.1) = (f, true) := ⟨_, Prod.ext rfl hfa⟩
  have hfi := fallI hf2.1 hff
  have hv : sgFails (lksF y i) = (max x.2.1 f, true) := by
   rw [sgF_val (l := lksF y i) (by rw [sL]; exact hfa), sL, gone_eq]
   show (max x.2.1 (fallL (spansF y x.1 i.2.2.1)).1, true) = _
   rw [hff]
  have e4 : lastI2 y i = max x.2.1 f - 1 := by
   unfold lastI2
   rw [hv, if_pos rfl]
   exact isub_in (by simp only; omega)
  have hmx : max x.2.1 f = f := by omega
  rw [hmx] at e4 hv
  exact ⟨by omega, by omega, .inr ⟨f, hff, e4, by omega, by rw [eF, hv]⟩⟩
theorem reach_fine {y : Policy} {i : Item} (h : fineB y i = true) : reachF y i = if (failsL y i).2 then isub .i64 (failsL y i).1 1 else 40000 := by
 have e : FailsI y i = ((failsL y i).1, (failsL y i).2, 0) := by unfold FailsI; rw [h]; rfl
 unfold reachF
 rw [e]
theorem day_fall {y : Policy} {u : Keep} {p d f : Int} (hp : polOk y = true) (h0 : 0 ≤ d) (h1 : d ≤ 40000) (ha : allF y u p d = true) (hf : fallL (spansF y u p) = (f, true)) : d < f := by
 by_cases h : f ≤ d
 ·rw [fallA hp hf h0 h1 h] at ha
  cases ha
 ·omega
theorem next_law {y : Policy} {i : Item} {u : Keep} {d : Int} (hf : fineB y i = true) (ho : (LatestF y i).2.1 = true) (hu : validF u = true) (h8 : i.2.2.2.1.length < 8) (h1 : lastDay i < d) (h2 : d ≤ (LatestF y i).1) (ha : allF y u i.2.2.1 d = true) :
  fineB y (moreL i u d) = true ∧ sgCount (lksF y (moreL i u d)) = (i.2.2.2.1.length : Int) + 1 ∧ reachF y (moreL i u d) = isub .i64 (flU y i.2.2.1 u) 1 ∧ (failsL y (moreL i u d)).2 = (fallL (spansF y u i.2.2.1)).2 := by
 have hf2 := hf
 simp only [fineB, Bool.and_eq_true] at hf2
 obtain ⟨l, x, e, hx, hk, hc, eL, hlt, hle, h0, hcase⟩ := latest_law hf ho
 rw [eL] at h2
 have h2 : d ≤ lastI2 y i := h2
 obtain ⟨_, r2⟩ := ren_ok (u := u) (day := d) hf hu h1 (by omega) h8
 have eK : lksF y i = l.map (lkF y i.2.2.1) ++ [lkF y i.2.2.1 x] := by
  show i.2.2.2.1.map _ = _
  rw [e, List.map_append]
  rfl
 have hlen : (lksF y i).length = i.2.2.2.1.length := by simp [lksF]
 have hc2 : sgCount (l.map (lkF y i.2.2.1) ++ [lkF y i.2.2.1 x]) = ((l.map (lkF y i.2.2.1) ++ [lkF y i.2.2.1 x]).length : Int) := by rw [← eK, hc, hlen]
 have hcd : cnd (lkF y i.2.2.1 x) (lkF y i.2.2.1 (u, (d, ()))) = true := by
  unfold cnd
  rcases hcase with ⟨q1, _, _⟩ | ⟨f, q1, q2, _, _⟩
  ·rw [show (lkF y i.2.2.1 x).2.2.1 = false from q1]
   rfl
  ·rw [show (lkF y i.2.2.1 x).2.1 = f by show (fallL (spansF y x.1 i.2.2.1)).1 = f; rw [q1]]
   rw [show ilt (lkF y i.2.2.1 (u, (d, ()))).1 f = true from decide_eq_true (show d < f by omega), Bool.or_true]
 obtain ⟨m1, m2⟩ := (sg_more hc2).1 hcd
 have eM : lksF y (moreL i u d) = l.map (lkF y i.2.2.1) ++ [lkF y i.2.2.1 x] ++ [lkF y i.2.2.1 (u, (d, ()))] := by rw [lks_more, eK]
 have eF : failsL y (moreL i u d) = sgFails (lksF y (moreL i u d)) := by unfold failsL; rw [show ieq (moreL i u d).2.1 1 = false from hk]; rfl
 refine ⟨r2, by rw [eM, m1, ← eK, hlen], ?_⟩
 cases hfa : (fallL (spansF y u i.2.2.1)).2 with
 | false =>
  have hno : (sgFails (lksF y (moreL i u d))).2 = false := by
   cases hq : (sgFails (lksF y (moreL i u d))).2 with
   | false => rfl
   | true =>
    have := sgF_true.1 hq
    rw [eM, m2] at this
    have h3 : (fallL (spansF y u i.2.2.1)).2 = true := this
    rw [hfa] at h3
    cases h3
  refine ⟨?_, by rw [eF]; exact hno⟩
  rw [reach_fine r2, eF, hno]
  have : flU y i.2.2.1 u = 40001 := by unfold flU fallR; rw [hfa]; rfl
  rw [this]
  rfl
 | true =>
  obtain ⟨f, hff⟩ : ∃ f, fallL (spansF y u i.2.2.1) = (f, true) := ⟨_, Prod.ext rfl hfa⟩
  have hdf := day_fall hf2.1 (show 0 ≤ d by omega) (by omega) ha hff
  have hv : sgFails (lksF y (moreL i u d)) = (f, true) := by
   rw [sgF_val (l := lksF y (moreL i u d)) (by rw [eM, m2]; exact hfa), eM, m2, gone_eq]
   show (max d (fallL (spansF y u i.2.2.1)).1, true) = _
   rw [hff]
   have : max d f = f := by omega
   simp only [this]
  have : flU y i.2.2.1 u = f := by unfold flU fallR; rw [hff]; rfl
  rw [reach_fine r2, eF, hv, this]
  exact ⟨rfl, rfl⟩
noncomputable section
def nxB (y : Policy) (us : List Keep) (from_ : Int) (i : Item) : Link × Bool := bestF y us i.2.2.1 (imx from_ (lastDay i + 1)) (LatestF y i).1
def schZ (y : Policy) (us : List Keep) (from_ : Int) : Nat → Item → List Link → List Link × Int
 | 0, _, out => (out, 99)
 | n + 1, i, out =>
  bif ilt (reachF y i) i.2.2.2.2.1 then
   bif (LatestF y i).2.1 then
    bif (nxB y us from_ i).2 then
     bif ige (llen i.2.2.2.1) 8 then (out, 3)
     else bif ile (reachF y (applyF i [(nxB y us from_ i).1])) (reachF y i) then (out, 51)
     else schZ y us from_ n (applyF i [(nxB y us from_ i).1]) (out ++ [(nxB y us from_ i).1])
    else (out, 51)
   else (out, 51)
  else (out, 0)
def schF (y : Policy) (i : Item) (us : List Keep) (from_ : Int) : List Link × Int :=
 if fineB y i = false then ([], ofE y i) else if anyUse us then ([], 7) else if from_ < 0 ∨ 40000 < from_ then ([], 2)
 else if (schZ y us from_ (9 - i.2.2.2.1.length) i []).2 = 0 then ((schZ y us from_ (9 - i.2.2.2.1.length) i []).1, 0) else ([], (schZ y us from_ (9 - i.2.2.2.1.length) i []).2)
theorem nx_law {y : Policy} {us : List Keep} {from_ : Int} {i : Item} (hf : fineB y i = true) (hu : us.all validF = true) (h0 : 0 ≤ from_) (ho : (LatestF y i).2.1 = true) (hb : (nxB y us from_ i).2 = true) :
  ∃ u d, u ∈ us ∧ validF u = true ∧ okU y i.2.2.1 (imx from_ (lastDay i + 1)) (LatestF y i).1 u = true ∧ (nxB y us from_ i).1 = (u, (d, ())) ∧ d = dyU y i.2.2.1 (imx from_ (lastDay i + 1)) (LatestF y i).1 u ∧ lastDay i < d ∧ from_ ≤ d ∧ d ≤ (LatestF y i).1 ∧ d ≤ 40000 ∧ allF y u i.2.2.1 d = true := by
 have hf2 := hf
 simp only [fineB, Bool.and_eq_true] at hf2
 obtain ⟨l, x, e, hx, hk, hc, eL, hlt, hle, hl0, _⟩ := latest_law hf ho
 obtain ⟨u, g1, g2, g3, _⟩ := best_some hb
 have hm := imx_max from_ (lastDay i + 1)
 obtain ⟨k1, k2, k3, k4⟩ := first_all (a := imx from_ (lastDay i + 1)) hf2.1 (by omega) g2
 exact ⟨u, _, g1, List.all_eq_true.1 hu u g1, g2, g3, rfl, by show lastDay i < _; rw [hm] at k1; unfold dyU; rw [hm]; omega, by unfold dyU; rw [hm] at k1 ⊢; omega, k2, k3, k4⟩
end
end Go.Proofs.YtfehjdaielifiaaGreat.K
