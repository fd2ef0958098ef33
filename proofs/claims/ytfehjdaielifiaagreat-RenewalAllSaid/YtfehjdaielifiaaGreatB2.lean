/-
 slices.Backward's closure gives the elements from the end.
-/
import Derived.Test.YtfehjdaielifiaaGreatB1
import Derived.RangeFuncCalls
import Derived.RangeFuncBound
import Derived.Shelf.RegionOpen
import Derived.OwnWalkIn
import Derived.TacticsInMore
import Derived.LoopNIn
import Derived.LoopIn
set_option linter.unusedSimpArgs false
set_option linter.unusedVariables false
namespace Go.Proofs.YtfehjdaielifiaaGreat.K
open Go.RowKit Go.Shelf
attribute [local go_sem] Oper.semAt_some
def encB (vs : List Value) (sz : Nat) : Nat → List (Array Value)
 | 0 => []
 | k + 1 => #[.int .i64 (k : Int), .agg ((vs.drop (k * sz)).take sz).toArray] :: encB vs sz k
theorem encB_drop (vs : List Value) (sz : Nat) : ∀ n k, k < n → (encB vs sz n).drop k = encB vs sz (n - k)
 | 0, k, h => by omega
 | n + 1, 0, _ => rfl
 | n + 1, k + 1, h => by
  rw [encB, List.drop_succ_cons, encB_drop vs sz n k (by omega)]
  congr 1
  omega
theorem w64 (m : Nat) (h : m ≤ maxLen) : wrap64 ((m : Int) - 1) = (m : Int) - 1 := by
 simp only [maxLen] at h
 unfold wrap64
 omega
set_option maxRecDepth 100000 in
set_option maxHeartbeats 1000000 in
theorem back_rule (Bs b0 off c n : Nat) (A : Option Addr) (vs : List Value) (Xf : Nat → Nat → Prop) (w : World) (hnc : n ≤ c) (hcm : c ≤ maxLen)
  (hBs : w.cell? ⟨Bs, 0, none⟩ = some (.slice A n c)) (hBl : Bs < w.heap.size) (hBx : ∀ q, ¬ Xf Bs q)
  (hA : 0 < n → A = some ⟨b0, off, none⟩ ∧ vs.length = n * 6 ∧ b0 < w.heap.size ∧ (∀ j, j < vs.length → ¬ Xf b0 (off + j)) ∧ ∀ j v, vs[j]? = some v → w.cell? ⟨b0, off + j, none⟩ = some v) :
  ItOk Tryz.prog 130 [.pointer (some ⟨Bs, 0, none⟩)] (encB vs 6 n) Xf w := by
 intro l J Jx W hJ hJx hK hY h0
 have HA := Lib.hid hA
 clear hA
 refine callsIn_of_wp (F := Fw none) Tryz.func130 rfl trivial ?_ rfl
 simp only [Tryz.ntmps130, List.size_toArray, List.length_cons, List.length_nil, Nat.reduceAdd, Nat.reduceSub, Array.replicate_succ, Array.replicate_zero, List.push_toArray, List.append_toArray, List.nil_append, List.cons_append]
 have hb0 : W.cell? ⟨Bs, 0, none⟩ = some (.slice A n c) := ((hK _ W h0).2 Bs 0 hBl (hBx 0)).trans hBs
 gi_wp2
 gi_loopw [3] (fun i wr => ∃ k : Nat, k ≤ n ∧ i = .int .i64 ((k : Int) - 1) ∧ J (encB vs 6 k) wr)
  (fun i _ => (intOf i + 1).toNat)
 case atStart => exact ⟨n, Nat.le_refl _, congrArg (Value.int .i64) (w64 n (by omega)), h0⟩
 case round =>
  obtain ⟨k, hk, rfl, hJs⟩ := hrel
  have hbx : wr.cell? ⟨Bs, 0, none⟩ = some (.slice A n c) := ((hK _ wr hJs).2 Bs 0 hBl (hBx 0)).trans hBs
  cases k with
  | zero =>
   gi_wp2
   go_end0
   exact ⟨⟨_, rfl⟩, .inl hJs⟩
  | succ q =>
   obtain ⟨rfl, hvl, hbl, hnx, hcl⟩ := HA.out (by omega)
   obtain ⟨fn, tmps, assign, body, hy, hR⟩ := hY _ _ wr hJs
   have cel : ∀ i, i < 6 → ∃ v, vs[q * 6 + i]? = some v ∧ wr.cell? ⟨b0, off + (q * 6 + i), none⟩ = some v := by
    intro i hi
    have hlt : q * 6 + i < vs.length := by omega
    exact ⟨_, List.getElem?_eq_getElem hlt, ((hK _ wr hJs).2 b0 _ hbl (hnx _ hlt)).trans (hcl _ _ (List.getElem?_eq_getElem hlt))⟩
   obtain ⟨v0, e0, c0⟩ := cel 0 (by omega)
   obtain ⟨v1, e1, c1⟩ := cel 1 (by omega)
   obtain ⟨v2, e2, c2⟩ := cel 2 (by omega)
   obtain ⟨v3, e3, c3⟩ := cel 3 (by omega)
   obtain ⟨v4, e4, c4⟩ := cel 4 (by omega)
   obtain ⟨v5, e5, c5⟩ := cel 5 (by omega)
   rw [Nat.add_zero] at e0 c0
   rw [← Nat.add_assoc] at c1 c2 c3 c4 c5
   have hag : ((vs.drop (q * 6)).take 6) = [v0, v1, v2, v3, v4, v5] := by
    apply List.ext_getElem?
    intro i
    rcases Nat.lt_or_ge i 6 with hi | hi
    ·rw [List.getElem?_take_of_lt hi, List.getElem?_drop]
     rcases i with _ | _ | _ | _ | _ | _ | i
     ·rw [Nat.add_zero, e0]; rfl
     ·rw [e1]; rfl
     ·rw [e2]; rfl
     ·rw [e3]; rfl
     ·rw [e4]; rfl
     ·rw [e5]; rfl
     ·omega
    ·rw [List.getElem?_take_eq_none hi, List.getElem?_eq_none (by simpa using hi)]
   rw [hag] at hy
   have q1 : ((q + 1 : Nat) : Int) - 1 = (q : Int) := by omega
   rw [q1]
   clear hnx hcl cel hY
   gi_wp2
   refine hR.mono ?_
   rintro e W3 (⟨rfl, hJ3⟩ | ⟨rfl, hJx3⟩)
   ·gi_wp2
    go_roundw
    case rel => exact ⟨q, by omega, congrArg (Value.int .i64) (w64 q (by omega)), hJ3⟩
    case measure => simp [intOf, w64 q (by omega)]
   ·gi_wp2
    refine bodyPost_ret (results_none rfl _ _ _) rfl ?_
    exact ⟨⟨_, rfl⟩, .inr hJx3⟩
theorem encB_len (vs : List Value) (sz : Nat) : ∀ n, (encB vs sz n).length = n
 | 0 => rfl
 | n + 1 => by rw [encB, List.length_cons, encB_len vs sz n]
theorem encB_at (vs : List Value) (sz : Nat) : ∀ n i, i < n → (encB vs sz n)[i]? = some #[.int .i64 ((n - 1 - i : Nat) : Int), .agg ((vs.drop ((n - 1 - i) * sz)).take sz).toArray]
 | 0, i, h => by omega
 | n + 1, 0, _ => by simp [encB]
 | n + 1, i + 1, h => by
  rw [encB, List.getElem?_cons_succ, encB_at vs sz n i (by omega)]
  have : n - 1 - i = n + 1 - 1 - (i + 1) := by omega
  rw [this]
theorem backL_at {α : Type} (l : List α) (i : Nat) (h : i < l.length) : (backL l)[i]? = some (((l.length - 1 - i : Nat) : Int), (l[l.length - 1 - i]'(by omega), ())) := by
 unfold backL
 rw [List.getElem?_reverse (by simpa using h)]
 simp
theorem iters_back {P : Program} {gf : FuncId} {y : Ty} {sz : Nat} (hrow : y.row = true) (hsz : y.sz = sz) (eg : ∀ args w, (callFunc gf args).run P w = .ok (.enter gf args) w)
  (hw : ∀ (Bs b0 off c n : Nat) (A : Option Addr) (vs : List Value) (Xf : Nat → Nat → Prop) (w : World), n ≤ c → c ≤ maxLen → w.cell? ⟨Bs, 0, none⟩ = some (.slice A n c) → Bs < w.heap.size → (∀ q, ¬ Xf Bs q) →
   (0 < n → A = some ⟨b0, off, none⟩ ∧ vs.length = n * sz ∧ b0 < w.heap.size ∧ (∀ j, j < vs.length → ¬ Xf b0 (off + j)) ∧ ∀ j v, vs[j]? = some v → w.cell? ⟨b0, off + j, none⟩ = some v) → ItOk P gf [.pointer (some ⟨Bs, 0, none⟩)] (encB vs sz n) Xf w) :
  Iters P gf (mkIt [.ptr 50000 0] [.sl y] (.pr (.int .i64) (.pr y .nil)) (fun _ => true) (fun d => backL d.1)) := by
 refine ⟨eg, fun caps objs yr rows h X w σ lb hfin hl hc => ?_⟩
 unfold mkIt at h
 split at h
 ·rename_i x d hx hd
  simp only [Option.some.injEq, Prod.mk.injEq, true_and] at h
  cases h
  have hcaps := rdVt_mk hx
  subst hcaps
  cases objs with
  | nil => simp [asBoxes] at hd
  | cons o os =>
   cases o with
   | box cv =>
    cases os with
    | cons o2 os => simp [asBoxes] at hd
    | nil =>
     simp only [asBoxes] at hd
     split at hd
     ·rename_i l u hl1 _
      simp only [Option.some.injEq] at hd
      subst hd
      have hcv := SV.rd_mk (s := .ty (.sl y)) (v := cv) (x := l) (by simpa [asBox, Ty.row] using hl1)
      subst hcv
      obtain ⟨⟨Bs, ty, us, h1, h2, h3, h4⟩, _⟩ := hl.at_ 0 _ rfl
      have h3' : Cs X w σ [.sl (List.length l) (List.flatMap y.cells l)] us := h3
      obtain ⟨uv, rfl, h5⟩ := h3'.one
      simp only [C] at h5
      obtain ⟨A, c, rfl, g1, g2, g3, g4⟩ := h5
      simp only [mkVt, SV.mk, V.ds, V.d, Cs, C] at hc
      obtain ⟨p, ps, rfl, ⟨b', e1, rfl⟩, rfl⟩ := hc
      have h1 : σ 50000 = .box Bs := h1
      rw [h1] at e1
      injection e1 with e1
      subst e1
      have hcell : w.cell? ⟨Bs, 0, none⟩ = some (.slice A (List.length l) c) := by simp [World.cell?, h2]
      have hBl := (Array.getElem?_eq_some_iff.1 h2).1
      have hBx : ∀ q, ¬ (X Bs q ∧ ∀ j, j < [VO.box ((SV.ty (.sl y)).mk l)].length → (σ (50000 + j)).blk ≠ some Bs) := fun q hq => hq.2 0 (by simp) (by rw [h1]; rfl)
      rcases Nat.eq_zero_or_pos (List.length l) with h0 | hp
      ·have hl0 : l = [] := List.eq_nil_of_length_eq_zero h0
       subst hl0
       exact ⟨encB [] sz 0, ⟨rfl, fun i r v hr => by simp [backL] at hr⟩, hw Bs 0 0 c 0 A [] _ w g1 g2 hcell hBl hBx (fun h => absurd h (by omega))⟩
      ·obtain ⟨b0, off, vs, rfl, g5, g6⟩ := g4 hp
       have hvl := g5.len
       rw [flat_len, hsz] at hvl
       refine ⟨encB vs sz (List.length l), ⟨by rw [encB_len]; simp [backL], fun i r v hr hv => ?_⟩, hw Bs b0 off c (List.length l) _ vs _ w g1 g2 hcell hBl hBx (fun _ => ⟨rfl, hvl, g6.lt, fun j hj hx => g6.nx j hj hx.1, fun j v hv => g6.at_ j v hv⟩)⟩
       have hi : i < List.length l := by
        have := (List.getElem?_eq_some_iff.1 hv).1
        rwa [encB_len] at this
       rw [backL_at _ _ hi] at hr
       rw [encB_at _ _ _ _ hi] at hv
       injection hr with hr
       injection hv with hv
       subst hr hv
       simp only [Ty.canon, V.ds, V.d, Cs]
       refine ⟨_, _, rfl, (by simp only [Ty.d, C]; exact ⟨trivial, rfl⟩), _, _, rfl, ?_, rfl⟩
       rw [Ty.d_row _ _ hrow]
       simp only [C]
       refine ⟨_, rfl, ?_⟩
       have k1 := (g5.drop_ ((List.length l - 1 - i) * y.sz))
       rw [flat_drop, List.drop_eq_getElem_cons (by omega), List.flatMap_cons] at k1
       have k2 := k1.take_ y.sz
       rw [List.take_left' (y.cells_len _), hsz] at k2
       exact k2
     ·cases hd
   | no => simp [asBoxes] at hd
   | arr e t l => simp [asBoxes] at hd
 ·cases h
theorem is_f117_1 : Iters Tryz.prog 130 it_f117_1 :=
 iters_back (y := tyRule) (sz := 6) rfl rfl (enters_of Tryz.func130 (by kernel_rfl) rfl) back_rule
end Go.Proofs.YtfehjdaielifiaaGreat.K
