import Derived.Test.YtkngeegkjhipeaaGreatB4
import Derived.Test.YtkngeegkjhipeaaGreatN25
import Derived.RangeFuncCalls
import Derived.RangeFuncBound
import Derived.Shelf.RegionOpen
import Derived.OwnWalkIn
import Derived.TacticsInMore
import Derived.LoopNIn
import Derived.LoopIn
set_option linter.unusedSimpArgs false
set_option linter.unusedVariables false
namespace Go.Proofs.YtkngeegkjhipeaaGreat.K
open Go.RowKit Go.Shelf
attribute [local go_sem] Oper.semAt_some
set_option maxRecDepth 100000 in
set_option maxHeartbeats 1000000 in
theorem Qv2 (Bs b0 off c n : Nat) (A : Option Addr) (vs : List Value) (Xf : Nat → Nat → Prop) (w : World) (hreach : n * 8 ≤ 140737488351232) (hvl : vs.length = n)
  (hBs : w.cell? ⟨Bs, 0, none⟩ = some (.slice A n c)) (hBl : Bs < w.heap.size)
  (hA : 0 < n → A = some ⟨b0, off, none⟩ ∧ b0 < w.heap.size ∧ (∀ j, j < vs.length → ¬ Xf b0 (off + j)) ∧ ∀ j v, vs[j]? = some v → w.cell? ⟨b0, off + j, none⟩ = some v) :
  ItOk Tryz.prog 73 [.pointer (some ⟨Bs, 0, none⟩)] (vs.map fun v => #[v]) Xf w := by
 intro l J Jx W hJ hJx hK hY h0 hst
 have HA := Lib.hid hA
 clear hA
 refine callsIn_of_wp (F := Fw none) Tryz.func73 rfl trivial ?_ rfl
 simp only [Tryz.ntmps73, List.size_toArray, List.length_cons, List.length_nil, Nat.reduceAdd, Nat.reduceSub, Array.replicate_succ, Array.replicate_zero, List.push_toArray, List.append_toArray, List.nil_append, List.cons_append]
 have hb0 : W.cell? ⟨Bs, 0, none⟩ = some (.slice A n c) := (hst Bs 0 hBl).trans hBs
 gi_wp2
 gi_loopw [7] (fun i wr => ∃ k : Nat, k ≤ n ∧ i = .int .i64 (k : Int) ∧ J ((vs.drop k).map fun v => #[v]) wr)
  (fun i _ => n - (intOf i).toNat)
 case atStart => exact ⟨0, Nat.zero_le _, rfl, h0⟩
 case round =>
  obtain ⟨k, hk, rfl, hJs⟩ := hrel
  by_cases hlt : k < n
  ·obtain ⟨rfl, hbl, hnx, hcl⟩ := HA.out (by omega)
   have hlt2 : k < vs.length := by omega
   rw [List.drop_eq_getElem_cons hlt2, List.map_cons] at hJs
   obtain ⟨fn, tmps, assign, body, hy, hR⟩ := hY _ _ wr hJs
   have hcx' : wr.cell? ⟨b0, off + k, none⟩ = some vs[k] := ((hK _ wr hJs).2 b0 _ hbl (hnx _ hlt2)).trans (hcl _ _ (List.getElem?_eq_getElem hlt2))
   clear hnx hcl hY
   gi_wp2
   refine hR.mono ?_
   rintro e W3 (⟨rfl, hJ3⟩ | ⟨rfl, hJx3⟩)
   ·gi_wp2
    go_roundw
    case rel => exact ⟨k + 1, by omega, by simp, hJ3⟩
    case measure => simp [intOf]; omega
   ·gi_wp2
    refine bodyPost_ret (results_none rfl _ _ _) rfl ?_
    exact ⟨⟨_, rfl⟩, .inr hJx3⟩
  ·obtain rfl : k = n := by omega
   rw [List.drop_of_length_le (by omega)] at hJs
   gi_wp2
   go_end0
   exact ⟨⟨_, rfl⟩, .inl hJs⟩
def mkIt (l : List SV) (bs : List Ty) (yr : Ty) (ok : boxT bs → Bool) (f : boxT bs → List yr.T) : Itr := fun caps objs =>
 match rdVt l caps, Qb0 bs objs with
 | some _, some d => some (ok d, ⟨yr, f d⟩)
 | _, _ => none
def Qe3 (l : List Int) : Bool := decide (l.length ≤ 100000)
def valI (l : List Int) : List (Int × Unit) := l.map fun x => (x, ())
def Qlj : Itr := mkIt [.ptr 50000 0] [(.sl tI)] (.pr tI .nil) (fun d => (Qe3 d.1)) (fun d => (valI d.1))
noncomputable def QzZ : TC := (.sq (.reg (rT Tryz.f47 0)) (.sq (.reg (rT Tryz.f47 1)) .rt))
def QLY : List (RV × Option Ty) := [((.t 2), none)]
def g_f47 : G := ⟨TYs, [], 4, EL [], keeps, (fun _ _ => none), IL [], RL []⟩
def r_f47 (p0 : List Int) : Option (V × List VO) := some (.fn 73 [(.ptr 50000 0)], [.box (.t (.sl tI) p0)])
theorem e_f47 (p0 : List Int) : runF g_f47 QzZ QLY true [.t (.sl tI) p0] [] = r_f47 p0 := by kernel_rfl
theorem en_f47 : Qag Tryz.prog 47 := .inr ⟨by decide, _, Tryz.func47, by kernel_rfl, by kernel_rfl⟩
theorem gk_f47 : GOk Tryz.prog g_f47 := Qan _ (fun p hp => by cases hp)
theorem lk_f47 : QzZ.lok g_f47 := by repeat (first | exact trivial | refine ⟨?_, ?_⟩)
def QK4 : Ent := specO (.pr (.sl tI) .nil) (fun _ => true) (fun x => .fn 73 [.ptr 50000 0]) (fun x => [.box (.t (.sl tI) x.1)])
theorem ms_f47 : Meets Tryz.prog 47 (strip QK4) := QgX (R := runF g_f47 QzZ QLY true) (mG Tryz.func47 (by kernel_rfl) Tryz.ntmps47 (by kernel_rfl) gk_f47 lk_f47) fun x _ => (e_f47 x.1).trans rfl
theorem QFW (l : List Int) : l.flatMap tI.cells = l.map fun x => D.v (.int .i64 x) := by
 induction l with
 | nil => rfl
 | cons x r ih => rw [List.flatMap_cons, ih, List.map_cons]; rfl
theorem QEz : Iters Tryz.prog (73 + 1000000) Qlj := by
 refine Iters.strong (enters_of Tryz.func73 (by kernel_rfl) rfl) fun caps objs yr rows h X w σ lb hfin hl hc => ?_
 unfold Qlj mkIt at h
 split at h
 ·rename_i x d hx hd
  simp only [Option.some.injEq, Prod.mk.injEq] at h
  obtain ⟨hok, h⟩ := h
  cases h
  have hcaps := QmM hx
  subst hcaps
  cases objs with
  | nil => simp [Qb0] at hd
  | cons o os =>
   cases o with
   | box cv =>
    cases os with
    | cons o2 os => simp [Qb0] at hd
    | nil =>
     simp only [Qb0] at hd
     split at hd
     ·rename_i l u hl1 _
      simp only [Option.some.injEq] at hd
      subst hd
      have hlen : l.length ≤ 100000 := of_decide_eq_true hok
      have hcv := SV.rd_mk (s := .ty (.sl tI)) (v := cv) (x := l) (by simpa [asBox, Ty.row] using hl1)
      subst hcv
      obtain ⟨⟨Bs, ty, us, h1, h2, h3, h4⟩, _⟩ := hl.at_ 0 _ rfl
      have h3' : Cs X w σ [.sl (List.length l) (List.flatMap tI.cells l)] us := h3
      obtain ⟨uv, rfl, h5⟩ := h3'.one
      simp only [C] at h5
      obtain ⟨A, c, rfl, g1, g2, g3, g4⟩ := h5
      simp only [mkVt, SV.mk, V.ds, V.d, Cs, C] at hc
      obtain ⟨p, ps, rfl, ⟨b', e1, rfl⟩, rfl⟩ := hc
      have h1 : σ 50000 = .box Bs := h1
      rw [h1] at e1
      injection e1 with e1
      subst e1
      have hcell : w.cell? ⟨Bs, 0, none⟩ = some (.slice A (List.length l) c) := by simp [World.cell?, h2]
      have hBl := (Array.getElem?_eq_some_iff.1 h2).1
      rcases Nat.eq_zero_or_pos (List.length l) with h0 | hp
      ·have hl0 : l = [] := List.eq_nil_of_length_eq_zero h0
       subst hl0
       exact ⟨[], ⟨rfl, fun i r v hr => by simp [valI] at hr⟩, Qv2 Bs 0 0 c 0 A [] _ w (by omega) rfl hcell hBl (fun h => absurd h (by omega))⟩
      ·obtain ⟨b0, off, vs, rfl, g5, g6⟩ := g4 hp
       have hvl := g5.len
       rw [QFW, List.length_map] at hvl
       refine ⟨vs.map fun v => #[v], ⟨by simp [valI, hvl], fun i r v hr hv => ?_⟩, Qv2 Bs b0 off c (List.length l) _ vs _ w (by omega) hvl hcell hBl (fun _ => ⟨rfl, g6.lt, fun j hj hx => g6.nx j hj hx, fun j v hv => g6.at_ j v hv⟩)⟩
       rw [QFW] at g5
       simp only [valI, List.getElem?_map, Option.map_eq_some_iff] at hr hv
       obtain ⟨x, hx, rfl⟩ := hr
       obtain ⟨u, hu, rfl⟩ := hv
       have hd : (l.map fun x => D.v (.int .i64 x))[i]? = some (.v (.int .i64 x)) := by rw [List.getElem?_map, hx]; rfl
       obtain ⟨u2, hu2, hcu⟩ := g5.at_ hd
       rw [hu] at hu2
       injection hu2 with hu2
       subst hu2
       simp only [Ty.canon, V.ds, V.d, Cs]
       refine ⟨_, _, rfl, ?_, rfl⟩
       rw [(C.v hcu).1]
       simp only [Ty.d, C]
       exact ⟨trivial, rfl⟩
     ·cases hd
   | no => simp [Qb0] at hd
   | arr e t l => simp [Qb0] at hd
 ·cases h
end Go.Proofs.YtkngeegkjhipeaaGreat.K
