import Derived.Test.YtckcgijklnloiaaGreatQ9
import Derived.Test.YtckcgijklnloiaaGreatQ8
import Derived.RangeFuncCalls
import Derived.RangeFuncBound
import Derived.Shelf.RegionOpen
import Derived.OwnWalkIn
import Derived.TacticsInMore
import Derived.LoopNIn
import Derived.LoopIn
import Derived.Lib.SliceRun
set_option linter.unusedSimpArgs false
set_option linter.unusedVariables false
namespace Go.Proofs.YtckcgijklnloiaaGreat.K
open Go.RowKit Go.Shelf
attribute [local go_sem] Oper.semAt_some
def cut9 (vs : List Value) (k : Nat) : Value := .agg ((vs.drop (k * 9)).take 9).toArray
def encP (vs : List Value) (l : List Keep) : List (Array Value) := l.map fun x => #[cut9 vs x.1.toNat, cut9 vs x.2.1.toNat]
theorem QNB {vs : List Value} {q : Nat} {v0 v1 v2 v3 v4 v5 v6 v7 v8 : Value} (e0 : vs[q * 9]? = some v0) (e1 : vs[q * 9 + 1]? = some v1) (e2 : vs[q * 9 + 2]? = some v2) (e3 : vs[q * 9 + 3]? = some v3) (e4 : vs[q * 9 + 4]? = some v4) (e5 : vs[q * 9 + 5]? = some v5) (e6 : vs[q * 9 + 6]? = some v6) (e7 : vs[q * 9 + 7]? = some v7) (e8 : vs[q * 9 + 8]? = some v8) : cut9 vs q = .agg #[v0, v1, v2, v3, v4, v5, v6, v7, v8] := by
 have hag : ((vs.drop (q * 9)).take 9) = [v0, v1, v2, v3, v4, v5, v6, v7, v8] := by
  apply List.ext_getElem?
  intro i
  rcases Nat.lt_or_ge i 9 with hi | hi
  ·rw [List.getElem?_take_of_lt hi, List.getElem?_drop]
   rcases i with _ | _ | _ | _ | _ | _ | _ | _ | _ | i
   ·rw [Nat.add_zero, e0]; rfl
   ·rw [e1]; rfl
   ·rw [e2]; rfl
   ·rw [e3]; rfl
   ·rw [e4]; rfl
   ·rw [e5]; rfl
   ·rw [e6]; rfl
   ·rw [e7]; rfl
   ·rw [e8]; rfl
   ·omega
  ·rw [List.getElem?_take_eq_none hi, List.getElem?_eq_none (by simpa using hi)]
 unfold cut9
 rw [hag]
set_option maxRecDepth 100000 in
set_option maxHeartbeats 8000000 in
theorem QZK {n : Nat} {b0 off0 c0 n0 b1 off1 c1 n1 k a s : Nat} {it : Value} {w : World} {v0 v1 v2 v3 v4 v5 v6 v7 v8 u0 u1 u2 u3 u4 u5 u6 u7 u8 : Value} (hk : k < n1) (ka : a < n0) (ks : s < n0) (hn0 : n0 ≤ 99999) (hn1 : n1 ≤ 99999) (hb0 : b0 < w.heap.size) (hb1 : b1 < w.heap.size)
  (da : w.cell? ⟨b1, off1 + k * 2, none⟩ = some (.int .i64 (a : Int))) (db : w.cell? ⟨b1, off1 + k * 2 + 1, none⟩ = some (.int .i64 (s : Int)))
  (w0 : w.cell? ⟨b0, off0 + a * 9, none⟩ = some v0) (w1 : w.cell? ⟨b0, off0 + a * 9 + 1, none⟩ = some v1) (w2 : w.cell? ⟨b0, off0 + a * 9 + 2, none⟩ = some v2) (w3 : w.cell? ⟨b0, off0 + a * 9 + 3, none⟩ = some v3) (w4 : w.cell? ⟨b0, off0 + a * 9 + 4, none⟩ = some v4) (w5 : w.cell? ⟨b0, off0 + a * 9 + 5, none⟩ = some v5) (w6 : w.cell? ⟨b0, off0 + a * 9 + 6, none⟩ = some v6) (w7 : w.cell? ⟨b0, off0 + a * 9 + 7, none⟩ = some v7) (w8 : w.cell? ⟨b0, off0 + a * 9 + 8, none⟩ = some v8) (x0 : w.cell? ⟨b0, off0 + s * 9, none⟩ = some u0) (x1 : w.cell? ⟨b0, off0 + s * 9 + 1, none⟩ = some u1) (x2 : w.cell? ⟨b0, off0 + s * 9 + 2, none⟩ = some u2) (x3 : w.cell? ⟨b0, off0 + s * 9 + 3, none⟩ = some u3) (x4 : w.cell? ⟨b0, off0 + s * 9 + 4, none⟩ = some u4) (x5 : w.cell? ⟨b0, off0 + s * 9 + 5, none⟩ = some u5) (x6 : w.cell? ⟨b0, off0 + s * 9 + 6, none⟩ = some u6) (x7 : w.cell? ⟨b0, off0 + s * 9 + 7, none⟩ = some u7) (x8 : w.cell? ⟨b0, off0 + s * 9 + 8, none⟩ = some u8) (ov0 : v0.oneCell' = true) (ov1 : v1.oneCell' = true) (ov2 : v2.oneCell' = true) (ov3 : v3.oneCell' = true) (ov4 : v4.oneCell' = true) (ov5 : v5.oneCell' = true) (ov6 : v6.oneCell' = true) (ov7 : v7.oneCell' = true) (ov8 : v8.oneCell' = true) (ou0 : u0.oneCell' = true) (ou1 : u1.oneCell' = true) (ou2 : u2.oneCell' = true) (ou3 : u3.oneCell' = true) (ou4 : u4.oneCell' = true) (ou5 : u5.oneCell' = true) (ou6 : u6.oneCell' = true) (ou7 : u7.oneCell' = true) (ou8 : u8.oneCell' = true) :
  CallsIn (Fw none) n Tryz.prog 44 #[.agg #[.slice (some ⟨b0, off0, none⟩) n0 c0, .slice (some ⟨b1, off1, none⟩) n1 c1, it], .int .i64 (k : Int)] w fun e w' => e = .returned (.tuple #[.agg #[v0, v1, v2, v3, v4, v5, v6, v7, v8], .agg #[u0, u1, u2, u3, u4, u5, u6, u7, u8]]) ∧ Below w.heap.size w w' := by
 refine callsIn_of_wp (F := Fw none) Tryz.func44 rfl trivial ?_ rfl
 simp only [Tryz.ntmps44, List.size_toArray, List.length_cons, List.length_nil, Nat.reduceAdd, Nat.reduceSub, Array.replicate_succ, Array.replicate_zero, List.push_toArray, List.append_toArray, List.nil_append, List.cons_append]
 have up : ∀ {p : Addr} {v : Value}, w.cell? p = some v → ∀ o1 o2 o3, (((w.alloc o1).alloc o2).alloc o3).cell? p = some v := fun h o1 o2 o3 => Lib.cell?_alloc_some _ (Lib.cell?_alloc_some _ (Lib.cell?_alloc_some _ h))
 replace da := up da
 replace db := up db
 replace w0 := fun o1 o2 o3 o4 => Lib.cell?_alloc_some o4 (up w0 o1 o2 o3)
 replace w1 := fun o1 o2 o3 o4 => Lib.cell?_alloc_some o4 (up w1 o1 o2 o3)
 replace w2 := fun o1 o2 o3 o4 => Lib.cell?_alloc_some o4 (up w2 o1 o2 o3)
 replace w3 := fun o1 o2 o3 o4 => Lib.cell?_alloc_some o4 (up w3 o1 o2 o3)
 replace w4 := fun o1 o2 o3 o4 => Lib.cell?_alloc_some o4 (up w4 o1 o2 o3)
 replace w5 := fun o1 o2 o3 o4 => Lib.cell?_alloc_some o4 (up w5 o1 o2 o3)
 replace w6 := fun o1 o2 o3 o4 => Lib.cell?_alloc_some o4 (up w6 o1 o2 o3)
 replace w7 := fun o1 o2 o3 o4 => Lib.cell?_alloc_some o4 (up w7 o1 o2 o3)
 replace w8 := fun o1 o2 o3 o4 => Lib.cell?_alloc_some o4 (up w8 o1 o2 o3)
 replace x0 := fun o1 o2 o3 o4 => Lib.cell?_alloc_some o4 (up x0 o1 o2 o3)
 replace x1 := fun o1 o2 o3 o4 => Lib.cell?_alloc_some o4 (up x1 o1 o2 o3)
 replace x2 := fun o1 o2 o3 o4 => Lib.cell?_alloc_some o4 (up x2 o1 o2 o3)
 replace x3 := fun o1 o2 o3 o4 => Lib.cell?_alloc_some o4 (up x3 o1 o2 o3)
 replace x4 := fun o1 o2 o3 o4 => Lib.cell?_alloc_some o4 (up x4 o1 o2 o3)
 replace x5 := fun o1 o2 o3 o4 => Lib.cell?_alloc_some o4 (up x5 o1 o2 o3)
 replace x6 := fun o1 o2 o3 o4 => Lib.cell?_alloc_some o4 (up x6 o1 o2 o3)
 replace x7 := fun o1 o2 o3 o4 => Lib.cell?_alloc_some o4 (up x7 o1 o2 o3)
 replace x8 := fun o1 o2 o3 o4 => Lib.cell?_alloc_some o4 (up x8 o1 o2 o3)
 clear up
 gi_wp2
 have sv0 := fun a m W => run_store Tryz.prog W a v0 m ov0
 have sv1 := fun a m W => run_store Tryz.prog W a v1 m ov1
 have sv2 := fun a m W => run_store Tryz.prog W a v2 m ov2
 have sv3 := fun a m W => run_store Tryz.prog W a v3 m ov3
 have sv4 := fun a m W => run_store Tryz.prog W a v4 m ov4
 have sv5 := fun a m W => run_store Tryz.prog W a v5 m ov5
 have sv6 := fun a m W => run_store Tryz.prog W a v6 m ov6
 have sv7 := fun a m W => run_store Tryz.prog W a v7 m ov7
 have sv8 := fun a m W => run_store Tryz.prog W a v8 m ov8
 have su0 := fun a m W => run_store Tryz.prog W a u0 m ou0
 have su1 := fun a m W => run_store Tryz.prog W a u1 m ou1
 have su2 := fun a m W => run_store Tryz.prog W a u2 m ou2
 have su3 := fun a m W => run_store Tryz.prog W a u3 m ou3
 have su4 := fun a m W => run_store Tryz.prog W a u4 m ou4
 have su5 := fun a m W => run_store Tryz.prog W a u5 m ou5
 have su6 := fun a m W => run_store Tryz.prog W a u6 m ou6
 have su7 := fun a m W => run_store Tryz.prog W a u7 m ou7
 have su8 := fun a m W => run_store Tryz.prog W a u8 m ou8
 have fz : ∀ (d : Nat) (q : Nat) (p : Option Nat), w.frozen? ⟨w.heap.size + d, q, none⟩ = false := fun d q _ => by
  have : w.heap[w.heap.size + d]? = none := Array.getElem?_eq_none (by omega)
  simp [World.frozen?, this]
 have fr : ∀ (d q : Nat) c1 t1 c2 t2 c3 t3 c4 t4, ((((w.alloc (.cells c1 t1)).alloc (.cells c2 t2)).alloc (.cells c3 t3)).alloc (.cells c4 t4)).drew.frozen? ⟨w.heap.size + d, q, none⟩ = false := fun d q c1 t1 c2 t2 c3 t3 c4 t4 => by
  rw [frozen_drew_own, frozen?_alloc_cells, frozen?_alloc_cells, frozen?_alloc_cells, frozen?_alloc_cells]
  exact fz d q none
 have hm : Tryz.prog.follows .mixedOrders = true := mixed
 gi_region_o
 gi_wp2
 refine bodyPost_ret (by simp [results, Tryz.results44, go_sem]; rfl) rfl ?_
 exact ⟨rfl, ((((Below.refl _ _).alloc (Nat.le_refl _) _).alloc (by simp) _).alloc (by simp; omega) _).alloc (by simp; omega) _ |>.drew⟩
set_option maxRecDepth 100000 in
set_option maxHeartbeats 4000000 in
theorem QPv (Bs b0 off0 c0 n0 b1 off1 c1 n1 : Nat) (A0 A1 : Option Addr) (it : Value) (vs : List Value) (l1 : List Keep) (Xf : Nat → Nat → Prop) (w : World) (hn0 : n0 ≤ 99999) (hn1 : n1 ≤ 99999) (hl1 : l1.length = n1)
  (hB0 : w.cell? ⟨Bs, 0, none⟩ = some (.slice A0 n0 c0)) (hB1 : w.cell? ⟨Bs, 1, none⟩ = some (.slice A1 n1 c1)) (hB2 : w.cell? ⟨Bs, 2, none⟩ = some it) (hBl : Bs < w.heap.size) (hBx : ∀ q, ¬ Xf Bs q)
  (hE : 0 < n1 → A1 = some ⟨b1, off1, none⟩ ∧ b1 < w.heap.size ∧ (∀ j, j < n1 * 2 → ¬ Xf b1 (off1 + j)) ∧ ∀ k (hk : k < l1.length), w.cell? ⟨b1, off1 + k * 2, none⟩ = some (.int .i64 l1[k].1) ∧ w.cell? ⟨b1, off1 + k * 2 + 1, none⟩ = some (.int .i64 l1[k].2.1))
  (hP : 0 < n0 → A0 = some ⟨b0, off0, none⟩ ∧ vs.length = n0 * 9 ∧ b0 < w.heap.size ∧ (∀ j, j < vs.length → ¬ Xf b0 (off0 + j)) ∧ (∀ v ∈ vs, v.oneCell' = true) ∧ ∀ j v, vs[j]? = some v → w.cell? ⟨b0, off0 + j, none⟩ = some v)
  (hin : ∀ k (hk : k < l1.length), (0 ≤ l1[k].1 ∧ l1[k].1 < n0) ∧ 0 ≤ l1[k].2.1 ∧ l1[k].2.1 < n0) :
  ItOk Tryz.prog 81 [.pointer (some ⟨Bs, 0, none⟩)] (encP vs l1) Xf w := by
 intro l J Jx W hJ hJx hK hY h0 _
 have HE := Lib.hid hE
 have HP := Lib.hid hP
 have HI := Lib.hid hin
 clear hE hP hin
 refine callsIn_of_wp (F := Fw none) Tryz.func81 rfl trivial ?_ rfl
 simp only [Tryz.ntmps81, List.size_toArray, List.length_cons, List.length_nil, Nat.reduceAdd, Nat.reduceSub, Array.replicate_succ, Array.replicate_zero, List.push_toArray, List.append_toArray, List.nil_append, List.cons_append]
 have hb1 : W.cell? ⟨Bs, 1, none⟩ = some (.slice A1 n1 c1) := ((hK _ W h0).2 Bs 1 hBl (hBx 1)).trans hB1
 gi_wp2
 gi_loopw [7] (fun i wr => ∃ k : Nat, k ≤ n1 ∧ i = .int .i64 (k : Int) ∧ J ((encP vs l1).drop k) wr)
  (fun i _ => n1 - (intOf i).toNat)
 case atStart => exact ⟨0, Nat.zero_le _, rfl, h0⟩
 case round =>
  obtain ⟨k, hk, rfl, hJs⟩ := hrel
  by_cases hlt : k < n1
  ·have hlt2 : k < l1.length := by omega
   obtain ⟨rfl, hbl, hnx, hcl⟩ := HE.out (by omega)
   obtain ⟨⟨a0, a1⟩, s0, s1⟩ := HI.out k hlt2
   obtain ⟨rfl, hvl, hpl, hpx, hpo, hpc⟩ := HP.out (by omega)
   obtain ⟨ca, cb⟩ := hcl k hlt2
   have hJ2 := hJs
   have hlen : k < (encP vs l1).length := by simpa [encP] using hlt2
   rw [List.drop_eq_getElem_cons hlen] at hJ2
   have hrow : (encP vs l1)[k] = #[cut9 vs l1[k].1.toNat, cut9 vs l1[k].2.1.toNat] := by simp [encP]
   rw [hrow] at hJ2
   have keep : ∀ b q, b < w.heap.size → ¬ Xf b q → wr.cell? ⟨b, q, none⟩ = w.cell? ⟨b, q, none⟩ := fun b q h1 h2 => (hK _ wr hJs).2 b q h1 h2
   have hsz : w.heap.size ≤ wr.heap.size := (hK _ wr hJs).1
   generalize hxa : l1[k].1 = xa at *
   generalize hxs : l1[k].2.1 = xs at *
   obtain ⟨a, rfl⟩ := Int.eq_ofNat_of_zero_le a0
   obtain ⟨s, rfl⟩ := Int.eq_ofNat_of_zero_le s0
   have ka : a < n0 := by omega
   have ks : s < n0 := by omega
   have cel : ∀ q, q < n0 → ∀ i, i < 9 → ∃ v, vs[q * 9 + i]? = some v ∧ wr.cell? ⟨b0, off0 + (q * 9 + i), none⟩ = some v ∧ v.oneCell' = true := by
    intro q hq i hi
    have hlt : q * 9 + i < vs.length := by omega
    exact ⟨_, List.getElem?_eq_getElem hlt, (keep b0 _ hpl (hpx _ hlt)).trans (hpc _ _ (List.getElem?_eq_getElem hlt)), hpo _ (List.getElem_mem hlt)⟩
   have da : wr.cell? ⟨b1, off1 + k * 2, none⟩ = some (.int .i64 (a : Int)) := (keep b1 _ hbl (hnx _ (by omega))).trans ca
   have db : wr.cell? ⟨b1, off1 + k * 2 + 1, none⟩ = some (.int .i64 (s : Int)) := (keep b1 _ hbl (by rw [Nat.add_assoc]; exact hnx _ (by omega))).trans cb
   have dB0 : wr.cell? ⟨Bs, 0, none⟩ = some (.slice (some ⟨b0, off0, none⟩) n0 c0) := (keep Bs 0 hBl (hBx 0)).trans hB0
   have dB1 : wr.cell? ⟨Bs, 1, none⟩ = some (.slice (some ⟨b1, off1, none⟩) n1 c1) := (keep Bs 1 hBl (hBx 1)).trans hB1
   have dB2 : wr.cell? ⟨Bs, 2, none⟩ = some it := (keep Bs 2 hBl (hBx 2)).trans hB2
   clear keep hnx hpx hpc hcl ca cb hB0 hB1 hB2 hb1
   obtain ⟨v0, e0, w0, ov0⟩ := cel a ka 0 (by omega)
   obtain ⟨v1, e1, w1, ov1⟩ := cel a ka 1 (by omega)
   obtain ⟨v2, e2, w2, ov2⟩ := cel a ka 2 (by omega)
   obtain ⟨v3, e3, w3, ov3⟩ := cel a ka 3 (by omega)
   obtain ⟨v4, e4, w4, ov4⟩ := cel a ka 4 (by omega)
   obtain ⟨v5, e5, w5, ov5⟩ := cel a ka 5 (by omega)
   obtain ⟨v6, e6, w6, ov6⟩ := cel a ka 6 (by omega)
   obtain ⟨v7, e7, w7, ov7⟩ := cel a ka 7 (by omega)
   obtain ⟨v8, e8, w8, ov8⟩ := cel a ka 8 (by omega)
   obtain ⟨u0, f0, x0, ou0⟩ := cel s ks 0 (by omega)
   obtain ⟨u1, f1, x1, ou1⟩ := cel s ks 1 (by omega)
   obtain ⟨u2, f2, x2, ou2⟩ := cel s ks 2 (by omega)
   obtain ⟨u3, f3, x3, ou3⟩ := cel s ks 3 (by omega)
   obtain ⟨u4, f4, x4, ou4⟩ := cel s ks 4 (by omega)
   obtain ⟨u5, f5, x5, ou5⟩ := cel s ks 5 (by omega)
   obtain ⟨u6, f6, x6, ou6⟩ := cel s ks 6 (by omega)
   obtain ⟨u7, f7, x7, ou7⟩ := cel s ks 7 (by omega)
   obtain ⟨u8, f8, x8, ou8⟩ := cel s ks 8 (by omega)
   rw [Nat.add_zero] at e0 w0 f0 x0
   rw [← Nat.add_assoc] at w1 w2 w3 w4 w5 w6 w7 w8 x1 x2 x3 x4 x5 x6 x7 x8
   clear cel hrow
   gi_wp2_with fail
   refine (QZK hlt ka ks hn0 hn1 (Nat.lt_of_lt_of_le hpl hsz) (Nat.lt_of_lt_of_le hbl hsz) da db w0 w1 w2 w3 w4 w5 w6 w7 w8 x0 x1 x2 x3 x4 x5 x6 x7 x8 ov0 ov1 ov2 ov3 ov4 ov5 ov6 ov7 ov8 ou0 ou1 ou2 ou3 ou4 ou5 ou6 ou7 ou8).mono ?_
   rintro e W2 ⟨rfl, hbel⟩
   obtain ⟨fn, tmps, assign, body, hy, hR⟩ := hY _ _ W2 (hJ _ _ _ hJ2 hbel)
   rw [Int.toNat_natCast, Int.toNat_natCast, QNB e0 e1 e2 e3 e4 e5 e6 e7 e8, QNB f0 f1 f2 f3 f4 f5 f6 f7 f8] at hy
   clear w0 w1 w2 w3 w4 w5 w6 w7 w8 x0 x1 x2 x3 x4 x5 x6 x7 x8 da db dB0 dB1 dB2 hY hJ2
   gi_wp2
   refine hR.mono ?_
   rintro e W3 (⟨rfl, hJ3⟩ | ⟨rfl, hJx3⟩)
   ·gi_wp2
    go_roundw
    case rel => exact ⟨k + 1, by omega, by simp, hJ3⟩
    case measure => simp [intOf]; omega
   ·gi_wp2
    refine bodyPost_ret (results_none rfl _ _ _) rfl ?_
    exact ⟨⟨_, rfl⟩, .inr hJx3⟩
  ·obtain rfl : k = n1 := by omega
   rw [List.drop_of_length_le (by simp [encP]; omega)] at hJs
   gi_wp2
   go_end0
   exact ⟨⟨_, rfl⟩, .inl hJs⟩
def prsI (e : Qaq) : List (Qab × Qab × Unit) := (xEdg e).map fun x => (epAt (xEps e) x.1.toNat, (epAt (xEps e) x.2.1.toNat, ()))
def prsOk (e : Qaq) : Bool := decide ((xEps e).length ≤ 99999 ∧ (xEdg e).length ≤ 99999) && (xEdg e).all fun x => decide ((0 ≤ x.1 ∧ x.1 < (xEps e).length) ∧ 0 ≤ x.2.1 ∧ x.2.1 < (xEps e).length)
def QhZ : Itr := mkIt [.ptr 50000 0] [Qau] (.pr Qae (.pr Qae .nil)) (fun d => (prsOk d.1)) (fun d => (prsI d.1))
noncomputable def QGh : TC := (.sq (.reg (rT Tryz.f41 0)) (.sq (.reg (rT Tryz.f41 1)) .rt))
def QT3 : List (RV × Option Ty) := [((.t 2), none)]
def g_f41 : G := ⟨TYs, [], 4, EL [], keeps, (fun _ _ => none), IL [], RL []⟩
def r_f41 (p0 : Qaq) : Option (V × List VO) := some (.fn 81 [(.ptr 50000 0)], [.box (.t Qau p0)])
theorem e_f41 (p0 : Qaq) : runF g_f41 QGh QT3 true [.t Qau p0] [] = r_f41 p0 := by kernel_rfl
theorem QUY : Qai Tryz.prog 41 := .inr ⟨by decide, _, Tryz.func41, by kernel_rfl, by kernel_rfl⟩
theorem gk_f41 : GOk Tryz.prog g_f41 := Qal _ (fun p hp => by cases hp)
theorem lk_f41 : QGh.lok g_f41 := by repeat (first | exact trivial | refine ⟨?_, ?_⟩)
def QGI : Ent := specO (.pr Qau .nil) (fun _ => true) (fun x => .fn 81 [.ptr 50000 0]) (fun x => [.box (.t Qau x.1)])
theorem QUI : Meets Tryz.prog 41 (strip QGI) := QqO (R := runF g_f41 QGh QT3 true) (mG Tryz.func41 (by kernel_rfl) Tryz.ntmps41 (by kernel_rfl) gk_f41 lk_f41) fun x _ => (e_f41 x.1).trans rfl
theorem QMC {X : Nat → Nat → Prop} {w : World} {l : List Qab} {vs : List Value} (h : Cs X w nowhere (l.flatMap Qae.cells) vs) {a : Nat} (ha : a < l.length) : C X w nowhere (V.t Qae (epAt l a)).d (cut9 vs a) := by
 rw [show epAt l a = l[a] by simp only [epAt, List.getD_eq_getElem?_getD, List.getElem?_eq_getElem ha, Option.getD_some]]
 simp only [V.d]
 rw [Ty.d_row Qae _ rfl]
 simp only [C]
 refine ⟨_, rfl, ?_⟩
 have k1 := h.drop_ (a * Qae.sz)
 rw [QcZ, List.drop_eq_getElem_cons ha, List.flatMap_cons] at k1
 have k2 := k1.take_ Qae.sz
 rw [List.take_left' (Qae.cells_len _)] at k2
 exact k2
theorem QYo {X : Nat → Nat → Prop} {w : World} {l : List Keep} {vs : List Value} (h : Cs X w nowhere (l.flatMap Qag.cells) vs) {k : Nat} (hk : k < l.length) : vs[k * 2]? = some (.int .i64 l[k].1) ∧ vs[k * 2 + 1]? = some (.int .i64 l[k].2.1) := by
 have k1 := h.drop_ (k * Qag.sz)
 rw [QcZ, List.drop_eq_getElem_cons hk, List.flatMap_cons] at k1
 have k3 : Cs X w nowhere (D.v (.int .i64 l[k].1) :: D.v (.int .i64 l[k].2.1) :: (l.drop (k + 1)).flatMap Qag.cells) (vs.drop (k * 2)) := k1
 simp only [Cs] at k3
 obtain ⟨u0, r0, q0, c0, u1, r1, q1, c1, _⟩ := k3
 have d0 : (vs.drop (k * 2))[0]? = some u0 := by rw [q0]; rfl
 have d1 : (vs.drop (k * 2))[1]? = some u1 := by rw [q0, q1]; rfl
 rw [List.getElem?_drop] at d0 d1
 rw [(C.v c0).1] at d0
 rw [(C.v c1).1] at d1
 exact ⟨d0, d1⟩
theorem QCu : Iters Tryz.prog 81 QhZ := by
 refine Iters.weak (by decide) (enters_of Tryz.func81 (by kernel_rfl) rfl) fun caps objs yr rows h X w σ lb hfin hl hc => ?_
 unfold QhZ mkIt at h
 split at h
 ·rename_i x d hx hd
  simp only [Option.some.injEq, Prod.mk.injEq] at h
  obtain ⟨hok, h⟩ := h
  cases h
  have hcaps := Qlw hx
  subst hcaps
  cases objs with
  | nil => simp [Qbv] at hd
  | cons o os =>
   cases o with
   | box cv =>
    cases os with
    | cons o2 os => simp [Qbv] at hd
    | nil =>
     simp only [Qbv] at hd
     split at hd
     ·rename_i l u hl1 _
      simp only [Option.some.injEq] at hd
      subst hd
      have hl2 : V.as Qau cv = some l := hl1
      simp only [prsOk, Bool.and_eq_true, decide_eq_true_eq, List.all_eq_true] at hok
      obtain ⟨⟨n0, n1⟩, hin⟩ := hok
      obtain ⟨Bs, ty, us, h1, h2, h3, h4⟩ := QxU (show Qau.row = true from rfl) hl2 (hl.at_ 0 _ rfl).1
      have h3' : Cs X w σ [.sl (List.length l.1) (List.flatMap Qae.cells l.1), .sl (List.length l.2.1) (List.flatMap Qag.cells l.2.1), .sl (List.length l.2.2.1) (List.flatMap QaW.cells l.2.2.1)] us := h3
      simp only [Cs] at h3'
      obtain ⟨u0, r0, rfl, k0, u1, r1, rfl, k1, u2, r2, rfl, k2, rfl⟩ := h3'
      simp only [C] at k0 k1
      obtain ⟨A0, c0, rfl, _, _, _, g4⟩ := k0
      obtain ⟨A1, c1, rfl, _, _, _, e4⟩ := k1
      simp only [mkVt, SV.mk, V.ds, V.d, Cs, C] at hc
      obtain ⟨p, ps, rfl, ⟨b', q1, rfl⟩, rfl⟩ := hc
      have h1 : σ 50000 = .box Bs := h1
      rw [h1] at q1
      injection q1 with q1
      subst q1
      have hBl := (Array.getElem?_eq_some_iff.1 h2).1
      have hBx : ∀ q, ¬ (X Bs q ∧ ∀ j, j < [VO.box cv].length → (σ (50000 + j)).blk ≠ some Bs) := fun q hq => hq.2 0 (by simp) (by rw [h1]; rfl)
      obtain ⟨b0, off0, vs, hP⟩ : ∃ b0 off0 vs, 0 < List.length l.1 → A0 = some ⟨b0, off0, none⟩ ∧ Cs X w nowhere (List.flatMap Qae.cells l.1) vs ∧ Fix X w b0 off0 vs := by
       rcases Nat.eq_zero_or_pos (List.length l.1) with h0 | hp
       ·exact ⟨0, 0, [], fun h => absurd h (by omega)⟩
       ·obtain ⟨b0, off0, vs, x1, x2, x3⟩ := g4 hp
        exact ⟨b0, off0, vs, fun _ => ⟨x1, x2, x3⟩⟩
      obtain ⟨b1, off1, ws, hE⟩ : ∃ b1 off1 ws, 0 < List.length l.2.1 → A1 = some ⟨b1, off1, none⟩ ∧ Cs X w nowhere (List.flatMap Qag.cells l.2.1) ws ∧ Fix X w b1 off1 ws := by
       rcases Nat.eq_zero_or_pos (List.length l.2.1) with h0 | hp
       ·exact ⟨0, 0, [], fun h => absurd h (by omega)⟩
       ·obtain ⟨b0, off0, vs, x1, x2, x3⟩ := e4 hp
        exact ⟨b0, off0, vs, fun _ => ⟨x1, x2, x3⟩⟩
      have hin2 : ∀ k (hk : k < l.2.1.length), (0 ≤ (l.2.1[k]).1 ∧ (l.2.1[k]).1 < (l.1.length : Int)) ∧ 0 ≤ (l.2.1[k]).2.1 ∧ (l.2.1[k]).2.1 < (l.1.length : Int) := fun k hk => hin _ (List.getElem_mem hk)
      refine ⟨encP vs l.2.1, ⟨by simp [prsI, encP, xEdg], fun i r v hr hv => ?_⟩, QPv Bs b0 off0 c0 (List.length l.1) b1 off1 c1 (List.length l.2.1) A0 A1 u2 vs l.2.1 _ w n0 n1 rfl (by simp [World.cell?, h2]) (by simp [World.cell?, h2]) (by simp [World.cell?, h2]) hBl hBx (fun hp => ?_) (fun hp => ?_) hin2⟩
      ·simp only [prsI, encP, xEdg, List.getElem?_map, Option.map_eq_some_iff] at hr hv
       obtain ⟨x, hx, rfl⟩ := hr
       obtain ⟨y, hy, rfl⟩ := hv
       rw [hx] at hy
       injection hy with hy
       subst hy
       have hb := hin x (List.mem_of_getElem? hx)
       obtain ⟨⟨a0, a1⟩, s0, s1⟩ := hb
       simp only [xEps] at a1 s1
       obtain ⟨_, g5, _⟩ := hP (by omega)
       simp only [Ty.canon, V.ds, Cs]
       exact ⟨_, _, rfl, QMC g5 (by omega), _, _, rfl, QMC g5 (by omega), rfl⟩
      ·obtain ⟨x1, x2, x3⟩ := hE hp
       have hvl := x2.len
       rw [QcO] at hvl
       have hvl : ws.length = List.length l.2.1 * 2 := hvl
       refine ⟨x1, x3.lt, fun j hj hx => x3.nx j (by omega) hx.1, fun k hk => ?_⟩
       obtain ⟨y1, y2⟩ := QYo x2 hk
       refine ⟨x3.at_ _ _ y1, ?_⟩
       rw [Nat.add_assoc]
       exact x3.at_ _ _ y2
      ·obtain ⟨x1, x2, x3⟩ := hP hp
       have hvl := x2.len
       rw [QcO] at hvl
       have hvl : vs.length = List.length l.1 * 9 := hvl
       exact ⟨x1, hvl, x3.lt, fun j hj hx => x3.nx j hj hx.1, x3.one, fun j v hv => x3.at_ j v hv⟩
     ·cases hd
   | no => simp [Qbv] at hd
   | arr e t l => simp [Qbv] at hd
 ·cases h
end Go.Proofs.YtckcgijklnloiaaGreat.K
namespace Go.Proofs.YtckcgijklnloiaaGreat.K
open Go.RowKit
noncomputable section
abbrev ERow : Type := Qab × Qab × Unit
def prow (e : Qaq) (x : Keep) : ERow := (epAt (xEps e) x.1.toNat, (epAt (xEps e) x.2.1.toNat, ()))
theorem QBT (e : Qaq) : prsI e = (xEdg e).map (prow e) := rfl
def QJn (d : Int) (z : ERow) : Bool := ine (QcG z.1 z.2.1 d).2 0
def outO (d : Int) (z : ERow) : Keep := bif QJn d z then zK else (QcG z.1 z.2.1 d).1
def brkU (d : Int) : List ERow → Nat → List Int
 | [], _ => []
 | z :: r, k => bif QJn d z then (k : Int) :: brkU d r (k + 1) else brkU d r (k + 1)
def Qig (zs : List ERow) : Bool := zs.all fun z => Qa8 z.1 z.2.1
def allF (e : Qaq) (d : Int) : List Keep × List Int × Int :=
 bif !estOk e then ([], [], 31) else bif !dayF d then ([], [], 2) else ((prsI e).map (outO d), brkU d (prsI e) 0, 0)
theorem QDr {e : Qaq} (hl : Qcs e = true) (h : estOk e = true) : prsOk e = true ∧ Qig (prsI e) = true ∧ (prsI e).length ≤ 40 := by
 have hp := QxC h
 have hlen : (xEps e).length ≤ 99999 ∧ (xEdg e).length ≤ 99999 := ⟨by omega, by omega⟩
 have hin : ∀ x ∈ xEdg e, (0 ≤ x.1 ∧ x.1 < (xEps e).length) ∧ 0 ≤ x.2.1 ∧ x.2.1 < (xEps e).length := fun x hx => by
  obtain ⟨k, hk⟩ := List.mem_iff_getElem?.1 hx
  obtain ⟨hk1, rfl⟩ := List.getElem?_eq_some_iff.1 hk
  have := Qu6 h hk1
  have he : egAt (xEdg e) k = (xEdg e)[k] := by simp only [egAt, List.getD_eq_getElem?_getD, List.getElem?_eq_getElem hk1, Option.getD_some]
  rw [he] at this
  exact ⟨this.1, this.2.1⟩
 refine ⟨?_, ?_, ?_⟩
 ·simp only [prsOk, Bool.and_eq_true, decide_eq_true_eq, List.all_eq_true]
  exact ⟨hlen, hin⟩
 ·rw [QBT]
  simp only [Qig, List.all_eq_true, List.mem_map]
  rintro z ⟨x, hx, rfl⟩
  obtain ⟨⟨a0, a1⟩, s0, s1⟩ := hin x hx
  exact Bool.and_eq_true_iff.2 ⟨Qu7 (Qu5 hl) (decide_eq_true ⟨a0, by omega⟩), Qu7 (Qu5 hl) (decide_eq_true ⟨s0, by omega⟩)⟩
 ·rw [QBT, List.length_map]
  exact hp.2.2.2.2.2
noncomputable def QRN : List DO := dT Tryz.f14 14
def QeP : Fg := ⟨[(3, none), (7, none), (8, none)], [(60000, some tI), (60001, none), (60002, none), (39, none), (43, none), (20700, none), (20800, none)]⟩
noncomputable def Qnk : TC := (.sq (.reg (rT Tryz.f14 8)) (.reg (rT Tryz.f14 9)))
noncomputable def Qni : TC := (.bk 2 (.sq (.reg (rT Tryz.f14 10)) (.sq (.sq (.reg (rT Tryz.f14 11)) (.cd (.t 33) (.reg (rT Tryz.f14 12)) .sk)) (.reg (rT Tryz.f14 13)))))
noncomputable def QGt : TC := (.sq (.reg (rT Tryz.f14 0)) (.sq (.bk 0 (.sq (.reg (rT Tryz.f14 1)) (.cd (.t 13) (.sq (.reg (rT Tryz.f14 2)) .rt) (.sq (.reg (rT Tryz.f14 3)) (.cd (.t 17) (.sq (.reg (rT Tryz.f14 4)) .rt) .sk))))) (.sq (.reg (rT Tryz.f14 5)) (.sq (.reg (rT Tryz.f14 6)) (.sq (.sq (.reg (rT Tryz.f14 7)) (.bk 1 (.nf 7 0 39 20700 (.nf 8 0 3 20800 (.rf 0 QeP (.t 22) (.pr Qae (.pr Qae .nil)) [23, 24] [3, 7, 8] Qnk Qni))))) (.sq (.dr QRN [(0, [7, 43, 20700]), (1, [8, 39, 20800]), (2, [43, 20700]), (3, [39, 20800]), (4, [])] (.of [0, 1, 2, 3, 4])) .rt))))))
def QUf : List (RV × Option Ty) := [((.t 4), some (.sl Qag)), ((.t 5), some (.sl tI)), ((.t 6), some tI)]
abbrev QtK : Sh := ⟨[(3, .ptr 60000 0), (7, .ptr 60001 0), (8, .ptr 60002 0)], [(60000, .box tI), (60001, .bag [.ms 20700]), (60002, .bag [.ms 20800]), (39, .no), (43, .no), (20700, .arr 39 Qag), (20800, .arr 3 tI)]⟩
def Qnt (y60000 : Int) (y20700 : List Keep) (y20800 : List Int) : VS := QtK.st ((), (), (), ()) (y60000, ((), ()), ((), ()), (), (), y20700, y20800, ())
abbrev QpS : Sh := ⟨[(3, .ptr 60000 0), (7, .ptr 60001 0), (8, .ptr 60002 0)], [(60000, .box tI), (60001, .bag [.ms 20700]), (60002, .bag [.ms 20800]), (39, .no), (43, .no), (20700, .arr 39 Qag), (20800, .arr 3 tI)]⟩
def QdD (y60000 : Int) (y20700 : List Keep) (y20800 : List Int) : VS := QpS.st ((), (), (), ()) (y60000, ((), ()), ((), ()), (), (), y20700, y20800, ())
def Qvn : VS → List (Ty.T (.pr Qae (.pr Qae .nil))) → Option (Bool × List (Bool × Exit × VS)) := mkR QtK (fun zs x y => (Qig zs && decide (y.2.2.2.2.2.1.length + zs.length ≤ 1000 ∧ y.2.2.2.2.2.2.1.length ≤ y.2.2.2.2.2.1.length))) (fun zs x y => [(true, .normal, QdD (y.1) (y.2.2.2.2.2.1 ++ zs.map (outO y.1)) (y.2.2.2.2.2.2.1 ++ brkU y.1 zs y.2.2.2.2.2.1.length))])
def g_f14 : G := ⟨TYs, [], 46, EL [(39, QBE), (40, QGJ), (41, QGI), (42, QGH)], keeps, (Ls [fun _ => none]), IL [(81, QhZ)], (RL [⟨(.pr Qae (.pr Qae .nil)), Qvn⟩])⟩
def QOK (z : (Qab × (Qab × Unit))) (y60000 : Int) (y20700 : List Keep) (y20800 : List Int) : Option (Exit × VS) :=
 let a1 := QcG z.1 z.2.1 y60000
 let a2 := ((a1.1).1, (((a1.1).2).1, ()))
 br (Qf6 z.1 z.2.1 y60000) (br (ine (a1.2) 0) (br (cApp y20800 ([(llen y20700)]) 8) (br (cApp y20700 ([(0, (0, ()))]) 16) (some (.normal, Qnt y60000 (y20700 ++ ([(0, (0, ()))])) (y20800 ++ ([(llen y20700)])))) none) none) (br (cApp y20700 ([a2]) 16) (some (.normal, Qnt y60000 (y20700 ++ ([a2])) y20800)) none)) none
noncomputable def QjY (zs : List (Qab × (Qab × Unit))) (y60000 : Int) (y20700 : List Keep) (y20800 : List Int) : Option (Exit × VS) := Qda (Qev g_f14 QeP (.pr Qae (.pr Qae .nil)) [23, 24] Qnk Qni) zs (Qnt y60000 y20700 y20800)
noncomputable def Qz8 (z : (Qab × (Qab × Unit))) (zs : List (Qab × (Qab × Unit))) (y60000 : Int) (y20700 : List Keep) (y20800 : List Int) : Option (Exit × VS) :=
 let a1 := QcG z.1 z.2.1 y60000
 let a2 := ((a1.1).1, (((a1.1).2).1, ()))
 br (Qf6 z.1 z.2.1 y60000) (br (ine (a1.2) 0) (br (cApp y20800 ([(llen y20700)]) 8) (br (cApp y20700 ([(0, (0, ()))]) 16) (QjY zs y60000 (y20700 ++ ([(0, (0, ()))])) (y20800 ++ ([(llen y20700)]))) none) none) (br (cApp y20700 ([a2]) 16) (QjY zs y60000 (y20700 ++ ([a2])) y20800) none)) none
def QuX (zs : List (Qab × (Qab × Unit))) (y60000 : Int) (y20700 : List Keep) (y20800 : List Int) : Option (Exit × VS) := some (.normal, QdD (y60000) (y20700 ++ zs.map (outO y60000)) (y20800 ++ brkU y60000 zs y20700.length))
theorem QSk (z : (Qab × (Qab × Unit))) (y60000 : Int) (y20700 : List Keep) (y20800 : List Int) : Qev g_f14 QeP (.pr Qae (.pr Qae .nil)) [23, 24] Qnk Qni z (Qnt y60000 y20700 y20800) = QOK z y60000 y20700 y20800 := by kernel_rfl
theorem QLZ (y60000 : Int) (y20700 : (List Keep)) (y20800 : (List Int)) : QjY [] y60000 y20700 y20800 = some (.normal, QdD y60000 y20700 y20800) := rfl
theorem QQc (z : (Qab × (Qab × Unit))) (zs : List (Qab × (Qab × Unit))) (y60000 : Int) (y20700 : List Keep) (y20800 : List Int) : QjY (z :: zs) y60000 y20700 y20800 = Qz8 z zs y60000 y20700 y20800 := (QiF _ _ _ _).trans (by
 rw [QSk]
 simp only [QOK, Qz8, Qay, nxt_n, nxt_r, nxt_e, nxt_0]
 rfl)
def r_f14 (p0 : Qaq) (p1 : Int) : Option (V × List VO) := br (Qcs p0) (br (ine (QmF p0) 0) (some (.tu [(.t (.sl Qag) ([] : List Keep)), (.t (.sl tI) ([] : List Int)), (.t tI 31)], [])) (br (!(dayF p1)) (some (.tu [(.t (.sl Qag) ([] : List Keep)), (.t (.sl tI) ([] : List Int)), (.t tI 2)], [])) (br (prsOk p0) (br (Qig (prsI p0) && decide (([] : List Keep).length + (prsI p0).length ≤ 1000 ∧ ([] : List Int).length ≤ ([] : List Keep).length)) (some (.tu [(.t (.sl Qag) (([] : List Keep) ++ (prsI p0).map (outO p1))), (.t (.sl tI) (([] : List Int) ++ brkU p1 (prsI p0) ([] : List Keep).length)), (.t tI 0)], [])) none) none))) none
theorem e_f14 (p0 : Qaq) (p1 : Int) : runF g_f14 QGt QUf false [.t Qau p0, .t tI p1] [] = r_f14 p0 p1 := by kernel_rfl
theorem en_f14 : Qai Tryz.prog 14 := .inr ⟨by decide, _, Tryz.func14, by kernel_rfl, by kernel_rfl⟩
theorem gk_f14 : GOk Tryz.prog g_f14 := Qal _ (gA (gC QMR QK3 (gC QUZ QUJ (gC QUY QUI (gC QUX QUH gN)))))
 [(81, QhZ)] (by
 intro p hp
 simp only [List.mem_cons, List.not_mem_nil, or_false] at hp
 rcases hp with rfl
 ·exact QCu)
theorem QYn (zs : List (Qab × (Qab × Unit))) (y60000 : Int) (y20700 : List Keep) (y20800 : List Int) (h : (Qig zs && decide (y20700.length + zs.length ≤ 1000 ∧ y20800.length ≤ y20700.length)) = true) : QjY zs y60000 y20700 y20800 = QuX zs y60000 y20700 y20800 := by
 simp only [Bool.and_eq_true, decide_eq_true_eq] at h
 obtain ⟨hr, h1, h2⟩ := h
 induction zs generalizing y20700 y20800 with
 | nil =>
  rw [QLZ]
  simp only [QuX, List.map_nil, List.append_nil, brkU]
 | cons z zs ih =>
  simp only [Qig, List.all_cons, Bool.and_eq_true] at hr
  simp only [List.length_cons] at h1
  rw [QQc]
  have c1 : Qf6 z.1 z.2.1 y60000 = true := hr.1
  have c2 : ∀ v, cApp y20800 [v] 8 = true := fun v => cAppN (by omega) (by simp only [List.length_singleton]; omega)
  have c3 : ∀ v, cApp y20700 [v] 16 = true := fun v => cAppN (by omega) (by simp only [List.length_singleton]; omega)
  simp only [Qz8, c1, c2, c3, Qad]
  rw [ih _ _ hr.2 (by simp only [List.length_append, List.length_singleton]; omega) (by simp only [List.length_append, List.length_singleton]; omega), ih _ _ hr.2 (by simp only [List.length_append, List.length_singleton]; omega) (by simp only [List.length_append, List.length_singleton]; omega)]
  simp only [QuX, List.map_cons, brkU, outO, QJn, List.append_assoc, List.singleton_append, List.length_append, List.length_singleton]
  cases ine (QcG z.1 z.2.1 y60000).2 0 <;> rfl
theorem QQa : ∀ S (rows : List (Ty.T (.pr Qae (.pr Qae .nil)))) l p, g_f14.R 0 (fgt QeP S) (.pr Qae (.pr Qae .nil)) rows = some (true, l) → pickA l = some p → Qda (Qev g_f14 QeP (.pr Qae (.pr Qae .nil)) [23, 24] Qnk Qni) rows (fgt QeP S) = some p := by
 intro S rows l p hR hp
 rw [show g_f14.R 0 (fgt QeP S) (.pr Qae (.pr Qae .nil)) rows = Qvn (fgt QeP S) rows from RL_at (l := [⟨(.pr Qae (.pr Qae .nil)), Qvn⟩]) (j := 0) (F := Qvn) rfl _ _] at hR
 refine QAu (s := QtK) ⟨by decide, by decide⟩ (by kernel_rfl) (fun zs x y hok p hp => ?_) S rows l p hR hp
 simp only [Qao, Qam] at hp
 exact (QYn zs y.1 y.2.2.2.2.2.1 y.2.2.2.2.2.2.1 (by first | rfl | simpa using hok)).trans hp
theorem lk_f14 : QGt.lok g_f14 := by
 repeat (first | exact trivial | exact QQa | refine ⟨?_, ?_⟩)
theorem s_f14 (e : Qaq) (d : Int) (h : Qgg e d = true) : r_f14 e d = some (.tu [.t (.sl Qag) (allF e d).1, .t (.sl tI) (allF e d).2.1, .t tI (allF e d).2.2], []) := by
 have hl : Qcs e = true := h
 simp only [r_f14, hl, Qad, QrG, List.nil_append, List.length_nil, Nat.zero_add, Nat.le_refl, and_true]
 unfold allF
 cases he : estOk e with
 | false => rfl
 | true =>
  obtain ⟨h1, h2, h3⟩ := QDr hl he
  rw [Bool.not_true, Qaf]
  cases dayF d with
  | false => rfl
  | true =>
   rw [Bool.not_true, Qaf, h1, Qad, h2, Bool.true_and, decide_eq_true (by omega), Qad]
   rfl
def QTr : Ent := spec (.pr Qau (.pr tI .nil)) (fun x => (Qgg x.1 x.2.1)) (fun x => (.tu [(.t (.sl Qag) ((allF x.1 x.2.1).1)), (.t (.sl tI) (((allF x.1 x.2.1).2).1)), (.t tI (((allF x.1 x.2.1).2).2))]))
theorem ms_f14 : Meets Tryz.prog 14 (strip QTr) := Qah (R := runF g_f14 QGt QUf false) (mG Tryz.func14 (by kernel_rfl) Tryz.ntmps14 (by kernel_rfl) gk_f14 lk_f14) fun x hok => (e_f14 x.1 x.2.1).trans (s_f14 x.1 x.2.1 hok)
end
end Go.Proofs.YtckcgijklnloiaaGreat.K
namespace Go.Proofs.YtckcgijklnloiaaGreat.K
open Go.RowKit
noncomputable section
def Qc7 (u : Keep) (a : Int) : Bool := ieq u.1 a
noncomputable def QF7 : TC := (.sq (.reg (rT Tryz.f52 0)) (.sq (.reg (rT Tryz.f52 1)) .rt))
def QTT : List (RV × Option Ty) := [((.t 3), some .bool)]
def g_f52 : G := ⟨TYs, [], 8, EL [], keeps, (fun _ _ => none), IL [], RL []⟩
def r_f52 (p0 : Keep) (d0 : Int) : Option (V × List VO) := some (.t .bool (ieq p0.1 d0), [.box (.t tI d0)])
theorem e_f52 (p0 : Keep) (d0 : Int) : runF g_f52 QF7 QTT false [.t Qag p0, .ptr 50000 0] [.box (.t tI d0)] = r_f52 p0 d0 := by kernel_rfl
theorem en_f52 : Qai Tryz.prog 52 := .inr ⟨by decide, _, Tryz.func52, by kernel_rfl, by kernel_rfl⟩
theorem gk_f52 : GOk Tryz.prog g_f52 := Qal _ (fun p hp => by cases hp)
theorem lk_f52 : QF7.lok g_f52 := by repeat (first | exact trivial | refine ⟨?_, ?_⟩)
theorem s_f52 (u : Keep) (a : Int) : r_f52 u a = some (.t .bool (Qc7 u a), [.box (.t tI a)]) := by
 simp only [r_f52]
 rfl
def QTe : Ent := Qf9 [.ty Qag, .ptr 50000 0] [tI] (fun x d => true) (fun x d => (.t .bool (Qc7 x.1 d.1)))
theorem ms_f52 : Meets Tryz.prog 52 (strip QTe) := Qcp (QaP (R := runF g_f52 QF7 QTT false) (mG Tryz.func52 (by kernel_rfl) Tryz.ntmps52 (by kernel_rfl) gk_f52 lk_f52) fun x d _ => (e_f52 x.1 d.1).trans (s_f52 x.1 d.1))
def okUse (l : List Keep) (_a : Int) : Bool := decide (l.length ≤ 100000)
theorem QKG {l : List Keep} {a : Int} (h : okUse l a = true) : l.length ≤ 100000 := of_decide_eq_true h
def ixUse (l : List Keep) (d0 : Int) : Int := match fstG (fun c => Qc7 c d0) l with | some k => (k : Int) | none => -1
def QdM : Fg := ⟨[(0, some (.sl Qag)), (1, none), (7, some tI), (8, some tI)], [(50000, some tI)]⟩
noncomputable def Qfe : TC := (.sq (.reg (rT Tryz.f86 2)) (.sq (.cd (.t 9) .sk (.fg ⟨[], [(50000, some tI)]⟩ (.ex 0))) (.sq (.bk 1 (.sq (.reg (rT Tryz.f86 3)) (.sq (.reg (rT Tryz.f86 4)) (.cd (.t 16) (.sq (.reg (rT Tryz.f86 5)) (.fg ⟨[(4, some tI)], [(50000, some tI)]⟩ .rt)) .sk)))) (.reg (rT Tryz.f86 6)))))
noncomputable def QoK : TC := (.sq (.reg (rT Tryz.f86 0)) (.sq (.sq (.reg (rT Tryz.f86 1)) (.bk 0 (.lp 0 QdM Qfe))) (.sq (.reg (rT Tryz.f86 7)) .rt)))
def Qwy : List (RV × Option Ty) := [((.t 4), some tI)]
abbrev QiC : Sh := ⟨[(0, .ty (.sl Qag)), (1, .fn 52 [(50000, 0)]), (7, .ty tI), (8, .ty tI)], [(50000, .box tI)]⟩
def Qix (x0 : List Keep) (x7 x8 y50000 : Int) : VS := QiC.st (x0, (), x7, x8, ()) (y50000, ())
abbrev Qpx : Sh := ⟨[(4, .ty tI)], [(50000, .box tI)]⟩
def Qcj (x4 y50000 : Int) : VS := Qpx.st (x4, ()) (y50000, ())
abbrev QrV : Sh := ⟨[], [(50000, .box tI)]⟩
def QcK (y50000 : Int) : VS := QrV.st () (y50000, ())
def QFv : VS → Option (Bool × List (Bool × Exit × VS)) := mkL QiC (fun x y => (rngOk x.1 x.2.2.1 x.2.2.2.1 && okUse x.1 y.1)) (fun x y => [(((fstG (fun c => Qc7 c y.1) (x.1.drop x.2.2.2.1.toNat)).isSome), .ret, Qcj (x.2.2.2.1 + ((fstG (fun c => Qc7 c y.1) (x.1.drop x.2.2.2.1.toNat)).getD 0 : Nat)) (y.1)), (true, .exit 0, QcK (y.1))])
def QeM : G := ⟨TYs, [], 19, EL [(52, QTe)], keeps, (Ls [QFv]), IL [], RL []⟩
def QsM (x0 : List Keep) (x7 x8 y50000 : Int) : Option (Exit × VS) := br (ilt x8 x7) (br (cIx x0 x8) (br (Qc7 (lgt Qag x0 (Int.toNat x8)) y50000) (some (.ret, Qcj x8 y50000)) (some (.normal, Qix x0 x7 (iadd .i64 x8 1) y50000))) none) (some (.exit 0, QcK y50000))
noncomputable def QfT (x0 : List Keep) (x7 x8 y50000 : Int) : Option (Exit × VS) := loopF (Qaj QeM QdM Qfe) (Qix x0 x7 x8 y50000)
noncomputable def QhM (x0 : List Keep) (x7 x8 y50000 : Int) : Option (Exit × VS) := br (ilt x8 x7) (br (cIx x0 x8) (br (Qc7 (lgt Qag x0 (Int.toNat x8)) y50000) (some (.ret, Qcj x8 y50000)) (QfT x0 x7 (iadd .i64 x8 1) y50000)) none) (some (.exit 0, QcK y50000))
def QfZ (x0 : List Keep) (x7 x8 y50000 : Int) : Option (Exit × VS) := br ((fstG (fun c => Qc7 c y50000) (x0.drop x8.toNat)).isSome) (some (.ret, Qcj (x8 + ((fstG (fun c => Qc7 c y50000) (x0.drop x8.toNat)).getD 0 : Nat)) (y50000))) <| some (.exit 0, QcK (y50000))
theorem QBp (x0 : List Keep) (x7 x8 y50000 : Int) : Qaj QeM QdM Qfe (Qix x0 x7 x8 y50000) = QsM x0 x7 x8 y50000 := by kernel_rfl
theorem QqW (x0 : List Keep) (x7 x8 y50000 : Int) : QfT x0 x7 x8 y50000 = QhM x0 x7 x8 y50000 := (Qan _ _).trans (by
 rw [QBp]
 simp only [QsM, QhM, Qay, nxt_n, nxt_r, nxt_e, nxt_0]
 rfl)
def Qt8 (p0 : List Keep) (d0 : Int) : Option (V × List VO) :=
 let a1 := (p0.drop (0 : Int).toNat)
 br (rngOk p0 (llen p0) (0 : Int) && okUse p0 d0) (br ((fstG (fun c => Qc7 c d0) a1).isSome) (some (.t tI ((0 : Int) + ((fstG (fun c => Qc7 c d0) a1).getD 0 : Nat)), [.box (.t tI (d0))])) (some (.t tI (-1), [.box (.t tI (d0))]))) none
theorem QRo (p0 : List Keep) (d0 : Int) : runF QeM QoK Qwy false [.t (.sl Qag) p0, .fn 52 [(.ptr 50000 0)]] [.box (.t tI d0)] = Qt8 p0 d0 := by kernel_rfl
theorem QMJ : Qai Tryz.prog 86 := .inr ⟨by decide, _, Tryz.func86, by kernel_rfl, by kernel_rfl⟩
theorem QMu : GOk Tryz.prog QeM := Qal _ (gA (gC en_f52 ms_f52 gN))
theorem QEU (x0 : List Keep) (x7 x8 y50000 : Int) (h : (rngOk x0 x7 x8 && okUse x0 y50000) = true) : QfT x0 x7 x8 y50000 = QfZ x0 x7 x8 y50000 := by
 simp only [Bool.and_eq_true] at h
 obtain ⟨h0, hc⟩ := h
 obtain ⟨rfl, h3, k, rfl, hk⟩ := rng_k h0
 clear h0
 refine Qar x0 (fun k => QfT x0 (x0.length : Int) (k : Int) y50000 = QfZ x0 (x0.length : Int) (k : Int) y50000) ?_ ?_ k hk
 ·rw [QqW]
  simp [QhM, QfZ, Qas, Qaf, fstG]
 ·intro k hk ih
  rw [QqW]
  simp only [QhM, Qas, Qaw, hk, decide_true, Qad, Int.toNat_natCast, add1 (show k < 4611686018427387904 by omega), ih, QaA (y := Qag) hk]
  simp only [QfZ, Int.toNat_natCast, List.drop_eq_getElem_cons hk, fstG]
  cases h : (Qc7 x0[k] y50000) with
  | true => simp [Qad]
  | false =>
   simp only [Qaf, Bool.false_eq_true, if_false]
   cases hq : fstG (fun c => Qc7 c y50000) (x0.drop (k + 1)) with
   | none => rfl
   | some j =>
    simp only [Option.map_some, Option.isSome_some, Option.getD_some, Qad]
    congr 3
    omega
theorem QAx : ∀ S l p, QeM.L 0 (fgt QdM S) = some (true, l) → pickA l = some p → loopF (Qaj QeM QdM Qfe) S = some p :=
 QaB (s := QiC) ⟨by decide, by decide⟩ (by kernel_rfl) fun x y hok p hp => by
 simp only [Qao, Qam] at hp
 exact (QEU x.1 x.2.2.1 x.2.2.2.1 y.1 (by simpa using hok)).trans hp
theorem QL4 : QoK.lok QeM := by
 repeat (first | exact trivial | exact QAx | refine ⟨?_, ?_⟩)
theorem QPj (l : List Keep) (d0 : Int) (h : okUse l d0 = true) : Qt8 l d0 = some (.t tI (ixUse l d0), [.box (.t tI d0)]) := by
 have hl := QKG h
 simp only [Qt8, rng_0 hl, h, Bool.and_self, Qad, Int.toNat_zero, List.drop_zero, ixUse]
 cases fstG (fun c => Qc7 c d0) l <;> simp [Qad, Qaf]
def QvB : Ent := Qf9 [.ty (.sl Qag), .fn 52 [(50000, 0)]] [tI] (fun x d => (okUse x.1 d.1)) (fun x d => (.t tI (ixUse x.1 d.1)))
theorem QKV : Meets Tryz.prog 86 (strip QvB) := Qcp (QaP (R := runF QeM QoK Qwy false) (mG Tryz.func86 (by kernel_rfl) Tryz.ntmps86 (by kernel_rfl) QMu QL4) fun x d hok => (QRo x.1 d.1).trans (QPj x.1 d.1 hok))
def QsO (l : List Keep) (d0 : Int) : Bool := l.any (fun c => Qc7 c d0)
noncomputable def QoN : TC := (.sq (.reg (rT Tryz.f51 0)) (.sq (.reg (rT Tryz.f51 1)) .rt))
def QwB : List (RV × Option Ty) := [((.t 4), some .bool)]
def Qov : G := ⟨TYs, [], 9, EL [(86, QvB)], keeps, (fun _ _ => none), IL [], RL []⟩
def Qub (p0 : List Keep) (d0 : Int) : Option (V × List VO) := br (okUse p0 d0) (some (.t .bool (ige (ixUse p0 d0) 0), [.box (.t tI d0)])) none
theorem QRr (p0 : List Keep) (d0 : Int) : runF Qov QoN QwB false [.t (.sl Qag) p0, .fn 52 [(.ptr 50000 0)]] [.box (.t tI d0)] = Qub p0 d0 := by kernel_rfl
theorem QMP : Qai Tryz.prog 51 := .inr ⟨by decide, _, Tryz.func51, by kernel_rfl, by kernel_rfl⟩
theorem QMx : GOk Tryz.prog Qov := Qal _ (gA (gC QMJ QKV gN))
theorem QL7 : QoN.lok Qov := by repeat (first | exact trivial | refine ⟨?_, ?_⟩)
theorem QPm (l : List Keep) (d0 : Int) (h : okUse l d0 = true) : Qub l d0 = some (.t .bool (QsO l d0), [.box (.t tI d0)]) := by
 simp only [Qub, h, Qad]
 have e : ige (ixUse l d0) 0 = QsO l d0 := by
  unfold ixUse QsO
  cases hq : fstG (fun c => Qc7 c d0) l with
  | none => rw [QbT.1 hq]; rfl
  | some k =>
   rw [← QbA, hq]
   simp only [ige, Option.isSome_some, decide_eq_true_eq]
   omega
 rw [e]
def QvF : Ent := Qf9 [.ty (.sl Qag), .fn 52 [(50000, 0)]] [tI] (fun x d => (okUse x.1 d.1)) (fun x d => (.t .bool (QsO x.1 d.1)))
theorem QK1 : Meets Tryz.prog 51 (strip QvF) := Qcp (QaP (R := runF Qov QoN QwB false) (mG Tryz.func51 (by kernel_rfl) Tryz.ntmps51 (by kernel_rfl) QMx QL7) fun x d hok => (QRr x.1 d.1).trans (QPm x.1 d.1 hok))
def witO (o : Keep) (s : Qab) (a : Int) : Bool := !QsO (usesF s o).1 a
def witOk (_o : Keep) (s : Qab) (_a : Int) : Bool := QaZ s
theorem QOV (s : Qab) (o : Keep) : (usesF s o).1.length ≤ 4 := by
 unfold usesF
 cases QaJ s with
 | false => exact Nat.zero_le _
 | true =>
  cases ine (QaC o.2.1).2 0 with
  | true => exact Nat.zero_le _
  | false =>
   cases (QaU s o.2.1).2 with
   | false => exact Nat.zero_le _
   | true => exact Nat.le_refl 4
noncomputable def QF9 : TC := (.sq (.reg (rT Tryz.f49 0)) (.sq (.reg (rT Tryz.f49 1)) (.sq (.reg (rT Tryz.f49 2)) .rt)))
def QTV : List (RV × Option Ty) := [((.t 4), some .bool)]
def g_f49 : G := ⟨TYs, [], 17, EL [(50, QTf), (51, QvF)], keeps, (fun _ _ => none), IL [], RL []⟩
def r_f49 (p0 : Keep) (d0 : Qab) (d1 : Int) : Option (V × List VO) := br (QBw d0 p0) (br (okUse ((usesF d0 p0).1) d1) (some (.t .bool (!(QsO ((usesF d0 p0).1) d1)), [.box (.t Qae d0), .box (.t tI d1)])) none) none
theorem e_f49 (p0 : Keep) (d0 : Qab) (d1 : Int) : runF g_f49 QF9 QTV false [.t Qag p0, .ptr 50000 0, .ptr 50001 0] [.box (.t Qae d0), .box (.t tI d1)] = r_f49 p0 d0 d1 := by kernel_rfl
theorem en_f49 : Qai Tryz.prog 49 := .inr ⟨by decide, _, Tryz.func49, by kernel_rfl, by kernel_rfl⟩
theorem gk_f49 : GOk Tryz.prog g_f49 := Qal _ (gA (gC en_f50 ms_f50 (gC QMP QK1 gN)))
theorem lk_f49 : QF9.lok g_f49 := by repeat (first | exact trivial | refine ⟨?_, ?_⟩)
theorem s_f49 (o : Keep) (s : Qab) (a : Int) (h : witOk o s a = true) : r_f49 o s a = some (.t .bool (witO o s a), [.box (.t Qae s), .box (.t tI a)]) := by
 have h : QaZ s = true := h
 have hu := QOV s o
 simp only [r_f49, show QBw s o = true from h, show okUse (usesF s o).1 a = true from decide_eq_true (by omega), Qad]
 rfl
def QTg : Ent := Qf9 [.ty Qag, .ptr 50000 0, .ptr 50001 0] [Qae, tI] (fun x d => (witOk x.1 d.1 d.2.1)) (fun x d => (.t .bool (witO x.1 d.1 d.2.1)))
theorem ms_f49 : Meets Tryz.prog 49 (strip QTg) := Qcp (QaP (R := runF g_f49 QF9 QTV false) (mG Tryz.func49 (by kernel_rfl) Tryz.ntmps49 (by kernel_rfl) gk_f49 lk_f49) fun x d hok => (e_f49 x.1 d.1 d.2.1).trans (s_f49 x.1 d.1 d.2.1 hok))
def okWit (l : List Keep) (s : Qab) (_a : Int) : Bool := QaZ s && decide (l.length ≤ 100000)
theorem QKF {l : List Keep} {s : Qab} {a : Int} (h : okWit l s a = true) : l.length ≤ 100000 := of_decide_eq_true (Bool.and_eq_true_iff.1 h).2
def ixWit (l : List Keep) (d0 : Qab) (d1 : Int) : Int := match fstG (fun c => witO c d0 d1) l with | some k => (k : Int) | none => -1
def QdL : Fg := ⟨[(0, some (.sl Qag)), (1, none), (7, some tI), (8, some tI)], [(50000, some Qae), (50001, some tI)]⟩
noncomputable def Qfd : TC := (.sq (.reg (rT Tryz.f87 2)) (.sq (.cd (.t 9) .sk (.fg ⟨[], [(50000, some Qae), (50001, some tI)]⟩ (.ex 0))) (.sq (.bk 1 (.sq (.reg (rT Tryz.f87 3)) (.sq (.reg (rT Tryz.f87 4)) (.cd (.t 16) (.sq (.reg (rT Tryz.f87 5)) (.fg ⟨[(4, some tI)], [(50000, some Qae), (50001, some tI)]⟩ .rt)) .sk)))) (.reg (rT Tryz.f87 6)))))
noncomputable def QoJ : TC := (.sq (.reg (rT Tryz.f87 0)) (.sq (.sq (.reg (rT Tryz.f87 1)) (.bk 0 (.lp 0 QdL Qfd))) (.sq (.reg (rT Tryz.f87 7)) .rt)))
def Qwx : List (RV × Option Ty) := [((.t 4), some tI)]
abbrev QiB : Sh := ⟨[(0, .ty (.sl Qag)), (1, .fn 49 [(50000, 0), (50001, 0)]), (7, .ty tI), (8, .ty tI)], [(50000, .box Qae), (50001, .box tI)]⟩
def Qiw (x0 : List Keep) (x7 x8 : Int) (y50000 : Qab) (y50001 : Int) : VS := QiB.st (x0, (), x7, x8, ()) (y50000, y50001, ())
abbrev Qpw : Sh := ⟨[(4, .ty tI)], [(50000, .box Qae), (50001, .box tI)]⟩
def Qci (x4 : Int) (y50000 : Qab) (y50001 : Int) : VS := Qpw.st (x4, ()) (y50000, y50001, ())
abbrev QrU : Sh := ⟨[], [(50000, .box Qae), (50001, .box tI)]⟩
def QcJ (y50000 : Qab) (y50001 : Int) : VS := QrU.st () (y50000, y50001, ())
def QFu : VS → Option (Bool × List (Bool × Exit × VS)) := mkL QiB (fun x y => (rngOk x.1 x.2.2.1 x.2.2.2.1 && okWit x.1 y.1 y.2.1)) (fun x y => [(((fstG (fun c => witO c y.1 y.2.1) (x.1.drop x.2.2.2.1.toNat)).isSome), .ret, Qci (x.2.2.2.1 + ((fstG (fun c => witO c y.1 y.2.1) (x.1.drop x.2.2.2.1.toNat)).getD 0 : Nat)) (y.1) (y.2.1)), (true, .exit 0, QcJ (y.1) (y.2.1))])
def QeL : G := ⟨TYs, [], 19, EL [(49, QTg)], keeps, (Ls [QFu]), IL [], RL []⟩
def QsL (x0 : List Keep) (x7 x8 : Int) (y50000 : Qab) (y50001 : Int) : Option (Exit × VS) :=
 let a1 := lgt Qag x0 (Int.toNat x8)
 br (ilt x8 x7) (br (cIx x0 x8) (br (witOk a1 y50000 y50001) (br (witO a1 y50000 y50001) (some (.ret, Qci x8 y50000 y50001)) (some (.normal, Qiw x0 x7 (iadd .i64 x8 1) y50000 y50001))) none) none) (some (.exit 0, QcJ y50000 y50001))
noncomputable def QfS (x0 : List Keep) (x7 x8 : Int) (y50000 : Qab) (y50001 : Int) : Option (Exit × VS) := loopF (Qaj QeL QdL Qfd) (Qiw x0 x7 x8 y50000 y50001)
noncomputable def QhL (x0 : List Keep) (x7 x8 : Int) (y50000 : Qab) (y50001 : Int) : Option (Exit × VS) :=
 let a1 := lgt Qag x0 (Int.toNat x8)
 br (ilt x8 x7) (br (cIx x0 x8) (br (witOk a1 y50000 y50001) (br (witO a1 y50000 y50001) (some (.ret, Qci x8 y50000 y50001)) (QfS x0 x7 (iadd .i64 x8 1) y50000 y50001)) none) none) (some (.exit 0, QcJ y50000 y50001))
def QfY (x0 : List Keep) (x7 x8 : Int) (y50000 : Qab) (y50001 : Int) : Option (Exit × VS) := br ((fstG (fun c => witO c y50000 y50001) (x0.drop x8.toNat)).isSome) (some (.ret, Qci (x8 + ((fstG (fun c => witO c y50000 y50001) (x0.drop x8.toNat)).getD 0 : Nat)) (y50000) (y50001))) <| some (.exit 0, QcJ (y50000) (y50001))
theorem QBo (x0 : List Keep) (x7 x8 : Int) (y50000 : Qab) (y50001 : Int) : Qaj QeL QdL Qfd (Qiw x0 x7 x8 y50000 y50001) = QsL x0 x7 x8 y50000 y50001 := by kernel_rfl
theorem QqV (x0 : List Keep) (x7 x8 : Int) (y50000 : Qab) (y50001 : Int) : QfS x0 x7 x8 y50000 y50001 = QhL x0 x7 x8 y50000 y50001 := (Qan _ _).trans (by
 rw [QBo]
 simp only [QsL, QhL, Qay, nxt_n, nxt_r, nxt_e, nxt_0]
 rfl)
def Qt7 (p0 : List Keep) (d0 : Qab) (d1 : Int) : Option (V × List VO) :=
 let a1 := (p0.drop (0 : Int).toNat)
 br (rngOk p0 (llen p0) (0 : Int) && okWit p0 d0 d1) (br ((fstG (fun c => witO c d0 d1) a1).isSome) (some (.t tI ((0 : Int) + ((fstG (fun c => witO c d0 d1) a1).getD 0 : Nat)), [.box (.t Qae (d0)), .box (.t tI (d1))])) (some (.t tI (-1), [.box (.t Qae (d0)), .box (.t tI (d1))]))) none
theorem QRn (p0 : List Keep) (d0 : Qab) (d1 : Int) : runF QeL QoJ Qwx false [.t (.sl Qag) p0, .fn 49 [(.ptr 50000 0), (.ptr 50001 0)]] [.box (.t Qae d0), .box (.t tI d1)] = Qt7 p0 d0 d1 := by kernel_rfl
theorem QMI : Qai Tryz.prog 87 := .inr ⟨by decide, _, Tryz.func87, by kernel_rfl, by kernel_rfl⟩
theorem QMt : GOk Tryz.prog QeL := Qal _ (gA (gC en_f49 ms_f49 gN))
theorem QET (x0 : List Keep) (x7 x8 : Int) (y50000 : Qab) (y50001 : Int) (h : (rngOk x0 x7 x8 && okWit x0 y50000 y50001) = true) : QfS x0 x7 x8 y50000 y50001 = QfY x0 x7 x8 y50000 y50001 := by
 simp only [Bool.and_eq_true] at h
 obtain ⟨h0, hc⟩ := h
 obtain ⟨rfl, h3, k, rfl, hk⟩ := rng_k h0
 clear h0
 refine Qar x0 (fun k => QfS x0 (x0.length : Int) (k : Int) y50000 y50001 = QfY x0 (x0.length : Int) (k : Int) y50000 y50001) ?_ ?_ k hk
 ·rw [QqV]
  simp [QhL, QfY, Qas, Qaf, fstG]
 ·intro k hk ih
  rw [QqV]
  have hx : witOk x0[k] y50000 y50001 = true := (Bool.and_eq_true_iff.1 hc).1
  simp only [QhL, Qas, Qaw, hk, decide_true, Qad, Int.toNat_natCast, add1 (show k < 4611686018427387904 by omega), ih, QaA (y := Qag) hk, hx]
  simp only [QfY, Int.toNat_natCast, List.drop_eq_getElem_cons hk, fstG]
  cases h : (witO x0[k] y50000 y50001) with
  | true => simp [Qad]
  | false =>
   simp only [Qaf, Bool.false_eq_true, if_false]
   cases hq : fstG (fun c => witO c y50000 y50001) (x0.drop (k + 1)) with
   | none => rfl
   | some j =>
    simp only [Option.map_some, Option.isSome_some, Option.getD_some, Qad]
    congr 3
    omega
theorem QAw : ∀ S l p, QeL.L 0 (fgt QdL S) = some (true, l) → pickA l = some p → loopF (Qaj QeL QdL Qfd) S = some p :=
 QaB (s := QiB) ⟨by decide, by decide⟩ (by kernel_rfl) fun x y hok p hp => by
 simp only [Qao, Qam] at hp
 exact (QET x.1 x.2.2.1 x.2.2.2.1 y.1 y.2.1 (by simpa using hok)).trans hp
theorem QL3 : QoJ.lok QeL := by
 repeat (first | exact trivial | exact QAw | refine ⟨?_, ?_⟩)
theorem QPi (l : List Keep) (d0 : Qab) (d1 : Int) (h : okWit l d0 d1 = true) : Qt7 l d0 d1 = some (.t tI (ixWit l d0 d1), [.box (.t Qae d0), .box (.t tI d1)]) := by
 have hl := QKF h
 simp only [Qt7, rng_0 hl, h, Bool.and_self, Qad, Int.toNat_zero, List.drop_zero, ixWit]
 cases fstG (fun c => witO c d0 d1) l <;> simp [Qad, Qaf]
def QvA : Ent := Qf9 [.ty (.sl Qag), .fn 49 [(50000, 0), (50001, 0)]] [Qae, tI] (fun x d => (okWit x.1 d.1 d.2.1)) (fun x d => (.t tI (ixWit x.1 d.1 d.2.1)))
theorem QKU : Meets Tryz.prog 87 (strip QvA) := Qcp (QaP (R := runF QeL QoJ Qwx false) (mG Tryz.func87 (by kernel_rfl) Tryz.ntmps87 (by kernel_rfl) QMt QL3) fun x d hok => (QRn x.1 d.1 d.2.1).trans (QPi x.1 d.1 d.2.1 hok))
def QmJ (l : List Keep) (d0 : Qab) (d1 : Int) : Bool := l.any (fun c => witO c d0 d1)
noncomputable def QoM : TC := (.sq (.reg (rT Tryz.f53 0)) (.sq (.reg (rT Tryz.f53 1)) .rt))
def QwA : List (RV × Option Ty) := [((.t 4), some .bool)]
def Qou : G := ⟨TYs, [], 9, EL [(87, QvA)], keeps, (fun _ _ => none), IL [], RL []⟩
def Qua (p0 : List Keep) (d0 : Qab) (d1 : Int) : Option (V × List VO) := br (okWit p0 d0 d1) (some (.t .bool (ige (ixWit p0 d0 d1) 0), [.box (.t Qae d0), .box (.t tI d1)])) none
theorem QRq (p0 : List Keep) (d0 : Qab) (d1 : Int) : runF Qou QoM QwA false [.t (.sl Qag) p0, .fn 49 [(.ptr 50000 0), (.ptr 50001 0)]] [.box (.t Qae d0), .box (.t tI d1)] = Qua p0 d0 d1 := by kernel_rfl
theorem QMO : Qai Tryz.prog 53 := .inr ⟨by decide, _, Tryz.func53, by kernel_rfl, by kernel_rfl⟩
theorem QMw : GOk Tryz.prog Qou := Qal _ (gA (gC QMI QKU gN))
theorem QL6 : QoM.lok Qou := by repeat (first | exact trivial | refine ⟨?_, ?_⟩)
theorem QPl (l : List Keep) (d0 : Qab) (d1 : Int) (h : okWit l d0 d1 = true) : Qua l d0 d1 = some (.t .bool (QmJ l d0 d1), [.box (.t Qae d0), .box (.t tI d1)]) := by
 simp only [Qua, h, Qad]
 have e : ige (ixWit l d0 d1) 0 = QmJ l d0 d1 := by
  unfold ixWit QmJ
  cases hq : fstG (fun c => witO c d0 d1) l with
  | none => rw [QbT.1 hq]; rfl
  | some k =>
   rw [← QbA, hq]
   simp only [ige, Option.isSome_some, decide_eq_true_eq]
   omega
 rw [e]
def QvE : Ent := Qf9 [.ty (.sl Qag), .fn 49 [(50000, 0), (50001, 0)]] [Qae, tI] (fun x d => (okWit x.1 d.1 d.2.1)) (fun x d => (.t .bool (QmJ x.1 d.1 d.2.1)))
theorem QK0 : Meets Tryz.prog 53 (strip QvE) := Qcp (QaP (R := runF Qou QoM QwA false) (mG Tryz.func53 (by kernel_rfl) Tryz.ntmps53 (by kernel_rfl) QMw QL6) fun x d hok => (QRq x.1 d.1 d.2.1).trans (QPl x.1 d.1 d.2.1 hok))
def needU (a : Int) : List ERow → Int → List Int
 | [], _ => []
 | z :: r, k => bif QmJ (QaR z.1 z.2.1) z.2.1 a then needU a r (k + 1) else k :: needU a r (k + 1)
def needF (e : Qaq) (a : Int) : List Int × Int :=
 bif !estOk e then ([], 31) else bif ilt a 1 || igt a 22 then ([], 7) else (needU a (prsI e) 0, 0)
def QeO : Fg := ⟨[(3, none), (6, none), (7, none)], [(60000, some tI), (60001, none), (60002, none), (36, none), (20600, none)]⟩
noncomputable def Qnj : TC := (.sq (.reg (rT Tryz.f18 8)) (.reg (rT Tryz.f18 9)))
noncomputable def Qnd : TC := (.bk 2 (.sq (.reg (rT Tryz.f18 10)) (.sq (.sq (.reg (rT Tryz.f18 11)) (.cd (.t 32) (.reg (rT Tryz.f18 12)) .sk)) (.reg (rT Tryz.f18 13)))))
noncomputable def QGq : TC := (.sq (.reg (rT Tryz.f18 0)) (.sq (.bk 0 (.sq (.reg (rT Tryz.f18 1)) (.cd (.t 11) (.sq (.reg (rT Tryz.f18 2)) .rt) (.sq (.reg (rT Tryz.f18 3)) (.cd (.t 15) (.sq (.reg (rT Tryz.f18 4)) .rt) .sk))))) (.sq (.reg (rT Tryz.f18 5)) (.sq (.reg (rT Tryz.f18 6)) (.sq (.sq (.reg (rT Tryz.f18 7)) (.bk 1 (.nf 6 0 3 20600 (.rf 0 QeO (.t 23) (.pr Qae (.pr Qae .nil)) [24, 25] [3, 6, 7] Qnj Qnd)))) (.sq (.reg (rT Tryz.f18 14)) .rt))))))
def QUc : List (RV × Option Ty) := [((.t 4), some (.sl tI)), ((.t 5), some tI)]
abbrev QtC : Sh := ⟨[(3, .ptr 60000 0), (6, .ptr 60001 0), (7, .ptr 60002 0)], [(60000, .box tI), (60001, .bag [.ms 20600]), (60002, .bag [.ty tI]), (36, .no), (20600, .arr 3 tI)]⟩
def Qnr (y60000 y60002_0 : Int) (y20600 : List Int) : VS := QtC.st ((), (), (), ()) (y60000, ((), ()), (y60002_0, ()), (), y20600, ())
abbrev QpJ : Sh := ⟨[(3, .ptr 60000 0), (6, .ptr 60001 0), (7, .ptr 60002 0)], [(60000, .box tI), (60001, .bag [.ms 20600]), (60002, .bag [.ty tI]), (36, .no), (20600, .arr 3 tI)]⟩
def QdC (y60000 y60002_0 : Int) (y20600 : List Int) : VS := QpJ.st ((), (), (), ()) (y60000, ((), ()), (y60002_0, ()), (), y20600, ())
def Qvm : VS → List (Ty.T (.pr Qae (.pr Qae .nil))) → Option (Bool × List (Bool × Exit × VS)) := mkR QtC (fun zs x y => (Qig zs && decide (0 ≤ y.2.2.1.1 ∧ y.2.2.1.1 + zs.length ≤ 1000 ∧ y.2.2.2.2.1.length ≤ y.2.2.1.1))) (fun zs x y => [(true, .normal, QdC (y.1) (y.2.2.1.1 + zs.length) (y.2.2.2.2.1 ++ needU y.1 zs y.2.2.1.1))])
def g_f18 : G := ⟨TYs, [], 40, EL [(39, QBE), (41, QGI), (53, QvE), (54, QGE)], keeps, (Ls [fun _ => none]), IL [(81, QhZ)], (RL [⟨(.pr Qae (.pr Qae .nil)), Qvm⟩])⟩
def QOG (z : (Qab × (Qab × Unit))) (y60000 y60002_0 : Int) (y20600 : List Int) : Option (Exit × VS) := br (Qa8 z.1 z.2.1) (br (okWit (QaR z.1 z.2.1) z.2.1 y60000) (br (!(QmJ (QaR z.1 z.2.1) z.2.1 y60000)) (br (cApp y20600 ([y60002_0]) 8) (some (.normal, Qnr y60000 (iadd .i64 y60002_0 1) (y20600 ++ ([y60002_0])))) none) (some (.normal, Qnr y60000 (iadd .i64 y60002_0 1) y20600))) none) none
noncomputable def QjR (zs : List (Qab × (Qab × Unit))) (y60000 y60002_0 : Int) (y20600 : List Int) : Option (Exit × VS) := Qda (Qev g_f18 QeO (.pr Qae (.pr Qae .nil)) [24, 25] Qnj Qnd) zs (Qnr y60000 y60002_0 y20600)
noncomputable def Qz7 (z : (Qab × (Qab × Unit))) (zs : List (Qab × (Qab × Unit))) (y60000 y60002_0 : Int) (y20600 : List Int) : Option (Exit × VS) := br (Qa8 z.1 z.2.1) (br (okWit (QaR z.1 z.2.1) z.2.1 y60000) (br (!(QmJ (QaR z.1 z.2.1) z.2.1 y60000)) (br (cApp y20600 ([y60002_0]) 8) (QjR zs y60000 (iadd .i64 y60002_0 1) (y20600 ++ ([y60002_0]))) none) (QjR zs y60000 (iadd .i64 y60002_0 1) y20600)) none) none
def QuW (zs : List (Qab × (Qab × Unit))) (y60000 y60002_0 : Int) (y20600 : List Int) : Option (Exit × VS) := some (.normal, QdC (y60000) (y60002_0 + zs.length) (y20600 ++ needU y60000 zs y60002_0))
theorem QSf (z : (Qab × (Qab × Unit))) (y60000 y60002_0 : Int) (y20600 : List Int) : Qev g_f18 QeO (.pr Qae (.pr Qae .nil)) [24, 25] Qnj Qnd z (Qnr y60000 y60002_0 y20600) = QOG z y60000 y60002_0 y20600 := by kernel_rfl
theorem QLY (y60000 : Int) (y60002_0 : Int) (y20600 : (List Int)) : QjR [] y60000 y60002_0 y20600 = some (.normal, QdC y60000 y60002_0 y20600) := rfl
theorem QQb (z : (Qab × (Qab × Unit))) (zs : List (Qab × (Qab × Unit))) (y60000 y60002_0 : Int) (y20600 : List Int) : QjR (z :: zs) y60000 y60002_0 y20600 = Qz7 z zs y60000 y60002_0 y20600 := (QiF _ _ _ _).trans (by
 rw [QSf]
 simp only [QOG, Qz7, Qay, nxt_n, nxt_r, nxt_e, nxt_0]
 rfl)
def r_f18 (p0 : Qaq) (p1 : Int) : Option (V × List VO) := br (Qcs p0) (br (ine (QmF p0) 0) (some (.tu [(.t (.sl tI) ([] : List Int)), (.t tI 31)], [])) (br (ilt p1 1) (some (.tu [(.t (.sl tI) ([] : List Int)), (.t tI 7)], [])) (br (igt p1 22) (some (.tu [(.t (.sl tI) ([] : List Int)), (.t tI 7)], [])) (br (prsOk p0) (br (Qig (prsI p0) && decide (0 ≤ (0 : Int) ∧ (0 : Int) + (prsI p0).length ≤ 1000 ∧ ([] : List Int).length ≤ (0 : Int))) (some (.tu [(.t (.sl tI) (([] : List Int) ++ needU p1 (prsI p0) (0 : Int))), (.t tI 0)], [])) none) none)))) none
theorem e_f18 (p0 : Qaq) (p1 : Int) : runF g_f18 QGq QUc false [.t Qau p0, .t tI p1] [] = r_f18 p0 p1 := by kernel_rfl
theorem en_f18 : Qai Tryz.prog 18 := .inr ⟨by decide, _, Tryz.func18, by kernel_rfl, by kernel_rfl⟩
theorem gk_f18 : GOk Tryz.prog g_f18 := Qal _ (gA (gC QMR QK3 (gC QUY QUI (gC QMO QK0 (gC QUU QUE gN)))))
 [(81, QhZ)] (by
 intro p hp
 simp only [List.mem_cons, List.not_mem_nil, or_false] at hp
 rcases hp with rfl
 ·exact QCu)
theorem QYi (zs : List (Qab × (Qab × Unit))) (y60000 y60002_0 : Int) (y20600 : List Int) (h : (Qig zs && decide (0 ≤ y60002_0 ∧ y60002_0 + zs.length ≤ 1000 ∧ y20600.length ≤ y60002_0)) = true) : QjR zs y60000 y60002_0 y20600 = QuW zs y60000 y60002_0 y20600 := by
 simp only [Bool.and_eq_true, decide_eq_true_eq] at h
 obtain ⟨hr, h0, h1, h2⟩ := h
 induction zs generalizing y60002_0 y20600 with
 | nil =>
  rw [QLY]
  simp only [QuW, List.length_nil, List.append_nil, needU, Int.natCast_zero, Int.add_zero]
 | cons z zs ih =>
  simp only [Qig, List.all_cons, Bool.and_eq_true] at hr
  simp only [List.length_cons] at h1
  rw [QQb]
  have c1 : Qa8 z.1 z.2.1 = true := hr.1
  have hl := QiL (c := z.1) (s := z.2.1)
  have c2 : okWit (QaR z.1 z.2.1) z.2.1 y60000 = true := Bool.and_eq_true_iff.2 ⟨(Bool.and_eq_true_iff.1 hr.1).2, decide_eq_true (by omega)⟩
  have c3 : cApp y20600 [y60002_0] 8 = true := cAppN (by omega) (by simp only [List.length_singleton]; omega)
  have e1 : iadd .i64 y60002_0 1 = y60002_0 + 1 := Qbg (by omega)
  simp only [Qz7, c1, c2, c3, e1, Qad]
  rw [ih _ _ hr.2 (by omega) (by omega) (by simp only [List.length_append, List.length_singleton]; omega), ih _ _ hr.2 (by omega) (by omega) (by omega)]
  simp only [QuW, needU, List.append_assoc, List.singleton_append, List.length_cons, Int.natCast_add, Int.natCast_one, show y60002_0 + ((zs.length : Int) + 1) = y60002_0 + 1 + zs.length by omega]
  cases QmJ (QaR z.1 z.2.1) z.2.1 y60000 <;> rfl
theorem QP5 : ∀ S (rows : List (Ty.T (.pr Qae (.pr Qae .nil)))) l p, g_f18.R 0 (fgt QeO S) (.pr Qae (.pr Qae .nil)) rows = some (true, l) → pickA l = some p → Qda (Qev g_f18 QeO (.pr Qae (.pr Qae .nil)) [24, 25] Qnj Qnd) rows (fgt QeO S) = some p := by
 intro S rows l p hR hp
 rw [show g_f18.R 0 (fgt QeO S) (.pr Qae (.pr Qae .nil)) rows = Qvm (fgt QeO S) rows from RL_at (l := [⟨(.pr Qae (.pr Qae .nil)), Qvm⟩]) (j := 0) (F := Qvm) rfl _ _] at hR
 refine QAu (s := QtC) ⟨by decide, by decide⟩ (by kernel_rfl) (fun zs x y hok p hp => ?_) S rows l p hR hp
 simp only [Qao, Qam] at hp
 exact (QYi zs y.1 y.2.2.1.1 y.2.2.2.2.1 (by first | rfl | simpa using hok)).trans hp
theorem lk_f18 : QGq.lok g_f18 := by
 repeat (first | exact trivial | exact QP5 | refine ⟨?_, ?_⟩)
theorem s_f18 (e : Qaq) (a : Int) (h : Qgg e a = true) : r_f18 e a = some (.tu [.t (.sl tI) (needF e a).1, .t tI (needF e a).2], []) := by
 have hl : Qcs e = true := h
 simp only [r_f18, hl, Qad, QrG, List.nil_append, List.length_nil]
 unfold needF
 cases he : estOk e with
 | false => rfl
 | true =>
  obtain ⟨h1, h2, h3⟩ := QDr hl he
  rw [Bool.not_true, Qaf]
  cases ilt a 1 with
  | true => rfl
  | false =>
   cases igt a 22 with
   | true => rfl
   | false =>
    rw [Qaf, Qaf, h1, Qad, h2, Bool.true_and]
    exact brY (decide_eq_true ⟨Int.le_refl _, by omega, Int.le_refl _⟩) rfl
def QTp : Ent := spec (.pr Qau (.pr tI .nil)) (fun x => (Qgg x.1 x.2.1)) (fun x => (.tu [(.t (.sl tI) ((needF x.1 x.2.1).1)), (.t tI ((needF x.1 x.2.1).2))]))
theorem ms_f18 : Meets Tryz.prog 18 (strip QTp) := Qah (R := runF g_f18 QGq QUc false) (mG Tryz.func18 (by kernel_rfl) Tryz.ntmps18 (by kernel_rfl) gk_f18 lk_f18) fun x hok => (e_f18 x.1 x.2.1).trans (s_f18 x.1 x.2.1 hok)
end
end Go.Proofs.YtckcgijklnloiaaGreat.K
namespace Go.Proofs.YtckcgijklnloiaaGreat.K
open Go.RowKit
noncomputable section
def useL : List Keep := [(2, (0, ())), (1, (0, ())), (5, (2048, ())), (16, (128, ())), (3, (0, ())), (15, (168, ()))]
def linkZ : Nat → Int → Dice → List Link × Dice
 | 0, _, d => ([], d)
 | n + 1, day, d => ((lgt Qag useL (dval d 6).toNat, (day, ())) :: (linkZ n (iadd .i64 (iadd .i64 day 1) (dof (dnext d 6) [5, 30, 0, 100])) (dofN (dnext d 6) [5, 30, 0, 100])).1, (linkZ n (iadd .i64 (iadd .i64 day 1) (dof (dnext d 6) [5, 30, 0, 100])) (dofN (dnext d 6) [5, 30, 0, 100])).2)
def itD3 (d : Dice) : Dice := dnext (dnext (dnext (dnext d 2) 4) 20) 3
def itLk (d : Dice) : List Link × Dice := linkZ (iadd .i64 1 (dval (dnext (dnext (dnext d 2) 4) 20) 3)).toNat (dval (dnext (dnext d 2) 4) 20) (itD3 d)
def itemV (d : Dice) (s : ByteArray) : Item := (s, (iadd .i64 1 (dval d 2), (iadd .i64 1 (dval (dnext d 2) 4), ((itLk d).1, (iadd .i64 (lgt Qbz (itLk d).1 0).2.1 (dof (itLk d).2 [50, 300, 0, 3000]), ())))))
def itemN (d : Dice) (_s : ByteArray) : Dice := dofN (itLk d).2 [50, 300, 0, 3000]
def dOkS (d : Dice) (_s : ByteArray) : Bool := dOk d
theorem QRP {n : Nat} : ∀ {day : Int} {d : Dice}, dOk d = true → dOk (linkZ n day d).2 = true := by
 induction n with
 | zero => exact fun h => h
 | succ n ih => exact fun h => ih (QxM (l := [5, 30, 0, 100]) (QaK h))
theorem QDA {d : Dice} (h : dOk d = true) : dOk (itLk d).2 = true := QRP (QaK (QaK (QaK (QaK h))))
theorem QRQ {d : Dice} {s : ByteArray} (h : dOk d = true) : dOk (itemN d s) = true := QxM (QDA h)
theorem QuV : ∀ (n : Nat) (day : Int) (d : Dice), (linkZ n day d).1.length = n
 | 0, _, _ => rfl
 | n + 1, day, d => by simp only [linkZ, List.length_cons, QuV n]
theorem QEn : useL.all QbS = true := by kernel_rfl
theorem QXX {y : Ty} {l : List y.T} {i : Nat} (h : i < l.length) : lgt y l i ∈ l := by
 rw [QaA (y := y) h]
 exact List.getElem_mem h
theorem QVc {e : Dice} : 0 ≤ dof e [5, 30, 0, 100] ∧ dof e [5, 30, 0, 100] ≤ 100 := by
 have h := QBg (d := e) (l := [5, 30, 0, 100]) (by decide)
 simp only [List.mem_cons, List.not_mem_nil, or_false] at h
 omega
theorem QCq : ∀ (n : Nat) (day : Int) (d : Dice) (pv : Option Int), n ≤ 3 → 0 ≤ day → day + 101 * n ≤ 1000 → (∀ e, pv = some e → e < day) → Qij pv (linkZ n day d).1 = true
 | 0, _, _, pv, _, _, _, _ => by cases pv <;> rfl
 | n + 1, day, d, pv, h1, h2, h3, h4 => by
  have hv := Qbu (d := d) (n := 6) (by omega)
  have hs := QVc (e := dnext d 6)
  have e1 : iadd .i64 (iadd .i64 day 1) (dof (dnext d 6) [5, 30, 0, 100]) = day + 1 + dof (dnext d 6) [5, 30, 0, 100] := by rw [Qbg (a := day) (b := 1) (by omega), Qbg (by omega)]
  unfold linkZ
  rw [Qq2, e1]
  have hu : QbS (lgt Qag useL (dval d 6).toNat) = true := List.all_eq_true.1 QEn _ (QXX (y := Qag) (by have : useL.length = 6 := rfl; omega))
  have hr := QCq n (day + 1 + dof (dnext d 6) [5, 30, 0, 100]) (dofN (dnext d 6) [5, 30, 0, 100]) (some day) (by omega) (by omega) (by omega) (fun e he => by injection he; omega)
  simp only [hu, hr, decide_eq_true (show 0 ≤ day ∧ day ≤ 40000 by omega), Bool.true_and, Bool.and_true]
  cases pv with
  | none => rfl
  | some e => exact decide_eq_true (h4 e rfl)
theorem QER : ∀ (n : Nat) (day : Int) (d : Dice), 0 < n → ((linkZ n day d).1.headD ((0, (0, ())), (0, ()))).2.1 = day
 | 0, _, _, h => by omega
 | n + 1, day, d, _ => rfl
theorem QQR (d : Dice) : 1 ≤ (itLk d).1.length ∧ (itLk d).1.length ≤ 3 := by
 have b3 := Qbu (d := dnext (dnext (dnext d 2) 4) 20) (n := 3) (by omega)
 have e3 : iadd .i64 1 (dval (dnext (dnext (dnext d 2) 4) 20) 3) = 1 + dval (dnext (dnext (dnext d 2) 4) 20) 3 := Qbg (by omega)
 unfold itLk
 rw [QuV, e3]
 omega
theorem QYp (d : Dice) {s : ByteArray} (hs : Qa7 s = true) : QeJ (itemV d s) = true := by
 have b2 := Qbu (d := d) (n := 2) (by omega)
 have b4 := Qbu (d := dnext d 2) (n := 4) (by omega)
 have b20 := Qbu (d := dnext (dnext d 2) 4) (n := 20) (by omega)
 have b3 := Qbu (d := dnext (dnext (dnext d 2) 4) 20) (n := 3) (by omega)
 have e2 : iadd .i64 1 (dval d 2) = 1 + dval d 2 := Qbg (by omega)
 have e4 : iadd .i64 1 (dval (dnext d 2) 4) = 1 + dval (dnext d 2) 4 := Qbg (by omega)
 have e3 : iadd .i64 1 (dval (dnext (dnext (dnext d 2) 4) 20) 3) = 1 + dval (dnext (dnext (dnext d 2) 4) 20) 3 := Qbg (by omega)
 have hl := QQR d
 have hh : ((itLk d).1.headD ((0, (0, ())), (0, ()))).2.1 = dval (dnext (dnext d 2) 4) 20 := QER _ _ _ (by rw [e3]; omega)
 have e0 : lgt Qbz (itLk d).1 0 = (itLk d).1.headD ((0, (0, ())), (0, ())) := by
  cases hq : (itLk d).1 with
  | nil => rw [hq] at hl; simp at hl
  | cons a l => rfl
 have hu : 0 ≤ dof (itLk d).2 [50, 300, 0, 3000] ∧ dof (itLk d).2 [50, 300, 0, 3000] ≤ 3000 := by
  have h := QBg (d := (itLk d).2) (l := [50, 300, 0, 3000]) (by decide)
  simp only [List.mem_cons, List.not_mem_nil, or_false] at h
  omega
 have eu : iadd .i64 (lgt Qbz (itLk d).1 0).2.1 (dof (itLk d).2 [50, 300, 0, 3000]) = (lgt Qbz (itLk d).1 0).2.1 + dof (itLk d).2 [50, 300, 0, 3000] := Qbg (by rw [e0, hh]; omega)
 refine Qba.2 ⟨hs, ?_, ?_, ?_, ?_, ?_⟩
 ·show 1 ≤ iadd .i64 1 (dval d 2) ∧ iadd .i64 1 (dval d 2) ≤ 2
  omega
 ·show 1 ≤ iadd .i64 1 (dval (dnext d 2) 4) ∧ iadd .i64 1 (dval (dnext d 2) 4) ≤ 4
  omega
 ·show 1 ≤ (itLk d).1.length ∧ (itLk d).1.length ≤ 8
  omega
 ·exact QCq _ _ _ none (by rw [e3]; omega) (by omega) (by omega) (fun e he => by cases he)
 ·show ((itLk d).1.headD ((0, (0, ())), (0, ()))).2.1 ≤ iadd .i64 (lgt Qbz (itLk d).1 0).2.1 (dof (itLk d).2 [50, 300, 0, 3000]) ∧ iadd .i64 (lgt Qbz (itLk d).1 0).2.1 (dof (itLk d).2 [50, 300, 0, 3000]) ≤ 40000
  rw [eu, e0, hh]
  omega
noncomputable def QRG : List DO := dT Tryz.f37 9
def Qk0 : Fg := ⟨[(0, none), (4, none), (5, none), (6, some tI), (7, some tI)], [(4, some QaW), (5, none), (43, none), (20503, none), (50000, some QaL)]⟩
noncomputable def Qm8 : TC := (.sq (.sq (.reg (rT Tryz.f37 4)) (.cd (.t 23) .sk (.fg ⟨[(0, none), (4, none), (5, none)], [(4, some QaW), (5, some QaW), (43, none), (20503, none), (50000, some QaL)]⟩ (.ex 0)))) (.sq (.bk 1 (.sq (.reg (rT Tryz.f37 5)) (.sq (.reg (rT Tryz.f37 6)) (.reg (rT Tryz.f37 7))))) (.reg (rT Tryz.f37 8))))
noncomputable def QGl : TC := (.sq (.reg (rT Tryz.f37 0)) (.sq (.reg (rT Tryz.f37 1)) (.sq (.reg (rT Tryz.f37 2)) (.sq (.sq (.reg (rT Tryz.f37 3)) (.bk 0 (.nf 5 3 128 20503 (.lp 0 Qk0 Qm8)))) (.sq (.dr QRG [(0, [5, 43, 20503]), (1, [5, 43, 20503]), (2, [43, 20503]), (3, [43, 20503]), (4, [43, 20503]), (5, [50000]), (6, []), (7, [58, 5058, 10058, 15058, 50000]), (8, []), (9, [5, 43, 20503]), (10, [4, 5, 43, 20503])] (.of [0, 1, 2, 3, 4, 5, 6, 7, 8, 9, 10])) (.sq (.reg (rT Tryz.f37 10)) .rt))))))
def QT7 : List (RV × Option Ty) := [((.c 4 true 5), some QaW)]
abbrev Qtw : Sh := ⟨[(0, .ptr 50000 0), (4, .ptr 4 0), (5, .ptr 5 0), (6, .ty tI), (7, .ty tI)], [(4, .box QaW), (5, .bag [.ty .str, .ty tI, .ty tI, .ms 20503, .ty tI]), (43, .no), (20503, .arr 128 Qbz), (50000, .box QaL)]⟩
def Qs3 (x6 x7 : Int) (y4 : Item) (y5_0 : ByteArray) (y5_1 y5_2 y5_4 : Int) (y20503 : List Link) (y50000 : Dice) : VS := Qtw.st ((), (), (), x6, x7, ()) (y4, (y5_0, y5_1, y5_2, (), y5_4, ()), (), y20503, y50000, ())
abbrev QzL : Sh := ⟨[(0, .ptr 50000 0), (4, .ptr 4 0), (5, .ptr 5 0)], [(4, .box QaW), (5, .bag [.ty .str, .ty tI, .ty tI, .ms 20503, .ty tI]), (43, .no), (20503, .arr 128 Qbz), (50000, .box QaL)]⟩
def Qfs (y4 : Item) (y5_0 : ByteArray) (y5_1 y5_2 y5_4 : Int) (y20503 : List Link) (y50000 : Dice) : VS := QzL.st ((), (), (), ()) (y4, (y5_0, y5_1, y5_2, (), y5_4, ()), (), y20503, y50000, ())
def Q07 : VS → Option (Bool × List (Bool × Exit × VS)) := mkL Qtw (fun x y => (dOk y.2.2.2.2.1 && decide (0 ≤ x.2.2.2.2.1 ∧ x.2.2.2.2.1 ≤ 100 ∧ y.2.2.2.1.length + x.2.2.2.2.1.toNat ≤ 1000))) (fun x y => [(true, .exit 0, Qfs (y.1) (y.2.1.1) (y.2.1.2.1) (y.2.1.2.2.1) (y.2.1.2.2.2.2.1) (y.2.2.2.1 ++ (linkZ x.2.2.2.2.1.toNat x.2.2.2.1 y.2.2.2.2.1).1) ((linkZ x.2.2.2.2.1.toNat x.2.2.2.1 y.2.2.2.2.1).2))])
def g_f37 : G := ⟨TYs, [], 62, EL [(35, Qsg), (45, QGF)], keeps, (Ls [Q07]), IL [], RL []⟩
def QOB (x6 x7 : Int) (y4 : Item) (y5_0 : ByteArray) (y5_1 y5_2 y5_4 : Int) (y20503 : List Link) (y50000 : Dice) : Option (Exit × VS) :=
 let a1 := (lgt Qag ([(2, (0, ())), (1, (0, ())), (5, (2048, ())), (16, (128, ())), (3, (0, ())), (15, (168, ()))]) (Int.toNat (dval y50000 6)))
 let a2 := ((a1.1, ((a1.2).1, ())), (x6, ()))
 let a3 := dnext y50000 6
 br (igt x7 0) (br (QaT y50000 6) (br (cIx ([(2, (0, ())), (1, (0, ())), (5, (2048, ())), (16, (128, ())), (3, (0, ())), (15, (168, ()))]) (dval y50000 6)) (br (cApp y20503 ([a2]) 24) (br (ofOk a3 ([5, 30, 0, 100])) (some (.normal, Qs3 (iadd .i64 (iadd .i64 x6 1) (dof a3 ([5, 30, 0, 100]))) (isub .i64 x7 1) y4 y5_0 y5_1 y5_2 y5_4 (y20503 ++ ([a2])) (dofN a3 ([5, 30, 0, 100])))) none) none) none) none) (some (.exit 0, Qfs y4 y5_0 y5_1 y5_2 y5_4 y20503 y50000))
noncomputable def QuO (x6 x7 : Int) (y4 : Item) (y5_0 : ByteArray) (y5_1 y5_2 y5_4 : Int) (y20503 : List Link) (y50000 : Dice) : Option (Exit × VS) := loopF (Qaj g_f37 Qk0 Qm8) (Qs3 x6 x7 y4 y5_0 y5_1 y5_2 y5_4 y20503 y50000)
noncomputable def QuB (x6 x7 : Int) (y4 : Item) (y5_0 : ByteArray) (y5_1 y5_2 y5_4 : Int) (y20503 : List Link) (y50000 : Dice) : Option (Exit × VS) :=
 let a1 := (lgt Qag ([(2, (0, ())), (1, (0, ())), (5, (2048, ())), (16, (128, ())), (3, (0, ())), (15, (168, ()))]) (Int.toNat (dval y50000 6)))
 let a2 := ((a1.1, ((a1.2).1, ())), (x6, ()))
 let a3 := dnext y50000 6
 br (igt x7 0) (br (QaT y50000 6) (br (cIx ([(2, (0, ())), (1, (0, ())), (5, (2048, ())), (16, (128, ())), (3, (0, ())), (15, (168, ()))]) (dval y50000 6)) (br (cApp y20503 ([a2]) 24) (br (ofOk a3 ([5, 30, 0, 100])) (QuO (iadd .i64 (iadd .i64 x6 1) (dof a3 ([5, 30, 0, 100]))) (isub .i64 x7 1) y4 y5_0 y5_1 y5_2 y5_4 (y20503 ++ ([a2])) (dofN a3 ([5, 30, 0, 100]))) none) none) none) none) (some (.exit 0, Qfs y4 y5_0 y5_1 y5_2 y5_4 y20503 y50000))
def Qke (x6 x7 : Int) (y4 : Item) (y5_0 : ByteArray) (y5_1 y5_2 y5_4 : Int) (y20503 : List Link) (y50000 : Dice) : Option (Exit × VS) :=
 let a1 := linkZ x7.toNat x6 y50000
 some (.exit 0, Qfs (y4) (y5_0) (y5_1) (y5_2) (y5_4) (y20503 ++ a1.1) (a1.2))
theorem QSa (x6 x7 : Int) (y4 : Item) (y5_0 : ByteArray) (y5_1 y5_2 y5_4 : Int) (y20503 : List Link) (y50000 : Dice) : Qaj g_f37 Qk0 Qm8 (Qs3 x6 x7 y4 y5_0 y5_1 y5_2 y5_4 y20503 y50000) = QOB x6 x7 y4 y5_0 y5_1 y5_2 y5_4 y20503 y50000 := by kernel_rfl
theorem QCh (x6 x7 : Int) (y4 : Item) (y5_0 : ByteArray) (y5_1 y5_2 y5_4 : Int) (y20503 : List Link) (y50000 : Dice) : QuO x6 x7 y4 y5_0 y5_1 y5_2 y5_4 y20503 y50000 = QuB x6 x7 y4 y5_0 y5_1 y5_2 y5_4 y20503 y50000 := (Qan _ _).trans (by
 rw [QSa]
 simp only [QOB, QuB, Qay, nxt_n, nxt_r, nxt_e, nxt_0]
 rfl)
def r_f37 (d0 : Dice) (p1 : ByteArray) : Option (V × List VO) :=
 let a2 := dnext (dnext (dnext d0 2) 4) 20
 let a3 := iadd .i64 1 (dval a2 3)
 let a1 := linkZ a3.toNat (dval (dnext (dnext d0 2) 4) 20) (dnext a2 3)
 br (QaT d0 2) (br (QaT (dnext d0 2) 4) (br (QaT (dnext (dnext d0 2) 4) 20) (br (QaT a2 3) (br (dOk (dnext a2 3) && decide (0 ≤ a3 ∧ a3 ≤ 100 ∧ ([] : List Link).length + a3.toNat ≤ 1000)) (br (cIx (([] : List Link) ++ a1.1) 0) (br (cLd (([] : List Link) ++ a1.1) (Int.toNat 0)) (br (ofOk (a1.2) ([50, 300, 0, 3000])) (some (.t QaW ((p1), ((iadd .i64 1 (dval d0 2)), ((iadd .i64 1 (dval (dnext d0 2) 4)), ((([] : List Link) ++ a1.1), ((iadd .i64 (((lgt Qbz (([] : List Link) ++ a1.1) (Int.toNat 0)).2).1) (dof (a1.2) ([50, 300, 0, 3000]))), ()))))), [.box (.t QaL (dofN (a1.2) ([50, 300, 0, 3000])))])) none) none) none) none) none) none) none) none
theorem e_f37 (d0 : Dice) (p1 : ByteArray) : runF g_f37 QGl QT7 false [.ptr 50000 0, .t .str p1] [.box (.t QaL d0)] = r_f37 d0 p1 := by kernel_rfl
theorem en_f37 : Qai Tryz.prog 37 := .inr ⟨by decide, _, Tryz.func37, by kernel_rfl, by kernel_rfl⟩
theorem gk_f37 : GOk Tryz.prog g_f37 := Qal _ (gA (gC QxG QwR (gC QUV QUF gN)))
theorem QYd (x6 x7 : Int) (y4 : Item) (y5_0 : ByteArray) (y5_1 y5_2 y5_4 : Int) (y20503 : List Link) (y50000 : Dice) (h : (dOk y50000 && decide (0 ≤ x7 ∧ x7 ≤ 100 ∧ y20503.length + x7.toNat ≤ 1000)) = true) : QuO x6 x7 y4 y5_0 y5_1 y5_2 y5_4 y20503 y50000 = Qke x6 x7 y4 y5_0 y5_1 y5_2 y5_4 y20503 y50000 := by
 simp only [Bool.and_eq_true, decide_eq_true_eq] at h
 obtain ⟨hd, h1, h2q, h3⟩ := h
 obtain ⟨k, rfl⟩ := Int.eq_ofNat_of_zero_le h1
 rw [Int.toNat_natCast] at h3
 have h2 : k ≤ 100 := by omega
 clear h1 h2q
 induction k generalizing y20503 y50000 x6 with
 | zero =>
  rw [QCh]
  have e1 : igt ((0 : Nat) : Int) 0 = false := rfl
  simp only [QuB, e1, Qaf, Qke, Int.toNat_natCast, linkZ, List.append_nil]
 | succ k ih =>
  rw [QCh]
  have e1 : igt ((k + 1 : Nat) : Int) 0 = true := by simp only [igt, decide_eq_true_eq]; omega
  have e2 : isub .i64 ((k + 1 : Nat) : Int) 1 = (k : Int) := by rw [Qb3 (by omega)]; omega
  have hv := Qbu (d := y50000) (n := 6) (by omega)
  have hc : cIx useL (dval y50000 6) = true := by
   have : useL.length = 6 := rfl
   simp only [cIx, decide_eq_true_eq]
   omega
  have hla : Qke x6 ((k + 1 : Nat) : Int) y4 y5_0 y5_1 y5_2 y5_4 y20503 y50000 = Qke (iadd .i64 (iadd .i64 x6 1) (dof (dnext y50000 6) [5, 30, 0, 100])) (k : Int) y4 y5_0 y5_1 y5_2 y5_4 (y20503 ++ [(lgt Qag useL (dval y50000 6).toNat, (x6, ()))]) (dofN (dnext y50000 6) [5, 30, 0, 100]) := by
   simp only [Qke, Int.toNat_natCast, linkZ, List.append_assoc]
   rfl
  rw [hla, ← ih _ _ _ (QxM (QaK hd)) (by simp; omega) (by omega)]
  have n6 : QaT y50000 6 = true := by simp [QaT, hd]
  have f1 : ofOk (dnext y50000 6) [5, 30, 0, 100] = true := by simp [ofOk, QaK hd]
  simp only [QuB, e1, e2, n6, f1, Qad, show ([(2, (0, ())), (1, (0, ())), (5, (2048, ())), (16, (128, ())), (3, (0, ())), (15, (168, ()))] : List Keep) = useL from rfl, hc]
  rw [Q0K (by simp; omega) (by omega), Qad]
  show br (cIx useL (dval y50000 6)) _ _ = _
  rw [hc, Qad]
theorem QP0 : ∀ S l p, g_f37.L 0 (fgt Qk0 S) = some (true, l) → pickA l = some p → loopF (Qaj g_f37 Qk0 Qm8) S = some p :=
 QaB (s := Qtw) ⟨by decide, by decide⟩ (by kernel_rfl) fun x y hok p hp => by
 simp only [Qao, Qam] at hp
 exact (QYd x.2.2.2.1 x.2.2.2.2.1 y.1 y.2.1.1 y.2.1.2.1 y.2.1.2.2.1 y.2.1.2.2.2.2.1 y.2.2.2.1 y.2.2.2.2.1 (by simpa using hok)).trans hp
theorem lk_f37 : QGl.lok g_f37 := by
 repeat (first | exact trivial | exact QP0 | refine ⟨?_, ?_⟩)
theorem s_f37 (d : Dice) (s : ByteArray) (h : dOkS d s = true) : r_f37 d s = some (.t QaW (itemV d s), [.box (.t QaL (itemN d s))]) := by
 have h : dOk d = true := h
 have n2 : QaT d 2 = true := by simp [QaT, h]
 have n4 : QaT (dnext d 2) 4 = true := by simp [QaT, QaK h]
 have n20 : QaT (dnext (dnext d 2) 4) 20 = true := by simp [QaT, QaK (QaK h)]
 have n3 : QaT (dnext (dnext (dnext d 2) 4) 20) 3 = true := by simp [QaT, QaK (QaK (QaK h))]
 have b3 := Qbu (d := dnext (dnext (dnext d 2) 4) 20) (n := 3) (by omega)
 have e3 : iadd .i64 1 (dval (dnext (dnext (dnext d 2) 4) 20) 3) = 1 + dval (dnext (dnext (dnext d 2) 4) 20) 3 := Qbg (by omega)
 have hl := QuV (iadd .i64 1 (dval (dnext (dnext (dnext d 2) 4) 20) 3)).toNat (dval (dnext (dnext d 2) 4) 20) (itD3 d)
 have hd3 : dOk (itD3 d) = true := QaK (QaK (QaK (QaK h)))
 have hL : dOk (itLk d).2 = true := QDA h
 have f5 : ofOk (itLk d).2 [50, 300, 0, 3000] = true := by simp [ofOk, hL]
 have hlen : 0 < (itLk d).1.length := by
  show 0 < (linkZ _ _ _).1.length
  rw [hl]
  omega
 have c1 : cIx (itLk d).1 0 = true := by simp only [cIx, decide_eq_true_eq]; omega
 have c2 : cLd (itLk d).1 (Int.toNat 0) = true := by simp only [cLd, decide_eq_true_eq]; exact hlen
 simp only [r_f37, n2, n4, n20, n3, Qad, List.nil_append, show dnext (dnext (dnext (dnext d 2) 4) 20) 3 = itD3 d from rfl, hd3, Bool.true_and]
 rw [Qk9 ⟨by omega, by omega, by simp; omega⟩, Qad]
 simp only [show linkZ (iadd .i64 1 (dval (dnext (dnext (dnext d 2) 4) 20) 3)).toNat (dval (dnext (dnext d 2) 4) 20) (itD3 d) = itLk d from rfl, c1, c2, f5, Qad]
 rfl
def QTl : Ent := specP QaL (.pr .str .nil) (fun d x => (dOkS d x.1)) (fun d x => (.t QaW (itemV d x.1))) (fun d x => (itemN d x.1))
theorem ms_f37 : Meets Tryz.prog 37 (strip QTl) := QcE (R := runF g_f37 QGl QT7 false) (mG Tryz.func37 (by kernel_rfl) Tryz.ntmps37 (by kernel_rfl) gk_f37 lk_f37) rfl fun d x hok => (e_f37 d x.1).trans (s_f37 d x.1 hok)
noncomputable def QRJ : List DO := dT Tryz.f22 6
def Qk1 : Fg := ⟨[(0, some (.sl Qag)), (1, some (.sl Qag)), (12, some tI), (13, some tI)], []⟩
noncomputable def Qm9 : TC := (.sq (.reg (rT Tryz.f22 4)) (.sq (.cd (.t 14) .sk (.fg ⟨[], []⟩ (.ex 0))) (.sq (.bk 1 (.sq (.reg (rT Tryz.f22 5)) (.sq (.dr QRJ [(0, []), (1, []), (2, []), (3, []), (4, []), (5, []), (6, []), (7, []), (8, [])] (.of [0, 1, 2, 3, 4, 5, 6, 7, 8])) (.cd (.t 24) (.sq (.reg (rT Tryz.f22 7)) (.fg ⟨[(4, some .bool)], []⟩ .rt)) .sk)))) (.reg (rT Tryz.f22 8)))))
noncomputable def QGn : TC := (.sq (.reg (rT Tryz.f22 0)) (.sq (.sq (.reg (rT Tryz.f22 1)) (.cd (.t 10) (.sq (.reg (rT Tryz.f22 2)) .rt) .sk)) (.sq (.sq (.reg (rT Tryz.f22 3)) (.bk 0 (.lp 0 Qk1 Qm9))) (.sq (.reg (rT Tryz.f22 9)) .rt))))
def QT9 : List (RV × Option Ty) := [((.t 4), some .bool)]
abbrev Qtx : Sh := ⟨[(0, .ty (.sl Qag)), (1, .ty (.sl Qag)), (12, .ty tI), (13, .ty tI)], []⟩
def Qs4 (x0 x1 : List Keep) (x12 x13 : Int) : VS := Qtx.st (x0, x1, x12, x13, ()) ()
abbrev QvZ : Sh := ⟨[(4, .ty .bool)], []⟩
def Qd2 (x4 : Bool) : VS := QvZ.st (x4, ()) ()
abbrev QzM : Sh := ⟨[], []⟩
def Qfu  : VS := QzM.st () ()
def Q08 : VS → Option (Bool × List (Bool × Exit × VS)) := mkL Qtx (fun x y => (decide (0 ≤ x.2.2.2.1 ∧ x.2.2.2.1 ≤ x.1.length ∧ x.1.length = x.2.1.length ∧ x.2.2.1 = x.1.length ∧ x.1.length ≤ 100000))) (fun x y => [((!(x.1.drop x.2.2.2.1.toNat == x.2.1.drop x.2.2.2.1.toNat)), .ret, Qd2 (false)), (true, .exit 0, Qfu)])
def g_f22 : G := ⟨TYs, [], 26, EL [], keeps, (Ls [Q08]), IL [], RL []⟩
def QOC (x0 x1 : List Keep) (x12 x13 : Int) : Option (Exit × VS) :=
 let a1 := Int.toNat x13
 br (ilt x13 x12) (br (cIx x0 x13) (br (cIx x1 x13) (br (!(and (ieq ((lgt Qag x0 a1).1) ((lgt Qag x1 a1).1)) (and (ieq (((lgt Qag x0 a1).2).1) (((lgt Qag x1 a1).2).1)) true))) (some (.ret, Qd2 false)) (some (.normal, Qs4 x0 x1 x12 (iadd .i64 x13 1)))) none) none) (some (.exit 0, Qfu))
noncomputable def Qn6 (x0 x1 : List Keep) (x12 x13 : Int) : Option (Exit × VS) := loopF (Qaj g_f22 Qk1 Qm9) (Qs4 x0 x1 x12 x13)
noncomputable def QuC (x0 x1 : List Keep) (x12 x13 : Int) : Option (Exit × VS) :=
 let a1 := Int.toNat x13
 br (ilt x13 x12) (br (cIx x0 x13) (br (cIx x1 x13) (br (!(and (ieq ((lgt Qag x0 a1).1) ((lgt Qag x1 a1).1)) (and (ieq (((lgt Qag x0 a1).2).1) (((lgt Qag x1 a1).2).1)) true))) (some (.ret, Qd2 false)) (Qn6 x0 x1 x12 (iadd .i64 x13 1))) none) none) (some (.exit 0, Qfu))
def Qoj (x0 x1 : List Keep) (x12 x13 : Int) : Option (Exit × VS) := br (!(x0.drop x13.toNat == x1.drop x13.toNat)) (some (.ret, Qd2 (false))) <| some (.exit 0, Qfu)
theorem QSb (x0 x1 : List Keep) (x12 x13 : Int) : Qaj g_f22 Qk1 Qm9 (Qs4 x0 x1 x12 x13) = QOC x0 x1 x12 x13 := by kernel_rfl
theorem QCi (x0 x1 : List Keep) (x12 x13 : Int) : Qn6 x0 x1 x12 x13 = QuC x0 x1 x12 x13 := (Qan _ _).trans (by
 rw [QSb]
 simp only [QOC, QuC, Qay, nxt_n, nxt_r, nxt_e, nxt_0]
 rfl)
def r_f22 (p0 p1 : List Keep) : Option (V × List VO) := br (ine (llen p0) (llen p1)) (some (.t .bool false, [])) (br (decide (0 ≤ (0 : Int) ∧ (0 : Int) ≤ p0.length ∧ p0.length = p1.length ∧ (llen p0) = p0.length ∧ p0.length ≤ 100000)) (br (!(p0.drop (0 : Int).toNat == p1.drop (0 : Int).toNat)) (some (.t .bool (false), [])) (some (.t .bool true, []))) none)
theorem e_f22 (p0 p1 : List Keep) : runF g_f22 QGn QT9 false [.t (.sl Qag) p0, .t (.sl Qag) p1] [] = r_f22 p0 p1 := by kernel_rfl
theorem en_f22 : Qai Tryz.prog 22 := .inr ⟨by decide, _, Tryz.func22, by kernel_rfl, by kernel_rfl⟩
theorem gk_f22 : GOk Tryz.prog g_f22 := Qal _ (fun p hp => by cases hp)
theorem QYe (x0 x1 : List Keep) (x12 x13 : Int) (h : (decide (0 ≤ x13 ∧ x13 ≤ x0.length ∧ x0.length = x1.length ∧ x12 = x0.length ∧ x0.length ≤ 100000)) = true) : Qn6 x0 x1 x12 x13 = Qoj x0 x1 x12 x13 := by
 simp only [decide_eq_true_eq] at h
 obtain ⟨h0, h1, h2, rfl, h3⟩ := h
 obtain ⟨k, rfl⟩ := Int.eq_ofNat_of_zero_le h0
 refine Qar x0 (fun k => Qn6 x0 x1 (x0.length : Int) (k : Int) = Qoj x0 x1 (x0.length : Int) (k : Int)) ?_ ?_ k (by omega)
 ·rw [QCi]
  simp only [QuC, Qoj, Qas, Nat.lt_irrefl, decide_false, Qaf, Int.toNat_natCast, List.drop_length]
  rw [h2, List.drop_length]
  rfl
 ·intro k hk ih
  rw [QCi]
  have hk2 : k < x1.length := by omega
  have hq : (and (ieq x0[k].1 x1[k].1) (and (ieq x0[k].2.1 x1[k].2.1) true)) = (x0[k] == x1[k]) := rfl
  simp only [QuC, Qas, Qaw, hk, hk2, decide_true, Qad, Int.toNat_natCast, add1 (show k < 4611686018427387904 by omega), QaA (y := Qag) hk, QaA (y := Qag) hk2, ih]
  rw [hq]
  simp only [Qoj, Int.toNat_natCast, List.drop_eq_getElem_cons hk, List.drop_eq_getElem_cons hk2, List.cons_beq_cons]
  cases x0[k] == x1[k] <;> rfl
theorem QP1 : ∀ S l p, g_f22.L 0 (fgt Qk1 S) = some (true, l) → pickA l = some p → loopF (Qaj g_f22 Qk1 Qm9) S = some p :=
 QaB (s := Qtx) ⟨by decide, by decide⟩ (by kernel_rfl) fun x y hok p hp => by
 simp only [Qao, Qam] at hp
 exact (QYe x.1 x.2.1 x.2.2.1 x.2.2.2.1 (by simpa using hok)).trans hp
theorem lk_f22 : QGn.lok g_f22 := by
 repeat (first | exact trivial | exact QP1 | refine ⟨?_, ?_⟩)
theorem s_f22 (a b : List Keep) (h : QgF a b = true) : r_f22 a b = some (.t .bool (sameO a b), []) := by
 simp only [QgF, decide_eq_true_eq] at h
 unfold sameO
 by_cases hl : a.length = b.length
 ·simp only [r_f22, show ine (llen a) (llen b) = false by simp only [ine, llen, hl]; simp, Qaf, Int.toNat_zero, List.drop_zero]
  refine brY (decide_eq_true ⟨by omega, by omega, hl, trivial, h.1⟩) ?_
  cases a == b <;> rfl
 ·have : (a == b) = false := beq_eq_false_iff_ne.2 fun e => hl (by rw [e])
  simp only [r_f22, show ine (llen a) (llen b) = true by simp only [ine, llen, bne_iff_ne]; omega, Qad, this]
def QTm : Ent := spec (.pr (.sl Qag) (.pr (.sl Qag) .nil)) (fun x => (QgF x.1 x.2.1)) (fun x => (.t .bool (sameO x.1 x.2.1)))
theorem ms_f22 : Meets Tryz.prog 22 (strip QTm) := Qah (R := runF g_f22 QGn QT9 false) (mG Tryz.func22 (by kernel_rfl) Tryz.ntmps22 (by kernel_rfl) gk_f22 lk_f22) fun x hok => (e_f22 x.1 x.2.1).trans (s_f22 x.1 x.2.1 hok)
def rsaK : Keep := (5, (2048, ()))
noncomputable def QGa : TC := (.sq (.reg (rT Tryz.f48 0)) (.sq (.reg (rT Tryz.f48 1)) .rt))
def QTW : List (RV × Option Ty) := [((.c 0 true 2), some Qag)]
def g_f48 : G := ⟨TYs, [], 2, EL [], keeps, (fun _ _ => none), IL [], RL []⟩
def r_f48  : Option (V × List VO) := some (.t Qag (5, (2048, ())), [])
theorem e_f48  : runF g_f48 QGa QTW false [] [] = r_f48  := by kernel_rfl
theorem en_f48 : Qai Tryz.prog 48 := .inr ⟨by decide, _, Tryz.func48, by kernel_rfl, by kernel_rfl⟩
theorem gk_f48 : GOk Tryz.prog g_f48 := Qal _ (fun p hp => by cases hp)
theorem lk_f48 : QGa.lok g_f48 := by repeat (first | exact trivial | refine ⟨?_, ?_⟩)
theorem s_f48 : r_f48 = some (.t Qag rsaK, []) := rfl
def QTh : Ent := spec .nil (fun x => true) (fun x => (.t Qag rsaK))
theorem ms_f48 : Meets Tryz.prog 48 (strip QTh) := Qah (R := runF g_f48 QGa QTW false) (mG Tryz.func48 (by kernel_rfl) Tryz.ntmps48 (by kernel_rfl) gk_f48 lk_f48) fun x _ => (e_f48 ).trans (s_f48 )
def leafC (nm : ByteArray) (k : Keep) (id to : Int) : Qaa := (id, (sRoot, (nm, (k, (id, ((3, (0, ())), (0, (to, (false, (0, ([nm], ((0, (0, ())), ()))))))))))))
def leafV (nm : ByteArray) (k : Keep) (id a to : Int) : QaH := (k, (id, ([(signC (leafC nm k id to) a).1], ())))
def Qsy (nm : ByteArray) (_k : Keep) (_id _a _to : Int) : Bool := decide (nm.size ≤ 1000)
noncomputable def QGb : TC := (.sq (.reg (rT Tryz.f47 0)) (.sq (.reg (rT Tryz.f47 1)) (.sq (.reg (rT Tryz.f47 2)) (.sq (.reg (rT Tryz.f47 3)) .rt))))
def QTX : List (RV × Option Ty) := [((.c 10 true 4), some Qat)]
def g_f47 : G := ⟨TYs, [], 32, EL [(84, QS5)], keeps, (fun _ _ => none), IL [], RL []⟩
def r_f47 (p0 : ByteArray) (p1 : Keep) (p2 p3 p4 : Int) : Option (V × List VO) :=
 let a1 := ((signC (p2, ((ByteArray.mk #[114, 111, 111, 116]), (p0, ((p1.1, (p1.2.1, ())), (p2, ((3, (0, ())), (0, (p4, (false, (0, ([p0], ((0, (0, ())), ())))))))))))) p3).1)
 let a4 := (((a1.2).2).2)
 let a2 := ((a4.2).2)
 let a3 := ((((a2.2).2).2).2)
 br (QeQ (p2, ((ByteArray.mk #[114, 111, 111, 116]), (p0, ((p1.1, (p1.2.1, ())), (p2, ((3, (0, ())), (0, (p4, (false, (0, ([p0], ((0, (0, ())), ())))))))))))) p3) (some (.t Qat ((p1.1, (p1.2.1, ())), (p2, ([(a1.1, ((a1.2).1, (((a1.2).2).1, (((a4.1).1, (((a4.1).2).1, ())), ((a4.2).1, (((a2.1).1, (((a2.1).2).1, ())), ((a2.2).1, (((a2.2).2).1, ((((a2.2).2).2).1, (a3.1, ((a3.2).1, (((((a3.2).2).1).1, (((((a3.2).2).1).2).1, ())), ()))))))))))))], ()))), [])) none
theorem e_f47 (p0 : ByteArray) (p1 : Keep) (p2 p3 p4 : Int) : runF g_f47 QGb QTX false [.t .str p0, .t Qag p1, .t tI p2, .t tI p3, .t tI p4] [] = r_f47 p0 p1 p2 p3 p4 := by kernel_rfl
theorem en_f47 : Qai Tryz.prog 47 := .inr ⟨by decide, _, Tryz.func47, by kernel_rfl, by kernel_rfl⟩
theorem gk_f47 : GOk Tryz.prog g_f47 := Qal _ (gA (gC en_f84 ms_f84 gN))
theorem lk_f47 : QGb.lok g_f47 := by repeat (first | exact trivial | refine ⟨?_, ?_⟩)
theorem s_f47 (nm : ByteArray) (k : Keep) (id a to : Int) (h : Qsy nm k id a to = true) : r_f47 nm k id a to = some (.t Qat (leafV nm k id a to), []) := by
 have hs : nm.size ≤ 1000 := of_decide_eq_true h
 unfold r_f47
 exact brY (QBi (by decide) hs (l := [nm]) (Nat.le_succ 1) (fun t ht => by rw [List.mem_singleton.1 ht]; omega)) rfl
def QTi : Ent := spec (.pr .str (.pr Qag (.pr tI (.pr tI (.pr tI .nil))))) (fun x => (Qsy x.1 x.2.1 x.2.2.1 x.2.2.2.1 x.2.2.2.2.1)) (fun x => (.t Qat (leafV x.1 x.2.1 x.2.2.1 x.2.2.2.1 x.2.2.2.2.1)))
theorem ms_f47 : Meets Tryz.prog 47 (strip QTi) := Qah (R := runF g_f47 QGb QTX false) (mG Tryz.func47 (by kernel_rfl) Tryz.ntmps47 (by kernel_rfl) gk_f47 lk_f47) fun x hok => (e_f47 x.1 x.2.1 x.2.2.1 x.2.2.2.1 x.2.2.2.2.1).trans (s_f47 x.1 x.2.1 x.2.2.1 x.2.2.2.1 x.2.2.2.2.1 hok)
def QoC : Bool := true
noncomputable def QGw : TC := (.sq (.reg (rT Tryz.f10 0)) (.sq (.reg (rT Tryz.f10 1)) (.sq (.reg (rT Tryz.f10 2)) (.sq (.reg (rT Tryz.f10 3)) (.sq (.reg (rT Tryz.f10 4)) .rt)))))
def QUi : List (RV × Option Ty) := [((.t 0), some .bool)]
def g_f10 : G := ⟨TYs, [], 44, EL [(14, QTr), (15, QHp), (18, QTp)], keeps, (fun _ _ => none), IL [], RL []⟩
def r_f10  : Option (V × List VO) :=
 let a1 := (allF (([] : List Qab), (([] : List Keep), (([] : List Item), ()))) 0)
 br (Qgf (([] : List Qab), (([] : List Keep), (([] : List Item), ()))) 0 0) (br (Qgg (([] : List Qab), (([] : List Keep), (([] : List Item), ()))) 0) (br (Qgg (([] : List Qab), (([] : List Keep), (([] : List Item), ()))) 99) (br (ieq ((Qr8 (([] : List Qab), (([] : List Keep), (([] : List Item), ()))) 0 0).2) 4) (br (ieq ((a1.2).2) 0) (br (ieq (llen (a1.1)) 0) (br (ieq (llen ((a1.2).1)) 0) (some (.t .bool (ieq ((needF (([] : List Qab), (([] : List Keep), (([] : List Item), ()))) 99).2) 7), [])) (some (.t .bool false, []))) (some (.t .bool false, []))) (some (.t .bool false, []))) (some (.t .bool false, []))) none) none) none
theorem e_f10  : runF g_f10 QGw QUi false [] [] = r_f10  := by kernel_rfl
theorem en_f10 : Qai Tryz.prog 10 := .inr ⟨by decide, _, Tryz.func10, by kernel_rfl, by kernel_rfl⟩
theorem gk_f10 : GOk Tryz.prog g_f10 := Qal _ (gA (gC en_f14 ms_f14 (gC QU0 QUK (gC en_f18 ms_f18 gN))))
theorem lk_f10 : QGw.lok g_f10 := by repeat (first | exact trivial | refine ⟨?_, ?_⟩)
set_option maxRecDepth 100000 in
theorem s_f10 : r_f10 = some (.t .bool QoC, []) := by kernel_rfl
def QTu : Ent := spec .nil (fun x => true) (fun x => (.t .bool QoC))
theorem ms_f10 : Meets Tryz.prog 10 (strip QTu) := Qah (R := runF g_f10 QGw QUi false) (mG Tryz.func10 (by kernel_rfl) Tryz.ntmps10 (by kernel_rfl) gk_f10 lk_f10) fun x _ => (e_f10 ).trans (s_f10 )
end
end Go.Proofs.YtckcgijklnloiaaGreat.K
