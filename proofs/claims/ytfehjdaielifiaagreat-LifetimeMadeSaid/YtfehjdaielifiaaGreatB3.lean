/-
  slices.Backward at Keep.
-/
import Derived.Test.YtfehjdaielifiaaGreatB2
set_option linter.unusedSimpArgs false
set_option linter.unusedVariables false
namespace Go.Proofs.YtfehjdaielifiaaGreat.K
open Go.RowKit Go.Shelf
def it_f78_1 : Itr := mkIt [.ptr 50000 0] [(.sl tyKeep)] (.pr tI (.pr tyKeep .nil)) (fun d => true) (fun d => (backL d.1))
/-- slices.Backward[[]cipherplan/api.Keep,cipherplan/api.Keep] -/
def tc_f78 : TC := (.sq (.reg [(oM 1 (.box (.t 0))), (oP 2 (.mv (.c (.v .nilFunc))))]) (.sq (.reg [(oK 3 (.mf 102 [(.t 1)])), (oV 2 3)]) .rt))
def rv_f78 : List (RV × Option Ty) := [((.t 2), none)]
def g_f78 : G := ⟨TYs, [], 4, EL [], keeps, (fun _ _ => none), IL [], RL []⟩
def r_f78 (p0 : (List Keep)) : Option (V × List VO) :=
  some (.fn 102 [(.ptr 50000 0)], [.box (.t (.sl tyKeep) p0)])
theorem e_f78 (p0 : (List Keep)) : runF g_f78 tc_f78 rv_f78 true [.t (.sl tyKeep) p0] [] = r_f78 p0 := by kernel_rfl
theorem ok_f78 : Option.map (trC Tryz.prog) Tryz.f78.body = some tc_f78.er := by kernel_rfl
theorem rok_f78 : trVs Tryz.prog Tryz.f78.results.toList = some (rv_f78.map Prod.fst) := by kernel_rfl
theorem en_f78 : Entered Tryz.prog 78 := .inr ⟨by decide, _, Tryz.func78, by kernel_rfl, by kernel_rfl⟩
theorem gk_f78 : GOk Tryz.prog g_f78 := gok_of _ (fun p hp => by cases hp)
theorem lk_f78 : tc_f78.lok g_f78 := by repeat (first | exact trivial | refine ⟨?_, ?_⟩)
def sp_f78 : Ent := specO (.pr (.sl tyKeep) .nil) (fun _ => true) (fun x => .fn 102 [.ptr 50000 0]) (fun x => [.box (.t (.sl tyKeep) x.1)])
theorem ms_f78 : Meets Tryz.prog 78 (strip sp_f78) := by
  obtain ⟨c, hc, hi⟩ := Option.map_eq_some_iff.1 ok_f78
  exact meets_specO (R := runF g_f78 tc_f78 rv_f78 true) (meets_of (by decide) Tryz.func78 hc hi Tryz.ntmps78 rok_f78 gk_f78 lk_f78 mixed) fun x _ => (e_f78 x.1).trans rfl
attribute [local go_sem] Oper.semAt_some
set_option maxRecDepth 100000 in
set_option maxHeartbeats 1000000 in
theorem back_keep (Bs b0 off c n : Nat) (A : Option Addr) (vs : List Value) (Xf : Nat → Nat → Prop) (w : World) (hnc : n ≤ c) (hcm : c ≤ maxLen)
    (hBs : w.cell? ⟨Bs, 0, none⟩ = some (.slice A n c)) (hBl : Bs < w.heap.size) (hBx : ∀ q, ¬ Xf Bs q)
    (hA : 0 < n → A = some ⟨b0, off, none⟩ ∧ vs.length = n * 2 ∧ b0 < w.heap.size ∧ (∀ j, j < vs.length → ¬ Xf b0 (off + j)) ∧ ∀ j v, vs[j]? = some v → w.cell? ⟨b0, off + j, none⟩ = some v) :
    ItOk Tryz.prog 102 [.pointer (some ⟨Bs, 0, none⟩)] (encB vs 2 n) Xf w := by
  intro l J Jx W hJ hJx hK hY h0
  have HA := Lib.hid hA
  clear hA
  refine callsIn_of_wp (F := Fw none) Tryz.func102 rfl trivial ?_ rfl
  simp only [Tryz.ntmps102, List.size_toArray, List.length_cons, List.length_nil, Nat.reduceAdd, Nat.reduceSub, Array.replicate_succ, Array.replicate_zero, List.push_toArray, List.append_toArray, List.nil_append, List.cons_append]
  have hb0 : W.cell? ⟨Bs, 0, none⟩ = some (.slice A n c) := ((hK _ W h0).2 Bs 0 hBl (hBx 0)).trans hBs
  gi_wp2
  gi_loopw [3] (fun i wr => ∃ k : Nat, k ≤ n ∧ i = .int .i64 ((k : Int) - 1) ∧ J (encB vs 2 k) wr)
    (fun i _ => (intOf i + 1).toNat)
  case atStart => exact ⟨n, Nat.le_refl _, congrArg (Value.int .i64) (w64 n (by omega)), h0⟩
  case round =>
    obtain ⟨k, hk, rfl, hJs⟩ := hrel
    have hbx : wr.cell? ⟨Bs, 0, none⟩ = some (.slice A n c) := ((hK _ wr hJs).2 Bs 0 hBl (hBx 0)).trans hBs
    cases k with
    | zero =>
      gi_wp2
      go_end0
      exact ⟨⟨_, rfl⟩, .inl hJs⟩
    | succ q =>
      obtain ⟨rfl, hvl, hbl, hnx, hcl⟩ := HA.out (by omega)
      obtain ⟨fn, tmps, assign, body, hy, hR⟩ := hY _ _ wr hJs
      have cel : ∀ i, i < 2 → ∃ v, vs[q * 2 + i]? = some v ∧ wr.cell? ⟨b0, off + (q * 2 + i), none⟩ = some v := by
        intro i hi
        have hlt : q * 2 + i < vs.length := by omega
        exact ⟨_, List.getElem?_eq_getElem hlt, ((hK _ wr hJs).2 b0 _ hbl (hnx _ hlt)).trans (hcl _ _ (List.getElem?_eq_getElem hlt))⟩
      obtain ⟨v0, e0, c0⟩ := cel 0 (by omega)
      obtain ⟨v1, e1, c1⟩ := cel 1 (by omega)
      rw [Nat.add_zero] at e0 c0
      rw [← Nat.add_assoc] at c1
      have hag : ((vs.drop (q * 2)).take 2) = [v0, v1] := by
        apply List.ext_getElem?
        intro i
        rcases Nat.lt_or_ge i 2 with hi | hi
        · rw [List.getElem?_take_of_lt hi, List.getElem?_drop]
          rcases i with _ | _ | i
          · rw [Nat.add_zero, e0]; rfl
          · rw [e1]; rfl
          · omega
        · rw [List.getElem?_take_eq_none hi, List.getElem?_eq_none (by simpa using hi)]
      rw [hag] at hy
      have q1 : ((q + 1 : Nat) : Int) - 1 = (q : Int) := by omega
      rw [q1]
      clear hnx hcl cel hY
      gi_wp2
      refine hR.mono ?_
      rintro e W3 (⟨rfl, hJ3⟩ | ⟨rfl, hJx3⟩)
      · gi_wp2
        go_roundw
        case rel => exact ⟨q, by omega, congrArg (Value.int .i64) (w64 q (by omega)), hJ3⟩
        case measure => simp [intOf, w64 q (by omega)]
      · gi_wp2
        refine bodyPost_ret (results_none rfl _ _ _) rfl ?_
        exact ⟨⟨_, rfl⟩, .inr hJx3⟩
theorem is_f78_1 : Iters Tryz.prog 102 it_f78_1 :=
  iters_back (y := tyKeep) (sz := 2) rfl rfl (enters_of Tryz.func102 (by kernel_rfl) rfl) back_keep
end Go.Proofs.YtfehjdaielifiaaGreat.K
