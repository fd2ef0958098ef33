/-
  An own slice that is only read by a function which makes a new slice; slices.Compact whose result is own.
-/
import Derived.Test.YthdichlainehpaaKY
import Derived.Test.YthdichlainehpaaKD
set_option linter.unusedSimpArgs false
set_option linter.unusedVariables false
namespace Go.Proofs.Ythdichlainehpaa.K
open Go.RowKit Go.Sort
/-- the word of a function that makes a new slice, with one own slice among the arguments, which is only read -/
def lendEO (E : Ent) : Ent := fun args objs => match objs with
  | [.arr e y l] => match E (V.fzs 50000 y l args) [] with
    | some (ok, r, []) => some (ok, r, [.arr e y l])
    | _ => none
  | objs => E args objs
section
variable {P : Program}
theorem meets_lendO {f : FuncId} {e0 : Nat} {k0 : IntKind} {a : Ty} {ok0 : a.T → Bool} {L : a.T → List Int} (h : Meets P f (strip (specO a ok0 (fun _ => .ms 50000) (fun x => [.arr e0 (.int k0) (L x)])))) : Meets P f (strip (lendEO (spec a ok0 (fun x => .t (.sl (.int k0)) (L x))))) := by
  intro args objs r os hF X w σ vs hfin hl hc
  unfold strip lendEO at hF
  split at hF
  · rename_i r' os' hq
    simp only [Option.some.injEq, Prod.mk.injEq] at hF
    obtain ⟨rfl, rfl⟩ := hF
    split at hq
    · rename_i e y l
      split at hq
      · rename_i ok r2 hE
        simp only [Option.some.injEq, Prod.mk.injEq] at hq
        obtain ⟨rfl, rfl, rfl⟩ := hq
        unfold spec at hE
        simp only at hE
        cases ha : a.args (V.fzs 50000 y l args) with
        | none => rw [ha] at hE; cases hE
        | some x =>
          rw [ha] at hE
          simp only [Option.some.injEq, Prod.mk.injEq] at hE
          obtain ⟨h1, rfl, _⟩ := hE
          have hat := (hl.at_ 0 _ rfl).1
          let X2 : Nat → Nat → Prop := fun b q => X b q ∧ (σ 50000).blk ≠ some b
          have ex : Ext X w X2 w := ⟨Nat.le_refl _, fun b q _ hx => ⟨fun hx' => hx hx'.1, rfl⟩, fun _ _ _ => rfl⟩
          have hX : ∀ u b, σ 50000 = .arr u → u.ownBlock = some b → ∀ q, ¬ X2 b q := fun u b h1 h2 q hx => hx.2 (by rw [h1]; exact h2)
          have hc2 := fz_cs hat ex hX args vs hc
          have h2 := h (V.fzs 50000 y l args) [] (.ms 50000) [.arr e0 (.int k0) (L x)] (by unfold strip specO; simp only [ha, h1]) X2 w σ vs (fun b q hx => hfin b q hx.1) ⟨fun j o hj => by simp at hj, fun i j b _ hi => by simp at hi⟩ hc2
          refine h2.mono ?_
          rintro e' w' ⟨u, X', σ', rfl, hcr, hE'⟩
          have hk : ∀ b, b < w.heap.size → w'.heap[b]? = w.heap[b]? := fun b hb => hE'.fr.keep b hb (by simp [lentB])
          have hat' := (hE'.at_ 0 _ rfl).1
          let X'' : Nat → Nat → Prop := fun b q => X' b q ∧ (σ' 50000).blk ≠ some b
          have ex2 : Ext X' w' X'' w' := ⟨Nat.le_refl _, fun b q _ hx => ⟨fun hx' => hx hx'.1, rfl⟩, fun _ _ _ => rfl⟩
          have hX2 : ∀ u b, σ' 50000 = .arr u → u.ownBlock = some b → ∀ q, ¬ X'' b q := fun u b h1 h2 q hx => hx.2 (by rw [h1]; exact h2)
          have hz := fz_c (k := 50000) (y := .int k0) (l := L x) (e := e0) hat' ex2 hX2 (.ms 50000) u hcr
          simp only [V.fz, if_true] at hz
          have hnew : ∀ b, (σ' 50000).blk = some b → w.heap.size ≤ b := fun b hb2 => by
            rcases hE'.new 0 b (Nat.zero_le _) (by simp) hb2 with h3 | ⟨i, hi, _⟩
            · exact h3
            · exact absurd hi (by simp)
          let X3 : Nat → Nat → Prop := fun b q => (b < w.heap.size ∧ X b q) ∨ (w.heap.size ≤ b ∧ X'' b q)
          have hu : σ' 50000 = .arr u := by
            simp only [V.d, C] at hcr
            exact hcr.1
          refine ⟨u, X3, σ, rfl, ?_, ⟨fun b q hq => ?_, fun j o hj => ?_, fun i j b hij hi hj => by simp at hi hj; omega, by simp, fun _ _ => rfl, fun j b hj hl => by simp at hj hl; omega, ⟨hE'.fr.os, hE'.fr.tape, hE'.fr.output, hE'.fr.size, fun b hb _ => hk b hb⟩, fun b q hb hq => ?_, fun b q hb _ hq => .inl ⟨hb, hq⟩⟩⟩
          · simp only [V.d, Ty.d, C] at hz ⊢
            obtain ⟨A, cap, rfl, g1, g2, g3, g4⟩ := hz
            refine ⟨A, cap, rfl, g1, g2, g3, fun hn => ?_⟩
            obtain ⟨b, off, vs', rfl, k1, ⟨r1, r2, r3, r4⟩⟩ := g4 hn
            have := ints_run (L x) vs' k1
            subst this
            have hbn := hnew b (by rw [hu]; rfl)
            refine ⟨b, off, _, rfl, ints_cs2 _, ⟨r1, fun j hj hx => ?_, r3, r4⟩⟩
            rcases hx with hx | hx
            · omega
            · exact r2 j hj hx.2
          · rcases hq with hq | hq
            · exact Nat.lt_of_lt_of_le hq.1 hE'.fr.size
            · exact hE'.fin b q hq.2.1
          · cases j with
            | zero =>
              simp only [List.getElem?_cons_zero, Option.some.injEq] at hj
              subst hj
              have ex3 : Ext X w X3 w' := ⟨hE'.fr.size, fun b q hb hx => ⟨fun hx' => by
                rcases hx' with hx' | hx'
                · exact hx hx'.2
                · omega, World.cell?_of_block (w := w) (a := ⟨b, q, none⟩) (hk b hb)⟩, fun b hb _ => hk b hb⟩
              refine ⟨hat.ext ex3 rfl (fun _ _ => rfl) fun b hb => ?_, fun h => absurd h (by simp)⟩
              obtain ⟨u2, xs, h1, h2, h3, h4, h5⟩ := hat
              have hb2 : u2.ownBlock = some b := by rw [h1] at hb; exact hb
              have hlt : b < w.heap.size := hfin b 0 (h5 b hb2 0)
              exact ⟨hk b hlt, fun q hq => .inl ⟨hlt, hq⟩⟩
            | succ j => simp at hj
          · rcases hq with hq | hq
            · exact hq.2
            · omega
      · cases hq
    · exact meets_On h _ _ _ _ (by rw [strip, hq]) X w σ vs hfin hl hc
  · cases hF
variable {X : Nat → Nat → Prop} {w w' : World} {σ σ' : Pl}
/-- one slice is lent, and handed back under a new number -/
theorem ends_pass {o o' : VO} {row : Option Nat} (hfin : ∀ b q, X b q → b < w.heap.size) (hat : OAt X w' σ' 50001 o') (hn : o' ≠ .no) (hs : σ' 50000 = σ 50000) (hb : ∀ b, (σ' 50001).blk = some b → (σ 50000).blk = some b) (hg : w.grownBy w' row) (hr : row = none ∨ row = (σ 50000).blk) : Ends X w σ [o].length X w' σ' [.no, o'] := by
  refine ⟨fun b q hq => Nat.lt_of_lt_of_le (hfin b q hq) hg.size, fun j o hj => ?_, fun i j b hij hi hj n1 n2 => ?_, by simp, fun j hj => ?_, fun j b hj hl hbk => ?_, ⟨hg.os, hg.tape, hg.output, hg.size, fun b hb hm => hg.block b hb fun he => hm ?_⟩, fun _ _ _ h => h, fun _ _ _ _ h => h⟩
  · match j with
    | 0 =>
      simp only [List.getElem?_cons_zero, Option.some.injEq] at hj
      subst hj
      exact ⟨trivial, fun h => absurd h (by simp)⟩
    | 1 =>
      simp only [List.getElem?_cons_succ, List.getElem?_cons_zero, Option.some.injEq] at hj
      subst hj
      exact ⟨hat, fun _ => hn⟩
    | j + 2 => simp at hj
  · simp only [List.length_cons, List.length_nil] at hi hj
    have : i = 0 ∨ j = 0 := by omega
    rcases this with rfl | rfl
    · exact absurd rfl n1
    · exact absurd rfl n2
  · simp only [List.length_singleton] at hj
    have : j = 0 := by omega
    subst this
    exact hs
  · simp only [List.length_singleton] at hj
    simp only [List.length_cons, List.length_nil] at hl
    have : j = 1 := by omega
    subst this
    exact .inr ⟨0, by simp, rfl, hb b hbk⟩
  · rcases hr with hr | hr
    · rw [hr] at he; cases he
    · simp only [lentB, List.length_singleton, List.mem_filterMap, List.mem_range]
      exact ⟨0, by omega, by rw [← hr]; exact he.symm⟩
/-- slices.Compact of an own slice of numbers; what it gives is own -/
theorem meets_compactO {f : FuncId} {e : Nat} (hlt : f < 1000000)
    (hs : ∀ (blk off cap : Nat) (zs : List Int) (w : World), Holds (Value.int .i64) w blk off zs.toArray → zs.length ≤ 9223372036854775807 → zs.length ≤ cap →
      Calls P f #[.slice (some ⟨blk, off, none⟩) zs.length cap] w fun e w' => e = .returned (.slice (some ⟨blk, off, none⟩) (Lib.compact zs).length cap) ∧ ∃ q, w' = putRow (Value.int .i64) (Sort.ahead w q) blk off (Lib.compact zs ++ List.replicate (zs.length - (Lib.compact zs).length) 0).toArray)
    (h0 : ∀ (a : Option Addr) (cap : Nat) (w : World), Calls P f #[.slice a 0 cap] w fun e w' => e = .returned (.slice a 0 cap) ∧ w' = w) (he : e < 1000000 := by decide) :
    Meets P f (strip (specS [.ms 50000] [.arr e (.int .i64)] (fun _ y => lenOk y.1) (fun _ _ => .ms 50001) (fun _ y => [.no, .arr e (.int .i64) (Lib.compact y.1)]))) := by
  refine meets_S fun x y hok X w σ vs hfin hl hc => ?_
  obtain ⟨l, u0⟩ := y
  obtain ⟨u, rfl, h1, h2, h3⟩ := own_arg hl hc he
  have hok : l.length < 4611686018427387904 := of_decide_eq_true hok
  have hmx : maxLen = 9223372036854775807 := rfl
  have hle : (Lib.compact l).length ≤ l.length := by
    unfold Lib.compact Lib.compactUpTo
    rw [List.length_map]
    exact Nat.le_trans (List.length_filter_le _ _) (by simp)
  refine does_of hlt ?_
  have hc1 : ∀ (v : Value) (w' : World), v.oneCell' = true → C X w' (fun k => if k = 50001 then .arr v else σ k) (V.ms 50001).d v := fun v w' hv => by
    simp only [V.d, C]
    exact ⟨by simp, hv⟩
  have none_case : ∀ (p : Option Addr) cap, l = [] → u = .slice p 0 cap → Calls P f [u].toArray w fun e' w' => ∃ u X' σ', e' = .returned u ∧ C X' w' σ' (V.ms 50001).d u ∧ Ends X w σ (mkOt [.arr e (.int .i64)] (l, u0)).length X' w' σ' [.no, .arr e (.int .i64) (Lib.compact l)] := by
    intro p cap hl0 hu
    subst hl0 hu
    refine (h0 p cap w).mono ?_
    rintro _ _ ⟨rfl, rfl⟩
    refine ⟨_, X, _, rfl, hc1 _ _ rfl, ends_pass (row := none) hfin ?_ (by simp) (if_neg (by omega)) (fun b hb => ?_) ⟨rfl, rfl, rfl, Nat.le_refl _, fun _ _ _ => rfl⟩ (.inl rfl)⟩
    · obtain ⟨u1, xs, g1, g2⟩ := (hl.at_ 0 _ rfl).1
      rw [show σ (50000 + 0) = .arr (.slice p 0 cap) from h1] at g1
      injection g1 with g1
      subst g1
      exact ⟨_, xs, if_pos rfl, g2⟩
    · rw [h1]
      simpa using hb
  rcases h2.2 with ⟨q1, q2⟩ | ⟨g, cap, cur, rfl, q2, q3, q4, q5, q6, q7⟩
  · exact none_case none 0 (List.eq_nil_of_length_eq_zero q2) q1
  · by_cases hz : l = []
    · exact none_case _ _ hz (by subst hz; rfl)
    · have ht : cur.toList.take l.length = l.map (Value.int .i64) := by rw [Nat.mul_one] at q7; exact q7
      have hb : g < w.heap.size := (Array.getElem?_eq_some_iff.1 q3).1
      refine (hs g 0 cap l w (holds_of_blockI q3 ht) (by have := hok; omega) q4).mono ?_
      rintro _ _ ⟨rfl, q, rfl⟩
      have e1 : putRow (Value.int .i64) (Sort.ahead w q) g 0 (Lib.compact l ++ List.replicate (l.length - (Lib.compact l).length) 0).toArray = grow (putRow (Value.int .i64) (Sort.ahead w q) g 0 (Lib.compact l ++ List.replicate (l.length - (Lib.compact l).length) 0).toArray) #[] := (grow_empty _).symm
      rw [e1]
      have hg := grownBy_sortedI (w := w) (g := g) (n := q) (os := #[]) (Lib.compact l ++ List.replicate (l.length - (Lib.compact l).length) 0).toArray
      have q4' : l.length ≤ cap := q4
      have hbk : (σ 50000).blk = some g := by rw [h1]; rfl
      have hts : (Lib.compact l ++ List.replicate (l.length - (Lib.compact l).length) 0).length = l.length := by rw [List.length_append, List.length_replicate]; omega
      have hown := ownsRow_sortedI (n := q) (os := #[]) (ss := l) (ts := Lib.compact l ++ List.replicate (l.length - (Lib.compact l).length) 0) hts (Nat.zero_le g) q3 q4 q5 q6
      refine ⟨_, X, _, rfl, hc1 _ _ rfl, ends_pass (row := some g) hfin ?_ (by simp) (if_neg (by omega)) (fun b hb => ?_) hg (.inr hbk.symm)⟩
      · refine ⟨_, (Lib.compact l).map (Value.int .i64), if_pos rfl, OwnM.of (base := 0) ⟨by rw [List.length_map]; exact (Nat.mul_one _).symm, .inr ?_⟩, ints_cs2 _, fun x hx => ?_, fun b hb o => h3 b hb o⟩
        · rcases hown.2 with ⟨k1, _⟩ | ⟨g', cap', cur', k1, k2, k3, k4, k5, k6, k7⟩
          · cases k1
          · injection k1 with k1 k8 k9
            injection k1 with k1
            injection k1 with k1
            subst k1 k9
            refine ⟨g, cap, cur', rfl, k2, k3, by show (Lib.compact l).length ≤ cap; omega, k5, k6, ?_⟩
            show cur'.toList.take ((Lib.compact l).length * 1) = _
            have k7 : cur'.toList.take (l.length * 1) = _ := k7
            rw [Nat.mul_one] at k7 ⊢
            have := congrArg (List.take (Lib.compact l).length) k7
            rw [List.take_take, Nat.min_eq_left hle, List.map_append, List.take_append_of_le_length (by rw [List.length_map]; exact Nat.le_refl _)] at this
            exact this.trans (List.take_of_length_le (by rw [List.length_map]; exact Nat.le_refl _))
        · obtain ⟨z, _, rfl⟩ := List.mem_map.1 hx
          rfl
      · rw [hbk]
        simp only [if_true] at hb
        exact hb
end
end Go.Proofs.Ythdichlainehpaa.K
