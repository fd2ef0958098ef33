/-
  Regions whose order is open: the rule.
-/
import Derived.Test.YtnimpcffagidoaaK19
namespace Go.Proofs.Ytnimpcffagidoaa.K
open Go.RowKit
set_option linter.unusedSimpArgs false
set_option linter.unusedVariables false

section
variable {β : Type} {S : VS} {q : Nat} {v : V}
theorem xv_ss {x : AX} (h : q ∉ x.looks) : x.xv (S.ss q v).ts = x.xv S.ts := xv_like (ss_like h)
/-- an operation on own things does not see a slot that it does not look at -/
theorem mo_ss {TY : Nat → Option Ty} {own : Bool} {k : Nat} {K : VS → V → Option β} {mo : MO} {ks : List Nat} (hq : q ∉ mo.looks) (hv : ∀ r ∈ v.refs, r ∈ ks → 50000 ≤ r) (hk : k ∈ ks) (hl : ∀ j ∈ mo.looks, ∀ r ∈ (S.ts j).refs, r ∈ ks) :
    mo.run TY own k (S.ss q v) K = mo.run TY own k S fun S' u => K (S'.ss q v) u := by
  have hnk : S.free k = true → k ∉ v.refs := fun hf h => by have := hv k h hk; have := free_lt5 hf; omega
  have hxr : ∀ x : AX, (∀ j ∈ x.looks, j ∈ mo.looks) → ∀ r ∈ (x.xv S.ts).refs, r ∈ ks := by
    intro x hx r hr
    cases x with
    | t i => exact hl i (hx i (by simp [AX.looks])) r hr
    | c d =>
      cases d with
      | v z => cases z <;> cases hr
      | _ => cases hr
  cases mo with
  | pu ao =>
    simp only [MO.run]
    exact ao_like (ss_like hq)
  | new zs =>
    simp only [MO.run, ss_free]
    split
    · split
      · rename_i hf
        rw [ss_alloc (hnk hf)]
      · rfl
    · rfl
  | box x =>
    have hx : q ∉ x.looks := hq
    simp only [MO.run, xv_ss hx, ss_free]
    split
    · split
      · rename_i hf
        rw [ss_alloc (hnk hf)]
      · rfl
    · rfl
  | ld agg n x =>
    have hx : q ∉ x.looks := hq
    simp only [MO.run, xv_ss hx]
    rfl
  | st n x y =>
    simp only [MO.looks, List.mem_append, not_or] at hq
    simp only [MO.run, xv_ss hq.1, xv_ss hq.2]
    rfl
  | bs e sz len init parts =>
    have hx : q ∉ parts.flatMap fun p => p.2.2.looks := hq
    have hp : partMs (S.ss q v).ts parts = partMs S.ts parts := part_like (ss_like hx)
    have hms : ∀ r ∈ partMs S.ts parts, r ∈ v.refs → 50000 ≤ r := by
      intro r hr hrv
      simp only [partMs, List.mem_flatMap] at hr
      obtain ⟨p, hp1, hp2⟩ := hr
      have hsub : ∀ u : V, ∀ r ∈ u.mss, r ∈ u.refs := by
        intro u
        refine V.rec (motive_1 := fun u => ∀ r ∈ u.mss, r ∈ u.refs) (motive_2 := fun us => ∀ r ∈ V.msss us, r ∈ V.refss us) ?_ ?_ ?_ ?_ ?_ ?_ ?_ ?_ ?_ ?_ ?_ ?_ ?_ ?_ u
        · intro _ _ r h; cases h
        · intro _ r h; cases h
        · intro _ _ r h; cases h
        · intro _ _ _ _ r h; cases h
        · intro _ _ _ r h; cases h
        · intro _ r h; exact h
        · intro _ ih r h; exact ih r h
        · intro _ ih r h; exact ih r h
        · intro _ _ ih r h; exact ih r h
        · intro _ _ ih r h; exact ih r h
        · intro r h; cases h
        · intro r h; cases h
        · intro r h; cases h
        · intro a b i1 i2 r h
          simp only [V.msss, V.refss, List.mem_append] at h ⊢
          exact h.imp (i1 r) (i2 r)
      have := hxr p.2.2 (fun j hj => List.mem_flatMap.2 ⟨p, hp1, hj⟩) r (hsub _ r hp2)
      exact hv r hrv this
    simp only [MO.run, hp]
    rw [ss_fzs _ hms]
    have hf : ∀ cells, fillV ((S.fzs (partMs S.ts parts)).ss q v).ts cells parts = fillV (S.fzs (partMs S.ts parts)).ts cells parts := fun cells => fill_like (ss_like hx)
    simp only [hf]
    split
    · split
      · split
        · split
          · split
            · split
              · unfold bsA
                simp only [ss_free]
                split
                · split
                  · rename_i hf
                    rw [ss_alloc fun h => by have := hv k h hk; have := free_lt5 hf; omega]
                  · rfl
                · rfl
              · rfl
            · rfl
          · rfl
        · rfl
      · rfl
    · rfl
  | app e sz bytes x y =>
    simp only [MO.looks, List.mem_append, not_or] at hq
    simp only [MO.run, xv_ss hq.1, xv_ss hq.2, ss_src]
    split
    · split
      · split
        · split
          · unfold appA
            simp only [ss_free]
            congr 1
            split
            · rename_i hf
              rw [ss_alloc (hnk hf)]
            · rfl
          · rfl
        · rfl
      · rfl
    · rename_i j hj
      have hjv : (S.dim j).free j = true → j ∉ v.refs := fun hf h => by
        have h1 := free_lt5 hf
        have h2 := hv j h (hxr x (fun i hi => by simp [MO.looks, hi]) j (by rw [hj]; simp [V.refs]))
        omega
      have hst : (S.ss q v).st j = S.st j := id rfl
      simp only [hst]
      split
      · split
        · split
          · unfold appA
            have hdim : (S.ss q v).dim j = (S.dim j).ss q v := rfl
            simp only [hdim, ss_free]
            congr 1
            split
            · rename_i hf
              rw [ss_alloc (hjv hf)]
            · rfl
          · rfl
        · rfl
      · rfl
    · rfl
theorem callR_ss {F : List V → List VO → Option (Bool × V × List VO)} {vs : List V} {d : Nat} {K : VS → V → Option β} {ks : List Nat} (hv : ∀ r ∈ v.refs, r ∈ ks → 50000 ≤ r) (hd : ∀ i, i < 4 → d + 5000 * i ∈ ks) :
    callR F (S.ss q v) vs d K = callR F S vs d fun S' u => K (S'.ss q v) u := by
  have hl : ∀ l, (S.ss q v).lends vs l = S.lends vs l := fun l => id rfl
  have hst : ∀ k, (S.ss q v).st k = S.st k := fun k => id rfl
  unfold callR
  simp only [ss_reach, hl, hst, ss_back]
  split
  · split
    · rename_i q' r os hF
      congr 1
      split
      · rename_i hb
        rw [ss_allocs _ (fun p hp hpv => ?_)]
        · cases VS.allocs _ _ <;> rfl
        · obtain ⟨p1, p2⟩ := p
          have h1 := (List.of_mem_zip hp).1
          simp only [imps, List.mem_map, List.mem_range] at h1
          obtain ⟨i, hi, rfl⟩ := h1
          simp only [backOk, Bool.and_eq_true, decide_eq_true_eq] at hb
          have h4 := hb.1.2
          simp only [imps, List.length_map, List.length_range] at h4
          exact hv _ hpv (hd i (by omega))
      · rfl
    · rfl
  · rfl
theorem mss_sub : ∀ u : V, ∀ r ∈ u.mss, r ∈ u.refs := by
  intro u
  refine V.rec (motive_1 := fun u => ∀ r ∈ u.mss, r ∈ u.refs) (motive_2 := fun us => ∀ r ∈ V.msss us, r ∈ V.refss us) ?_ ?_ ?_ ?_ ?_ ?_ ?_ ?_ ?_ ?_ ?_ ?_ ?_ ?_ u
  · intro _ _ r h; cases h
  · intro _ r h; cases h
  · intro _ _ r h; cases h
  · intro _ _ _ _ r h; cases h
  · intro _ _ _ r h; cases h
  · intro _ r h; exact h
  · intro _ ih r h; exact ih r h
  · intro _ ih r h; exact ih r h
  · intro _ _ ih r h; exact ih r h
  · intro _ _ ih r h; exact ih r h
  · intro r h; cases h
  · intro r h; cases h
  · intro r h; cases h
  · intro a b i1 i2 r h
    simp only [V.msss, V.refss, List.mem_append] at h ⊢
    exact h.imp (i1 r) (i2 r)
theorem vals_mss {S : VS} {l : List AX} {ks : List Nat} (hl : ∀ j ∈ l.flatMap AX.looks, ∀ r ∈ (S.ts j).refs, r ∈ ks) : ∀ r ∈ V.msss (vals S.ts l), r ∈ ks := by
  induction l with
  | nil => intro r h; cases h
  | cons x l ih =>
    intro r h
    simp only [vals, List.map_cons, V.msss, List.mem_append] at h
    rcases h with h | h
    · have hr := mss_sub _ r h
      cases x with
      | t i => exact hl i (by simp [AX.looks]) r hr
      | c d =>
        cases d with
        | v z => cases z <;> cases hr
        | _ => cases hr
    · exact ih (fun j hj => hl j (by simp only [List.flatMap_cons, List.mem_append]; exact .inr hj)) r h
theorem frz_ss {g : G} {f : Nat} {vs : List V} {ks : List Nat} (hv : ∀ r ∈ v.refs, r ∈ ks → 50000 ≤ r) (h : ∀ r ∈ V.msss vs, r ∈ ks) : frz g f (S.ss q v) vs = (frz g f S vs).ss q v := by
  unfold frz
  split
  · rfl
  · exact ss_fzs _ fun k hk hkv => hv k hkv (h k hk)
/-- an operation does not see a slot that it does not look at -/
theorem rk_ss {g : G} {d : Option Nat} {K : VS → Option β} {k : RK} {ks : List Nat} (hq : q ∉ k.looks) (hdq : d ≠ some q) (hv : ∀ r ∈ v.refs, r ∈ ks → 50000 ≤ r) (hd : k.isSt = true ∨ ∀ i, i < 4 → d.getD 0 + 5000 * i ∈ ks) (hl : ∀ j ∈ k.looks, ∀ r ∈ (S.ts j).refs, r ∈ ks) :
    k.run g (S.ss q v) d K = k.run g S d fun S' => K (S'.ss q v) := by
  cases hst : k.isSt with
  | true =>
    cases k with
    | m mo =>
      cases mo with
      | st n x y =>
        have hq' : q ∉ x.looks ++ y.looks := hq
        simp only [List.mem_append, not_or] at hq'
        simp only [RK.run, MO.run, xv_ss hq'.1, xv_ss hq'.2]
        have e : ∀ S' u, putR g.n (S'.ss q v) d u K = putR g.n S' d u fun S' => K (S'.ss q v) := fun S' u => ss_putR hdq
        simp only [← e]
        rfl
      | _ => cases hst
    | _ => cases hst
  | false =>
  rw [hst] at hd
  have hd := hd.resolve_left (by simp)
  have hd0 : d.getD 0 ∈ ks := by simpa using hd 0 (by omega)
  cases k with
  | m mo =>
    simp only [RK.run]
    rw [mo_ss hq hv hd0 hl]
    congr 1
    funext S' u
    exact ss_putR hdq
  | call f l =>
    have hq' : q ∉ l.flatMap AX.looks := hq
    have e1 : vals (S.ss q v).ts l = vals S.ts l := vals_like (ss_like hq')
    simp only [RK.run, e1, callA, frz_ss hv (vals_mss hl)]
    have e2 : vals ((frz g f S (vals S.ts l)).ss q v).ts l = vals (frz g f S (vals S.ts l)).ts l := vals_like (ss_like hq')
    simp only [e2]
    split
    · rw [callR_ss hv hd]
      congr 1
      funext S' u
      exact ss_putR hdq
    · rfl
  | cv x l =>
    simp only [RK.looks, List.mem_append, not_or] at hq
    have hl2 : ∀ j ∈ l.flatMap AX.looks, ∀ r ∈ (S.ts j).refs, r ∈ ks := fun j hj => hl j (by simp only [RK.looks, List.mem_append]; exact .inr hj)
    have e0 : x.xv (S.ss q v).ts = x.xv S.ts := xv_ss hq.1
    have e1 : vals (S.ss q v).ts l = vals S.ts l := vals_like (ss_like hq.2)
    simp only [RK.run, e0, e1]
    split
    · rename_i f _
      simp only [callA, frz_ss hv (vals_mss hl2)]
      have e2 : vals ((frz g f S (vals S.ts l)).ss q v).ts l = vals (frz g f S (vals S.ts l)).ts l := vals_like (ss_like hq.2)
      simp only [e2]
      split
      · rw [callR_ss hv hd]
        congr 1
        funext S' u
        exact ss_putR hdq
      · rfl
    · rename_i f caps _
      split
      · simp only [callA, frz_ss hv (vals_mss hl2)]
        have e2 : vals ((frz g f S (vals S.ts l)).ss q v).ts l = vals (frz g f S (vals S.ts l)).ts l := vals_like (ss_like hq.2)
        simp only [e2]
        split
        · rw [callR_ss hv hd]
          congr 1
          funext S' u
          exact ss_putR hdq
        · rfl
      · rfl
    · rfl
  | mf f caps =>
    have e1 : vals (S.ss q v).ts caps = vals S.ts caps := vals_like (ss_like hq)
    simp only [RK.run, e1]
    split
    · exact ss_putR hdq
    · rfl
  | o op => rfl
  | bad => rfl
theorem ro_ss {g : G} {K : VS → Option β} {r : RO} {ks : List Nat} (hq : q ∉ r.looks) (hdq : r.dst ≠ some q) (hv : ∀ x ∈ v.refs, x ∈ ks → 50000 ≤ x) (hd : r.k.isSt = true ∨ ∀ i, i < 4 → r.dst.getD 0 + 5000 * i ∈ ks) (hl : ∀ j ∈ r.looks, ∀ x ∈ (S.ts j).refs, x ∈ ks) :
    r.run g (S.ss q v) K = r.run g S fun S' => K (S'.ss q v) := by
  have hqk : q ∉ r.k.looks := fun h => hq (List.mem_append_right _ h)
  have hlk : ∀ j ∈ r.k.looks, ∀ x ∈ (S.ts j).refs, x ∈ ks := fun j hj => hl j (List.mem_append_right _ hj)
  unfold RO.run
  split
  · exact rk_ss hqk hdq hv hd hlk
  · rename_i s b hg
    have hs : (S.ss q v).ts s = S.ts s := upd_ne _ _ fun e => hq (by simp [RO.looks, hg, e])
    rw [hs]
    split
    · split <;> rw [rk_ss hqk hdq hv hd hlk, ss_putR hdq]
    · exact ss_putR hdq
    · rfl
end
end Go.Proofs.Ytnimpcffagidoaa.K
