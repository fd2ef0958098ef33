/-
  Regions whose order is open: what an operation turns, and the rule.
-/
import Derived.Test.YtnimpcffagidoaaK20
namespace Go.Proofs.Ytnimpcffagidoaa.K
open Go.RowKit
set_option linter.unusedSimpArgs false
set_option linter.unusedVariables false

mutual
theorem fz_refs {k : Nat} {y : Ty} {l : List y.T} : ∀ (v : V), ∀ r ∈ (v.fz k y l).refs, r ∈ v.refs
  | .ms j, r, h => by
    simp only [V.fz] at h
    split at h
    · cases h
    · exact h
  | .pa sz j i o, r, h => by
    simp only [V.fz] at h
    split at h
    · cases h
    · exact h
  | .ptr j o, r, h => by
    simp only [V.fz] at h
    split at h
    · cases h
    · exact h
  | .ag vs, r, h => by
    simp only [V.fz, V.refs] at h ⊢
    exact fzs_refs vs r h
  | .tu vs, r, h => by
    simp only [V.fz, V.refs] at h ⊢
    exact fzs_refs vs r h
  | .fn f vs, r, h => by
    simp only [V.fz, V.refs] at h ⊢
    exact fzs_refs vs r h
  | .ifc n x, r, h => by
    simp only [V.fz, V.refs] at h ⊢
    exact fz_refs x r h
  | .t y' x, r, h => h
  | .c x, r, h => h
  | .el y' x o, r, h => h
  | .ud, r, h => h
  | .un, r, h => h
theorem fzs_refs {k : Nat} {y : Ty} {l : List y.T} : ∀ (vs : List V), ∀ r ∈ V.refss (V.fzs k y l vs), r ∈ V.refss vs
  | [], r, h => h
  | v :: vs, r, h => by
    simp only [V.fzs, V.refss, List.mem_append] at h ⊢
    exact h.imp (fz_refs v r) (fzs_refs vs r)
end
theorem sfz_refs (S : VS) (k : Nat) : (∀ i, ∀ r ∈ ((S.fz k).ts i).refs, r ∈ (S.ts i).refs) ∧ (∀ i, ∀ r ∈ ((S.fz k).st i).refs, r ∈ (S.st i).refs) ∧ (S.fz k).dom = S.dom ∧ ∀ i, S.st i = .no → (S.fz k).st i = .no := by
  unfold VS.fz
  split
  · split
    · refine ⟨fun i r h => fz_refs _ r h, fun i r h => ?_, rfl, fun i h => ?_⟩
      · simp only at h
        split at h
        · cases h
        · cases ho : S.st i with
          | no => rw [ho] at h; exact h
          | box v => rw [ho] at h; exact fz_refs v r h
          | arr e y l => rw [ho] at h; exact h
      · simp only
        split
        · rfl
        · rw [h]; rfl
    · exact ⟨fun _ _ h => h, fun _ _ h => h, rfl, fun _ h => h⟩
  · exact ⟨fun _ _ h => h, fun _ _ h => h, rfl, fun _ h => h⟩
theorem sfzs_refs : ∀ (l : List Nat) (S : VS), (∀ i, ∀ r ∈ ((S.fzs l).ts i).refs, r ∈ (S.ts i).refs) ∧ (∀ i, ∀ r ∈ ((S.fzs l).st i).refs, r ∈ (S.st i).refs) ∧ (S.fzs l).dom = S.dom ∧ ∀ i, S.st i = .no → (S.fzs l).st i = .no
  | [], S => ⟨fun _ _ h => h, fun _ _ h => h, rfl, fun _ h => h⟩
  | k :: l, S => by
    obtain ⟨a1, a2, a3, a4⟩ := sfz_refs S k
    obtain ⟨b1, b2, b3, b4⟩ := sfzs_refs l (S.fz k)
    exact ⟨fun i r h => a1 i r (b1 i r h), fun i r h => a2 i r (b2 i r h), b3.trans a3, fun i h => b4 i (a4 i h)⟩
theorem frz_refs (g : G) (f : Nat) (S : VS) (vs : List V) : (∀ i, ∀ r ∈ ((frz g f S vs).ts i).refs, r ∈ (S.ts i).refs) ∧ (∀ i, ∀ r ∈ ((frz g f S vs).st i).refs, r ∈ (S.st i).refs) := by
  unfold frz
  split
  · exact ⟨fun _ _ h => h, fun _ _ h => h⟩
  · exact ⟨(sfzs_refs _ S).1, (sfzs_refs _ S).2.1⟩
theorem frz_eff {g : G} {f : Nat} {S : VS} {vs : List V} {ks : List Nat} (h : ∀ r ∈ V.msss vs, r ∈ ks) : Eff0 ks S (frz g f S vs) := by
  unfold frz
  split
  · exact Eff0.refl _ _
  · exact fzs_eff _ h
theorem vals_refs {S : VS} {l : List AX} {ks : List Nat} (hl : ∀ j ∈ l.flatMap AX.looks, ∀ r ∈ (S.ts j).refs, r ∈ ks) : ∀ r ∈ V.refss (vals S.ts l), r ∈ ks := by
  induction l with
  | nil => intro r h; cases h
  | cons x l ih =>
    intro r h
    simp only [vals, List.map_cons, V.refss, List.mem_append] at h
    rcases h with h | h
    · cases x with
      | t i => exact hl i (by simp [AX.looks]) r h
      | c d =>
        cases d with
        | v z => cases z <;> cases h
        | _ => cases h
    · exact ih (fun j hj => hl j (by simp only [List.flatMap_cons, List.mem_append]; exact .inr hj)) r h
theorem reach_sub {S : VS} {ks : List Nat} (hc : ∀ k ∈ ks, ∀ r ∈ (S.st k).refs, r ∈ ks) : ∀ (n : Nat) (l acc : List Nat), (∀ k ∈ l, k ∈ ks) → (∀ k ∈ acc, k ∈ ks) → ∀ k ∈ S.reach n l acc, k ∈ ks
  | 0, _, acc, _, ha => ha
  | _ + 1, [], acc, _, ha => ha
  | n + 1, k :: l, acc, hl, ha => by
    simp only [VS.reach]
    split
    · exact reach_sub hc n l acc (fun j hj => hl j (by simp [hj])) ha
    · refine reach_sub hc n _ _ (fun j hj => ?_) (fun j hj => ?_)
      · rcases List.mem_append.1 hj with hj | hj
        · exact hc k (hl k (by simp)) j hj
        · exact hl j (by simp [hj])
      · rcases List.mem_append.1 hj with hj | hj
        · exact ha j hj
        · simp only [List.mem_singleton] at hj
          subst hj
          exact hl j (by simp)
theorem callR_eff {β : Type} {F : List V → List VO → Option (Bool × V × List VO)} {S : VS} {vs : List V} {d : Nat} {K : VS → V → Option β} {x : β} {ks : List Nat} (h : callR F S vs d K = some x) (hd : ∀ i, i < 4 → d + 5000 * i ∈ ks) (hv : ∀ r ∈ V.refss vs, r ∈ ks) (hc : ∀ k ∈ ks, ∀ r ∈ (S.st k).refs, r ∈ ks) :
    ∃ v S', K S' v = some x ∧ Eff0 ks S S' := by
  have hsub := reach_sub hc 20 (V.refss vs) [] hv (fun k hk => by cases hk)
  unfold callR at h
  generalize S.reach 20 (V.refss vs) [] = js at h hsub
  split at h
  · split at h
    · rename_i q r os hF
      obtain ⟨rfl, h⟩ := br_none h
      split at h
      · rename_i hb
        split at h
        · rename_i S' hS'
          refine ⟨_, S', h, Eff0.trans (T := S.back js os (kr js (imps d (os.length - js.length)))) ⟨fun _ _ => rfl, fun k hk _ => ?_, fun _ h => h⟩ (allocs_eff _ hS' fun p hp => ?_)⟩
          · simp only [VS.back]
            rw [if_neg]
            intro hm
            exact hk (hsub k (by simpa using hm))
          · obtain ⟨p1, p2⟩ := p
            have h1 := (List.of_mem_zip hp).1
            simp only [imps, List.mem_map, List.mem_range] at h1
            obtain ⟨i, hi, rfl⟩ := h1
            simp only [backOk, Bool.and_eq_true, decide_eq_true_eq] at hb
            have h4 := hb.1.2
            simp only [imps, List.length_map, List.length_range] at h4
            exact hd i (by omega)
        · cases h
      · cases h
    · cases h
  · cases h
theorem mo_eff {β : Type} {TY : Nat → Option Ty} {own : Bool} {k : Nat} {S : VS} {K : VS → V → Option β} {mo : MO} {x : β} {ks : List Nat} (h : mo.run TY own k S K = some x) (hk : k ∈ ks) (hl : ∀ j ∈ mo.looks, ∀ r ∈ (S.ts j).refs, r ∈ ks) :
    ∃ v S', K S' v = some x ∧ Eff0 ks S S' := by
  have hxr : ∀ x : AX, (∀ j ∈ x.looks, j ∈ mo.looks) → ∀ r ∈ (x.xv S.ts).refs, r ∈ ks := by
    intro x hx r hr
    cases x with
    | t i => exact hl i (hx i (by simp [AX.looks])) r hr
    | c d =>
      cases d with
      | v z => cases z <;> cases hr
      | _ => cases hr
  cases mo with
  | pu ao =>
    simp only [MO.run] at h
    rw [ao_bind] at h
    obtain ⟨v, _, h2⟩ := Option.bind_eq_some_iff.1 h
    exact ⟨v, S, h2, Eff0.refl _ _⟩
  | new zs =>
    simp only [MO.run] at h
    split at h
    · split at h
      · rename_i hf
        exact ⟨_, _, h, alloc_eff hf hk⟩
      · cases h
    · cases h
  | box y =>
    simp only [MO.run] at h
    split at h
    · split at h
      · rename_i hf
        exact ⟨_, _, h, alloc_eff hf hk⟩
      · cases h
    · cases h
  | ld agg n y =>
    rw [ld_bind] at h
    obtain ⟨v, _, h2⟩ := Option.bind_eq_some_iff.1 h
    exact ⟨v, S, h2, Eff0.refl _ _⟩
  | st n y z =>
    simp only [MO.run] at h
    split at h
    · split at h
      · rename_i j o hy
        have hj : j ∈ ks := hxr y (fun i hi => by simp [MO.looks, hi]) j (by rw [hy]; simp [V.refs])
        split at h
        · split at h
          · exact ⟨_, _, h, setO_eff hj⟩
          · cases h
        · cases h
      · rename_i sz j i o hy
        have hj : j ∈ ks := hxr y (fun i hi => by simp [MO.looks, hi]) j (by rw [hy]; simp [V.refs])
        split at h
        · split at h
          · unfold stA at h
            obtain ⟨_, h⟩ := br_none h
            split at h
            · split at h
              · exact ⟨_, _, h, setO_eff hj⟩
              · cases h
            · cases h
          · cases h
        · cases h
      · cases h
    · cases h
  | bs e sz len init parts =>
    have hms : ∀ r ∈ partMs S.ts parts, r ∈ ks := by
      intro r hr
      simp only [partMs, List.mem_flatMap] at hr
      obtain ⟨p, hp1, hp2⟩ := hr
      exact hxr p.2.2 (fun j hj => List.mem_flatMap.2 ⟨p, hp1, hj⟩) r (mss_sub _ r hp2)
    simp only [MO.run] at h
    split at h
    · split at h
      · split at h
        · split at h
          · split at h
            · split at h
              · unfold bsA at h
                split at h
                · split at h
                  · rename_i hf
                    exact ⟨_, _, h, (fzs_eff _ hms).trans (alloc_eff hf hk)⟩
                  · cases h
                · exact ⟨_, _, h, fzs_eff _ hms⟩
              · cases h
            · cases h
          · cases h
        · cases h
      · cases h
    · cases h
  | app e sz bytes y z =>
    simp only [MO.run] at h
    split at h
    · split at h
      · split at h
        · split at h
          · obtain ⟨_, h⟩ := br_none h
            split at h
            · rename_i hf
              exact ⟨_, _, h, alloc_eff hf hk⟩
            · cases h
          · cases h
        · cases h
      · cases h
    · rename_i j hy
      have hj : j ∈ ks := hxr y (fun i hi => by simp [MO.looks, hi]) j (by rw [hy]; simp [V.refs])
      split at h
      · split at h
        · split at h
          · obtain ⟨_, h⟩ := br_none h
            split at h
            · rename_i hf
              exact ⟨_, _, h, (dim_eff hj).trans (alloc_eff hf hj)⟩
            · cases h
          · cases h
        · cases h
      · cases h
    · cases h
theorem putR_eff {β : Type} {n : Nat} {S S1 : VS} {d : Option Nat} {v : V} {K : VS → Option β} {x : β} {ks : List Nat} (h : putR n S1 d v K = some x) (he : Eff0 ks S S1) : ∃ S', K S' = some x ∧ Eff ks d S S' := by
  cases d with
  | none => exact ⟨S1, h, fun j _ hr => he.ts j hr, he.st, he.dom⟩
  | some d =>
    simp only [putR] at h
    split at h
    · refine ⟨_, h, fun j hj hr => ?_, he.st, he.dom⟩
      simp only [VS.set]
      rw [upd_ne _ _ (hj d rfl)]
      exact he.ts j hr
    · cases h
theorem refss_cells (v : V) : V.refss v.cells = v.refs := by rw [← V.refss_d, V.cells_ds, V.refs_dcells]
theorem mem_setFrom {α : Type} : ∀ (vs cs : List α) (o : Nat) (x : α), x ∈ setFrom cs o vs → x ∈ cs ∨ x ∈ vs
  | [], cs, o, x, h => .inl h
  | v :: vs, cs, o, x, h => by
    rw [setFrom] at h
    rcases mem_setFrom vs _ _ x h with h | h
    · rcases List.mem_or_eq_of_mem_set h with h | h
      · exact .inl h
      · exact .inr (by simp [h])
    · exact .inr (by simp [h])
theorem refss_setFrom {vs cs : List V} {o : Nat} : ∀ q ∈ V.refss (setFrom cs o vs), q ∈ V.refss cs ∨ q ∈ V.refss vs := by
  intro q hq
  simp only [V.refss_eq, List.mem_flatMap] at hq ⊢
  obtain ⟨x, h1, h2⟩ := hq
  rcases mem_setFrom _ _ _ _ h1 with h | h
  · exact .inl ⟨x, h, h2⟩
  · exact .inr ⟨x, h, h2⟩
theorem put_refs {c v z : V} {o n : Nat} (h : c.put o n v = some z) : ∀ q ∈ z.refs, q ∈ c.refs ∨ q ∈ v.refs := by
  have key : ∀ cs : List V, V.refss cs = c.refs → ∀ q ∈ (V.ag (setFrom cs o v.cells)).refs, q ∈ c.refs ∨ q ∈ v.refs := by
    intro cs hcs q hq
    simp only [V.refs] at hq
    rcases refss_setFrom q hq with h | h
    · exact .inl (hcs ▸ h)
    · exact .inr (refss_cells v ▸ h)
  unfold V.put at h
  split at h
  · split at h
    · injection h with h
      subst h
      exact fun q hq => .inr hq
    · split at h
      · split at h
        · injection h with h
          subst h
          intro q hq
          cases hq
        · injection h with h
          subst h
          exact key _ (refss_cells (.t _ _))
      · injection h with h
        subst h
        exact key _ (refss_cells _)
  · cases h
theorem xv_refs {S : VS} {x : AX} : ∀ q ∈ (x.xv S.ts).refs, ∃ i, x = .t i ∧ q ∈ (S.ts i).refs := by
  intro q hq
  cases x with
  | t i => exact ⟨i, rfl, hq⟩
  | c d =>
    cases d with
    | v z => cases z <;> cases hq
    | _ => cases hq
theorem st_eff {β : Type} {TY : Nat → Option Ty} {own : Bool} {k : Nat} {S : VS} {K : VS → V → Option β} {n : Nat} {x y : AX} {r : β} (h : MO.run TY own k S K (.st n x y) = some r) :
    ∃ j o, (∃ i, x = .t i ∧ j ∈ (S.ts i).refs) ∧ S.st j ≠ .no ∧ (∀ q ∈ o.refs, q ∈ (S.st j).refs ∨ ∃ i, y = .t i ∧ q ∈ (S.ts i).refs) ∧ K (S.setO j o) .un = some r := by
  simp only [MO.run] at h
  split at h
  · split at h
    · rename_i j off hx
      have hj := xv_refs (S := S) (x := x) j (by rw [hx]; simp [V.refs])
      split at h
      · rename_i c hc
        split at h
        · rename_i c' hp
          refine ⟨j, .box c', hj, by rw [hc]; simp, fun q hq => ?_, h⟩
          rcases put_refs hp q hq with h1 | h1
          · exact .inl (by rw [hc]; exact h1)
          · exact .inr (xv_refs q h1)
        · cases h
      · cases h
    · rename_i sz j i off hx
      have hj := xv_refs (S := S) (x := x) j (by rw [hx]; simp [V.refs])
      split at h
      · rename_i e t l hc
        split at h
        · unfold stA at h
          obtain ⟨_, h⟩ := br_none h
          split at h
          · split at h
            · exact ⟨j, .arr e t _, hj, by rw [hc]; simp, (fun q hq => by cases hq), h⟩
            · cases h
          · cases h
        · cases h
      · cases h
    · cases h
  · cases h
theorem rk_eff {β : Type} {g : G} {S : VS} {d : Option Nat} {K : VS → Option β} {k : RK} {x : β} {ks : List Nat} (h : k.run g S d K = some x) (hd : k.isSt = true ∨ ∀ i, i < 4 → d.getD 0 + 5000 * i ∈ ks) (hl : ∀ j ∈ k.looks, ∀ r ∈ (S.ts j).refs, r ∈ ks) (hc : ∀ k ∈ ks, ∀ r ∈ (S.st k).refs, r ∈ ks) :
    ∃ S', K S' = some x ∧ Eff ks d S S' := by
  cases hst : k.isSt with
  | true =>
    cases k with
    | m mo =>
      cases mo with
      | st n a b =>
        simp only [RK.run] at h
        obtain ⟨j, o, ⟨i, rfl, hj⟩, _, _, h1⟩ := st_eff h
        exact putR_eff h1 (setO_eff (hl i (by simp [RK.looks, MO.looks, AX.looks]) j hj))
      | _ => cases hst
    | _ => cases hst
  | false =>
  rw [hst] at hd
  have hd := hd.resolve_left (by simp)
  have hd0 : d.getD 0 ∈ ks := by simpa using hd 0 (by omega)
  have call : ∀ {f : Nat} {l : List AX} {caps : List V}, (∀ j ∈ l.flatMap AX.looks, ∀ r ∈ (S.ts j).refs, r ∈ ks) → (∀ r ∈ V.refss caps, r ∈ ks) → callA g f S (frz g f S (vals S.ts l)) (vals (frz g f S (vals S.ts l)).ts l ++ caps) d K = some x → ∃ S', K S' = some x ∧ Eff ks d S S' := by
    intro f l caps hl hcaps h
    unfold callA at h
    split at h
    · obtain ⟨r1, r2⟩ := frz_refs g f S (vals S.ts l)
      have hv : ∀ r ∈ V.refss (vals (frz g f S (vals S.ts l)).ts l ++ caps), r ∈ ks := by
        intro r hr
        rw [V.refss_eq, List.flatMap_append, ← V.refss_eq, ← V.refss_eq, List.mem_append] at hr
        rcases hr with hr | hr
        · exact vals_refs (S := frz g f S (vals S.ts l)) (fun j hj q hq => hl j hj q (r1 j q hq)) r hr
        · exact hcaps r hr
      obtain ⟨v, S', h1, h2⟩ := callR_eff h hd hv (fun k hk r hr => hc k hk r (r2 k r hr))
      exact putR_eff h1 ((frz_eff (vals_mss hl)).trans h2)
    · cases h
  cases k with
  | m mo =>
    simp only [RK.run] at h
    obtain ⟨v, S1, h1, h2⟩ := mo_eff h hd0 hl
    exact putR_eff h1 h2
  | call f l =>
    simp only [RK.run] at h
    exact call (caps := []) hl (fun r hr => by cases hr) (by rw [List.append_nil]; exact h)
  | cv y l =>
    have hl2 : ∀ j ∈ l.flatMap AX.looks, ∀ r ∈ (S.ts j).refs, r ∈ ks := fun j hj => hl j (by simp only [RK.looks, List.mem_append]; exact .inr hj)
    simp only [RK.run] at h
    split at h
    · exact call (caps := []) hl2 (fun r hr => by cases hr) (by rw [List.append_nil]; exact h)
    · rename_i f caps hy
      split at h
      · refine call hl2 (fun r hr => ?_) h
        cases y with
        | t i => exact hl i (by simp [RK.looks, AX.looks]) r (by simp only [AX.xv] at hy; rw [hy]; exact hr)
        | c d =>
          cases d with
          | v z => cases z <;> cases hy
          | _ => cases hy
      · cases h
    · cases h
  | mf f caps =>
    simp only [RK.run] at h
    split at h
    · exact putR_eff h (Eff0.refl _ _)
    · cases h
  | o op => cases h
  | bad => cases h
theorem ro_eff {β : Type} {g : G} {S : VS} {K : VS → Option β} {r : RO} {x : β} {ks : List Nat} (h : r.run g S K = some x) (hd : r.k.isSt = true ∨ ∀ i, i < 4 → r.dst.getD 0 + 5000 * i ∈ ks) (hl : ∀ j ∈ r.looks, ∀ x ∈ (S.ts j).refs, x ∈ ks) (hc : ∀ k ∈ ks, ∀ r ∈ (S.st k).refs, r ∈ ks) :
    ∃ S', K S' = some x ∧ Eff ks r.dst S S' := by
  have hlk : ∀ j ∈ r.k.looks, ∀ x ∈ (S.ts j).refs, x ∈ ks := fun j hj => hl j (List.mem_append_right _ hj)
  unfold RO.run at h
  split at h
  · exact rk_eff h hd hlk hc
  · split at h
    · split at h
      · rcases br_some h with ⟨_, h⟩ | ⟨_, h⟩
        · exact rk_eff h hd hlk hc
        · exact putR_eff h (Eff0.refl _ _)
      · rcases br_some h with ⟨_, h⟩ | ⟨_, h⟩
        · exact putR_eff h (Eff0.refl _ _)
        · exact rk_eff h hd hlk hc
    · exact putR_eff h (Eff0.refl _ _)
    · cases h
/-- what a step leaves: a quiet one sets a slot, another one turns what its keys say -/
theorem stepD_eff {β : Type} {g : G} {S : VS} {K : VS → Option β} {r : RO} {x : β} {ks : List Nat} (h : stepD g S K r ks = some x) :
    within S r.looks ks = true ∧ ((r.k.quick g.own r.dst ks = true ∧ ∃ v, r.q g S some = some v ∧ (∀ x ∈ v.refs, x ∈ ks) ∧ ∃ S', putR g.n S r.dst v some = some S' ∧ K S' = some x) ∨
      (r.k.quick g.own r.dst ks = false ∧ apartK S r.k.isSt r.dst ks = true ∧ ∃ S', K S' = some x ∧ Eff ks r.dst S S')) := by
  unfold stepD at h
  split at h
  · rename_i hw
    refine ⟨hw, ?_⟩
    split at h
    · rename_i hq
      left
      rw [roq_bind] at h
      obtain ⟨v, h1, h2⟩ := Option.bind_eq_some_iff.1 h
      split at h2
      · rename_i hr
        refine ⟨hq, v, h1, fun x hx => ?_, ?_⟩
        · have := List.all_eq_true.1 hr x hx
          simpa using this
        · cases hd : r.dst with
          | none => rw [hd] at h2; exact ⟨S, rfl, h2⟩
          | some d =>
            rw [hd] at h2
            simp only [putR] at h2 ⊢
            split at h2
            · rename_i hlt
              rw [if_pos hlt]
              exact ⟨_, rfl, h2⟩
            · cases h2
      · cases h2
    · rename_i hq
      right
      split at h
      · rename_i hap
        simp only [within, List.all_eq_true, Bool.and_eq_true, List.contains_iff_mem] at hw
        simp only [apartK, Bool.and_eq_true, List.all_eq_true, List.contains_iff_mem, List.mem_range, Bool.or_eq_true] at hap
        obtain ⟨⟨a1, a2⟩, a3⟩ := hap
        refine ⟨by simpa using hq, by simp only [apartK, Bool.and_eq_true, List.all_eq_true, List.contains_iff_mem, List.mem_range, Bool.or_eq_true]; exact ⟨⟨a1, a2⟩, a3⟩, ro_eff h a3 (fun j hj y hy => (hw j hj y hy).1) (fun k hk y hy => ?_)⟩
        rcases a2 k hk with hkd | hkd
        · have := a1 k hkd
          rw [if_pos hk] at this
          simp only [List.all_eq_true, List.contains_iff_mem] at this
          exact this y hy
        · cases ho : S.st k with
          | no => rw [ho] at hy; cases hy
          | box v => rw [ho] at hkd; cases hkd
          | arr e t l => rw [ho] at hy; cases hy
      · cases h
  · cases h
end Go.Proofs.Ytnimpcffagidoaa.K
