/-
  A call does what its contract says.
-/
import Derived.Test.YtnimpcffagidoaaK12
namespace Go.Proofs.Ytnimpcffagidoaa.K
open Go.RowKit
set_option linter.unusedSimpArgs false
set_option linter.unusedVariables false

section
variable {B : Base} {X X' : Nat → Nat → Prop} {w w' : World} {σ σ' : Pl} {n : Nat} {S : VS} {us : List Value} {P : Program}
theorem OAt.all {k b : Nat} {o : VO} (h : OAt X w σ k o) (hn : o ≠ .no) (hb : (σ k).blk = some b) : ∀ q, X b q := by
  cases o with
  | no => exact absurd rfl hn
  | box v =>
    obtain ⟨b', ty, vs, h1, h2, h3, h4⟩ := h
    rw [h1] at hb
    injection hb with hb
    subst hb
    exact h4
  | arr e y l =>
    obtain ⟨u, xs, h1, h2, h3, h4, h5⟩ := h
    rw [h1] at hb
    exact h5 b hb
theorem OAt.move {k k' : Nat} {o : VO} (h : OAt X w σ k o) (hk : σ' k' = σ k) (hr : o.refs = []) : OAt X w σ' k' o := by
  cases o with
  | no => trivial
  | box v =>
    obtain ⟨b, ty, vs, h1, h2, h3, h4⟩ := h
    refine ⟨b, ty, vs, hk.trans h1, h2, Cs.ext (Ext.refl X w) _ _ (fun r hr' => ?_) h3, h4⟩
    rw [V.refs_dcells] at hr'
    simp only [VO.refs] at hr
    rw [hr] at hr'
    cases hr'
  | arr e y l =>
    obtain ⟨u, xs, h1, h2⟩ := h
    exact ⟨u, xs, hk.trans h1, h2⟩
/-- a thing that a call handed out becomes an own one -/
theorem At.adopt (h : At B X w σ n S us) {k : Nat} {o : VO} {s : SC} (hf : S.free k = true) (hat : OAt X w (upd σ k s) k o) (hnew : ∀ b, s.blk = some b → B.w0.heap.size ≤ b ∧ ∀ j, S.st j ≠ .no → (σ j).blk ≠ some b) : At B X w (upd σ k s) n (S.alloc k o) us := by
  refine ⟨h.ti.step (Ext.refl X w) (.inr ⟨free_lt hf, fun j _ => free_spec h.dom hf j⟩) (fun _ _ _ _ _ => ⟨rfl, fun _ hq => hq⟩) hat (fun b _ hb => ⟨.inr (hnew b hb).1, fun j _ hj => (hnew b hb).2 j hj⟩) h.ti.fin h.ti.fr h.ti.old, h.rel.mask (Ext.refl X w) k s, fun j hj => ?_⟩
  simp only [VS.alloc] at hj ⊢
  by_cases hjk : j = k
  · exact hjk ▸ List.mem_cons_self
  · rw [upd_ne _ _ hjk] at hj
    exact List.mem_cons_of_mem _ (h.dom j hj)
theorem allocs_at : ∀ (l : List (Nat × VO)) {S S' : VS} {σ : Pl} (τ : Nat → SC), S.allocs l = some S' → At B X w σ n S us →
    (∀ i k o, l[i]? = some (k, o) → (∃ ρ j, OAt X w ρ j o ∧ ρ j = τ i) ∧ o ≠ .no ∧ ∀ b, (τ i).blk = some b → B.w0.heap.size ≤ b ∧ ∀ j, S.st j ≠ .no → (σ j).blk ≠ some b) →
    (∀ i j b, i ≠ j → i < l.length → j < l.length → (τ i).blk = some b → (τ j).blk ≠ some b) → (l.map Prod.fst).Nodup →
    ∃ σ1, At B X w σ1 n S' us ∧ (∀ k, k ∉ l.map Prod.fst → σ1 k = σ k) ∧ ∀ i k o, l[i]? = some (k, o) → σ1 k = τ i
  | [], S, S', σ, τ, h, ha, _, _, _ => by
    simp only [VS.allocs, Option.some.injEq] at h
    subst h
    exact ⟨σ, ha, fun _ _ => rfl, fun i k o hi => by simp at hi⟩
  | (k, o) :: r, S, S', σ, τ, h, ha, h1, h2, h3 => by
    simp only [VS.allocs] at h
    split at h
    · rename_i hc
      simp only [Bool.and_eq_true, List.isEmpty_iff] at hc
      obtain ⟨⟨ρ, j, g1, g2⟩, g3, g4⟩ := h1 0 k o rfl
      have ha1 := ha.adopt (k := k) (o := o) (s := τ 0) hc.1 (g1.move (by rw [upd_self, g2]) hc.2) g4
      simp only [List.map_cons, List.nodup_cons] at h3
      obtain ⟨σ1, q1, q2, q3⟩ := allocs_at r (fun i => τ (i + 1)) h ha1 (fun i k' o' hi => by
        obtain ⟨p1, p2, p3⟩ := h1 (i + 1) k' o' (by simpa using hi)
        refine ⟨p1, p2, fun b hb => ⟨(p3 b hb).1, fun j' hj' => ?_⟩⟩
        simp only [VS.alloc] at hj'
        by_cases hjk : j' = k
        · subst hjk
          rw [upd_self]
          have hi' := (List.getElem?_eq_some_iff.1 hi).1
          exact fun hb' => h2 0 (i + 1) b (by omega) (by simp) (by simpa using hi') hb' hb
        · rw [upd_ne _ _ hjk] at hj' ⊢
          exact (p3 b hb).2 j' hj') (fun i j' b hij hi hj => h2 (i + 1) (j' + 1) b (by omega) (by simpa using hi) (by simpa using hj)) h3.2
      refine ⟨σ1, q1, fun k' hk' => ?_, fun i k' o' hi => ?_⟩
      · simp only [List.map_cons, List.mem_cons, not_or] at hk'
        rw [q2 k' hk'.2, upd_ne _ _ hk'.1]
      · rcases i with _ | i
        · simp only [List.getElem?_cons_zero, Option.some.injEq, Prod.mk.injEq] at hi
          obtain ⟨rfl, rfl⟩ := hi
          rw [q2 k h3.1, upd_self]
        · exact q3 i k' o' (by simpa using hi)
    · cases h
theorem idxOf_nodup {l : List Nat} (h : l.Nodup) {i k : Nat} (hi : l[i]? = some k) : l.idxOf k = i := by
  obtain ⟨h1, h2⟩ := List.getElem?_eq_some_iff.1 hi
  have := h.idxOf_getElem i h1
  rwa [h2] at this
set_option maxHeartbeats 1000000 in
theorem call_sound {β : Type} {F : List V → List VO → Option (Bool × V × List VO)} {f : FuncId} {vs : List V} {d : Nat} {K : VS → V → Option β} {r : β}
    (hM : Meets P f fun args objs => match F args objs with | some (true, r, os) => some (r, os) | _ => none) (h : callR F S vs d K = some r) :
    ∃ v S', K S' v = some r ∧ ∀ {B : Base} {X : Nat → Nat → Prop} {w : World} {σ : Pl} {n : Nat} {us uvs : List Value}, At B X w σ n S us → Cs X w σ (V.ds vs) uvs →
      Calls P f uvs.toArray w fun e w' => ∃ u X' σ', e = .returned u ∧ C X' w' σ' v.d u ∧ At B X' w' σ' n S' us := by
  unfold callR at h
  generalize S.reach 20 (V.refss vs) [] = ks at h
  split at h
  · rename_i hl
    split at h
    · rename_i q rv os hF
      obtain ⟨rfl, h⟩ := br_none h
      split at h
      · rename_i hb
        generalize his : imps d (os.length - ks.length) = is at h hb
        split at h
        · rename_i S' hS'
          refine ⟨_, S', h, fun {B X w σ n us uvs} ha hc => ?_⟩
          simp only [VS.lends, Bool.and_eq_true, decide_eq_true_eq, List.all_eq_true, List.contains_iff_mem] at hl
          obtain ⟨l1, l2, l3⟩ := hl
          simp only [backOk, Bool.and_eq_true, decide_eq_true_eq, List.all_eq_true] at hb
          obtain ⟨⟨b1, _⟩, b2, b3⟩ := hb
          have live : ∀ k ∈ ks, S.st k ≠ .no := fun k hk hn => by have := (l3 k hk).1; rw [hn] at this; cases this
          let ρ : Pl := fun k => if 50000 ≤ k ∧ k - 50000 < ks.length then σ (ks.getD (k - 50000) 0) else .no
          have ρ1 : ∀ (i : Nat) k, ks[i]? = some k → ρ (50000 + i) = σ k := by
            intro i k hi
            have hlt := (List.getElem?_eq_some_iff.1 hi).1
            have : 50000 + i - 50000 = i := by omega
            simp only [ρ, this]
            rw [if_pos ⟨by omega, hlt⟩, List.getD_eq_getElem?_getD, hi]
            rfl
          have ρ2 : ∀ k ∈ ks, ρ (rk ks k) = σ k := by
            intro k hk
            obtain ⟨i, hi⟩ := List.mem_iff_getElem?.1 hk
            rw [rk, idxOf_nodup l1 hi]
            exact ρ1 i k hi
          have hlen : (ks.map fun k => (S.st k).ren (rk ks)).length = ks.length := List.length_map _
          have hlent : Lent X w ρ (ks.map fun k => (S.st k).ren (rk ks)) := by
            refine ⟨fun j o hj => ?_, fun i j b hij hi hj hb hb' => ?_⟩
            · simp only [List.getElem?_map, Option.map_eq_some_iff] at hj
              obtain ⟨k, hk, rfl⟩ := hj
              have hkm := List.mem_of_getElem? hk
              refine ⟨?_, ren_no (live k hkm)⟩
              have := ren_oat (σ' := ρ) (f := rk ks) (ha.ti.obj k) (ρ2 k hkm) (fun r hr => ρ2 r ((l3 k hkm).2 r hr))
              rw [rk, idxOf_nodup l1 hk] at this
              exact this
            · rw [hlen] at hi hj
              have hi' := List.getElem?_eq_getElem hi
              have hj' := List.getElem?_eq_getElem hj
              rw [ρ1 _ _ hi'] at hb
              rw [ρ1 _ _ hj'] at hb'
              refine ha.ti.apart ks[i] ks[j] b (fun he => hij ?_) (live _ (List.getElem_mem hi)) (live _ (List.getElem_mem hj)) hb hb'
              exact (List.getElem_inj l1).1 he
          refine (hM (V.rens (rk ks) vs) _ rv os (by simp only [hF]) X w ρ uvs ha.ti.fin hlent (ren_cs vs uvs (fun k hk => ρ2 k (l2 k hk)) hc)).mono ?_
          rintro e w' ⟨u, X', σ', rfl, hu, hE⟩
          rw [hlen] at hE
          have lB : ∀ b, b ∈ lentB ρ ks.length → ∃ k ∈ ks, (σ k).blk = some b := by
            intro b hb
            simp only [lentB, List.mem_filterMap, List.mem_range] at hb
            obtain ⟨j, hj, hb⟩ := hb
            rw [ρ1 j _ (List.getElem?_eq_getElem hj)] at hb
            exact ⟨_, List.getElem_mem hj, hb⟩
          have ex : Ext X w X' w' := by
            refine ⟨hE.fr.size, fun b q hb hx => ⟨fun hx' => hx ((hE.old b q hb).1 hx'), World.cell?_of_block (w := w) (a := ⟨b, q, none⟩) (hE.fr.keep b hb fun hm => ?_)⟩⟩
            obtain ⟨k, hk, hkb⟩ := lB b hm
            exact hx ((ha.ti.obj k).all (live k hk) hkb q)
          have g1 : ∀ (i : Nat) k, ks[i]? = some k → kr ks is (50000 + i) = k := by
            intro i k hi
            have hlt := (List.getElem?_eq_some_iff.1 hi).1
            rw [kr, show 50000 + i - 50000 = i from by omega, List.getD_eq_getElem?_getD, List.getElem?_append_left hlt, hi]
            rfl
          have g2 : ∀ (i : Nat) k, is[i]? = some k → kr ks is (50000 + ks.length + i) = k := by
            intro i k hi
            rw [kr, show 50000 + ks.length + i - 50000 = ks.length + i from by omega, List.getD_eq_getElem?_getD, List.getElem?_append_right (by omega), show ks.length + i - ks.length = i from by omega, hi]
            rfl
          have s1 : ∀ (i : Nat) k, ks[i]? = some k → σ' (50000 + i) = σ k := by
            intro i k hi
            rw [hE.same i (List.getElem?_eq_some_iff.1 hi).1, ρ1 i k hi]
          have hback : At B X' w' σ n (S.back ks os (kr ks is)) us := by
            have liveb : ∀ k, (S.back ks os (kr ks is)).st k ≠ .no → S.st k ≠ .no := by
              intro k hk
              simp only [VS.back] at hk
              split at hk
              · rename_i hc
                exact live k (by simpa using hc)
              · exact hk
            refine ⟨⟨hE.fin, fun k => ?_, fun i j b hij hi hj => ha.ti.apart i j b hij (liveb i hi) (liveb j hj), fun k b hk => ha.ti.own k b (liveb k hk), ha.ti.fr.step hE.fr (fun b hb => ?_), fun b q hb => ?_, ha.ti.lnt⟩, ha.rel.step ex fun i => .inl ⟨rfl, fun _ _ => rfl⟩, fun j hj => ha.dom j (liveb j hj)⟩
            · simp only [VS.back]
              split
              · rename_i hc
                have hkm : k ∈ ks := by simpa using hc
                obtain ⟨i, hi⟩ := List.mem_iff_getElem?.1 hkm
                have hlt := (List.getElem?_eq_some_iff.1 hi).1
                have hle := hE.le
                rw [idxOf_nodup l1 hi]
                have ho := List.getElem?_eq_getElem (l := os) (i := i) (by omega)
                rw [List.getD_eq_getElem?_getD, ho]
                simp only [Option.getD_some]
                obtain ⟨q1, q2⟩ := hE.lent.at_ i _ ho
                have := ren_oat (σ' := σ) (f := kr ks is) q1 (by rw [g1 i k hi, s1 i k hi]) (fun r hr => by
                  have hm : os[i] ∈ os.take ks.length := by
                    rw [List.mem_take_iff_getElem]
                    exact ⟨i, by omega, rfl⟩
                  obtain ⟨c1, c2⟩ := b3 _ hm r hr
                  obtain ⟨r', hr1⟩ : ∃ r', r = 50000 + r' := ⟨r - 50000, by omega⟩
                  have c3 : r' < ks.length := by omega
                  have hq := List.getElem?_eq_getElem c3
                  rw [hr1, g1 _ _ hq, s1 _ _ hq])
                rw [g1 i k hi] at this
                exact this
              · rename_i hc
                have hkm : k ∉ ks := by simpa using hc
                by_cases hn : S.st k = .no
                · rw [hn]; trivial
                · refine (ha.ti.obj k).ext ex rfl (fun _ _ => rfl) fun b hb => ?_
                  have hlt := (ha.ti.obj k).lt hn hb
                  refine ⟨hE.fr.keep b hlt fun hm => ?_, fun q hq => (hE.old b q hlt).2 hq⟩
                  obtain ⟨k', hk', hkb⟩ := lB b hm
                  exact ha.ti.apart k k' b (fun he => hkm (he ▸ hk')) hn (live k' hk') hb hkb
            · obtain ⟨k, hk, hkb⟩ := lB b hb
              rcases ha.ti.own k b (live k hk) hkb with q | q
              · exact .inl q.2
              · exact .inr q
            · exact (hE.old b q (Nat.lt_of_lt_of_le hb ha.ti.fr.size)).trans (ha.ti.old b q hb)
          have hisl : is.length = os.length - ks.length := by rw [← his]; simp [imps]
          have hle := hE.le
          have hzl : (is.zip (os.drop ks.length)).length = os.length - ks.length := by simp [hisl]
          have hz : ∀ (i k : Nat) o, (is.zip (os.drop ks.length))[i]? = some (k, o) → is[i]? = some k ∧ os[ks.length + i]? = some o := by
            intro i k o hi
            rw [List.getElem?_zip_eq_some] at hi
            exact ⟨hi.1, by rw [← List.getElem?_drop]; exact hi.2⟩
          have hfst : (is.zip (os.drop ks.length)).map Prod.fst = is := by
            rw [List.map_fst_zip]
            simp [hisl]
          have hnd := List.nodup_append.1 b1
          obtain ⟨σ1, a1, a2, a3⟩ := allocs_at (is.zip (os.drop ks.length)) (fun i => σ' (50000 + ks.length + i)) hS' hback (fun i k o hi => by
            obtain ⟨z1, z2⟩ := hz i k o hi
            obtain ⟨y1, y2⟩ := hE.lent.at_ _ o z2
            refine ⟨⟨σ', _, y1, by rw [Nat.add_assoc]⟩, y2, fun b hb => ?_⟩
            have hlt := (List.getElem?_eq_some_iff.1 z2).1
            have hge := hE.new (ks.length + i) b (by omega) hlt (by rw [← Nat.add_assoc]; exact hb)
            refine ⟨Nat.le_trans ha.ti.fr.size hge, fun j hj hjb => ?_⟩
            have hj' : S.st j ≠ .no := by
              simp only [VS.back] at hj
              split at hj
              · rename_i hc
                exact live j (by simpa using hc)
              · exact hj
            have := (ha.ti.obj j).lt hj' hjb
            omega) (fun i j b hij hi hj => by
            rw [hzl] at hi hj
            have := hE.lent.apart (ks.length + i) (ks.length + j) b (by omega) (by omega) (by omega)
            simpa only [Nat.add_assoc] using this) (by rw [hfst]; exact hnd.2.1)
          refine ⟨u, X', σ1, rfl, ren_c rv u (fun j hj => ?_) hu, a1⟩
          obtain ⟨c1, c2⟩ := by simpa using b2 j hj
          obtain ⟨i, hi⟩ : ∃ i, j = 50000 + i := ⟨j - 50000, by omega⟩
          have c3 : i < ks.length + is.length := by omega
          rw [hi]
          rcases Nat.lt_or_ge i ks.length with hlt | hge
          · have hq := List.getElem?_eq_getElem hlt
            rw [g1 _ _ hq, s1 _ _ hq]
            refine a2 _ ?_
            rw [hfst]
            exact fun hm => hnd.2.2 _ (List.getElem_mem hlt) _ hm rfl
          · obtain ⟨i', hi'⟩ : ∃ i', i = ks.length + i' := ⟨i - ks.length, by omega⟩
            have hlt : i' < is.length := by omega
            have hol : ks.length + i' < os.length := by omega
            obtain ⟨k1, hq⟩ : ∃ k1, is[i']? = some k1 := ⟨_, List.getElem?_eq_getElem hlt⟩
            obtain ⟨o, ho⟩ : ∃ o, os[ks.length + i']? = some o := ⟨_, List.getElem?_eq_getElem hol⟩
            have hzz : (is.zip (os.drop ks.length))[i']? = some (k1, o) := by
              rw [List.getElem?_zip_eq_some]
              exact ⟨hq, by rw [List.getElem?_drop]; exact ho⟩
            have := a3 _ _ _ hzz
            rw [hi', ← Nat.add_assoc, g2 _ _ hq, this]
        · cases h
      · cases h
    · cases h
  · cases h
end
end Go.Proofs.Ytnimpcffagidoaa.K
