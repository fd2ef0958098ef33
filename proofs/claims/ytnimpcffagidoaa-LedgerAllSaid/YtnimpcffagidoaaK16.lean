/-
  Statements, loops and functions of typed values do what the program's do.
-/
import Derived.Test.YtnimpcffagidoaaK15
namespace Go.Proofs.Ytnimpcffagidoaa.K
open Go.RowKit
set_option linter.unusedSimpArgs false
set_option linter.unusedVariables false

section
variable {P : Program}
/-- a loop whose invariant carries its own measure -/
theorem wp_loop_by {c : Code} {Q : Exit → Act → World → Prop} (I : Nat → Act → World → Prop) (round : ∀ n a w, I n a w → c.wp P (Exit.then (fun a' w' => ∃ m, m < n ∧ I m a' w') Q) a w) :
    ∀ n a w, I n a w → (Code.loop c).wp P Q a w := by
  intro n0 a0 w0 h0 b k cs
  have key : ∀ n a w, I n a w → ∃ e a' w', Q e a' w' ∧ Arrives P (lone (b.at a (.code c :: .inLoop c :: k)) cs w) b k cs e a' w' := by
    intro n
    induction n using Nat.strongRecOn with
    | _ n ih =>
      intro a w hI
      obtain ⟨e, a1, w1, hq, harr⟩ := round n a w hI b (.inLoop c :: k) cs
      cases e with
      | normal =>
        obtain ⟨m, hm, hI1⟩ := hq
        obtain ⟨e2, a2, w2, hq2, harr2⟩ := ih m hm a1 w1 hI1
        exact ⟨e2, a2, w2, hq2, .of_steps (Steps.trans harr (.one step_inLoop)) harr2⟩
      | exit id => exact ⟨_, a1, w1, hq, .pass (x := .inLoop c) rfl (fun _ _ => .inl (by simp)) harr⟩
      | goto l => exact ⟨_, a1, w1, hq, .pass (x := .inLoop c) rfl (fun _ _ => .inl (by simp)) harr⟩
      | ret => exact ⟨_, a1, w1, hq, .pass (x := .inLoop c) rfl (fun _ _ => .inl (by simp)) harr⟩
      | panic ch => exact ⟨_, a1, w1, hq, .pass (x := .inLoop c) rfl (fun _ _ => .inl (by simp)) harr⟩
      | outgrown => exact ⟨_, a1, w1, hq, .pass (x := .inLoop c) rfl (fun _ _ => .inl (by simp)) harr⟩
  obtain ⟨e, a', w', hq, harr⟩ := key n0 a0 w0 h0
  exact ⟨e, a', w', hq, .of_steps (.one step_loop) harr⟩

end
def lift (B : Base) (n : Nat) (Q : Exit → VS → Prop) : Exit → Act → World → Prop := fun e a w => ∃ S X σ us, At B X w σ n S us ∧ a = ⟨us.toArray, []⟩ ∧ Q e S
def JV (P : Program) (B : Base) (n : Nat) (Q : Exit → VS → Prop) (ac : AC) (S : VS) : Prop :=
  ∀ c, trC P c = ac → ∀ X w σ us, At B X w σ n S us → c.wp P (lift B n Q) ⟨us.toArray, []⟩ w

section
variable {P : Program} {B : Base} {X X' : Nat → Nat → Prop} {w w' : World} {σ σ' : Pl} {n : Nat} {S : VS} {us : List Value} {Q Q' : Exit → VS → Prop}
theorem jv_mono {ac : AC} (h : JV P B n Q ac S) (hq : ∀ e S, Q e S → Q' e S) : JV P B n Q' ac S :=
  fun c hc X w σ us ha => wp_mono (h c hc X w σ us ha) fun e a w' ⟨S', X', σ', us', h1, h2, h3⟩ => ⟨S', X', σ', us', h1, h2, hq _ _ h3⟩
theorem nrmV_c {t : Option Ty} {v : V} {u : Value} (h : C X w σ v.d u) : C X w σ (nrmV t v).d u := by
  cases t with
  | none => exact h
  | some y =>
    simp only [nrmV]
    split
    · rename_i x hx
      exact C.up _ _ (V.as_spec hx h)
    · exact h
theorem as_row {b : Ty} {c : V} {d : b.T} (hb : b.row = true) (h : c.as b = some d) : c.row = true := by
  cases c with
  | t y x =>
    simp only [V.as] at h
    split at h
    · rename_i hy
      simp only [V.row, hy, hb]
    · split at h
      · rename_i hr
        simp only [Bool.and_eq_true] at hr
        exact hr.1
      · cases h
  | ag vs => rfl
  | _ =>
    simp only [V.as, hb, if_true] at h
    cases h
theorem as_box {b : Ty} {c : V} {d : b.T} {k : Nat} (hb : b.row = true) (h : c.as b = some d) (hat : OAt X w σ k (.box c)) : OAt X w σ k (.box (.t b d)) := by
  obtain ⟨bl, ty, vs, h1, h2, h3, h4⟩ := hat
  refine ⟨bl, ty, vs, h1, h2, ?_, h4⟩
  have hc : C X w σ c.d (.agg vs.toArray) := by
    rw [V.d_row _ (as_row hb h)]
    simp only [C]
    exact ⟨vs, rfl, h3⟩
  have := Ty.cs_cells (V.as_spec h hc)
  simp only [V.d, Ty.d_cells]
  exact Cs.up _ _ (by simpa [Value.cells] using this)
theorem nrmO_at {t : Option Ty} {k : Nat} {o : VO} (h : OAt X w σ k o) : OAt X w σ k (nrmO t o) := by
  unfold nrmO
  split
  · rename_i y v
    split
    · rename_i hr
      simp only [nrmV]
      split
      · rename_i x hx
        exact as_box hr hx h
      · exact h
    · exact h
  · exact h
theorem nrmO_no {t : Option Ty} {o : VO} (h : nrmO t o ≠ .no) : o ≠ .no := by
  rintro rfl
  exact h (by cases t <;> rfl)
theorem look_or (f : Nat → V) : ∀ (l : List (Nat × Option Ty)) (i : Nat), (∃ t, look (l.map fun p => (p.1, nrmV p.2 (f p.1))) i = nrmV t (f i)) ∨ look (l.map fun p => (p.1, nrmV p.2 (f p.1))) i = .un
  | [], i => .inr rfl
  | p :: l, i => by
    simp only [List.map_cons, look]
    split
    · rename_i h; rw [h]; exact .inl ⟨_, rfl⟩
    · exact look_or f l i
theorem lookO_or (f : Nat → VO) : ∀ (l : List (Nat × Option Ty)) (i : Nat), (i ∈ l.map Prod.fst ∧ ∃ t, lookO (l.map fun p => (p.1, nrmO p.2 (f p.1))) i = nrmO t (f i)) ∨ lookO (l.map fun p => (p.1, nrmO p.2 (f p.1))) i = .no
  | [], i => .inr rfl
  | p :: l, i => by
    simp only [List.map_cons, lookO]
    split
    · rename_i h; rw [h]; exact .inl ⟨by simp, _, rfl⟩
    · rename_i h
      rcases lookO_or f l i with ⟨h1, h2⟩ | h2
      · exact .inl ⟨List.mem_cons_of_mem _ h1, h2⟩
      · exact .inr h2
theorem At.fgt (h : At B X w σ n S us) (f : Fg) : At B X w σ n (fgt f S) us := by
  have hst : ∀ k, (∃ t, (K.fgt f S).st k = nrmO t (S.st k)) ∨ (K.fgt f S).st k = .no := fun k => (lookO_or S.st f.os k).imp And.right id
  have hlive : ∀ k, (K.fgt f S).st k ≠ .no → S.st k ≠ .no := fun k hk => by
    rcases hst k with ⟨t, h1⟩ | h1
    · exact nrmO_no (by rw [← h1]; exact hk)
    · exact absurd h1 hk
  refine ⟨⟨h.ti.fin, fun k => ?_, fun i j b hij hi hj => h.ti.apart i j b hij (hlive i hi) (hlive j hj), fun k b hk => h.ti.own k b (hlive k hk), h.ti.fr, h.ti.old, h.ti.lnt⟩, ⟨h.rel.len, fun i u hu => ?_, fun i hi => ?_⟩, fun j hj => ?_⟩
  · rcases hst k with ⟨t, h1⟩ | h1
    · rw [h1]; exact nrmO_at (h.ti.obj k)
    · rw [h1]; trivial
  · rcases look_or S.ts f.ks i with ⟨t, h1⟩ | h1
    · have h2 : (K.fgt f S).ts i = nrmV t (S.ts i) := h1
      rw [h2]; exact nrmV_c (h.rel.at_ i u hu)
    · have h2 : (K.fgt f S).ts i = .un := h1
      rw [h2]; exact C.any_ u
  · rcases look_or S.ts f.ks i with ⟨t, h1⟩ | h1
    · have h2 : (K.fgt f S).ts i = nrmV t (S.ts i) := h1
      rw [h2, h.rel.out i hi]
      cases t with
      | none => rfl
      | some y =>
        have hn : V.as y .un = none := by
          simp only [V.as]
          split <;> rfl
        simp only [nrmV, hn]
    · exact h1
  · rcases lookO_or S.st f.os j with ⟨h1, _⟩ | h2
    · exact h1
    · exact absurd h2 hj
theorem nil_at (h : At B X w σ n S us) {k e : Nat} {y : Ty} (hf : S.free k = true) : At B X w (upd σ k (.arr (.slice none 0 0))) n (S.alloc k (.arr e y [])) us :=
  h.adopt hf ⟨_, [], upd_self _ _ _, World.ownsRow_nil w 0 e y.sz, by simp [Cs], (fun x hx => by cases hx), fun b hb => by cases hb⟩ (fun b hb => by cases hb)
theorem nwR_sound {β : Type} {g : G} {s e : Nat} {K : VS → Option β} {r : β} (h : nwR g s e S K = some r) (ha : At B X w σ g.n S us) : ∃ S' σ', K S' = some r ∧ At B X w σ' g.n S' us := by
  unfold nwR at h
  split at h
  · rename_i hs
    split at h
    · rename_i y _
      split at h
      · rename_i hc
        simp only [Bool.and_eq_true, decide_eq_true_eq] at hc
        have hu : us[s]? = some (.slice none 0 0) := by
          have hlt : s < us.length := by rw [ha.rel.len]; exact hc.2
          have h1 := ha.rel.at_ s us[s] (List.getElem?_eq_getElem hlt)
          rw [hs] at h1
          rw [List.getElem?_eq_getElem hlt, (C.v h1).1]
        have ha1 := nil_at ha (e := e) (y := y) hc.1
        have := ha1.put hc.2 (v := .ms s) (u := .slice none 0 0) (by simp only [V.d, C]; exact ⟨upd_self _ _ _, rfl⟩)
        have hset : us.set s (.slice none 0 0) = us := by
          apply List.ext_getElem?
          intro m
          rw [List.getElem?_set]
          split
          · rename_i hm
            subst hm
            split
            · exact hu.symm
            · rename_i hl
              rw [ha.rel.len] at hl
              exact absurd hc.2 hl
          · rfl
        rw [hset] at this
        exact ⟨_, _, h, this⟩
      · cases h
    · cases h
  · exact ⟨S, σ, h, ha⟩
theorem nfR_sound {β : Type} {g : G} {j i e k : Nat} {K : VS → Option β} {r : β} (h : nfR g j i e k S K = some r) (ha : At B X w σ g.n S us) : ∃ S' σ', K S' = some r ∧ At B X w σ' g.n S' us := by
  unfold nfR at h
  split at h
  · rename_i vs hst
    split at h
    · rename_i hv
      split at h
      · rename_i y _
        split at h
        · rename_i hc
          simp only [Bool.and_eq_true, Bool.not_eq_true', beq_eq_false_iff_ne] at hc
          obtain ⟨hf, hjk⟩ := hc
          have ha1 := nil_at ha (e := e) (y := y) hf
          refine ⟨_, upd σ k (.arr (.slice none 0 0)), h, ?_⟩
          have hobj : (S.alloc k (.arr e y [])).st j = .box (.ag vs) := by simp only [VS.alloc]; rw [upd_ne _ _ hjk]; exact hst
          have hat := ha1.ti.obj j
          rw [hobj] at hat
          obtain ⟨b, ty, xs, h1, h2, h3, h4⟩ := hat
          have hnew : OAt X w (upd σ k (.arr (.slice none 0 0))) j (.box (.ag (vs.set i (.ms k)))) := by
            refine ⟨b, ty, xs, h1, h2, ?_, h4⟩
            simp only [V.d, D.cells, V.ds_eq, List.map_set] at h3 ⊢
            have hd : (vs.map V.d)[i]? = some (.v (.slice none 0 0)) := by rw [List.getElem?_map, hv]; rfl
            obtain ⟨u, hu, hcu⟩ := h3.at_ hd
            have := h3.set_ i (d := (V.ms k).d) (u := u) (by
              rw [(C.v hcu).1]
              simp only [V.d, C]
              exact ⟨upd_self _ _ _, rfl⟩)
            have hset : xs.set i u = xs := by
              apply List.ext_getElem?
              intro m
              rw [List.getElem?_set]
              split
              · rename_i hm
                subst hm
                split
                · exact hu.symm
                · rename_i hl
                  rw [List.getElem?_eq_none (by omega)] at hu
                  cases hu
              · rfl
            rw [hset] at this
            exact this
          have hs : ∀ q, upd (upd σ k (.arr (.slice none 0 0))) j ((upd σ k (.arr (.slice none 0 0))) j) q = upd σ k (.arr (.slice none 0 0)) q := by
            intro q
            by_cases hq : q = j
            · rw [hq, upd_self]
            · rw [upd_ne _ _ hq]
          have hs := funext hs
          have ht := ha1.ti.step (k := j) (o := .box (.ag (vs.set i (.ms k)))) (s := upd σ k (.arr (.slice none 0 0)) j) (Ext.refl X w) (.inl rfl) (fun _ _ _ _ _ => ⟨rfl, fun _ hq => hq⟩) (by rw [hs]; exact hnew)
            (fun c _ hc => ⟨ha1.ti.own j c (by rw [hobj]; simp) hc, fun q hq hn => ha1.ti.apart j q c (Ne.symm hq) (by rw [hobj]; simp) hn hc⟩) ha1.ti.fin ha1.ti.fr ha1.ti.old
          rw [hs] at ht
          refine ⟨ht, ha1.rel, fun q hq => ?_⟩
          simp only [VS.setO] at hq ⊢
          by_cases hqj : q = j
          · subst hqj; exact ha1.dom q (by rw [hobj]; simp)
          · rw [upd_ne _ _ hqj] at hq
            exact ha1.dom q hq
        · cases h
      · cases h
    · exact ⟨S, σ, h, ha⟩
  · exact ⟨S, σ, h, ha⟩
theorem trR_none {ops : Array Oper} {o : Oper} {dst : Option Nat} {k : RK} (h : trR P ops o = ⟨dst, none, k⟩) (hk : k ≠ .bad) : o.guard = none ∧ o.dst = dst ∧ trK P o.op = k := by
  unfold trR at h
  split at h
  · rename_i hg
    simp only [RO.mk.injEq] at h
    exact ⟨hg, h.1, h.2.2⟩
  · split at h
    · simp at h
    · simp only [RO.mk.injEq] at h
      exact absurd h.2.2.symm hk
theorem trR_some {ops : Array Oper} {o : Oper} {dst : Option Nat} {k : RK} {s : Nat} {b : Bool} (h : trR P ops o = ⟨dst, some (s, b), k⟩) : (∃ j, o.guard = some (j, b) ∧ (ops[j]?).bind (·.dst) = some s) ∧ o.dst = dst ∧ trK P o.op = k := by
  unfold trR at h
  split at h
  · simp at h
  · rename_i j b' hg
    split at h
    · rename_i s' hs
      simp only [RO.mk.injEq, Option.some.injEq, Prod.mk.injEq] at h
      obtain ⟨h1, ⟨rfl, rfl⟩, h3⟩ := h
      exact ⟨⟨j, hg, hs⟩, h1, h3⟩
    · simp at h
/-- an operation with its guard: whether it runs, and what it does -/
theorem ro_sound {β : Type} {g : G} {ro : RO} {K : VS → Option β} {r : β} (hg : GOk P g) (h : ro.run g S K = some r) {ops : Array Oper} {o : Oper} (ht : trR P ops o = ro) (ha : At B X w σ g.n S us) :
    (Region.wanted o (yielded ops us.toArray) = true ∧ ∀ {K' : Act → World → Prop} {Q' : Exit → Act → World → Prop}, (∀ S' X' w' σ' us', At B X' w' σ' g.n S' us' → K S' = some r → K' ⟨us'.toArray, []⟩ w') → o.wp P ⟨us.toArray, []⟩ w K' Q') ∨
    (Region.wanted o (yielded ops us.toArray) = false ∧ ∃ S', K S' = some r ∧ At B X w σ g.n S' (uput us o.dst undef)) := by
  obtain ⟨dst, gd, k⟩ := ro
  cases gd with
  | none =>
    simp only [RO.run] at h
    have hk : k ≠ .bad := by rintro rfl; cases h
    obtain ⟨h1, h2, h3⟩ := trR_none ht hk
    exact .inl ⟨by simp [Region.wanted, h1], fun hK => rk_sound hg h o h3 h2 ha hK⟩
  | some sb =>
    obtain ⟨s, b⟩ := sb
    obtain ⟨⟨j, h1, h2⟩, h3, h4⟩ := trR_some ht
    have hval : ∀ x : Value, (us[s]?).getD undef = x → Region.wanted o (yielded ops us.toArray) = (match x with | .bool q => q == b | _ => false) := by
      intro x hx
      simp only [Region.wanted, h1, yielded, h2, Option.bind_some, List.getElem?_toArray]
      cases hu : us[s]? with
      | none =>
        rw [hu] at hx
        simp only [Option.getD_none] at hx
        subst hx
        rfl
      | some u =>
        rw [hu] at hx
        simp only [Option.getD_some] at hx
        subst hx
        cases u <;> first | rfl | (rename_i q; cases q <;> cases b <;> rfl)
    have hin : S.ts s ≠ .un → ∃ u, us[s]? = some u ∧ C X w σ (S.ts s).d u := by
      intro hne
      have hlt : s < us.length := by
        rcases Nat.lt_or_ge s us.length with hlt | hge
        · exact hlt
        · rw [ha.rel.len] at hge
          exact absurd (ha.rel.out s hge) hne
      exact ⟨_, List.getElem?_eq_getElem hlt, ha.rel.at_ s _ (List.getElem?_eq_getElem hlt)⟩
    simp only [RO.run] at h
    split at h
    · rename_i q hq
      obtain ⟨u, hu, hcu⟩ := hin (by rw [hq]; simp)
      rw [hq] at hcu
      have hu2 : (us[s]?).getD undef = .bool q := by rw [hu]; exact (C.v hcu).1
      have hw := hval _ hu2
      simp only at hw
      cases b with
      | true =>
        rcases br_some h with ⟨rfl, h⟩ | ⟨rfl, h⟩
        · exact .inl ⟨hw, fun hK => rk_sound hg h o h4 h3 ha hK⟩
        · subst h3
          obtain ⟨S', e1, e2⟩ := putR_sound h ha (u := undef) (v := .ud) (by simp [V.d, C])
          exact .inr ⟨hw, S', e1, e2⟩
      | false =>
        rcases br_some h with ⟨rfl, h⟩ | ⟨rfl, h⟩
        · subst h3
          obtain ⟨S', e1, e2⟩ := putR_sound h ha (u := undef) (v := .ud) (by simp [V.d, C])
          exact .inr ⟨hw, S', e1, e2⟩
        · exact .inl ⟨hw, fun hK => rk_sound hg h o h4 h3 ha hK⟩
    · rename_i hq
      obtain ⟨u, hu, hcu⟩ := hin (by rw [hq]; simp)
      rw [hq] at hcu
      simp only [V.d, C] at hcu
      have hu2 : (us[s]?).getD undef = undef := by rw [hu]; exact hcu.2 trivial
      have hw := hval _ hu2
      subst h3
      obtain ⟨S', e1, e2⟩ := putR_sound h ha (u := undef) (v := .ud) (by simp [V.d, C])
      exact .inr ⟨hw, S', e1, e2⟩
    · cases h
theorem evL_sound {β : Type} {g : G} {r : β} (hg : GOk P g) {Q' : Exit → Act → World → Prop} : ∀ {rs : List RO} {S : VS} {K : VS → Option β} {X : Nat → Nat → Prop} {w : World} {σ : Pl} {us : List Value} {ops : Array Oper} {rest : List Oper}, evL g rs S K = some r → rest.map (trR P ops) = rs → At B X w σ g.n S us →
    (∀ S' X' w' σ' us', At B X' w' σ' g.n S' us' → K S' = some r → Q' .normal ⟨us'.toArray, []⟩ w') → wpList P ops Q' rest ⟨us.toArray, []⟩ w
  | [], S, K, X, w, σ, us, ops, rest, h, hm, ha, hK => by
    have : rest = [] := List.map_eq_nil_iff.1 hm
    subst this
    exact hK S X w σ us ha h
  | r0 :: rs, S, K, X, w, σ, us, ops, rest, h, hm, ha, hK => by
    cases rest with
    | nil => simp at hm
    | cons o rest =>
      simp only [List.map_cons, List.cons.injEq] at hm
      simp only [evL] at h
      have h := learn_some h
      rcases ro_sound hg h hm.1 ha with ⟨hw, hrun⟩ | ⟨hw, S', e1, e2⟩
      · simp only [wpList, hw, if_true]
        exact .inl (hrun fun S' X' w' σ' us' ha' hk => evL_sound hg hk hm.2 ha' hK)
      · simp only [wpList, hw, Bool.false_eq_true, if_false]
        rw [put_eq]
        exact evL_sound hg e1 hm.2 e2 hK
end
end Go.Proofs.Ytnimpcffagidoaa.K
