/-
  The operations on own variables and slices do what the program's do: all of them.
-/
import Derived.Test.YtnimpcffagidoaaK10
namespace Go.Proofs.Ytnimpcffagidoaa.K
open Go.RowKit
set_option linter.unusedSimpArgs false
set_option linter.unusedVariables false

/-- what an operation leaves: a value, or nothing -/
def Gives (B : Base) (P : Program) (n : Nat) (us : List Value) (w : World) (o : Oper) (v : V) (S' : VS) : Prop :=
  ∃ nx w' X' σ', (execOp (Act.eval ⟨us.toArray, []⟩) o).run P w = .ok nx w' ∧ ((∃ u, nx = .value u ∧ C X' w' σ' v.d u) ∨ (nx = .skip ∧ v = .un)) ∧ At B X' w' σ' n S' us

theorem cs_nowhere {X : Nat → Nat → Prop} {w : World} {σ : Pl} {ds : List D} {us : List Value} (h : Cs X w σ ds us) (hr : D.refss ds = []) : Cs X w nowhere ds us :=
  Cs.ext (Ext.refl X w) _ _ (fun k hk => by rw [hr] at hk; cases hk) h
theorem dim_src {S : VS} {j : Nat} {t : Ty} {v : V} {l : List t.T} (h : S.src t v = some l) : (S.dim j).src t v = some l := by
  unfold VS.src at h ⊢
  split at h
  · exact h
  · exact h
  · rename_i k
    cases hs : S.st k with
    | arr e y l' =>
      rw [hs] at h
      have : (S.dim j).st k = .arr e y l' := by simp only [VS.dim, hs, VO.dim]
      simp only [this]
      exact h
    | _ => rw [hs] at h; cases h
  · cases h
theorem dimc_cs {X : Nat → Nat → Prop} {w : World} {σ : Pl} {j : Nat} : ∀ {ws : List V} {vs : List Value}, Cs X w σ (V.ds ws) vs → Cs X w σ (V.ds (ws.map fun v => if v.refs.contains j = true then .un else v)) vs
  | [], vs, h => h
  | v :: ws, vs, h => by
    simp only [V.ds, Cs] at h
    obtain ⟨u, us, rfl, h1, h2⟩ := h
    simp only [List.map_cons, V.ds, Cs]
    refine ⟨u, us, rfl, ?_, dimc_cs h2⟩
    split
    · simp [V.d, C]
    · exact h1
theorem oat_dim {X : Nat → Nat → Prop} {w : World} {σ : Pl} {k j : Nat} {o : VO} (h : OAt X w σ k o) : OAt X w σ k (o.dim j) := by
  cases o with
  | box v =>
    obtain ⟨b, ty, vs, h1, h2, h3, h4⟩ := h
    refine ⟨b, ty, vs, h1, h2, ?_, h4⟩
    cases v with
    | ag ws => exact dimc_cs h3
    | _ => exact h3
  | _ => exact h
theorem dim_no {j : Nat} {o : VO} (h : o.dim j ≠ .no) : o ≠ .no := fun e => h (by rw [e]; rfl)
theorem At.dim {B : Base} {X : Nat → Nat → Prop} {w : World} {σ : Pl} {n : Nat} {S : VS} {us : List Value} (h : At B X w σ n S us) (j : Nat) : At B X w σ n (S.dim j) us :=
  ⟨⟨h.ti.fin, fun k => oat_dim (h.ti.obj k), fun i k b hik hi hk => h.ti.apart i k b hik (dim_no hi) (dim_no hk), fun k b hk => h.ti.own k b (dim_no hk), h.ti.fr, h.ti.old, h.ti.lnt⟩, h.rel, fun k hk => h.dom k (dim_no hk)⟩
set_option maxRecDepth 100000 in
theorem mo_sound {β : Type} {TY : Nat → Option Ty} {own : Bool} {k : Nat} {S : VS} {K : VS → V → Option β} {mo : MO} {r : β} (h : mo.run TY own k S K = some r) :
    ∃ v S', K S' v = some r ∧ ∀ {P : Program} {B : Base} {X : Nat → Nat → Prop} {w : World} {σ : Pl} {n : Nat} {us : List Value} (o : Oper), trM P o.op = some mo → At B X w σ n S us → Gives B P n us w o v S' := by
  cases mo with
  | pu ao =>
    obtain ⟨v, h1, h2, h3⟩ := ao_sound (K := K S) h
    refine ⟨v, S, h2, fun {P B X w σ n us} o ht ha => ?_⟩
    have hto : tr P o.op = some ao := by
      obtain ⟨dst, op, ty, pos, after, guard⟩ := o
      simp only at ht ⊢
      cases op with
      | call c =>
        obtain ⟨cal, args, tys⟩ := c
        obtain ⟨args⟩ := args
        obtain ⟨tys⟩ := tys
        simp only [trM] at ht
        split at ht
        · repeat' split at ht
          all_goals cases ht
        · simp only [Option.map_eq_some_iff] at ht
          obtain ⟨ao', h4, h5⟩ := ht
          injection h5 with h5
          rw [← h5]
          exact h4
      | alloc t =>
        simp only [trM] at ht
        split at ht
        · simp only [Option.map_eq_some_iff] at ht
          obtain ⟨_, _, h5⟩ := ht
          cases h5
        · cases ht
      | box t x =>
        simp only [trM, Option.map_eq_some_iff] at ht
        obtain ⟨_, _, h5⟩ := ht
        cases h5
      | load t x =>
        simp only [trM] at ht
        repeat' split at ht
        all_goals cases ht
      | store t x y =>
        simp only [trM] at ht
        repeat' split at ht
        all_goals cases ht
      | buildSlice t len ps =>
        simp only [trM] at ht
        repeat' split at ht
        all_goals cases ht
      | _ =>
        simp only [trM, Option.map_eq_some_iff] at ht
        obtain ⟨ao', h4, h5⟩ := ht
        injection h5 with h5
        rw [← h5]
        exact h4
    obtain ⟨u, q1, q2⟩ := h3 o hto ha.rel ha.ti.obj
    exact ⟨_, w, X, σ, q1, .inl ⟨u, rfl, q2⟩, ha⟩
  | new zs =>
    simp only [MO.run] at h
    split at h
    · rename_i hz
      split at h
      · rename_i hf
        refine ⟨_, _, h, fun {P B X w σ n us} o ht ha => ?_⟩
        obtain ⟨dst, op, ty, pos, after, guard⟩ := o
        have hz' : (V.ag (zs.map ofD)).d.cells = zs := by
          simp only [V.d, D.cells, V.ds_eq, List.map_map]
          conv => rhs; rw [← List.map_id zs]
          refine List.map_congr_left fun d hd => ?_
          have h1 := one_good (List.all_eq_true.1 hz d hd)
          cases d with
          | v x => exact ofV_d x
          | _ => cases h1
        cases op with
        | alloc t =>
          simp only [trM] at ht
          split at ht
          · rename_i z hzz
            simp only [Option.map_eq_some_iff] at ht
            obtain ⟨i, hi0, hi1⟩ := ht
            injection hi1 with hi1
            subst hi1
            have k0 := (initD_sound (X := X) (w := w) (σ := σ) hi0).1
            have k1 : Cs X w nowhere i z.cells.toList := (initD_sound (X := X) (w := w) (σ := nowhere) hi0).1
            obtain ⟨a1, a2⟩ := ha.alloc (k := k) (o := .box (.ag (i.map ofD))) (s := .box w.heap.size) (ob := .cells z.cells.toList.toArray t) hf rfl (by
              refine ⟨w.heap.size, t, z.cells.toList, upd_self _ _ _, heap_alloc_new w _, ?_, fun q => .inr rfl⟩
              rw [hz']
              exact Cs.up _ _ (Cs.ext ⟨by simp, fun b q hb hx => ⟨fun hx' => hx'.elim hx (by omega), World.cell?_of_block (w := w) (a := ⟨b, q, none⟩) (Below.heap_alloc w _ b hb)⟩⟩ _ _ (fun _ _ => rfl) k1))
            refine ⟨.value (.pointer (some ⟨w.heap.size, 0, none⟩)), _, _, _, ?_, .inl ⟨_, rfl, ?_⟩, a1⟩
            · simp only [Option.bind_eq_some_iff] at hzz
              obtain ⟨inf, hi, hz⟩ := hzz
              simp only [execOp, Instr.alloc, zeroValue, typeInfo, newVar, newRow]
              simp [hi, hz, newObj]
              rfl
            · simp only [V.d, C]
              exact ⟨w.heap.size, upd_self _ _ _, rfl⟩
          · cases ht
        | call c =>
          obtain ⟨cal, args, tys⟩ := c
          obtain ⟨args⟩ := args
          obtain ⟨tys⟩ := tys
          simp only [trM] at ht
          split at ht
          · repeat' split at ht
            all_goals cases ht
          · simp only [Option.map_eq_some_iff] at ht
            obtain ⟨_, _, h5⟩ := ht
            cases h5
        | box t x =>
          simp only [trM, Option.map_eq_some_iff] at ht
          obtain ⟨_, _, h5⟩ := ht
          cases h5
        | load t x =>
          simp only [trM] at ht
          repeat' split at ht
          all_goals cases ht
        | store t x y =>
          simp only [trM] at ht
          repeat' split at ht
          all_goals cases ht
        | buildSlice t len ps =>
          simp only [trM] at ht
          repeat' split at ht
          all_goals cases ht
        | _ =>
          simp only [trM, Option.map_eq_some_iff] at ht
          obtain ⟨_, _, h5⟩ := ht
          cases h5
      · cases h
    · cases h
  | box x =>
    simp only [MO.run] at h
    split at h
    · rename_i hc
      simp only [Bool.and_eq_true, Bool.not_eq_true'] at hc
      obtain ⟨c1, c2, c3⟩ := hc
      split at h
      · rename_i hf
        refine ⟨_, _, h, fun {P B X w σ n us} o ht ha => ?_⟩
        obtain ⟨dst, op, ty, pos, after, guard⟩ := o
        cases op with
        | box t x' =>
          simp only [trM, Option.map_eq_some_iff] at ht
          obtain ⟨ax, hx, h5⟩ := ht
          injection h5 with h5
          subst h5
          have k0 := xv_sound hx c1 ha.rel
          obtain ⟨k1, k2⟩ := k0.cells (V.cellable_d _ c2)
          have hkr : k ∉ (ax.xv S.ts).refs := by simpa using c3
          obtain ⟨a1, a2⟩ := ha.alloc (k := k) (o := .box (ax.xv S.ts)) (s := .box w.heap.size) (ob := .cells (Act.eval ⟨us.toArray, []⟩ x').cells.toList.toArray t) hf rfl (by
            refine ⟨w.heap.size, t, (Act.eval ⟨us.toArray, []⟩ x').cells.toList, upd_self _ _ _, heap_alloc_new w _, ?_, fun q => .inr rfl⟩
            refine Cs.ext ⟨by simp, fun b q hb hx => ⟨fun hx' => hx'.elim hx (by omega), World.cell?_of_block (w := w) (a := ⟨b, q, none⟩) (Below.heap_alloc w _ b hb)⟩⟩ _ _ (fun j hj => upd_ne _ _ fun hjk => ?_) k1
            rw [V.refs_dcells] at hj
            exact hkr (hjk ▸ hj))
          refine ⟨.value (.pointer (some ⟨w.heap.size, 0, none⟩)), _, _, _, ?_, .inl ⟨_, rfl, ?_⟩, a1⟩
          · simp only [execOp, Instr.box, newVar, newRow]
            simp [newObj]
            rfl
          · simp only [V.d, C]
            exact ⟨w.heap.size, upd_self _ _ _, rfl⟩
        | call c =>
          obtain ⟨cal, args, tys⟩ := c
          obtain ⟨args⟩ := args
          obtain ⟨tys⟩ := tys
          simp only [trM] at ht
          split at ht
          · repeat' split at ht
            all_goals cases ht
          · simp only [Option.map_eq_some_iff] at ht
            obtain ⟨_, _, h5⟩ := ht
            cases h5
        | alloc t =>
          simp only [trM] at ht
          split at ht
          · simp only [Option.map_eq_some_iff] at ht
            obtain ⟨_, _, h5⟩ := ht
            cases h5
          · cases ht
        | load t x =>
          simp only [trM] at ht
          repeat' split at ht
          all_goals cases ht
        | store t x y =>
          simp only [trM] at ht
          repeat' split at ht
          all_goals cases ht
        | buildSlice t len ps =>
          simp only [trM] at ht
          repeat' split at ht
          all_goals cases ht
        | _ =>
          simp only [trM, Option.map_eq_some_iff] at ht
          obtain ⟨_, _, h5⟩ := ht
          cases h5
      · cases h
    · cases h
  | ld agg m x =>
    have inv : ∀ {P : Program} {op : Op}, trM P op = some (.ld agg m x) → ∃ t x' dd inf, op = .load t x' ∧ P.underlying t = some dd ∧ P.info? t = some inf ∧ trX x' = some x ∧ agg = isRow dd ∧ m = inf.size := by
      intro P op ht
      cases op with
      | load t x' =>
        simp only [trM] at ht
        split at ht
        · rename_i dd inf ax h1 hi hx
          simp only [Option.some.injEq, MO.ld.injEq] at ht
          obtain ⟨rfl, rfl, rfl⟩ := ht
          exact ⟨t, x', dd, inf, rfl, h1, hi, hx, rfl, rfl⟩
        · cases ht
      | call c =>
        obtain ⟨cal, args, tys⟩ := c
        obtain ⟨args⟩ := args
        obtain ⟨tys⟩ := tys
        simp only [trM] at ht
        split at ht
        · repeat' split at ht
          all_goals cases ht
        · simp only [Option.map_eq_some_iff] at ht
          obtain ⟨_, _, h5⟩ := ht
          cases h5
      | alloc t =>
        simp only [trM] at ht
        split at ht
        · simp only [Option.map_eq_some_iff] at ht
          obtain ⟨_, _, h5⟩ := ht
          cases h5
        · cases ht
      | box t x =>
        simp only [trM, Option.map_eq_some_iff] at ht
        obtain ⟨_, _, h5⟩ := ht
        cases h5
      | store t x y =>
        simp only [trM] at ht
        repeat' split at ht
        all_goals cases ht
      | buildSlice t len ps =>
        simp only [trM] at ht
        repeat' split at ht
        all_goals cases ht
      | _ =>
        simp only [trM, Option.map_eq_some_iff] at ht
        obtain ⟨_, _, h5⟩ := ht
        cases h5
    have fin : ∀ (v : V) {P : Program} {B : Base} {X : Nat → Nat → Prop} {w : World} {σ : Pl} {n : Nat} {us : List Value} (o : Oper), trM P o.op = some (.ld agg m x) → At B X w σ n S us → (∀ x', trX x' = some x → ∃ b off vs ds, Act.eval ⟨us.toArray, []⟩ x' = .pointer (some ⟨b, off, none⟩) ∧ w.rangeAt b off vs ∧ Cs X w σ ds vs ∧ (agg = true → v.d = .ag (ds.take m) ∧ m ≤ ds.length) ∧ (agg = false → ds[0]? = some v.d)) → Gives B P n us w o v S := by
      intro v P B X w σ n us o ht ha hh
      obtain ⟨dst, op, ty, pos, after, guard⟩ := o
      obtain ⟨t, x', dd, inf, h1, h2, h3, h4, h5, h6⟩ := inv ht
      simp only at h1
      subst h1 h5 h6
      obtain ⟨b, off, vs, ds, q1, q2, q3, q4, q5⟩ := hh x' h4
      obtain ⟨u, e1, e2⟩ := load_at h2 h3 q3 q2 q4 q5
      exact ⟨.value u, w, X, σ, by simp [execOp, q1, Instr.loadAt, Instr.sureAddr, e1], .inl ⟨u, rfl, e2⟩, ha⟩
    simp only [MO.run] at h
    split at h
    · rename_i j o hx
      split at h
      · rename_i c hst
        split at h
        · rename_i v hs
          obtain ⟨h1, h2⟩ := nz_some h
          refine ⟨v, S, h2, fun {P B X w σ n us} oo ht ha => fin v oo ht ha fun x' hx' => ?_⟩
          have k1 := xv_sound hx' (by rw [hx]; rfl) ha.rel
          rw [hx] at k1
          simp only [V.d, C] at k1
          obtain ⟨b, e1, e2⟩ := k1
          have hat := ha.ti.obj j
          rw [hst] at hat
          obtain ⟨b', ty, vs, g1, g2, g3, g4⟩ := hat
          rw [g1] at e1
          injection e1 with e1
          subst e1
          obtain ⟨s1, s2⟩ := V.sub_spec hs
          have hl := g3.len
          refine ⟨b', o, vs.drop o, c.d.cells.drop o, e2, fun i u hu => ?_, g3.drop_ _, fun ha => ?_, fun ha => ?_⟩
          · rw [List.getElem?_drop] at hu
            rw [cell_of_row w b' (o + i) vs.toArray ty (0, 0) g2]
            simpa using hu
          · obtain ⟨t1, t2⟩ := s1 ha
            exact ⟨t1, by rw [List.length_drop]; omega⟩
          · rw [List.getElem?_drop]
            exact s2 ha
        · cases h
      · cases h
    · rename_i y z o hx
      split at h
      · rename_i v hs
        obtain ⟨h1, h2⟩ := nz_some h
        refine ⟨v, S, h2, fun {P B X w σ n us} oo ht ha => fin v oo ht ha fun x' hx' => ?_⟩
        have k1 := xv_sound hx' (by rw [hx]; rfl) ha.rel
        rw [hx] at k1
        simp only [V.d, C] at k1
        obtain ⟨b, off, vs, e1, e2, e3⟩ := k1
        obtain ⟨_, s1, s2⟩ := Ty.sub_spec true y z o m agg v hs
        refine ⟨b, off, vs, _, e1, e3.at_, Cs.up _ _ e2, fun ha => ?_, fun ha => ?_⟩
        · obtain ⟨t1, t2⟩ := s1 ha
          exact ⟨t1, by rw [List.length_drop]; omega⟩
        · rw [List.getElem?_drop]
          exact s2 ha
      · cases h
    · rename_i sz j i o hx
      split at h
      · rename_i e y l hst
        split at h
        · rename_i hsz
          obtain ⟨h0, h⟩ := br_none h
          simp only [decide_eq_true_eq] at h0
          split at h
          · rename_i v hs
            obtain ⟨h1, h2⟩ := nz_some h
            refine ⟨v, S, h2, fun {P B X w σ n us} oo ht ha => fin v oo ht ha fun x' hx' => ?_⟩
            have k1 := xv_sound hx' (by rw [hx]; rfl) ha.rel
            rw [hx] at k1
            simp only [V.d, C] at k1
            obtain ⟨s', b, e1, e2, e3⟩ := k1
            have hat := ha.ti.obj j
            rw [hst] at hat
            obtain ⟨u', xs, g1, g2, g3, g4, g5⟩ := hat
            rw [g1] at e1
            injection e1 with e1
            subst e1
            obtain ⟨_, s1, s2⟩ := Ty.sub_spec true y _ o m agg v hs
            have hd : (l.flatMap y.cells).drop (i * sz) = y.cells (l.getD i y.zero) ++ (l.drop (i + 1)).flatMap y.cells := by
              subst hsz
              rw [flat_drop, List.drop_eq_getElem_cons h0, List.flatMap_cons, List.getD_eq_getElem?_getD, List.getElem?_eq_getElem h0]
              rfl
            have hcl := y.cells_len (l.getD i y.zero)
            refine ⟨b, i * sz + o, xs.drop (i * sz + o), (l.flatMap y.cells).drop (i * sz + o), e3, fun q u hu => ?_, Cs.up _ _ (g3.drop_ _), fun ha => ?_, fun ha => ?_⟩
            · rw [List.getElem?_drop] at hu
              have := g2.cells e2 _ _ hu
              rw [Addr.add_mid, Nat.zero_add] at this
              exact this
            · obtain ⟨t1, t2⟩ := s1 ha
              rw [← List.drop_drop, hd, List.drop_append_of_le_length (by omega)]
              refine ⟨?_, by rw [List.length_append, List.length_drop]; omega⟩
              rw [t1, List.take_append_of_le_length (by rw [List.length_drop]; omega)]
            · have hq := s2 ha
              have hlt := (List.getElem?_eq_some_iff.1 hq).1
              rw [← List.drop_drop, hd, List.getElem?_drop]
              simp only [Nat.add_zero]
              rw [List.getElem?_append_left hlt]
              exact hq
          · cases h
        · cases h
      · cases h
    · cases h
  | st m x y =>
    have inv : ∀ {P : Program} {op : Op}, trM P op = some (.st m x y) → ∃ t x' y' inf, op = .store t x' y' ∧ P.info? t = some inf ∧ trX x' = some x ∧ trX y' = some y ∧ m = inf.size := by
      intro P op ht
      cases op with
      | store t x' y' =>
        simp only [trM] at ht
        split at ht
        · rename_i inf ax ay hi hx hy
          simp only [Option.some.injEq, MO.st.injEq] at ht
          obtain ⟨rfl, rfl, rfl⟩ := ht
          exact ⟨t, x', y', inf, rfl, hi, hx, hy, rfl⟩
        · cases ht
      | call c =>
        obtain ⟨cal, args, tys⟩ := c
        obtain ⟨args⟩ := args
        obtain ⟨tys⟩ := tys
        simp only [trM] at ht
        split at ht
        · repeat' split at ht
          all_goals cases ht
        · simp only [Option.map_eq_some_iff] at ht
          obtain ⟨_, _, h5⟩ := ht
          cases h5
      | alloc t =>
        simp only [trM] at ht
        split at ht
        · simp only [Option.map_eq_some_iff] at ht
          obtain ⟨_, _, h5⟩ := ht
          cases h5
        · cases ht
      | box t x =>
        simp only [trM, Option.map_eq_some_iff] at ht
        obtain ⟨_, _, h5⟩ := ht
        cases h5
      | load t x =>
        simp only [trM] at ht
        repeat' split at ht
        all_goals cases ht
      | buildSlice t len ps =>
        simp only [trM] at ht
        repeat' split at ht
        all_goals cases ht
      | _ =>
        simp only [trM, Option.map_eq_some_iff] at ht
        obtain ⟨_, _, h5⟩ := ht
        cases h5
    simp only [MO.run] at h
    split at h
    · rename_i hg
      split at h
      · rename_i j o hx
        split at h
        · rename_i c hst
          split at h
          · rename_i c' hp
            refine ⟨.un, _, h, fun {P B X w σ n us} oo ht ha => ?_⟩
            obtain ⟨dst, op, ty, pos, after, guard⟩ := oo
            obtain ⟨t, x', y', inf, q1, q2, q3, q4, q5⟩ := inv ht
            simp only at q1
            subst q1 q5
            have k1 := xv_sound q3 (by rw [hx]; rfl) ha.rel
            rw [hx] at k1
            simp only [V.d, C] at k1
            obtain ⟨b, e1, e2⟩ := k1
            have k2 := xv_sound q4 hg ha.rel
            have hat := ha.ti.obj j
            rw [hst] at hat
            obtain ⟨b', ty', vs, g1, g2, g3, g4⟩ := hat
            rw [g1] at e1
            injection e1 with e1
            subst e1
            obtain ⟨s1, s2, s3, s4⟩ := V.put_spec hp k2 g3
            have hthere : w.there b' o (Act.eval ⟨us.toArray, []⟩ y').cells.toList.length := by
              intro i hi
              constructor
              · rw [cell_of_row w b' (o + i) vs.toArray ty' (0, 0) g2]
                have : o + i < vs.length := by omega
                simp [this]
              · simp [World.frozen?, g2]
            have hrun := run_storeVar_any (P := P) w b' o t _ hthere (by simp only [q2, Option.map_some]; rw [s3]) s4
            refine ⟨.skip, _, X, σ, by simp [execOp, e2, Instr.storeAt, Instr.sureAddr, hrun], .inr ⟨rfl, rfl⟩, ha.store (off := o) (ws := (Act.eval ⟨us.toArray, []⟩ y').cells.toList) (by rw [hst]; simp) (by rw [g1]; rfl) g4 fun ex => ?_⟩
            exact ⟨b', ty', _, g1, setCells_at b' ty' (0, 0) _ o w vs g2, Cs.ext ex _ _ (fun _ _ => rfl) s1, g4⟩
          · cases h
        · cases h
      · rename_i sz j i o hx
        split at h
        · rename_i e t l hst
          split at h
          · rename_i hsz
            obtain ⟨h0, h⟩ := br_none h
            simp only [decide_eq_true_eq] at h0
            split at h
            · rename_i z hp
              split at h
              · rename_i x1 hz
                refine ⟨.un, _, h, fun {P B X w σ n us} oo ht ha => ?_⟩
                obtain ⟨dst, op, ty, pos, after, guard⟩ := oo
                obtain ⟨t', x', y', inf, q1, q2, q3, q4, q5⟩ := inv ht
                simp only at q1
                subst q1 q5
                have k1 := xv_sound q3 (by rw [hx]; rfl) ha.rel
                rw [hx] at k1
                simp only [V.d, C] at k1
                obtain ⟨s', b, e1, e2, e3⟩ := k1
                have k2 := xv_sound q4 hg ha.rel
                have hat := ha.ti.obj j
                rw [hst] at hat
                obtain ⟨u', xs, g1, g2, g3, g4, g5⟩ := hat
                rw [g1] at e1
                injection e1 with e1
                subst e1
                have hcl := t.cells_len (l.getD i t.zero)
                have hput : ∀ vs, Cs X w nowhere (t.cells (l.getD i t.zero)) vs → Cs X w nowhere (t.cells x1) (setFrom vs o (Act.eval ⟨us.toArray, []⟩ y').cells.toList) ∧ o + (Act.eval ⟨us.toArray, []⟩ y').cells.toList.length ≤ t.sz ∧ (Act.eval ⟨us.toArray, []⟩ y').cells.toList.length = inf.size ∧ (∀ q ∈ (Act.eval ⟨us.toArray, []⟩ y').cells.toList, q.oneCell' = true) := by
                  intro vs hvs
                  have hl := hvs.len
                  obtain ⟨s1, s2, s3, s4⟩ := V.put_spec (c := .t t (l.getD i t.zero)) hp k2 (by simp only [V.d, Ty.d_cells]; exact Cs.up _ _ hvs)
                  refine ⟨?_, by omega, s3, s4⟩
                  have hz2 : Cs X w nowhere (t.cells x1) (setFrom vs o (Act.eval ⟨us.toArray, []⟩ y').cells.toList) := by
                    cases hr : z.row with
                    | true =>
                      have s5 : C X w σ z.d (.agg (setFrom vs o (Act.eval ⟨us.toArray, []⟩ y').cells.toList).toArray) := by
                        rw [V.d_row _ hr]
                        simp only [C]
                        exact ⟨_, rfl, s1⟩
                      have s6 := Ty.cs_cells (V.as_spec hz s5)
                      simpa [Value.cells] using s6
                    | false =>
                      have hone : z.d.cells = [z.d] := by
                        cases z with
                        | t y' z' =>
                          simp only [V.d, Ty.d_cells]
                          exact y'.d_one z' hr
                        | ag vs => cases hr
                        | _ => rfl
                      rw [hone] at s1
                      obtain ⟨u1, hu1, hc1⟩ := s1.one
                      have s6 := V.as_spec hz hc1
                      rw [hu1]
                      cases hr2 : t.row with
                      | false =>
                        rw [t.d_one x1 hr2]
                        exact Cs.mk1 s6
                      | true =>
                        exfalso
                        cases z with
                        | t y' z' =>
                          simp only [V.as] at hz
                          split at hz
                          · rename_i hy
                            simp only [V.row] at hr
                            rw [hy] at hr
                            rw [hr] at hr2
                            cases hr2
                          · simp only [V.row] at hr
                            rw [hr] at hz
                            simp at hz
                        | ag vs => cases hr
                        | _ =>
                          simp only [V.as, hr2, if_true] at hz
                          cases hz
                  exact hz2
                obtain ⟨b1, cap, cur, a1, a2, a3, a4, a5, a6, a7⟩ : ∃ g cap cur, u' = .slice (some ⟨g, 0, none⟩) l.length cap ∧ True ∧ w.heap[g]? = some (.cells cur e (0, 0)) ∧ l.length ≤ cap ∧ cap ≤ maxLen ∧ cur.size = cap * t.sz ∧ cur.toList.take (l.length * t.sz) = xs := by
                  rcases g2.2 with ⟨_, r⟩ | ⟨g, cap, cur, r1, r2, r3, r4, r5, r6, r7⟩
                  · omega
                  · exact ⟨g, cap, cur, r1, trivial, r3, r4, r5, r6, r7⟩
                have hbb : b1 = b := by
                  rw [a1] at e2
                  simpa [Value.ownBlock] using e2
                subst hbb
                obtain ⟨vs0, hvs0⟩ : ∃ vs, Cs X w nowhere (t.cells (l.getD i t.zero)) vs := by
                  have hd : (l.flatMap t.cells).drop (i * t.sz) = t.cells (l.getD i t.zero) ++ (l.drop (i + 1)).flatMap t.cells := by
                    rw [flat_drop, List.drop_eq_getElem_cons h0, List.flatMap_cons, List.getD_eq_getElem?_getD, List.getElem?_eq_getElem h0]
                    rfl
                  have := g3.drop_ (i * t.sz)
                  rw [hd] at this
                  obtain ⟨v1, v2, _, q, _⟩ := this.split
                  exact ⟨v1, q⟩
                obtain ⟨_, p2, p3, p4⟩ := hput vs0 hvs0
                have hxl := g3.len
                rw [flat_len] at hxl
                have hbound : i * t.sz + t.sz ≤ l.length * t.sz := by
                  rw [← Nat.succ_mul]
                  exact Nat.mul_le_mul_right _ h0
                have hcur : l.length * t.sz ≤ cur.toList.length := by
                  have hct : cur.toList.length = cur.size := Array.length_toList
                  rw [hct, a6]
                  exact Nat.mul_le_mul_right _ a4
                have hthere : w.there b1 (i * t.sz + o) (Act.eval ⟨us.toArray, []⟩ y').cells.toList.length := by
                  intro q hq
                  have hlt : i * t.sz + o + q < cur.toList.length := by omega
                  constructor
                  · have : cur = cur.toList.toArray := by simp
                    rw [this] at a3
                    rw [cell_of_row w b1 (i * t.sz + o + q) _ e (0, 0) a3]
                    have hct : cur.toList.length = cur.size := Array.length_toList
                    rw [hct] at hlt
                    simp [hlt]
                  · simp [World.frozen?, a3]
                have hrun := run_storeVar_any (P := P) w b1 (i * t.sz + o) t' _ hthere (by simp only [q2, Option.map_some]; rw [p3]) p4
                subst hsz
                refine ⟨.skip, _, X, σ, by simp [execOp, e3, Instr.storeAt, Instr.sureAddr, hrun], .inr ⟨rfl, rfl⟩, ha.store (off := i * t.sz + o) (ws := (Act.eval ⟨us.toArray, []⟩ y').cells.toList) (by rw [hst]; simp) (by rw [g1]; exact e2) (g5 b1 e2) fun ex => ?_⟩
                have hlen : (l.set i x1).length = l.length := List.length_set
                refine ⟨u', setFrom xs (i * t.sz + o) (Act.eval ⟨us.toArray, []⟩ y').cells.toList, g1, ⟨?_, .inr ⟨b1, cap, (setFrom cur.toList (i * t.sz + o) (Act.eval ⟨us.toArray, []⟩ y').cells.toList).toArray, ?_, Nat.zero_le _, ?_, ?_, a5, ?_, ?_⟩⟩, ?_, ?_, g5⟩
                · rw [setFrom_len, hlen, hxl]
                · rw [hlen]; exact a1
                · have : cur = cur.toList.toArray := by simp
                  rw [this] at a3
                  exact setCells_at b1 e (0, 0) _ _ w _ a3
                · rw [hlen]; exact a4
                · have hct : cur.toList.length = cur.size := Array.length_toList
                  rw [List.size_toArray, setFrom_len, hct]; exact a6
                · rw [hlen, take_setFrom _ _ _ _ (by omega), a7]
                · exact Cs.ext ex _ _ (fun _ _ => rfl) (flat_set h0 g3 (fun vs hvs => (hput vs hvs).1) p2)
                · exact setFrom_one _ _ _ g4 p4
              · cases h
            · cases h
          · cases h
        · cases h
      · cases h
    · cases h
  | bs e sz len init parts =>
    have inv : ∀ {P : Program} {op : Op}, trM P op = some (.bs e sz len init parts) → ∃ t len' ps ie z l i, op = .buildSlice t len' ps ∧ P.underlying t = some (.slice e) ∧ P.info? e = some ie ∧ ie.zero = some z ∧ trParts (fun i => some (i * ie.size, ie.size)) ps.toList = some l ∧
        initD (.agg ((Array.range (len' * ie.size)).map (z.cells[· % z.cells.size]!))) = some i ∧ sz = ie.size ∧ ((len' * ie.size ≤ 16777216 ∧ 0 < len' * ie.size ∧ len = len' ∧ init = i ∧ parts = l) ∨ (len' = 0 ∧ ps.toList.length = 0 ∧ len = 0 ∧ init = [] ∧ parts = [])) := by
      intro P op ht
      cases op with
      | buildSlice t len' ps =>
        simp only [trM] at ht
        split at ht
        · rename_i e' hu
          split at ht
          · rename_i ie hie
            split at ht
            · rename_i z hz
              split at ht
              · rename_i l i hl hi
                split at ht
                · rename_i hc
                  simp only [Option.some.injEq, MO.bs.injEq] at ht
                  obtain ⟨rfl, rfl, rfl, rfl, rfl⟩ := ht
                  exact ⟨_, _, _, ie, z, _, _, rfl, hu, hie, hz, hl, hi, rfl, .inl ⟨hc.1, hc.2, rfl, rfl, rfl⟩⟩
                · split at ht
                  · rename_i hc
                    simp only [Option.some.injEq, MO.bs.injEq] at ht
                    obtain ⟨rfl, rfl, rfl, rfl, rfl⟩ := ht
                    exact ⟨_, _, _, ie, z, _, _, rfl, hu, hie, hz, hl, hi, rfl, .inr ⟨hc.1, hc.2, rfl, rfl, rfl⟩⟩
                  · cases ht
              · cases ht
            · cases ht
          · cases ht
        · cases ht
      | call c =>
        obtain ⟨cal, args, tys⟩ := c
        obtain ⟨args⟩ := args
        obtain ⟨tys⟩ := tys
        simp only [trM] at ht
        split at ht
        · repeat' split at ht
          all_goals cases ht
        · simp only [Option.map_eq_some_iff] at ht
          obtain ⟨_, _, h5⟩ := ht
          cases h5
      | alloc t =>
        simp only [trM] at ht
        split at ht
        · simp only [Option.map_eq_some_iff] at ht
          obtain ⟨_, _, h5⟩ := ht
          cases h5
        · cases ht
      | box t x =>
        simp only [trM, Option.map_eq_some_iff] at ht
        obtain ⟨_, _, h5⟩ := ht
        cases h5
      | load t x =>
        simp only [trM] at ht
        repeat' split at ht
        all_goals cases ht
      | store t x y =>
        simp only [trM] at ht
        repeat' split at ht
        all_goals cases ht
      | _ =>
        simp only [trM, Option.map_eq_some_iff] at ht
        obtain ⟨_, _, h5⟩ := ht
        cases h5
    simp only [MO.run] at h
    split at h
    · rename_i hinit
      split at h
      · rename_i y hy
        split at h
        · rename_i hsz
          split at h
          · rename_i vs hf
            split at h
            · rename_i l hl
              split at h
              · rename_i hle
                have hcells : V.ds (init.map ofD) = init := by
                  rw [V.ds_eq, List.map_map]
                  conv => rhs; rw [← List.map_id init]
                  refine List.map_congr_left fun d hd => ?_
                  have h1 := one_good (List.all_eq_true.1 hinit d hd)
                  cases d with
                  | v x => exact ofV_d x
                  | _ => cases h1
                -- what happens in the world
                have act : ∀ {P : Program} {B : Base} {X : Nat → Nat → Prop} {w : World} {σ : Pl} {n : Nat} {us : List Value} (o : Oper), trM P o.op = some (.bs e sz len init parts) → At B X w σ n S us →
                    ∃ X1 xs, At B X1 w σ n (S.fzs (partMs S.ts parts)) us ∧ Cs X1 w nowhere (l.flatMap y.cells) xs ∧ l.length = len ∧ (∀ x ∈ xs, x.oneCell' = true) ∧
                      (execOp (Act.eval ⟨us.toArray, []⟩) o).run P w = .ok (.value (.slice (some ⟨w.heap.size, 0, none⟩) len len)) (w.alloc (.cells xs.toArray e)) := by
                  intro P B X w σ n us o ht ha
                  obtain ⟨X1, ha1, ex1⟩ := ha.fzs (partMs S.ts parts)
                  obtain ⟨φ, f1, f2⟩ := fillV_val (n := n) hf ha1.rel.out
                  rw [hcells] at f1
                  obtain ⟨dst, op, ty, pos, after, guard⟩ := o
                  obtain ⟨t, len', ps, ie, z, l0, i, rfl, hu, hie, hz, hl0, hi, hsz', hc⟩ := inv ht
                  rcases hc with ⟨c1, c2, c3, c4, c5⟩ | ⟨c1, c2, c3, c4, c5⟩
                  · subst c3 c4 c5
                    have j := initD_sound (X := X1) (w := w) (σ := σ) hi
                    obtain ⟨xs, q1, q2, q3, q4⟩ := fill_sound hl0 f1 f2 ha1.rel.cs j.1 j.2
                    obtain ⟨r1, r2⟩ := Ty.rds_spec hl q2
                    refine ⟨X1, xs, ha1, r1, r2, q3, ?_⟩
                    have hrun := run_buildSlice (P := P) w t e len (ps.map fun (i, x) => (i, Act.eval ⟨us.toArray, []⟩ x)) xs.toArray ie z hu hie hz (by omega) (by omega) (by
                      rw [Array.toList_map]
                      rw [Array.toArray_toList] at q1
                      exact q1)
                    simp only [execOp, Sem.run_bind, hrun, Result.andThen_ok, Sem.run_pure]
                  · subst c1 c3 c4 c5
                    simp only [fillD, Option.some.injEq, Prod.mk.injEq] at f1
                    have r0 : Cs X1 w σ (V.ds vs) [] := by rw [← f1.1]; simp [Cs]
                    obtain ⟨r1, r2⟩ := Ty.rds_spec hl r0
                    refine ⟨X1, [], ha1, r1, r2, (fun x hx => by cases hx), ?_⟩
                    have hp0 : ps = #[] := by
                      apply Array.ext'
                      simpa using List.eq_nil_of_length_eq_zero c2
                    subst hp0
                    have ha0 : ((Array.range 0).map fun _ : Nat => (default : Value)) = #[] := by apply Array.ext'; simp
                    simp [execOp, Instr.buildSlice, run_underlying hu, sizeOf, typeInfo, hie, Instr.fill, newRow, newObj, ha0]
                    rfl
                unfold bsA at h
                split at h
                · rename_i hown
                  split at h
                  · rename_i hfr
                    refine ⟨_, _, h, fun {P B X w σ n us} o ht ha => ?_⟩
                    obtain ⟨X1, xs, ha1, r1, r2, r3, r4⟩ := act o ht ha
                    have hxl := r1.len
                    rw [flat_len] at hxl
                    have hown : ∀ X' : Nat → Nat → Prop, (∀ q, X' w.heap.size q) → Ext X1 w X' (w.alloc (.cells xs.toArray e)) → OAt X' (w.alloc (.cells xs.toArray e)) (upd σ k (.arr (.slice (some ⟨w.heap.size, 0, none⟩) len len))) k (.arr e y l) := by
                      intro X' hX' ex
                      refine ⟨_, xs, upd_self _ _ _, ⟨hxl, .inr ⟨_, len, xs.toArray, by rw [r2], Nat.zero_le _, heap_alloc_new w _, by omega, by simp only [maxLen]; omega, by simp [hxl, r2], by rw [← hxl]; simp⟩⟩, Cs.ext ex _ _ (fun _ _ => rfl) r1, r3, fun b hb q => ?_⟩
                      simp only [Value.ownBlock, Option.some.injEq] at hb
                      subst hb
                      exact hX' q
                    have exx : Ext X1 w (fun b q => X1 b q ∨ b = w.heap.size) (w.alloc (.cells xs.toArray e)) := ⟨by simp, fun b q hb hx => ⟨fun hx' => hx'.elim hx (by omega), World.cell?_of_block (w := w) (a := ⟨b, q, none⟩) (Below.heap_alloc w _ b hb)⟩⟩
                    obtain ⟨a1, a2⟩ := ha1.alloc (k := k) (o := .arr e y l) (s := .arr (.slice (some ⟨w.heap.size, 0, none⟩) len len)) (ob := .cells xs.toArray e) hfr rfl (hown _ (fun q => .inr rfl) exx)
                    refine ⟨_, _, _, _, r4, .inl ⟨_, rfl, ?_⟩, a1⟩
                    simp only [V.d, C]
                    exact ⟨upd_self _ _ _, rfl⟩
                  · cases h
                · refine ⟨_, _, h, fun {P B X w σ n us} o ht ha => ?_⟩
                  obtain ⟨X1, xs, ha1, r1, r2, r3, r4⟩ := act o ht ha
                  obtain ⟨a1, a2⟩ := ha1.row (ob := .cells xs.toArray e)
                  refine ⟨_, _, X1, σ, r4, .inl ⟨_, rfl, ?_⟩, a1⟩
                  have := row_c (e := e) (σ := σ) ha1.ti.fin r1 (by rw [flat_len]) (by simp only [maxLen]; omega) r3
                  rw [r2] at this
                  simp only [V.d, Ty.d, r2]
                  exact this
              · cases h
            · cases h
          · cases h
        · cases h
      · cases h
    · cases h
  | app e sz bytes x y =>
    have inv : ∀ {P : Program} {op : Op}, trM P op = some (.app e sz bytes x y) → ∃ t x' y' i z, op = .call ⟨.builtin .append, #[x', y'], #[t, t]⟩ ∧ P.underlying t = some (.slice e) ∧ trX x' = some x ∧ trX y' = some y ∧ P.info? e = some i ∧ i.zero = some z ∧ i.size = sz ∧ i.bytes = bytes ∧ z.cells.size = sz ∧ 0 < sz := by
      intro P op ht
      cases op with
      | call c =>
        obtain ⟨cal, args, tys⟩ := c
        obtain ⟨args⟩ := args
        obtain ⟨tys⟩ := tys
        simp only [trM] at ht
        split at ht
        · rename_i x' y' t t2
          split at ht
          · rename_i e' ax ay h1 hx hy
            split at ht
            · rename_i i hi
              split at ht
              · rename_i z hz
                split at ht
                · rename_i hcond
                  obtain ⟨rfl, hzs, hsz⟩ := hcond
                  simp only [Option.some.injEq, MO.app.injEq] at ht
                  obtain ⟨rfl, rfl, rfl, rfl, rfl⟩ := ht
                  exact ⟨_, _, _, i, z, rfl, h1, hx, hy, hi, hz, rfl, rfl, hzs, hsz⟩
                · cases ht
              · cases ht
            · cases ht
          · cases ht
        · simp only [Option.map_eq_some_iff] at ht
          obtain ⟨_, _, h5⟩ := ht
          cases h5
      | alloc t =>
        simp only [trM] at ht
        split at ht
        · simp only [Option.map_eq_some_iff] at ht
          obtain ⟨_, _, h5⟩ := ht
          cases h5
        · cases ht
      | box t x =>
        simp only [trM, Option.map_eq_some_iff] at ht
        obtain ⟨_, _, h5⟩ := ht
        cases h5
      | load t x =>
        simp only [trM] at ht
        repeat' split at ht
        all_goals cases ht
      | store t x y =>
        simp only [trM] at ht
        repeat' split at ht
        all_goals cases ht
      | buildSlice t len ps =>
        simp only [trM] at ht
        repeat' split at ht
        all_goals cases ht
      | _ =>
        simp only [trM, Option.map_eq_some_iff] at ht
        obtain ⟨_, _, h5⟩ := ht
        cases h5
    have fin : ∀ (S : VS) {P : Program} {B : Base} {X : Nat → Nat → Prop} {w : World} {σ : Pl} {n : Nat} {us : List Value} (o : Oper) (k' : Nat) (t : Ty) (l l2 : List t.T), trM P o.op = some (.app e sz bytes x y) → At B X w σ n S us → t.sz = sz → S.src t (y.xv S.ts) = some l2 → (y.xv S.ts).good = true →
        (l.length + l2.length) * (bytes + 1) ≤ 140737488355328 → S.free k' = true →
        (∀ x', trX x' = some x → ∃ xs, w.ownsRow 0 e t.sz (Act.eval ⟨us.toArray, []⟩ x') l.length xs ∧ Cs X w nowhere (l.flatMap t.cells) xs ∧ (∀ q ∈ xs, q.oneCell' = true) ∧ ∀ b, (Act.eval ⟨us.toArray, []⟩ x').ownBlock = some b → (∀ q, X b q) ∧ S.st k' ≠ .no ∧ (σ k').blk = some b) →
        Gives B P n us w o (.ms k') (S.alloc k' (.arr e t (l ++ l2))) := by
      intro S P B X w σ n us o k' t l l2 ht ha hsz hsrc hg hbr hf hxx
      obtain ⟨dst, op, ty, pos, after, guard⟩ := o
      obtain ⟨tt, x', y', i, z, rfl, h1, h2, h3, h4, h5, h6, h7, h8, h9⟩ := inv ht
      obtain ⟨xs, o1, o2, o3, o4⟩ := hxx x' h2
      have ky := xv_sound h3 hg ha.rel
      obtain ⟨A, c, news, e1, e3, e4, e5⟩ := src_spec hsrc ha ky
      have hnl := e5.len
      rw [flat_len] at hnl
      have hle : l.length + l2.length ≤ 140737488355328 := Nat.le_trans (Nat.le_mul_of_pos_right _ (by omega)) hbr
      have hle2 : (l.length + l2.length) * bytes ≤ 140737488355328 := Nat.le_trans (Nat.mul_le_mul_left _ (by omega)) hbr
      rw [hsz] at o1 hnl
      obtain ⟨v', w', row, s1, s2, s3, s4⟩ := run_append_tok (P := P) w tt ty e i z sz bytes h1 h4 h5 h6 h7 h8 h9 _ l.length xs o1 A l2.length c news hnl e3 e4 (by simp only [maxLen]; omega) hle2
      obtain ⟨X', q1, q2⟩ := ha.app (k := k') (e := e) (m := l2.length) (l := l) (l2 := l2) hf (by rw [hsz]; exact o1) o4 rfl o2 e5 (fun q hq => (List.mem_append.1 hq).elim (o3 q) (e4 q)) (by rw [hsz]; exact s2) s3 s4
      refine ⟨.value v', w', X', _, ?_, .inl ⟨v', rfl, ?_⟩, q1⟩
      · simp [execOp, resolve, invoke, builtin, e1, s1]
      · simp only [V.d, C]
        exact ⟨upd_self _ _ _, q2⟩
    have goodSrc : ∀ {t : Ty} {l2 : List t.T}, S.src t (y.xv S.ts) = some l2 → (y.xv S.ts).good = true := by
      intro t l2 hh
      generalize y.xv S.ts = v at hh
      cases v <;> first | rfl | (simp only [VS.src] at hh; cases hh)
    simp only [MO.run] at h
    split at h
    · rename_i hx
      split at h
      · rename_i t hty
        split at h
        · rename_i hsz
          split at h
          · rename_i l2 hsrc
            obtain ⟨hbr, h⟩ := br_none h
            simp only [decide_eq_true_eq] at hbr
            split at h
            · rename_i hf
              refine ⟨_, _, h, fun {P B X w σ n us} o ht ha => fin S o k t [] l2 ht ha hsz hsrc (goodSrc hsrc) hbr hf fun x' hx' => ?_⟩
              have kx := xv_sound hx' (by rw [hx]; rfl) ha.rel
              rw [hx] at kx
              have kx := (C.v kx).1
              refine ⟨[], by rw [kx]; exact World.ownsRow_nil w 0 e t.sz, by simp [Cs], (fun q hq => by cases hq), fun b hb => ?_⟩
              rw [kx] at hb
              cases hb
            · cases h
          · cases h
        · cases h
      · cases h
    · rename_i j hx
      split at h
      · rename_i e' t l hst
        split at h
        · rename_i hc
          simp only [Bool.and_eq_true, beq_iff_eq] at hc
          obtain ⟨rfl, hsz⟩ := hc
          split at h
          · rename_i l2 hsrc
            obtain ⟨hbr, h⟩ := br_none h
            simp only [decide_eq_true_eq] at hbr
            split at h
            · rename_i hf
              refine ⟨_, _, h, fun {P B X w σ n us} o ht ha => fin (S.dim j) o j t l l2 ht (ha.dim j) hsz (dim_src hsrc) (goodSrc hsrc) hbr hf fun x' hx' => ?_⟩
              have kx := xv_sound hx' (by rw [hx]; rfl) ha.rel
              rw [hx] at kx
              simp only [V.d, C] at kx
              have hat := ha.ti.obj j
              rw [hst] at hat
              obtain ⟨u', xs, g1, g2, g3, g4, g5⟩ := hat
              rw [g1] at kx
              obtain ⟨kx, _⟩ := kx
              injection kx with kx
              subst kx
              exact ⟨xs, g2, g3, g4, fun b hb => ⟨g5 b hb, by simp [VS.dim, hst, VO.dim], by rw [g1]; exact hb⟩⟩
            · cases h
          · cases h
        · cases h
      · cases h
    · cases h
end Go.Proofs.Ytnimpcffagidoaa.K
