/-
  The plain operations on typed values do what the program's do: all of them.
-/
import Derived.Test.YtnimpcffagidoaaK5
namespace Go.Proofs.Ytnimpcffagidoaa.K
open Go.RowKit
set_option linter.unusedSimpArgs false
set_option linter.unusedVariables false

section
variable {β : Type} {K : V → Option β} {r : β}
theorem nz_some {v : V} (h : nz v K = some r) : v.good = true ∧ K v = some r := by
  unfold nz at h
  split at h
  · rename_i hg; exact ⟨hg, h⟩
  · cases h
/-- what a plain operation that the values without types know makes -/
def AtD (ao : AO) (e : Env) (v : V) : Prop := ∀ n, (∀ i, n ≤ i → e i = .un) → ∃ φ : Prop, ao.ev (dts n e) = some (v.d, φ) ∧ φ
theorem AtD.mk {ao : AO} {e : Env} {v : V} (φ : Prop) (h : ∀ n, (∀ i, n ≤ i → e i = .un) → ao.ev (dts n e) = some (v.d, φ)) (hφ : φ) : AtD ao e v := fun n ho => ⟨φ, h n ho, hφ⟩
theorem binTI_spec {k : IntKind} {a b : Int} {op : BinOp} (h : binTI k a b K op = some r) : ∃ v x χ, v.good = true ∧ K v = some r ∧ binI k a b op = some (x, χ) ∧ χ ∧ v.d = .v x := by
  cases op <;> simp only [binTI] at h <;> first
    | cases h
    | exact ⟨_, _, _, rfl, h, rfl, trivial, rfl⟩
    | (obtain ⟨h1, h2⟩ := br_none h; exact ⟨_, _, _, rfl, h2, rfl, by simpa using h1, rfl⟩)
theorem binTS_spec {a b : ByteArray} {op : BinOp} (h : binTS a b K op = some r) : ∃ v x χ, v.good = true ∧ K v = some r ∧ binS a b op = some (x, χ) ∧ χ ∧ v.d = .v x := by
  cases op <;> simp only [binTS] at h <;> first
    | cases h
    | exact ⟨_, _, _, rfl, h, rfl, trivial, rfl⟩
    | (obtain ⟨h1, h2⟩ := br_none h; exact ⟨_, _, _, rfl, h2, rfl, by simpa using h1, rfl⟩)
theorem binTB_spec {a b : Bool} {op : BinOp} (h : binTB a b K op = some r) : ∃ v x χ, v.good = true ∧ K v = some r ∧ binB a b op = some (x, χ) ∧ χ ∧ v.d = .v x := by
  cases op <;> simp only [binTB] at h <;> first
    | cases h
    | exact ⟨_, _, _, rfl, h, rfl, trivial, rfl⟩
theorem binT_spec {bl : Bool} {op : BinOp} {x y : V} (h : binT bl op x y K = some r) : ∃ v a b z χ, v.good = true ∧ K v = some r ∧ x.d = .v a ∧ y.d = .v b ∧ x.good = true ∧ y.good = true ∧ binV bl op a b = some (z, χ) ∧ χ ∧ v.d = .v z := by
  unfold binT at h
  split at h
  · split at h
    · rename_i k a k' b hk
      subst hk
      obtain ⟨v, z, χ, h1, h2, h3, h4, h5⟩ := binTI_spec h
      exact ⟨v, _, _, z, χ, h1, h2, rfl, rfl, rfl, rfl, by simp only [binV, if_true, h3], h4, h5⟩
    · cases h
  · obtain ⟨v, z, χ, h1, h2, h3, h4, h5⟩ := binTS_spec h
    exact ⟨v, _, _, z, χ, h1, h2, rfl, rfl, rfl, rfl, by simp only [binV, h3], h4, h5⟩
  · split at h
    · rename_i hb
      obtain ⟨v, z, χ, h1, h2, h3, h4, h5⟩ := binTB_spec h
      exact ⟨v, _, _, z, χ, h1, h2, rfl, rfl, rfl, rfl, by simp only [binV, hb, if_true, h3], h4, h5⟩
    · cases h
  · cases h
theorem ixT_some {sz : Nat} {y : Ty} {l : List y.T} {j : Int} (h : ixT sz y l j K = some r) : y.sz = sz ∧ (0 ≤ j ∧ j < (l.length : Nat)) ∧ K (.el y (l.getD j.toNat y.zero) 0) = some r := by
  unfold ixT at h
  split at h
  · rename_i hsz
    obtain ⟨h1, h2⟩ := br_none h
    exact ⟨hsz, by simpa only [decide_eq_true_eq] using h1, h2⟩
  · cases h
theorem ixM_some {sz k : Nat} {y : Ty} {l : List y.T} {j : Int} (h : ixM sz k y l j K = some r) : y.sz = sz ∧ (0 ≤ j ∧ j < (l.length : Nat)) ∧ K (.pa sz k j.toNat 0) = some r := by
  unfold ixM at h
  split at h
  · rename_i hsz
    obtain ⟨h1, h2⟩ := br_none h
    exact ⟨hsz, by simpa only [decide_eq_true_eq] using h1, h2⟩
  · cases h
theorem sxT_some {z : ByteArray} {j : Int} (h : sxT z j K = some r) : (0 ≤ j ∧ j < (z.size : Nat)) ∧ K (.t (.int .u8) (((z.data.toList.getD j.toNat 0).toNat : Nat) : Int)) = some r := by
  obtain ⟨h1, h2⟩ := br_none h
  exact ⟨by simpa only [decide_eq_true_eq] using h1, h2⟩
theorem slcT_some {y : Ty} {l : List y.T} {a q m : Int} (h : slcT y l a q m K = some r) : (0 ≤ a ∧ a ≤ q ∧ q ≤ m ∧ m ≤ (l.length : Nat)) ∧ K (.t (.sl y) ((l.drop a.toNat).take (q.toNat - a.toNat))) = some r := by
  obtain ⟨h1, h2⟩ := br_none h
  exact ⟨by simpa only [decide_eq_true_eq] using h1, h2⟩
theorem slsT_some {z : ByteArray} {a q : Int} (h : slsT z a q K = some r) : (0 ≤ a ∧ a ≤ q ∧ q ≤ (z.size : Nat)) ∧ K (.t .str (z.extract a.toNat q.toNat)) = some r := by
  obtain ⟨h1, h2⟩ := br_none h
  exact ⟨by simpa only [decide_eq_true_eq] using h1, h2⟩
theorem one_good {v : V} (h : v.one = true) : v.good = true := by cases v <;> first | rfl | cases h
theorem drop_cells (y : Ty) {l : List y.T} {j : Int} (h0 : 0 ≤ j) (h1 : j < l.length) : (l.flatMap y.cells).drop (j.toNat * y.sz) = y.cells (l.getD j.toNat y.zero) ++ (l.drop (j.toNat + 1)).flatMap y.cells := by
  have hlt : j.toNat < l.length := by omega
  rw [flat_drop, List.drop_eq_getElem_cons hlt, List.flatMap_cons, List.getD_eq_getElem?_getD, List.getElem?_eq_getElem hlt]
  rfl
theorem C.el_take {X : Nat → Nat → Prop} {w : World} {σ : Pl} {u : Value} {a z : List D} (h : C X w σ (.el (a ++ z)) u) : C X w σ (.el a) u := by
  simp only [C] at h ⊢
  obtain ⟨b, off, vs, h1, h2, h3⟩ := h
  refine ⟨b, off, vs.take a.length, h1, ?_, h3.take_ _⟩
  have := h2.take_ a.length
  rwa [List.take_left] at this
set_option maxRecDepth 100000 in
theorem ao_sound {S : VS} {ao : AO} (h : ao.run S K = some r) :
    ∃ v, v.good = true ∧ K v = some r ∧ ∀ {P : Program} {X : Nat → Nat → Prop} {w : World} {σ : Pl} {n : Nat} {us : List Value} (o : Oper), tr P o.op = some ao → Rel X w σ n S.ts us → (∀ k, OAt X w σ k (S.st k)) →
      ∃ u, (execOp (Act.eval ⟨us.toArray, []⟩) o).run P w = .ok (.value u) w ∧ C X w σ v.d u := by
  have byD : ∀ v, v.good = true → K v = some r → AtD ao S.ts v → ∃ v, v.good = true ∧ K v = some r ∧ ∀ {P : Program} {X : Nat → Nat → Prop} {w : World} {σ : Pl} {n : Nat} {us : List Value} (o : Oper), tr P o.op = some ao → Rel X w σ n S.ts us → (∀ k, OAt X w σ k (S.st k)) →
      ∃ u, (execOp (Act.eval ⟨us.toArray, []⟩) o).run P w = .ok (.value u) w ∧ C X w σ v.d u := by
    intro v h1 h2 h3
    refine ⟨v, h1, h2, fun o ht hr _ => ?_⟩
    obtain ⟨φ, q1, q2⟩ := h3 _ hr.out
    exact ev_sound o ht q1 q2 hr.cs
  cases ao with
  | mv x =>
    obtain ⟨h1, h2⟩ := nz_some h
    exact byD _ h1 h2 fun n ho => ⟨True, by simp only [AO.ev, xv_val h1 ho], trivial⟩
  | pick c a b =>
    simp only [AO.run] at h
    split at h
    · rename_i q hq
      rcases br_some h with ⟨rfl, h⟩ | ⟨rfl, h⟩
      · obtain ⟨h1, h2⟩ := nz_some h
        refine ⟨_, h1, h2, fun o ht hr _ => ?_⟩
        obtain ⟨dst, op, ty, pos, after, guard⟩ := o
        obtain ⟨c', a', b', h3, h4, h5, h6⟩ := tr_pick ht
        simp only at h3
        subst h3
        have k1 := xv_sound h4 (by rw [hq]; rfl) hr
        rw [hq] at k1
        have k2 := C.v k1
        exact ⟨_, by simp [execOp, k2.1, asBool], xv_sound h5 h1 hr⟩
      · obtain ⟨h1, h2⟩ := nz_some h
        refine ⟨_, h1, h2, fun o ht hr _ => ?_⟩
        obtain ⟨dst, op, ty, pos, after, guard⟩ := o
        obtain ⟨c', a', b', h3, h4, h5, h6⟩ := tr_pick ht
        simp only at h3
        subst h3
        have k1 := xv_sound h4 (by rw [hq]; rfl) hr
        rw [hq] at k1
        have k2 := C.v k1
        exact ⟨_, by simp [execOp, k2.1, asBool], xv_sound h6 h1 hr⟩
    · cases h
  | fa off x =>
    simp only [AO.run] at h
    split at h
    · rename_i k o hx
      exact byD _ rfl h fun n ho => ⟨True, by simp only [AO.ev, xv_is hx rfl ho, V.d], trivial⟩
    · rename_i sz k i o hx
      exact byD _ rfl h fun n ho => ⟨True, by simp only [AO.ev, xv_is hx rfl ho, V.d, Nat.add_assoc], trivial⟩
    · rename_i y z o hx
      exact byD _ rfl h fun n ho => ⟨True, by simp only [AO.ev, xv_is hx rfl ho, V.d, List.drop_drop], trivial⟩
    · cases h
  | fd agg off m x =>
    simp only [AO.run] at h
    split at h
    · rename_i hrow
      split at h
      · rename_i v hs
        obtain ⟨h1, h2⟩ := nz_some h
        obtain ⟨q1, q2⟩ := V.sub_spec hs
        have hg : (x.xv S.ts).good = true := by
          generalize x.xv S.ts = z at hrow
          cases z <;> first | rfl | cases hrow
        refine byD _ h1 h2 fun n ho => ⟨True, ?_, trivial⟩
        have hv := xv_val (n := n) hg ho
        rw [V.d_row _ hrow] at hv
        cases agg with
        | true => simp only [AO.ev, hv, (q1 rfl).1]
        | false => simp only [AO.ev, hv, q2 rfl]
      · cases h
    · cases h
  | ix sz x i =>
    simp only [AO.run] at h
    split at h
    · rename_i k j hj
      split at h
      · rename_i y l hx
        obtain ⟨hsz, h1, h2⟩ := ixT_some h
        refine ⟨_, rfl, h2, fun {P X w σ n us} o ht hr _ => ?_⟩
        have e1 : AO.ev (dts n S.ts) (.ix sz x i) = some (.el ((List.flatMap y.cells l).drop (Int.toNat j * sz)), True ∧ True ∧ (0 : Int) ≤ j ∧ (j : Int) < (List.length l : Nat)) := by
          simp only [AO.ev, xv_is hx rfl hr.out, xv_is hj rfl hr.out, V.d, Ty.d]
        obtain ⟨u, q1, q2⟩ := ev_sound o ht e1 ⟨trivial, trivial, h1⟩ hr.cs
        refine ⟨u, q1, ?_⟩
        rw [← hsz, drop_cells y h1.1 h1.2] at q2
        simp only [V.d, List.drop_zero]
        exact C.el_take q2
      · rename_i k hx
        split at h
        · rename_i e y l hst
          obtain ⟨hsz, h1, h2⟩ := ixM_some h
          refine ⟨_, rfl, h2, fun {P X w σ n us} o ht hr hO => ?_⟩
          obtain ⟨dst, op, ty, pos, after, guard⟩ := o
          obtain ⟨t, o1, o2, e', inf, rfl, g1, g2, g3, g4, rfl⟩ := tr_ix ht
          have k1 := xv_sound g2 (by rw [hx]; rfl) hr
          have k2 := xv_sound g3 (by rw [hj]; rfl) hr
          rw [hx] at k1
          rw [hj] at k2
          have k2 := (C.v k2).1
          simp only [V.d, C] at k1
          have hat := hO k
          rw [hst] at hat
          obtain ⟨u, xs, a1, a2, a3, a4, a5⟩ := hat
          rw [k1.1] at a1
          injection a1 with a1
          subst a1
          rcases a2.2 with ⟨_, a6⟩ | ⟨g, cap, cur, a6, _⟩
          · have h3 := h1.2
            rw [a6] at h3
            have h4 := h1.1
            exact absurd (Int.lt_of_le_of_lt h4 h3) (by simp)
          · refine ⟨.pointer (some ⟨g, Int.toNat j * inf.size, none⟩), ?_, ?_⟩
            · have p1 : (0 : Int) ≤ j := h1.1
              have p2 : (j : Int) < (List.length l : Nat) := h1.2
              simp [execOp, a6, k2, Instr.indexAt, asIntOf, run_underlying g1, p1, p2, sizeOf, typeInfo, g4, Addr.add_mid]
            · simp only [V.d, C, Nat.add_zero]
              exact ⟨_, g, k1.1, by rw [a6]; rfl, rfl⟩
        · cases h
      · cases h
    · cases h
  | sx x i =>
    simp only [AO.run] at h
    split at h
    · rename_i z k j hx hj
      obtain ⟨h1, h2⟩ := sxT_some h
      exact byD _ rfl h2 (AtD.mk (True ∧ True ∧ (0 : Int) ≤ j ∧ (j : Int) < (ByteArray.size z : Nat)) (fun n ho => by simp only [AO.ev, xv_is hx rfl ho, xv_is hj rfl ho, V.d, Ty.d]) ⟨trivial, trivial, h1⟩)
    · cases h
  | bin bl op x y =>
    obtain ⟨v, a, b, z, χ, h1, h2, h3, h4, h5, h6, h7, h8, h9⟩ := binT_spec h
    refine byD v h1 h2 (AtD.mk (True ∧ True ∧ χ) (fun n ho => ?_) ⟨trivial, trivial, h8⟩)
    have hx := xv_val (n := n) h5 ho
    have hy := xv_val (n := n) h6 ho
    rw [h3] at hx
    rw [h4] at hy
    simp only [AO.ev, hx, hy, h7, h9]
  | nc x =>
    simp only [AO.run] at h
    split at h
    · rename_i k o hx
      exact byD _ rfl h fun n ho => ⟨True, by simp only [AO.ev, xv_is hx rfl ho, V.d], trivial⟩
    · rename_i sz k i o hx
      exact byD _ rfl h fun n ho => ⟨True, by simp only [AO.ev, xv_is hx rfl ho, V.d], trivial⟩
    · cases h
  | nt x =>
    simp only [AO.run] at h
    split at h
    · rename_i q hx
      exact byD _ rfl h fun n ho => ⟨True, by simp only [AO.ev, xv_is hx rfl ho, V.d, Ty.d], trivial⟩
    · cases h
  | ng x =>
    simp only [AO.run] at h
    split at h
    · rename_i k q hx
      exact byD _ rfl h fun n ho => ⟨True, by simp only [AO.ev, xv_is hx rfl ho, V.d, Ty.d], trivial⟩
    · cases h
  | cv k x =>
    simp only [AO.run] at h
    split at h
    · rename_i k' q hx
      exact byD _ rfl h fun n ho => ⟨True, by simp only [AO.ev, xv_is hx rfl ho, V.d, Ty.d], trivial⟩
    · cases h
  | ext i x =>
    simp only [AO.run] at h
    split at h
    · rename_i vs hx
      split at h
      · rename_i v hv
        obtain ⟨h1, h2⟩ := nz_some h
        exact byD _ h1 h2 fun n ho => ⟨True, by simp only [AO.ev, xv_is hx rfl ho, V.d, V.ds_eq, List.getElem?_map, hv, Option.map_some], trivial⟩
      · cases h
    · cases h
  | len q x =>
    cases q with
    | true =>
      simp only [AO.run] at h
      split at h
      · rename_i z hx
        exact byD _ rfl h fun n ho => ⟨True, by simp only [AO.ev, xv_is hx rfl ho, V.d, Ty.d], trivial⟩
      · cases h
    | false =>
      simp only [AO.run] at h
      split at h
      · rename_i y l hx
        exact byD _ rfl h fun n ho => ⟨True, by simp only [AO.ev, xv_is hx rfl ho, V.d, Ty.d], trivial⟩
      · rename_i A m c hx
        exact byD _ rfl h fun n ho => ⟨True, by simp only [AO.ev, xv_is hx rfl ho, V.d, Ty.d], trivial⟩
      · rename_i k hx
        split at h
        · rename_i e y l hst
          refine ⟨_, rfl, h, fun o ht hr hO => ?_⟩
          obtain ⟨dst, op, ty, pos, after, guard⟩ := o
          obtain ⟨o1, t, e', h3, g1, g2⟩ := tr_len ht
          simp only at h3
          subst h3
          have k1 := xv_sound g2 (by rw [hx]; rfl) hr
          rw [hx] at k1
          simp only [V.d, C] at k1
          have hat := hO k
          rw [hst] at hat
          obtain ⟨u, xs, a1, a2, a3, a4, a5⟩ := hat
          rw [k1.1] at a1
          injection a1 with a1
          subst a1
          rcases a2.2 with ⟨a6, a7⟩ | ⟨g, cap, cur, a6, _⟩
          · refine ⟨_, by simp [execOp, resolve, invoke, builtin, a6, Builtin.len_, run_underlying g1, goInt]; rfl, ?_⟩
            rw [a7]
            exact C.mkv rfl
          · exact ⟨_, by simp [execOp, resolve, invoke, builtin, a6, Builtin.len_, run_underlying g1, goInt], C.mkv rfl⟩
        · cases h
      · cases h
  | mx x y =>
    simp only [AO.run] at h
    split at h
    · rename_i k a k' b hx hy
      split at h
      · rename_i hk
        exact byD _ rfl h (AtD.mk (True ∧ True) (fun n ho => by simp only [AO.ev, xv_is hx rfl ho, xv_is hy rfl ho, V.d, Ty.d, hk, if_true]) ⟨trivial, trivial⟩)
      · cases h
    · cases h
  | mn x y =>
    simp only [AO.run] at h
    split at h
    · rename_i k a k' b hx hy
      split at h
      · rename_i hk
        exact byD _ rfl h (AtD.mk (True ∧ True) (fun n ho => by simp only [AO.ev, xv_is hx rfl ho, xv_is hy rfl ho, V.d, Ty.d, hk, if_true]) ⟨trivial, trivial⟩)
      · cases h
    · cases h
  | eqs neg ks x y =>
    simp only [AO.run] at h
    split at h
    · rename_i hrow
      simp only [Bool.and_eq_true] at hrow
      split at h
      · rename_i q hq
        have hg : ∀ z : V, z.row = true → z.good = true := fun z hz => by cases z <;> first | rfl | cases hz
        refine byD _ rfl h (AtD.mk (True ∧ True) (fun n ho => ?_) ⟨trivial, trivial⟩)
        have hx := xv_val (n := n) (hg _ hrow.1) ho
        have hy := xv_val (n := n) (hg _ hrow.2) ho
        rw [V.d_row _ hrow.1] at hx
        rw [V.d_row _ hrow.2] at hy
        have := eqTs_spec hq
        rw [V.cells_ds, V.cells_ds] at this
        simp only [AO.ev, hx, hy, this, V.d, Ty.d]
      · cases h
    · cases h
  | slc sz x lo hi top =>
    simp only [AO.run] at h
    split at h
    · rename_i y l hx
      split at h
      · rename_i hsz
        split at h
        · rename_i a q m e1 e2 e3
          obtain ⟨h1, h2⟩ := slcT_some h
          refine byD _ rfl h2 (AtD.mk (True ∧ True ∧ True ∧ True ∧ 0 ≤ a ∧ a ≤ q ∧ q ≤ m ∧ m ≤ (List.length l : Nat)) (fun n ho => ?_) ⟨trivial, trivial, trivial, trivial, h1⟩)
          simp only [AO.ev, xv_is hx rfl ho, V.d, Ty.d, bndV_val e1 ho, bndV_val e2 ho, bndV_val e3 ho]
          subst hsz
          rw [flat_drop, flat_take]
          have : (List.take (q.toNat - a.toNat) (List.drop a.toNat l)).length = q.toNat - a.toNat := by
            rw [List.length_take, List.length_drop]
            omega
          rw [this]
        · cases h
      · cases h
    · rename_i hx
      split at h
      · rename_i a q m e1 e2 e3
        obtain ⟨h1, h2⟩ := br_none h
        simp only [decide_eq_true_eq] at h1
        refine byD _ rfl h2 (AtD.mk (True ∧ True ∧ True ∧ True ∧ a = 0 ∧ q = 0 ∧ m = 0) (fun n ho => ?_) ⟨trivial, trivial, trivial, trivial, h1⟩)
        simp only [AO.ev, xv_is hx rfl ho, V.d, bndV_val e1 ho, bndV_val e2 ho, bndV_val e3 ho]
      · cases h
    · cases h
  | sls x lo hi =>
    simp only [AO.run] at h
    split at h
    · rename_i z hx
      split at h
      · rename_i a q e1 e2
        obtain ⟨h1, h2⟩ := slsT_some h
        refine byD _ rfl h2 (AtD.mk (True ∧ True ∧ True ∧ 0 ≤ a ∧ a ≤ q ∧ q ≤ (ByteArray.size z : Nat)) (fun n ho => ?_) ⟨trivial, trivial, trivial, h1⟩)
        simp only [AO.ev, xv_is hx rfl ho, V.d, Ty.d, bndV_val e1 ho, bndV_val e2 ho]
      · cases h
    · cases h
  | bd init parts =>
    simp only [AO.run] at h
    split at h
    · rename_i hi
      split at h
      · rename_i vs hf
        refine byD _ rfl h fun n ho => ?_
        obtain ⟨φ, q1, q2⟩ := fillV_val hf ho
        have : V.ds (init.map ofD) = init := by
          rw [V.ds_eq, List.map_map]
          conv => rhs; rw [← List.map_id init]
          refine List.map_congr_left fun d hd => ?_
          have h1 := one_good (List.all_eq_true.1 hi d hd)
          cases d with
          | v x => exact ofV_d x
          | _ => cases h1
        rw [this] at q1
        exact ⟨φ, by simp only [AO.ev, q1, V.d], q2⟩
      · cases h
    · cases h
  | lde agg n x => cases h
end
end Go.Proofs.Ytnimpcffagidoaa.K
