/-
  The dice of the statements, as contracts in values.
-/
import Derived.Test.YtnimpcffagidoaaIr
import Derived.Test.YtnimpcffagidoaaMoveLedger
namespace Go.Proofs.Ytnimpcffagidoaa
open Go.RowKit
set_option linter.unusedSimpArgs false
set_option linter.unusedVariables false
attribute [local go_sem ↓] Go.wp_at_zero Go.wp_at_succ

set_option maxHeartbeats 400000 in
theorem next_ex (t : TypeId) (g : Nat) (A : Option Addr) (len cap p : Nat) (zs : List Int) (n : Int) (w : World) (hb : Blk w g t #[.slice A len cap, .int .i64 p]) (hp : p ≤ len) (hl : len ≤ 400)
    (hc : ∀ i, i < len → ∃ b off, A = some ⟨b, off, none⟩ ∧ b ≠ g ∧ w.cell? ⟨b, off + i, none⟩ = some (.int .i64 (zs.getD i 0))) (hn : 0 < n) (hn2 : n ≤ 1000000000) :
    Calls Try.prog 25 #[.pointer (some ⟨g, 0, none⟩), .int .i64 n] w fun e w' => ∃ (v : Int) (p' : Nat), 0 ≤ v ∧ v < n ∧ e = .returned (.int .i64 v) ∧ p ≤ p' ∧ p' ≤ len ∧ w.grownBy w' (some g) ∧ Blk w' g t #[.slice A len cap, .int .i64 p'] := by
  have c0 := hb.cell 0
  have c1 := hb.cell 1
  have f1 := hb.frozen 1
  have hv0 := Int.emod_nonneg (zs.getD p 0) (show n ≠ 0 by omega)
  have hv1 := Int.emod_lt_of_pos (zs.getD p 0) hn
  have HB0 := Lib.hid hb
  by_cases hlt : p < len
  · obtain ⟨b, off, rfl, hne, hci⟩ := hc p hlt
    have hs := hb.set_ 1 (.int .i64 ((p : Int) + 1))
    have hbl : (w.setCell ⟨g, 1, none⟩ (.int .i64 ((p : Int) + 1))).cell? ⟨b, off + p, none⟩ = some (.int .i64 (zs.getD p 0)) := by
      rw [World.cell?_setCell_other _ _ _ _ (by simp [hne])]; exact hci
    have HL := Lib.hid hs
    have HV0 := Lib.hid hv0
    have HV1 := Lib.hid hv1
    generalize hz0 : zs.getD p 0 = z at *
    clear hc hs hz0 hv0 hv1
    go_enter Try.func25, Try.ntmps25
    go_wp2_with fail
    go_quiet (fail)
    go_wp2_with fail
    have hgr : w.grownBy ((w.drewN nq).setCell ⟨g, 1, none⟩ (.int .i64 ((p : Int) + 1))) (some g) := only_setCell (only_drewN (World.grownBy.refl _ _) _) (.inl rfl) _
    have hd2 : Blk ((w.drewN nq).setCell ⟨g, 1, none⟩ (.int .i64 ((p : Int) + 1))) g t #[.slice (some ⟨b, off, none⟩) len cap, .int .i64 ((p : Int) + 1)] := HL.out
    have HD2 := Lib.hid hd2
    have k0 := hd2.cell 0
    have k1 := hd2.cell 1
    have kb : ((w.drewN nq).setCell ⟨g, 1, none⟩ (.int .i64 ((p : Int) + 1))).cell? ⟨b, off + p, none⟩ = some (.int .i64 z) := hbl
    simp only [List.getElem?_toArray, List.getElem?_cons_zero, List.getElem?_cons_succ] at k0 k1
    generalize (w.drewN nq).setCell ⟨g, 1, none⟩ (.int .i64 ((p : Int) + 1)) = W2 at *
    clear c0 c1 f1 hci hbl hb hd2
    go_quiet ((go_at_call 20; exact quiet_left (mod_any z n _ hn (by omega))))
    go_wp2
    go_ret
    exact ⟨z % n, p + 1, HV0.out, HV1.out, rfl, by omega, by omega, only_drewN hgr _, HD2.out.drewN _⟩
  · clear hc hv0 hv1 hb
    go_enter Try.func25, Try.ntmps25
    go_wp2_with fail
    go_quiet (fail)
    go_wp2
    go_ret
    exact ⟨0, p, Int.le_refl _, hn, rfl, Nat.le_refl _, hp, only_drewN (World.grownBy.refl _ _) _, HB0.out.drewN _⟩

/-- the cells of dice -/
def diceD (zs : List Int) (p : Nat) : List D := [.sl none zs.length (zs.map D.i), .i p]
/-- the pointer to a thing that was handed in -/
abbrev ptr (g : Nat) : D := .v (.pointer (some ⟨g, 0, none⟩))

section
variable {X : Nat → Nat → Prop} {w w' : World} {σ : List SC}
theorem cs_ints : ∀ {zs : List Int} {vs : List Value}, Cs X w σ (zs.map D.i) vs → vs = zs.map (Value.int .i64)
  | [], vs, h => by simpa only [Cs, List.map_nil] using h
  | z :: zs, vs, h => by
    simp only [Cs, List.map_cons] at h
    obtain ⟨u, us, rfl, h1, h2⟩ := h
    rw [h1.v.1, cs_ints h2]
    rfl
theorem ints_cs : ∀ (zs : List Int), Cs X w σ (zs.map D.i) (zs.map (Value.int .i64))
  | [] => by simp [Cs]
  | z :: zs => by simp only [Cs, List.map_cons]; exact ⟨_, _, rfl, C.mkv rfl, ints_cs zs⟩
/-- a call that writes one block alone -/
theorem left_one {g : Nat} {cs cs' : List D} (hfin : ∀ b o, X b o → b < w.heap.size) (hX : ∀ o, X g o) (hg : w.grownBy w' (some g)) (hb : BoxAt X w' [] g cs') : Left X w [.box g cs] X w' [.box g cs'] :=
  ⟨fun b o hx => Nat.lt_of_lt_of_le (hfin b o hx) hg.size, fun _ _ _ => Iff.rfl, ⟨(fun o ho => by simp only [List.mem_singleton] at ho; subst ho; exact ⟨hb, hX⟩), by simp [names]⟩, fun b hb => .inl hb,
    ⟨hg.os, hg.tape, hg.output, hg.size, fun b hb hn => hg.block b hb (fun e => hn (by injection e with e; simp [names, NO.block, e]))⟩⟩
/-- a call that only makes new memory -/
theorem left_none (hfin : ∀ b o, X b o → b < w.heap.size) (hb : Below w.heap.size w w') : Left X w [] X w' [] :=
  ⟨fun b o hx => Nat.lt_of_lt_of_le (hfin b o hx) hb.size, fun _ _ _ => Iff.rfl, ⟨(fun o ho => by cases ho), by simp [names]⟩, fun b hb => by simp [names] at hb, ⟨hb.os, hb.tape, hb.output, hb.size, fun b hlt _ => hb.block b hlt⟩⟩
end

theorem next_spec (zs : List Int) (p : Nat) (n : Int) (g : Nat) (hp : p ≤ zs.length) (hl : zs.length ≤ 400) (hn : 0 < n) (hn2 : n ≤ 1000000000) :
    ACalls Try.prog 25 [.box g (diceD zs p)] [ptr g, .i n] (fun r nl => ∃ (v : Int) (p' : Nat), 0 ≤ v ∧ v < n ∧ p' ≤ zs.length ∧ r = .i v ∧ nl = [.box g (diceD zs p')]) := by
  intro X w vs hfin hnin hvs
  simp only [Cs] at hvs
  obtain ⟨u1, us1, rfl, h1, u2, us2, rfl, h2, rfl⟩ := hvs
  rw [h1.v.1, h2.v.1]
  obtain ⟨⟨t, vs, hh, hcs⟩, hX⟩ := hnin.at_ _ (List.mem_singleton.2 rfl)
  simp only [diceD, Cs] at hcs
  obtain ⟨v1, vs1, rfl, c1, v2, vs2, rfl, c2, rfl⟩ := hcs
  have c1' := c1
  simp only [C] at c1
  obtain ⟨⟨A, c, rfl, q2, q3, q4, q5⟩, _⟩ := c1
  have hv2 := c2.v.1
  subst hv2
  have hb : Blk w g t #[.slice A zs.length c, .int .i64 p] := hh
  refine (next_ex t g A zs.length c p zs n w hb hp hl (fun i hi => ?_) hn hn2).mono ?_
  · obtain ⟨b, off, xs, e1, e2, e3⟩ := q5 (by omega)
    have hxs := cs_ints e2
    subst hxs
    refine ⟨b, off, e1, fun he => ?_, ?_⟩
    · subst he
      have := e3.nx i (by simpa using hi)
      exact this (hX _)
    · refine e3.at_ i _ ?_
      rw [List.getElem?_map, List.getElem?_eq_getElem hi, List.getD_eq_getElem?_getD, List.getElem?_eq_getElem hi]
      rfl
  · rintro e w' ⟨v, p', e1, e2, rfl, e4, e5, e6, e7⟩
    have hfr : ∀ b, b < w.heap.size → b ≠ g → w'.heap[b]? = w.heap[b]? := fun b hb hne => e6.block b hb (fun he => hne (by injection he))
    have ext : Ext X w [] X w' [] := ⟨e6.size, fun b o hb hx => ⟨hx, World.cell?_of_block (w := w) (a := ⟨b, o, none⟩) (hfr b hb (fun he => hx (he ▸ hX o)))⟩, fun k b hk => by simp at hk, fun k g u hk => by simp at hk⟩
    exact ⟨.i v, _, X, _, rfl, ⟨v, p', e1, e2, e5, rfl, rfl⟩, C.mkv rfl, left_one hfin hX e6 ⟨t, _, e7, by simp only [diceD, Cs]; exact ⟨_, _, rfl, C.ext ext _ _ c1', _, _, rfl, C.mkv rfl, rfl⟩⟩⟩

set_option maxRecDepth 100000 in
theorem light_spec (n : Nat) (cs : List D) : ACalls Try.prog 15 [] [.sl none n cs] (fun r nl => r = .b (decide (n ≤ 400)) ∧ nl = []) := by
  refine fn_make_Light fun B => ?_
  unfold ir_make_Light
  repeat (first | exact trivial | refine jl_nx ?_ | (refine jl_nil ?_; simp only [thenQ, inQ, reduceIte, Nat.reduceEqDiff, reduceCtorEq]) | refine jv_sq ?_ | refine jv_bk ?_ | refine jv_reg ?_ | refine jv_skn ?_ | (refine jv_sk ?_; simp only [thenQ, inQ, reduceIte, Nat.reduceEqDiff, reduceCtorEq]) | (refine jl_m_ ?_; (refine jl_run 200 (by simp (disch := omega) only [arun, MO.ev, AO.ev, AX.val, setD, geff, MO.reads, List.getElem?_cons_zero, List.getElem?_cons_succ, List.getElem?_nil, List.set_cons_zero, List.set_cons_succ, D.cells, D.cellable, D.cell1, List.length_nil, List.length_cons, List.nil_append, List.cons_append, Nat.zero_add, Nat.add_zero, Nat.reduceAdd, Nat.reduceSub, binV, binI, binS, binB, pickV, Option.map_some, if_true, if_false, Bool.false_eq_true, reduceCtorEq, List.drop_zero, List.drop_succ_cons, List.take_succ_cons, List.take_zero, List.take_nil, setFrom, beq_true, beq_false, Bool.cond_false_right, Bool.cond_true_left, Bool.cond_true_right, Bool.cond_false_left, Bool.cond_true, Bool.cond_false, Bool.not_true, Bool.not_false, Bool.and_true, Bool.true_and, Bool.and_false, Bool.false_and, and_true, true_and, imp_self, implies_true, List.all_cons, List.all_nil, Nat.reduceLeDiff, Nat.le_refl, forall_const, and_self, true_implies, false_implies, ge_iff_le, gt_iff_lt, resV, RV.ev, resD, vals, D.bare1, D.bare, List.map_cons, List.map_nil, eqKs, eqK, fillD, bndD, srcD, D.cl0, List.length_set, eq_self, IntWalk.i64_in]; exact rfl) ?side ?_; try (case side => (first | exact trivial | (simp; done) | omega | (intro h; simp [h]; done) | (intro h; simp at h; simp; omega) | (intros; simp_all; done) | (intros; simp_all; omega) | (refine ⟨?_, ?_⟩; (simp [maxLen]); (simp [cellsD_len]; omega)) | (refine ⟨?_, ?_, ?_⟩ <;> (first | (simp [maxLen]; done) | (simp [cellsD_len]; done) | (simp [maxLen, cellsD_len]; omega) | omega)))))) )
  (refine jv_rt ?_; refine ⟨.inl rfl, _, _, by simp (disch := omega) only [arun, MO.ev, AO.ev, AX.val, setD, geff, MO.reads, List.getElem?_cons_zero, List.getElem?_cons_succ, List.getElem?_nil, List.set_cons_zero, List.set_cons_succ, D.cells, D.cellable, D.cell1, List.length_nil, List.length_cons, List.nil_append, List.cons_append, Nat.zero_add, Nat.add_zero, Nat.reduceAdd, Nat.reduceSub, binV, binI, binS, binB, pickV, Option.map_some, if_true, if_false, Bool.false_eq_true, reduceCtorEq, List.drop_zero, List.drop_succ_cons, List.take_succ_cons, List.take_zero, List.take_nil, setFrom, beq_true, beq_false, Bool.cond_false_right, Bool.cond_true_left, Bool.cond_true_right, Bool.cond_false_left, Bool.cond_true, Bool.cond_false, Bool.not_true, Bool.not_false, Bool.and_true, Bool.true_and, Bool.and_false, Bool.false_and, and_true, true_and, imp_self, implies_true, List.all_cons, List.all_nil, Nat.reduceLeDiff, Nat.le_refl, forall_const, and_self, true_implies, false_implies, ge_iff_le, gt_iff_lt, resV, RV.ev, resD, vals, D.bare1, D.bare, List.map_cons, List.map_nil, eqKs, eqK, fillD, bndD, srcD, D.cl0, List.length_set, eq_self, IntWalk.i64_in]; exact rfl, by (first | exact trivial | (simp; done) | omega | (intro h; simp [h]; done) | (intro h; simp at h; simp; omega) | (intros; simp_all; done) | (intros; simp_all; omega) | (refine ⟨?_, ?_⟩; (simp [maxLen]); (simp [cellsD_len]; omega)) | (refine ⟨?_, ?_, ?_⟩ <;> (first | (simp [maxLen]; done) | (simp [cellsD_len]; done) | (simp [maxLen, cellsD_len]; omega) | omega))), by first | rfl | (simp [D.cl1, D.cl0]; done), ?_⟩; simp only [resD, D.bare1, D.bare, List.map_cons, List.map_nil])
  refine ⟨D.b_congr ?_, trivial⟩
  simp
  omega

theorem roll_spec (n : Nat) (cs : List D) : ACalls Try.prog 17 [] [.sl none n cs] (fun r nl => ∃ g, r = ptr g ∧ nl = [.box g [.sl none n cs, .i 0]]) := by
  intro X w vs hfin hnin hvs
  simp only [Cs] at hvs
  obtain ⟨u1, us1, rfl, h1, rfl⟩ := hvs
  have h1' := h1
  simp only [C] at h1
  obtain ⟨⟨A, c, rfl, _⟩, _⟩ := h1
  refine (roll_any A n c w).mono ?_
  rintro e w' ⟨rfl, rfl⟩
  have ext : Ext X w [] (fun b o => X b o ∨ b = w.heap.size) (w.alloc (.cells #[.slice A n c, .int .i64 0] 79)) [] :=
    ⟨by simp, fun b o hb hx => ⟨fun q => q.elim hx (by omega), World.cell?_of_block (w := w) (a := ⟨b, o, none⟩) (Below.heap_alloc w _ b hb)⟩, fun k b hk => by simp at hk, fun k g u hk => by simp at hk⟩
  refine ⟨ptr w.heap.size, _, (fun b o => X b o ∨ b = w.heap.size), _, rfl, ⟨_, rfl, rfl⟩, C.mkv rfl, ⟨?_, fun b o hb => ⟨fun q => q.resolve_right (by omega), .inl⟩, ⟨?_, by simp [names]⟩, fun b hb => .inr ?_, Fr.alloc _ w _⟩⟩
  · rintro b o (q | rfl)
    · have := hfin b o q; simp; omega
    · simp
  · intro o ho
    simp only [List.mem_singleton] at ho
    subst ho
    refine ⟨⟨_, [.slice A n c, .int .i64 0], heap_alloc_new w _, ?_⟩, fun o => .inr rfl⟩
    simp only [Cs]
    exact ⟨_, _, rfl, C.ext ext _ _ h1', _, _, rfl, C.mkv rfl, rfl⟩
  · simp only [names, NO.block, List.map_cons, List.map_nil, List.mem_singleton] at hb
    omega
end Go.Proofs.Ytnimpcffagidoaa
