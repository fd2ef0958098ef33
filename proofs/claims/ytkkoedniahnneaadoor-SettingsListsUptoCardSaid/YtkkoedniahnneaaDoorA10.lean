/-
 The walk of (*parser).setting.
-/
import Derived.Test.YtkkoedniahnneaaDoorA9
set_option linter.unusedSimpArgs false
set_option linter.unusedVariables false
namespace Go.Proofs.YtkkoedniahnneaaDoor.K
open Go.RowKit
attribute [local go_sem ↓] Go.wp_at_zero Go.wp_at_succ
section
variable {u u' : World} {b : Nat} {L o : Value} {j : Int} {sec : ByteArray}
theorem PB.out_ (h : PB u b L j sec o) (v : Value) : PB (u.setCell ⟨b, 3, none⟩ v) b L j sec v := h.set_ 3 v
theorem PB.drew_ (h : PB u b L j sec o) : PB u.drew b L j sec o := h
theorem PB.alc (h : PB u b L j sec o) (x : Obj) : PB (u.alloc x) b L j sec o := Blk.alloc h x
theorem PB.gr {r : Option Nat} (h : PB u b L j sec o) (hg : u.grownBy u' r) (hne : some b ≠ r) : PB u' b L j sec o := h.grown hg hne
end
theorem elemSet : ElemOk Tryd.prog 43 45 4 56 := ElemOk.of (.agg #[.string ⟨#[]⟩, .string ⟨#[]⟩, .string ⟨#[]⟩, .int .i64 0]) (by kernel_rfl) (by kernel_rfl) (by kernel_rfl) (by decide)
theorem step_app {P : Program} {w : World} {ops : Array Oper} {o : Oper} {a : Act} {K : Act → World → Prop} {Q : Exit → Act → World → Prop} {E : Prop} {t e : TypeId} {size bytes : Nat} (d : Nat) (hd : o.dst = some d) (hE : ElemOk P t e size bytes) (hgd : o.guard = none) (s x : Operand)
  (ho : o.op = .call { callee := .builtin .append, args := #[s, x], argTypes := #[t, t] })
  (base : Nat) (v : Value) (n : Nat) (xs : List Value) (hs : a.eval s = v) (hown : w.ownsRow base e size v n xs)
  (A : Option Addr) (m c : Nat) (news : List Value) (hx : a.eval x = .slice A m c) (hr : Sl w (.slice A m c) size m news) (h1 : ∀ u ∈ news, u.oneCell' = true)
  (hbytes : n + m ≤ 1000000000) (hby : bytes ≤ 100000) (hbase : base ≤ w.heap.size)
  (h : ∀ v' w', w'.ownsRow base e size v' (n + m) (xs ++ news) → w.grownBy w' v.ownBlock → (v'.ownBlock = v.ownBlock ∨ v'.ownBlock = some w.heap.size) → K ⟨a.tmps.setIfInBounds d v', a.defers⟩ w') :
  if Region.wanted o (yielded ops a.tmps) = true then Oper.wp P o a w K Q else E := by
 obtain ⟨i, z, k1, k2, k3, k4, k5, k6, k7⟩ := hE.has
 refine step_append_any w hgd s x t ho base e i z size bytes k1 k2 k3 k4 k5 k6 k7 v n xs hs hown w.heap.size A m c news hx hr.reads h1 (by unfold maxLen; omega) ?_ hbase (by rw [hd]; exact h)
 have := Nat.mul_le_mul hbytes hby
 omega
theorem below_le {b B : Nat} {w w' : World} (h : Below B w w') (hb : b ≤ B) : Below b w w' := ⟨h.os, h.tape, h.output, h.size, fun k hk => h.block k (by omega)⟩
theorem cutO_size1 (s p : ByteArray) : (cutO s p).1.size ≤ s.size := by
 unfold cutO
 cases ige (idxO s p) 0 with
 | true => exact ext_size _ _ _
 | false => exact Nat.le_refl _
theorem cutO_size2 (s p : ByteArray) : (cutO s p).2.1.size ≤ s.size := by
 unfold cutO
 cases ige (idxO s p) 0 with
 | true => exact ext_size _ _ _
 | false => exact Nat.zero_le _
structure FrP (b : Nat) (o : Value) (w w' : World) : Prop where
 os : w'.os = w.os
 tape : w'.tape = w.tape
 output : w'.output = w.output
 size : w.heap.size ≤ w'.heap.size
 block : ∀ j, j < w.heap.size → j ≠ b → some j ≠ o.ownBlock → w'.heap[j]? = w.heap[j]?
theorem FrP.bel {b : Nat} {o : Value} {w w' : World} (h : Below w.heap.size w w') : FrP b o w w' := ⟨h.os, h.tape, h.output, h.size, fun k hk _ _ => h.block k hk⟩
theorem FrP.trans {b : Nat} {o : Value} {w w1 w2 : World} (h : FrP b o w w1) (h2 : FrP b o w1 w2) : FrP b o w w2 := ⟨h2.os.trans h.os, h2.tape.trans h.tape, h2.output.trans h.output, Nat.le_trans h.size h2.size, fun k hk h3 h4 => (h2.block k (Nat.lt_of_lt_of_le hk h.size) h3 h4).trans (h.block k hk h3 h4)⟩
theorem FrP.alc {b : Nat} {o : Value} (w : World) (x : Obj) : FrP b o w (w.alloc x) := .bel ((Below.refl _ _).alloc (Nat.le_refl _) _)
theorem FrP.gr {b : Nat} {o : Value} {w w' : World} (h : w.grownBy w' o.ownBlock) : FrP b o w w' := ⟨h.os, h.tape, h.output, h.size, fun k hk _ h4 => h.block k hk h4⟩
theorem FrP.set_ {b : Nat} {o : Value} (w : World) (i : Nat) (v : Value) : FrP b o w (w.setCell ⟨b, i, none⟩ v) := ⟨rfl, rfl, rfl, by simp [World.setCell], fun k _ h _ => Below.heap_setCell _ _ _ _ h⟩
theorem FrP.grb {b : Nat} {o : Value} {w w' : World} (h : w.grownBy w' (some b)) : FrP b o w w' := ⟨h.os, h.tape, h.output, h.size, fun k hk h3 _ => h.block k hk (fun e => h3 (Option.some.inj e))⟩
theorem FrP.below {b : Nat} {o : Value} {w w' : World} {e : TypeId} {size n : Nat} {xs : List Value} (h : FrP b o w w') (ho : w.ownsRow (b + 1) e size o n xs) (hb : b ≤ w.heap.size) : Below b w w' :=
 ⟨h.os, h.tape, h.output, h.size, fun k hk => h.block k (by omega) (by omega) (fun e => by have := (ho.lt _ e.symm).1; omega)⟩
def setOk (s : ByteArray) : Bool := (cutO s ⟨#[61]⟩).2.2 && wrdB (mkB (tR (bl (cutO s ⟨#[61]⟩).1)))
def setCs (s sec : ByteArray) (k : Int) : List Value := bif setOk s then [.string sec, .string (mkB (tR (bl (cutO s ⟨#[61]⟩).1))), .string (tB (cutO s ⟨#[61]⟩).2.1), .int .i64 k] else []
set_option maxHeartbeats 4000000 in
theorem setting_any (b : Nat) (s : ByteArray) (k : Int) (w : World) (h : s.size ≤ 4000000000) {L o : Value} {at' : Int} {sec : ByteArray} {n : Nat} {xs : List Value} (hb : PB w b L at' sec o)
  (ho : w.ownsRow (b + 1) 45 4 o n xs) (hn : n ≤ 100000) :
  Calls Tryd.prog 66 #[.pointer (some ⟨b, 0, none⟩), .string s, .int .i64 k] w fun e w' => e = .returned (.bool (setOk s)) ∧
   ∃ o', PB w' b L at' sec o' ∧ w'.ownsRow (b + 1) 45 4 o' (n + bif setOk s then 1 else 0) (xs ++ setCs s sec k) ∧ FrP b o w w' ∧ (o'.ownBlock = o.ownBlock ∨ ∃ g, o'.ownBlock = some g ∧ w.heap.size ≤ g) := by
 have HB := Lib.hid hb
 have HO := Lib.hid ho
 have hbl := hb.lt
 clear hb ho
 have hc1 : (cutO s ⟨#[61]⟩).1.size ≤ s.size := cutO_size1 _ _
 have hc2 : (cutO s ⟨#[61]⟩).2.1.size ≤ s.size := cutO_size2 _ _
 generalize hC1 : (cutO s ⟨#[61]⟩).1 = c1 at *
 generalize hC2 : (cutO s ⟨#[61]⟩).2.1 = c2 at *
 have ht1 : (mkB (tR (bl c1))).size ≤ 4000000000 := by rw [mk_size]; have := tR_len (bl c1); rw [bl_len] at this; omega
 cases hf : (cutO s ⟨#[61]⟩).2.2 with
 | false =>
  have e : setOk s = false := by unfold setOk; rw [hf]; rfl
  have e2 : setCs s sec k = [] := by unfold setCs; rw [e]; rfl
  go_enter Tryd.func66, Tryd.ntmps66
  go_wp2_with (first | (go_at_call 111; refine (cut_calls s _ h).mono ?_; rw [hC1, hC2, hf]; rintro e w1 ⟨rfl, hb1⟩) | (go_at_call 112; refine (trimR_calls _ _ (by omega)).mono ?_; rintro e w2 ⟨rfl, hb2⟩))
  go_ret
  rw [e, e2, List.append_nil]
  have hb := HB.out.lt
  exact ⟨rfl, o, (HB.out.bel hb1).bel hb2, own_grown (own_grown HO.out (grown_below hb1) (fun _ _ e => by cases e)) (grown_below hb2) (fun _ _ e => by cases e), (FrP.bel hb1).trans (.bel hb2), .inl rfl⟩
 | true =>
  cases hw : wrdB (mkB (tR (bl c1))) with
  | false =>
   have e : setOk s = false := by unfold setOk; rw [hf, hC1, hw]; rfl
   have e2 : setCs s sec k = [] := by unfold setCs; rw [e]; rfl
   go_enter Tryd.func66, Tryd.ntmps66
   go_wp2_with (first | (go_at_call 111; refine (cut_calls s _ h).mono ?_; rw [hC1, hC2, hf]; rintro e w1 ⟨rfl, hb1⟩) | (go_at_call 112; refine (trimR_calls _ _ (by omega)).mono ?_; rintro e w2 ⟨rfl, hb2⟩) | (go_at_call 103; refine (word_calls _ _ (by omega)).mono ?_; rw [hw]; rintro e w3 ⟨rfl, hb3⟩))
   go_ret
   rw [e, e2, List.append_nil]
   have hb := HB.out.lt
   exact ⟨rfl, o, ((HB.out.bel hb1).bel hb2).bel hb3, own_grown (own_grown (own_grown HO.out (grown_below hb1) (fun _ _ e => by cases e)) (grown_below hb2) (fun _ _ e => by cases e)) (grown_below hb3) (fun _ _ e => by cases e), ((FrP.bel hb1).trans (.bel hb2)).trans (.bel hb3), .inl rfl⟩
  | true =>
   have e : setOk s = true := by unfold setOk; rw [hf, hC1, hw]; rfl
   have e2 : setCs s sec k = [.string sec, .string (mkB (tR (bl c1))), .string (tB c2), .int .i64 k] := by unfold setCs; rw [e, hC1, hC2]; rfl
   go_enter Tryd.func66, Tryd.ntmps66
   go_wp2_with (first | (go_at_call 111; refine (cut_calls s _ h).mono ?_; rw [hC1, hC2, hf]; rintro e w1 ⟨rfl, hb1⟩) | (go_at_call 112; refine (trimR_calls _ _ (by omega)).mono ?_; rintro e w2 ⟨rfl, hb2⟩) | (go_at_call 103; refine (word_calls _ _ (by omega)).mono ?_; rw [hw]; rintro e w3 ⟨rfl, hb3⟩))
   have hP3 := ((HB.out.bel hb1).bel hb2).bel hb3
   have hO3 := own_grown (own_grown (own_grown HO.out (grown_below hb1) (fun _ _ e => by cases e)) (grown_below hb2) (fun _ _ e => by cases e)) (grown_below hb3) (fun _ _ e => by cases e)
   have z2 := hP3.z2
   have z3 := hP3.z3
   have hw3 := Lib.hid (((FrP.bel hb1).trans (.bel hb2)).trans (.bel hb3) : FrP b o w w3)
   have HP3 := Lib.hid hP3
   have HO3 := Lib.hid hO3
   clear hP3 hO3
   refine wp_region_held_drew (S := fun w' => w'.cell? ⟨b, 2, none⟩ = some (.string sec)) (by kernel_rfl) z2 (fun hS => ?_)
   refine anyH_val 0 25 (.pointer (some ⟨b, 0, none⟩)) (by assumption) rfl (by kernel_rfl) (by kernel_rfl) (by kernel_rfl) (fun o ho => by cases ho; exact ⟨rfl, fun w hw => by (try dsimp only at hw); go_simp⟩) (fun _ _ _ _ _ h => h) ?_
   simp only [List.setIfInBounds_toArray, List.set_cons_zero, List.set_cons_succ]
   refine anyH_val 1 26 (.pointer (some ⟨b, 0, none⟩)) (by assumption) rfl (by kernel_rfl) (by kernel_rfl) (by kernel_rfl) (fun o ho => by cases ho; exact ⟨rfl, fun w hw => by (try dsimp only at hw); go_simp⟩) (fun _ _ _ _ _ h => h) ?_
   simp only [List.setIfInBounds_toArray, List.set_cons_zero, List.set_cons_succ]
   refine anyH_val 2 27 (.pointer (some ⟨b, 0, none⟩)) (by assumption) rfl (by kernel_rfl) (by kernel_rfl) (by kernel_rfl) (fun o ho => by cases ho; exact ⟨rfl, fun w hw => by (try dsimp only at hw); go_simp⟩) (fun _ _ _ _ _ h => h) ?_
   simp only [List.setIfInBounds_toArray, List.set_cons_zero, List.set_cons_succ]
   refine anyH_val 3 28 (.pointer (some ⟨b, 3, none⟩)) (by assumption) rfl (by kernel_rfl) (by kernel_rfl) (by kernel_rfl) (fun o ho => by cases ho; exact ⟨rfl, fun w hw => by (try dsimp only at hw); go_simp⟩) (fun _ _ _ _ _ h => h) ?_
   simp only [List.setIfInBounds_toArray, List.set_cons_zero, List.set_cons_succ]
   refine anyH_val 5 30 (.pointer (some ⟨b, 0, none⟩)) (by assumption) rfl (by kernel_rfl) (by kernel_rfl) (by kernel_rfl) (fun o ho => by cases ho; exact ⟨rfl, fun w hw => by (try dsimp only at hw); go_simp⟩) (fun _ _ _ _ _ h => h) ?_
   simp only [List.setIfInBounds_toArray, List.set_cons_zero, List.set_cons_succ]
   refine anyH_val 6 31 (.pointer (some ⟨b, 0, none⟩)) (by assumption) rfl (by kernel_rfl) (by kernel_rfl) (by kernel_rfl) (fun o ho => by cases ho; exact ⟨rfl, fun w hw => by (try dsimp only at hw); go_simp⟩) (fun _ _ _ _ _ h => h) ?_
   simp only [List.setIfInBounds_toArray, List.set_cons_zero, List.set_cons_succ]
   refine anyH_val 7 32 (.pointer (some ⟨b, 2, none⟩)) (by assumption) rfl (by kernel_rfl) (by kernel_rfl) (by kernel_rfl) (fun o ho => by cases ho; exact ⟨rfl, fun w hw => by (try dsimp only at hw); go_simp⟩) (fun _ _ _ _ _ h => h) ?_
   simp only [List.setIfInBounds_toArray, List.set_cons_zero, List.set_cons_succ]
   refine anyH_val 8 33 (.string sec) (by assumption) rfl (by kernel_rfl) (by kernel_rfl) (by kernel_rfl) (fun o ho => by cases ho; exact ⟨rfl, fun w hw => by (try dsimp only at hw); go_simp⟩) (fun _ _ _ _ _ h => h) ?_
   simp only [List.setIfInBounds_toArray, List.set_cons_zero, List.set_cons_succ]
   refine anyH_val 9 34 (.string (mkB (tR (bl c1)))) (by assumption) rfl (by kernel_rfl) (by kernel_rfl) (by kernel_rfl) (fun o ho => by cases ho; exact ⟨rfl, fun w hw => by (try dsimp only at hw); go_simp⟩) (fun _ _ _ _ _ h => h) ?_
   simp only [List.setIfInBounds_toArray, List.set_cons_zero, List.set_cons_succ]
   refine anyH_val 10 35 (.string c2) (by assumption) rfl (by kernel_rfl) (by kernel_rfl) (by kernel_rfl) (fun o ho => by cases ho; exact ⟨rfl, fun w hw => by (try dsimp only at hw); go_simp⟩) (fun _ _ _ _ _ h => h) ?_
   simp only [List.setIfInBounds_toArray, List.set_cons_zero, List.set_cons_succ]
   refine anyH_val 12 37 (.int .i64 k) (by assumption) rfl (by kernel_rfl) (by kernel_rfl) (by kernel_rfl) (fun o ho => by cases ho; exact ⟨rfl, fun w hw => by (try dsimp only at hw); go_simp⟩) (fun _ _ _ _ _ h => h) ?_
   simp only [List.setIfInBounds_toArray, List.set_cons_zero, List.set_cons_succ]
   refine wpAnyH_ready (rs := [4, 11]) (by kernel_rfl) (by simp) ?_
   refine AllReadyH.cons rfl (fun K hK => ?_) (AllReadyH.cons rfl (fun K hK => ?_) AllReadyH.nil)
   ·skip
    go_simp
    refine hK.out _ _ z2 (fun hS => ?_)
    clear hK K
    (try simp only [Act.put, List.setIfInBounds_toArray, List.set_cons_zero, List.set_cons_succ])
    refine wpAnyH_ready (rs := [11]) (by kernel_rfl) (by simp) ?_
    refine AllReadyH.cons rfl (fun K hK => ?_) AllReadyH.nil
    go_simp
    (go_at_call 107; refine (trim_calls _ _ (by omega)).mono ?_; rintro e w4 ⟨rfl, hb4⟩)
    have hB4 : Below w3.heap.size w3 w4 := ((Below.refl w3.heap.size w3).drew).trans hb4
    have hP4 := HP3.out.bel hB4
    have hO4 := own_grown HO3.out (grown_below hB4) (fun _ _ e => by cases e)
    have k2 := hP4.z2
    have k3 := hP4.z3
    have k2a := (hP4.alc (.cells #[.string sec, .string (mkB (tR (bl c1))), .string (tB c2), .int .i64 k] 45)).z2
    have k3a := (hP4.alc (.cells #[.string sec, .string (mkB (tR (bl c1))), .string (tB c2), .int .i64 k] 45)).z3
    have HP4 := Lib.hid hP4
    have HO4 := Lib.hid hO4
    clear hP4 hO4
    go_wp2_with fail
    refine hK.out _ _ k2 (fun hS => ?_)
    clear hK K
    (try simp only [Act.put, List.setIfInBounds_toArray, List.set_cons_zero, List.set_cons_succ])
    refine anyH_val 13 38 (.agg #[.string sec, .string (mkB (tR (bl c1))), .string (tB c2), .int .i64 k]) (by assumption) rfl (by kernel_rfl) (by kernel_rfl) (by kernel_rfl) (fun o ho => by cases ho; exact ⟨rfl, fun w hw => by (try dsimp only at hw); go_simp⟩) (fun _ _ _ _ _ h => h) ?_
    simp only [List.setIfInBounds_toArray, List.set_cons_zero, List.set_cons_succ]
    refine wpAnyH_ready (rs := [14]) (by kernel_rfl) (by simp) ?_
    refine AllReadyH.cons rfl (fun K hK => ?_) AllReadyH.nil
    go_simp
    refine hK.out _ _ k2a (fun hS => ?_)
    clear hK K
    (try simp only [Act.put, List.setIfInBounds_toArray, List.set_cons_zero, List.set_cons_succ])
    refine wpAnyH_ready (rs := [15]) (by kernel_rfl) (by simp) ?_
    refine AllReadyH.cons rfl (fun K hK => ?_) AllReadyH.nil
    refine step_app 40 rfl elemSet rfl _ _ rfl (b + 1) o n xs rfl (own_grown HO4.out (World.grownBy_alloc _ (.cells #[.string sec, .string (mkB (tR (bl c1))), .string (tB c2), .int .i64 k] 45) none) (fun _ _ e => by cases e)) _ _ _ _ rfl (Sl.made _ _ 1 4 _ rfl (by decide)) (by simp [Value.oneCell']) (by omega) (by omega) (by have := hB4.size; have := HP3.out.lt; simp; omega) ?_
    intro v' w5 hown5 hg5 hat5
    obtain ⟨A', cc', rfl⟩ := own_slice hown5
    have hP5 := (HP4.out.alc (.cells #[.string sec, .string (mkB (tR (bl c1))), .string (tB c2), .int .i64 k] 45)).gr hg5 (fun e => by have := (HO4.out.lt _ e.symm).1; omega)
    have m2 := hP5.z2
    have m3 := hP5.z3
    have fz5 := hP5.frozen 3
    have HP5 := Lib.hid hP5
    clear hP5
    refine hK.out _ _ m2 (fun hS => ?_)
    clear hK K
    (try simp only [Act.put, List.setIfInBounds_toArray, List.set_cons_zero, List.set_cons_succ])
    refine anyH_val 16 41 (.pointer (some ⟨b, 0, none⟩)) (by assumption) rfl (by kernel_rfl) (by kernel_rfl) (by kernel_rfl) (fun o ho => by cases ho; exact ⟨rfl, fun w hw => by (try dsimp only at hw); go_simp⟩) (fun _ _ _ _ _ h => h) ?_
    simp only [List.setIfInBounds_toArray, List.set_cons_zero, List.set_cons_succ]
    refine anyH_val 17 42 (.pointer (some ⟨b, 3, none⟩)) (by assumption) rfl (by kernel_rfl) (by kernel_rfl) (by kernel_rfl) (fun o ho => by cases ho; exact ⟨rfl, fun w hw => by (try dsimp only at hw); go_simp⟩) (fun _ _ _ _ _ h => h) ?_
    simp only [List.setIfInBounds_toArray, List.set_cons_zero, List.set_cons_succ]
    refine wpAnyH_ready (rs := [18]) (by kernel_rfl) (by simp) ?_
    refine AllReadyH.cons rfl (fun K hK => ?_) AllReadyH.nil
    go_simp
    refine hK.out _ _ (HP5.out.out_ _).z2 (fun hS => ?_)
    clear hK K
    (try simp only [Act.put, List.setIfInBounds_toArray, List.set_cons_zero, List.set_cons_succ])
    refine wpAnyH_done (by kernel_rfl) ?_ _
    go_wp2_with fail
    go_ret
    exact ⟨rfl, _, HP5.out.out_ _, ownsRow_setCell_below hown5 (Nat.lt_succ_self b) _, (((hw3.out.trans (.bel hB4)).trans (.alc _ _)).trans (.gr hg5)).trans (.set_ _ _ _), hat5.imp id (fun e => ⟨_, e, by have := hw3.out.size; have := hB4.size; simp; omega⟩)⟩
   ·skip
    go_simp
    (go_at_call 107; refine (trim_calls _ _ (by omega)).mono ?_; rintro e w4 ⟨rfl, hb4⟩)
    have hB4 : Below w3.heap.size w3 w4 := ((Below.refl w3.heap.size w3).drew).trans hb4
    have hP4 := HP3.out.bel hB4
    have hO4 := own_grown HO3.out (grown_below hB4) (fun _ _ e => by cases e)
    have k2 := hP4.z2
    have k3 := hP4.z3
    have k2a := (hP4.alc (.cells #[.string sec, .string (mkB (tR (bl c1))), .string (tB c2), .int .i64 k] 45)).z2
    have k3a := (hP4.alc (.cells #[.string sec, .string (mkB (tR (bl c1))), .string (tB c2), .int .i64 k] 45)).z3
    have HP4 := Lib.hid hP4
    have HO4 := Lib.hid hO4
    clear hP4 hO4
    go_wp2_with fail
    refine hK.out _ _ k2 (fun hS => ?_)
    clear hK K
    (try simp only [Act.put, List.setIfInBounds_toArray, List.set_cons_zero, List.set_cons_succ])
    refine anyH_val 13 38 (.agg #[.string sec, .string (mkB (tR (bl c1))), .string (tB c2), .int .i64 k]) (by assumption) rfl (by kernel_rfl) (by kernel_rfl) (by kernel_rfl) (fun o ho => by cases ho; exact ⟨rfl, fun w hw => by (try dsimp only at hw); go_simp⟩) (fun _ _ _ _ _ h => h) ?_
    simp only [List.setIfInBounds_toArray, List.set_cons_zero, List.set_cons_succ]
    refine wpAnyH_ready (rs := [4, 14]) (by kernel_rfl) (by simp) ?_
    refine AllReadyH.cons rfl (fun K hK => ?_) (AllReadyH.cons rfl (fun K hK => ?_) AllReadyH.nil)
    ·skip
     go_simp
     refine hK.out _ _ k2 (fun hS => ?_)
     clear hK K
     (try simp only [Act.put, List.setIfInBounds_toArray, List.set_cons_zero, List.set_cons_succ])
     refine wpAnyH_ready (rs := [14]) (by kernel_rfl) (by simp) ?_
     refine AllReadyH.cons rfl (fun K hK => ?_) AllReadyH.nil
     go_simp
     refine hK.out _ _ k2a (fun hS => ?_)
     clear hK K
     (try simp only [Act.put, List.setIfInBounds_toArray, List.set_cons_zero, List.set_cons_succ])
     refine wpAnyH_ready (rs := [15]) (by kernel_rfl) (by simp) ?_
     refine AllReadyH.cons rfl (fun K hK => ?_) AllReadyH.nil
     refine step_app 40 rfl elemSet rfl _ _ rfl (b + 1) o n xs rfl (own_grown HO4.out (World.grownBy_alloc _ (.cells #[.string sec, .string (mkB (tR (bl c1))), .string (tB c2), .int .i64 k] 45) none) (fun _ _ e => by cases e)) _ _ _ _ rfl (Sl.made _ _ 1 4 _ rfl (by decide)) (by simp [Value.oneCell']) (by omega) (by omega) (by have := hB4.size; have := HP3.out.lt; simp; omega) ?_
     intro v' w5 hown5 hg5 hat5
     obtain ⟨A', cc', rfl⟩ := own_slice hown5
     have hP5 := (HP4.out.alc (.cells #[.string sec, .string (mkB (tR (bl c1))), .string (tB c2), .int .i64 k] 45)).gr hg5 (fun e => by have := (HO4.out.lt _ e.symm).1; omega)
     have m2 := hP5.z2
     have m3 := hP5.z3
     have fz5 := hP5.frozen 3
     have HP5 := Lib.hid hP5
     clear hP5
     refine hK.out _ _ m2 (fun hS => ?_)
     clear hK K
     (try simp only [Act.put, List.setIfInBounds_toArray, List.set_cons_zero, List.set_cons_succ])
     refine anyH_val 16 41 (.pointer (some ⟨b, 0, none⟩)) (by assumption) rfl (by kernel_rfl) (by kernel_rfl) (by kernel_rfl) (fun o ho => by cases ho; exact ⟨rfl, fun w hw => by (try dsimp only at hw); go_simp⟩) (fun _ _ _ _ _ h => h) ?_
     simp only [List.setIfInBounds_toArray, List.set_cons_zero, List.set_cons_succ]
     refine anyH_val 17 42 (.pointer (some ⟨b, 3, none⟩)) (by assumption) rfl (by kernel_rfl) (by kernel_rfl) (by kernel_rfl) (fun o ho => by cases ho; exact ⟨rfl, fun w hw => by (try dsimp only at hw); go_simp⟩) (fun _ _ _ _ _ h => h) ?_
     simp only [List.setIfInBounds_toArray, List.set_cons_zero, List.set_cons_succ]
     refine wpAnyH_ready (rs := [18]) (by kernel_rfl) (by simp) ?_
     refine AllReadyH.cons rfl (fun K hK => ?_) AllReadyH.nil
     go_simp
     refine hK.out _ _ (HP5.out.out_ _).z2 (fun hS => ?_)
     clear hK K
     (try simp only [Act.put, List.setIfInBounds_toArray, List.set_cons_zero, List.set_cons_succ])
     refine wpAnyH_done (by kernel_rfl) ?_ _
     go_wp2_with fail
     go_ret
     exact ⟨rfl, _, HP5.out.out_ _, ownsRow_setCell_below hown5 (Nat.lt_succ_self b) _, (((hw3.out.trans (.bel hB4)).trans (.alc _ _)).trans (.gr hg5)).trans (.set_ _ _ _), hat5.imp id (fun e => ⟨_, e, by have := hw3.out.size; have := hB4.size; simp; omega⟩)⟩
    ·skip
     go_simp
     refine hK.out _ _ k2a (fun hS => ?_)
     clear hK K
     (try simp only [Act.put, List.setIfInBounds_toArray, List.set_cons_zero, List.set_cons_succ])
     refine wpAnyH_ready (rs := [4]) (by kernel_rfl) (by simp) ?_
     refine AllReadyH.cons rfl (fun K hK => ?_) AllReadyH.nil
     go_simp
     refine hK.out _ _ k2a (fun hS => ?_)
     clear hK K
     (try simp only [Act.put, List.setIfInBounds_toArray, List.set_cons_zero, List.set_cons_succ])
     refine wpAnyH_ready (rs := [15]) (by kernel_rfl) (by simp) ?_
     refine AllReadyH.cons rfl (fun K hK => ?_) AllReadyH.nil
     refine step_app 40 rfl elemSet rfl _ _ rfl (b + 1) o n xs rfl (own_grown HO4.out (World.grownBy_alloc _ (.cells #[.string sec, .string (mkB (tR (bl c1))), .string (tB c2), .int .i64 k] 45) none) (fun _ _ e => by cases e)) _ _ _ _ rfl (Sl.made _ _ 1 4 _ rfl (by decide)) (by simp [Value.oneCell']) (by omega) (by omega) (by have := hB4.size; have := HP3.out.lt; simp; omega) ?_
     intro v' w5 hown5 hg5 hat5
     obtain ⟨A', cc', rfl⟩ := own_slice hown5
     have hP5 := (HP4.out.alc (.cells #[.string sec, .string (mkB (tR (bl c1))), .string (tB c2), .int .i64 k] 45)).gr hg5 (fun e => by have := (HO4.out.lt _ e.symm).1; omega)
     have m2 := hP5.z2
     have m3 := hP5.z3
     have fz5 := hP5.frozen 3
     have HP5 := Lib.hid hP5
     clear hP5
     refine hK.out _ _ m2 (fun hS => ?_)
     clear hK K
     (try simp only [Act.put, List.setIfInBounds_toArray, List.set_cons_zero, List.set_cons_succ])
     refine anyH_val 16 41 (.pointer (some ⟨b, 0, none⟩)) (by assumption) rfl (by kernel_rfl) (by kernel_rfl) (by kernel_rfl) (fun o ho => by cases ho; exact ⟨rfl, fun w hw => by (try dsimp only at hw); go_simp⟩) (fun _ _ _ _ _ h => h) ?_
     simp only [List.setIfInBounds_toArray, List.set_cons_zero, List.set_cons_succ]
     refine anyH_val 17 42 (.pointer (some ⟨b, 3, none⟩)) (by assumption) rfl (by kernel_rfl) (by kernel_rfl) (by kernel_rfl) (fun o ho => by cases ho; exact ⟨rfl, fun w hw => by (try dsimp only at hw); go_simp⟩) (fun _ _ _ _ _ h => h) ?_
     simp only [List.setIfInBounds_toArray, List.set_cons_zero, List.set_cons_succ]
     refine wpAnyH_ready (rs := [18]) (by kernel_rfl) (by simp) ?_
     refine AllReadyH.cons rfl (fun K hK => ?_) AllReadyH.nil
     go_simp
     refine hK.out _ _ (HP5.out.out_ _).z2 (fun hS => ?_)
     clear hK K
     (try simp only [Act.put, List.setIfInBounds_toArray, List.set_cons_zero, List.set_cons_succ])
     refine wpAnyH_done (by kernel_rfl) ?_ _
     go_wp2_with fail
     go_ret
     exact ⟨rfl, _, HP5.out.out_ _, ownsRow_setCell_below hown5 (Nat.lt_succ_self b) _, (((hw3.out.trans (.bel hB4)).trans (.alc _ _)).trans (.gr hg5)).trans (.set_ _ _ _), hat5.imp id (fun e => ⟨_, e, by have := hw3.out.size; have := hB4.size; simp; omega⟩)⟩
end Go.Proofs.YtkkoedniahnneaaDoor.K
