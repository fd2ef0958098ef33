/-
 The walk of (*parser).line.
-/
import Derived.Test.YtkkoedniahnneaaDoorA6
import Derived.Deep.DeepCutAuto
import Derived.Deep.DrawnRows
import Derived.StillTailTactics
set_option linter.unusedSimpArgs false
set_option linter.unusedVariables false
namespace Go.Proofs.YtkkoedniahnneaaDoor.K
open Go.RowKit
attribute [local go_sem ↓] Go.wp_at_zero Go.wp_at_succ
abbrev jnL (l : List ByteArray) (k : Nat) (x : ByteArray) : ByteArray × Nat × Bool := jnP (l.drop (k + 1)) (tB x) 1 (clB x)
abbrev PB (w : World) (b : Nat) (L : Value) (k : Int) (sec : ByteArray) (o : Value) : Prop := Go.Proofs.YtkkoedniahnneaaDoor.Blk w b 91 #[L, .int .i64 k, .string sec, o]
theorem lnsOk_get {l : List ByteArray} (h : lnsOk l = true) {k : Nat} {x : ByteArray} (hx : l[k]? = some x) : x.size ≤ 10000 := by
 obtain ⟨hk, rfl⟩ := List.getElem?_eq_some_iff.1 hx
 exact lnsOk_at h hk
section
variable {u u' : World} {b : Nat} {L o : Value} {j : Int} {sec : ByteArray}
theorem PB.z0 (h : PB u b L j sec o) : u.cell? ⟨b, 0, none⟩ = some L := by simpa using h.cell 0
theorem PB.z1 (h : PB u b L j sec o) : u.cell? ⟨b, 1, none⟩ = some (.int .i64 j) := by simpa using h.cell 1
theorem PB.z2 (h : PB u b L j sec o) : u.cell? ⟨b, 2, none⟩ = some (.string sec) := by simpa using h.cell 2
theorem PB.z3 (h : PB u b L j sec o) : u.cell? ⟨b, 3, none⟩ = some o := by simpa using h.cell 3
theorem PB.at_ (h : PB u b L j sec o) (i : Int) : PB (u.setCell ⟨b, 1, none⟩ (.int .i64 i)) b L i sec o := h.set_ 1 (.int .i64 i)
theorem PB.bel (h : PB u b L j sec o) (hb : Below u.heap.size u u') : PB u' b L j sec o := h.below hb h.lt
end
theorem grown_set {w w' : World} {b : Nat} (h : w.grownBy w' (some b)) (i : Nat) (u : Value) : w.grownBy (w'.setCell ⟨b, i, none⟩ u) (some b) :=
 ⟨h.os, h.tape, h.output, by simpa [World.setCell] using h.size, fun j hj hne => (Below.heap_setCell _ _ _ _ (fun e => hne (by rw [e]))).trans (h.block j hj hne)⟩
theorem grown_bel {w w1 w2 : World} {r : Option Nat} (h : w.grownBy w1 r) (h2 : Below w1.heap.size w1 w2) : w.grownBy w2 r :=
 ⟨h2.os.trans h.os, h2.tape.trans h.tape, h2.output.trans h.output, Nat.le_trans h.size h2.size, fun j hj hne => (h2.block j (Nat.lt_of_lt_of_le hj h.size)).trans (h.block j hj hne)⟩
theorem jnP_no (r : List ByteArray) (s : ByteArray) (n : Nat) (ok : Bool) (h : bsl s = false) : jnP r s n ok = (s, n, ok) := by
 cases r <;> simp [jnP, h]
section
variable {P : Program} {ops : Array Oper} {Q : Exit → Act → World → Prop} {md : Region.Mode} {S : World → Prop}
theorem anyH_skip (i d : Nat) {fuel : Nat} {listed : Array Bool} {a : Act} {w : World} (hS : S w) (hi : ops[i]?.map (·.dst) = some (some d)) (hs : Region.noSelect ops = true) (hf : Region.free md ops listed i = true)
  (hr : (Region.ready md ops listed).contains i = true) (hw : ops[i]?.all (fun o => !Region.wanted o (yielded ops a.tmps)) = true)
  (hQ : ∀ c k v (a : Act) w, Q (.panic c) (a.put (some k) v) w → Q (.panic c) a w) (h : wpAnyH P md ops Q S fuel (listed.setIfInBounds i true) ⟨a.tmps.setIfInBounds d undef, a.defers⟩ w) :
  wpAnyH P md ops Q S (fuel + 1) listed a w := by
 cases ho : ops[i]? with
 | none => rw [ho] at hi; cases hi
 | some o =>
  rw [ho] at hi hw
  simp only [Option.map_some, Option.some.injEq] at hi
  simp only [Option.all_some, Bool.not_eq_true'] at hw
  refine wpAnyH_take ho hs hf hr (fun c a w => by rw [hi]; exact hQ c d undef a w) (.inr ⟨hw, rfl⟩) hS ?_
  rw [hi]
  exact h
theorem anyH_val (i d : Nat) (v : Value) {fuel : Nat} {listed : Array Bool} {a : Act} {w : World} (hS : S w) (hi : ops[i]?.map (·.dst) = some (some d)) (hs : Region.noSelect ops = true) (hf : Region.free md ops listed i = true)
  (hr : (Region.ready md ops listed).contains i = true) (hv : ∀ o, ops[i]? = some o → Region.wanted o (yielded ops a.tmps) = true ∧ ∀ w, S w → (execOp a.eval o).run P w = .ok (.value v) w)
  (hQ : ∀ c k v (a : Act) w, Q (.panic c) (a.put (some k) v) w → Q (.panic c) a w) (h : wpAnyH P md ops Q S fuel (listed.setIfInBounds i true) ⟨a.tmps.setIfInBounds d v, a.defers⟩ w) :
  wpAnyH P md ops Q S (fuel + 1) listed a w := by
 cases ho : ops[i]? with
 | none => rw [ho] at hi; cases hi
 | some o =>
  have hv := hv o ho
  rw [ho] at hi
  simp only [Option.map_some, Option.some.injEq] at hi
  refine wpAnyH_take ho hs hf hr (fun c a w => by rw [hi]; exact hQ c d v a w) (.inl hv) hS ?_
  rw [hi]
  exact h
end
theorem cut_run {s : ByteArray} (h : bsl s = true) (t : TypeId) (ht : Tryd.prog.underlying t = some .string) (wx : World) : (Instr.slice t (.string s) none (some (.int .i64 ((s.size : Int) - 1))) none).run Tryd.prog wx = .ok (.string (cutL s)) wx := by
 have hp := bsl_pos h
 have e : s.extract 0 (s.size - 1) = cutL s := by
  refine bl_ext ?_
  have : bl (s.extract 0 (s.size - 1)) = (bl s).take (s.size - 1) := by
   show (s.extract 0 (s.size - 1)).data.toList = _
   rw [ByteArray.data_extract, Array.toList_extract]
   simp [List.extract]
  rw [this, bsl_cut h]
  have : (bl (cutL s)).length = s.size - 1 := by
   have e := bsl_cut h
   have h2 : (bl s).length = s.size := bl_len s
   rw [e] at h2
   simp at h2 ⊢
   omega
  rw [← this, List.take_left]
 rw [← e]
 have h1 : ((s.size : Int) - 1).toNat = s.size - 1 := by omega
 have h2 : (0 : Int) ≤ (s.size : Int) - 1 := by omega
 simp [Instr.slice, Instr.sliceBounds, Instr.sliceBound, asIntOf, run_underlying ht, h1, h2]
 omega
theorem jnP_yes {l : List ByteArray} {j k : Nat} {y s : ByteArray} {ok : Bool} (hy : l[j]? = some y) (h : bsl s = true) (hk : k ≤ j) : jnP (l.drop (j + 1)) (cutL s ++ tB y) (j + 1 - k) (ok && clB y) = jnP (l.drop j) s (j - k) ok := by
 obtain ⟨hj, rfl⟩ := List.getElem?_eq_some_iff.1 hy
 rw [List.drop_eq_getElem_cons hj]
 have e : j + 1 - k = j - k + 1 := by omega
 rw [e]
 conv => rhs; unfold jnP
 rw [if_pos h]
set_option maxHeartbeats 4000000 in
theorem line_any {l : List ByteArray} {b g off c k n : Nat} {x sec : ByteArray} {o : Value} {w : World} (hL : l.length = n) (hx : l[k]? = some x) (hb : PB w b (.slice (some ⟨g, off, none⟩) n c) k sec o)
  (hg : g < w.heap.size) (hgb : g ≠ b) (hc : ∀ (j : Nat) y, l[j]? = some y → w.cell? ⟨g, off + j, none⟩ = some (.string y)) (hl : lnsOk l = true) :
  Calls Tryd.prog 67 #[.pointer (some ⟨b, 0, none⟩)] w fun e w' => e = .returned (.tuple #[.string (tB (jnL l k x).1), .int .i64 ((k : Int) + 1), .bool (jnL l k x).2.2]) ∧
   PB w' b (.slice (some ⟨g, off, none⟩) n c) ((k : Int) + (jnL l k x).2.1) sec o ∧ w.grownBy w' (some b) := by
 have z0 := hb.z0
 have z1 := hb.z1
 have zk := hc k x hx
 have hs := lnsOk_get hl hx
 have hn := lnsOk_len hl
 rw [hL] at hn
 have hk : k < n := hL ▸ (List.getElem?_eq_some_iff.1 hx).1
 have HB := Lib.hid hb
 have HC := Lib.hid hc
 have HL := Lib.hid hl
 have HLL := Lib.hid hL
 have HX := Lib.hid hx
 clear hb hc hl hL hx
 have hg0 := hg
 have hkn : ((k : Nat) : Int) < (n : Int) := by omega
 go_enter Tryd.func67, Tryd.ntmps67
 go_wp2_with fail
 have hbl : b < w.heap.size := HB.out.lt
 go_region_held3 (fun w' => w'.cell? ⟨b, 0, none⟩ = some (.slice (some ⟨g, off, none⟩) n c) ∧ w'.cell? ⟨b, 1, none⟩ = some (.int .i64 k) ∧ w'.cell? ⟨g, off + k, none⟩ = some (.string x) ∧ Below w.heap.size w w') (first | exact ⟨by assumption, by assumption, by assumption, by assumption⟩ | exact ⟨z0, z1, zk, (Below.refl _ _).drew⟩ | go_keep) ((go_at_call 105; refine (clean_calls x _ (by omega)).mono ?_; rintro e w1 ⟨rfl, hb1⟩; have hB1 : Below w.heap.size w w1 := ((Below.refl w.heap.size w).drew).trans hb1; have k0 := (hB1.cell (p := ⟨b, 0, none⟩) hbl).trans z0; have k1 := (hB1.cell (p := ⟨b, 1, none⟩) hbl).trans z1; have k2 := (hB1.cell (p := ⟨g, off + k, none⟩) hg).trans zk))
 replace z0 := k0
 replace z1 := k1
 replace zk := k2
 clear k0 k1 k2 hb1
 rename World => wa
 rename Below _ _ _ => hA
 go_wp2_with fail
 have hbl := Nat.lt_of_lt_of_le hbl hA.size
 have hg := Nat.lt_of_lt_of_le hg hA.size
 go_region_held3 (fun w' => w'.cell? ⟨b, 0, none⟩ = some (.slice (some ⟨g, off, none⟩) n c) ∧ w'.cell? ⟨b, 1, none⟩ = some (.int .i64 k) ∧ w'.cell? ⟨g, off + k, none⟩ = some (.string x) ∧ Below wa.heap.size wa w') (first | exact ⟨by assumption, by assumption, by assumption, by assumption⟩ | exact ⟨z0, z1, zk, (Below.refl _ _).drew⟩ | go_keep) ((go_at_call 107; refine (trim_calls x _ (by omega)).mono ?_; rintro e w1 ⟨rfl, hb1⟩; have hB1 : Below wa.heap.size wa w1 := ((Below.refl wa.heap.size wa).drew).trans hb1; have k0 := (hB1.cell (p := ⟨b, 0, none⟩) hbl).trans z0; have k1 := (hB1.cell (p := ⟨b, 1, none⟩) hbl).trans z1; have k2 := (hB1.cell (p := ⟨g, off + k, none⟩) hg).trans zk))
 replace z0 := k0
 replace z1 := k1
 clear k0 k1 k2 hb1
 rename World => wb
 rename Below _ _ _ => hB
 have hP : PB wb b (.slice (some ⟨g, off, none⟩) n c) k sec o := (HB.out.bel hA).bel hB
 have hG : w.grownBy wb (some b) := grown_bel (grown_bel (World.grownBy.refl w _) hA) hB
 have fz := hP.frozen 1
 have HP := Lib.hid hP
 have HG := Lib.hid hG
 clear hP hG hA hB
 go_wp2_with fail
 replace HG := Lib.hid (grown_set HG.out 1 (.int .i64 ((k : Int) + 1)))
 replace HP := Lib.hid (HP.out.at_ ((k : Int) + 1))
 clear z0 z1 zk fz hbl hg
 generalize wb.setCell ⟨b, 1, none⟩ (.int .i64 ((k : Int) + 1)) = wc at *
 go_loopw [6, 7] (fun okv sv wr => ∃ (s : ByteArray) (j : Nat) (ok : Bool), k + 1 ≤ j ∧ j ≤ n ∧ okv = .bool ok ∧ sv = .string s ∧ s.size ≤ 10000 * (j - k) ∧ jnP (l.drop j) s (j - k) ok = jnL l k x ∧
  PB wr b (.slice (some ⟨g, off, none⟩) n c) j sec o ∧ w.grownBy wr (some b)) (fun _ _ wr => n + 1 - (intOf ((wr.cell? ⟨b, 1, none⟩).getD (.int .i64 0))).toNat)
 case atStart => exact ⟨tB x, k + 1, clB x, Nat.le_refl _, hk, rfl, rfl, by have := tB_size x; omega, by rw [Nat.add_sub_cancel_left], by exact_mod_cast HP.out, HG.out⟩
 case round =>
  obtain ⟨s, j, ok, hj1, hj2, rfl, rfl, hsz, hQ, hP, hG⟩ := hrel
  have z0 := hP.z0
  have z1 := hP.z1
  have fz := hP.frozen 1
  have Z1 := Lib.hid z1
  have hbl := hP.lt
  replace HQ := Lib.hid hQ
  replace HP := Lib.hid hP
  replace HG := Lib.hid hG
  clear hQ hP hG
  have hg : g < wr.heap.size := Nat.lt_of_lt_of_le hg0 HG.out.size
  have hjn : ((j : Nat) : Int) ≤ (n : Int) := by omega
  cases hq : bsl s with
  | false =>
   go_wp2_with (first | (go_at_call 104; refine (sfx_calls s _ (by omega)).mono ?_; rw [hq]; rintro e w' ⟨rfl, hw⟩; obtain rfl := hw.symm) | (go_at_call 107; refine (trim_calls s _ (by omega)).mono ?_; rintro e w1 ⟨rfl, hb1⟩))
   go_ret3
   have e : jnL l k x = (s, j - k, ok) := by rw [← HQ.out, jnP_no _ _ _ _ hq]
   rw [e]
   refine ⟨rfl, ?_, grown_bel HG.out (by simpa using hb1)⟩
   have hP := HP.out.bel (by simpa using hb1)
   have e2 : ((k : Nat) : Int) + ((j - k : Nat) : Int) = j := by omega
   rw [e2]
   exact hP
  | true =>
   by_cases hnn : j = n
   ·obtain rfl := hnn.symm
    go_wp2_with (first | (go_at_call 104; refine (sfx_calls s _ (by omega)).mono ?_; rw [hq]; rintro e w' ⟨rfl, hw⟩; obtain rfl := hw.symm))
    go_region_held3 (fun w' => w'.cell? ⟨b, 0, none⟩ = some (.slice (some ⟨g, off, none⟩) n c) ∧ w'.cell? ⟨b, 1, none⟩ = some (.int .i64 n) ∧ w' = wr.drew) (first | exact ⟨by assumption, by assumption, rfl⟩ | exact ⟨z0, z1, rfl⟩ | go_keep) (fail)
    go_wp2_with fail
    go_ret3
    have e0 : l.drop n = [] := List.drop_eq_nil_of_le (Nat.le_of_eq HLL.out)
    have e : jnL l k x = (⟨#[]⟩, n - k, false) := by rw [← HQ.out, e0]; simp [jnP, hq]
    rw [e]
    refine ⟨rfl, ?_, grown_bel HG.out (Below.refl _ _).drew⟩
    have e2 : ((k : Nat) : Int) + ((n - k : Nat) : Int) = n := by omega
    rw [e2]
    exact HP.out
   ·obtain ⟨y, hy⟩ : ∃ y, l[j]? = some y := ⟨l[j]'(by rw [HLL.out]; omega), List.getElem?_eq_getElem _⟩
    have hys := lnsOk_get HL.out hy
    have zk := HG.out.cell (HC.out j y hy) (by simpa using hgb)
    have HY := Lib.hid hy
    clear hy
    have hlt : ((j : Nat) : Int) < (n : Int) := by omega
    have hne : ¬ ((j : Nat) : Int) = (n : Int) := by omega
    cases ok with
    | true =>
     go_wp2_with (first | (go_at_call 104; refine (sfx_calls s _ (by omega)).mono ?_; rw [hq]; rintro e w' ⟨rfl, hw⟩; obtain rfl := hw.symm))
     go_region_held3 (fun w' => w'.cell? ⟨b, 0, none⟩ = some (.slice (some ⟨g, off, none⟩) n c) ∧ w'.cell? ⟨b, 1, none⟩ = some (.int .i64 j) ∧ w' = wr.drew) (first | exact ⟨by assumption, by assumption, rfl⟩ | exact ⟨z0, z1, rfl⟩ | go_keep) (fail)
     go_wp2_with fail
     replace z0 : wr.drew.cell? ⟨b, 0, none⟩ = _ := z0
     replace z1 : wr.drew.cell? ⟨b, 1, none⟩ = _ := z1
     replace zk : wr.drew.cell? ⟨g, off + j, none⟩ = _ := zk
     replace HG : Hid (w.grownBy wr.drew (some b)) := Lib.hid (grown_bel HG.out (Below.refl _ _).drew)
     replace HP : Hid (PB wr.drew b (.slice (some ⟨g, off, none⟩) n c) j sec o) := HP
     replace hbl : b < wr.drew.heap.size := hbl
     replace hg : g < wr.drew.heap.size := hg
     generalize wr.drew = wd at *
     have c0 := z0
     have c1 := z1
     have ck := zk
     go_region_held3 (fun w' => w'.cell? ⟨b, 0, none⟩ = some (.slice (some ⟨g, off, none⟩) n c) ∧ w'.cell? ⟨b, 1, none⟩ = some (.int .i64 j) ∧ w'.cell? ⟨g, off + j, none⟩ = some (.string y) ∧ Below wd.heap.size wd w') (first | exact ⟨by assumption, by assumption, by assumption, by assumption⟩ | exact ⟨z0, z1, zk, (Below.refl _ _).drew⟩ | go_keep) ((go_at_call 105; refine (clean_calls y _ (by omega)).mono ?_; rintro e w1 ⟨rfl, hb1⟩; have hB1 : Below wd.heap.size wd w1 := ((Below.refl wd.heap.size wd).drew).trans hb1; have k0 := (hB1.cell (p := ⟨b, 0, none⟩) hbl).trans z0; have k1 := (hB1.cell (p := ⟨b, 1, none⟩) hbl).trans z1; have k2 := (hB1.cell (p := ⟨g, off + j, none⟩) hg).trans zk))
     replace z0 := k0
     replace z1 := k1
     replace zk := k2
     clear k0 k1 k2 hb1
     rename World => we
     rename Below _ _ _ => hA
     have hbl := Nat.lt_of_lt_of_le hbl hA.size
     have hg := Nat.lt_of_lt_of_le hg hA.size
     replace HG := Lib.hid (grown_bel HG.out hA)
     replace HP := Lib.hid (HP.out.bel hA)
     clear hA
     go_wp2_with fail
     have hs1 := bsl_pos hq
     have q1 : IntKind.i64.wrap ((s.size : Int) - 1) = (s.size : Int) - 1 := IntWalk.i64_in _ (by omega)
     have q2 := cut_run hq 9 (by kernel_rfl)
     have hcs := cutL_size hq
     have hts := tB_size y
     have q3 : (cutL s).size + (tB y).size ≤ 9223372036854775807 := by omega
     have q4 := fun wx : World => run_string_add_sum (P := Tryd.prog) wx (cutL s) (tB y) q3
     go_region_held3 (fun w' => w'.cell? ⟨b, 0, none⟩ = some (.slice (some ⟨g, off, none⟩) n c) ∧ w'.cell? ⟨b, 1, none⟩ = some (.int .i64 j) ∧ w'.cell? ⟨g, off + j, none⟩ = some (.string y) ∧ Below we.heap.size we w') (first | exact ⟨by assumption, by assumption, by assumption, by assumption⟩ | exact ⟨z0, z1, zk, (Below.refl _ _).drew⟩ | go_keep) ((go_at_call 107; refine (trim_calls y _ (by omega)).mono ?_; rintro e w1 ⟨rfl, hb1⟩; have hB1 : Below we.heap.size we w1 := ((Below.refl we.heap.size we).drew).trans hb1; have k0 := (hB1.cell (p := ⟨b, 0, none⟩) hbl).trans z0; have k1 := (hB1.cell (p := ⟨b, 1, none⟩) hbl).trans z1; have k2 := (hB1.cell (p := ⟨g, off + j, none⟩) hg).trans zk))
     replace z0 := k0
     replace z1 := k1
     have hP1 := HP.out.bel hB1
     have hG1 := grown_bel HG.out hB1
     have fz := hP1.frozen 1
     have HP1 := Lib.hid (hP1.at_ ((j : Int) + 1))
     have HG1 := Lib.hid (grown_set hG1 1 (.int .i64 ((j : Int) + 1)))
     clear hP1 hG1 hB1 hb1 k0 k1 k2 zk
     go_wp2_with fail
     have hz := HP1.out.z1
     go_roundw
     case rel =>
      refine ⟨cutL s ++ tB y, j + 1, clB y, by omega, by omega, rfl, rfl, ?_, ?_, by exact_mod_cast HP1.out, HG1.out⟩
      ·rw [ByteArray.size_append]
       have : j + 1 - k = j - k + 1 := by omega
       omega
      ·rw [← HQ.out, ← jnP_yes HY.out hq (by omega)]
       rfl
     case measure =>
      rw [hz, Z1.out]
      simp [intOf]
      omega
    | false =>
     go_wp2_with (first | (go_at_call 104; refine (sfx_calls s _ (by omega)).mono ?_; rw [hq]; rintro e w' ⟨rfl, hw⟩; obtain rfl := hw.symm))
     go_region_held3 (fun w' => w'.cell? ⟨b, 0, none⟩ = some (.slice (some ⟨g, off, none⟩) n c) ∧ w'.cell? ⟨b, 1, none⟩ = some (.int .i64 j) ∧ w' = wr.drew) (first | exact ⟨by assumption, by assumption, rfl⟩ | exact ⟨z0, z1, rfl⟩ | go_keep) (fail)
     go_wp2_with fail
     replace z0 : wr.drew.cell? ⟨b, 0, none⟩ = _ := z0
     replace z1 : wr.drew.cell? ⟨b, 1, none⟩ = _ := z1
     replace zk : wr.drew.cell? ⟨g, off + j, none⟩ = _ := zk
     replace HG : Hid (w.grownBy wr.drew (some b)) := Lib.hid (grown_bel HG.out (Below.refl _ _).drew)
     replace HP : Hid (PB wr.drew b (.slice (some ⟨g, off, none⟩) n c) j sec o) := HP
     replace hbl : b < wr.drew.heap.size := hbl
     replace hg : g < wr.drew.heap.size := hg
     generalize wr.drew = wd at *
     have c0 := z0
     have c1 := z1
     have ck := zk
     refine wp_region_held_drew (S := fun w' => w' = wd.drew) (by kernel_rfl) rfl (fun hS => ?_)
     refine anyH_val 0 62 (.bool false) hS rfl (by kernel_rfl) (by kernel_rfl) (by kernel_rfl) (fun o ho => by cases ho; exact ⟨rfl, fun w _ => by go_simp⟩) (fun _ _ _ _ _ h => h) ?_
     simp only [List.setIfInBounds_toArray, List.set_cons_zero, List.set_cons_succ]
     refine anyH_val 1 63 (.bool false) hS rfl (by kernel_rfl) (by kernel_rfl) (by kernel_rfl) (fun o ho => by cases ho; exact ⟨rfl, fun w _ => by go_simp⟩) (fun _ _ _ _ _ h => h) ?_
     simp only [List.setIfInBounds_toArray, List.set_cons_zero, List.set_cons_succ]
     refine anyH_skip 2 64 hS rfl (by kernel_rfl) (by kernel_rfl) (by kernel_rfl) rfl (fun _ _ _ _ _ h => h) ?_
     simp only [List.setIfInBounds_toArray, List.set_cons_zero, List.set_cons_succ]
     refine anyH_skip 3 65 hS rfl (by kernel_rfl) (by kernel_rfl) (by kernel_rfl) rfl (fun _ _ _ _ _ h => h) ?_
     simp only [List.setIfInBounds_toArray, List.set_cons_zero, List.set_cons_succ]
     refine anyH_skip 4 66 hS rfl (by kernel_rfl) (by kernel_rfl) (by kernel_rfl) rfl (fun _ _ _ _ _ h => h) ?_
     simp only [List.setIfInBounds_toArray, List.set_cons_zero, List.set_cons_succ]
     refine anyH_skip 5 67 hS rfl (by kernel_rfl) (by kernel_rfl) (by kernel_rfl) rfl (fun _ _ _ _ _ h => h) ?_
     simp only [List.setIfInBounds_toArray, List.set_cons_zero, List.set_cons_succ]
     refine anyH_skip 6 68 hS rfl (by kernel_rfl) (by kernel_rfl) (by kernel_rfl) rfl (fun _ _ _ _ _ h => h) ?_
     simp only [List.setIfInBounds_toArray, List.set_cons_zero, List.set_cons_succ]
     refine anyH_skip 7 69 hS rfl (by kernel_rfl) (by kernel_rfl) (by kernel_rfl) rfl (fun _ _ _ _ _ h => h) ?_
     simp only [List.setIfInBounds_toArray, List.set_cons_zero, List.set_cons_succ]
     refine anyH_skip 8 70 hS rfl (by kernel_rfl) (by kernel_rfl) (by kernel_rfl) rfl (fun _ _ _ _ _ h => h) ?_
     simp only [List.setIfInBounds_toArray, List.set_cons_zero, List.set_cons_succ]
     refine anyH_skip 9 71 hS rfl (by kernel_rfl) (by kernel_rfl) (by kernel_rfl) rfl (fun _ _ _ _ _ h => h) ?_
     simp only [List.setIfInBounds_toArray, List.set_cons_zero, List.set_cons_succ]
     refine anyH_skip 10 72 hS rfl (by kernel_rfl) (by kernel_rfl) (by kernel_rfl) rfl (fun _ _ _ _ _ h => h) ?_
     simp only [List.setIfInBounds_toArray, List.set_cons_zero, List.set_cons_succ]
     refine anyH_skip 11 73 hS rfl (by kernel_rfl) (by kernel_rfl) (by kernel_rfl) rfl (fun _ _ _ _ _ h => h) ?_
     simp only [List.setIfInBounds_toArray, List.set_cons_zero, List.set_cons_succ]
     refine anyH_skip 12 74 hS rfl (by kernel_rfl) (by kernel_rfl) (by kernel_rfl) rfl (fun _ _ _ _ _ h => h) ?_
     simp only [List.setIfInBounds_toArray, List.set_cons_zero, List.set_cons_succ]
     refine anyH_val 13 75 (.bool false) hS rfl (by kernel_rfl) (by kernel_rfl) (by kernel_rfl) (fun o ho => by cases ho; exact ⟨rfl, fun w _ => by go_simp⟩) (fun _ _ _ _ _ h => h) ?_
     simp only [List.setIfInBounds_toArray, List.set_cons_zero, List.set_cons_succ]
     refine anyH_val 14 6 (.bool false) hS rfl (by kernel_rfl) (by kernel_rfl) (by kernel_rfl) (fun o ho => by cases ho; exact ⟨rfl, fun w _ => by go_simp⟩) (fun _ _ _ _ _ h => h) ?_
     simp only [List.setIfInBounds_toArray, List.set_cons_zero, List.set_cons_succ]
     refine wpAnyH_done (by kernel_rfl) ?_ _
     go_wp2_with fail
     replace z0 : wd.drew.cell? ⟨b, 0, none⟩ = _ := z0
     replace z1 : wd.drew.cell? ⟨b, 1, none⟩ = _ := z1
     replace zk : wd.drew.cell? ⟨g, off + j, none⟩ = _ := zk
     replace HG : Hid (w.grownBy wd.drew (some b)) := Lib.hid (grown_bel HG.out (Below.refl _ _).drew)
     replace HP : Hid (PB wd.drew b (.slice (some ⟨g, off, none⟩) n c) j sec o) := HP
     replace hbl : b < wd.drew.heap.size := hbl
     replace hg : g < wd.drew.heap.size := hg
     generalize wd.drew = we at *
     have hs1 := bsl_pos hq
     have q1 : IntKind.i64.wrap ((s.size : Int) - 1) = (s.size : Int) - 1 := IntWalk.i64_in _ (by omega)
     have q2 := cut_run hq 9 (by kernel_rfl)
     have hcs := cutL_size hq
     have hts := tB_size y
     have q3 : (cutL s).size + (tB y).size ≤ 9223372036854775807 := by omega
     have q4 := fun wx : World => run_string_add_sum (P := Tryd.prog) wx (cutL s) (tB y) q3
     go_region_held3 (fun w' => w'.cell? ⟨b, 0, none⟩ = some (.slice (some ⟨g, off, none⟩) n c) ∧ w'.cell? ⟨b, 1, none⟩ = some (.int .i64 j) ∧ w'.cell? ⟨g, off + j, none⟩ = some (.string y) ∧ Below we.heap.size we w') (first | exact ⟨by assumption, by assumption, by assumption, by assumption⟩ | exact ⟨z0, z1, zk, (Below.refl _ _).drew⟩ | go_keep) ((go_at_call 107; refine (trim_calls y _ (by omega)).mono ?_; rintro e w1 ⟨rfl, hb1⟩; have hB1 : Below we.heap.size we w1 := ((Below.refl we.heap.size we).drew).trans hb1; have k0 := (hB1.cell (p := ⟨b, 0, none⟩) hbl).trans z0; have k1 := (hB1.cell (p := ⟨b, 1, none⟩) hbl).trans z1; have k2 := (hB1.cell (p := ⟨g, off + j, none⟩) hg).trans zk))
     replace z0 := k0
     replace z1 := k1
     have hP1 := HP.out.bel hB1
     have hG1 := grown_bel HG.out hB1
     have fz := hP1.frozen 1
     have HP1 := Lib.hid (hP1.at_ ((j : Int) + 1))
     have HG1 := Lib.hid (grown_set hG1 1 (.int .i64 ((j : Int) + 1)))
     clear hP1 hG1 hB1 hb1 k0 k1 k2 zk hS
     go_wp2_with fail
     have hz := HP1.out.z1
     go_roundw
     case rel =>
      refine ⟨cutL s ++ tB y, j + 1, false, by omega, by omega, rfl, rfl, ?_, ?_, by exact_mod_cast HP1.out, HG1.out⟩
      ·rw [ByteArray.size_append]
       have : j + 1 - k = j - k + 1 := by omega
       omega
      ·rw [← HQ.out, ← jnP_yes HY.out hq (by omega)]
       rfl
     case measure =>
      rw [hz, Z1.out]
      simp [intOf]
      omega
end Go.Proofs.YtkkoedniahnneaaDoor.K
