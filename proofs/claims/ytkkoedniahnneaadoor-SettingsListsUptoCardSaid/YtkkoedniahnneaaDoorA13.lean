/-
 The walk of settings.Parse.
-/
import Derived.Test.YtkkoedniahnneaaDoorA12
set_option linter.unusedSimpArgs false
set_option linter.unusedVariables false
namespace Go.Proofs.YtkkoedniahnneaaDoor.K
open Go.RowKit
attribute [local go_sem ↓] Go.wp_at_zero Go.wp_at_succ
def LnsAt (w : World) (L : Value) (l : List ByteArray) : Prop := ∃ A c, L = .slice A l.length c ∧ (0 < l.length → ∃ g off, A = some ⟨g, off, none⟩ ∧ g < w.heap.size ∧ ∀ (j : Nat) y, l[j]? = some y → w.cell? ⟨g, off + j, none⟩ = some (.string y))
theorem cs_strs' {X : Nat → Nat → Prop} {w : World} : ∀ (l : List ByteArray) (vs : List Value), Cs X w nowhere (l.flatMap (Ty.cells .str)) vs → vs = l.map Value.string
 | [], vs, h => by simpa [Cs] using h
 | s :: l, vs, h => by
  simp only [List.flatMap_cons, Ty.cells, Ty.d, List.singleton_append, Cs, C] at h
  obtain ⟨v, r, rfl, ⟨rfl, _⟩, h⟩ := h
  rw [cs_strs' l r h]
  rfl
theorem lines_calls (s : ByteArray) (w : World) : Calls Tryd.prog 63 #[.string s] w fun e w' => ∃ L, e = .returned (.tuple #[L, .bool (lnsF s).2]) ∧ LnsAt w' L (lnsF s).1 ∧ Below w.heap.size w w' := by
 have hF : strip sp_f63 [.t .str s] [] = some (.tu [.t (.sl .str) (lnsF s).1, .t .bool (lnsF s).2], []) := by
  unfold sp_f63
  exact strip_spec (a := .pr .str .nil) (x := (s, ())) (by simp [Ty.args, as_t]) rfl
 refine (sc_calls ms_f63 hF w fun X => ⟨_, _, rfl, ⟨rfl, rfl⟩, rfl⟩).mono ?_
 rintro en w' ⟨u, X', σ', rfl, h1, h2⟩
 simp only [V.d, V.ds, Ty.d, C, Cs] at h1
 obtain ⟨us, rfl, v1, r1, rfl, ⟨A, c, rfl, h3, h4, h5, h6⟩, v2, r2, rfl, ⟨rfl, _⟩, rfl⟩ := h1
 refine ⟨_, rfl, ⟨A, c, rfl, fun hn => ?_⟩, h2⟩
 obtain ⟨g, off, vs, rfl, hcs, hfx⟩ := h6 hn
 have hv := cs_strs' _ _ hcs
 subst hv
 have hcell : ∀ (j : Nat) y, (lnsF s).1[j]? = some y → w'.cell? ⟨g, off + j, none⟩ = some (.string y) := fun j y hy => hfx.at_ j (.string y) (by rw [List.getElem?_map, hy]; rfl)
 refine ⟨g, off, rfl, ?_, hcell⟩
 exact World.block_lt_of_cell? w' _ (hcell 0 _ (List.getElem?_eq_getElem hn))
theorem below_grb {b : Nat} {w w' : World} (h : w.grownBy w' (some b)) (hb : b ≤ w.heap.size) : Below b w w' := ⟨h.os, h.tape, h.output, h.size, fun k hk => h.block k (by omega) (fun e => by have := Option.some.inj e; omega)⟩
theorem FrP.cell {b : Nat} {o v : Value} {w w' : World} (h : FrP b o w w') {p : Addr} (hc : w.cell? p = some v) (hb : p.block ≠ b) (ho : some p.block ≠ o.ownBlock) : w'.cell? p = some v :=
 (World.cell?_of_block (h.block _ (World.block_lt_of_cell? w p hc) hb ho)).trans hc
theorem h9_of (w : World) (t t2 : TypeId) (v v2 : Value) : ((w.alloc (.cells #[v] t)).alloc (.cells #[v2] t2)).cell? ⟨w.heap.size, 0, none⟩ = some v := by
 have h := (Go.Proofs.YtkkoedniahnneaaDoor.Blk.alloc (Go.Proofs.YtkkoedniahnneaaDoor.Blk.new w t #[v]) (.cells #[v2] t2)).cell 0
 exact h
set_option maxHeartbeats 4000000 in
theorem parse_any (s : ByteArray) (w : World) : Calls Tryd.prog 29 #[.string s] w fun e w' => ∃ v, e = .returned (.tuple #[v, .int .i64 (parF s).2.1, .int .i64 (parF s).2.2]) ∧ ∃ B, w.heap.size ≤ B ∧ w'.ownsRow B 45 4 v (parF s).1.length ((parF s).1.flatMap setCells) ∧ Below w.heap.size w w' := by
 cases hf : (lnsF s).2 with
 | false =>
  have hpar : parF s = ([], 0, 3) := by
   unfold lnsF at hf
   unfold parF
   cases h : (igt (slen s) 8192 || igt (endN s) 200) with
   | true => rfl
   | false => rw [h] at hf; cases hf
  go_enter Tryd.func29, Tryd.ntmps29
  go_wp2_with (go_at_call 63; refine (lines_calls s _).mono ?_; rw [hf]; rintro e w1 ⟨L, rfl, hL, hb1⟩)
  go_ret3
  rw [hpar]
  exact ⟨_, rfl, w.heap.size, Nat.le_refl _, ⟨rfl, .inl ⟨rfl, rfl⟩⟩, hb1⟩
 | true =>
  have hle : s.size ≤ 8192 := by
   unfold lnsF at hf
   cases h : igt (slen s) 8192 with
   | true => rw [h] at hf; cases hf
   | false => simp only [igt, slen, decide_eq_false_iff_not] at h; omega
  have hl1 : (lnsF s).1 = lnB s := by
   unfold lnsF at hf ⊢
   cases h : (igt (slen s) 8192 || igt (endN s) 200) with
   | true => rw [h] at hf; cases hf
   | false => rfl
  have hpar : parF s = bif (pgF (lnB s) (ByteArray.mk #[]) 0 []).2.2 then ((pgF (lnB s) (ByteArray.mk #[]) 0 []).1, 0, 0) else ([], (pgF (lnB s) (ByteArray.mk #[]) 0 []).2.1, 1) := by
   unfold lnsF at hf
   unfold parF
   cases h : (igt (slen s) 8192 || igt (endN s) 200) with
   | true => rw [h] at hf; cases hf
   | false => rfl
  have hok := lnB_ok (s := s) (by omega)
  generalize hl : lnB s = l at *
  have hn := lnsOk_len hok
  have HOK := Lib.hid hok
  have HPAR := Lib.hid hpar
  have HL1 := Lib.hid hl1
  clear hok hpar hl1 hl
  go_enter Tryd.func29, Tryd.ntmps29
  go_wp2_with (go_at_call 63; refine (lines_calls s _).mono ?_; rw [hf, HL1.out]; rintro e w1 ⟨L, rfl, hL, hb1⟩; obtain ⟨A, c, rfl, hL⟩ := hL; have HL := Lib.hid hL; clear hL)
  have hP0 : PB ((w1.alloc (.cells #[.slice A l.length c, .int .i64 0, .string ⟨#[]⟩, .slice none 0 0] 91)).alloc (.cells #[knd 64 w1.heap.size, knd 65 w1.heap.size, knd 66 w1.heap.size] 92)) w1.heap.size (.slice A l.length c) (0 : Nat) ⟨#[]⟩ (.slice none 0 0) := Blk.alloc (Blk.new w1 _ _) _
  have hK0 : Go.Proofs.YtkkoedniahnneaaDoor.Blk ((w1.alloc (.cells #[.slice A l.length c, .int .i64 0, .string ⟨#[]⟩, .slice none 0 0] 91)).alloc (.cells #[knd 64 w1.heap.size, knd 65 w1.heap.size, knd 66 w1.heap.size] 92)) (w1.heap.size + 1) 92 #[knd 64 w1.heap.size, knd 65 w1.heap.size, knd 66 w1.heap.size] := by
   have h := Blk.new (w1.alloc (.cells #[.slice A l.length c, .int .i64 0, .string ⟨#[]⟩, .slice none 0 0] 91)) 92 #[knd 64 w1.heap.size, knd 65 w1.heap.size, knd 66 w1.heap.size]
   simpa using h
  have hB0 : Below w1.heap.size w1 ((w1.alloc (.cells #[.slice A l.length c, .int .i64 0, .string ⟨#[]⟩, .slice none 0 0] 91)).alloc (.cells #[knd 64 w1.heap.size, knd 65 w1.heap.size, knd 66 w1.heap.size] 92)) := ((Below.refl _ _).alloc (Nat.le_refl _) _).alloc (by simp) _
  generalize ((w1.alloc (.cells #[.slice A l.length c, .int .i64 0, .string ⟨#[]⟩, .slice none 0 0] 91)).alloc (.cells #[knd 64 w1.heap.size, knd 65 w1.heap.size, knd 66 w1.heap.size] 92)) = w2 at *
  generalize hb : w1.heap.size = b at *
  have HBB := Lib.hid hb
  have HP0 := Lib.hid hP0
  have HK0 := Lib.hid hK0
  have HB0 := Lib.hid hB0
  have HB1 := Lib.hid hb1
  have HFIN : Hid (∀ w', Below b w1 w' → Below w.heap.size w w') := Lib.hid (fun w' h => HB1.out.trans (below_le h (by have := HB1.out.size; have := HBB.out; omega)))
  clear hP0 hK0 hB0 hb hb1
  go_loopw [9, 10, 11] (fun _ _ _ wr => ∃ (k : Nat) (sec : ByteArray) (out : List Setting) (o : Value), k ≤ l.length ∧ out.length ≤ k ∧ pgF l ⟨#[]⟩ 0 [] = pgF l sec k out ∧ PB wr b (.slice A l.length c) k sec o ∧
   wr.ownsRow (b + 1) 45 4 o out.length (out.flatMap setCells) ∧ Go.Proofs.YtkkoedniahnneaaDoor.Blk wr (b + 1) 92 #[knd 64 b, knd 65 b, knd 66 b] ∧ o.ownBlock ≠ some (b + 1) ∧ Below b w1 wr) (fun _ _ _ wr => l.length + 1 - (intOf ((wr.cell? ⟨b, 1, none⟩).getD (.int .i64 0))).toNat)
  case atStart => exact ⟨0, ⟨#[]⟩, [], .slice none 0 0, Nat.zero_le _, Nat.le_refl _, rfl, HP0.out, ⟨rfl, .inl ⟨rfl, rfl⟩⟩, HK0.out, by simp [Value.ownBlock], HB0.out⟩
  case round =>
   obtain ⟨k, sec, out, o, hk, hout, hpg, hp, ho, hkk, hne, hbw⟩ := hrel
   have z0 := hp.z0
   have z1 := hp.z1
   have HPG := Lib.hid hpg
   have HP := Lib.hid hp
   have HO := Lib.hid ho
   have HKK := Lib.hid hkk
   have HNE := Lib.hid hne
   have HBW := Lib.hid hbw
   have HOUT := Lib.hid hout
   clear hpg hp ho hkk hne hbw hout
   by_cases hlt : k < l.length
   ·obtain ⟨x, hx⟩ : ∃ x, l[k]? = some x := ⟨_, List.getElem?_eq_getElem hlt⟩
    obtain ⟨g, off, hA, hg, hc⟩ := HL.out (by omega)
    subst hA
    have hti : ((k : Nat) : Int) < ((l.length : Nat) : Int) := by omega
    have HX := Lib.hid hx
    have hlx := lnsOk_get HOK.out hx
    have HC := Lib.hid hc
    clear hx hc
    go_wp2_with fail
    go_region_held3 (fun w' => w'.cell? ⟨b, 0, none⟩ = some (.slice (some ⟨g, off, none⟩) l.length c) ∧ w'.cell? ⟨b, 1, none⟩ = some (.int .i64 k) ∧ w' = wr.drew) (first | exact ⟨by assumption, by assumption, rfl⟩ | exact ⟨z0, z1, rfl⟩ | go_keep) (fail)
    have hgb : g ≠ b := by have := HBB.out; omega
    have HGW : Hid (g < wr.drew.heap.size) := Lib.hid (show g < wr.heap.size by have := HBB.out; have := HBW.out.size; omega)
    have HCW : Hid (∀ (j : Nat) y, l[j]? = some y → wr.drew.cell? ⟨g, off + j, none⟩ = some (.string y)) := Lib.hid (fun j y hy => (HBW.out.cell (p := ⟨g, off + j, none⟩) hg).trans (HC.out j y hy))
    obtain ⟨hj1, hj2⟩ := jnL_eq l k x HX.out
    have hpos := rjn_pos hlt
    have hsz := rjn_size HOK.out hlt
    have HJ1 := Lib.hid hj1
    have HJ2 := Lib.hid hj2
    have HPOS := Lib.hid hpos
    clear hj1 hj2 hpos
    cases hj : (jnL l k x).2.2 with
    | false =>
     have HJ := Lib.hid hj
     clear hj
     go_wp2_with (go_at_call 67; refine (line_any (o := o) (sec := sec) rfl HX.out HP.out.drew_ HGW.out hgb HCW.out HOK.out).mono ?_; rw [HJ.out]; rintro e w3 ⟨rfl, hp3, hg3⟩; have HP3 := Lib.hid hp3; have HG3 := Lib.hid hg3; clear hp3 hg3; have h10 : ((w3.alloc (.cells #[.string (tB (jnL l k x).1)] 9)).alloc (.cells #[.int .i64 ((k : Int) + 1)] 3)).cell? ⟨w3.heap.size + 1, 0, none⟩ = some (.int .i64 ((k : Int) + 1)) := (by simp); have h9 : ((w3.alloc (.cells #[.string (tB (jnL l k x).1)] 9)).alloc (.cells #[.int .i64 ((k : Int) + 1)] 3)).cell? ⟨w3.heap.size, 0, none⟩ = some (.string (tB (jnL l k x).1)) := h9_of _ _ _ _ _; have HO3 := Lib.hid (own_grown HO.out.drew HG3.out (fun g e e2 => absurd (HO.out.lt _ e).1 (by rw [Option.some.inj e2]; exact Nat.not_succ_le_self b))); have HK3 := Lib.hid (Go.Proofs.YtkkoedniahnneaaDoor.Blk.grown HKK.out.drew HG3.out (fun e => absurd (Option.some.inj e) (Nat.succ_ne_self b))); have HB13 := Lib.hid ((HBW.out.drew).trans (below_grb HG3.out (show b ≤ wr.heap.size by have := HP.out.lt; omega))); have HB14 := Lib.hid ((HB13.out.alloc (by have := HP3.out.lt; omega) (.cells #[.string (tB (jnL l k x).1)] 9)).alloc (by have := HP3.out.lt; simp; omega) (.cells #[.int .i64 ((k : Int) + 1)] 3)))
     have HH10 := Lib.hid h10
     go_region_held3 (fun w' => w'.cell? ⟨w3.heap.size + 1, 0, none⟩ = some (.int .i64 ((k : Int) + 1)) ∧ w' = ((w3.alloc (.cells #[.string (tB (jnL l k x).1)] 9)).alloc (.cells #[.int .i64 ((k : Int) + 1)] 3)).drew) (first | exact ⟨h10, rfl⟩ | exact ⟨HH10.out, rfl⟩) (fail)
     go_wp2_with fail
     go_ret3
     have hb : (!(rjnF l k).2.2 || !clB (rjnF l k).1) = true := by rw [HJ1.out, HJ.out]; rfl
     rw [HPAR.out, HPG.out, pgF_bad hlt hb]
     exact ⟨_, rfl, w.heap.size, Nat.le_refl _, ⟨rfl, .inl ⟨rfl, rfl⟩⟩, HFIN.out _ HB14.out.drew⟩
    | true =>
     have HJ := Lib.hid hj
     clear hj
     obtain ⟨hs1, hs2⟩ := HJ2.out HJ.out
     have hsz4 : (tB (jnL l k x).1).size ≤ 4000000000 := by rw [hs1]; omega
     have HS1 := Lib.hid hs1
     have HS2 := Lib.hid hs2
     clear hs1 hs2
     cases hok : okP (tB (jnL l k x).1) with
     | false =>
      have HOKP := Lib.hid hok
      clear hok
      go_wp2_with (first | (go_at_call 67; refine (line_any (o := o) (sec := sec) rfl HX.out HP.out.drew_ HGW.out hgb HCW.out HOK.out).mono ?_; rw [HJ.out]; rintro e w3 ⟨rfl, hp3, hg3⟩; have HP3 := Lib.hid hp3; have HG3 := Lib.hid hg3; clear hp3 hg3; have h10 : ((w3.alloc (.cells #[.string (tB (jnL l k x).1)] 9)).alloc (.cells #[.int .i64 ((k : Int) + 1)] 3)).cell? ⟨w3.heap.size + 1, 0, none⟩ = some (.int .i64 ((k : Int) + 1)) := (by simp); have h9 : ((w3.alloc (.cells #[.string (tB (jnL l k x).1)] 9)).alloc (.cells #[.int .i64 ((k : Int) + 1)] 3)).cell? ⟨w3.heap.size, 0, none⟩ = some (.string (tB (jnL l k x).1)) := h9_of _ _ _ _ _; have HO3 := Lib.hid (own_grown HO.out.drew HG3.out (fun g e e2 => absurd (HO.out.lt _ e).1 (by rw [Option.some.inj e2]; exact Nat.not_succ_le_self b))); have HK3 := Lib.hid (Go.Proofs.YtkkoedniahnneaaDoor.Blk.grown HKK.out.drew HG3.out (fun e => absurd (Option.some.inj e) (Nat.succ_ne_self b))); have HB13 := Lib.hid ((HBW.out.drew).trans (below_grb HG3.out (show b ≤ wr.heap.size by have := HP.out.lt; omega))); have HB14 := Lib.hid ((HB13.out.alloc (by have := HP3.out.lt; omega) (.cells #[.string (tB (jnL l k x).1)] 9)).alloc (by have := HP3.out.lt; simp; omega) (.cells #[.int .i64 ((k : Int) + 1)] 3))) | (go_at_call 68; refine (any_any b (b + 1) _ _ (tB (jnL l k x).1) ((k : Int) + 1) _ hsz4 h9 h10 ((HP3.out.alc _).alc _) (own_grown (own_grown HO3.out (World.grownBy_alloc _ _ none) (fun _ _ e => by cases e)) (World.grownBy_alloc _ _ none) (fun _ _ e => by cases e)) (by have := HOUT.out; omega) (Blk.alloc (Blk.alloc HK3.out _) _) (by omega) (by have := HP3.out.lt; omega) (by have := HP3.out.lt; omega)).mono ?_; rw [HOKP.out]; rintro e w5 ⟨rfl, hp5⟩; have HP5 := Lib.hid hp5; clear hp5))
      obtain ⟨o', hp6, ho6, hf6, hx6⟩ := HP5.out
      have HH10 := Lib.hid (hf6.cell h10 (by have := HP3.out.lt; show w3.heap.size + 1 ≠ b; omega) (fun e => by have h := (HO3.out.lt _ e.symm).2; have h : w3.heap.size + 1 < w3.heap.size := h; omega))
      have HB5 := Lib.hid (HB14.out.trans (hf6.below (own_grown (own_grown HO3.out (World.grownBy_alloc _ _ none) (fun _ _ e => by cases e)) (World.grownBy_alloc _ _ none) (fun _ _ e => by cases e)) (by have := HP3.out.lt; simp; omega)))
      clear hp6 ho6 hf6 hx6 h9 h10
      have hh := HH10.out
      go_region_held3 (fun w' => w'.cell? ⟨w3.heap.size + 1, 0, none⟩ = some (.int .i64 ((k : Int) + 1)) ∧ w' = w5.drew) (first | exact ⟨hh, rfl⟩ | exact ⟨HH10.out, rfl⟩) (fail)
      go_wp2_with fail
      go_ret3
      have hb : (!(rjnF l k).2.2 || !clB (rjnF l k).1) = false := by rw [HJ1.out, HJ.out]; rfl
      have hst : stpS (rjnF l k).1 sec ((k : Int) + 1) out = none := by rw [← HS1.out, stp_eq (tB_idem _) hsz4, HOKP.out]; rfl
      rw [HPAR.out, HPG.out, pgF_none hlt hb hst]
      exact ⟨_, rfl, w.heap.size, Nat.le_refl _, ⟨rfl, .inl ⟨rfl, rfl⟩⟩, HFIN.out _ HB5.out.drew⟩
     | true =>
      have HOKP := Lib.hid hok
      clear hok
      go_wp2_with (first | (go_at_call 67; refine (line_any (o := o) (sec := sec) rfl HX.out HP.out.drew_ HGW.out hgb HCW.out HOK.out).mono ?_; rw [HJ.out]; rintro e w3 ⟨rfl, hp3, hg3⟩; have HP3 := Lib.hid hp3; have HG3 := Lib.hid hg3; clear hp3 hg3; have h10 : ((w3.alloc (.cells #[.string (tB (jnL l k x).1)] 9)).alloc (.cells #[.int .i64 ((k : Int) + 1)] 3)).cell? ⟨w3.heap.size + 1, 0, none⟩ = some (.int .i64 ((k : Int) + 1)) := (by simp); have h9 : ((w3.alloc (.cells #[.string (tB (jnL l k x).1)] 9)).alloc (.cells #[.int .i64 ((k : Int) + 1)] 3)).cell? ⟨w3.heap.size, 0, none⟩ = some (.string (tB (jnL l k x).1)) := h9_of _ _ _ _ _; have HO3 := Lib.hid (own_grown HO.out.drew HG3.out (fun g e e2 => absurd (HO.out.lt _ e).1 (by rw [Option.some.inj e2]; exact Nat.not_succ_le_self b))); have HK3 := Lib.hid (Go.Proofs.YtkkoedniahnneaaDoor.Blk.grown HKK.out.drew HG3.out (fun e => absurd (Option.some.inj e) (Nat.succ_ne_self b))); have HB13 := Lib.hid ((HBW.out.drew).trans (below_grb HG3.out (show b ≤ wr.heap.size by have := HP.out.lt; omega))); have HB14 := Lib.hid ((HB13.out.alloc (by have := HP3.out.lt; omega) (.cells #[.string (tB (jnL l k x).1)] 9)).alloc (by have := HP3.out.lt; simp; omega) (.cells #[.int .i64 ((k : Int) + 1)] 3))) | (go_at_call 68; refine (any_any b (b + 1) _ _ (tB (jnL l k x).1) ((k : Int) + 1) _ hsz4 h9 h10 ((HP3.out.alc _).alc _) (own_grown (own_grown HO3.out (World.grownBy_alloc _ _ none) (fun _ _ e => by cases e)) (World.grownBy_alloc _ _ none) (fun _ _ e => by cases e)) (by have := HOUT.out; omega) (Blk.alloc (Blk.alloc HK3.out _) _) (by omega) (by have := HP3.out.lt; omega) (by have := HP3.out.lt; omega)).mono ?_; rw [HOKP.out]; rintro e w5 ⟨rfl, hp5⟩; have HP5 := Lib.hid hp5; clear hp5))
      obtain ⟨o', hp6, ho6, hf6, hx6⟩ := HP5.out
      have hb : (!(rjnF l k).2.2 || !clB (rjnF l k).1) = false := by rw [HJ1.out, HJ.out]; rfl
      have hst : stpS (rjnF l k).1 sec ((k : Int) + 1) out = some (secP (tB (jnL l k x).1) sec, out ++ csL (tB (jnL l k x).1) sec ((k : Int) + 1)) := by rw [← HS1.out, stp_eq (tB_idem _) hsz4, HOKP.out]; rfl
      have hpg := pgF_some hlt hb hst
      rw [← HS2.out] at hpg
      obtain ⟨c1, c2⟩ := cs_eq (tB_idem (jnL l k x).1) hsz4 sec ((k : Int) + 1)
      have hj1 : 1 ≤ (jnL l k x).2.1 := by have := HPOS.out.1; rw [← HS2.out] at this; omega
      have hj2 : k + (jnL l k x).2.1 ≤ l.length := by have := HPOS.out.2; rw [← HS2.out] at this; omega
      have hcs : (csL (tB (jnL l k x).1) sec ((k : Int) + 1)).length ≤ 1 := by
       rw [← c2]
       unfold nP
       cases empS (tB (jnL l k x).1) <;> cases bgP (tB (jnL l k x).1) <;> cases setOk (tB (jnL l k x).1) <;> simp
      have hcast : ((k : Nat) : Int) + (((jnL l k x).2.1 : Nat) : Int) = ((k + (jnL l k x).2.1 : Nat) : Int) := by omega
      rw [c1, c2] at ho6
      refine ⟨⟨k + (jnL l k x).2.1, secP (tB (jnL l k x).1) sec, out ++ csL (tB (jnL l k x).1) sec ((k : Int) + 1), o', hj2, ?_, ?_, ?_, ?_, ?_, ?_, ?_⟩, ?_⟩
      ·rw [List.length_append]
       have := HOUT.out
       omega
      ·rw [HPG.out, hpg, hcast]
      ·rw [← hcast]
       exact hp6
      ·rw [List.length_append, List.flatMap_append]
       exact ho6
      ·have hk4 := Go.Proofs.YtkkoedniahnneaaDoor.Blk.alloc (Go.Proofs.YtkkoedniahnneaaDoor.Blk.alloc HK3.out (.cells #[.string (tB (jnL l k x).1)] 9)) (.cells #[.int .i64 ((k : Int) + 1)] 3)
       exact (hf6.block _ hk4.lt (Nat.succ_ne_self b) (fun e => HNE.out e.symm)).trans hk4
      ·rcases hx6 with h | ⟨g', h, h2⟩
       ·rw [h]
        exact HNE.out
       ·rw [h]
        intro e
        have := Option.some.inj e
        have := HK3.out.lt
        simp at h2
        omega
      ·exact HB14.out.trans (hf6.below (own_grown (own_grown HO3.out (World.grownBy_alloc _ _ none) (fun _ _ e => by cases e)) (World.grownBy_alloc _ _ none) (fun _ _ e => by cases e)) (by have := HP3.out.lt; simp; omega))
      ·rw [hp6.z1, HP.out.z1]
       simp [intOf]
       omega
   ·have hkl : k = l.length := by omega
    have hti : ¬ ((k : Nat) : Int) < ((l.length : Nat) : Int) := by omega
    have z3 := HP.out.z3
    go_wp2_with fail
    go_region_held3 (fun w' => w'.cell? ⟨b, 0, none⟩ = some (.slice A l.length c) ∧ w'.cell? ⟨b, 1, none⟩ = some (.int .i64 k) ∧ w' = wr.drew) (first | exact ⟨by assumption, by assumption, rfl⟩ | exact ⟨z0, z1, rfl⟩ | go_keep) (fail)
    go_wp2_with fail
    go_ret3
    rw [HPAR.out, HPG.out, pgF_end (by omega)]
    exact ⟨_, rfl, b + 1, by have := HB1.out.size; have := HBB.out; omega, HO.out, HFIN.out _ HBW.out.drew⟩
end Go.Proofs.YtkkoedniahnneaaDoor.K
