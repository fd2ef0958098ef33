/-
 settings.Set walked; its word.
-/
import Derived.Test.YtkkoedniahnneaaDoorA35
set_option linter.unusedSimpArgs false
set_option linter.unusedVariables false
namespace Go.Proofs.YtkkoedniahnneaaDoor.K
open Go.RowKit
theorem own_le {w : World} {B B' e sz n : Nat} {v : Value} {xs : List Value} (h : w.ownsRow B e sz v n xs) (hb : B' ≤ B) : w.ownsRow B' e sz v n xs := by
 refine ⟨h.1, ?_⟩
 rcases h.2 with h | ⟨g, cap, cur, h1, h2, h3⟩
 ·exact .inl h
 ·exact .inr ⟨g, cap, cur, h1, Nat.le_trans hb h2, h3⟩
theorem lastY_I (l : List Setting) (a : ByteArray) : lastY l a = lastI (fun x => seq x.1 a) l := by
 unfold lastY lastI idxP
 show ((((backs l l.length).find? fun p => isS2 p.2 a).map fun p => (p.1 : Int)).getD (-1)) = _
 have e : (fun p : Nat × Setting => isS2 p.2 a) = fun p => seq p.2.1 a := rfl
 rw [e]
 cases (backs l l.length).find? fun p => seq p.2.1 a <;> rfl
section
attribute [local go_sem ↓] Go.wp_at_zero Go.wp_at_succ
set_option maxRecDepth 100000 in
set_option maxHeartbeats 4000000 in
theorem set_any (A : Option Addr) (c : Nat) (l : List Setting) (a b v : ByteArray) (w : World) (h : SetAt w (.slice A l.length c) l) (hn : l.length ≤ 90000) (hok : rgtOk (newS a b v) = true) :
  Calls Tryd.prog 44 #[.slice A l.length c, .string a, .string b, .string v] w fun e w' => ∃ sv, e = .returned (.tuple #[sv, .int .i64 (setF l a b v).2]) ∧ w'.ownsRow w.heap.size 45 4 sv (setF l a b v).1.length ((setF l a b v).1.flatMap setCells) ∧ Below w.heap.size w w' := by
 have H := Lib.hid h
 clear h
 obtain ⟨W, hW⟩ : ∃ W, W = ((w.alloc (.cells #[.string a] 9)).alloc (.cells #[.string b] 9)).alloc (.cells #[.string a, .string b, .string v, .int .i64 0] 45) := ⟨_, rfl⟩
 have bW : Below w.heap.size w W := by
  rw [hW]
  have e1 := (Below.refl w.heap.size w).alloc (Nat.le_refl _) (.cells #[.string a] 9)
  have e2 := e1.alloc e1.size (.cells #[.string b] 9)
  exact e2.alloc e2.size _
 have kA : Go.Proofs.YtkkoedniahnneaaDoor.Blk W w.heap.size 9 #[.string a] := by rw [hW]; exact Go.Proofs.YtkkoedniahnneaaDoor.Blk.alloc (Go.Proofs.YtkkoedniahnneaaDoor.Blk.alloc (Go.Proofs.YtkkoedniahnneaaDoor.Blk.new _ _ _) _) _
 have kB : Go.Proofs.YtkkoedniahnneaaDoor.Blk W (w.heap.size + 1) 9 #[.string b] := by
  rw [hW]
  refine Go.Proofs.YtkkoedniahnneaaDoor.Blk.alloc ?_ _
  have := Go.Proofs.YtkkoedniahnneaaDoor.Blk.new (w.alloc (.cells #[.string a] 9)) 9 #[.string b]
  rwa [World.size_alloc] at this
 have kX : Go.Proofs.YtkkoedniahnneaaDoor.Blk W (w.heap.size + 1 + 1) 45 #[.string a, .string b, .string v, .int .i64 0] := by
  rw [hW]
  have := Go.Proofs.YtkkoedniahnneaaDoor.Blk.new ((w.alloc (.cells #[.string a] 9)).alloc (.cells #[.string b] 9)) 45 #[.string a, .string b, .string v, .int .i64 0]
  rwa [World.size_alloc, World.size_alloc] at this
 have BW := Lib.hid bW
 have KA := Lib.hid kA
 have KB := Lib.hid kB
 have KX := Lib.hid kX
 have HR := Lib.hid (right_calls (newS a b v) hok W)
 clear bW kA kB kX
 go_enter Tryd.func44, Tryd.ntmps44
 go_wp2_with fail
 rw [← hW]
 clear hW
 refine HR.out.mono ?_
 rintro e w1 ⟨rfl, hb1⟩
 cases hr : rgtB (newS a b v) with
 | false =>
  have HRG := Lib.hid hr
  have HB1 := Lib.hid hb1
  clear hr hb1
  go_wp2_with fail
  go_ret2
  unfold setF
  rw [HRG.out]
  exact ⟨_, rfl, ⟨rfl, .inl ⟨rfl, rfl⟩⟩, BW.out.trans (HB1.out.mono BW.out.size)⟩
 | true =>
  have HRG := Lib.hid hr
  have hbw1 := BW.out.trans (hb1.mono BW.out.size)
  have HBW1 := Lib.hid hbw1
  have HB1 := Lib.hid hb1
  have HCL := Lib.hid (clone_Set A c l.length (l.flatMap setCells) w1 (H.out.ext hbw1) (set_oneC l) (by omega))
  clear hr hb1 hbw1
  go_wp2_with fail
  refine HCL.out.mono ?_
  rintro e w2 ⟨sv, rfl, ho, hb2⟩
  obtain ⟨_, A2, c2, rfl, _, _, _⟩ := Sl.of_own ho
  have hL2 : SetAt w2 (.slice A2 l.length c2) l := Sl.of_own ho
  have hb12 : Below W.heap.size W w2 := HB1.out.trans (hb2.mono HB1.out.size)
  have kA2 := Go.Proofs.YtkkoedniahnneaaDoor.Blk.below KA.out hb12 KA.out.lt
  have kB2 := Go.Proofs.YtkkoedniahnneaaDoor.Blk.below KB.out hb12 KB.out.lt
  have HL := Lib.hid (lastS_any A2 c2 l w.heap.size (w.heap.size + 1) a b w2 hL2 (by omega) (kA2.cell 0) (kB2.cell 0))
  have HO := Lib.hid ho
  have HB12 := Lib.hid hb12
  have HB2 := Lib.hid hb2
  clear ho hb2 hb12 kA2 kB2 hL2
  go_wp2_with fail
  refine HL.out.mono ?_
  rintro e w3 ⟨rfl, hb3⟩
  have HO3 := Lib.hid (own_grown HO.out (grown_below hb3) (fun _ _ e => by cases e))
  have HB13 := Lib.hid (HB12.out.trans (hb3.mono HB12.out.size))
  have HB3 := Lib.hid hb3
  clear hb3
  rcases idxP_dec (fun x => isSN x a b) l with ⟨e1, e2⟩ | ⟨pre, m, post, rfl, e2, e3, e1⟩
  ·have el : lastX l a b = -1 := by rw [lastX_I]; unfold lastI; rw [e1]
   have hL3 : SetAt w3 (.slice A2 l.length c2) l := Sl.of_own HO3.out
   have kA3 := Go.Proofs.YtkkoedniahnneaaDoor.Blk.below KA.out HB13.out KA.out.lt
   have HL2 := Lib.hid (lastY_any A2 c2 l w.heap.size a w3 hL3 (by omega) (kA3.cell 0))
   have E1 := Lib.hid e1
   rw [el]
   clear hL3 kA3 el e1 e2
   go_wp2_with fail
   refine HL2.out.mono ?_
   rintro e w4 ⟨rfl, hb4⟩
   have ho4 := own_grown HO3.out (grown_below hb4) (fun _ _ e => by cases e)
   have hb14 := HB13.out.trans (hb4.mono HB13.out.size)
   have kX4 := Go.Proofs.YtkkoedniahnneaaDoor.Blk.below KX.out hb14 KX.out.lt
   have q0 := kX4.cell 0
   have q1 := kX4.cell 1
   have q2 := kX4.cell 2
   have q3 := kX4.cell 3
   simp only [List.getElem?_toArray, List.getElem?_cons_zero, List.getElem?_cons_succ] at q0 q1 q2 q3
   have hBw : w1.heap.size ≤ w4.heap.size := by have := HB2.out.size; have := hb4.size; have := HB3.out.size; omega
   have hnew : (w4.alloc (.cells #[.string a, .string b, .string v, .int .i64 0] 45)).heap[w4.heap.size]? = some (.cells [Value.string a, .string b, .string v, .int .i64 0].toArray 45 (0, 0)) := Go.Proofs.YtkkoedniahnneaaDoor.Blk.new _ _ _
   have HI := Lib.hid (insert_any w1.heap.size (.slice A2 l.length c2) l.length (posS l a) w4.heap.size (l.flatMap setCells) [.string a, .string b, .string v, .int .i64 0] (w4.alloc (.cells #[.string a, .string b, .string v, .int .i64 0] 45))
    (own_grown ho4 (World.grownBy_alloc _ _ none) (fun _ _ e => by cases e)) (by omega) (posS_le l a) (by rw [World.size_alloc]; omega) hnew rfl (set_oneC l) (by simp [Value.oneCell']) (fun e => by have := (ho4.lt _ e).2; omega))
   have HB14 := Lib.hid hb14
   have HYI := Lib.hid (lastY_I l a)
   clear ho4 hb4 hb14 kX4 hBw hnew
   cases hp : idxP (fun x => seq x.1 a) l with
   | some j =>
    have ey : lastY l a = (j : Int) := by rw [HYI.out]; unfold lastI; rw [hp]
    have ep : posS l a = j + 1 := by unfold posS; rw [hp]
    have hj := idxP_lt hp
    rw [ey]
    have hnj : ¬ ((j : Nat) : Int) < 0 := by omega
    have e5 : ((posS l a : Nat) : Int) = (j : Int) + 1 := by rw [ep]; omega
    clear hp ey ep
    go_wp2_with fail
    have hI := HI.out
    rw [e5] at hI
    refine hI.mono ?_
    rintro e w5 ⟨v', rfl, ho5, hb5⟩
    have HO5 := Lib.hid ho5
    have HB5 := Lib.hid hb5
    clear ho5 hb5
    go_wp2_with fail
    go_ret2
    have eS : setF l a b v = (l.take (posS l a) ++ newS a b v :: l.drop (posS l a), 0) := by
     unfold setF setL
     rw [HRG.out, E1.out]
     rfl
    have e6 := flat_ins l (newS a b v) (posS l a) (posS_le l a)
    have ho5 := HO5.out
    rw [show [Value.string a, .string b, .string v, .int .i64 0] = setCells (newS a b v) from rfl, e6] at ho5
    have e7 : (l.take (posS l a) ++ newS a b v :: l.drop (posS l a)).length = l.length + 1 := by
     have := posS_le l a
     simp
     omega
    rw [eS]
    refine ⟨_, rfl, ?_, ?_⟩
    ·rw [e7]
     exact own_le ho5 HBW1.out.size
    ·have hz := (HB14.out.alloc HB14.out.size (.cells #[.string a, .string b, .string v, .int .i64 0] 45))
     exact (BW.out.trans (hz.mono BW.out.size)).trans (HB5.out.mono HBW1.out.size)
   | none =>
    have ey : lastY l a = -1 := by rw [HYI.out]; unfold lastI; rw [hp]
    have ep : posS l a = l.length := by unfold posS; rw [hp]
    rw [ey]
    have e5 : ((posS l a : Nat) : Int) = (l.length : Int) := by rw [ep]
    clear hp ey ep
    go_wp2_with fail
    have hI := HI.out
    rw [e5] at hI
    refine hI.mono ?_
    rintro e w5 ⟨v', rfl, ho5, hb5⟩
    have HO5 := Lib.hid ho5
    have HB5 := Lib.hid hb5
    clear ho5 hb5
    go_wp2_with fail
    go_ret2
    have eS : setF l a b v = (l.take (posS l a) ++ newS a b v :: l.drop (posS l a), 0) := by
     unfold setF setL
     rw [HRG.out, E1.out]
     rfl
    have e6 := flat_ins l (newS a b v) (posS l a) (posS_le l a)
    have ho5 := HO5.out
    rw [show [Value.string a, .string b, .string v, .int .i64 0] = setCells (newS a b v) from rfl, e6] at ho5
    have e7 : (l.take (posS l a) ++ newS a b v :: l.drop (posS l a)).length = l.length + 1 := by
     have := posS_le l a
     simp
     omega
    rw [eS]
    refine ⟨_, rfl, ?_, ?_⟩
    ·rw [e7]
     exact own_le ho5 HBW1.out.size
    ·have hz := (HB14.out.alloc HB14.out.size (.cells #[.string a, .string b, .string v, .int .i64 0] 45))
     exact (BW.out.trans (hz.mono BW.out.size)).trans (HB5.out.mono HBW1.out.size)
  ·have el : lastX (pre ++ m :: post) a b = ((pre.length : Nat) : Int) := by rw [lastX_I]; unfold lastI; rw [e1]
   have hlen : (pre ++ m :: post).length = pre.length + 1 + post.length := by simp; omega
   rcases HO3.out.2 with ⟨h0, h00⟩ | ⟨g, cap, cur, h0, _⟩
   ·omega
   ·injection h0 with h0 _ h01
    subst h0 h01
    obtain ⟨s1, s2, s3, s4⟩ := own_store (k := pre.length * 4 + 2) (u := .string v) HO3.out (by omega)
    obtain ⟨u0, hu0⟩ := Option.isSome_iff_exists.1 s2
    rw [flat_put] at s1
    have eS : setF (pre ++ m :: post) a b v = (pre ++ putV v m :: post, 0) := by
     unfold setF setL
     rw [HRG.out, e1]
     have q1 : (pre ++ m :: post).take pre.length = pre := List.take_left' rfl
     have q2 : (pre ++ m :: post).drop (pre.length + 1) = post := by
      rw [show pre ++ m :: post = (pre ++ [m]) ++ post by simp, List.drop_left' (by simp)]
     have q3 : (pre ++ m :: post)[pre.length]?.getD zSet = m := by simp
     simp only [q1, q2, q3, cond_true]
    have HS1 := Lib.hid s1
    have ES := Lib.hid eS
    have hge : ((pre.length : Nat) : Int) ≥ 0 := by omega
    have hlt : ((pre.length : Nat) : Int) < (((pre ++ m :: post).length : Nat) : Int) := by omega
    rw [el]
    have HLEN := Lib.hid hlen
    clear el s1 s2 eS e1 e2 e3 hlen
    go_wp2_with fail
    go_ret2
    rw [ES.out]
    refine ⟨_, rfl, ?_, ?_⟩
    ·have e9 : (pre ++ putV v m :: post).length = (pre ++ m :: post).length := by simp
     have e10 : (pre ++ m :: post).length = pre.length + (post.length + 1) := by simp
     have hs := HS1.out
     rw [e10] at hs
     rw [e9, e10]
     exact own_le hs HBW1.out.size
    ·exact (BW.out.trans (HB13.out.mono BW.out.size)).setCell (p := ⟨g, pre.length * 4 + 2, none⟩) (by show w.heap.size ≤ g; have := HBW1.out.size; omega) _
end
noncomputable section
def setOkS (l : List Setting) (a b v : ByteArray) : Bool := decide (l.length ≤ 90000) && rgtOk (newS a b v)
def sp_f44 : Ent := spec (.pr (.sl tySetting) (.pr .str (.pr .str (.pr .str .nil)))) (fun x => (setOkS x.1 x.2.1 x.2.2.1 x.2.2.2.1)) (fun x => (.tu [(.t (.sl tySetting) ((setF x.1 x.2.1 x.2.2.1 x.2.2.2.1).1)), (.t tI ((setF x.1 x.2.1 x.2.2.1 x.2.2.2.1).2))]))
theorem en_f44 : Entered Tryd.prog 44 := .inr ⟨by decide, _, Tryd.func44, by kernel_rfl, by kernel_rfl⟩
theorem ms_f44 : Meets Tryd.prog 44 (strip sp_f44) := by
 unfold sp_f44
 refine meets_calls (fun x hok X w σ vs hfin hc => ?_)
 obtain ⟨l, a, b, v, u⟩ := x
 have hc : Cs X w σ [(V.t (.sl tySetting) l).d, .v (.string a), .v (.string b), .v (.string v)] vs := hc
 simp only [Cs] at hc
 obtain ⟨v1, r1, rfl, c1, v2, r2, rfl, c2, v3, r3, rfl, c3, v4, r4, rfl, c4, rfl⟩ := hc
 simp only [C] at c2 c3 c4
 obtain ⟨rfl, _⟩ := c2
 obtain ⟨rfl, _⟩ := c3
 obtain ⟨rfl, _⟩ := c4
 obtain ⟨A, c, rfl, hL⟩ := set_at c1
 obtain ⟨h1, h2⟩ := Bool.and_eq_true_iff.1 hok
 refine (set_any A c l a b v w hL (of_decide_eq_true h1) h2).mono ?_
 rintro e w' ⟨sv, rfl, ho, hb⟩
 refine ⟨_, rfl, ?_, hb⟩
 have hv : C X w' σ (V.t (.sl tySetting) (setF l a b v).1).d sv := own_cG ho (set_cs _) (set_one _) hfin
 show C X w' σ (.tu [(V.t (.sl tySetting) (setF l a b v).1).d, .v (.int .i64 (setF l a b v).2)]) _
 simp only [C, Cs]
 exact ⟨_, rfl, _, _, rfl, hv, _, _, rfl, ⟨rfl, rfl⟩, rfl⟩
end
end Go.Proofs.YtkkoedniahnneaaDoor.K
