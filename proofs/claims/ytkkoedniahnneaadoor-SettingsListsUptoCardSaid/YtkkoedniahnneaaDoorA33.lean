/-
 The walk of settings.last at Set's two questions.
-/
import Derived.Test.YtkkoedniahnneaaDoorA30
set_option linter.unusedSimpArgs false
set_option linter.unusedVariables false
namespace Go.Proofs.YtkkoedniahnneaaDoor.K
open Go.RowKit Go.Shelf
attribute [local go_sem] Oper.semAt_some
section
attribute [local go_sem ↓] Go.wp_at_zero Go.wp_at_succ
set_option maxHeartbeats 1000000 in
theorem set1_any (x : Setting) (pa pb : Nat) (a b : ByteArray) (W : World) (ha : W.cell? ⟨pa, 0, none⟩ = some (.string a)) (hb : W.cell? ⟨pb, 0, none⟩ = some (.string b)) :
  Calls Tryd.prog 83 #[setV x, .pointer (some ⟨pa, 0, none⟩), .pointer (some ⟨pb, 0, none⟩)] W fun e W' => e = .returned (.bool (isSN x a b)) ∧ Below W.heap.size W W' := by
 obtain ⟨x1, x2, x3, x4, u⟩ := x
 have ha' := fun o : Obj => (World.cell?_alloc_some W ⟨pa, 0, none⟩ o (by rw [ha]; rfl)).trans ha
 have hb' := fun o : Obj => (World.cell?_alloc_some W ⟨pb, 0, none⟩ o (by rw [hb]; rfl)).trans hb
 have h1 := ha' (.cells #[.string x1, .string x2, .string x3, .int .i64 x4] 45)
 have h2 := hb' (.cells #[.string x1, .string x2, .string x3, .int .i64 x4] 45)
 clear ha' hb'
 cases hq : seq x1 a with
 | false =>
  have hne : ¬ x1 = a := fun e => by rw [seq_dec, decide_eq_false_iff_not] at hq; exact hq e
  go_enter Tryd.func83, Tryd.ntmps83
  go_wp2_with fail
  go_ret
  refine ⟨?_, (Below.refl _ _).alloc (Nat.le_refl _) _⟩
  have e : isSN (x1, x2, x3, x4, u) a b = false := by unfold isSN; simp only [hq, Bool.false_and]
  rw [e]
  rfl
 | true =>
  obtain rfl : x1 = a := by rw [seq_dec, decide_eq_true_eq] at hq; exact hq
  cases hq2 : seq x2 b with
  | false =>
   have hne : ¬ x2 = b := fun e => by rw [seq_dec, decide_eq_false_iff_not] at hq2; exact hq2 e
   go_enter Tryd.func83, Tryd.ntmps83
   go_wp2_with fail
   go_ret
   refine ⟨?_, (Below.refl _ _).alloc (Nat.le_refl _) _⟩
   have e : isSN (x1, x2, x3, x4, u) x1 b = false := by unfold isSN; simp only [hq, hq2, Bool.and_false]
   rw [e]
   rfl
  | true =>
   obtain rfl : x2 = b := by rw [seq_dec, decide_eq_true_eq] at hq2; exact hq2
   go_enter Tryd.func83, Tryd.ntmps83
   go_wp2_with fail
   go_ret
   refine ⟨?_, (Below.refl _ _).alloc (Nat.le_refl _) _⟩
   have e : isSN (x1, x2, x3, x4, u) x1 x2 = true := by unfold isSN; simp only [hq, hq2, Bool.and_self]
   rw [e]
   rfl
end
set_option maxRecDepth 100000 in
set_option maxHeartbeats 1000000 in
theorem lastS_any (A : Option Addr) (c : Nat) (l : List Setting) (pa pb : Nat) (a b : ByteArray) (w : World) (h : SetAt w (.slice A l.length c) l) (hn : l.length ≤ 100000) (ha : w.cell? ⟨pa, 0, none⟩ = some (.string a)) (hb : w.cell? ⟨pb, 0, none⟩ = some (.string b)) :
  Calls Tryd.prog 82 #[.slice A l.length c, .func (.func 83) #[] #[.pointer (some ⟨pa, 0, none⟩), .pointer (some ⟨pb, 0, none⟩)]] w fun r w' => r = .returned (.int .i64 (lastX l a b)) ∧ Below w.heap.size w w' := by
 refine (callsIn_wide (n := 8)).1 ?_
 refine callsIn_of_wp_marks Tryd.func82 rfl trivial ?_ rfl
 simp only [Tryd.ntmps82, List.size_toArray, List.length_cons, List.length_nil, Nat.reduceAdd, Nat.reduceSub, Array.replicate_succ, Array.replicate_zero, List.push_toArray, List.append_toArray, List.nil_append, List.cons_append]
 gi_wp2_with (refine ⟨trivial, ?_⟩; gi_at_call 119; refine (back_in Fence.wide 7 trivial rfl _ _ _ _).mono ?_; rintro e w' ⟨rfl, rfl⟩)
 obtain ⟨S, hS⟩ : ∃ S, S = w.heap.size := ⟨_, rfl⟩
 obtain ⟨Wa, hwa⟩ : ∃ Wa, Wa = w.alloc (.cells #[.func (.func 83) #[] #[.pointer (some ⟨pa, 0, none⟩), .pointer (some ⟨pb, 0, none⟩)]] 81) := ⟨_, rfl⟩
 obtain ⟨Wb, hwb⟩ : ∃ Wb, Wb = Wa.alloc (.cells #[.int .i64 0] 3) := ⟨_, rfl⟩
 obtain ⟨W, hW⟩ : ∃ W, W = Wb.alloc (.cells #[.slice A l.length c] 43) := ⟨_, rfl⟩
 rw [← hwa, ← hwb, ← hW, ← hS]
 have sa : Wa.heap.size = S + 1 := by rw [hwa, World.size_alloc, hS]
 have sb : Wb.heap.size = S + 1 + 1 := by rw [hwb, World.size_alloc, sa]
 have sw : W.heap.size = S + 1 + 1 + 1 := by rw [hW, World.size_alloc, sb]
 have bW : Below S w W := by
  rw [hW, hwb, hwa, hS]
  have e1 := (Below.refl w.heap.size w).alloc (Nat.le_refl _) (.cells #[.func (.func 83) #[] #[.pointer (some ⟨pa, 0, none⟩), .pointer (some ⟨pb, 0, none⟩)]] 81)
  have e2 := e1.alloc e1.size (.cells #[.int .i64 0] 3)
  exact e2.alloc e2.size _
 have hLW : SetAt W (.slice A l.length c) l := h.ext (hS ▸ bW)
 have haW := (bW.cell (p := ⟨pa, 0, none⟩) (by have := World.block_lt_of_cell? w _ ha; show pa < S; rw [hS]; exact this)).trans ha
 have hbW := (bW.cell (p := ⟨pb, 0, none⟩) (by have := World.block_lt_of_cell? w _ hb; show pb < S; rw [hS]; exact this)).trans hb
 have kS : Go.Proofs.YtkkoedniahnneaaDoor.Blk W S 81 #[.func (.func 83) #[] #[.pointer (some ⟨pa, 0, none⟩), .pointer (some ⟨pb, 0, none⟩)]] := by
  rw [hW, hwb]; refine Go.Proofs.YtkkoedniahnneaaDoor.Blk.alloc (Go.Proofs.YtkkoedniahnneaaDoor.Blk.alloc ?_ _) _; rw [hwa, hS]; exact Go.Proofs.YtkkoedniahnneaaDoor.Blk.new _ _ _
 have kR : Go.Proofs.YtkkoedniahnneaaDoor.Blk W (S + 1) 3 #[.int .i64 0] := by
  rw [hW]; refine Go.Proofs.YtkkoedniahnneaaDoor.Blk.alloc ?_ _; rw [hwb, ← sa]; exact Go.Proofs.YtkkoedniahnneaaDoor.Blk.new _ _ _
 have kB : Go.Proofs.YtkkoedniahnneaaDoor.Blk W (S + 1 + 1) 43 #[.slice A l.length c] := by rw [hW, ← sb]; exact Go.Proofs.YtkkoedniahnneaaDoor.Blk.new _ _ _
 have HS := Lib.hid hS
 have HA := Lib.hid haW
 have HBB := Lib.hid hbW
 clear hwa hwb hW sa sb h ha hb haW hbW hS
 refine wpIn_rangeFunc_ownH rfl (by decide) (gf := 145) (lb := #[.pointer (some ⟨S + 1 + 1, 0, none⟩)]) rfl trivial (enters_of Tryd.func145 (by kernel_rfl) rfl)
  (back_stops Fence.wide _ trivial rfl (by decide) (S + 1 + 1) c A l hn W (by omega) (kB.cell 0) hLW) belowK_t (belowK_b (Nat.le_refl _)) (Below.refl _ _) (fun _ => rfl)
  (fun pre X => (∀ p ∈ pre, isSN p.2 a b = false) ∧ Below W.heap.size W X)
  (fun cd pre X => ∃ (ini : List (Nat × Setting)) (x : Nat × Setting), cd = .ret ∧ pre = ini ++ [x] ∧ (∀ p ∈ ini, isSN p.2 a b = false) ∧ isSN x.2 a b = true ∧ Go.Proofs.YtkkoedniahnneaaDoor.Blk X (S + 1) 3 #[.int .i64 (x.1 : Int)] ∧ Below S w X)
  (OwnFrom.and (ownFrom_pure _ _) (ownFrom_below (Nat.le_refl _) (Nat.le_refl _)))
  (fun cd s X Y row hs hg hr => by
   obtain ⟨ini, x, e1, e2, e3, e4, e5, e7⟩ := hs
   exact ⟨ini, x, e1, e2, e3, e4, blk_own _ _ (fun (_ : Unit) => _) () X Y row e5 hg (fun r e => (hr r e).2), ownFrom_below (n₀ := S) (w₀ := w) (B := W.heap.size) (by have := HS.out; omega) (by omega) () X Y row e7 hg hr⟩)
  ⟨by simp, Below.refl _ _⟩
  (fun x a' X => ∃ Bx, W.heap.size ≤ Bx ∧ Go.Proofs.YtkkoedniahnneaaDoor.Blk X Bx 45 (setCells x.2).toArray ∧ a' = { tmps := #[.slice A l.length c, .func (.func 83) #[] #[.pointer (some ⟨pa, 0, none⟩), .pointer (some ⟨pb, 0, none⟩)], undef, .pointer (some ⟨S, 0, none⟩), .pointer (some ⟨S + 1, 0, none⟩), .int .i64 (x.1 : Int), .pointer (some ⟨Bx, 0, none⟩), .slice A l.length c, .func (.func 145) #[] #[.pointer (some ⟨S + 1 + 1, 0, none⟩)], .int .i64 (x.1 : Int), setV x.2, undef, undef, undef, undef], defers := [] })
  (fun x a' _ X Y row hs hg hr => by obtain ⟨Bx, e1, e2, e3⟩ := hs; exact ⟨Bx, e1, blk_own Bx _ (fun (_ : Unit) => _) () X Y row e2 hg (fun r e => (hr r e).2), e3⟩)
  ?assign ?body ?done ?stop
 case assign =>
  rintro l' pre ⟨x1, d1, d2, d3, d4, u⟩ X K ⟨hp, hB⟩ hK
  simp only [setV, setCells] at hK ⊢
  have HP := Lib.hid hp
  clear hp
  gi_wp2
  exact hK _ _ ((KeepsOthers.alloc _ _).from _) ((Below.refl _ X).alloc hB.size _) ⟨HP.out, hB.alloc hB.size _⟩ ⟨X.heap.size, hB.size, Go.Proofs.YtkkoedniahnneaaDoor.Blk.new X _ _, rfl⟩
 case body =>
  rintro l' pre ⟨x1, d1, d2, d3, d4, u⟩ a' X hl ⟨r, hr⟩ ⟨hp, hB⟩ ⟨Bx, hBx, bX, rfl⟩ hlt
  simp only [setV, setCells] at bX ⊢
  have q0 := bX.cell 0
  have q1 := bX.cell 1
  have q2 := bX.cell 2
  have q3 := bX.cell 3
  have c5 := (Go.Proofs.YtkkoedniahnneaaDoor.Blk.below kS hB kS.lt).cell 0
  have kR1 := Go.Proofs.YtkkoedniahnneaaDoor.Blk.below kR hB kR.lt
  have f4 := kR1.frozen 0
  have g4 := kR1.cell 0
  simp only [List.getElem?_toArray, List.getElem?_cons_zero, List.getElem?_cons_succ] at q0 q1 q2 q3 c5 g4
  have cA := (hB.cell (p := ⟨pa, 0, none⟩) (World.block_lt_of_cell? W _ HA.out)).trans HA.out
  have cB := (hB.cell (p := ⟨pb, 0, none⟩) (World.block_lt_of_cell? W _ HBB.out)).trans HBB.out
  have HP := Lib.hid hp
  have KR1 := Lib.hid kR1
  clear hp kR1 bX
  cases hq : isSN (d1, d2, d3, d4, u) a b with
  | false =>
   have HQ := Lib.hid hq
   clear hq
   gi_wp2_with (refine ⟨trivial, ?_⟩; gi_at_call 83; refine (CallsIn.inRound l' (callsIn_wide.2 (set1_any (d1, d2, d3, d4, u) pa pb a b _ cA cB))).mono ?_; rw [HQ.out]; rintro e w1 ⟨rfl, hb1⟩)
   exact ⟨(keeps_below hb1).from _, hb1.mono hB.size, fun p hp => (List.mem_append.1 hp).elim (HP.out p) (fun e => by simp at e; subst e; exact HQ.out), hB.trans (hb1.mono hB.size)⟩
  | true =>
   have HQ := Lib.hid hq
   clear hq
   gi_wp2_with (refine ⟨trivial, ?_⟩; gi_at_call 83; refine (CallsIn.inRound l' (callsIn_wide.2 (set1_any (d1, d2, d3, d4, u) pa pb a b _ cA cB))).mono ?_; rw [HQ.out]; rintro e w1 ⟨rfl, hb1⟩; have kR2 := Go.Proofs.YtkkoedniahnneaaDoor.Blk.below KR1.out hb1 KR1.out.lt; have f5 := kR2.frozen 0; have g5 := kR2.cell 0; simp only [List.getElem?_toArray, List.getElem?_cons_zero, List.getElem?_cons_succ] at g5; have KR2 := Lib.hid kR2; clear kR2)
   refine ⟨((keeps_below hb1).trans (KeepsOthers.setCell w1 ⟨S + 1, 0, none⟩ (.int .i64 (x1 : Int)))).from _, pre, (x1, d1, d2, d3, d4, u), rfl, rfl, HP.out, HQ.out, KR2.out.set_ 0 _, ?_⟩
   exact ((bW.trans (hB.mono (by omega))).trans (hb1.mono (by have := hB.size; omega))).setCell (by show S ≤ S + 1; omega) _
 case done =>
  rintro D ys X hD rfl ⟨hp, hB⟩ hK
  have hnone := last_none l a b hp
  have kR1 := Go.Proofs.YtkkoedniahnneaaDoor.Blk.below kR hB kR.lt
  have f4 := kR1.frozen 0
  have g4 := kR1.cell 0
  simp only [List.getElem?_toArray, List.getElem?_cons_zero, List.getElem?_cons_succ] at g4
  have HN := Lib.hid hnone
  have HP := Lib.hid hp
  clear hnone hp
  have nB := (bW.trans (hB.mono (by omega))).setCell (p := ⟨S + 1, 0, none⟩) (by show S ≤ S + 1; omega) (.int .i64 (-1))
  have hK' := (KeepsOthers.setCell X ⟨S + 1, 0, none⟩ (.int .i64 (-1))).same D _ hK rfl
  have m1 := kR1.set_ 0 (.int .i64 (-1))
  have KR1 := Lib.hid kR1
  clear kR1
  gi_wp2
  rw [HN.out]
  exact finishL _ w S D _ (-1) HS.out hK' (by omega) m1 nB rfl
 case stop =>
  rintro D cd pre X hD ⟨k, hk, hpre⟩ ⟨ini, x, rfl, e2, e3, e4, e5, e7⟩ hK
  have hfin := last_some l a b k hk ini x (hpre ▸ e2) e3 e4
  have HN := Lib.hid hfin
  clear hfin
  gi_wp2
  rw [HN.out]
  exact finishL _ w S D _ _ HS.out hK (by omega) e5 e7 rfl
section
attribute [local go_sem ↓] Go.wp_at_zero Go.wp_at_succ
def isS2 (x : Setting) (a : ByteArray) : Bool := seq x.1 a
set_option maxHeartbeats 1000000 in
theorem set2_any (x : Setting) (pa : Nat) (a : ByteArray) (W : World) (ha : W.cell? ⟨pa, 0, none⟩ = some (.string a)) :
  Calls Tryd.prog 84 #[setV x, .pointer (some ⟨pa, 0, none⟩)] W fun e W' => e = .returned (.bool (isS2 x a)) ∧ Below W.heap.size W W' := by
 obtain ⟨x1, x2, x3, x4, u⟩ := x
 have ha' := fun o : Obj => (World.cell?_alloc_some W ⟨pa, 0, none⟩ o (by rw [ha]; rfl)).trans ha
 have h1 := ha' (.cells #[.string x1, .string x2, .string x3, .int .i64 x4] 45)
 clear ha'
 cases hq : seq x1 a with
 | false =>
  have hne : ¬ x1 = a := fun e => by rw [seq_dec, decide_eq_false_iff_not] at hq; exact hq e
  go_enter Tryd.func84, Tryd.ntmps84
  go_wp2_with fail
  go_ret
  refine ⟨?_, (Below.refl _ _).alloc (Nat.le_refl _) _⟩
  have e : isS2 (x1, x2, x3, x4, u) a = false := hq
  rw [e]
  rfl
 | true =>
  obtain rfl : x1 = a := by rw [seq_dec, decide_eq_true_eq] at hq; exact hq
  go_enter Tryd.func84, Tryd.ntmps84
  go_wp2_with fail
  go_ret
  refine ⟨?_, (Below.refl _ _).alloc (Nat.le_refl _) _⟩
  have e : isS2 (x1, x2, x3, x4, u) x1 = true := hq
  rw [e]
  rfl
end
def lastY (l : List Setting) (a : ByteArray) : Int := (((backs l l.length).find? fun p => isS2 p.2 a).map fun p => (p.1 : Int)).getD (-1)
theorem lastn2 (l : List Setting) (a : ByteArray) (h : ∀ p ∈ backs l l.length, isS2 p.2 a = false) : lastY l a = -1 := by
 unfold lastY
 rw [List.find?_eq_none.2 (fun p hp => by simp [h p hp])]
 rfl
theorem lasts2 (l : List Setting) (a : ByteArray) (k : Nat) (hk : k ≤ l.length) (ini : List (Nat × Setting)) (x : Nat × Setting) (h : backs l k = ini ++ [x]) (hi : ∀ p ∈ ini, isS2 p.2 a = false) (hl : isS2 x.2 a = true) : lastY l a = (x.1 : Int) := by
 unfold lastY
 rw [← List.take_append_drop k (backs l l.length), backs_take l k hk, h, List.append_assoc, List.find?_append, List.find?_eq_none.2 (fun p hp => by simp [hi p hp])]
 simp [hl]
set_option maxRecDepth 100000 in
set_option maxHeartbeats 1000000 in
theorem lastY_any (A : Option Addr) (c : Nat) (l : List Setting) (pa : Nat) (a : ByteArray) (w : World) (h : SetAt w (.slice A l.length c) l) (hn : l.length ≤ 100000) (ha : w.cell? ⟨pa, 0, none⟩ = some (.string a)) :
  Calls Tryd.prog 82 #[.slice A l.length c, .func (.func 84) #[] #[.pointer (some ⟨pa, 0, none⟩)]] w fun r w' => r = .returned (.int .i64 (lastY l a)) ∧ Below w.heap.size w w' := by
 refine (callsIn_wide (n := 8)).1 ?_
 refine callsIn_of_wp_marks Tryd.func82 rfl trivial ?_ rfl
 simp only [Tryd.ntmps82, List.size_toArray, List.length_cons, List.length_nil, Nat.reduceAdd, Nat.reduceSub, Array.replicate_succ, Array.replicate_zero, List.push_toArray, List.append_toArray, List.nil_append, List.cons_append]
 gi_wp2_with (refine ⟨trivial, ?_⟩; gi_at_call 119; refine (back_in Fence.wide 7 trivial rfl _ _ _ _).mono ?_; rintro e w' ⟨rfl, rfl⟩)
 obtain ⟨S, hS⟩ : ∃ S, S = w.heap.size := ⟨_, rfl⟩
 obtain ⟨Wa, hwa⟩ : ∃ Wa, Wa = w.alloc (.cells #[.func (.func 84) #[] #[.pointer (some ⟨pa, 0, none⟩)]] 81) := ⟨_, rfl⟩
 obtain ⟨Wb, hwb⟩ : ∃ Wb, Wb = Wa.alloc (.cells #[.int .i64 0] 3) := ⟨_, rfl⟩
 obtain ⟨W, hW⟩ : ∃ W, W = Wb.alloc (.cells #[.slice A l.length c] 43) := ⟨_, rfl⟩
 rw [← hwa, ← hwb, ← hW, ← hS]
 have sa : Wa.heap.size = S + 1 := by rw [hwa, World.size_alloc, hS]
 have sb : Wb.heap.size = S + 1 + 1 := by rw [hwb, World.size_alloc, sa]
 have sw : W.heap.size = S + 1 + 1 + 1 := by rw [hW, World.size_alloc, sb]
 have bW : Below S w W := by
  rw [hW, hwb, hwa, hS]
  have e1 := (Below.refl w.heap.size w).alloc (Nat.le_refl _) (.cells #[.func (.func 84) #[] #[.pointer (some ⟨pa, 0, none⟩)]] 81)
  have e2 := e1.alloc e1.size (.cells #[.int .i64 0] 3)
  exact e2.alloc e2.size _
 have hLW : SetAt W (.slice A l.length c) l := h.ext (hS ▸ bW)
 have haW := (bW.cell (p := ⟨pa, 0, none⟩) (by have := World.block_lt_of_cell? w _ ha; show pa < S; rw [hS]; exact this)).trans ha
 have kS : Go.Proofs.YtkkoedniahnneaaDoor.Blk W S 81 #[.func (.func 84) #[] #[.pointer (some ⟨pa, 0, none⟩)]] := by
  rw [hW, hwb]; refine Go.Proofs.YtkkoedniahnneaaDoor.Blk.alloc (Go.Proofs.YtkkoedniahnneaaDoor.Blk.alloc ?_ _) _; rw [hwa, hS]; exact Go.Proofs.YtkkoedniahnneaaDoor.Blk.new _ _ _
 have kR : Go.Proofs.YtkkoedniahnneaaDoor.Blk W (S + 1) 3 #[.int .i64 0] := by
  rw [hW]; refine Go.Proofs.YtkkoedniahnneaaDoor.Blk.alloc ?_ _; rw [hwb, ← sa]; exact Go.Proofs.YtkkoedniahnneaaDoor.Blk.new _ _ _
 have kB : Go.Proofs.YtkkoedniahnneaaDoor.Blk W (S + 1 + 1) 43 #[.slice A l.length c] := by rw [hW, ← sb]; exact Go.Proofs.YtkkoedniahnneaaDoor.Blk.new _ _ _
 have HS := Lib.hid hS
 have HA := Lib.hid haW
 clear hwa hwb hW sa sb h ha haW hS
 refine wpIn_rangeFunc_ownH rfl (by decide) (gf := 145) (lb := #[.pointer (some ⟨S + 1 + 1, 0, none⟩)]) rfl trivial (enters_of Tryd.func145 (by kernel_rfl) rfl)
  (back_stops Fence.wide _ trivial rfl (by decide) (S + 1 + 1) c A l hn W (by omega) (kB.cell 0) hLW) belowK_t (belowK_b (Nat.le_refl _)) (Below.refl _ _) (fun _ => rfl)
  (fun pre X => (∀ p ∈ pre, isS2 p.2 a = false) ∧ Below W.heap.size W X)
  (fun cd pre X => ∃ (ini : List (Nat × Setting)) (x : Nat × Setting), cd = .ret ∧ pre = ini ++ [x] ∧ (∀ p ∈ ini, isS2 p.2 a = false) ∧ isS2 x.2 a = true ∧ Go.Proofs.YtkkoedniahnneaaDoor.Blk X (S + 1) 3 #[.int .i64 (x.1 : Int)] ∧ Below S w X)
  (OwnFrom.and (ownFrom_pure _ _) (ownFrom_below (Nat.le_refl _) (Nat.le_refl _)))
  (fun cd s X Y row hs hg hr => by
   obtain ⟨ini, x, e1, e2, e3, e4, e5, e7⟩ := hs
   exact ⟨ini, x, e1, e2, e3, e4, blk_own _ _ (fun (_ : Unit) => _) () X Y row e5 hg (fun r e => (hr r e).2), ownFrom_below (n₀ := S) (w₀ := w) (B := W.heap.size) (by have := HS.out; omega) (by omega) () X Y row e7 hg hr⟩)
  ⟨by simp, Below.refl _ _⟩
  (fun x a' X => ∃ Bx, W.heap.size ≤ Bx ∧ Go.Proofs.YtkkoedniahnneaaDoor.Blk X Bx 45 (setCells x.2).toArray ∧ a' = { tmps := #[.slice A l.length c, .func (.func 84) #[] #[.pointer (some ⟨pa, 0, none⟩)], undef, .pointer (some ⟨S, 0, none⟩), .pointer (some ⟨S + 1, 0, none⟩), .int .i64 (x.1 : Int), .pointer (some ⟨Bx, 0, none⟩), .slice A l.length c, .func (.func 145) #[] #[.pointer (some ⟨S + 1 + 1, 0, none⟩)], .int .i64 (x.1 : Int), setV x.2, undef, undef, undef, undef], defers := [] })
  (fun x a' _ X Y row hs hg hr => by obtain ⟨Bx, e1, e2, e3⟩ := hs; exact ⟨Bx, e1, blk_own Bx _ (fun (_ : Unit) => _) () X Y row e2 hg (fun r e => (hr r e).2), e3⟩)
  ?assign ?body ?done ?stop
 case assign =>
  rintro l' pre ⟨x1, d1, d2, d3, d4, u⟩ X K ⟨hp, hB⟩ hK
  simp only [setV, setCells] at hK ⊢
  have HP := Lib.hid hp
  clear hp
  gi_wp2
  exact hK _ _ ((KeepsOthers.alloc _ _).from _) ((Below.refl _ X).alloc hB.size _) ⟨HP.out, hB.alloc hB.size _⟩ ⟨X.heap.size, hB.size, Go.Proofs.YtkkoedniahnneaaDoor.Blk.new X _ _, rfl⟩
 case body =>
  rintro l' pre ⟨x1, d1, d2, d3, d4, u⟩ a' X hl ⟨r, hr⟩ ⟨hp, hB⟩ ⟨Bx, hBx, bX, rfl⟩ hlt
  simp only [setV, setCells] at bX ⊢
  have q0 := bX.cell 0
  have q1 := bX.cell 1
  have q2 := bX.cell 2
  have q3 := bX.cell 3
  have c5 := (Go.Proofs.YtkkoedniahnneaaDoor.Blk.below kS hB kS.lt).cell 0
  have kR1 := Go.Proofs.YtkkoedniahnneaaDoor.Blk.below kR hB kR.lt
  have f4 := kR1.frozen 0
  have g4 := kR1.cell 0
  simp only [List.getElem?_toArray, List.getElem?_cons_zero, List.getElem?_cons_succ] at q0 q1 q2 q3 c5 g4
  have cA := (hB.cell (p := ⟨pa, 0, none⟩) (World.block_lt_of_cell? W _ HA.out)).trans HA.out
  have HP := Lib.hid hp
  have KR1 := Lib.hid kR1
  clear hp kR1 bX
  cases hq : isS2 (d1, d2, d3, d4, u) a with
  | false =>
   have HQ := Lib.hid hq
   clear hq
   gi_wp2_with (refine ⟨trivial, ?_⟩; gi_at_call 84; refine (CallsIn.inRound l' (callsIn_wide.2 (set2_any (d1, d2, d3, d4, u) pa a _ cA))).mono ?_; rw [HQ.out]; rintro e w1 ⟨rfl, hb1⟩)
   exact ⟨(keeps_below hb1).from _, hb1.mono hB.size, fun p hp => (List.mem_append.1 hp).elim (HP.out p) (fun e => by simp at e; subst e; exact HQ.out), hB.trans (hb1.mono hB.size)⟩
  | true =>
   have HQ := Lib.hid hq
   clear hq
   gi_wp2_with (refine ⟨trivial, ?_⟩; gi_at_call 84; refine (CallsIn.inRound l' (callsIn_wide.2 (set2_any (d1, d2, d3, d4, u) pa a _ cA))).mono ?_; rw [HQ.out]; rintro e w1 ⟨rfl, hb1⟩; have kR2 := Go.Proofs.YtkkoedniahnneaaDoor.Blk.below KR1.out hb1 KR1.out.lt; have f5 := kR2.frozen 0; have g5 := kR2.cell 0; simp only [List.getElem?_toArray, List.getElem?_cons_zero, List.getElem?_cons_succ] at g5; have KR2 := Lib.hid kR2; clear kR2)
   refine ⟨((keeps_below hb1).trans (KeepsOthers.setCell w1 ⟨S + 1, 0, none⟩ (.int .i64 (x1 : Int)))).from _, pre, (x1, d1, d2, d3, d4, u), rfl, rfl, HP.out, HQ.out, KR2.out.set_ 0 _, ?_⟩
   exact ((bW.trans (hB.mono (by omega))).trans (hb1.mono (by have := hB.size; omega))).setCell (by show S ≤ S + 1; omega) _
 case done =>
  rintro D ys X hD rfl ⟨hp, hB⟩ hK
  have hnone := lastn2 l a hp
  have kR1 := Go.Proofs.YtkkoedniahnneaaDoor.Blk.below kR hB kR.lt
  have f4 := kR1.frozen 0
  have g4 := kR1.cell 0
  simp only [List.getElem?_toArray, List.getElem?_cons_zero, List.getElem?_cons_succ] at g4
  have HN := Lib.hid hnone
  have HP := Lib.hid hp
  clear hnone hp
  have nB := (bW.trans (hB.mono (by omega))).setCell (p := ⟨S + 1, 0, none⟩) (by show S ≤ S + 1; omega) (.int .i64 (-1))
  have hK' := (KeepsOthers.setCell X ⟨S + 1, 0, none⟩ (.int .i64 (-1))).same D _ hK rfl
  have m1 := kR1.set_ 0 (.int .i64 (-1))
  have KR1 := Lib.hid kR1
  clear kR1
  gi_wp2
  rw [HN.out]
  exact finishL _ w S D _ (-1) HS.out hK' (by omega) m1 nB rfl
 case stop =>
  rintro D cd pre X hD ⟨k, hk, hpre⟩ ⟨ini, x, rfl, e2, e3, e4, e5, e7⟩ hK
  have hfin := lasts2 l a k hk ini x (hpre ▸ e2) e3 e4
  have HN := Lib.hid hfin
  clear hfin
  gi_wp2
  rw [HN.out]
  exact finishL _ w S D _ _ HS.out hK (by omega) e5 e7 rfl
end Go.Proofs.YtkkoedniahnneaaDoor.K
