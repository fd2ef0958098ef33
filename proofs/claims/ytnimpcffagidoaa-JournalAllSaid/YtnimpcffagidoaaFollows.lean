/-
 Check of a ledger by the program.
-/
import Derived.Test.YtnimpcffagidoaaUntil
import Derived.Test.YtnimpcffagidoaaValid
import Derived.Deep.RegionHeld3
import Derived.Deep.DeepCutAuto
namespace Go.Proofs.Ytnimpcffagidoaa
open Go.RowKit
set_option linter.unusedSimpArgs false
set_option linter.unusedVariables false
attribute [local go_sem ↓] Go.wp_at_zero Go.wp_at_succ
def followsR (ds : List Dec) (d : Dec) : Int :=
 if validB d = false then 57 else match ds.getLast? with
  | none => 0
  | some a => if d.day < a.day ∨ d.known < a.known then 6 else 0
set_option maxHeartbeats 800000 in
theorem follows_any (A : Option Addr) (c : Nat) (ds : List Dec) (a b cc d e : Int) (w : World) (h : Led w (.slice A ds.length c) ds) (hn : ds.length ≤ 100000) :
  Calls Try.prog 60 #[.slice A ds.length c, .agg #[.int .i64 a, .int .i64 b, .int .i64 cc, .int .i64 d, .int .i64 e]] w fun r w' => r = .returned (.int .i64 (followsR ds ⟨a, b, cc, d, e⟩)) ∧ Below w.heap.size w w' := by
 have HL := Lib.hid h
 clear h
 go_enter Try.func60, Try.ntmps60
 go_wp2_with fail
 refine (valid_any a b cc d e _).mono ?_
 rintro r w1 ⟨rfl, hb1⟩
 have hbx : Blk w1 w.heap.size 40 #[.int .i64 a, .int .i64 b, .int .i64 cc, .int .i64 d, .int .i64 e] := (Blk.new w _ _).ext hb1
 have hbw : Below w.heap.size w w1 := below_step ((Below.refl _ _).alloc (Nat.le_refl _) _) hb1 (by simp)
 have HL1 := Lib.hid ((HL.out.alloc (.cells #[.int .i64 a, .int .i64 b, .int .i64 cc, .int .i64 d, .int .i64 e] 40)).ext hb1)
 clear hb1
 have z0 := hbx.cell 0
 have z1 := hbx.cell 1
 simp only [List.getElem?_toArray, List.getElem?_cons_zero, List.getElem?_cons_succ] at z0 z1
 by_cases hv : validB ⟨a, b, cc, d, e⟩ = true
 ·rw [hv]
  have HV := Lib.hid hv
  clear hv
  rcases hq : ds.getLast? with _ | x
  ·have hnil : ds = [] := List.getLast?_eq_none_iff.1 hq
   subst hnil
   clear hq
   go_wp2_with fail
   go_quiet (fail)
   go_wp2_with fail
   go_ret
   exact ⟨ret_int (by unfold followsR; rw [HV.out]; rfl), below_drewN hbw _⟩
  ·have hne : ds ≠ [] := by rintro rfl; simp at hq
   have hpos : 0 < ds.length := List.length_pos_iff.2 hne
   have hlast : ds[ds.length - 1]? = some x := by rw [← List.getLast?_eq_getElem?]; exact hq
   obtain ⟨m, hm⟩ : ∃ m, ds.length = m + 1 := ⟨ds.length - 1, by omega⟩
   rw [hm, Nat.add_sub_cancel] at hlast
   obtain ⟨b', off, c', hsv, hbl, _, _, c0, c1, c2, c3, c4⟩ := sl_dec HL1.out hlast
   injection hsv with e1 _ e2
   subst e1 e2
   have HQ := Lib.hid hq
   have HM := Lib.hid hm
   have hpi : (0 : Int) < (ds.length : Int) := by omega
   have hmi : (ds.length : Int) - 1 = (m : Int) := by omega
   have hdl : decide (0 < ds.length) = true := by simp; omega
   have hwm : IntKind.i64.wrap ((ds.length : Int) - 1) = (m : Int) := by rw [hmi]; exact IntWalk.i64_in _ (by omega)
   have hfr : followsR ds ⟨a, b, cc, d, e⟩ = if a < x.day ∨ b < x.known then 6 else 0 := by unfold followsR; rw [HV.out, HQ.out]; rfl
   have hml : (m : Int) < (ds.length : Int) := by omega
   have HF := Lib.hid hfr
   clear hq hne hm hlast hfr
   by_cases h1 : a < x.day
   ·have ht1 : decide (a < x.day) = true := by simp [h1]
    go_wp2_with fail
    go_quiet (fail)
    go_wp2_with fail
    go_ret
    exact ⟨ret_int (by rw [HF.out, if_pos (.inl h1)]), below_drewN hbw _⟩
   ·have ht1 : decide (a < x.day) = false := by simp; omega
    by_cases h2 : b < x.known
    ·have ht2 : decide (b < x.known) = true := by simp [h2]
     go_wp2_with fail
     go_quiet (fail)
     go_wp2_with fail
     go_ret
     exact ⟨ret_int (by rw [HF.out, if_pos (.inr h2)]), below_drewN hbw _⟩
    ·have ht2 : decide (b < x.known) = false := by simp; omega
     go_wp2_with fail
     go_quiet (fail)
     go_wp2_with fail
     go_ret
     exact ⟨ret_int (by rw [HF.out, if_neg (by omega)]), below_drewN hbw _⟩
 ·have hv' : validB ⟨a, b, cc, d, e⟩ = false := by simpa using hv
  rw [hv']
  have HV := Lib.hid hv'
  clear hv hv'
  go_wp2_with fail
  go_ret
  exact ⟨ret_int (by unfold followsR; rw [HV.out]; rfl), hbw⟩
theorem follows_take (A : Option Addr) (c : Nat) (ds : List Dec) (k : Nat) (hk : k ≤ ds.length) (a b cc d e : Int) (w : World) (h : Led w (.slice A k c) (ds.take k)) (hn : ds.length ≤ 100000) :
  Calls Try.prog 60 #[.slice A k c, .agg #[.int .i64 a, .int .i64 b, .int .i64 cc, .int .i64 d, .int .i64 e]] w fun r w' => r = .returned (.int .i64 (followsR (ds.take k) ⟨a, b, cc, d, e⟩)) ∧ Below w.heap.size w w' := by
 have hl : (ds.take k).length = k := by rw [List.length_take, Nat.min_eq_left hk]
 have := follows_any A c (ds.take k) a b cc d e w (by rw [hl]; exact h) (by omega)
 rw [hl] at this
 exact this
def checkFrom (ds : List Dec) : Nat → Nat → Int
 | 0, _ => 0
 | f + 1, k => match ds[k]? with
  | none => 0
  | some d => if followsR (ds.take k) d ≠ 0 then followsR (ds.take k) d else checkFrom ds f (k + 1)
def checkR (ds : List Dec) : Int := if 128 < ds.length then 3 else checkFrom ds ds.length 0
set_option maxHeartbeats 800000 in
theorem check_any (A : Option Addr) (c : Nat) (ds : List Dec) (w : World) (h : Led w (.slice A ds.length c) ds) (hn : ds.length ≤ 100000) :
  Calls Try.prog 32 #[.agg #[.slice A ds.length c]] w fun r w' => r = .returned (.int .i64 (checkR ds)) ∧ Below w.heap.size w w' := by
 obtain ⟨A', c', hsv, hlc, hcm⟩ := led_slice' h
 injection hsv with e1 _ e2
 subst e1 e2
 have HL := Lib.hid (h.alloc (.cells #[.slice A ds.length c] 31))
 clear h
 by_cases hbig : 128 < ds.length
 ·have ht1 : decide ((128 : Int) < (ds.length : Int)) = true := by simp; omega
  have ht2 : decide (128 < ds.length) = true := by simp; omega
  go_enter Try.func32, Try.ntmps32
  go_wp2_with fail
  go_ret
  exact ⟨ret_int (by unfold checkR; rw [if_pos hbig]), (Below.refl _ _).alloc (Nat.le_refl _) _⟩
 ·have ht1 : decide ((128 : Int) < (ds.length : Int)) = false := by simp; omega
  have ht2 : decide (128 < ds.length) = false := by simp; omega
  have hres : checkR ds = checkFrom ds (ds.length - 0) 0 := by unfold checkR; rw [if_neg hbig]; rfl
  have HR := Lib.hid hres
  clear hres
  go_enter Try.func32, Try.ntmps32
  go_wp2_with fail
  have hbx := Blk.new w 31 #[.slice A ds.length c]
  have hb0 : Below w.heap.size w (w.alloc (.cells #[.slice A ds.length c] 31)) := (Below.refl _ _).alloc (Nat.le_refl _) _
  generalize w.alloc (.cells #[.slice A ds.length c] 31) = W at *
  have HB := Lib.hid hb0
  clear hb0 ht1 ht2
  generalize hbxs : w.heap.size = bx at *
  have HBX := Lib.hid hbxs
  clear hbxs
  go_loopw [13] (fun iv wr => ∃ k : Nat, k ≤ ds.length ∧ iv = .int .i64 k ∧ Below W.heap.size W wr ∧ Hid (checkR ds = checkFrom ds (ds.length - k) k)) (fun iv _ => ds.length - (intOf iv).toNat)
  case atStart => exact ⟨0, Nat.zero_le _, rfl, Below.refl _ _, HR⟩
  case round =>
   obtain ⟨k, hk, rfl, hb, HC⟩ := hrel
   clear HR
   by_cases hlt : k < ds.length
   ·obtain ⟨d, hd⟩ : ∃ d, ds[k]? = some d := ⟨_, List.getElem?_eq_getElem hlt⟩
    have hbr := hbx.ext hb
    have hlr := HL.out.ext hb
    obtain ⟨b, off, c', hsv, hbl, _, _, c0, c1, c2, c3, c4⟩ := sl_dec hlr hd
    injection hsv with e1 _ e2
    subst e1 e2
    obtain ⟨d1, d2, d3, d4, d5⟩ := d
    simp only [] at c0 c1 c2 c3 c4
    have hstep : checkFrom ds (ds.length - k) k = if followsR (ds.take k) ⟨d1, d2, d3, d4, d5⟩ ≠ 0 then followsR (ds.take k) ⟨d1, d2, d3, d4, d5⟩ else checkFrom ds (ds.length - (k + 1)) (k + 1) := by
     rw [show ds.length - k = (ds.length - (k + 1)) + 1 from by omega]
     conv => lhs; unfold checkFrom
     rw [hd]
    have HS := Lib.hid hstep
    have HLR := Lib.hid hlr
    clear hd hstep hlr
    go_upto_region 6 with fail
    have hnew := (Blk.new wr 40 #[.int .i64 d1, .int .i64 d2, .int .i64 d3, .int .i64 d4, .int .i64 d5]).drew
    have hbn := (hbr.alloc (.cells #[.int .i64 d1, .int .i64 d2, .int .i64 d3, .int .i64 d4, .int .i64 d5] 40)).drew
    have HLN := Lib.hid (Led.take ((HLR.out.alloc (.cells #[.int .i64 d1, .int .i64 d2, .int .i64 d3, .int .i64 d4, .int .i64 d5] 40)).drew) k hk)
    have hbn2 := (hb.alloc hb.size (.cells #[.int .i64 d1, .int .i64 d2, .int .i64 d3, .int .i64 d4, .int .i64 d5] 40)).drew
    generalize wr.alloc (.cells #[.int .i64 d1, .int .i64 d2, .int .i64 d3, .int .i64 d4, .int .i64 d5] 40) = W2 at *
    generalize wr.heap.size = b2 at *
    have z0 := hnew.cell 0
    have z1 := hnew.cell 1
    have z2 := hnew.cell 2
    have z3 := hnew.cell 3
    have z4 := hnew.cell 4
    have zb := hbn.cell 0
    simp only [List.getElem?_toArray, List.getElem?_cons_zero, List.getElem?_cons_succ] at z0 z1 z2 z3 z4 zb
    have hkc : (k : Int) ≤ (c : Int) := by omega
    have hk0 : (0 : Int) ≤ (k : Int) := by omega
    go_region_held3 (fun w' => w'.cell? ⟨bx, 0, none⟩ = some (.slice (some ⟨b, off, none⟩) ds.length c) ∧ w'.cell? ⟨b2, 0, none⟩ = some (.int .i64 d1) ∧ w'.cell? ⟨b2, 1, none⟩ = some (.int .i64 d2) ∧ w'.cell? ⟨b2, 2, none⟩ = some (.int .i64 d3) ∧ w'.cell? ⟨b2, 3, none⟩ = some (.int .i64 d4) ∧ w'.cell? ⟨b2, 4, none⟩ = some (.int .i64 d5)) (first | go_keep | exact ⟨by assumption, by assumption, by assumption, by assumption, by assumption, by assumption⟩)
     ((go_at_call 60; refine (follows_take _ _ ds k hk d1 d2 d3 d4 d5 _ HLN.out hn).mono ?_; rintro r w9 ⟨rfl, hb9⟩; have hk9 := hnew.ext hb9; have hm9 := hbn.ext hb9; have hn9 := below_step hbn2 hb9 hbn2.size; have y0 := hk9.cell 0; have y1 := hk9.cell 1; have y2 := hk9.cell 2; have y3 := hk9.cell 3; have y4 := hk9.cell 4; have yb := hm9.cell 0; simp only [List.getElem?_toArray, List.getElem?_cons_zero, List.getElem?_cons_succ] at y0 y1 y2 y3 y4 yb))
    generalize hf : followsR (ds.take k) ⟨d1, d2, d3, d4, d5⟩ = fv at *
    have HFV := Lib.hid hf
    clear hf
    by_cases h0 : fv = 0
    ·have ht : (fv != 0) = false := by simp [h0]
     have ht2 : (fv == 0) = true := by simp [h0]
     have H0 := Lib.hid h0
     clear h0
     go_wp2_with fail
     go_roundw
     case rel => exact ⟨k + 1, by omega, by go_num, by assumption, HC.out.trans (by rw [HS.out, H0.out, if_neg (by simp)])⟩
     case measure => simp [intOf]; omega
    ·have ht : (fv != 0) = true := by rw [bne_iff_ne]; exact h0
     have ht2 : (fv == 0) = false := by simpa using h0
     have H0 := Lib.hid h0
     clear h0
     go_wp2_with fail
     go_ret
     refine ⟨ret_int (by rw [HC.out, HS.out, if_pos H0.out]), ?_⟩
     rw [HBX.out]
     exact below_step HB.out (by assumption) (by have := hbx.lt; omega)
   ·go_wp2_with fail
    go_ret
    refine ⟨ret_int (by rw [HC.out, show ds.length - k = 0 from by omega]; rfl), ?_⟩
    rw [HBX.out]
    exact below_step HB.out hb (by have := hbx.lt; omega)
end Go.Proofs.Ytnimpcffagidoaa
