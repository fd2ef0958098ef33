/-
 Decode of the program.
-/
import Derived.Test.YtnimpcffagidoaaDecode
import Derived.Test.YtnimpcffagidoaaCopyStr
import Derived.Lib.IndexBytes
import Derived.Deep.DeepCutAuto
namespace Go.Proofs.Ytnimpcffagidoaa
open Go.RowKit
set_option linter.unusedSimpArgs false
set_option linter.unusedVariables false
attribute [local go_sem ↓] Go.wp_at_zero Go.wp_at_succ
def noDec : Value := .agg #[.int .i64 0, .int .i64 0, .int .i64 0, .int .i64 0, .int .i64 0]
def decOf (m : List UInt8) : Dec := ⟨vl (m.take 3), vl ((m.drop 3).take 2), vl ((m.drop 5).take 1), vl ((m.drop 6).take 1), vl ((m.drop 7).take 1)⟩
def rec12 (s : ByteArray) (n : Nat) : List UInt8 := (s.data.toList.drop n).take 12
def decRes (m : List UInt8) (n : Nat) : Array Value :=
 if vl (m.drop 8) ≠ fnv (m.take 8) then #[noDec, .int .i64 0, .int .i64 58] else if validB (decOf m) = false then #[noDec, .int .i64 0, .int .i64 57] else #[(decOf m).val, .int .i64 ((n : Int) + 12), .int .i64 0]
set_option maxHeartbeats 800000 in
theorem decode_short (s : ByteArray) (n : Nat) (w : World) (hn : n ≤ s.size) (hs : s.size < 4611686018427387904) (h12 : s.size - n < 12) :
  Calls Try.prog 21 #[.string s, .int .i64 n] w fun r w' => r = .returned (.tuple #[noDec, .int .i64 0, .int .i64 1]) ∧ Below w.heap.size w w' := by
 have ht1 : decide ((s.size : Int) < (n : Int)) = false := by simp; omega
 have ht2 : decide (s.size < n) = false := by simp; omega
 go_enter Try.func21, Try.ntmps21
 go_wp2_with fail
 have hb0 : Below w.heap.size w ((w.alloc (.cells #[.int .i64 0, .int .i64 0, .int .i64 0, .int .i64 0, .int .i64 0] 40)).alloc (.cells (zs 12).toArray 80)) := ((Below.refl _ _).alloc (Nat.le_refl _) _).alloc (by simp) _
 have hr0 : Blk ((w.alloc (.cells #[.int .i64 0, .int .i64 0, .int .i64 0, .int .i64 0, .int .i64 0] 40)).alloc (.cells (zs 12).toArray 80)) w.heap.size 40 #[.int .i64 0, .int .i64 0, .int .i64 0, .int .i64 0, .int .i64 0] := (Blk.new w _ _).alloc _
 have hz0 : Blk ((w.alloc (.cells #[.int .i64 0, .int .i64 0, .int .i64 0, .int .i64 0, .int .i64 0] 40)).alloc (.cells (zs 12).toArray 80)) (w.heap.size + 1) 80 (zs 12).toArray := by
  have := Blk.new (w.alloc (.cells #[.int .i64 0, .int .i64 0, .int .i64 0, .int .i64 0, .int .i64 0] 40)) 80 (zs 12).toArray
  simpa using this
 generalize hW : (w.alloc (.cells #[.int .i64 0, .int .i64 0, .int .i64 0, .int .i64 0, .int .i64 0] 40)).alloc _ = W
 rw [show (w.alloc (.cells #[.int .i64 0, .int .i64 0, .int .i64 0, .int .i64 0, .int .i64 0] 40)).alloc (.cells (zs 12).toArray 80) = W from hW] at hb0 hr0 hz0
 clear hW
 have HB0 := Lib.hid hb0
 clear hb0
 generalize hbx : w.heap.size = bx at hr0 hz0 ⊢
 have HBX := Lib.hid hbx
 clear hbx
 obtain ⟨W', kcp, hg', hb'⟩ := copy_str (P := Try.prog) W.drew 24 9 3 5 (bx + 1) 12 (s.extract n s.size) _ 80 (by kernel_rfl) (by kernel_rfl) hz0.drew (by simp [zs])
 have hes : (s.extract n s.size).size = s.size - n := by rw [ByteArray.size_extract]; omega
 have hr1 := hr0.drew.grown hg' (fun e => by injection e; omega)
 have c0 := hr1.cell 0
 have c1 := hr1.cell 1
 have c2 := hr1.cell 2
 have c3 := hr1.cell 3
 have c4 := hr1.cell 4
 have f0 := hr1.frozen 0
 have f1 := hr1.frozen 1
 have f2 := hr1.frozen 2
 have f3 := hr1.frozen 3
 have f4 := hr1.frozen 4
 simp only [List.getElem?_toArray, List.getElem?_cons_zero, List.getElem?_cons_succ] at c0 c1 c2 c3 c4
 rw [show min (s.extract n s.size).size 12 = s.size - n from by rw [hes]; omega] at kcp
 generalize hq : s.size - n = q at *
 have hq1 : decide ((q : Int) < 12) = true := by simp; omega
 have hq2 : decide (q < 12) = true := by simp; omega
 clear hq hes
 go_region_with (fail)
 go_wp2_with fail
 have hfin := store5 hr1 (.int .i64 0) (.int .i64 0) (.int .i64 0) (.int .i64 0) (.int .i64 0)
 have hgf := only5 W' bx (.int .i64 0) (.int .i64 0) (.int .i64 0) (.int .i64 0) (.int .i64 0)
 generalize ((((W'.setCell ⟨bx, 0, none⟩ (.int .i64 0)).setCell ⟨bx, 1, none⟩ (.int .i64 0)).setCell ⟨bx, 2, none⟩ (.int .i64 0)).setCell ⟨bx, 3, none⟩ (.int .i64 0)).setCell ⟨bx, 4, none⟩ (.int .i64 0) = W5 at *
 have q0 := hfin.cell 0
 have q1 := hfin.cell 1
 have q2 := hfin.cell 2
 have q3 := hfin.cell 3
 have q4 := hfin.cell 4
 refine bodyPost_ret (by simp [results, Try.results21, go_sem, q0, q1, q2, q3, q4]; rfl) rfl ?_
 refine ⟨rfl, ?_⟩
 rw [HBX.out]
 have hbw := HB0.out
 rw [HBX.out] at hbw
 exact below_of_only (below_of_only hbw.drew hg' (by omega) (by have := hbw.size; have := HBX.out; simp; omega)) hgf (Nat.le_refl _) (by have := hr1.lt; omega)
set_option maxHeartbeats 800000 in
theorem decode_full (s : ByteArray) (n : Nat) (w : World) (hn : n ≤ s.size) (hs : s.size < 4611686018427387904) (h12 : 12 ≤ s.size - n) :
  Calls Try.prog 21 #[.string s, .int .i64 n] w fun r w' => r = .returned (.tuple (decRes (rec12 s n) n)) ∧ Below w.heap.size w w' := by
 have ht1 : decide ((s.size : Int) < (n : Int)) = false := by simp; omega
 have ht2 : decide (s.size < n) = false := by simp; omega
 go_enter Try.func21, Try.ntmps21
 go_wp2_with fail
 have hb0 : Below w.heap.size w ((w.alloc (.cells #[.int .i64 0, .int .i64 0, .int .i64 0, .int .i64 0, .int .i64 0] 40)).alloc (.cells (zs 12).toArray 80)) := ((Below.refl _ _).alloc (Nat.le_refl _) _).alloc (by simp) _
 have hr0 : Blk ((w.alloc (.cells #[.int .i64 0, .int .i64 0, .int .i64 0, .int .i64 0, .int .i64 0] 40)).alloc (.cells (zs 12).toArray 80)) w.heap.size 40 #[.int .i64 0, .int .i64 0, .int .i64 0, .int .i64 0, .int .i64 0] := (Blk.new w _ _).alloc _
 have hz0 : Blk ((w.alloc (.cells #[.int .i64 0, .int .i64 0, .int .i64 0, .int .i64 0, .int .i64 0] 40)).alloc (.cells (zs 12).toArray 80)) (w.heap.size + 1) 80 (zs 12).toArray := by
  have := Blk.new (w.alloc (.cells #[.int .i64 0, .int .i64 0, .int .i64 0, .int .i64 0, .int .i64 0] 40)) 80 (zs 12).toArray
  simpa using this
 generalize hW : (w.alloc (.cells #[.int .i64 0, .int .i64 0, .int .i64 0, .int .i64 0, .int .i64 0] 40)).alloc _ = W
 rw [show (w.alloc (.cells #[.int .i64 0, .int .i64 0, .int .i64 0, .int .i64 0, .int .i64 0] 40)).alloc (.cells (zs 12).toArray 80) = W from hW] at hb0 hr0 hz0
 clear hW
 have HB0 := Lib.hid hb0
 clear hb0
 generalize hbx : w.heap.size = bx at hr0 hz0 ⊢
 have HBX := Lib.hid hbx
 clear hbx
 obtain ⟨W', kcp, hg', hb'⟩ := copy_str (P := Try.prog) W.drew 24 9 3 5 (bx + 1) 12 (s.extract n s.size) _ 80 (by kernel_rfl) (by kernel_rfl) hz0.drew (by simp [zs])
 have hes : (s.extract n s.size).size = s.size - n := by rw [ByteArray.size_extract]; omega
 have hr1 := hr0.drew.grown hg' (fun e => by injection e; omega)
 have c0 := hr1.cell 0
 have c1 := hr1.cell 1
 have c2 := hr1.cell 2
 have c3 := hr1.cell 3
 have c4 := hr1.cell 4
 have f0 := hr1.frozen 0
 have f1 := hr1.frozen 1
 have f2 := hr1.frozen 2
 have f3 := hr1.frozen 3
 have f4 := hr1.frozen 4
 simp only [List.getElem?_toArray, List.getElem?_cons_zero, List.getElem?_cons_succ] at c0 c1 c2 c3 c4
 rw [show min (s.extract n s.size).size 12 = 12 from by rw [hes]; omega] at kcp
 have hm : (s.extract n s.size).data.toList.take 12 = rec12 s n := by
  unfold rec12
  rw [Go.Lib.extract_to_end]
 have hml : (rec12 s n).length = 12 := by
  unfold rec12
  have : s.data.toList.length = s.size := by simp
  simp
  omega
 have hd0 : (zs 12).toArray.toList.drop (s.extract n s.size).size = [] := List.drop_of_length_le (by rw [hes]; simp [zs]; omega)
 rw [hm, hd0, List.append_nil] at hb'
 clear hm hd0 hes
 generalize hmm : rec12 s n = m at *
 have HMM := Lib.hid hmm
 clear hmm
 go_region_with (fail)
 go_upto_region 6 with fail
 simp only [Act.put, List.getElem_toArray, List.getElem_cons_succ, List.getElem_cons_zero, List.setIfInBounds_toArray, List.set_cons_succ, List.set_cons_zero]
 have hbw : Below w.heap.size w W' := below_of_only HB0.out.drew hg' (by have := HBX.out; omega) (by have := HB0.out.size; have := HBX.out; simp; omega)
 have hb2 := hb'.drew
 have hb3 := (hb'.alloc (.cells #[.int .i64 0, .int .i64 0, .int .i64 0, .int .i64 0, .int .i64 0] 40)).drew
 have hlt := hb'.lt
 go_cut [8] (fun v8 wx => ∃ g8, v8 = .pointer (some ⟨g8, 0, none⟩) ∧ bx + 1 < g8 ∧ Blk wx g8 40 (decOf m).cells.toArray ∧ Blk wx (bx + 1) 80 (m.map fun c => Value.int .u8 (c.toNat : Int)).toArray ∧
  Blk wx bx 40 #[.int .i64 0, .int .i64 0, .int .i64 0, .int .i64 0, .int .i64 0] ∧ Below w.heap.size w wx)
 case first =>
  go_region_with ((go_at_call 57; refine (get_blk (bx + 1) _ _ _ 80 m _ (by assumption) (by omega) (by omega)).mono ?_; rintro r w2 ⟨rfl, rfl⟩))
  all_goals
   go_wp2_with fail
   go_meet
   refine ⟨W'.heap.size, rfl, hlt, ?_, ?_, ?_, ?_⟩
   ·first | exact Blk.new _ _ _ | exact (Blk.new _ _ _).drew
   ·first | exact hb'.drew.alloc _ | exact (hb'.alloc _).drew
   ·first | exact hr1.drew.alloc _ | exact (hr1.alloc _).drew
   ·first | exact hbw.drew.alloc hbw.size _ | exact (hbw.alloc hbw.size _).drew
 case rest =>
  obtain ⟨g8, rfl, h8, k8, kb, kr, kw⟩ := hcut
  clear hb2 hb3 hlt hb' hr1 hbw c0 c1 c2 c3 c4 f0 f1 f2 f3 f4 hg' kcp hz0 hr0
  have hcv : ∀ q, (convert 24 9 (.slice (some ⟨bx + 1, 0, none⟩) 8 12)).run Try.prog (wc.drewN q) = .ok (.string ⟨(m.take 8).toArray⟩) (wc.drewN q) := fun q =>
   conv_of_blk _ (kb.drewN q).f (e := 5) (by kernel_rfl) (by kernel_rfl) (by kernel_rfl) (by simp; omega) (by rw [List.drop_zero, ← List.map_take])
  have hget := fun q => get_blk (bx + 1) 8 4 4 80 m (wc.drewN q) (kb.drewN q) (by omega) (by omega)
  rw [List.take_of_length_le (by simp; omega)] at hget
  have hsum := fun q => sum_any ⟨(m.take 8).toArray⟩ (wc.drewN q) (by show Array.size _ ≤ _; simp [maxLen]; omega)
  generalize hx : vl (m.drop 8) = x at *
  generalize hy : fnv (m.take 8) = y at *
  generalize hS : ByteArray.mk (m.take 8).toArray = S at *
  have HG := Lib.hid hget
  have HS := Lib.hid hsum
  have HX := Lib.hid hx
  have HY := Lib.hid hy
  clear hget hsum hx hy hS
  go_wp2_with fail
  by_cases hxy : x = y
  ·have ht : (((x : Nat) : Int) != ((y : Nat) : Int)) = false := by simp [hxy]
   have ht' : (x != y) = false := by simp [hxy]
   have HXY := Lib.hid hxy
   clear hxy
   go_quiet ((first | (go_at_call 57; exact quiet_left (HG.out _)) | (go_at_call 13; exact quiet_left (HS.out _))))
   have hdm : ∃ d, d = decOf m := ⟨_, rfl⟩
   obtain ⟨d, hdm⟩ := hdm
   rw [← hdm] at k8
   have HDM := Lib.hid hdm
   clear hdm
   obtain ⟨d1, d2, d3, d4, d5⟩ := d
   have e0 := k8.cell 0
   have e1 := k8.cell 1
   have e2 := k8.cell 2
   have e3 := k8.cell 3
   have e4 := k8.cell 4
   have ef0 := k8.frozen 0
   have ef1 := k8.frozen 1
   have ef2 := k8.frozen 2
   have ef3 := k8.frozen 3
   have ef4 := k8.frozen 4
   simp only [Dec.cells, List.getElem?_toArray, List.getElem?_cons_zero, List.getElem?_cons_succ] at e0 e1 e2 e3 e4
   go_wp2_with fail
   refine (valid_any d1 d2 d3 d4 d5 _).mono ?_
   rintro r w3 ⟨rfl, hb3⟩
   have k8' := (k8.drewN nq).ext hb3
   have kr' := (kr.drewN nq).ext hb3
   have kw' := below_step (below_drewN kw nq) hb3 (by have := kw.size; simpa using this)
   clear e0 e1 e2 e3 e4 ef0 ef1 ef2 ef3 ef4
   have e0 := k8'.cell 0
   have e1 := k8'.cell 1
   have e2 := k8'.cell 2
   have e3 := k8'.cell 3
   have e4 := k8'.cell 4
   have ef0 := k8'.frozen 0
   have ef1 := k8'.frozen 1
   have ef2 := k8'.frozen 2
   have ef3 := k8'.frozen 3
   have ef4 := k8'.frozen 4
   simp only [Dec.cells, List.getElem?_toArray, List.getElem?_cons_zero, List.getElem?_cons_succ] at e0 e1 e2 e3 e4
   have c0 := kr'.cell 0
   have c1 := kr'.cell 1
   have c2 := kr'.cell 2
   have c3 := kr'.cell 3
   have c4 := kr'.cell 4
   have cf0 := kr'.frozen 0
   have cf1 := kr'.frozen 1
   have cf2 := kr'.frozen 2
   have cf3 := kr'.frozen 3
   have cf4 := kr'.frozen 4
   simp only [Dec.cells, List.getElem?_toArray, List.getElem?_cons_zero, List.getElem?_cons_succ] at c0 c1 c2 c3 c4
   by_cases hv : validB ⟨d1, d2, d3, d4, d5⟩ = true
   ·rw [hv]
    have HV := Lib.hid hv
    clear hv
    go_wp2_with fail
    have hfin := store5 kr' (.int .i64 d1) (.int .i64 d2) (.int .i64 d3) (.int .i64 d4) (.int .i64 d5)
    have hgf := only5 w3 bx (.int .i64 d1) (.int .i64 d2) (.int .i64 d3) (.int .i64 d4) (.int .i64 d5)
    generalize ((((World.setCell w3 ⟨bx, 0, none⟩ (.int .i64 d1)).setCell ⟨bx, 1, none⟩ (.int .i64 d2)).setCell ⟨bx, 2, none⟩ (.int .i64 d3)).setCell ⟨bx, 3, none⟩ (.int .i64 d4)).setCell ⟨bx, 4, none⟩ (.int .i64 d5) = W5 at *
    have q0 := hfin.cell 0
    have q1 := hfin.cell 1
    have q2 := hfin.cell 2
    have q3 := hfin.cell 3
    have q4 := hfin.cell 4
    refine bodyPost_ret (by simp [results, Try.results21, go_sem, q0, q1, q2, q3, q4]; rfl) rfl ?_
    refine ⟨?_, below_of_only kw' hgf (by have := HBX.out; omega) (by have := kw'.size; have := HBX.out; simp at *; omega)⟩
    rw [HMM.out]
    unfold decRes
    rw [HX.out, HY.out, if_neg (by rw [HXY.out]; simp), ← HDM.out, HV.out, if_neg (by simp)]
    rfl
   ·have hv' : validB ⟨d1, d2, d3, d4, d5⟩ = false := by simpa using hv
    rw [hv']
    have HV := Lib.hid hv'
    clear hv hv'
    go_wp2_with fail
    have hfin := store5 kr' (.int .i64 0) (.int .i64 0) (.int .i64 0) (.int .i64 0) (.int .i64 0)
    have hgf := only5 w3 bx (.int .i64 0) (.int .i64 0) (.int .i64 0) (.int .i64 0) (.int .i64 0)
    generalize ((((World.setCell w3 ⟨bx, 0, none⟩ (.int .i64 0)).setCell ⟨bx, 1, none⟩ (.int .i64 0)).setCell ⟨bx, 2, none⟩ (.int .i64 0)).setCell ⟨bx, 3, none⟩ (.int .i64 0)).setCell ⟨bx, 4, none⟩ (.int .i64 0) = W5 at *
    have q0 := hfin.cell 0
    have q1 := hfin.cell 1
    have q2 := hfin.cell 2
    have q3 := hfin.cell 3
    have q4 := hfin.cell 4
    refine bodyPost_ret (by simp [results, Try.results21, go_sem, q0, q1, q2, q3, q4]; rfl) rfl ?_
    refine ⟨?_, below_of_only kw' hgf (by have := HBX.out; omega) (by have := kw'.size; have := HBX.out; simp at *; omega)⟩
    rw [HMM.out]
    unfold decRes
    rw [HX.out, HY.out, if_neg (by rw [HXY.out]; simp), ← HDM.out, HV.out, if_pos rfl]
    rfl
  ·have ht : (((x : Nat) : Int) != ((y : Nat) : Int)) = true := by rw [bne_iff_ne]; omega
   have ht' : (x != y) = true := by rw [bne_iff_ne]; exact hxy
   have HXY := Lib.hid hxy
   clear hxy
   go_quiet ((first | (go_at_call 57; exact quiet_left (HG.out _)) | (go_at_call 13; exact quiet_left (HS.out _))))
   have c0 := kr.cell 0
   have c1 := kr.cell 1
   have c2 := kr.cell 2
   have c3 := kr.cell 3
   have c4 := kr.cell 4
   have cf0 := kr.frozen 0
   have cf1 := kr.frozen 1
   have cf2 := kr.frozen 2
   have cf3 := kr.frozen 3
   have cf4 := kr.frozen 4
   simp only [Dec.cells, List.getElem?_toArray, List.getElem?_cons_zero, List.getElem?_cons_succ] at c0 c1 c2 c3 c4
   go_wp2_with fail
   have kr' := kr.drewN nq
   have kw' := below_drewN kw nq
   have hfin := store5 kr' (.int .i64 0) (.int .i64 0) (.int .i64 0) (.int .i64 0) (.int .i64 0)
   have hgf := only5 (wc.drewN nq) bx (.int .i64 0) (.int .i64 0) (.int .i64 0) (.int .i64 0) (.int .i64 0)
   generalize ((((World.setCell (wc.drewN nq) ⟨bx, 0, none⟩ (.int .i64 0)).setCell ⟨bx, 1, none⟩ (.int .i64 0)).setCell ⟨bx, 2, none⟩ (.int .i64 0)).setCell ⟨bx, 3, none⟩ (.int .i64 0)).setCell ⟨bx, 4, none⟩ (.int .i64 0) = W5 at *
   have q0 := hfin.cell 0
   have q1 := hfin.cell 1
   have q2 := hfin.cell 2
   have q3 := hfin.cell 3
   have q4 := hfin.cell 4
   refine bodyPost_ret (by simp [results, Try.results21, go_sem, q0, q1, q2, q3, q4]; rfl) rfl ?_
   refine ⟨?_, below_of_only kw' hgf (by have := HBX.out; omega) (by have := kw'.size; have := HBX.out; simp at *; omega)⟩
   rw [HMM.out]
   unfold decRes
   rw [HX.out, HY.out, if_pos HXY.out]
   rfl
end Go.Proofs.Ytnimpcffagidoaa
