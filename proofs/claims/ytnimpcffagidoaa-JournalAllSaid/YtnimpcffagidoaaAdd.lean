/-
 Add of the program.
-/
import Derived.Test.YtnimpcffagidoaaThen
namespace Go.Proofs.Ytnimpcffagidoaa
open Go.RowKit
set_option linter.unusedSimpArgs false
set_option linter.unusedVariables false
def addR (ds : List Dec) (d : Dec) : Int := if checkR ds ≠ 0 then checkR ds else if 128 ≤ ds.length then 3 else followsR ds d
def addL (ds : List Dec) (d : Dec) : List Dec := if addR ds d = 0 then ds ++ [d] else ds
set_option maxHeartbeats 1000000 in
theorem add_any (A : Option Addr) (c : Nat) (ds : List Dec) (a b cc d e : Int) (w : World) (h : Led w (.slice A ds.length c) ds) (hn : ds.length ≤ 100000) :
  Calls Try.prog 26 #[.agg #[.slice A ds.length c], .agg #[.int .i64 a, .int .i64 b, .int .i64 cc, .int .i64 d, .int .i64 e]] w fun r w' =>
   ∃ sv, r = .returned (.tuple #[.agg #[sv], .int .i64 (addR ds ⟨a, b, cc, d, e⟩)]) ∧ Own w' w.heap.size sv (addL ds ⟨a, b, cc, d, e⟩) ∧ Below w.heap.size w w' := by
 have HL := Lib.hid h
 have hb1 := Blk.new w 31 #[.slice A ds.length c]
 have hb2 := Blk.new (w.alloc (.cells #[.slice A ds.length c] 31)) 40 #[.int .i64 a, .int .i64 b, .int .i64 cc, .int .i64 d, .int .i64 e]
 have hb3 := Blk.new ((w.alloc (.cells #[.slice A ds.length c] 31)).alloc (.cells #[.int .i64 a, .int .i64 b, .int .i64 cc, .int .i64 d, .int .i64 e] 40)) 31 #[.slice none 0 0]
 have k1 := (hb1.alloc (.cells #[.int .i64 a, .int .i64 b, .int .i64 cc, .int .i64 d, .int .i64 e] 40)).alloc (.cells #[.slice none 0 0] 31)
 have k2 := hb2.alloc (.cells #[.slice none 0 0] 31)
 have kb : Below w.heap.size w (((w.alloc (.cells #[.slice A ds.length c] 31)).alloc (.cells #[.int .i64 a, .int .i64 b, .int .i64 cc, .int .i64 d, .int .i64 e] 40)).alloc (.cells #[.slice none 0 0] 31)) := (((Below.refl _ _).alloc (Nat.le_refl _) _).alloc (by simp) _).alloc (by simp; omega) _
 have hl := HL.out.ext ((((Below.refl _ _).alloc (Nat.le_refl _) (.cells #[.slice A ds.length c] 31)).alloc (by simp) (.cells #[.int .i64 a, .int .i64 b, .int .i64 cc, .int .i64 d, .int .i64 e] 40)).alloc (by simp; omega) (.cells #[.slice none 0 0] 31))
 simp only [World.size_alloc] at k2 hb3
 have HLW := Lib.hid hl
 clear h hb1 hb2 hl
 go_enter Try.func26, Try.ntmps26
 go_wp2_with fail
 generalize ((w.alloc (.cells #[.slice A ds.length c] 31)).alloc (.cells #[.int .i64 a, .int .i64 b, .int .i64 cc, .int .i64 d, .int .i64 e] 40)).alloc (.cells #[.slice none 0 0] 31) = W at *
 have HKB := Lib.hid kb
 clear kb
 generalize hbx : w.heap.size = bx at *
 have HBX := Lib.hid hbx
 clear hbx
 refine (clone_any A c ds W HLW.out hn).mono ?_
 rintro r w1 ⟨sv, rfl, hown, hb1⟩
 obtain ⟨A2, c2, rfl⟩ := own_slice hown
 go_upto_region 2 with fail
 have hal := (Below.refl w1.heap.size w1).alloc (Nat.le_refl _) (.cells #[.slice A2 ds.length c2] 31)
 have ko := Blk.new w1 31 #[.slice A2 ds.length c2]
 have k1 := (k1.ext hb1).ext hal
 have k2 := (k2.ext hb1).ext hal
 have kr := (hb3.ext hb1).ext hal
 have hkb := HKB.out
 have hbxn := HBX.out
 have hwb := below_step hkb hb1 (by have := hkb.size; omega)
 have kw := below_step hwb hal (by have := hwb.size; omega)
 have hlt := hb3.lt
 have HO := Lib.hid (own_ext hown hal)
 have HLW := Lib.hid ((HLW.out.ext hb1).ext hal)
 have hob : bx + 1 + 1 < w1.heap.size := Nat.lt_of_lt_of_le hlt hb1.size
 have hzW := hb1.size
 have hne : ∀ b', (Value.slice A2 ds.length c2).ownBlock = some b' → W.heap.size ≤ b' ∧ b' < w1.heap.size := fun b' hb' => hown.lt b' hb'
 generalize w1.alloc (.cells #[.slice A2 ds.length c2] 31) = W2 at *
 generalize w1.heap.size = ob at *
 clear hown hb1 hal hb3 hwb HKB HL hkb hbxn
 have zr := kr.cell 0
 have fr := kr.frozen 0
 have zo := ko.cell 0
 have fo := ko.frozen 0
 have z1 := k1.cell 0
 simp only [List.getElem?_toArray, List.getElem?_cons_zero] at zr zo z1
 have y0 := k2.cell 0
 have y1 := k2.cell 1
 have y2 := k2.cell 2
 have y3 := k2.cell 3
 have y4 := k2.cell 4
 simp only [List.getElem?_toArray, List.getElem?_cons_zero, List.getElem?_cons_succ] at y0 y1 y2 y3 y4
 go_wp2_with fail
 refine (check_any A c ds W2 HLW.out hn).mono ?_
 rintro r w3 ⟨rfl, hb3⟩
 have k1 := k1.ext hb3
 have k2 := k2.ext hb3
 have kr := kr.ext hb3
 have ko := ko.ext hb3
 have kw := below_step kw hb3 (by have := kw.size; have := HBX.out; omega)
 have HO := Lib.hid (own_ext HO.out hb3)
 have HLW := Lib.hid (HLW.out.ext hb3)
 clear zr fr zo fo z1 y0 y1 y2 y3 y4
 have zr := kr.cell 0
 have fr := kr.frozen 0
 have zo := ko.cell 0
 have fo := ko.frozen 0
 have z1 := k1.cell 0
 simp only [List.getElem?_toArray, List.getElem?_cons_zero] at zr zo z1
 have y0 := k2.cell 0
 have y1 := k2.cell 1
 have y2 := k2.cell 2
 have y3 := k2.cell 3
 have y4 := k2.cell 4
 simp only [List.getElem?_toArray, List.getElem?_cons_zero, List.getElem?_cons_succ] at y0 y1 y2 y3 y4
 generalize hck : checkR ds = ck
 have HCK := Lib.hid hck
 clear hck
 by_cases h0 : ck = 0
 ·have ht : (ck != 0) = false := by simp [h0]
  have ht2 : (ck == 0) = true := by simp [h0]
  have H0 := Lib.hid h0
  clear h0
  by_cases h128 : 128 ≤ ds.length
  ·have hd1 : decide ((128 : Int) ≤ (ds.length : Int)) = true := by simp; omega
   have hd2 : decide (128 ≤ ds.length) = true := by simp; omega
   have har : addR ds ⟨a, b, cc, d, e⟩ = 3 := by unfold addR; rw [HCK.out, if_neg (by rw [H0.out]; simp), if_pos h128]
   have HAR := Lib.hid har
   clear har
   go_wp2_with fail
   have hfin := kr.set_ 0 (.slice A2 ds.length c2)
   have hgf := only_setCell (World.grownBy.refl w3 (some (bx + 1 + 1))) (p := ⟨bx + 1 + 1, 0, none⟩) (.inl rfl) (.slice A2 ds.length c2)
   have hof := own_grown HO.out hgf (fun b' hb' e' => by
    have := (HO.out.lt b' hb').1
    injection e' with e'
    omega)
   have hbf := kw.setCell (p := ⟨bx + 1 + 1, 0, none⟩) (by have := HBX.out; show _ ≤ bx + 1 + 1; omega) (.slice A2 ds.length c2)
   generalize w3.setCell ⟨bx + 1 + 1, 0, none⟩ (.slice A2 ds.length c2) = W5 at *
   have q0 := hfin.cell 0
   refine bodyPost_ret (by simp [results, Try.results26, go_sem, q0]; rfl) rfl ?_
   rw [HBX.out]
   refine ⟨_, by rw [HAR.out], ?_, hbf⟩
   unfold addL
   rw [HAR.out, if_neg (by decide)]
   exact own_more hof (by omega)
  ·have hd1 : decide ((128 : Int) ≤ (ds.length : Int)) = false := by simp; omega
   have hd2 : decide (128 ≤ ds.length) = false := by simp; omega
   have har : addR ds ⟨a, b, cc, d, e⟩ = followsR ds ⟨a, b, cc, d, e⟩ := by unfold addR; rw [HCK.out, if_neg (by rw [H0.out]; simp), if_neg h128]
   have HAR := Lib.hid har
   clear har
   go_wp2_with fail
   refine (follows_any A c ds a b cc d e w3 HLW.out hn).mono ?_
   rintro r w4 ⟨rfl, hb4⟩
   have k1 := k1.ext hb4
   have k2 := k2.ext hb4
   have kr := kr.ext hb4
   have ko := ko.ext hb4
   have kw := below_step kw hb4 (by have := kw.size; have := HBX.out; omega)
   have HO := Lib.hid (own_ext HO.out hb4)
   have HLW := Lib.hid (HLW.out.ext hb4)
   clear zr fr zo fo z1 y0 y1 y2 y3 y4
   have zr := kr.cell 0
   have fr := kr.frozen 0
   have zo := ko.cell 0
   have fo := ko.frozen 0
   have z1 := k1.cell 0
   simp only [List.getElem?_toArray, List.getElem?_cons_zero] at zr zo z1
   have y0 := k2.cell 0
   have y1 := k2.cell 1
   have y2 := k2.cell 2
   have y3 := k2.cell 3
   have y4 := k2.cell 4
   simp only [List.getElem?_toArray, List.getElem?_cons_zero, List.getElem?_cons_succ] at y0 y1 y2 y3 y4
   generalize hfo : followsR ds ⟨a, b, cc, d, e⟩ = fv at *
   have HFO := Lib.hid hfo
   clear hfo
   by_cases hf0 : fv = 0
   ·have ht3 : (fv != 0) = false := by simp [hf0]
    have ht4 : (fv == 0) = true := by simp [hf0]
    have HF0 := Lib.hid hf0
    clear hf0
    have hsrc := Sl.made w4 40 1 5 #[.int .i64 a, .int .i64 b, .int .i64 cc, .int .i64 d, .int .i64 e] rfl (by simp [maxLen])
    have hob4 := ko.lt
    have hho := HO.out
    go_wp2_with
     (at_builtin
      refine wpList_app elemDec rfl _ _ rfl W.heap.size (.slice A2 ds.length c2) ds.length (decCells ds) rfl (own_grown HO.out (only_alloc (World.grownBy.refl _ none) _) (fun _ _ e => by cases e)) _ _ _ _ rfl hsrc (by simp [Value.oneCell']) (by omega) (by omega) (by simp; omega) ?_
      intro v' w5 hown5 hg5 hat5
      obtain ⟨A3, c3, rfl⟩ := own_slice hown5
      have ko5 := (ko.alloc (.cells #[.int .i64 a, .int .i64 b, .int .i64 cc, .int .i64 d, .int .i64 e] 40)).grown hg5 (fun e' => by have := (hne _ e'.symm).2; omega)
      have kr5 := (kr.alloc (.cells #[.int .i64 a, .int .i64 b, .int .i64 cc, .int .i64 d, .int .i64 e] 40)).grown hg5 (fun e' => by have := (hne _ e'.symm).1; omega)
      have x0 := ko5.cell 0
      have x1 := ko5.frozen 0
      have x2 := kr5.cell 0
      have x3 := kr5.frozen 0
      simp only [List.getElem?_toArray, List.getElem?_cons_zero] at x0 x2)
    have hne5 : ∀ b', (Value.slice A3 (ds.length + 1) c3).ownBlock = some b' → W.heap.size ≤ b' ∧ b' ≠ ob := fun b' hb' => ⟨(hown5.lt b' hb').1, fun e' => by
     rcases hat5 with h5 | h5
     ·rw [h5] at hb'
      have := (hne b' hb').2
      omega
     ·rw [h5] at hb'
      simp only [Option.some.injEq, World.size_alloc] at hb'
      omega⟩
    have hkwa := kw.alloc (by have := kw.size; have := HBX.out; omega) (.cells #[.int .i64 a, .int .i64 b, .int .i64 cc, .int .i64 d, .int .i64 e] 40)
    have hkw5 : Below bx w w5 := ⟨hg5.os.trans hkwa.os, hg5.tape.trans hkwa.tape, hg5.output.trans hkwa.output, Nat.le_trans hkwa.size hg5.size, fun i hi => (hg5.block i (by have := hkwa.size; have := HBX.out; omega) (fun e' => by have := (hne _ e'.symm).1; omega)).trans (hkwa.block i hi)⟩
    have g1 := only_setCell (World.grownBy.refl w5 (some ob)) (p := ⟨ob, 0, none⟩) (.inl rfl) (.slice A3 (ds.length + 1) c3)
    have o1 := own_grown hown5 g1 (fun b' hb' e' => (hne5 b' hb').2 (by injection e'))
    have b1 := hkw5.setCell (p := ⟨ob, 0, none⟩) (by show bx ≤ ob; omega) (.slice A3 (ds.length + 1) c3)
    have r1 := kr5.far (p := ⟨ob, 0, none⟩) (by show bx + 1 + 1 ≠ ob; omega) (.slice A3 (ds.length + 1) c3)
    generalize w5.setCell ⟨ob, 0, none⟩ (.slice A3 (ds.length + 1) c3) = w6 at *
    have hfin := r1.set_ 0 (.slice A3 (ds.length + 1) c3)
    have g2 := only_setCell (World.grownBy.refl w6 (some (bx + 1 + 1))) (p := ⟨bx + 1 + 1, 0, none⟩) (.inl rfl) (.slice A3 (ds.length + 1) c3)
    have o2 := own_grown o1 g2 (fun b' hb' e' => by have := (hne5 b' hb').1; injection e' with e'; omega)
    have b2 := b1.setCell (p := ⟨bx + 1 + 1, 0, none⟩) (by show bx ≤ bx + 1 + 1; omega) (.slice A3 (ds.length + 1) c3)
    generalize w6.setCell ⟨bx + 1 + 1, 0, none⟩ (.slice A3 (ds.length + 1) c3) = W5 at *
    have q0 := hfin.cell 0
    refine bodyPost_ret (by simp [results, Try.results26, go_sem, q0]; rfl) rfl ?_
    rw [HBX.out]
    refine ⟨_, by rw [HAR.out, HF0.out], ?_, b2⟩
    unfold addL Own
    rw [HAR.out, if_pos HF0.out, decCells_snoc, List.length_append]
    exact own_more o2 (by omega)
   ·have ht3 : (fv != 0) = true := by rw [bne_iff_ne]; exact hf0
    have ht4 : (fv == 0) = false := by simpa using hf0
    have HF0 := Lib.hid hf0
    clear hf0
    go_wp2_with fail
    have hfin := kr.set_ 0 (.slice A2 ds.length c2)
    have hgf := only_setCell (World.grownBy.refl w4 (some (bx + 1 + 1))) (p := ⟨bx + 1 + 1, 0, none⟩) (.inl rfl) (.slice A2 ds.length c2)
    have hof := own_grown HO.out hgf (fun b' hb' e' => by
     have := (HO.out.lt b' hb').1
     injection e' with e'
     omega)
    have hbf := kw.setCell (p := ⟨bx + 1 + 1, 0, none⟩) (by have := HBX.out; show _ ≤ bx + 1 + 1; omega) (.slice A2 ds.length c2)
    generalize w4.setCell ⟨bx + 1 + 1, 0, none⟩ (.slice A2 ds.length c2) = W5 at *
    have q0 := hfin.cell 0
    refine bodyPost_ret (by simp [results, Try.results26, go_sem, q0]; rfl) rfl ?_
    rw [HBX.out]
    refine ⟨_, by rw [HAR.out], ?_, hbf⟩
    unfold addL
    rw [HAR.out, if_neg HF0.out]
    exact own_more hof (by omega)
 ·have ht : (ck != 0) = true := by rw [bne_iff_ne]; exact h0
  have ht2 : (ck == 0) = false := by simpa using h0
  have H0 := Lib.hid h0
  clear h0
  have har : addR ds ⟨a, b, cc, d, e⟩ = ck := by unfold addR; rw [HCK.out, if_pos H0.out]
  have HAR := Lib.hid har
  clear har
  go_wp2_with fail
  have hfin := kr.set_ 0 (.slice A2 ds.length c2)
  have hgf := only_setCell (World.grownBy.refl w3 (some (bx + 1 + 1))) (p := ⟨bx + 1 + 1, 0, none⟩) (.inl rfl) (.slice A2 ds.length c2)
  have hof := own_grown HO.out hgf (fun b' hb' e' => by
   have := (HO.out.lt b' hb').1
   injection e' with e'
   omega)
  have hbf := kw.setCell (p := ⟨bx + 1 + 1, 0, none⟩) (by have := HBX.out; show _ ≤ bx + 1 + 1; omega) (.slice A2 ds.length c2)
  generalize w3.setCell ⟨bx + 1 + 1, 0, none⟩ (.slice A2 ds.length c2) = W5 at *
  have q0 := hfin.cell 0
  refine bodyPost_ret (by simp [results, Try.results26, go_sem, q0]; rfl) rfl ?_
  rw [HBX.out]
  refine ⟨_, by rw [HAR.out], ?_, hbf⟩
  unfold addL
  rw [HAR.out, if_neg H0.out]
  exact own_more hof (by omega)
end Go.Proofs.Ytnimpcffagidoaa
