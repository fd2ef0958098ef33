/-
 The bytes of a decision, as the program makes them.
-/
import Derived.Test.YtnimpcffagidoaaSum
import Derived.Test.YtnimpcffagidoaaPut
import Derived.Test.YtnimpcffagidoaaValid
import Derived.Deep.RegionHeld3
import Derived.Deep.DrawnRows
import Derived.BigQuiet
import Derived.Deep.RegionWith
namespace Go.Proofs.Ytnimpcffagidoaa
open Go.RowKit
set_option linter.unusedSimpArgs false
set_option linter.unusedVariables false
attribute [local go_sem ↓] Go.wp_at_zero Go.wp_at_succ
theorem bvs_append (a b : List UInt8) : bvs (a ++ b) = bvs a ++ bvs b := List.map_append ..
theorem bvs_len (a : List UInt8) : (bvs a).length = a.length := List.length_map ..
def zs (n : Nat) : List Value := List.replicate n (Value.int .u8 0)
def Dec.body (d : Dec) : List UInt8 := be 3 d.day.toNat ++ be 2 d.known.toNat ++ be 1 d.kind.toNat ++ be 1 d.subject.toNat ++ be 1 d.value.toNat
def Dec.bytes (d : Dec) : List UInt8 := d.body ++ be 4 (fnv d.body)
set_option maxHeartbeats 800000 in
theorem encode_no (d : Dec) (w : World) (hv : validB d = false) :
  Calls Try.prog 45 #[d.val] w fun r w' => r = .returned (.tuple #[.string ⟨#[]⟩, .int .i64 57]) ∧ Below w.heap.size w w' := by
 have HV := Lib.hid hv
 clear hv
 obtain ⟨a, b, c, d, e⟩ := d
 unfold Dec.val
 go_enter Try.func45, Try.ntmps45
 go_wp2_with fail
 refine (valid_any a b c d e _).mono ?_
 rintro r w1 ⟨rfl, hb1⟩
 rw [HV.out]
 go_wp2_with fail
 go_ret2
 exact ⟨rfl, below_step ((Below.refl _ _).alloc (Nat.le_refl _) _) hb1 (by simp)⟩
set_option maxHeartbeats 800000 in
theorem encode_ok (a b c d e : Nat) (w : World) (hv : validB ⟨a, b, c, d, e⟩ = true) :
  Calls Try.prog 45 #[(Dec.mk a b c d e).val] w fun r w' => r = .returned (.tuple #[.string ⟨(Dec.mk a b c d e).bytes.toArray⟩, .int .i64 0]) ∧ Below w.heap.size w w' := by
 have hd : (a ≤ 40000 ∧ b ≤ 400 ∧ c ≤ 5 ∧ d ≤ 40 ∧ e ≤ 1) := by
  simp only [validB, decide_eq_true_eq] at hv
  omega
 obtain ⟨ha, hb, hc, hd, he⟩ := hd
 have HV := Lib.hid hv
 clear hv
 unfold Dec.val
 go_enter Try.func45, Try.ntmps45
 go_wp2_with fail
 refine (valid_any a b c d e _).mono ?_
 rintro r w1 ⟨rfl, hb1⟩
 rw [HV.out]
 have hz1 := hb1.size
 simp only [World.size_alloc] at hz1
 have hbx : Blk w1 w.heap.size 40 #[.int .i64 a, .int .i64 b, .int .i64 c, .int .i64 d, .int .i64 e] := (Blk.new w _ _).below hb1 (by simp)
 go_wp2_with fail
 generalize hW : w1.alloc _ = W
 have hbl : Blk W w1.heap.size 80 ([] ++ zs 3 ++ zs 9).toArray := by rw [← hW]; exact Blk.new _ _ _
 have hbW : Below w.heap.size w W := by rw [← hW]; exact ((((Below.refl _ w).alloc (Nat.le_refl _) _).trans (hb1.mono (by simp))).alloc (by omega) _)
 have hbx2 : Blk W w.heap.size 40 #[.int .i64 a, .int .i64 b, .int .i64 c, .int .i64 d, .int .i64 e] := by rw [← hW]; exact hbx.alloc _
 have hne : w.heap.size ≠ w1.heap.size := by omega
 generalize w1.heap.size = g at *
 generalize hB : w.heap.size = bx at *
 have hc0 := hbx2.cell 0
 go_region_held3 (fun w' => w'.cell? ⟨bx, 0, none⟩ = some (.int .i64 a)) (go_keep) ((go_at_call 66; refine (put_any g 0 3 12 a 80 [] (zs 3) (zs 9) _ (by decide) (by omega) rfl rfl hbl.drew).mono ?_; rintro r x0 ⟨rfl, hgx0, hblx0⟩; have hbxx0 := Blk.grown (Blk.drew hbx2) hgx0 (fun e => hne (by injection e)); have kc0 : x0.cell? ⟨bx, 0, none⟩ = _ := hbxx0.cell 0))
 have hbW0 := below_of_only hbW.drew hgx0 (by omega) (by have := hbW.size; simp at this ⊢; omega)
 have hbm0 : Blk x0 g 80 ((bvs (be 3 a)) ++ zs 2 ++ zs 7).toArray := by simpa [zs, List.replicate, List.append_assoc] using hblx0
 clear hc0 hgx0 hblx0 kc0 hbl hbW hbx2
 have hc1 := hbxx0.cell 1
 go_wp2_with fail
 go_region_held3 (fun w' => w'.cell? ⟨bx, 1, none⟩ = some (.int .i64 b)) (go_keep) ((go_at_call 66; refine (put_any g 3 2 9 b 80 (bvs (be 3 a)) (zs 2) (zs 7) _ (by decide) (by omega) rfl rfl hbm0.drew).mono ?_; rintro r x1 ⟨rfl, hgx1, hblx1⟩; have hbxx1 := Blk.grown (Blk.drew hbxx0) hgx1 (fun e => hne (by injection e)); have kc1 : x1.cell? ⟨bx, 1, none⟩ = _ := hbxx1.cell 1))
 have hbW1 := below_of_only hbW0.drew hgx1 (by omega) (by have := hbW0.size; simp at this ⊢; omega)
 have hbm1 : Blk x1 g 80 ((bvs (be 3 a) ++ bvs (be 2 b)) ++ zs 1 ++ zs 6).toArray := by simpa [zs, List.replicate, List.append_assoc] using hblx1
 clear hc1 hgx1 hblx1 kc1 hbm0 hbW0 hbxx0
 have hc2 := hbxx1.cell 2
 go_wp2_with fail
 go_region_held3 (fun w' => w'.cell? ⟨bx, 2, none⟩ = some (.int .i64 c)) (go_keep) ((go_at_call 66; refine (put_any g 5 1 7 c 80 (bvs (be 3 a) ++ bvs (be 2 b)) (zs 1) (zs 6) _ (by decide) (by omega) rfl rfl hbm1.drew).mono ?_; rintro r x2 ⟨rfl, hgx2, hblx2⟩; have hbxx2 := Blk.grown (Blk.drew hbxx1) hgx2 (fun e => hne (by injection e)); have kc2 : x2.cell? ⟨bx, 2, none⟩ = _ := hbxx2.cell 2))
 have hbW2 := below_of_only hbW1.drew hgx2 (by omega) (by have := hbW1.size; simp at this ⊢; omega)
 have hbm2 : Blk x2 g 80 ((bvs (be 3 a) ++ bvs (be 2 b) ++ bvs (be 1 c)) ++ zs 1 ++ zs 5).toArray := by simpa [zs, List.replicate, List.append_assoc] using hblx2
 clear hc2 hgx2 hblx2 kc2 hbm1 hbW1 hbxx1
 have hc3 := hbxx2.cell 3
 go_wp2_with fail
 go_region_held3 (fun w' => w'.cell? ⟨bx, 3, none⟩ = some (.int .i64 d)) (go_keep) ((go_at_call 66; refine (put_any g 6 1 6 d 80 (bvs (be 3 a) ++ bvs (be 2 b) ++ bvs (be 1 c)) (zs 1) (zs 5) _ (by decide) (by omega) rfl rfl hbm2.drew).mono ?_; rintro r x3 ⟨rfl, hgx3, hblx3⟩; have hbxx3 := Blk.grown (Blk.drew hbxx2) hgx3 (fun e => hne (by injection e)); have kc3 : x3.cell? ⟨bx, 3, none⟩ = _ := hbxx3.cell 3))
 have hbW3 := below_of_only hbW2.drew hgx3 (by omega) (by have := hbW2.size; simp at this ⊢; omega)
 have hbm3 : Blk x3 g 80 ((bvs (be 3 a) ++ bvs (be 2 b) ++ bvs (be 1 c) ++ bvs (be 1 d)) ++ zs 1 ++ zs 4).toArray := by simpa [zs, List.replicate, List.append_assoc] using hblx3
 clear hc3 hgx3 hblx3 kc3 hbm2 hbW2 hbxx2
 have hc4 := hbxx3.cell 4
 go_wp2_with fail
 go_region_held3 (fun w' => w'.cell? ⟨bx, 4, none⟩ = some (.int .i64 e)) (go_keep) ((go_at_call 66; refine (put_any g 7 1 5 e 80 (bvs (be 3 a) ++ bvs (be 2 b) ++ bvs (be 1 c) ++ bvs (be 1 d)) (zs 1) (zs 4) _ (by decide) (by omega) rfl rfl hbm3.drew).mono ?_; rintro r x4 ⟨rfl, hgx4, hblx4⟩; have hbxx4 := Blk.grown (Blk.drew hbxx3) hgx4 (fun e => hne (by injection e)); have kc4 : x4.cell? ⟨bx, 4, none⟩ = _ := hbxx4.cell 4))
 have hbW4 := below_of_only hbW3.drew hgx4 (by omega) (by have := hbW3.size; simp at this ⊢; omega)
 have hbm4 : Blk x4 g 80 ((bvs (be 3 a) ++ bvs (be 2 b) ++ bvs (be 1 c) ++ bvs (be 1 d) ++ bvs (be 1 e)) ++ zs 4 ++ zs 0).toArray := by simpa [zs, List.replicate, List.append_assoc] using hblx4
 clear hc4 hgx4 hblx4 kc4 hbm3 hbW3 hbxx3
 go_wp2_with fail
 have hsum := fnv_lt ((Dec.mk a b c d e).body)
 have hbody : (Dec.mk a b c d e).body = be 3 a ++ be 2 b ++ be 1 c ++ be 1 d ++ be 1 e := by simp [Dec.body]
 have hlen : (Dec.mk a b c d e).body.length = 8 := by rw [hbody]; simp [be_len]
 have hcv : ∀ w', Blk w' g 80 ((bvs (be 3 a) ++ bvs (be 2 b) ++ bvs (be 1 c) ++ bvs (be 1 d) ++ bvs (be 1 e)) ++ zs 4 ++ zs 0).toArray →
   (convert 24 9 (.slice (some ⟨g, 0, none⟩) 8 12)).run Try.prog w' = .ok (.string ⟨(Dec.mk a b c d e).body.toArray⟩) w' := fun w' hw =>
  conv_of_blk _ hw.f (e := 5) (by kernel_rfl) (by kernel_rfl) (by kernel_rfl) hlen (by
   rw [← bvs_append, ← bvs_append, ← bvs_append, ← bvs_append, ← hbody, List.drop_zero, List.append_assoc, List.take_left' (by rw [bvs_len, hlen])]
   rfl)
 have hcv1 := hcv x4.drew hbm4.drew
 generalize hS : (Dec.mk a b c d e).body = S at *
 have HL := Lib.hid hlen
 have HB := Lib.hid hbody
 clear hlen hbody hcv
 go_region_with (first
  |((go_at_call 13; refine (sum_any _ _ ?_).mono ?_; (show Array.size _ ≤ _; simp [HL.out, maxLen]); rintro r x5 ⟨rfl, rfl⟩))
  |((go_at_call 66; refine (put_any g 8 4 4 (fnv S) 80 (bvs (be 3 a) ++ bvs (be 2 b) ++ bvs (be 1 c) ++ bvs (be 1 d) ++ bvs (be 1 e)) (zs 4) (zs 0) _ (by decide) (by omega) rfl rfl hbm4.drew).mono ?_; rintro r x5 ⟨rfl, hgx5, hblx5⟩)))
 have hcvw : (convert 24 9 (.slice (some ⟨g, 0, none⟩) 12 12)).run Try.prog x5 = .ok (.string ⟨(S ++ be 4 (fnv S)).toArray⟩) x5 :=
  conv_of_blk _ hblx5.f (e := 5) (by kernel_rfl) (by kernel_rfl) (by kernel_rfl) (by simp [HL.out, be_len]) (by
   rw [← bvs_append, ← bvs_append, ← bvs_append, ← bvs_append, ← HB.out, ← bvs_append, List.drop_zero, List.take_left' (by simp [bvs_len, HL.out, be_len])]
   rfl)
 go_wp2
 go_ret2
 rw [hB]
 refine ⟨?_, below_of_only hbW4.drew hgx5 (by omega) (by have := hbW4.size; simp at this ⊢; omega)⟩
 show Ending.returned (.tuple #[.string ⟨(S ++ be 4 (fnv S)).toArray⟩, .int .i64 0]) = _
 rw [← hS]
 rfl
theorem Dec.bytes_len (d : Dec) : d.bytes.length = 12 := by simp [Dec.bytes, Dec.body, be_len]
theorem encode_yes (a b c d e : Int) (w : World) (hv : validB ⟨a, b, c, d, e⟩ = true) :
  Calls Try.prog 45 #[.agg #[.int .i64 a, .int .i64 b, .int .i64 c, .int .i64 d, .int .i64 e]] w fun r w' => r = .returned (.tuple #[.string ⟨(Dec.mk a b c d e).bytes.toArray⟩, .int .i64 0]) ∧ Below w.heap.size w w' := by
 have hd := hv
 simp only [validB, decide_eq_true_eq] at hd
 obtain ⟨a, rfl⟩ := Int.eq_ofNat_of_zero_le (show 0 ≤ a by omega)
 obtain ⟨b, rfl⟩ := Int.eq_ofNat_of_zero_le (show 0 ≤ b by omega)
 obtain ⟨c, rfl⟩ := Int.eq_ofNat_of_zero_le (show 0 ≤ c by omega)
 obtain ⟨d, rfl⟩ := Int.eq_ofNat_of_zero_le (show 0 ≤ d by omega)
 obtain ⟨e, rfl⟩ := Int.eq_ofNat_of_zero_le (show 0 ≤ e by omega)
 exact encode_ok a b c d e w hv
end Go.Proofs.Ytnimpcffagidoaa
