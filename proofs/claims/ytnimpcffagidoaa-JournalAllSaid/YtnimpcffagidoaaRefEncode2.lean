/-
 The bytes of a decision, as the reference puts them together.
-/
import Derived.Test.YtnimpcffagidoaaRefEncode
namespace Go.Proofs.Ytnimpcffagidoaa
open Go.RowKit
set_option linter.unusedSimpArgs false
set_option linter.unusedVariables false
attribute [local go_sem ↓] Go.wp_at_zero Go.wp_at_succ
theorem number_int (n k : Int) (w : World) (hk0 : 0 ≤ k) (hk : k ≤ 8) (hn0 : 0 ≤ n) (hn : n < 9223372036854775808) :
  Calls Try.prog 67 #[.int .i64 n, .int .i64 k] w fun e w' => e = .returned (.string ⟨(be k.toNat n.toNat).toArray⟩) ∧ Below w.heap.size w w' := by
 obtain ⟨n, rfl⟩ := Int.eq_ofNat_of_zero_le hn0
 obtain ⟨k, rfl⟩ := Int.eq_ofNat_of_zero_le hk0
 exact number_any n k w (by omega) (by omega)
theorem number1 (n : Int) (w : World) (hn0 : 0 ≤ n) (hn : n < 9223372036854775808) :
  Calls Try.prog 67 #[.int .i64 n, .int .i64 1] w fun e w' => e = .returned (.string ⟨(be 1 n.toNat).toArray⟩) ∧ Below w.heap.size w w' :=
 number_int n 1 w (by decide) (by decide) hn0 hn
theorem number2 (n : Int) (w : World) (hn0 : 0 ≤ n) (hn : n < 9223372036854775808) :
  Calls Try.prog 67 #[.int .i64 n, .int .i64 2] w fun e w' => e = .returned (.string ⟨(be 2 n.toNat).toArray⟩) ∧ Below w.heap.size w w' :=
 number_int n 2 w (by decide) (by decide) hn0 hn
theorem number3 (n : Int) (w : World) (hn0 : 0 ≤ n) (hn : n < 9223372036854775808) :
  Calls Try.prog 67 #[.int .i64 n, .int .i64 3] w fun e w' => e = .returned (.string ⟨(be 3 n.toNat).toArray⟩) ∧ Below w.heap.size w w' :=
 number_int n 3 w (by decide) (by decide) hn0 hn
theorem number4 (n : Int) (w : World) (hn0 : 0 ≤ n) (hn : n < 9223372036854775808) :
  Calls Try.prog 67 #[.int .i64 n, .int .i64 4] w fun e w' => e = .returned (.string ⟨(be 4 n.toNat).toArray⟩) ∧ Below w.heap.size w w' :=
 number_int n 4 w (by decide) (by decide) hn0 hn
set_option maxHeartbeats 800000 in
theorem rencode_no (d : Dec) (w : World) (hv : validB d = false) :
  Calls Try.prog 46 #[d.val] w fun r w' => r = .returned (.tuple #[.string ⟨#[]⟩, .int .i64 57]) ∧ Below w.heap.size w w' := by
 have HV := Lib.hid hv
 clear hv
 obtain ⟨a, b, c, d, e⟩ := d
 unfold Dec.val
 go_enter Try.func46, Try.ntmps46
 go_wp2_with fail
 refine (rvalid_any a b c d e _).mono ?_
 rintro r w1 ⟨rfl, hb1⟩
 rw [HV.out]
 go_wp2_with fail
 go_ret2
 exact ⟨rfl, below_step ((Below.refl _ _).alloc (Nat.le_refl _) _) hb1 (by simp)⟩
set_option maxHeartbeats 1000000 in
theorem rencode_yes (a b c d e : Int) (w : World) (hv : validB ⟨a, b, c, d, e⟩ = true) :
  Calls Try.prog 46 #[.agg #[.int .i64 a, .int .i64 b, .int .i64 c, .int .i64 d, .int .i64 e]] w fun r w' => r = .returned (.tuple #[.string ⟨(Dec.mk a b c d e).bytes.toArray⟩, .int .i64 0]) ∧ Below w.heap.size w w' := by
 have hd := hv
 simp only [validB, decide_eq_true_eq] at hd
 have hb0 := hd.2.2.1
 have hd0 : 0 ≤ a ∧ a ≤ 40000 ∧ 0 ≤ b ∧ b ≤ 400 ∧ 0 ≤ c ∧ c ≤ 5 ∧ 0 ≤ d ∧ d ≤ 40 ∧ 0 ≤ e ∧ e ≤ 1 := by omega
 obtain ⟨ha0, ha, hb0, hb, hc0, hc, hd0, hd1, he0, he⟩ := hd0
 have HV := Lib.hid hv
 clear hv hd
 go_enter Try.func46, Try.ntmps46
 go_wp2_with fail
 refine (rvalid_any a b c d e _).mono ?_
 rintro r w1 ⟨rfl, hb1⟩
 rw [HV.out]
 have hbx : Blk w1 w.heap.size 40 #[.int .i64 a, .int .i64 b, .int .i64 c, .int .i64 d, .int .i64 e] := (Blk.new w _ _).ext hb1
 have hbw : Below w.heap.size w w1 := below_step ((Below.refl _ _).alloc (Nat.le_refl _) _) hb1 (by simp)
 clear hb1
 go_wp2_with fail
 generalize hB : w.heap.size = bx at *
 have hbx' := hbx.drew
 have hbw' := hbw.drew
 have c0 := hbx.cell 0
 have c1 := hbx.cell 1
 have c2 := hbx.cell 2
 have c3 := hbx.cell 3
 have c4 := hbx.cell 4
 simp only [List.getElem?_toArray, List.getElem?_cons_zero, List.getElem?_cons_succ] at c0 c1 c2 c3 c4
 have k1 := cat_run (P := Try.prog) (be 3 a.toNat) (be 2 b.toNat) (by simp [be_len])
 have k2 := cat_run (P := Try.prog) (be 3 a.toNat ++ be 2 b.toNat) (be 1 c.toNat) (by simp [be_len])
 have k3 := cat_run (P := Try.prog) (be 3 a.toNat ++ (be 2 b.toNat ++ be 1 c.toNat)) (be 1 d.toNat) (by simp [be_len])
 have k4 := cat_run (P := Try.prog) (be 3 a.toNat ++ (be 2 b.toNat ++ (be 1 c.toNat ++ be 1 d.toNat))) (be 1 e.toNat) (by simp [be_len])
 go_region_held3 (fun w' => w'.cell? ⟨bx, 0, none⟩ = some (.int .i64 a) ∧ w'.cell? ⟨bx, 1, none⟩ = some (.int .i64 b) ∧ w'.cell? ⟨bx, 2, none⟩ = some (.int .i64 c) ∧ w'.cell? ⟨bx, 3, none⟩ = some (.int .i64 d) ∧ w'.cell? ⟨bx, 4, none⟩ = some (.int .i64 e)) (first | go_keep | exact ⟨by assumption, by assumption, by assumption, by assumption, by assumption⟩)
  (first
   |((go_at_call 67; ((with_reducible refine (number3 a _ (by omega) (by omega)).mono ?_)); rintro r w2 ⟨rfl, hb2⟩; have hx2 := Blk.ext (by assumption : Blk _ bx _ _) hb2; have hw2 := below_step (by assumption : Below bx w _) hb2 (Nat.le_of_lt (Blk.lt (by assumption : Blk _ bx _ _))); have z0 := hx2.cell 0; have z1 := hx2.cell 1; have z2 := hx2.cell 2; have z3 := hx2.cell 3; have z4 := hx2.cell 4; simp only [List.getElem?_toArray, List.getElem?_cons_zero, List.getElem?_cons_succ] at z0 z1 z2 z3 z4))
   |((go_at_call 67; ((with_reducible refine (number2 b _ (by omega) (by omega)).mono ?_)); rintro r w2 ⟨rfl, hb2⟩; have hx2 := Blk.ext (by assumption : Blk _ bx _ _) hb2; have hw2 := below_step (by assumption : Below bx w _) hb2 (Nat.le_of_lt (Blk.lt (by assumption : Blk _ bx _ _))); have z0 := hx2.cell 0; have z1 := hx2.cell 1; have z2 := hx2.cell 2; have z3 := hx2.cell 3; have z4 := hx2.cell 4; simp only [List.getElem?_toArray, List.getElem?_cons_zero, List.getElem?_cons_succ] at z0 z1 z2 z3 z4))
   |((go_at_call 67; ((with_reducible refine (number1 c _ (by omega) (by omega)).mono ?_)); rintro r w2 ⟨rfl, hb2⟩; have hx2 := Blk.ext (by assumption : Blk _ bx _ _) hb2; have hw2 := below_step (by assumption : Below bx w _) hb2 (Nat.le_of_lt (Blk.lt (by assumption : Blk _ bx _ _))); have z0 := hx2.cell 0; have z1 := hx2.cell 1; have z2 := hx2.cell 2; have z3 := hx2.cell 3; have z4 := hx2.cell 4; simp only [List.getElem?_toArray, List.getElem?_cons_zero, List.getElem?_cons_succ] at z0 z1 z2 z3 z4))
   |((go_at_call 67; ((with_reducible refine (number1 d _ (by omega) (by omega)).mono ?_)); rintro r w2 ⟨rfl, hb2⟩; have hx2 := Blk.ext (by assumption : Blk _ bx _ _) hb2; have hw2 := below_step (by assumption : Below bx w _) hb2 (Nat.le_of_lt (Blk.lt (by assumption : Blk _ bx _ _))); have z0 := hx2.cell 0; have z1 := hx2.cell 1; have z2 := hx2.cell 2; have z3 := hx2.cell 3; have z4 := hx2.cell 4; simp only [List.getElem?_toArray, List.getElem?_cons_zero, List.getElem?_cons_succ] at z0 z1 z2 z3 z4))
   |((go_at_call 67; ((with_reducible refine (number1 e _ (by omega) (by omega)).mono ?_)); rintro r w2 ⟨rfl, hb2⟩; have hx2 := Blk.ext (by assumption : Blk _ bx _ _) hb2; have hw2 := below_step (by assumption : Below bx w _) hb2 (Nat.le_of_lt (Blk.lt (by assumption : Blk _ bx _ _))); have z0 := hx2.cell 0; have z1 := hx2.cell 1; have z2 := hx2.cell 2; have z3 := hx2.cell 3; have z4 := hx2.cell 4; simp only [List.getElem?_toArray, List.getElem?_cons_zero, List.getElem?_cons_succ] at z0 z1 z2 z3 z4)))
 have hsum := fnv_lt ((Dec.mk a b c d e).body)
 have hlen : (Dec.mk a b c d e).body.length = 8 := by simp [Dec.body, be_len]
 have hbody : be 3 a.toNat ++ (be 2 b.toNat ++ (be 1 c.toNat ++ (be 1 d.toNat ++ be 1 e.toNat))) = (Dec.mk a b c d e).body := by simp [Dec.body]
 clear k1 k2 k3 k4
 have k5 := cat_run (P := Try.prog) (Dec.mk a b c d e).body (be 4 (fnv (Dec.mk a b c d e).body)) (by simp [be_len, hlen])
 have hby : (Dec.mk a b c d e).bytes = (Dec.mk a b c d e).body ++ be 4 (fnv (Dec.mk a b c d e).body) := rfl
 have HL := Lib.hid hlen
 have HY := Lib.hid hby
 clear hlen hby
 generalize (Dec.mk a b c d e).body = S at *
 go_wp2_with fail
 refine (rsum_any _ _ (by show Array.size _ ≤ _; simp [HL.out, maxLen])).mono ?_
 rintro r w3 ⟨rfl, rfl⟩
 go_wp2_with fail
 refine (number4 _ _ (by omega) (by show ((fnv S : Nat) : Int) < _; omega)).mono ?_
 rintro r w3 ⟨rfl, hb3⟩
 rw [show ((fnv S : Nat) : Int).toNat = fnv S from by simp]
 have hbf := below_step (by assumption : Below bx w _) hb3 (Nat.le_of_lt (Blk.lt (by assumption : Blk _ bx _ _)))
 go_wp2_with fail
 go_ret2
 rw [HY.out, hB]
 exact ⟨rfl, hbf⟩
end Go.Proofs.Ytnimpcffagidoaa
