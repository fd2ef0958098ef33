/-
  The walk of the law JournalChanged.
-/
import Derived.Test.YtnimpcffagidoaaWhole
import Derived.Test.YtnimpcffagidoaaPlain42
import Derived.Test.YtnimpcffagidoaaSame
import Derived.Test.YtnimpcffagidoaaAwake42
namespace Go.Proofs.Ytnimpcffagidoaa
open Go.RowKit
attribute [local go_sem ↓] Go.wp_at_zero Go.wp_at_succ

theorem isrow_lt {w : World} {a : Option Addr} {len cap : Nat} {zs : List Int} (h : IsRow .i64 w a len cap zs) : ∀ x, a = some x → 0 < len → x.block < w.heap.size := by
  intro x hx hl
  rcases h with ⟨h0, _⟩ | ⟨y, rfl, h1, _, h2, h3, _⟩
  · rw [h0] at hx; cases hx
  · injection hx with hx
    subst hx
    have := World.block_lt_of_cell? w _ (h3 0 (by omega))
    rwa [block_of_add] at this

set_option maxHeartbeats 800000 in
theorem changed_heavy (a0 : Option Addr) (len0 cap0 : Nat) (a1 a2 : Int) (w : World) (h : 400 < len0) :
    Calls Try.prog 4 #[.slice a0 len0 cap0, .int .u16 a1, .int .u8 a2] w fun r w' => r = .returned (.bool true) ∧ Below w.heap.size w w' := by
  have ht : decide (len0 ≤ 400) = false := by simp; omega
  have HT := Lib.hid ht
  clear ht
  go_enter Try.func4, Try.ntmps4
  go_wp2_with fail
  refine (light_any _ _ _ _).mono ?_
  rintro r w1 ⟨rfl, rfl⟩
  rw [HT.out]
  go_wp2_with fail
  refine (awake42 _).mono ?_
  rintro r w3 ⟨rfl, hb3⟩
  go_wp2_with fail
  go_ret
  exact ⟨rfl, hb3⟩

/-- the dice rolled and a ledger made of them -/
theorem rolled {a0 : Option Addr} {len0 cap0 : Nat} {z0 : List Int} {w : World} (h0 : IsRow .i64 w a0 len0 cap0 z0) (hl : len0 ≤ 400) :
    DiceOk (w.heap.size + 1) (w.alloc (.cells #[.slice a0 len0 cap0, .int .i64 0] 79)) w.heap.size := DiceOk.new_ h0 hl (isrow_lt h0)

set_option maxHeartbeats 1000000 in
theorem changed_light (a0 : Option Addr) (len0 cap0 : Nat) (z0 : List Int) (a1 a2 : Nat) (w : World) (h0 : IsRow .i64 w a0 len0 cap0 z0) (h : len0 ≤ 400) (ha1 : a1 < 65536) (ha2 : a2 < 256) :
    Calls Try.prog 4 #[.slice a0 len0 cap0, .int .u16 a1, .int .u8 a2] w fun r w' => r = .returned (.bool true) ∧ Below w.heap.size w w' := by
  have ht : decide (len0 ≤ 400) = true := by simp; omega
  have HT := Lib.hid ht
  have HDC := Lib.hid (rolled h0 h)
  clear ht h0 h
  go_enter Try.func4, Try.ntmps4
  go_wp2_with fail
  refine (light_any _ _ _ _).mono ?_
  rintro r w1 ⟨rfl, rfl⟩
  rw [HT.out]
  go_wp2_with fail
  refine (roll_any _ _ _ _).mono ?_
  rintro r w1 ⟨rfl, rfl⟩
  go_wp2_with fail
  refine (ledger_any (w.heap.size + 1) w.heap.size 8 _ HDC.out (by decide)).mono ?_
  rintro r w2 ⟨ds, sv, hlen, hgen, rfl, hsl, hob, hg2, hd2⟩
  have hval := hgen.valid0 (by omega)
  have hb2 : Below w.heap.size w w2 := below_of_only ((Below.refl _ _).alloc (Nat.le_refl _) _) hg2 (Nat.le_refl _) (by simp)
  obtain ⟨A, c, rfl, hc⟩ := led_slice hsl
  clear hg2 hd2 hob hgen
  go_upto_region 4 with fail
  have HB3 := Lib.hid (hb2.alloc hb2.size (.cells #[.slice A ds.length c] 31))
  have hbx := Blk.new w2 31 #[.slice A ds.length c]
  have HSL := Lib.hid (hsl.alloc (.cells #[.slice A ds.length c] 31))
  generalize w2.alloc (.cells #[.slice A ds.length c] 31) = W at *
  generalize w2.heap.size = bx at *
  clear hsl hb2
  have z0 := hbx.cell 0
  simp only [List.getElem?_toArray, List.getElem?_cons_zero] at z0
  have HV := Lib.hid hval
  clear hval
  go_wp2_with fail
  refine (written_any _ ds _ HSL.out HV.out (by omega)).mono ?_
  rintro r w3 ⟨rfl, hb3⟩
  by_cases hnil : ds = []
  · subst hnil
    have ho : opens ⟨(bytesOf []).toArray⟩ = [] := rfl
    have HO := Lib.hid ho
    clear ho
    go_wp2_with fail
    refine (open_any _ _ (by decide)).mono ?_
    rintro r w4 ⟨sv, rfl, hs4, _, hb4⟩
    obtain ⟨A', c', rfl, _⟩ := led_slice hs4
    rw [HO.out] at hs4 ⊢
    clear hs4
    go_wp2_with fail
    refine (awake42 _).mono ?_
    rintro r w5 ⟨rfl, hb5⟩
    go_wp2_with fail
    go_ret
    exact ⟨rfl, below_step (below_step (below_step HB3.out hb3 HB3.out.size) hb4 (Nat.le_trans HB3.out.size hb3.size)) hb5 (Nat.le_trans (Nat.le_trans HB3.out.size hb3.size) hb4.size)⟩
  · have hL := bytesOf_len ds
    have hpos : 0 < ds.length := List.length_pos_iff.2 hnil
    have hsz : (ByteArray.mk (bytesOf ds).toArray).size = 12 * ds.length := by show Array.size _ = _; simp [hL]
    have he := str_some (s := ⟨(bytesOf ds).toArray⟩) (by rw [hsz]; omega)
    obtain ⟨W4, cap, kb, hcap, hb4, hzW, hblk⟩ := bytes_of_str (P := Try.prog) w3 9 24 5 ⟨(bytesOf ds).toArray⟩ (by kernel_rfl) (by kernel_rfl) (by kernel_rfl)
    have HLL := Lib.hid hL
    have HSZ := Lib.hid hsz
    clear hL hsz hnil
    generalize hS : ByteArray.mk (bytesOf ds).toArray = S at *
    have hszi : S.size = 12 * ds.length := HSZ.out
    obtain ⟨i, hi⟩ : ∃ i, i = a1 % S.size := ⟨_, rfl⟩
    have hil : i < 12 * ds.length := by rw [hi, hszi]; exact Nat.mod_lt _ (by omega)
    have hmod : ((a1 : Int) % (S.size : Int)) = (i : Int) := by rw [hi]; simp
    have HM := Lib.hid hmod
    have hiL : i < (bytesOf ds).length := by rw [HLL.out]; exact hil
    obtain ⟨c0, hc0⟩ : ∃ c, c = (bytesOf ds)[i] := ⟨_, rfl⟩
    have hdata : S.data.toList = bytesOf ds := by rw [← hS]
    have hcell : W4.cell? ⟨w3.heap.size, i, none⟩ = some (.int .u8 (c0.toNat : Int)) := by
      rw [hblk.cell, Array.getElem?_append_left (by simp; rw [hszi]; exact hil), Array.getElem?_map, ← Array.getElem?_toList, hdata, List.getElem?_eq_getElem hiL, hc0]
      rfl
    have hfr : W4.frozen? ⟨w3.heap.size, i, none⟩ = false := hblk.frozen i (by simp; have : S.data.size = S.size := rfl; omega)
    have hfacts := changed_facts ds HV.out i (UInt8.ofNat (c0.toNat + (1 + a2 % 255))) hiL (by rw [← hc0]; exact byte_bump c0 a2 ha2)
    have hblk2 := hblk.set_ i (.int .u8 (((c0.toNat : Int) + (1 + (a2 : Int) % 255)) % 256))
    have hcb := byte_lt c0
    have hi32 : (i : Int) < (S.size : Int) := by omega
    have hsz9 : (S.size : Int) ≤ 1000 := by omega
    have HFA := Lib.hid hfacts
    have HBK := Lib.hid hblk2
    have HC0 := Lib.hid hc0
    have HII := Lib.hid hi
    have HDA := Lib.hid hdata
    have HSS := Lib.hid hS
    have HZI := Lib.hid hszi
    clear hfacts hblk2 hblk hc0 hi hdata hS hszi hmod
    go_wp2_with fail
    refine (mod_any _ _ _ (by omega) (by omega)).mono ?_
    rintro r w5 ⟨rfl, rfl⟩
    rw [HM.out]
    go_upto_region 11 with fail
    have hb5 := only_setCell (World.grownBy.refl W4 (some w3.heap.size)) (p := ⟨w3.heap.size, i, none⟩) (.inl rfl) (.int .u8 (((c0.toNat : Int) + (1 + (a2 : Int) % 255)) % 256))
    have hblk5 := HBK.out
    have hbx4 : Blk W4 bx 31 #[.slice A ds.length c] := (hbx.ext hb3).ext hb4
    have hbxlt := hbx.lt
    have hz3 := hb3.size
    have hbx5 := hbx4.grown hb5 (fun e => by injection e; omega)
    have hsl5 : Led (W4.setCell ⟨w3.heap.size, i, none⟩ (.int .u8 (((c0.toNat : Int) + (1 + (a2 : Int) % 255)) % 256))) (.slice A ds.length c) ds :=
      (((HSL.out).ext hb3).ext hb4).grown hb5 (fun b hb e => by
        injection e with e
        obtain ⟨_, A', c', h1, _, _, h3⟩ := HSL.out
        injection h1 with h1
        subst h1
        obtain ⟨b', off, e1, e2, _⟩ := h3 hpos
        rw [e1] at hb
        simp only [Value.ownBlock, Option.some.injEq] at hb
        omega)
    have hbel5 : Below w.heap.size w (W4.setCell ⟨w3.heap.size, i, none⟩ (.int .u8 (((c0.toNat : Int) + (1 + (a2 : Int) % 255)) % 256))) :=
      (below_step (below_step HB3.out hb3 HB3.out.size) hb4 (Nat.le_trans HB3.out.size hb3.size)).setCell (Nat.le_trans HB3.out.size hb3.size) _
    generalize W4.setCell ⟨w3.heap.size, i, none⟩ (.int .u8 (((c0.toNat : Int) + (1 + (a2 : Int) % 255)) % 256)) = W5 at *
    obtain ⟨T, hT⟩ : ∃ T : ByteArray, T = ⟨((bytesOf ds).set i (UInt8.ofNat (c0.toNat + (1 + a2 % 255)))).toArray⟩ := ⟨_, rfl⟩
    have hcv : ∀ w', BlkF w' w3.heap.size 5 ((Array.map (fun b : UInt8 => Value.int .u8 (b.toNat : Int)) S.data ++ Array.replicate (cap - S.size) (Value.int .u8 0)).setIfInBounds i (.int .u8 (((c0.toNat : Int) + (1 + (a2 : Int) % 255)) % 256))) →
        (convert 24 9 (.slice (some ⟨w3.heap.size, 0, none⟩) S.size cap)).run Try.prog w' = .ok (.string T) w' := fun w' hw => by
      rw [← Array.toArray_toList (xs := Array.setIfInBounds _ _ _)] at hw
      rw [hT]
      refine conv_of_blk _ hw (e := 5) (by kernel_rfl) (by kernel_rfl) (by kernel_rfl) (by simp [HLL.out, HZI.out]) ?_
      have hSl : S.data.toList.length = S.size := by simp
      rw [List.drop_zero, Array.toList_setIfInBounds, Array.toList_append, Array.toList_map, HDA.out, List.set_append_left _ _ (by simpa using hiL), List.take_left' (by rw [List.length_set, List.length_map, HLL.out, HZI.out]), List.map_set]
      rw [show (((c0.toNat : Int) + (1 + (a2 : Int) % 255)) % 256) = ((UInt8.ofNat (c0.toNat + (1 + a2 % 255))).toNat : Int) from by rw [UInt8.toNat_ofNat']; omega]
    have hop : opens T = ds.take (i / 12) := by rw [hT]; exact (HFA.out 0).1
    have hdr : ∀ n, decRes (rec12 T (12 * (i / 12))) n = #[noDec, .int .i64 0, .int .i64 58] := fun n => by rw [hT]; exact (HFA.out n).2.1
    have htsz : T.size = 12 * ds.length := by rw [hT]; show Array.size _ = _; simp [HLL.out]
    have hext : T.extract 0 (12 * (i / 12)) = S.extract 0 (12 * (i / 12)) := by
      apply Go.WideShapes.bytes_inj
      rw [Go.Lib.extract_data, Go.Lib.extract_data, hT, HDA.out]
      simpa using (HFA.out 0).2.2
    have hcv5 := hcv W5 hblk5
    have HCV := Lib.hid hcv
    have HOP := Lib.hid hop
    have HDR := Lib.hid hdr
    have HTS := Lib.hid htsz
    have HEX := Lib.hid hext
    clear hcv hop hdr htsz hext hT hb5 hbx4 hbx hb3 hb4 hcell hfr kb
    go_wp2_with fail
    refine (open_any T _ (by rw [HTS.out]; omega)).mono ?_
    rintro r w6 ⟨sv6, rfl, hs6, hle6, hb6⟩
    obtain ⟨A6, c6, rfl, _⟩ := led_slice hs6
    have hq : (i : Int) / 12 = ((i / 12 : Nat) : Int) := by omega
    have hqk : i / 12 < ds.length := by omega
    have htake : (ds.take (i / 12)).length = i / 12 := by rw [List.length_take, Nat.min_eq_left (by omega)]
    have HTK := Lib.hid htake
    generalize hq12 : i / 12 = q at *
    have hs6' : Led w6 (.slice A6 q c6) (ds.take q) := by
      rw [HOP.out, htake] at hs6
      exact hs6
    rw [show (opens T).length = q from by rw [HOP.out, htake]]
    have HS6 := Lib.hid hs6'
    clear hs6 hs6' htake hle6
    have hbx6 := hbx5.ext hb6
    have hcv6 := HCV.out w6 (hblk5.ext hb6)
    have HSL6 := Lib.hid (hsl5.ext hb6)
    have hbel6 := below_step hbel5 hb6 hbel5.size
    have hblk6 := hblk5.ext hb6
    clear hcv5 hsl5 hbel5 hblk5 hbx5
    go_wp2_with fail
    rw [show ((q : Int) * 12) = ((12 * q : Nat) : Int) from by omega]
    refine (decode_full T (12 * q) _ (by rw [HTS.out]; omega) (by rw [HTS.out]; omega) (by rw [HTS.out]; omega)).mono ?_
    rintro r w7 ⟨rfl, hb7⟩
    rw [HDR.out]
    unfold noDec
    go_upto_region 13 with fail
    have hal := (Below.refl w7.heap.size w7).alloc (Nat.le_refl _) (.cells #[.int .i64 0, .int .i64 0, .int .i64 0, .int .i64 0, .int .i64 0] 40)
    have hbx8 := ((hbx6.ext hb7).ext hal).drew
    have hcv8 := HCV.out _ ((hblk6.ext hb7).ext hal).drew
    have hblk8 := ((hblk6.ext hb7).ext hal).drew
    have hsl8 := ((HSL6.out.ext hb7).ext hal).drew
    have hs8 := ((HS6.out.ext hb7).ext hal).drew
    have hbel7 := below_step hbel6 hb7 hbel6.size
    have hbel8 := (below_step hbel7 hal hbel7.size).drew
    have ht8 := Led.take hsl8 q (by omega)
    have h1 : (q : Int) * 12 = 12 * (q : Int) := by omega
    have hN : (12 * (q : Int)).toNat = 12 * q := by omega
    have hw1 : IntKind.i64.wrap (q : Int) = q := IntWalk.i64_in _ (by omega)
    have hw2 : IntKind.i64.wrap (12 * (q : Int)) = 12 * (q : Int) := IntWalk.i64_in _ (by omega)
    have hqc : (q : Int) ≤ (c : Int) := by have := hc.1; omega
    have h12q : 12 * (q : Int) ≤ (S.size : Int) := by omega
    have h0q : (0 : Int) ≤ 12 * (q : Int) := by omega
    have hn0 : ¬ (12 * (q : Int) < 0) := by omega
    have hn1 : ¬ ((S.size : Int) < 12 * (q : Int)) := by omega
    have z8 := hbx8.cell 0
    simp only [List.getElem?_toArray, List.getElem?_cons_zero] at z8
    generalize w7.alloc (.cells #[.int .i64 0, .int .i64 0, .int .i64 0, .int .i64 0, .int .i64 0] 40) = W8 at *
    clear hcv6 hbx6 hblk6 hbel6 hb6 hb7 hal hbel7
    have HT8 := Lib.hid ht8
    have HS8 := Lib.hid hs8
    clear ht8 hs8 hsl8
    go_region_held3 (fun w' => w'.cell? ⟨bx, 0, none⟩ = some (.slice A ds.length c) ∧ (convert 24 9 (.slice (some ⟨w3.heap.size, 0, none⟩) S.size cap)).run Try.prog w' = .ok (.string T) w') (first | go_keep | exact ⟨by assumption, by assumption⟩)
      (first
        | ((go_at_call 22; refine (samedec_eq _ _ (ds.take q) _ HS8.out HT8.out (by rw [HTK.out]; omega)).mono ?_; rintro r w9 ⟨rfl, hb9⟩; have hbx9 := hbx8.ext hb9; have hblk9 := hblk8.ext hb9; have hbel9 := below_step hbel8 hb9 hbel8.size; have hcv9 := HCV.out _ hblk9; have z9 := hbx9.cell 0; simp only [List.getElem?_toArray, List.getElem?_cons_zero] at z9))
        | ((go_at_call 23; refine (whole_any T _ (by rw [HTS.out]; omega)).mono ?_; rintro r w10 ⟨rfl, hb10⟩; rw [show (opens T).length = q from by rw [HOP.out, HTK.out], HEX.out]; have hbx10 := Blk.ext (by assumption) hb10; have hblk10 := BlkF.ext (by assumption) hb10; have hbel10 := below_step (by assumption) hb10 (Below.size (by assumption)); have hcv10 := HCV.out _ hblk10; have z10 := hbx10.cell 0; simp only [List.getElem?_toArray, List.getElem?_cons_zero] at z10))
        | ((go_at_call 14; refine (awake42 _).mono ?_; rintro r w11 ⟨rfl, hb11⟩; have hbx11 := Blk.ext (by assumption) hb11; have hblk11 := BlkF.ext (by assumption) hb11; have hbel11 := below_step (by assumption) hb11 (Below.size (by assumption)); have hcv11 := HCV.out _ hblk11; have z11 := hbx11.cell 0; simp only [List.getElem?_toArray, List.getElem?_cons_zero] at z11)))
    go_wp2_with fail
    go_ret
    exact ⟨rfl, hbel11⟩

theorem walkJournalChanged (a0 : Option Addr) (len0 cap0 : Nat) (z0 : List Int) (a1 a2 : Int) (w : World) (w0 : IsRow .i64 w a0 len0 cap0 z0) (w1 : (Lit.int .u16 a1).wf = true) (w2 : (Lit.int .u8 a2).wf = true) :
    Calls Try.prog 4 #[.slice a0 len0 cap0, .int .u16 a1, .int .u8 a2] w fun r w' => r = .returned (.bool true) ∧ Below w.heap.size w w' := by
  by_cases h : 400 < len0
  · exact changed_heavy a0 len0 cap0 a1 a2 w h
  · obtain ⟨x, rfl⟩ := Int.eq_ofNat_of_zero_le (wf_u16 w1).1
    obtain ⟨y, rfl⟩ := Int.eq_ofNat_of_zero_le (wf_u8 w2).1
    have h1 := (wf_u16 w1).2
    have h2 := (wf_u8 w2).2
    exact changed_light a0 len0 cap0 z0 x y w w0 (by omega) (by omega) (by omega)
end Go.Proofs.Ytnimpcffagidoaa
