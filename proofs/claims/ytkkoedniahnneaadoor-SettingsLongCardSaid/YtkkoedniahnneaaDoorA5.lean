/-
 What a text means, by the answer: all of it.
-/
import Derived.Test.YtkkoedniahnneaaDoorA4
set_option linter.unusedSimpArgs false
set_option linter.unusedVariables false
namespace Go.Proofs.YtkkoedniahnneaaDoor.K
open Go.RowKit
noncomputable section
def eqI (s : ByteArray) (k : Int) : Int := k + (((((bl s).drop k.toNat).takeWhile fun c => !(c == 61)).length : Nat) : Int)
def empS (s : ByteArray) : Bool := seq s (ByteArray.mk #[]) || (ieq (sgt s 0) 35 || ieq (sgt s 0) 59)
def brkS (s : ByteArray) : Bool := ieq (sgt s 0) 91 && ieq (sgt s (isub .i64 (slen s) 1)) 93
def secS (s : ByteArray) : ByteArray := tB (ssl s 1 (imx 1 (isub .i64 (slen s) 1)))
def nmS (s : ByteArray) : ByteArray := tB (ssl s 0 (eqI s 0))
def vlS (s : ByteArray) : ByteArray := tB (ssl s (iadd .i64 (eqI s 0) 1) ((ByteArray.size s : Nat) : Int))
def stpS (s sec : ByteArray) (line : Int) (out : List Setting) : Option (ByteArray × List Setting) :=
 bif empS s then some (sec, out) else bif brkS s then (bif wrdB (secS s) then some (secS s, out) else none) else bif ieq (eqI s 0) (slen s) || !wrdB (nmS s) then none else some (sec, out ++ [(sec, (nmS s, (vlS s, (line, ()))))])
def pgZ : Nat → List ByteArray → ByteArray → Int → List Setting → List Setting × Int × Bool
 | 0, _, _, _, out => (out, 0, true)
 | n + 1, l, sec, i, out => bif ilt i (llen l) then (bif !(rjnF l i).2.2 || !clB (rjnF l i).1 then (out, i + 1, false) else match stpS (rjnF l i).1 sec (i + 1) out with
  | none => (out, i + 1, false)
  | some p => pgZ n l p.1 (i + (rjnF l i).2.1) p.2) else (out, 0, true)
def pgF (l : List ByteArray) (sec : ByteArray) (i : Int) (out : List Setting) : List Setting × Int × Bool := pgZ (l.length - i.toNat) l sec i out
theorem pgZ_fuel : ∀ (n m : Nat) (l : List ByteArray) (sec : ByteArray) (k : Nat) (out : List Setting), l.length - k ≤ n → l.length - k ≤ m → pgZ n l sec (k : Int) out = pgZ m l sec (k : Int) out
 | 0, 0, _, _, _, _, _, _ => rfl
 | 0, m + 1, l, sec, k, out, h, _ => by
  unfold pgZ
  rw [show ilt (k : Int) (llen l) = false from decide_eq_false (by simp only [llen]; omega)]
  rfl
 | n + 1, 0, l, sec, k, out, _, h => by
  unfold pgZ
  rw [show ilt (k : Int) (llen l) = false from decide_eq_false (by simp only [llen]; omega)]
  rfl
 | n + 1, m + 1, l, sec, k, out, h1, h2 => by
  unfold pgZ
  by_cases hk : k < l.length
  ·obtain ⟨p1, p2⟩ := rjn_pos hk
   obtain ⟨q, hq⟩ := Int.eq_ofNat_of_zero_le (show 0 ≤ (k : Int) + (rjnF l k).2.1 by omega)
   rw [hq]
   cases stpS (rjnF l k).1 sec (k + 1) out with
   | none => rfl
   | some p =>
    show (bif _ then (bif _ then _ else pgZ n l p.1 (q : Int) p.2) else _) = (bif _ then (bif _ then _ else pgZ m l p.1 (q : Int) p.2) else _)
    rw [pgZ_fuel n m l p.1 q p.2 (by omega) (by omega)]
  ·rw [show ilt (k : Int) (llen l) = false from decide_eq_false (by simp only [llen]; omega)]
   rfl
theorem pgF_end {l : List ByteArray} {sec : ByteArray} {k : Nat} {out : List Setting} (h : l.length ≤ k) : pgF l sec k out = (out, 0, true) := by
 unfold pgF
 rw [Int.toNat_natCast, Nat.sub_eq_zero_of_le h]
 rfl
theorem pgF_bad {l : List ByteArray} {sec : ByteArray} {k : Nat} {out : List Setting} (hk : k < l.length) (h : (!(rjnF l k).2.2 || !clB (rjnF l k).1) = true) : pgF l sec k out = (out, (k : Int) + 1, false) := by
 unfold pgF
 rw [Int.toNat_natCast, show l.length - k = (l.length - k - 1) + 1 from by omega]
 unfold pgZ
 rw [show ilt (k : Int) (llen l) = true from decide_eq_true (by simp only [llen]; omega), h]
 rfl
theorem pgF_none {l : List ByteArray} {sec : ByteArray} {k : Nat} {out : List Setting} (hk : k < l.length) (h : (!(rjnF l k).2.2 || !clB (rjnF l k).1) = false) (hs : stpS (rjnF l k).1 sec (k + 1) out = none) : pgF l sec k out = (out, (k : Int) + 1, false) := by
 unfold pgF
 rw [Int.toNat_natCast, show l.length - k = (l.length - k - 1) + 1 from by omega]
 unfold pgZ
 rw [show ilt (k : Int) (llen l) = true from decide_eq_true (by simp only [llen]; omega), h, hs]
 rfl
theorem pgF_some {l : List ByteArray} {sec : ByteArray} {k : Nat} {out : List Setting} {p : ByteArray × List Setting} (hk : k < l.length) (h : (!(rjnF l k).2.2 || !clB (rjnF l k).1) = false) (hs : stpS (rjnF l k).1 sec (k + 1) out = some p) : pgF l sec k out = pgF l p.1 ((k : Int) + (rjnF l k).2.1) p.2 := by
 obtain ⟨p1, p2⟩ := rjn_pos hk
 obtain ⟨q, hq⟩ := Int.eq_ofNat_of_zero_le (show 0 ≤ (k : Int) + (rjnF l k).2.1 by omega)
 unfold pgF
 rw [Int.toNat_natCast, show l.length - k = (l.length - k - 1) + 1 from by omega]
 have e : pgZ ((l.length - k - 1) + 1) l sec k out = pgZ (l.length - k - 1) l p.1 ((k : Int) + (rjnF l k).2.1) p.2 := by
  conv => lhs; unfold pgZ
  rw [show ilt (k : Int) (llen l) = true from decide_eq_true (by simp only [llen]; omega), h, hs]
  rfl
 rw [e, hq, Int.toNat_natCast]
 exact pgZ_fuel _ _ _ _ _ _ (by omega) (Nat.le_refl _)
theorem stp_len {s sec : ByteArray} {line : Int} {out : List Setting} {p : ByteArray × List Setting} (h : stpS s sec line out = some p) : p.2.length ≤ out.length + 1 := by
 unfold stpS at h
 cases h1 : empS s with
 | true =>
  rw [h1] at h
  obtain rfl := Option.some.inj h
  exact Nat.le_succ _
 | false =>
  rw [h1] at h
  cases h2 : brkS s with
  | true =>
   rw [h2] at h
   cases h3 : wrdB (secS s) with
   | true =>
    rw [h3] at h
    obtain rfl := Option.some.inj h
    exact Nat.le_succ _
   | false =>
    rw [h3] at h
    cases h
  | false =>
   rw [h2] at h
   cases h3 : (ieq (eqI s 0) (slen s) || !wrdB (nmS s)) with
   | true =>
    rw [h3] at h
    cases h
   | false =>
    rw [h3] at h
    obtain rfl := Option.some.inj h
    simp
theorem eqI_rng (s : ByteArray) {k : Nat} (h : k ≤ s.size) : (k : Int) ≤ eqI s k ∧ eqI s k ≤ s.size := by
 have h1 : (((bl s).drop k).takeWhile fun c => !(c == 61)).length ≤ ((bl s).drop k).length := List.Sublist.length_le (List.takeWhile_sublist _)
 rw [List.length_drop, bl_len] at h1
 unfold eqI
 rw [Int.toNat_natCast]
 omega
def parL (l : List ByteArray) (_ : ByteArray) (i : Int) (out : List Setting) : Bool := lnsOk l && decide (0 ≤ i ∧ i ≤ l.length ∧ (out.length : Int) ≤ i)
def parF (s : ByteArray) : List Setting × Int × Int := bif igt (slen s) 8192 || igt (endN s) 200 then ([], 0, 3) else bif (pgF (lnB s) (ByteArray.mk #[]) 0 []).2.2 then ((pgF (lnB s) (ByteArray.mk #[]) 0 []).1, 0, 0) else ([], (pgF (lnB s) (ByteArray.mk #[]) 0 []).2.1, 1)
theorem lnB_ok {s : ByteArray} (h : s.size ≤ 10000) : lnsOk (lnB s) = true := by
 have h1 := lnL_len (bl s)
 have h2 : (bl s).count 10 ≤ (bl s).length := List.count_le_length
 rw [bl_len] at h2
 refine Bool.and_eq_true_iff.2 ⟨decide_eq_true (by unfold lnB; rw [List.length_map]; omega), List.all_eq_true.2 fun x hx => ?_⟩
 obtain ⟨p, hp, rfl⟩ := List.mem_map.1 hx
 have := (lnL_all _ p hp).1
 rw [bl_len] at this
 exact decide_eq_true (by rw [mk_size]; omega)
def dr_f51_0 : List DO := [(.mk (oV 108 6) []), (.mk (oV 109 7) []), (.mk (oV 110 9) []), (.mk (oV 111 13) []), (.mk (oP 112 (.sls (.t 110) none (some (.t 111)))) [2, 3]), (.mk (oC 113 91 [(.t 112)]) [4]), (.mk (oV 114 9) []), (.mk (oV 115 13) []), (.mk (oP 116 (.bin false .add (.t 115) (cI 1))) [7]), (.mk (oP 117 (.sls (.t 114) (some (.t 116)) none)) [6, 8]), (.mk (oC 118 91 [(.t 117)]) [9, 5]), (.mk (oV 119 12) []), (.mk (oP 120 (.bd [(.v (.string (ByteArray.mk #[]))), (.v (.string (ByteArray.mk #[]))), (.v (.string (ByteArray.mk #[]))), (.v (.int .i64 0))] [(0, 1, (.t 109)), (1, 1, (.t 113)), (2, 1, (.t 118)), (3, 1, (.t 119))])) [1, 5, 10, 11]), (.mk (oM 121 (.bs 45 4 1 [(.v (.string (ByteArray.mk #[]))), (.v (.string (ByteArray.mk #[]))), (.v (.string (ByteArray.mk #[]))), (.v (.int .i64 0))] [(0, 4, (.t 120))])) [12]), (.mk (oM 122 (.app 45 4 56 (.t 108) (.t 121))) [0, 13, 10]), (.mk (oV 6 122) [14, 14, 0, 1, 2, 3, 4, 5, 6, 7, 8, 9, 10, 11, 12, 13, 14])]
def fg_f51_0 : Fg := ⟨[(5, some (.sl .str)), (6, none), (7, some .str), (8, some tI), (9, some .str), (12, some tI), (13, some tI)], [(6, none), (122, none)]⟩
def tb_f51_0 : TC := (.sq (.sq (.reg [(oV 83 13), (oV 84 9), (oP 85 (.len true (.t 84))), (oP 86 (.bin false .lss (.t 83) (.t 85))), (oV 87 86), (oQ 88 87 true (.mv (.t 9))), (oQ 89 87 true (.mv (.t 13))), (oQ 90 87 true (.sx (.t 88) (.t 89))), (oQ 91 87 true (.bin false .neq (.t 90) (.c (.v (.int .u8 61))))), (oP 92 (.pick (.t 87) (.t 91) (cB false)))]) (.cd (.t 92) .sk (.fg ⟨[(5, some (.sl .str)), (6, none), (7, some .str), (8, some tI), (9, some .str), (12, some tI), (13, some tI)], [(6, none), (122, none)]⟩ (.ex 2)))) (.bk 3 (.reg [(oV 93 13), (oP 94 (.bin false .add (.t 93) (cI 1))), (oV 13 94)])))
def fg_f51_1 : Fg := ⟨[(5, some (.sl .str)), (6, none), (7, some .str), (8, some tI)], [(6, none), (122, none)]⟩
def tb_f51_1 : TC := (.sq (.sq (.reg [(oV 24 8), (oV 25 5), (oP 26 (.len false (.t 25))), (oP 27 (.bin false .lss (.t 24) (.t 26)))]) (.cd (.t 27) .sk (.fg ⟨[(6, none)], [(6, none), (122, none)]⟩ (.ex 0)))) (.bk 1 (.sq (.reg [(oV 29 5), (oV 30 8), (oC 31 89 [(.t 29), (.t 30)]), (oV 28 31), (oP 32 (.ext 0 (.t 28))), (oP 33 (.ext 1 (.t 28))), (oP 34 (.ext 2 (.t 28))), (oV 9 32), (oV 10 33), (oV 11 34)]) (.sq (.sq (.reg [(oV 35 11), (oP 36 (.nt (.t 35))), (oV 37 36), (oQ 38 37 false (.mv (.t 9))), (oG 39 37 false (.call 90 [(.t 38)])), (oQ 40 37 false (.nt (.t 39))), (oP 41 (.pick (.t 37) (cB true) (.t 40)))]) (.cd (.t 41) (.sq (.reg [(oV 42 8), (oP 43 (.bin false .add (.t 42) (cI 1))), (oP 2 (.mv (.c (.v (.slice none 0 0))))), (oV 3 43), (oP 4 (.mv (cI 1)))]) (.fg ⟨[(2, none), (3, some tI), (4, some tI)], [(6, none), (122, none)]⟩ .rt)) .sk)) (.sq (.reg [(oV 44 8), (oP 45 (.bin false .add (.t 44) (cI 1))), (oV 12 45)]) (.sq (.reg [(oV 46 8), (oV 47 10), (oP 48 (.bin false .add (.t 46) (.t 47))), (oV 8 48)]) (.sq (.sq (.reg [(oV 49 9), (oP 50 (.bin false .eql (.t 49) (.c (.v (.string (ByteArray.mk #[])))))), (oV 51 50), (oQ 52 51 false (.mv (.t 9))), (oQ 53 51 false (.sx (.t 52) (cI 0))), (oQ 54 51 false (.bin false .eql (.t 53) (.c (.v (.int .u8 35))))), (oP 55 (.pick (.t 51) (cB true) (.t 54))), (oV 56 55), (oQ 57 56 false (.mv (.t 9))), (oQ 58 56 false (.sx (.t 57) (cI 0))), (oQ 59 56 false (.bin false .eql (.t 58) (.c (.v (.int .u8 59))))), (oP 60 (.pick (.t 56) (cB true) (.t 59)))]) (.cd (.t 60) (.fg ⟨[(5, some (.sl .str)), (6, none), (7, some .str), (8, some tI)], [(6, none), (122, none)]⟩ (.ex 1)) .sk)) (.sq (.sq (.reg [(oV 61 9), (oP 62 (.sx (.t 61) (cI 0))), (oP 63 (.bin false .eql (.t 62) (.c (.v (.int .u8 91))))), (oV 64 63), (oQ 65 64 true (.mv (.t 9))), (oQ 66 64 true (.mv (.t 9))), (oQ 67 64 true (.len true (.t 66))), (oQ 68 64 true (.bin false .sub (.t 67) (cI 1))), (oQ 69 64 true (.sx (.t 65) (.t 68))), (oQ 70 64 true (.bin false .eql (.t 69) (.c (.v (.int .u8 93))))), (oP 71 (.pick (.t 64) (.t 70) (cB false)))]) (.cd (.t 71) (.sq (.reg [(oV 72 9), (oV 73 9), (oP 74 (.len true (.t 73))), (oP 75 (.bin false .sub (.t 74) (cI 1))), (oP 76 (.mx (cI 1) (.t 75))), (oP 77 (.sls (.t 72) (some (cI 1)) (some (.t 76)))), (oC 78 91 [(.t 77)]), (oV 7 78)]) (.sq (.sq (.reg [(oV 79 7), (oC 80 92 [(.t 79)]), (oP 81 (.nt (.t 80)))]) (.cd (.t 81) (.sq (.reg [(oV 82 12), (oP 2 (.mv (.c (.v (.slice none 0 0))))), (oV 3 82), (oP 4 (.mv (cI 1)))]) (.fg ⟨[(2, none), (3, some tI), (4, some tI)], [(6, none), (122, none)]⟩ .rt)) .sk)) (.fg ⟨[(5, some (.sl .str)), (6, none), (7, some .str), (8, some tI)], [(6, none), (122, none)]⟩ (.ex 1)))) .sk)) (.sq (.reg [(oP 13 (.mv (cI 0)))]) (.sq (.bk 2 (.lp 0 fg_f51_0 tb_f51_0)) (.sq (.sq (.reg [(oV 95 13), (oV 96 9), (oP 97 (.len true (.t 96))), (oP 98 (.bin false .eql (.t 95) (.t 97))), (oV 99 98), (oQ 100 99 false (.mv (.t 9))), (oQ 101 99 false (.mv (.t 13))), (oQ 102 99 false (.sls (.t 100) none (some (.t 101)))), (oG 103 99 false (.call 91 [(.t 102)])), (oG 104 99 false (.call 92 [(.t 103)])), (oQ 105 99 false (.nt (.t 104))), (oP 106 (.pick (.t 99) (cB true) (.t 105)))]) (.cd (.t 106) (.sq (.reg [(oV 107 12), (oP 2 (.mv (.c (.v (.slice none 0 0))))), (oV 3 107), (oP 4 (.mv (cI 1)))]) (.fg ⟨[(2, none), (3, some tI), (4, some tI)], [(6, none), (122, none)]⟩ .rt)) .sk)) (.dr dr_f51_0 [(0, [6, 122]), (1, []), (2, []), (3, []), (4, []), (5, []), (6, []), (7, []), (8, []), (9, []), (10, []), (11, []), (12, []), (13, []), (14, [6, 122, 5122, 10122, 15122]), (15, [6, 122])] (.of [0, 1, 2, 3, 4, 5, 6, 7, 8, 9, 10, 11, 12, 13, 14, 15])))))))))))))
def tc_f51 : TC := (.sq (.reg [(oP 2 (.mv (.c (.v (.slice none 0 0))))), (oP 3 (.mv (cI 0))), (oP 4 (.mv (cI 0)))]) (.sq (.sq (.reg [(oV 14 0), (oP 15 (.len true (.t 14))), (oP 16 (.bin false .gtr (.t 15) (cI 8192))), (oV 17 16), (oQ 18 17 false (.mv (.t 0))), (oG 19 17 false (.call 58 [(.t 18)])), (oQ 20 17 false (.bin false .gtr (.t 19) (cI 200))), (oP 21 (.pick (.t 17) (cB true) (.t 20)))]) (.cd (.t 21) (.sq (.reg [(oP 2 (.mv (.c (.v (.slice none 0 0))))), (oP 3 (.mv (cI 0))), (oP 4 (.mv (cI 3)))]) .rt) .sk)) (.sq (.reg [(oV 22 0), (oC 23 88 [(.t 22)]), (oV 5 23)]) (.sq (.reg [(oP 6 (.mv (.c (.v (.slice none 0 0)))))]) (.sq (.reg [(oP 7 (.mv (.c (.v (.string (ByteArray.mk #[]))))))]) (.sq (.sq (.reg [(oP 8 (.mv (cI 0)))]) (.bk 0 (.nw 6 45 (.lp 1 fg_f51_1 tb_f51_1)))) (.sq (.reg [(oV 123 6), (oV 2 123), (oP 3 (.mv (cI 0))), (oP 4 (.mv (cI 0)))]) .rt)))))))
def rv_f51 : List (RV × Option Ty) := [((.t 2), some (.sl tySetting)), ((.t 3), some tI), ((.t 4), some tI)]
abbrev sh_f51_0 : Sh := ⟨[(5, .ty (.sl .str)), (6, .ms 6), (7, .ty .str), (8, .ty tI), (9, .ty .str), (12, .ty tI), (13, .ty tI)], [(6, .arr 45 tySetting), (122, .no)]⟩
def st_f51_0 (x5 : (List ByteArray)) (x7 : ByteArray) (x8 : Int) (x9 : ByteArray) (x12 : Int) (x13 : Int) (y6 : (List Setting)) : VS := sh_f51_0.st (x5, (), x7, x8, x9, x12, x13, ()) (y6, (), ())
abbrev sh_f51_0_e2 : Sh := ⟨[(5, .ty (.sl .str)), (6, .ms 6), (7, .ty .str), (8, .ty tI), (9, .ty .str), (12, .ty tI), (13, .ty tI)], [(6, .arr 45 tySetting), (122, .no)]⟩
def st_f51_0_e2 (x5 : (List ByteArray)) (x7 : ByteArray) (x8 : Int) (x9 : ByteArray) (x12 : Int) (x13 : Int) (y6 : (List Setting)) : VS := sh_f51_0_e2.st (x5, (), x7, x8, x9, x12, x13, ()) (y6, (), ())
-- loop 0: (x5 : (List ByteArray)) (x7 : ByteArray) (x8 : Int) (x9 : ByteArray) (x12 : Int) (x13 : Int) (y6 : (List Setting)); out: ('exit', 2) (x5 : (List ByteArray)) (x7 : ByteArray) (x8 : Int) (x9 : ByteArray) (x12 : Int) (x13 : Int) (y6 : (List Setting))
abbrev sh_f51_1 : Sh := ⟨[(5, .ty (.sl .str)), (6, .ms 6), (7, .ty .str), (8, .ty tI)], [(6, .arr 45 tySetting), (122, .no)]⟩
def st_f51_1 (x5 : (List ByteArray)) (x7 : ByteArray) (x8 : Int) (y6 : (List Setting)) : VS := sh_f51_1.st (x5, (), x7, x8, ()) (y6, (), ())
abbrev sh_f51_1_ret : Sh := ⟨[(2, .nl), (3, .ty tI), (4, .ty tI)], [(6, .arr 45 tySetting), (122, .no)]⟩
def st_f51_1_ret (x3 : Int) (x4 : Int) (y6 : (List Setting)) : VS := sh_f51_1_ret.st ((), x3, x4, ()) (y6, (), ())
abbrev sh_f51_1_e0 : Sh := ⟨[(6, .ms 6)], [(6, .arr 45 tySetting), (122, .no)]⟩
def st_f51_1_e0 (y6 : (List Setting)) : VS := sh_f51_1_e0.st ((), ()) (y6, (), ())
-- loop 1: (x5 : (List ByteArray)) (x7 : ByteArray) (x8 : Int) (y6 : (List Setting)); out: ('ret',) (x3 : Int) (x4 : Int) (y6 : (List Setting)); ('exit', 0) (y6 : (List Setting))
def L_f51_0 : VS → Option (Bool × List (Bool × Exit × VS)) := mkL sh_f51_0 (fun x y => (nameG x.2.2.2.2.1 && decide (0 ≤ x.2.2.2.2.2.2.1 ∧ x.2.2.2.2.2.2.1 ≤ x.2.2.2.2.1.size))) (fun x y => [(true, .exit 2, st_f51_0_e2 (x.1) (x.2.2.1) (x.2.2.2.1) (x.2.2.2.2.1) (x.2.2.2.2.2.1) (eqI x.2.2.2.2.1 x.2.2.2.2.2.2.1) (y.1))])
def L_f51_1 : VS → Option (Bool × List (Bool × Exit × VS)) := mkL sh_f51_1 (fun x y => (parL x.1 x.2.2.1 x.2.2.2.1 y.1)) (fun x y => [((!(pgF x.1 x.2.2.1 x.2.2.2.1 y.1).2.2), .ret, st_f51_1_ret ((pgF x.1 x.2.2.1 x.2.2.2.1 y.1).2.1) ((1 : Int)) ((pgF x.1 x.2.2.1 x.2.2.2.1 y.1).1)), (true, .exit 0, st_f51_1_e0 ((pgF x.1 x.2.2.1 x.2.2.2.1 y.1).1))])
def g_f51 : G := ⟨TYs, [], 124, EL [(58, sp_f58), (88, sp_f88), (89, sp_f89), (90, sp_f90), (91, sp_f91), (92, sp_f92)], keeps, (Ls [L_f51_0, L_f51_1]), IL [], RL []⟩
def b_f51_0 (x5 : (List ByteArray)) (x7 : ByteArray) (x8 : Int) (x9 : ByteArray) (x12 : Int) (x13 : Int) (y6 : (List Setting)) : Option (Exit × VS) :=
 br ((ilt x13 (slen x9)))
  (br (cSx x9 x13)
   (br ((ine (sgt x9 x13) 61))
    (some (.normal, st_f51_0 x5 x7 x8 x9 x12 (iadd .i64 x13 1) y6))
    (some (.exit 2, st_f51_0_e2 x5 x7 x8 x9 x12 x13 y6)))
   (none))
  (some (.exit 2, st_f51_0_e2 x5 x7 x8 x9 x12 x13 y6))
noncomputable def lp_f51_0 (x5 : (List ByteArray)) (x7 : ByteArray) (x8 : Int) (x9 : ByteArray) (x12 : Int) (x13 : Int) (y6 : (List Setting)) : Option (Exit × VS) := loopF (roundF g_f51 fg_f51_0 tb_f51_0) (st_f51_0 x5 x7 x8 x9 x12 x13 y6)
noncomputable def n_f51_0 (x5 : (List ByteArray)) (x7 : ByteArray) (x8 : Int) (x9 : ByteArray) (x12 : Int) (x13 : Int) (y6 : (List Setting)) : Option (Exit × VS) :=
 br ((ilt x13 (slen x9)))
  (br (cSx x9 x13)
   (br ((ine (sgt x9 x13) 61))
    (lp_f51_0 x5 x7 x8 x9 x12 (iadd .i64 x13 1) y6)
    (some (.exit 2, st_f51_0_e2 x5 x7 x8 x9 x12 x13 y6)))
   (none))
  (some (.exit 2, st_f51_0_e2 x5 x7 x8 x9 x12 x13 y6))
def la_f51_0 (x5 : (List ByteArray)) (x7 : ByteArray) (x8 : Int) (x9 : ByteArray) (x12 : Int) (x13 : Int) (y6 : (List Setting)) : Option (Exit × VS) := some (.exit 2, st_f51_0_e2 (x5) (x7) (x8) (x9) (x12) (eqI x9 x13) (y6))
theorem be_f51_0 (x5 : (List ByteArray)) (x7 : ByteArray) (x8 : Int) (x9 : ByteArray) (x12 : Int) (x13 : Int) (y6 : (List Setting)) : roundF g_f51 fg_f51_0 tb_f51_0 (st_f51_0 x5 x7 x8 x9 x12 x13 y6) = b_f51_0 x5 x7 x8 x9 x12 x13 y6 := by kernel_rfl
theorem ln_f51_0 (x5 : (List ByteArray)) (x7 : ByteArray) (x8 : Int) (x9 : ByteArray) (x12 : Int) (x13 : Int) (y6 : (List Setting)) : lp_f51_0 x5 x7 x8 x9 x12 x13 y6 = n_f51_0 x5 x7 x8 x9 x12 x13 y6 := (loopF_nxt _ _).trans (by
 rw [be_f51_0]
 simp only [b_f51_0, n_f51_0, nxt_br, nxt_n, nxt_r, nxt_e, nxt_0]
 rfl)
def b_f51_1_1 (x5 : (List ByteArray)) (x7 : ByteArray) (x8 : Int) (y6 : (List Setting)) : Option (Exit × VS) :=
 br ((nameG ((rjnF x5 x8).1) && decide (0 ≤ (0 : Int) ∧ (0 : Int) ≤ ((rjnF x5 x8).1).size)))
  (br ((ieq (eqI ((rjnF x5 x8).1) (0 : Int)) (slen (((rjnF x5 x8).1)))))
   (some (.ret, st_f51_1_ret ((iadd .i64 x8 1)) 1 (y6)))
   (br (cSs (((rjnF x5 x8).1)) 0 (eqI ((rjnF x5 x8).1) (0 : Int)))
    (br ((nameG (ssl (((rjnF x5 x8).1)) 0 (eqI ((rjnF x5 x8).1) (0 : Int)))))
     (br ((nameG (tB (ssl (((rjnF x5 x8).1)) 0 (eqI ((rjnF x5 x8).1) (0 : Int))))))
      (br ((!(wrdB (tB (ssl (((rjnF x5 x8).1)) 0 (eqI ((rjnF x5 x8).1) (0 : Int)))))))
       (some (.ret, st_f51_1_ret ((iadd .i64 x8 1)) 1 (y6)))
       (br (cSs (((rjnF x5 x8).1)) 0 (eqI ((rjnF x5 x8).1) (0 : Int)))
        (br ((nameG (ssl (((rjnF x5 x8).1)) 0 (eqI ((rjnF x5 x8).1) (0 : Int)))))
         (br (cSs (((rjnF x5 x8).1)) (iadd .i64 (eqI ((rjnF x5 x8).1) (0 : Int)) 1) ((ByteArray.size (((rjnF x5 x8).1)) : Nat) : Int))
          (br ((nameG (ssl (((rjnF x5 x8).1)) (iadd .i64 (eqI ((rjnF x5 x8).1) (0 : Int)) 1) ((ByteArray.size (((rjnF x5 x8).1)) : Nat) : Int))))
           (br (cApp (y6) ([((x7), ((tB (ssl (((rjnF x5 x8).1)) 0 (eqI ((rjnF x5 x8).1) (0 : Int)))), ((tB (ssl (((rjnF x5 x8).1)) (iadd .i64 (eqI ((rjnF x5 x8).1) (0 : Int)) 1) ((ByteArray.size (((rjnF x5 x8).1)) : Nat) : Int))), (((iadd .i64 x8 1)), ()))))]) 56)
            (some (.normal, st_f51_1 (x5) (x7) ((iadd .i64 x8 (((rjnF x5 x8).2).1))) ((y6) ++ ([((x7), ((tB (ssl (((rjnF x5 x8).1)) 0 (eqI ((rjnF x5 x8).1) (0 : Int)))), ((tB (ssl (((rjnF x5 x8).1)) (iadd .i64 (eqI ((rjnF x5 x8).1) (0 : Int)) 1) ((ByteArray.size (((rjnF x5 x8).1)) : Nat) : Int))), (((iadd .i64 x8 1)), ()))))]))))
            (none))
           (none))
          (none))
         (none))
        (none)))
      (none))
     (none))
    (none)))
  (none)
def b_f51_1 (x5 : (List ByteArray)) (x7 : ByteArray) (x8 : Int) (y6 : (List Setting)) : Option (Exit × VS) :=
 br ((ilt x8 (llen x5)))
  (br ((rjnOk x5 x8))
   (br ((!(((rjnF x5 x8).2).2)))
    (some (.ret, st_f51_1_ret (iadd .i64 x8 1) 1 y6))
    (br ((nameG ((rjnF x5 x8).1)))
     (br ((!(clB ((rjnF x5 x8).1))))
      (some (.ret, st_f51_1_ret (iadd .i64 x8 1) 1 y6))
      (br ((seq ((rjnF x5 x8).1) (ByteArray.mk #[])))
       (some (.normal, st_f51_1 x5 x7 (iadd .i64 x8 (((rjnF x5 x8).2).1)) y6))
       (br (cSx ((rjnF x5 x8).1) 0)
        (br ((ieq (sgt ((rjnF x5 x8).1) 0) 35))
         (some (.normal, st_f51_1 x5 x7 (iadd .i64 x8 (((rjnF x5 x8).2).1)) y6))
         (br (cSx ((rjnF x5 x8).1) 0)
          (br ((ieq (sgt ((rjnF x5 x8).1) 0) 59))
           (some (.normal, st_f51_1 x5 x7 (iadd .i64 x8 (((rjnF x5 x8).2).1)) y6))
           (br (cSx ((rjnF x5 x8).1) 0)
            (br ((ieq (sgt ((rjnF x5 x8).1) 0) 91))
             (br (cSx ((rjnF x5 x8).1) (isub .i64 (slen ((rjnF x5 x8).1)) 1))
              (br ((ieq (sgt ((rjnF x5 x8).1) (isub .i64 (slen ((rjnF x5 x8).1)) 1)) 93))
               (br (cSs ((rjnF x5 x8).1) 1 (imx 1 (isub .i64 (slen ((rjnF x5 x8).1)) 1)))
                (br ((nameG (ssl ((rjnF x5 x8).1) 1 (imx 1 (isub .i64 (slen ((rjnF x5 x8).1)) 1)))))
                 (br ((nameG (tB (ssl ((rjnF x5 x8).1) 1 (imx 1 (isub .i64 (slen ((rjnF x5 x8).1)) 1))))))
                  (br ((!(wrdB (tB (ssl ((rjnF x5 x8).1) 1 (imx 1 (isub .i64 (slen ((rjnF x5 x8).1)) 1)))))))
                   (some (.ret, st_f51_1_ret (iadd .i64 x8 1) 1 y6))
                   (some (.normal, st_f51_1 x5 (tB (ssl ((rjnF x5 x8).1) 1 (imx 1 (isub .i64 (slen ((rjnF x5 x8).1)) 1)))) (iadd .i64 x8 (((rjnF x5 x8).2).1)) y6)))
                  (none))
                 (none))
                (none))
               (b_f51_1_1 x5 x7 x8 y6))
              (none))
             (b_f51_1_1 x5 x7 x8 y6))
            (none)))
          (none)))
        (none))))
     (none)))
   (none))
  (some (.exit 0, st_f51_1_e0 y6))
noncomputable def lp_f51_1 (x5 : (List ByteArray)) (x7 : ByteArray) (x8 : Int) (y6 : (List Setting)) : Option (Exit × VS) := loopF (roundF g_f51 fg_f51_1 tb_f51_1) (st_f51_1 x5 x7 x8 y6)
noncomputable def n_f51_1_1 (x5 : (List ByteArray)) (x7 : ByteArray) (x8 : Int) (y6 : (List Setting)) : Option (Exit × VS) :=
 br ((nameG ((rjnF x5 x8).1) && decide (0 ≤ (0 : Int) ∧ (0 : Int) ≤ ((rjnF x5 x8).1).size)))
  (br ((ieq (eqI ((rjnF x5 x8).1) (0 : Int)) (slen (((rjnF x5 x8).1)))))
   (some (.ret, st_f51_1_ret ((iadd .i64 x8 1)) 1 (y6)))
   (br (cSs (((rjnF x5 x8).1)) 0 (eqI ((rjnF x5 x8).1) (0 : Int)))
    (br ((nameG (ssl (((rjnF x5 x8).1)) 0 (eqI ((rjnF x5 x8).1) (0 : Int)))))
     (br ((nameG (tB (ssl (((rjnF x5 x8).1)) 0 (eqI ((rjnF x5 x8).1) (0 : Int))))))
      (br ((!(wrdB (tB (ssl (((rjnF x5 x8).1)) 0 (eqI ((rjnF x5 x8).1) (0 : Int)))))))
       (some (.ret, st_f51_1_ret ((iadd .i64 x8 1)) 1 (y6)))
       (br (cSs (((rjnF x5 x8).1)) 0 (eqI ((rjnF x5 x8).1) (0 : Int)))
        (br ((nameG (ssl (((rjnF x5 x8).1)) 0 (eqI ((rjnF x5 x8).1) (0 : Int)))))
         (br (cSs (((rjnF x5 x8).1)) (iadd .i64 (eqI ((rjnF x5 x8).1) (0 : Int)) 1) ((ByteArray.size (((rjnF x5 x8).1)) : Nat) : Int))
          (br ((nameG (ssl (((rjnF x5 x8).1)) (iadd .i64 (eqI ((rjnF x5 x8).1) (0 : Int)) 1) ((ByteArray.size (((rjnF x5 x8).1)) : Nat) : Int))))
           (br (cApp (y6) ([((x7), ((tB (ssl (((rjnF x5 x8).1)) 0 (eqI ((rjnF x5 x8).1) (0 : Int)))), ((tB (ssl (((rjnF x5 x8).1)) (iadd .i64 (eqI ((rjnF x5 x8).1) (0 : Int)) 1) ((ByteArray.size (((rjnF x5 x8).1)) : Nat) : Int))), (((iadd .i64 x8 1)), ()))))]) 56)
            (lp_f51_1 (x5) (x7) ((iadd .i64 x8 (((rjnF x5 x8).2).1))) ((y6) ++ ([((x7), ((tB (ssl (((rjnF x5 x8).1)) 0 (eqI ((rjnF x5 x8).1) (0 : Int)))), ((tB (ssl (((rjnF x5 x8).1)) (iadd .i64 (eqI ((rjnF x5 x8).1) (0 : Int)) 1) ((ByteArray.size (((rjnF x5 x8).1)) : Nat) : Int))), (((iadd .i64 x8 1)), ()))))])))
            (none))
           (none))
          (none))
         (none))
        (none)))
      (none))
     (none))
    (none)))
  (none)
noncomputable def n_f51_1 (x5 : (List ByteArray)) (x7 : ByteArray) (x8 : Int) (y6 : (List Setting)) : Option (Exit × VS) :=
 br ((ilt x8 (llen x5)))
  (br ((rjnOk x5 x8))
   (br ((!(((rjnF x5 x8).2).2)))
    (some (.ret, st_f51_1_ret (iadd .i64 x8 1) 1 y6))
    (br ((nameG ((rjnF x5 x8).1)))
     (br ((!(clB ((rjnF x5 x8).1))))
      (some (.ret, st_f51_1_ret (iadd .i64 x8 1) 1 y6))
      (br ((seq ((rjnF x5 x8).1) (ByteArray.mk #[])))
       (lp_f51_1 x5 x7 (iadd .i64 x8 (((rjnF x5 x8).2).1)) y6)
       (br (cSx ((rjnF x5 x8).1) 0)
        (br ((ieq (sgt ((rjnF x5 x8).1) 0) 35))
         (lp_f51_1 x5 x7 (iadd .i64 x8 (((rjnF x5 x8).2).1)) y6)
         (br (cSx ((rjnF x5 x8).1) 0)
          (br ((ieq (sgt ((rjnF x5 x8).1) 0) 59))
           (lp_f51_1 x5 x7 (iadd .i64 x8 (((rjnF x5 x8).2).1)) y6)
           (br (cSx ((rjnF x5 x8).1) 0)
            (br ((ieq (sgt ((rjnF x5 x8).1) 0) 91))
             (br (cSx ((rjnF x5 x8).1) (isub .i64 (slen ((rjnF x5 x8).1)) 1))
              (br ((ieq (sgt ((rjnF x5 x8).1) (isub .i64 (slen ((rjnF x5 x8).1)) 1)) 93))
               (br (cSs ((rjnF x5 x8).1) 1 (imx 1 (isub .i64 (slen ((rjnF x5 x8).1)) 1)))
                (br ((nameG (ssl ((rjnF x5 x8).1) 1 (imx 1 (isub .i64 (slen ((rjnF x5 x8).1)) 1)))))
                 (br ((nameG (tB (ssl ((rjnF x5 x8).1) 1 (imx 1 (isub .i64 (slen ((rjnF x5 x8).1)) 1))))))
                  (br ((!(wrdB (tB (ssl ((rjnF x5 x8).1) 1 (imx 1 (isub .i64 (slen ((rjnF x5 x8).1)) 1)))))))
                   (some (.ret, st_f51_1_ret (iadd .i64 x8 1) 1 y6))
                   (lp_f51_1 x5 (tB (ssl ((rjnF x5 x8).1) 1 (imx 1 (isub .i64 (slen ((rjnF x5 x8).1)) 1)))) (iadd .i64 x8 (((rjnF x5 x8).2).1)) y6))
                  (none))
                 (none))
                (none))
               (n_f51_1_1 x5 x7 x8 y6))
              (none))
             (n_f51_1_1 x5 x7 x8 y6))
            (none)))
          (none)))
        (none))))
     (none)))
   (none))
  (some (.exit 0, st_f51_1_e0 y6))
def la_f51_1 (x5 : (List ByteArray)) (x7 : ByteArray) (x8 : Int) (y6 : (List Setting)) : Option (Exit × VS) := br (!(pgF x5 x7 x8 y6).2.2) (some (.ret, st_f51_1_ret ((pgF x5 x7 x8 y6).2.1) ((1 : Int)) ((pgF x5 x7 x8 y6).1))) <| some (.exit 0, st_f51_1_e0 ((pgF x5 x7 x8 y6).1))
theorem be_f51_1 (x5 : (List ByteArray)) (x7 : ByteArray) (x8 : Int) (y6 : (List Setting)) : roundF g_f51 fg_f51_1 tb_f51_1 (st_f51_1 x5 x7 x8 y6) = b_f51_1 x5 x7 x8 y6 := by kernel_rfl
theorem ln_f51_1 (x5 : (List ByteArray)) (x7 : ByteArray) (x8 : Int) (y6 : (List Setting)) : lp_f51_1 x5 x7 x8 y6 = n_f51_1 x5 x7 x8 y6 := (loopF_nxt _ _).trans (by
 rw [be_f51_1]
 simp only [b_f51_1, b_f51_1_1, n_f51_1, n_f51_1_1, nxt_br, nxt_n, nxt_r, nxt_e, nxt_0]
 rfl)
def r_f51 (p0 : ByteArray) : Option (V × List VO) :=
 br ((igt (slen p0) 8192))
  (some (.tu [(.t (.sl tySetting) ([] : List Setting)), (.t tI 0), (.t tI 3)], []))
  (br ((nameG p0))
   (br ((igt (endN p0) 200))
    (some (.tu [(.t (.sl tySetting) ([] : List Setting)), (.t tI 0), (.t tI 3)], []))
    (br ((rlnOk p0))
     (br ((parL (lnB p0) (ByteArray.mk #[]) (0 : Int) ([] : List Setting)))
      (br ((!(pgF (lnB p0) (ByteArray.mk #[]) (0 : Int) ([] : List Setting)).2.2))
       (some (.tu [(.t (.sl tySetting) ([] : List Setting)), (.t tI ((pgF (lnB p0) (ByteArray.mk #[]) (0 : Int) ([] : List Setting)).2.1)), (.t tI ((1 : Int)))], []))
       (some (.tu [(.t (.sl tySetting) ((pgF (lnB p0) (ByteArray.mk #[]) (0 : Int) ([] : List Setting)).1)), (.t tI 0), (.t tI 0)], [])))
      (none))
     (none)))
   (none))
theorem e_f51 (p0 : ByteArray) : runF g_f51 tc_f51 rv_f51 false [.t .str p0] [] = r_f51 p0 := by kernel_rfl
theorem ok_f51 : Option.map (trC Tryd.prog) Tryd.f51.body = some tc_f51.er := by kernel_rfl
theorem rok_f51 : trVs Tryd.prog Tryd.f51.results.toList = some (rv_f51.map Prod.fst) := by kernel_rfl
theorem en_f51 : Entered Tryd.prog 51 := .inr ⟨by decide, _, Tryd.func51, by kernel_rfl, by kernel_rfl⟩
theorem gk_f51 : GOk Tryd.prog g_f51 := gok_of _ (by
 intro p hp
 simp only [List.mem_cons, List.not_mem_nil, or_false] at hp
 rcases hp with rfl | rfl | rfl | rfl | rfl | rfl
 ·exact ⟨en_f58, ms_f58⟩
 ·exact ⟨en_f88, ms_f88⟩
 ·exact ⟨en_f89, ms_f89⟩
 ·exact ⟨en_f90, ms_f90⟩
 ·exact ⟨en_f91, ms_f91⟩
 ·exact ⟨en_f92, ms_f92⟩)
theorem l_f51_0 (x5 : (List ByteArray)) (x7 : ByteArray) (x8 : Int) (x9 : ByteArray) (x12 : Int) (x13 : Int) (y6 : (List Setting)) (h : (nameG x9 && decide (0 ≤ x13 ∧ x13 ≤ x9.size)) = true) : lp_f51_0 x5 x7 x8 x9 x12 x13 y6 = la_f51_0 x5 x7 x8 x9 x12 x13 y6 := by
 simp only [nameG, Bool.and_eq_true, decide_eq_true_eq] at h
 obtain ⟨h0, h1, h2⟩ := h
 obtain ⟨k, rfl⟩ := Int.eq_ofNat_of_zero_le h1
 have hl := bl_len x9
 refine range_ind (bl x9) (fun k => lp_f51_0 x5 x7 x8 x9 x12 (k : Int) y6 = la_f51_0 x5 x7 x8 x9 x12 (k : Int) y6) ?_ ?_ k (by omega)
 ·rw [ln_f51_0]
  have e : ilt ((bl x9).length : Int) (slen x9) = false := decide_eq_false (by simp only [slen]; omega)
  simp only [n_f51_0, la_f51_0, e, br_false, eqI, Int.toNat_natCast, List.drop_length, List.takeWhile_nil, List.length_nil, Int.natCast_zero, Int.add_zero]
 ·intro k hk ih
  have e : ilt (k : Int) (slen x9) = true := decide_eq_true (by simp only [slen]; omega)
  have e2 : ine (sgt x9 (k : Int)) 61 = !((bl x9)[k] == 61) := by
   rw [sgt_bl hk]
   have := ((bl x9)[k]).toNat_lt
   generalize (bl x9)[k] = c at this
   unfold ine bne
   congr 1
   rw [Bool.eq_iff_iff, beq_iff_eq, beq_iff_eq, ← UInt8.toNat_inj]
   show _ ↔ c.toNat = 61
   omega
  rw [ln_f51_0]
  simp only [n_f51_0, e, cSx_bl hk, e2, br_true, add1G (show k < 9223372036854775807 by omega), ih]
  have e3 : eqI x9 (k : Int) = if (!((bl x9)[k] == 61)) = true then eqI x9 ((k + 1 : Nat) : Int) else (k : Int) := by
   unfold eqI
   rw [Int.toNat_natCast, Int.toNat_natCast, List.drop_eq_getElem_cons hk, List.takeWhile_cons]
   cases (!((bl x9)[k] == 61)) with
   | true =>
    rw [if_pos rfl, if_pos rfl, List.length_cons]
    omega
   | false =>
    rw [if_neg (by simp), if_neg (by simp), List.length_nil]
    omega
  simp only [la_f51_0, e3]
  cases (!((bl x9)[k] == 61)) with
  | true => simp only [br_true, if_true]
  | false => simp only [br_false, Bool.false_eq_true, if_false]
theorem l_f51_1 (x5 : (List ByteArray)) (x7 : ByteArray) (x8 : Int) (y6 : (List Setting)) (h : (parL x5 x7 x8 y6) = true) : lp_f51_1 x5 x7 x8 y6 = la_f51_1 x5 x7 x8 y6 := by
 obtain ⟨h0, h1⟩ := Bool.and_eq_true_iff.1 h
 have hh := of_decide_eq_true h1
 have hl := lnsOk_len h0
 clear h h1
 obtain ⟨h1, h2, h3⟩ := hh
 obtain ⟨k, rfl⟩ := Int.eq_ofNat_of_zero_le h1
 clear h1
 obtain ⟨m, hm⟩ : ∃ m : Nat, x5.length - k = m := ⟨_, rfl⟩
 induction m using Nat.strongRecOn generalizing k x7 y6 with
 | ind m ih =>
  by_cases hk : k < x5.length
  ·obtain ⟨p1, p2⟩ := rjn_pos hk
   have hz := rjn_size h0 hk
   have q0 : ilt (k : Int) (llen x5) = true := decide_eq_true (by simp only [llen]; omega)
   have q1 : rjnOk x5 (k : Int) = true := by unfold rjnOk; rw [h0, cIx_nat, decide_eq_true hk]; rfl
   have q2 : iadd .i64 (k : Int) 1 = (k : Int) + 1 := iadd_in (by omega)
   have q3 : iadd .i64 (k : Int) (rjnF x5 k).2.1 = (k : Int) + (rjnF x5 k).2.1 := iadd_in (by omega)
   obtain ⟨q, hq⟩ := Int.eq_ofNat_of_zero_le (show 0 ≤ (k : Int) + (rjnF x5 k).2.1 by omega)
   have hbad : (!(rjnF x5 k).2.2 || !clB (rjnF x5 k).1) = true → some (Exit.ret, st_f51_1_ret ((k : Int) + 1) 1 y6) = la_f51_1 x5 x7 (k : Int) y6 := fun h => by
    simp only [la_f51_1, pgF_bad hk h, Bool.not_false, br_true]
   have hgo : (!(rjnF x5 k).2.2 || !clB (rjnF x5 k).1) = false → ∀ p, stpS (rjnF x5 k).1 x7 (k + 1) y6 = some p → lp_f51_1 x5 p.1 ((k : Int) + (rjnF x5 k).2.1) p.2 = la_f51_1 x5 x7 (k : Int) y6 := fun h p hp => by
    have hpl := stp_len hp
    have hf := pgF_some hk h hp
    rw [hq] at hf ⊢
    rw [ih (x5.length - q) (by omega) p.1 p.2 q (by omega) (by omega) rfl]
    simp only [la_f51_1, hf]
   have hno : (!(rjnF x5 k).2.2 || !clB (rjnF x5 k).1) = false → stpS (rjnF x5 k).1 x7 (k + 1) y6 = none → some (Exit.ret, st_f51_1_ret ((k : Int) + 1) 1 y6) = la_f51_1 x5 x7 (k : Int) y6 := fun h hp => by
    simp only [la_f51_1, pgF_none hk h hp, Bool.not_false, br_true]
   have hN : n_f51_1_1 x5 x7 (k : Int) y6 = (bif ieq (eqI (rjnF x5 k).1 0) (slen (rjnF x5 k).1) || !wrdB (nmS (rjnF x5 k).1) then some (Exit.ret, st_f51_1_ret ((k : Int) + 1) 1 y6) else lp_f51_1 x5 x7 ((k : Int) + (rjnF x5 k).2.1) (y6 ++ [(x7, (nmS (rjnF x5 k).1, (vlS (rjnF x5 k).1, ((k : Int) + 1, ()))))])) := by
    unfold n_f51_1_1
    rw [q2, q3]
    generalize (rjnF x5 k).1 = s at hz ⊢
    have hr := eqI_rng s (k := 0) (Nat.zero_le _)
    have hr : 0 ≤ eqI s 0 ∧ eqI s 0 ≤ s.size := hr
    unfold nmS vlS
    generalize eqI s 0 = e at hr ⊢
    have hs1 : (ssl s 0 e).size ≤ s.size := by rw [← bl_len, bl_ssl, List.length_take, List.length_drop, bl_len]; omega
    refine brY (Bool.and_eq_true_iff.2 ⟨decide_eq_true (by omega), decide_eq_true (by omega)⟩) ?_
    cases g1 : ieq e (slen s) with
    | true =>
     rw [br_true]
     rfl
    | false =>
     have g2 : e < s.size := by
      have : e ≠ s.size := by simpa [ieq, slen] using g1
      omega
     have i1 : iadd .i64 e 1 = e + 1 := iadd_in (by omega)
     have hs2 : (ssl s (e + 1) ((ByteArray.size s : Nat) : Int)).size ≤ s.size := by rw [← bl_len, bl_ssl, List.length_take, List.length_drop, bl_len]; omega
     have t1 := tB_size (ssl s 0 e)
     have c1 : cSs s 0 e = true := decide_eq_true (by omega)
     have c2 : nameG (ssl s 0 e) = true := decide_eq_true (by omega)
     rw [br_false, Bool.false_or, i1, c1, c2, br_true, br_true]
     refine brY (decide_eq_true (by omega)) ?_
     cases wrdB (tB (ssl s 0 e)) with
     | false => rfl
     | true =>
      rw [Bool.not_true, br_false, cond_false]
      exact brY rfl (brY rfl (brY (decide_eq_true (by omega)) (brY (decide_eq_true (by omega)) (brY (cAppN (by decide) (by simp only [List.length_singleton]; omega)) rfl))))
   rw [ln_f51_1]
   unfold n_f51_1
   rw [q0, br_true, q1, br_true, q2]
   cases g1 : (rjnF x5 k).2.2 with
   | false =>
    rw [Bool.not_false, br_true]
    exact hbad (by rw [g1]; rfl)
   | true =>
    rw [Bool.not_true, br_false]
    refine brY (decide_eq_true (by omega)) ?_
    cases g2 : clB (rjnF x5 k).1 with
    | false =>
     rw [Bool.not_false, br_true]
     exact hbad (by rw [g2, Bool.not_false, Bool.or_true])
    | true =>
     rw [Bool.not_true, br_false]
     have gg : (!(rjnF x5 k).2.2 || !clB (rjnF x5 k).1) = false := by rw [g1, g2]; rfl
     have hgo := hgo gg
     have hno := hno gg
     clear hbad gg g1 g2
     rw [q3]
     generalize (rjnF x5 k).1 = s at hz hgo hno hN ⊢
     generalize (k : Int) + (rjnF x5 k).2.1 = nx at hgo hN ⊢
     cases e1 : seq s (ByteArray.mk #[]) with
     | true =>
      rw [br_true]
      exact hgo (x7, y6) (by unfold stpS empS; rw [e1]; rfl)
     | false =>
      have hs0 : 0 < s.size := by
       rw [seq_dec, decide_eq_false_iff_not] at e1
       rcases Nat.eq_zero_or_pos s.size with h | h
       ·exact absurd (bl_ext (by rw [List.eq_nil_of_length_eq_zero (show (bl s).length = 0 by rw [bl_len]; exact h)])) e1
       ·exact h
      have c0 : cSx s 0 = true := decide_eq_true (by omega)
      have i0 : isub .i64 (slen s) 1 = (s.size : Int) - 1 := isub_in (by simp only [slen]; omega)
      have c1 : cSx s (isub .i64 (slen s) 1) = true := by rw [i0]; exact decide_eq_true (by omega)
      rw [br_false, c0, br_true]
      cases e2 : ieq (sgt s 0) 35 with
      | true =>
       rw [br_true]
       exact hgo (x7, y6) (by unfold stpS empS; rw [e1, e2]; rfl)
      | false =>
       rw [br_false, br_true]
       cases e3 : ieq (sgt s 0) 59 with
       | true =>
        rw [br_true]
        exact hgo (x7, y6) (by unfold stpS empS; rw [e1, e2, e3]; rfl)
       | false =>
        have he : empS s = false := by unfold empS; rw [e1, e2, e3]; rfl
        have hfin : brkS s = false → n_f51_1_1 x5 x7 (k : Int) y6 = la_f51_1 x5 x7 (k : Int) y6 := fun hb => by
         rw [hN]
         cases g : (ieq (eqI s 0) (slen s) || !wrdB (nmS s)) with
         | true => exact hno (by unfold stpS; rw [he, hb, g]; rfl)
         | false => exact hgo (x7, y6 ++ [(x7, (nmS s, (vlS s, ((k : Int) + 1, ()))))]) (by unfold stpS; rw [he, hb, g]; rfl)
        rw [br_false, br_true]
        cases e4 : ieq (sgt s 0) 91 with
        | false =>
         rw [br_false]
         exact hfin (by unfold brkS; rw [e4]; rfl)
        | true =>
         rw [br_true, c1, br_true]
         cases e5 : ieq (sgt s (isub .i64 (slen s) 1)) 93 with
         | false =>
          rw [br_false]
          exact hfin (by unfold brkS; rw [e4, e5]; rfl)
         | true =>
          have hb : brkS s = true := by unfold brkS; rw [e4, e5]; rfl
          have hm : 1 ≤ imx 1 (isub .i64 (slen s) 1) ∧ imx 1 (isub .i64 (slen s) 1) ≤ s.size := by
           rw [i0]
           unfold imx
           split <;> omega
          have hs1 : (ssl s 1 (imx 1 (isub .i64 (slen s) 1))).size ≤ s.size := by rw [← bl_len, bl_ssl, List.length_take, List.length_drop, bl_len]; omega
          have t1 := tB_size (ssl s 1 (imx 1 (isub .i64 (slen s) 1)))
          rw [br_true]
          refine brY (decide_eq_true ⟨by omega, hm.1, hm.2⟩) (brY (decide_eq_true (by omega)) (brY (decide_eq_true (by omega)) ?_))
          show br (!wrdB (secS s)) _ (lp_f51_1 x5 (secS s) nx y6) = _
          cases e6 : wrdB (secS s) with
          | false => exact hno (by unfold stpS; rw [he, hb, e6]; rfl)
          | true => exact hgo (secS s, y6) (by unfold stpS; rw [he, hb, e6]; rfl)
  ·have hk : x5.length ≤ k := by omega
   have q0 : ilt (k : Int) (llen x5) = false := decide_eq_false (by simp only [llen]; omega)
   rw [ln_f51_1]
   unfold n_f51_1
   rw [q0, br_false]
   simp only [la_f51_1, pgF_end hk, Bool.not_true, br_false]
theorem lo_f51_0 : ∀ S l p, g_f51.L 0 (fgt fg_f51_0 S) = some (true, l) → pickA l = some p → loopF (roundF g_f51 fg_f51_0 tb_f51_0) S = some p :=
 lok_of (s := sh_f51_0) ⟨by decide, by decide⟩ (by kernel_rfl) fun x y hok p hp => by
 simp only [pickA_br, pickA_one] at hp
 exact (l_f51_0 x.1 x.2.2.1 x.2.2.2.1 x.2.2.2.2.1 x.2.2.2.2.2.1 x.2.2.2.2.2.2.1 y.1 (by simpa using hok)).trans hp
theorem lo_f51_1 : ∀ S l p, g_f51.L 1 (fgt fg_f51_1 S) = some (true, l) → pickA l = some p → loopF (roundF g_f51 fg_f51_1 tb_f51_1) S = some p :=
 lok_of (s := sh_f51_1) ⟨by decide, by decide⟩ (by kernel_rfl) fun x y hok p hp => by
 simp only [pickA_br, pickA_one] at hp
 exact (l_f51_1 x.1 x.2.2.1 x.2.2.2.1 y.1 (by simpa using hok)).trans hp
theorem lk_f51 : tc_f51.lok g_f51 := by
 repeat (first | exact trivial | exact lo_f51_0 | exact lo_f51_1 | refine ⟨?_, ?_⟩)
theorem s_f51 (s : ByteArray) (h : nameG s = true) : r_f51 s = some (.tu [.t (.sl tySetting) (parF s).1, .t tI (parF s).2.1, .t tI (parF s).2.2], []) := by
 unfold r_f51 parF
 cases h1 : igt (slen s) 8192 with
 | true => rfl
 | false =>
  have h1 : s.size ≤ 8192 := by simp only [igt, slen, decide_eq_false_iff_not] at h1; omega
  rw [br_false, Bool.false_or]
  refine brY h ?_
  cases igt (endN s) 200 with
  | true => rfl
  | false =>
   rw [br_false, cond_false]
   refine brY (decide_eq_true (by omega)) (brY ?_ ?_)
   ·exact Bool.and_eq_true_iff.2 ⟨lnB_ok (by omega), decide_eq_true ⟨Int.le_refl 0, by omega, by simp⟩⟩
   ·cases (pgF (lnB s) (ByteArray.mk #[]) 0 []).2.2 <;> rfl
def sp_f51 : Ent := spec (.pr .str .nil) (fun x => (nameG x.1)) (fun x => (.tu [(.t (.sl tySetting) ((parF x.1).1)), (.t tI (((parF x.1).2).1)), (.t tI (((parF x.1).2).2))]))
theorem ms_f51 : Meets Tryd.prog 51 (strip sp_f51) := by
 obtain ⟨c, hc, hi⟩ := Option.map_eq_some_iff.1 ok_f51
 exact meets_spec (R := runF g_f51 tc_f51 rv_f51 false) (meets_of (by decide) Tryd.func51 hc hi Tryd.ntmps51 rok_f51 gk_f51 lk_f51 mixed) fun x hok => (e_f51 x.1).trans (s_f51 x.1 hok)
end
end Go.Proofs.YtkkoedniahnneaaDoor.K
