/-
 SettingsSet: behind Set, Get returns the value, and no other setting is changed.
-/
import Derived.Test.YtkkoedniahnneaaDoorA36
import Derived.Test.YtkkoedniahnneaaDoorA31
set_option linter.unusedSimpArgs false
set_option linter.unusedVariables false
namespace Go.Proofs.YtkkoedniahnneaaDoor.K
open Go.RowKit
noncomputable section
abbrev sw1 : List ByteArray := [(ByteArray.mk #[119, 101, 98]), (ByteArray.mk #[100, 98]), (ByteArray.mk #[110, 101, 119])]
abbrev sw2 : List ByteArray := [(ByteArray.mk #[109, 111, 115, 116]), (ByteArray.mk #[120]), (ByteArray.mk #[102, 114, 101, 115, 104])]
abbrev sw3 : List ByteArray := [(ByteArray.mk #[49]), (ByteArray.mk #[57, 32, 57]), (ByteArray.mk #[])]
theorem dwd_all {d : Dice} {l : List ByteArray} {p : ByteArray → Bool} (h : l.all p = true) (h0 : 0 < l.length) : p (dwdG d l) = true := by
 have hv := dval_lt (d := d) (n := (l.length : Int)) (by omega)
 unfold dwdG
 rw [List.getD_eq_getElem?_getD, List.getElem?_eq_getElem (by omega), Option.getD_some]
 exact List.all_eq_true.1 h _ (List.getElem_mem _)
def wdV (s : ByteArray) : Bool := wrdB s && decide (s.size ≤ 100)
def vlV (s : ByteArray) : Bool := valB s && decide (s.size ≤ 100)
theorem sw1_ok : sw1.all wdV = true := by kernel_rfl
theorem sw2_ok : sw2.all wdV = true := by kernel_rfl
theorem sw3_ok : sw3.all vlV = true := by kernel_rfl
def setTT (_ : List Int) : Bool := true
def st0 (x y : List Setting) (s n : ByteArray) (i : Int) : Bool := cP (0 ≤ i ∧ i ≤ x.length ∧ x.length ≤ 100 ∧ y.length ≤ 101 ∧ ∀ c d, ¬ (c = s ∧ d = n) → getF y c d = getF x c d)
def dr_f11_0 : List DO := [(.mk (oV 98 4) []), (.mk (oV 99 4) []), (.mk (oV 100 12) []), (.mk (oP 101 (.ix 4 (.t 99) (.t 100))) [1, 2]), (.mk (oP 102 (.fa 0 (.t 101))) [3]), (.mk (oL 103 102) [4]), (.mk (oV 104 4) []), (.mk (oV 105 12) []), (.mk (oP 106 (.ix 4 (.t 104) (.t 105))) [6, 7]), (.mk (oP 107 (.fa 1 (.t 106))) [8]), (.mk (oL 108 107) [9]), (.mk (oC 109 45 [(.t 98), (.t 103), (.t 108)]) [0, 5, 10]), (.mk (oV 97 109) [11]), (.mk (oP 110 (.ext 0 (.t 97))) [12]), (.mk (oP 111 (.ext 1 (.t 97))) [12]), (.mk (oV 13 110) [13, 11, 0, 1, 2, 3, 4, 5, 6, 7, 8, 9, 10, 11, 12, 13]), (.mk (oV 14 111) [14, 15, 0, 1, 2, 3, 4, 5, 6, 7, 8, 9, 10, 11, 12, 13, 14, 15])]
def dr_f11_1 : List DO := [(.mk (oV 113 8) []), (.mk (oV 114 4) []), (.mk (oV 115 12) []), (.mk (oP 116 (.ix 4 (.t 114) (.t 115))) [1, 2]), (.mk (oP 117 (.fa 0 (.t 116))) [3]), (.mk (oL 118 117) [4]), (.mk (oV 119 4) []), (.mk (oV 120 12) []), (.mk (oP 121 (.ix 4 (.t 119) (.t 120))) [6, 7]), (.mk (oP 122 (.fa 1 (.t 121))) [8]), (.mk (oL 123 122) [9]), (.mk (oC 124 45 [(.t 113), (.t 118), (.t 123)]) [0, 5, 10]), (.mk (oV 112 124) [11]), (.mk (oP 125 (.ext 0 (.t 112))) [12]), (.mk (oP 126 (.ext 1 (.t 112))) [12]), (.mk (oV 15 125) [13, 11, 0, 1, 2, 3, 4, 5, 6, 7, 8, 9, 10, 11, 12, 13]), (.mk (oV 16 126) [14, 15, 0, 1, 2, 3, 4, 5, 6, 7, 8, 9, 10, 11, 12, 13, 14, 15])]
def fg_f11_0 : Fg := ⟨[(4, some (.sl tySetting)), (5, some .str), (6, some .str), (8, some (.sl tySetting)), (12, some tI)], []⟩
def tb_f11_0 : TC := (.sq (.sq (.reg [(oV 75 12), (oV 76 4), (oP 77 (.len false (.t 76))), (oP 78 (.bin false .lss (.t 75) (.t 77)))]) (.cd (.t 78) .sk (.fg ⟨[], []⟩ (.ex 0)))) (.sq (.bk 1 (.sq (.sq (.reg [(oV 81 4), (oV 82 12), (oP 83 (.ix 4 (.t 81) (.t 82))), (oP 84 (.fa 0 (.t 83))), (oL 85 84), (oV 86 5), (oP 87 (.bin false .eql (.t 85) (.t 86))), (oV 88 87), (oQ 89 88 true (.mv (.t 4))), (oQ 90 88 true (.mv (.t 12))), (oQ 91 88 true (.ix 4 (.t 89) (.t 90))), (oQ 92 88 true (.fa 1 (.t 91))), (oG 93 88 true (.m (.ld false 1 (.t 92)))), (oQ 94 88 true (.mv (.t 6))), (oQ 95 88 true (.bin false .eql (.t 93) (.t 94))), (oP 96 (.pick (.t 88) (.t 95) (cB false)))]) (.cd (.t 96) (.fg ⟨[(4, some (.sl tySetting)), (5, some .str), (6, some .str), (8, some (.sl tySetting)), (12, some tI)], []⟩ (.ex 1)) .sk)) (.sq (.dr dr_f11_0 [(0, []), (1, []), (2, []), (3, []), (4, []), (5, []), (6, []), (7, []), (8, []), (9, []), (10, []), (11, []), (12, []), (13, []), (14, []), (15, []), (16, [])] (.of [0, 1, 2, 3, 4, 5, 6, 7, 8, 9, 10, 11, 12, 13, 14, 15, 16])) (.sq (.dr dr_f11_1 [(0, []), (1, []), (2, []), (3, []), (4, []), (5, []), (6, []), (7, []), (8, []), (9, []), (10, []), (11, []), (12, []), (13, []), (14, []), (15, []), (16, [])] (.of [0, 1, 2, 3, 4, 5, 6, 7, 8, 9, 10, 11, 12, 13, 14, 15, 16])) (.sq (.reg [(oV 127 14), (oP 128 (.nt (.t 127))), (oV 129 128), (oQ 130 129 false (.mv (.t 16))), (oQ 131 129 false (.nt (.t 130))), (oP 132 (.pick (.t 129) (cB true) (.t 131))), (oV 133 132), (oQ 134 133 false (.mv (.t 13))), (oQ 135 133 false (.mv (.t 15))), (oQ 136 133 false (.bin false .neq (.t 134) (.t 135))), (oP 137 (.pick (.t 133) (cB true) (.t 136)))]) (.cd (.t 137) (.sq (.reg [(oP 2 (.mv (cB false)))]) (.fg ⟨[(2, some .bool)], []⟩ .rt)) .sk)))))) (.reg [(oV 79 12), (oP 80 (.bin false .add (.t 79) (cI 1))), (oV 12 80)])))
def tc_f11 : TC := (.sq (.reg [(oP 2 (.mv (cB false)))]) (.sq (.sq (.reg [(oV 17 0), (oC 18 13 [(.t 17)]), (oP 19 (.nt (.t 18)))]) (.cd (.t 19) (.sq (.reg [(oC 20 14 []), (oV 2 20)]) .rt) .sk)) (.sq (.reg [(oV 21 0), (oC 22 15 [(.t 21)]), (oV 3 22)]) (.sq (.reg [(oV 23 3), (oC 24 28 [(.t 23)]), (oV 4 24)]) (.sq (.reg [(oV 25 3), (oM 26 (.bs 9 1 3 [(.v (.string (ByteArray.mk #[]))), (.v (.string (ByteArray.mk #[]))), (.v (.string (ByteArray.mk #[])))] [(0, 1, (.c (.v (.string (ByteArray.mk #[119, 101, 98]))))), (1, 1, (.c (.v (.string (ByteArray.mk #[100, 98]))))), (2, 1, (.c (.v (.string (ByteArray.mk #[110, 101, 119])))))])), (oC 27 32 [(.t 25), (.t 26)]), (oV 28 3), (oM 29 (.bs 9 1 3 [(.v (.string (ByteArray.mk #[]))), (.v (.string (ByteArray.mk #[]))), (.v (.string (ByteArray.mk #[])))] [(0, 1, (.c (.v (.string (ByteArray.mk #[109, 111, 115, 116]))))), (1, 1, (.c (.v (.string (ByteArray.mk #[120]))))), (2, 1, (.c (.v (.string (ByteArray.mk #[102, 114, 101, 115, 104])))))])), (oC 30 32 [(.t 28), (.t 29)]), (oV 31 3), (oM 32 (.bs 9 1 3 [(.v (.string (ByteArray.mk #[]))), (.v (.string (ByteArray.mk #[]))), (.v (.string (ByteArray.mk #[])))] [(0, 1, (.c (.v (.string (ByteArray.mk #[49]))))), (1, 1, (.c (.v (.string (ByteArray.mk #[57, 32, 57]))))), (2, 1, (.c (.v (.string (ByteArray.mk #[])))))])), (oC 33 32 [(.t 31), (.t 32)]), (oV 5 27), (oV 6 30), (oV 7 33)]) (.sq (.reg [(oV 35 4), (oV 36 5), (oV 37 6), (oV 38 7), (oC 39 44 [(.t 35), (.t 36), (.t 37), (.t 38)]), (oV 34 39), (oP 40 (.ext 0 (.t 34))), (oP 41 (.ext 1 (.t 34))), (oV 8 40), (oV 9 41)]) (.sq (.reg [(oV 43 8), (oV 44 5), (oV 45 6), (oC 46 45 [(.t 43), (.t 44), (.t 45)]), (oV 42 46), (oP 47 (.ext 0 (.t 42))), (oP 48 (.ext 1 (.t 42))), (oV 10 47), (oV 11 48)]) (.sq (.sq (.reg [(oV 49 9), (oP 50 (.bin false .neq (.t 49) (cI 0))), (oV 51 50), (oQ 52 51 false (.mv (.t 11))), (oQ 53 51 false (.nt (.t 52))), (oP 54 (.pick (.t 51) (cB true) (.t 53))), (oV 55 54), (oQ 56 55 false (.mv (.t 10))), (oQ 57 55 false (.mv (.t 7))), (oQ 58 55 false (.bin false .neq (.t 56) (.t 57))), (oP 59 (.pick (.t 55) (cB true) (.t 58))), (oV 60 59), (oQ 61 60 false (.mv (.t 8))), (oQ 62 60 false (.len false (.t 61))), (oQ 63 60 false (.mv (.t 4))), (oQ 64 60 false (.len false (.t 63))), (oQ 65 60 false (.bin false .neq (.t 62) (.t 64))), (oQ 66 60 false (.mv (.t 65))), (oQ 67 66 true (.mv (.t 8))), (oQ 68 66 true (.len false (.t 67))), (oQ 69 66 true (.mv (.t 4))), (oQ 70 66 true (.len false (.t 69))), (oQ 71 66 true (.bin false .add (.t 70) (cI 1))), (oQ 72 66 true (.bin false .neq (.t 68) (.t 71))), (oQ 73 60 false (.pick (.t 66) (.t 72) (cB false))), (oP 74 (.pick (.t 60) (cB true) (.t 73)))]) (.cd (.t 74) (.sq (.reg [(oP 2 (.mv (cB false)))]) .rt) .sk)) (.sq (.sq (.reg [(oP 12 (.mv (cI 0)))]) (.bk 0 (.lp 0 fg_f11_0 tb_f11_0))) (.sq (.reg [(oC 138 14 []), (oV 2 138)]) .rt))))))))))
def rv_f11 : List (RV × Option Ty) := [((.t 2), some .bool)]
abbrev sh_f11_0 : Sh := ⟨[(4, .ty (.sl tySetting)), (5, .ty .str), (6, .ty .str), (8, .ty (.sl tySetting)), (12, .ty tI)], []⟩
def st_f11_0 (x4 : (List Setting)) (x5 : ByteArray) (x6 : ByteArray) (x8 : (List Setting)) (x12 : Int) : VS := sh_f11_0.st (x4, x5, x6, x8, x12, ()) ()
abbrev sh_f11_0_ret : Sh := ⟨[(2, .ty .bool)], []⟩
def st_f11_0_ret (x2 : Bool) : VS := sh_f11_0_ret.st (x2, ()) ()
abbrev sh_f11_0_e0 : Sh := ⟨[], []⟩
def st_f11_0_e0  : VS := sh_f11_0_e0.st () ()
-- loop 0: (x4 : (List Setting)) (x5 : ByteArray) (x6 : ByteArray) (x8 : (List Setting)) (x12 : Int); out: ('ret',) (x2 : Bool); ('exit', 0)
def L_f11_0 : VS → Option (Bool × List (Bool × Exit × VS)) := mkL sh_f11_0 (fun x y => (st0 x.1 x.2.2.2.1 x.2.1 x.2.2.1 x.2.2.2.2.1)) (fun x y => [((false), .ret, st_f11_0_ret (false)), (true, .exit 0, st_f11_0_e0)])
def g_f11 : G := ⟨TYs, [], 139, EL [(13, sp_f13), (14, sp_f14), (15, sp_f15), (28, sp_f28), (32, sp_f32), (44, sp_f44), (45, sp_f45)], keeps, (Ls [L_f11_0]), IL [], RL []⟩
def b_f11_0_1 (x4 : (List Setting)) (x5 : ByteArray) (x6 : ByteArray) (x8 : (List Setting)) (x12 : Int) : Option (Exit × VS) :=
 br (cIx x4 x12)
  (br (cIx x4 x12)
   (br ((getOk x4 ((lgt tySetting x4 (Int.toNat x12)).1) (((lgt tySetting x4 (Int.toNat x12)).2).1)))
    (br (cIx x4 x12)
     (br (cIx x4 x12)
      (br ((getOk x8 ((lgt tySetting x4 (Int.toNat x12)).1) (((lgt tySetting x4 (Int.toNat x12)).2).1)))
       (br ((!((getF x4 ((lgt tySetting x4 (Int.toNat x12)).1) (((lgt tySetting x4 (Int.toNat x12)).2).1)).2)))
        (some (.ret, st_f11_0_ret false))
        (br ((!((getF x8 ((lgt tySetting x4 (Int.toNat x12)).1) (((lgt tySetting x4 (Int.toNat x12)).2).1)).2)))
         (some (.ret, st_f11_0_ret false))
         (br ((sne ((getF x4 ((lgt tySetting x4 (Int.toNat x12)).1) (((lgt tySetting x4 (Int.toNat x12)).2).1)).1) ((getF x8 ((lgt tySetting x4 (Int.toNat x12)).1) (((lgt tySetting x4 (Int.toNat x12)).2).1)).1)))
          (some (.ret, st_f11_0_ret false))
          (some (.normal, st_f11_0 x4 x5 x6 x8 (iadd .i64 x12 1))))))
       (none))
      (none))
     (none))
    (none))
   (none))
  (none)
def b_f11_0 (x4 : (List Setting)) (x5 : ByteArray) (x6 : ByteArray) (x8 : (List Setting)) (x12 : Int) : Option (Exit × VS) :=
 br ((ilt x12 (llen x4)))
  (br (cIx x4 x12)
   (br ((seq ((lgt tySetting x4 (Int.toNat x12)).1) x5))
    (br (cIx x4 x12)
     (br ((seq (((lgt tySetting x4 (Int.toNat x12)).2).1) x6))
      (some (.normal, st_f11_0 x4 x5 x6 x8 (iadd .i64 x12 1)))
      (b_f11_0_1 x4 x5 x6 x8 x12))
     (none))
    (b_f11_0_1 x4 x5 x6 x8 x12))
   (none))
  (some (.exit 0, st_f11_0_e0))
noncomputable def lp_f11_0 (x4 : (List Setting)) (x5 : ByteArray) (x6 : ByteArray) (x8 : (List Setting)) (x12 : Int) : Option (Exit × VS) := loopF (roundF g_f11 fg_f11_0 tb_f11_0) (st_f11_0 x4 x5 x6 x8 x12)
noncomputable def n_f11_0_1 (x4 : (List Setting)) (x5 : ByteArray) (x6 : ByteArray) (x8 : (List Setting)) (x12 : Int) : Option (Exit × VS) :=
 br (cIx x4 x12)
  (br (cIx x4 x12)
   (br ((getOk x4 ((lgt tySetting x4 (Int.toNat x12)).1) (((lgt tySetting x4 (Int.toNat x12)).2).1)))
    (br (cIx x4 x12)
     (br (cIx x4 x12)
      (br ((getOk x8 ((lgt tySetting x4 (Int.toNat x12)).1) (((lgt tySetting x4 (Int.toNat x12)).2).1)))
       (br ((!((getF x4 ((lgt tySetting x4 (Int.toNat x12)).1) (((lgt tySetting x4 (Int.toNat x12)).2).1)).2)))
        (some (.ret, st_f11_0_ret false))
        (br ((!((getF x8 ((lgt tySetting x4 (Int.toNat x12)).1) (((lgt tySetting x4 (Int.toNat x12)).2).1)).2)))
         (some (.ret, st_f11_0_ret false))
         (br ((sne ((getF x4 ((lgt tySetting x4 (Int.toNat x12)).1) (((lgt tySetting x4 (Int.toNat x12)).2).1)).1) ((getF x8 ((lgt tySetting x4 (Int.toNat x12)).1) (((lgt tySetting x4 (Int.toNat x12)).2).1)).1)))
          (some (.ret, st_f11_0_ret false))
          (lp_f11_0 x4 x5 x6 x8 (iadd .i64 x12 1)))))
       (none))
      (none))
     (none))
    (none))
   (none))
  (none)
noncomputable def n_f11_0 (x4 : (List Setting)) (x5 : ByteArray) (x6 : ByteArray) (x8 : (List Setting)) (x12 : Int) : Option (Exit × VS) :=
 br ((ilt x12 (llen x4)))
  (br (cIx x4 x12)
   (br ((seq ((lgt tySetting x4 (Int.toNat x12)).1) x5))
    (br (cIx x4 x12)
     (br ((seq (((lgt tySetting x4 (Int.toNat x12)).2).1) x6))
      (lp_f11_0 x4 x5 x6 x8 (iadd .i64 x12 1))
      (n_f11_0_1 x4 x5 x6 x8 x12))
     (none))
    (n_f11_0_1 x4 x5 x6 x8 x12))
   (none))
  (some (.exit 0, st_f11_0_e0))
def la_f11_0 (x4 : (List Setting)) (x5 : ByteArray) (x6 : ByteArray) (x8 : (List Setting)) (x12 : Int) : Option (Exit × VS) := br (false) (some (.ret, st_f11_0_ret (false))) <| some (.exit 0, st_f11_0_e0)
theorem be_f11_0 (x4 : (List Setting)) (x5 : ByteArray) (x6 : ByteArray) (x8 : (List Setting)) (x12 : Int) : roundF g_f11 fg_f11_0 tb_f11_0 (st_f11_0 x4 x5 x6 x8 x12) = b_f11_0 x4 x5 x6 x8 x12 := by kernel_rfl
theorem ln_f11_0 (x4 : (List Setting)) (x5 : ByteArray) (x6 : ByteArray) (x8 : (List Setting)) (x12 : Int) : lp_f11_0 x4 x5 x6 x8 x12 = n_f11_0 x4 x5 x6 x8 x12 := (loopF_nxt _ _).trans (by
 rw [be_f11_0]
 simp only [b_f11_0, b_f11_0_1, n_f11_0, n_f11_0_1, nxt_br, nxt_n, nxt_r, nxt_e, nxt_0]
 rfl)
def r_f11_1 (p0 : (List Int)) : Option (V × List VO) :=
 br ((st0 (liF (roll p0)) ((setF (liF (roll p0)) (dwdG (liN (roll p0)) ([(ByteArray.mk #[119, 101, 98]), (ByteArray.mk #[100, 98]), (ByteArray.mk #[110, 101, 119])])) (dwdG (dwdGN (liN (roll p0)) ([(ByteArray.mk #[119, 101, 98]), (ByteArray.mk #[100, 98]), (ByteArray.mk #[110, 101, 119])])) ([(ByteArray.mk #[109, 111, 115, 116]), (ByteArray.mk #[120]), (ByteArray.mk #[102, 114, 101, 115, 104])])) (dwdG (dwdGN (dwdGN (liN (roll p0)) ([(ByteArray.mk #[119, 101, 98]), (ByteArray.mk #[100, 98]), (ByteArray.mk #[110, 101, 119])])) ([(ByteArray.mk #[109, 111, 115, 116]), (ByteArray.mk #[120]), (ByteArray.mk #[102, 114, 101, 115, 104])])) ([(ByteArray.mk #[49]), (ByteArray.mk #[57, 32, 57]), (ByteArray.mk #[])]))).1) (dwdG (liN (roll p0)) ([(ByteArray.mk #[119, 101, 98]), (ByteArray.mk #[100, 98]), (ByteArray.mk #[110, 101, 119])])) (dwdG (dwdGN (liN (roll p0)) ([(ByteArray.mk #[119, 101, 98]), (ByteArray.mk #[100, 98]), (ByteArray.mk #[110, 101, 119])])) ([(ByteArray.mk #[109, 111, 115, 116]), (ByteArray.mk #[120]), (ByteArray.mk #[102, 114, 101, 115, 104])])) (0 : Int)))
  (br ((false))
   (some (.t .bool (false), []))
   (some (.t .bool awkT, [])))
  (none)
def r_f11 (p0 : (List Int)) : Option (V × List VO) :=
 br ((!(light p0)))
  (some (.t .bool awkT, []))
  (br ((dOk (roll p0)))
   (br ((wdGOk (liN (roll p0)) ([(ByteArray.mk #[119, 101, 98]), (ByteArray.mk #[100, 98]), (ByteArray.mk #[110, 101, 119])])))
    (br ((wdGOk (dwdGN (liN (roll p0)) ([(ByteArray.mk #[119, 101, 98]), (ByteArray.mk #[100, 98]), (ByteArray.mk #[110, 101, 119])])) ([(ByteArray.mk #[109, 111, 115, 116]), (ByteArray.mk #[120]), (ByteArray.mk #[102, 114, 101, 115, 104])])))
     (br ((wdGOk (dwdGN (dwdGN (liN (roll p0)) ([(ByteArray.mk #[119, 101, 98]), (ByteArray.mk #[100, 98]), (ByteArray.mk #[110, 101, 119])])) ([(ByteArray.mk #[109, 111, 115, 116]), (ByteArray.mk #[120]), (ByteArray.mk #[102, 114, 101, 115, 104])])) ([(ByteArray.mk #[49]), (ByteArray.mk #[57, 32, 57]), (ByteArray.mk #[])])))
      (br ((setOkS (liF (roll p0)) (dwdG (liN (roll p0)) ([(ByteArray.mk #[119, 101, 98]), (ByteArray.mk #[100, 98]), (ByteArray.mk #[110, 101, 119])])) (dwdG (dwdGN (liN (roll p0)) ([(ByteArray.mk #[119, 101, 98]), (ByteArray.mk #[100, 98]), (ByteArray.mk #[110, 101, 119])])) ([(ByteArray.mk #[109, 111, 115, 116]), (ByteArray.mk #[120]), (ByteArray.mk #[102, 114, 101, 115, 104])])) (dwdG (dwdGN (dwdGN (liN (roll p0)) ([(ByteArray.mk #[119, 101, 98]), (ByteArray.mk #[100, 98]), (ByteArray.mk #[110, 101, 119])])) ([(ByteArray.mk #[109, 111, 115, 116]), (ByteArray.mk #[120]), (ByteArray.mk #[102, 114, 101, 115, 104])])) ([(ByteArray.mk #[49]), (ByteArray.mk #[57, 32, 57]), (ByteArray.mk #[])]))))
       (br ((getOk ((setF (liF (roll p0)) (dwdG (liN (roll p0)) ([(ByteArray.mk #[119, 101, 98]), (ByteArray.mk #[100, 98]), (ByteArray.mk #[110, 101, 119])])) (dwdG (dwdGN (liN (roll p0)) ([(ByteArray.mk #[119, 101, 98]), (ByteArray.mk #[100, 98]), (ByteArray.mk #[110, 101, 119])])) ([(ByteArray.mk #[109, 111, 115, 116]), (ByteArray.mk #[120]), (ByteArray.mk #[102, 114, 101, 115, 104])])) (dwdG (dwdGN (dwdGN (liN (roll p0)) ([(ByteArray.mk #[119, 101, 98]), (ByteArray.mk #[100, 98]), (ByteArray.mk #[110, 101, 119])])) ([(ByteArray.mk #[109, 111, 115, 116]), (ByteArray.mk #[120]), (ByteArray.mk #[102, 114, 101, 115, 104])])) ([(ByteArray.mk #[49]), (ByteArray.mk #[57, 32, 57]), (ByteArray.mk #[])]))).1) (dwdG (liN (roll p0)) ([(ByteArray.mk #[119, 101, 98]), (ByteArray.mk #[100, 98]), (ByteArray.mk #[110, 101, 119])])) (dwdG (dwdGN (liN (roll p0)) ([(ByteArray.mk #[119, 101, 98]), (ByteArray.mk #[100, 98]), (ByteArray.mk #[110, 101, 119])])) ([(ByteArray.mk #[109, 111, 115, 116]), (ByteArray.mk #[120]), (ByteArray.mk #[102, 114, 101, 115, 104])]))))
        (br ((ine ((setF (liF (roll p0)) (dwdG (liN (roll p0)) ([(ByteArray.mk #[119, 101, 98]), (ByteArray.mk #[100, 98]), (ByteArray.mk #[110, 101, 119])])) (dwdG (dwdGN (liN (roll p0)) ([(ByteArray.mk #[119, 101, 98]), (ByteArray.mk #[100, 98]), (ByteArray.mk #[110, 101, 119])])) ([(ByteArray.mk #[109, 111, 115, 116]), (ByteArray.mk #[120]), (ByteArray.mk #[102, 114, 101, 115, 104])])) (dwdG (dwdGN (dwdGN (liN (roll p0)) ([(ByteArray.mk #[119, 101, 98]), (ByteArray.mk #[100, 98]), (ByteArray.mk #[110, 101, 119])])) ([(ByteArray.mk #[109, 111, 115, 116]), (ByteArray.mk #[120]), (ByteArray.mk #[102, 114, 101, 115, 104])])) ([(ByteArray.mk #[49]), (ByteArray.mk #[57, 32, 57]), (ByteArray.mk #[])]))).2) 0))
         (some (.t .bool false, []))
         (br ((!((getF ((setF (liF (roll p0)) (dwdG (liN (roll p0)) ([(ByteArray.mk #[119, 101, 98]), (ByteArray.mk #[100, 98]), (ByteArray.mk #[110, 101, 119])])) (dwdG (dwdGN (liN (roll p0)) ([(ByteArray.mk #[119, 101, 98]), (ByteArray.mk #[100, 98]), (ByteArray.mk #[110, 101, 119])])) ([(ByteArray.mk #[109, 111, 115, 116]), (ByteArray.mk #[120]), (ByteArray.mk #[102, 114, 101, 115, 104])])) (dwdG (dwdGN (dwdGN (liN (roll p0)) ([(ByteArray.mk #[119, 101, 98]), (ByteArray.mk #[100, 98]), (ByteArray.mk #[110, 101, 119])])) ([(ByteArray.mk #[109, 111, 115, 116]), (ByteArray.mk #[120]), (ByteArray.mk #[102, 114, 101, 115, 104])])) ([(ByteArray.mk #[49]), (ByteArray.mk #[57, 32, 57]), (ByteArray.mk #[])]))).1) (dwdG (liN (roll p0)) ([(ByteArray.mk #[119, 101, 98]), (ByteArray.mk #[100, 98]), (ByteArray.mk #[110, 101, 119])])) (dwdG (dwdGN (liN (roll p0)) ([(ByteArray.mk #[119, 101, 98]), (ByteArray.mk #[100, 98]), (ByteArray.mk #[110, 101, 119])])) ([(ByteArray.mk #[109, 111, 115, 116]), (ByteArray.mk #[120]), (ByteArray.mk #[102, 114, 101, 115, 104])]))).2)))
          (some (.t .bool false, []))
          (br ((sne ((getF ((setF (liF (roll p0)) (dwdG (liN (roll p0)) ([(ByteArray.mk #[119, 101, 98]), (ByteArray.mk #[100, 98]), (ByteArray.mk #[110, 101, 119])])) (dwdG (dwdGN (liN (roll p0)) ([(ByteArray.mk #[119, 101, 98]), (ByteArray.mk #[100, 98]), (ByteArray.mk #[110, 101, 119])])) ([(ByteArray.mk #[109, 111, 115, 116]), (ByteArray.mk #[120]), (ByteArray.mk #[102, 114, 101, 115, 104])])) (dwdG (dwdGN (dwdGN (liN (roll p0)) ([(ByteArray.mk #[119, 101, 98]), (ByteArray.mk #[100, 98]), (ByteArray.mk #[110, 101, 119])])) ([(ByteArray.mk #[109, 111, 115, 116]), (ByteArray.mk #[120]), (ByteArray.mk #[102, 114, 101, 115, 104])])) ([(ByteArray.mk #[49]), (ByteArray.mk #[57, 32, 57]), (ByteArray.mk #[])]))).1) (dwdG (liN (roll p0)) ([(ByteArray.mk #[119, 101, 98]), (ByteArray.mk #[100, 98]), (ByteArray.mk #[110, 101, 119])])) (dwdG (dwdGN (liN (roll p0)) ([(ByteArray.mk #[119, 101, 98]), (ByteArray.mk #[100, 98]), (ByteArray.mk #[110, 101, 119])])) ([(ByteArray.mk #[109, 111, 115, 116]), (ByteArray.mk #[120]), (ByteArray.mk #[102, 114, 101, 115, 104])]))).1) (dwdG (dwdGN (dwdGN (liN (roll p0)) ([(ByteArray.mk #[119, 101, 98]), (ByteArray.mk #[100, 98]), (ByteArray.mk #[110, 101, 119])])) ([(ByteArray.mk #[109, 111, 115, 116]), (ByteArray.mk #[120]), (ByteArray.mk #[102, 114, 101, 115, 104])])) ([(ByteArray.mk #[49]), (ByteArray.mk #[57, 32, 57]), (ByteArray.mk #[])]))))
           (some (.t .bool false, []))
           (br ((ine (llen ((setF (liF (roll p0)) (dwdG (liN (roll p0)) ([(ByteArray.mk #[119, 101, 98]), (ByteArray.mk #[100, 98]), (ByteArray.mk #[110, 101, 119])])) (dwdG (dwdGN (liN (roll p0)) ([(ByteArray.mk #[119, 101, 98]), (ByteArray.mk #[100, 98]), (ByteArray.mk #[110, 101, 119])])) ([(ByteArray.mk #[109, 111, 115, 116]), (ByteArray.mk #[120]), (ByteArray.mk #[102, 114, 101, 115, 104])])) (dwdG (dwdGN (dwdGN (liN (roll p0)) ([(ByteArray.mk #[119, 101, 98]), (ByteArray.mk #[100, 98]), (ByteArray.mk #[110, 101, 119])])) ([(ByteArray.mk #[109, 111, 115, 116]), (ByteArray.mk #[120]), (ByteArray.mk #[102, 114, 101, 115, 104])])) ([(ByteArray.mk #[49]), (ByteArray.mk #[57, 32, 57]), (ByteArray.mk #[])]))).1)) (llen (liF (roll p0)))))
            (br ((ine (llen ((setF (liF (roll p0)) (dwdG (liN (roll p0)) ([(ByteArray.mk #[119, 101, 98]), (ByteArray.mk #[100, 98]), (ByteArray.mk #[110, 101, 119])])) (dwdG (dwdGN (liN (roll p0)) ([(ByteArray.mk #[119, 101, 98]), (ByteArray.mk #[100, 98]), (ByteArray.mk #[110, 101, 119])])) ([(ByteArray.mk #[109, 111, 115, 116]), (ByteArray.mk #[120]), (ByteArray.mk #[102, 114, 101, 115, 104])])) (dwdG (dwdGN (dwdGN (liN (roll p0)) ([(ByteArray.mk #[119, 101, 98]), (ByteArray.mk #[100, 98]), (ByteArray.mk #[110, 101, 119])])) ([(ByteArray.mk #[109, 111, 115, 116]), (ByteArray.mk #[120]), (ByteArray.mk #[102, 114, 101, 115, 104])])) ([(ByteArray.mk #[49]), (ByteArray.mk #[57, 32, 57]), (ByteArray.mk #[])]))).1)) (iadd .i64 (llen (liF (roll p0))) 1)))
             (some (.t .bool false, []))
             (r_f11_1 p0))
            (r_f11_1 p0)))))
        (none))
       (none))
      (none))
     (none))
    (none))
   (none))
theorem e_f11 (p0 : (List Int)) : runF g_f11 tc_f11 rv_f11 false [.t (.sl tI) p0] [] = r_f11 p0 := by kernel_rfl
theorem ok_f11 : Option.map (trC Tryd.prog) Tryd.f11.body = some tc_f11.er := by kernel_rfl
theorem rok_f11 : trVs Tryd.prog Tryd.f11.results.toList = some (rv_f11.map Prod.fst) := by kernel_rfl
theorem gk_f11 : GOk Tryd.prog g_f11 := gok_of _ (by
 intro p hp
 simp only [List.mem_cons, List.not_mem_nil, or_false] at hp
 rcases hp with rfl | rfl | rfl | rfl | rfl | rfl | rfl
 ·exact ⟨en_f13, ms_f13⟩
 ·exact ⟨en_f14, ms_f14⟩
 ·exact ⟨en_f15, ms_f15⟩
 ·exact ⟨en_f28, ms_f28⟩
 ·exact ⟨en_f32, ms_f32⟩
 ·exact ⟨en_f44, ms_f44⟩
 ·exact ⟨en_f45, ms_f45⟩)
theorem get_okN {l : List Setting} {c d : ByteArray} (h : l.length ≤ 101) : getOk l c d = true := decide_eq_true (by omega)
theorem l_f11_0 (x4 : (List Setting)) (x5 : ByteArray) (x6 : ByteArray) (x8 : (List Setting)) (x12 : Int) (h : (st0 x4 x8 x5 x6 x12) = true) : lp_f11_0 x4 x5 x6 x8 x12 = la_f11_0 x4 x5 x6 x8 x12 := by
 obtain ⟨h1, h2, h3, h4, h5⟩ := cP_of h
 clear h
 obtain ⟨k, rfl⟩ := Int.eq_ofNat_of_zero_le h1
 refine range_ind x4 (fun k => lp_f11_0 x4 x5 x6 x8 (k : Int) = la_f11_0 x4 x5 x6 x8 (k : Int)) ?_ ?_ k (by omega)
 ·rw [ln_f11_0]
  simp only [n_f11_0, n_f11_0_1, la_f11_0, ilt_nat, llen, Nat.lt_irrefl, decide_false, br_false]
 ·intro k hk ih
  have hT := get_there (List.getElem_mem hk)
  have hO := h5 x4[k].1 x4[k].2.1
  rw [ln_f11_0]
  simp only [n_f11_0, n_f11_0_1, ilt_nat, llen, cIx_nat, hk, decide_true, br_true, Int.toNat_natCast, lgt_get (y := tySetting) hk, add1 (show k < 4611686018427387904 by omega), ih, la_f11_0, get_okN (show x4.length ≤ 101 by omega), get_okN h4, hT, Bool.not_true, br_false]
  cases hs : seq x4[k].1 x5 with
  | false =>
   rw [br_false, hO (fun e => by rw [e.1, seq_s] at hs; cases hs), hT, Bool.not_true, br_false, sne_s, br_false]
  | true =>
   rw [br_true]
   cases hq : seq x4[k].2.1 x6 with
   | true => rfl
   | false => rw [br_false, hO (fun e => by rw [e.2, seq_s] at hq; cases hq), hT, Bool.not_true, br_false, sne_s, br_false]
theorem lo_f11_0 : ∀ S l p, g_f11.L 0 (fgt fg_f11_0 S) = some (true, l) → pickA l = some p → loopF (roundF g_f11 fg_f11_0 tb_f11_0) S = some p :=
 lok_of (s := sh_f11_0) ⟨by decide, by decide⟩ (by kernel_rfl) fun x y hok p hp => by
 simp only [pickA_br, pickA_one] at hp
 exact (l_f11_0 x.1 x.2.1 x.2.2.1 x.2.2.2.1 x.2.2.2.2.1 (by simpa using hok)).trans hp
theorem lk_f11 : tc_f11.lok g_f11 := by
 repeat (first | exact trivial | exact lo_f11_0 | refine ⟨?_, ?_⟩)
theorem s_f11 (p0 : List Int) : r_f11 p0 = some (.t .bool (setTT p0), []) := by
 simp only [r_f11, r_f11_1]
 refine br_intro (fun _ => rfl) (fun k1 => ?_)
 have k1 : light p0 = true := by simpa using k1
 have hd := dOk_roll k1
 obtain ⟨g1, g2, g3⟩ := liF_ok hd
 rw [hd, br_true]
 have k2 : dOk (dwdGN (liN (roll p0)) sw1) = true := dOk_next g1
 have k3 : dOk (dwdGN (dwdGN (liN (roll p0)) sw1) sw2) = true := dOk_next k2
 obtain ⟨w1, z1⟩ := Bool.and_eq_true_iff.1 (dwd_all (d := liN (roll p0)) sw1_ok (by decide))
 obtain ⟨w2, z2⟩ := Bool.and_eq_true_iff.1 (dwd_all (d := dwdGN (liN (roll p0)) sw1) sw2_ok (by decide))
 obtain ⟨w3, z3⟩ := Bool.and_eq_true_iff.1 (dwd_all (d := dwdGN (dwdGN (liN (roll p0)) sw1) sw2) sw3_ok (by decide))
 refine brY (Bool.and_eq_true_iff.2 ⟨g1, by decide⟩) (brY (Bool.and_eq_true_iff.2 ⟨k2, by decide⟩) (brY (Bool.and_eq_true_iff.2 ⟨k3, by decide⟩) ?_))
 have z1 := of_decide_eq_true z1
 have z2 := of_decide_eq_true z2
 have z3 := of_decide_eq_true z3
 generalize dwdG (liN (roll p0)) sw1 = s at w1 z1 ⊢
 generalize dwdG (dwdGN (liN (roll p0)) sw1) sw2 = n at w2 z2 ⊢
 generalize dwdG (dwdGN (dwdGN (liN (roll p0)) sw1) sw2) sw3 = v at w3 z3 ⊢
 generalize liF (roll p0) = x at g2 g3 ⊢
 have hr : rgtB (newS s n v) = true := by
  unfold rgtB newS
  rw [w1, w2, w3]
  simp
 have eS : setF x s n v = (setL x s n v, 0) := by unfold setF; rw [hr]; rfl
 have hl := setL_len x s n v
 have hso : setOkS x s n v = true := Bool.and_eq_true_iff.2 ⟨decide_eq_true (by omega), Bool.and_eq_true_iff.2 ⟨decide_eq_true (by show s.size ≤ _; omega), Bool.and_eq_true_iff.2 ⟨decide_eq_true (by show n.size ≤ _; omega), decide_eq_true (by show v.size ≤ _; omega)⟩⟩⟩
 have hgo : getOk (setL x s n v) s n = true := get_okN (by omega)
 have hst : st0 x (setL x s n v) s n 0 = true := cP_in ⟨by omega, by omega, by omega, by omega, fun c d h => get_other x s n v h⟩
 rw [hso, br_true]
 simp only [eS, hgo, br_true, ine_s, br_false, get_set, Bool.not_true, sne_s, hst]
 have e2 : iadd .i64 (llen x) 1 = ((x.length + 1 : Nat) : Int) := by rw [iadd_in (by simp only [llen]; omega)]; simp only [llen]; omega
 rw [e2]
 rcases hl with hl | hl
 ·rw [show ine (llen (setL x s n v)) (llen x) = false by simp only [llen, hl, ine_s], br_false]
  rfl
 ·rw [show ine (llen (setL x s n v)) ((x.length + 1 : Nat) : Int) = false by simp only [llen, hl, ine_s], br_false]
  refine br_intro (fun _ => rfl) (fun _ => rfl)
def sp_f11 : Ent := spec (.pr (.sl tI) .nil) (fun x => true) (fun x => (.t .bool (setTT x.1)))
theorem ms_f11 : Meets Tryd.prog 11 (strip sp_f11) := by
 obtain ⟨c, hc, hi⟩ := Option.map_eq_some_iff.1 ok_f11
 exact meets_spec (R := runF g_f11 tc_f11 rv_f11 false) (meets_of (by decide) Tryd.func11 hc hi Tryd.ntmps11 rok_f11 gk_f11 lk_f11 mixed) fun x _ => (e_f11 x.1).trans (s_f11 x.1)
theorem walkSettingsSet (z0 : (List Int)) (W : World) (v0 : Value) (c0 : C noX W (fun _ => .no) (V.t (.sl tI) z0).d v0) (w0 : Ty.wf (.sl tI) z0) :
  Calls Tryd.prog 11 #[v0] W fun r w' => r = .returned (.bool true) ∧ Below W.heap.size W w' :=
 calls_true (by decide) ms_f11 (args := [.t (.sl tI) z0]) (strip_spec (x := (z0, ())) rfl (rfl)) (by simp only [V.ds, Cs]; exact ⟨_, _, rfl, c0, rfl⟩)
end
end Go.Proofs.YtkkoedniahnneaaDoor.K
