/-
 SettingsLists: all functions of lists of settings.
-/
import Derived.Test.YtkkoedniahnneaaDoorA37
import Derived.Test.YtkkoedniahnneaaDoorA32
import Derived.Test.YtkkoedniahnneaaDoorKRU
set_option linter.unusedSimpArgs false
set_option linter.unusedVariables false
namespace Go.Proofs.YtkkoedniahnneaaDoor.K
open Go.RowKit
noncomputable section
abbrev tw4 : List ByteArray := [(ByteArray.mk #[119, 101, 98]), (ByteArray.mk #[100, 98]), (ByteArray.mk #[]), (ByteArray.mk #[113])]
abbrev tw5 : List ByteArray := [(ByteArray.mk #[109, 111, 115, 116]), (ByteArray.mk #[120]), (ByteArray.mk #[110, 101, 119]), (ByteArray.mk #[97, 32, 98])]
abbrev tw6 (v : ByteArray) : List ByteArray := [(ByteArray.mk #[55]), v]
def lisT (_ : List Int) (_ : List Setting) (_ : ByteArray) : Bool := true
def lisOk (_ : List Int) (b : List Setting) (_ : ByteArray) : Bool := b.all szOk
def li0 (p q : List ByteArray) (k : Int) : Bool := cP (p = q ∧ 0 ≤ k ∧ k ≤ p.length ∧ p.length ≤ 1000)
def li1 (x1 : List Setting) (x2 : ByteArray) (x8 : List Setting) (x9 : Int) (d : Dice) : Bool := cP (dOk d = true ∧ 0 ≤ x9 ∧ x9 ≤ 2 ∧ x8.length ≤ 100 ∧ x8.all szOk = true ∧ x1.length ≤ 100 ∧ x1.all szOk = true ∧ x2.size ≤ 300)
def dr_f12_0 : List DO := [(.mk (oV 146 25) []), (.mk (oV 147 27) []), (.mk (oP 148 (.ix 1 (.t 146) (.t 147))) [0, 1]), (.mk (oL 149 148) [2]), (.mk (oV 150 26) []), (.mk (oV 151 27) []), (.mk (oP 152 (.ix 1 (.t 150) (.t 151))) [4, 5]), (.mk (oL 153 152) [6]), (.mk (oP 154 (.bin false .neq (.t 149) (.t 153))) [3, 7])]
def fg_f12_0 : Fg := ⟨[(1, some (.sl tySetting)), (2, some .str), (7, none), (9, some tI), (25, some (.sl .str)), (26, some (.sl .str)), (27, some tI)], [(43, some tyDice), (5043, none), (10043, none), (15043, none)]⟩
def tb_f12_0 : TC := (.sq (.sq (.reg [(oV 140 27), (oV 141 25), (oP 142 (.len false (.t 141))), (oP 143 (.bin false .lss (.t 140) (.t 142)))]) (.cd (.t 143) .sk (.fg ⟨[(1, some (.sl tySetting)), (2, some .str), (7, none), (9, some tI)], [(43, some tyDice), (5043, none), (10043, none), (15043, none)]⟩ (.ex 2)))) (.sq (.bk 3 (.sq (.dr dr_f12_0 [(0, []), (1, []), (2, []), (3, []), (4, []), (5, []), (6, []), (7, []), (8, [])] (.of [0, 1, 2, 3, 4, 5, 6, 7, 8])) (.cd (.t 154) (.sq (.reg [(oP 6 (.mv (cB false)))]) (.fg ⟨[(6, some .bool)], []⟩ .rt)) .sk))) (.reg [(oV 144 27), (oP 145 (.bin false .add (.t 144) (cI 1))), (oV 27 145)])))
def fg_f12_1 : Fg := ⟨[(1, some (.sl tySetting)), (2, some .str), (7, none), (8, some (.sl tySetting)), (9, some tI)], [(43, some tyDice), (5043, none), (10043, none), (15043, none)]⟩
def tb_f12_1 : TC := (.sq (.sq (.reg [(oV 46 9), (oP 47 (.bin false .lss (.t 46) (cI 2)))]) (.cd (.t 47) .sk (.fg ⟨[], []⟩ (.ex 0)))) (.sq (.bk 1 (.sq (.reg [(oV 51 8), (oC 52 26 [(.t 51)]), (oV 50 52), (oP 53 (.ext 0 (.t 50))), (oP 54 (.ext 1 (.t 50))), (oV 10 53), (oV 11 54)]) (.sq (.reg [(oV 56 8), (oC 57 27 [(.t 56)]), (oV 55 57), (oP 58 (.ext 0 (.t 55))), (oP 59 (.ext 1 (.t 55))), (oV 12 58), (oV 13 59)]) (.sq (.reg [(oV 60 7), (oM 61 (.bs 9 1 4 [(.v (.string (ByteArray.mk #[]))), (.v (.string (ByteArray.mk #[]))), (.v (.string (ByteArray.mk #[]))), (.v (.string (ByteArray.mk #[])))] [(0, 1, (.c (.v (.string (ByteArray.mk #[119, 101, 98]))))), (1, 1, (.c (.v (.string (ByteArray.mk #[100, 98]))))), (2, 1, (.c (.v (.string (ByteArray.mk #[]))))), (3, 1, (.c (.v (.string (ByteArray.mk #[113])))))])), (oC 62 32 [(.t 60), (.t 61)]), (oV 63 7), (oM 64 (.bs 9 1 4 [(.v (.string (ByteArray.mk #[]))), (.v (.string (ByteArray.mk #[]))), (.v (.string (ByteArray.mk #[]))), (.v (.string (ByteArray.mk #[])))] [(0, 1, (.c (.v (.string (ByteArray.mk #[109, 111, 115, 116]))))), (1, 1, (.c (.v (.string (ByteArray.mk #[120]))))), (2, 1, (.c (.v (.string (ByteArray.mk #[110, 101, 119]))))), (3, 1, (.c (.v (.string (ByteArray.mk #[97, 32, 98])))))])), (oC 65 32 [(.t 63), (.t 64)]), (oV 14 62), (oV 15 65)]) (.sq (.reg [(oV 67 8), (oV 68 14), (oV 69 15), (oC 70 45 [(.t 67), (.t 68), (.t 69)]), (oV 66 70), (oP 71 (.ext 0 (.t 66))), (oP 72 (.ext 1 (.t 66))), (oV 16 71), (oV 17 72)]) (.sq (.reg [(oV 74 8), (oV 75 14), (oV 76 15), (oC 77 46 [(.t 74), (.t 75), (.t 76)]), (oV 73 77), (oP 78 (.ext 0 (.t 73))), (oP 79 (.ext 1 (.t 73))), (oV 18 78), (oV 19 79)]) (.sq (.reg [(oV 80 7), (oV 81 2), (oM 82 (.bs 9 1 2 [(.v (.string (ByteArray.mk #[]))), (.v (.string (ByteArray.mk #[])))] [(0, 1, (.c (.v (.string (ByteArray.mk #[55]))))), (1, 1, (.t 81))])), (oC 83 32 [(.t 80), (.t 82)]), (oV 20 83)]) (.sq (.reg [(oV 85 8), (oV 86 14), (oV 87 15), (oV 88 20), (oC 89 44 [(.t 85), (.t 86), (.t 87), (.t 88)]), (oV 84 89), (oP 90 (.ext 0 (.t 84))), (oP 91 (.ext 1 (.t 84))), (oV 21 90), (oV 22 91)]) (.sq (.reg [(oV 93 8), (oV 94 14), (oV 95 15), (oV 96 20), (oC 97 47 [(.t 93), (.t 94), (.t 95), (.t 96)]), (oV 92 97), (oP 98 (.ext 0 (.t 92))), (oP 99 (.ext 1 (.t 92))), (oV 23 98), (oV 24 99)]) (.sq (.reg [(oV 100 8), (oC 101 48 [(.t 100)]), (oV 102 8), (oC 103 49 [(.t 102)]), (oV 25 101), (oV 26 103)]) (.sq (.sq (.reg [(oV 104 11), (oV 105 13), (oP 106 (.bin false .neq (.t 104) (.t 105))), (oV 107 106), (oQ 108 107 false (.mv (.t 10))), (oQ 109 107 false (.mv (.t 12))), (oQ 110 107 false (.bin false .neq (.t 108) (.t 109))), (oP 111 (.pick (.t 107) (cB true) (.t 110))), (oV 112 111), (oQ 113 112 false (.mv (.t 17))), (oQ 114 112 false (.mv (.t 19))), (oQ 115 112 false (.bin true .neq (.t 113) (.t 114))), (oP 116 (.pick (.t 112) (cB true) (.t 115))), (oV 117 116), (oQ 118 117 false (.mv (.t 16))), (oQ 119 117 false (.mv (.t 18))), (oQ 120 117 false (.bin false .neq (.t 118) (.t 119))), (oP 121 (.pick (.t 117) (cB true) (.t 120))), (oV 122 121), (oQ 123 122 false (.mv (.t 22))), (oQ 124 122 false (.mv (.t 24))), (oQ 125 122 false (.bin false .neq (.t 123) (.t 124))), (oP 126 (.pick (.t 122) (cB true) (.t 125))), (oV 127 126), (oQ 128 127 false (.mv (.t 21))), (oQ 129 127 false (.mv (.t 23))), (oG 130 127 false (.call 50 [(.t 128), (.t 129)])), (oQ 131 127 false (.nt (.t 130))), (oP 132 (.pick (.t 127) (cB true) (.t 131))), (oV 133 132), (oQ 134 133 false (.mv (.t 25))), (oQ 135 133 false (.len false (.t 134))), (oQ 136 133 false (.mv (.t 26))), (oQ 137 133 false (.len false (.t 136))), (oQ 138 133 false (.bin false .neq (.t 135) (.t 137))), (oP 139 (.pick (.t 133) (cB true) (.t 138)))]) (.cd (.t 139) (.sq (.reg [(oP 6 (.mv (cB false)))]) (.fg ⟨[(6, some .bool)], []⟩ .rt)) .sk)) (.sq (.sq (.reg [(oP 27 (.mv (cI 0)))]) (.bk 2 (.lp 0 fg_f12_0 tb_f12_0))) (.reg [(oV 155 1), (oV 8 155)]))))))))))))) (.reg [(oV 48 9), (oP 49 (.bin false .add (.t 48) (cI 1))), (oV 9 49)])))
def tc_f12 : TC := (.sq (.reg [(oP 6 (.mv (cB false)))]) (.sq (.sq (.reg [(oV 28 0), (oC 29 13 [(.t 28)]), (oP 30 (.nt (.t 29))), (oV 31 30), (oQ 32 31 false (.mv (.t 1))), (oQ 33 31 false (.len false (.t 32))), (oQ 34 31 false (.bin false .gtr (.t 33) (cI 100))), (oP 35 (.pick (.t 31) (cB true) (.t 34))), (oV 36 35), (oQ 37 36 false (.mv (.t 2))), (oQ 38 36 false (.len true (.t 37))), (oQ 39 36 false (.bin false .gtr (.t 38) (cI 300))), (oP 40 (.pick (.t 36) (cB true) (.t 39)))]) (.cd (.t 40) (.sq (.reg [(oC 41 14 []), (oV 6 41)]) .rt) .sk)) (.sq (.reg [(oV 42 0), (oC 43 15 [(.t 42)]), (oV 7 43)]) (.sq (.reg [(oV 44 7), (oC 45 28 [(.t 44)]), (oV 8 45)]) (.sq (.sq (.reg [(oP 9 (.mv (cI 0)))]) (.bk 0 (.lp 1 fg_f12_1 tb_f12_1))) (.sq (.reg [(oC 156 14 []), (oV 6 156)]) .rt))))))
def rv_f12 : List (RV × Option Ty) := [((.t 6), some .bool)]
abbrev sh_f12_0 : Sh := ⟨[(1, .ty (.sl tySetting)), (2, .ty .str), (7, .ptr 43 0), (9, .ty tI), (25, .ty (.sl .str)), (26, .ty (.sl .str)), (27, .ty tI)], [(43, .box tyDice), (5043, .no), (10043, .no), (15043, .no)]⟩
def st_f12_0 (x1 : (List Setting)) (x2 : ByteArray) (x9 : Int) (x25 : (List ByteArray)) (x26 : (List ByteArray)) (x27 : Int) (y43 : Dice) : VS := sh_f12_0.st (x1, x2, (), x9, x25, x26, x27, ()) (y43, (), (), (), ())
abbrev sh_f12_0_ret : Sh := ⟨[(6, .ty .bool)], []⟩
def st_f12_0_ret (x6 : Bool) : VS := sh_f12_0_ret.st (x6, ()) ()
abbrev sh_f12_0_e2 : Sh := ⟨[(1, .ty (.sl tySetting)), (2, .ty .str), (7, .ptr 43 0), (9, .ty tI)], [(43, .box tyDice), (5043, .no), (10043, .no), (15043, .no)]⟩
def st_f12_0_e2 (x1 : (List Setting)) (x2 : ByteArray) (x9 : Int) (y43 : Dice) : VS := sh_f12_0_e2.st (x1, x2, (), x9, ()) (y43, (), (), (), ())
-- loop 0: (x1 : (List Setting)) (x2 : ByteArray) (x9 : Int) (x25 : (List ByteArray)) (x26 : (List ByteArray)) (x27 : Int) (y43 : Dice); out: ('ret',) (x6 : Bool); ('exit', 2) (x1 : (List Setting)) (x2 : ByteArray) (x9 : Int) (y43 : Dice)
abbrev sh_f12_1 : Sh := ⟨[(1, .ty (.sl tySetting)), (2, .ty .str), (7, .ptr 43 0), (8, .ty (.sl tySetting)), (9, .ty tI)], [(43, .box tyDice), (5043, .no), (10043, .no), (15043, .no)]⟩
def st_f12_1 (x1 : (List Setting)) (x2 : ByteArray) (x8 : (List Setting)) (x9 : Int) (y43 : Dice) : VS := sh_f12_1.st (x1, x2, (), x8, x9, ()) (y43, (), (), (), ())
abbrev sh_f12_1_ret : Sh := ⟨[(6, .ty .bool)], []⟩
def st_f12_1_ret (x6 : Bool) : VS := sh_f12_1_ret.st (x6, ()) ()
abbrev sh_f12_1_e0 : Sh := ⟨[], []⟩
def st_f12_1_e0  : VS := sh_f12_1_e0.st () ()
-- loop 1: (x1 : (List Setting)) (x2 : ByteArray) (x8 : (List Setting)) (x9 : Int) (y43 : Dice); out: ('ret',) (x6 : Bool); ('exit', 0)
def L_f12_0 : VS → Option (Bool × List (Bool × Exit × VS)) := mkL sh_f12_0 (fun x y => (li0 x.2.2.2.2.1 x.2.2.2.2.2.1 x.2.2.2.2.2.2.1)) (fun x y => [((false), .ret, st_f12_0_ret (false)), (true, .exit 2, st_f12_0_e2 (x.1) (x.2.1) (x.2.2.2.1) (y.1))])
def L_f12_1 : VS → Option (Bool × List (Bool × Exit × VS)) := mkL sh_f12_1 (fun x y => (li1 x.1 x.2.1 x.2.2.2.1 x.2.2.2.2.1 y.1)) (fun x y => [((false), .ret, st_f12_1_ret (false)), (true, .exit 0, st_f12_1_e0)])
def g_f12 : G := ⟨TYs, [], 157, EL [(13, sp_f13), (14, sp_f14), (15, sp_f15), (26, sp_f26), (27, sp_f27), (28, sp_f28), (32, sp_f32), (44, sp_f44), (45, sp_f45), (46, sp_f46), (47, sp_f47), (48, sp_f48), (49, sp_f49), (50, sp_f50)], keeps, (Ls [L_f12_0, L_f12_1]), IL [], RL []⟩
def b_f12_0 (x1 : (List Setting)) (x2 : ByteArray) (x9 : Int) (x25 : (List ByteArray)) (x26 : (List ByteArray)) (x27 : Int) (y43 : Dice) : Option (Exit × VS) :=
 br ((ilt x27 (llen x25)))
  (br (cIx x25 x27)
   (br (cIx x26 x27)
    (br ((sne (lgt .str x25 (Int.toNat x27)) (lgt .str x26 (Int.toNat x27))))
     (some (.ret, st_f12_0_ret false))
     (some (.normal, st_f12_0 x1 x2 x9 x25 x26 (iadd .i64 x27 1) y43)))
    (none))
   (none))
  (some (.exit 2, st_f12_0_e2 x1 x2 x9 y43))
noncomputable def lp_f12_0 (x1 : (List Setting)) (x2 : ByteArray) (x9 : Int) (x25 : (List ByteArray)) (x26 : (List ByteArray)) (x27 : Int) (y43 : Dice) : Option (Exit × VS) := loopF (roundF g_f12 fg_f12_0 tb_f12_0) (st_f12_0 x1 x2 x9 x25 x26 x27 y43)
noncomputable def n_f12_0 (x1 : (List Setting)) (x2 : ByteArray) (x9 : Int) (x25 : (List ByteArray)) (x26 : (List ByteArray)) (x27 : Int) (y43 : Dice) : Option (Exit × VS) :=
 br ((ilt x27 (llen x25)))
  (br (cIx x25 x27)
   (br (cIx x26 x27)
    (br ((sne (lgt .str x25 (Int.toNat x27)) (lgt .str x26 (Int.toNat x27))))
     (some (.ret, st_f12_0_ret false))
     (lp_f12_0 x1 x2 x9 x25 x26 (iadd .i64 x27 1) y43))
    (none))
   (none))
  (some (.exit 2, st_f12_0_e2 x1 x2 x9 y43))
def la_f12_0 (x1 : (List Setting)) (x2 : ByteArray) (x9 : Int) (x25 : (List ByteArray)) (x26 : (List ByteArray)) (x27 : Int) (y43 : Dice) : Option (Exit × VS) := br (false) (some (.ret, st_f12_0_ret (false))) <| some (.exit 2, st_f12_0_e2 (x1) (x2) (x9) (y43))
theorem be_f12_0 (x1 : (List Setting)) (x2 : ByteArray) (x9 : Int) (x25 : (List ByteArray)) (x26 : (List ByteArray)) (x27 : Int) (y43 : Dice) : roundF g_f12 fg_f12_0 tb_f12_0 (st_f12_0 x1 x2 x9 x25 x26 x27 y43) = b_f12_0 x1 x2 x9 x25 x26 x27 y43 := by kernel_rfl
theorem ln_f12_0 (x1 : (List Setting)) (x2 : ByteArray) (x9 : Int) (x25 : (List ByteArray)) (x26 : (List ByteArray)) (x27 : Int) (y43 : Dice) : lp_f12_0 x1 x2 x9 x25 x26 x27 y43 = n_f12_0 x1 x2 x9 x25 x26 x27 y43 := (loopF_nxt _ _).trans (by
 rw [be_f12_0]
 simp only [b_f12_0, n_f12_0, nxt_br, nxt_n, nxt_r, nxt_e, nxt_0]
 rfl)
def b_f12_1 (x1 : (List Setting)) (x2 : ByteArray) (x8 : (List Setting)) (x9 : Int) (y43 : Dice) : Option (Exit × VS) :=
 br ((ilt x9 2))
  (br ((prOk x8))
   (br ((prOk x8))
    (br ((wdGOk y43 ([(ByteArray.mk #[119, 101, 98]), (ByteArray.mk #[100, 98]), (ByteArray.mk #[]), (ByteArray.mk #[113])])))
     (br ((wdGOk (dwdGN y43 ([(ByteArray.mk #[119, 101, 98]), (ByteArray.mk #[100, 98]), (ByteArray.mk #[]), (ByteArray.mk #[113])])) ([(ByteArray.mk #[109, 111, 115, 116]), (ByteArray.mk #[120]), (ByteArray.mk #[110, 101, 119]), (ByteArray.mk #[97, 32, 98])])))
      (br ((getOk x8 (dwdG y43 ([(ByteArray.mk #[119, 101, 98]), (ByteArray.mk #[100, 98]), (ByteArray.mk #[]), (ByteArray.mk #[113])])) (dwdG (dwdGN y43 ([(ByteArray.mk #[119, 101, 98]), (ByteArray.mk #[100, 98]), (ByteArray.mk #[]), (ByteArray.mk #[113])])) ([(ByteArray.mk #[109, 111, 115, 116]), (ByteArray.mk #[120]), (ByteArray.mk #[110, 101, 119]), (ByteArray.mk #[97, 32, 98])]))))
       (br ((getOk x8 (dwdG y43 ([(ByteArray.mk #[119, 101, 98]), (ByteArray.mk #[100, 98]), (ByteArray.mk #[]), (ByteArray.mk #[113])])) (dwdG (dwdGN y43 ([(ByteArray.mk #[119, 101, 98]), (ByteArray.mk #[100, 98]), (ByteArray.mk #[]), (ByteArray.mk #[113])])) ([(ByteArray.mk #[109, 111, 115, 116]), (ByteArray.mk #[120]), (ByteArray.mk #[110, 101, 119]), (ByteArray.mk #[97, 32, 98])]))))
        (br ((wdGOk (dwdGN (dwdGN y43 ([(ByteArray.mk #[119, 101, 98]), (ByteArray.mk #[100, 98]), (ByteArray.mk #[]), (ByteArray.mk #[113])])) ([(ByteArray.mk #[109, 111, 115, 116]), (ByteArray.mk #[120]), (ByteArray.mk #[110, 101, 119]), (ByteArray.mk #[97, 32, 98])])) ([(ByteArray.mk #[55]), x2])))
         (br ((setOkS x8 (dwdG y43 ([(ByteArray.mk #[119, 101, 98]), (ByteArray.mk #[100, 98]), (ByteArray.mk #[]), (ByteArray.mk #[113])])) (dwdG (dwdGN y43 ([(ByteArray.mk #[119, 101, 98]), (ByteArray.mk #[100, 98]), (ByteArray.mk #[]), (ByteArray.mk #[113])])) ([(ByteArray.mk #[109, 111, 115, 116]), (ByteArray.mk #[120]), (ByteArray.mk #[110, 101, 119]), (ByteArray.mk #[97, 32, 98])])) (dwdG (dwdGN (dwdGN y43 ([(ByteArray.mk #[119, 101, 98]), (ByteArray.mk #[100, 98]), (ByteArray.mk #[]), (ByteArray.mk #[113])])) ([(ByteArray.mk #[109, 111, 115, 116]), (ByteArray.mk #[120]), (ByteArray.mk #[110, 101, 119]), (ByteArray.mk #[97, 32, 98])])) ([(ByteArray.mk #[55]), x2]))))
          (br ((setOkF x8 (dwdG y43 ([(ByteArray.mk #[119, 101, 98]), (ByteArray.mk #[100, 98]), (ByteArray.mk #[]), (ByteArray.mk #[113])])) (dwdG (dwdGN y43 ([(ByteArray.mk #[119, 101, 98]), (ByteArray.mk #[100, 98]), (ByteArray.mk #[]), (ByteArray.mk #[113])])) ([(ByteArray.mk #[109, 111, 115, 116]), (ByteArray.mk #[120]), (ByteArray.mk #[110, 101, 119]), (ByteArray.mk #[97, 32, 98])])) (dwdG (dwdGN (dwdGN y43 ([(ByteArray.mk #[119, 101, 98]), (ByteArray.mk #[100, 98]), (ByteArray.mk #[]), (ByteArray.mk #[113])])) ([(ByteArray.mk #[109, 111, 115, 116]), (ByteArray.mk #[120]), (ByteArray.mk #[110, 101, 119]), (ByteArray.mk #[97, 32, 98])])) ([(ByteArray.mk #[55]), x2]))))
           (br ((secOk x8))
            (br ((secOk x8))
             (br ((ine ((prnF x8).2) ((prnF x8).2)))
              (some (.ret, st_f12_1_ret false))
              (br ((sne ((prnF x8).1) ((prnF x8).1)))
               (some (.ret, st_f12_1_ret false))
               (br ((bneq ((getF x8 (dwdG y43 ([(ByteArray.mk #[119, 101, 98]), (ByteArray.mk #[100, 98]), (ByteArray.mk #[]), (ByteArray.mk #[113])])) (dwdG (dwdGN y43 ([(ByteArray.mk #[119, 101, 98]), (ByteArray.mk #[100, 98]), (ByteArray.mk #[]), (ByteArray.mk #[113])])) ([(ByteArray.mk #[109, 111, 115, 116]), (ByteArray.mk #[120]), (ByteArray.mk #[110, 101, 119]), (ByteArray.mk #[97, 32, 98])]))).2) ((getF x8 (dwdG y43 ([(ByteArray.mk #[119, 101, 98]), (ByteArray.mk #[100, 98]), (ByteArray.mk #[]), (ByteArray.mk #[113])])) (dwdG (dwdGN y43 ([(ByteArray.mk #[119, 101, 98]), (ByteArray.mk #[100, 98]), (ByteArray.mk #[]), (ByteArray.mk #[113])])) ([(ByteArray.mk #[109, 111, 115, 116]), (ByteArray.mk #[120]), (ByteArray.mk #[110, 101, 119]), (ByteArray.mk #[97, 32, 98])]))).2)))
                (some (.ret, st_f12_1_ret false))
                (br ((sne ((getF x8 (dwdG y43 ([(ByteArray.mk #[119, 101, 98]), (ByteArray.mk #[100, 98]), (ByteArray.mk #[]), (ByteArray.mk #[113])])) (dwdG (dwdGN y43 ([(ByteArray.mk #[119, 101, 98]), (ByteArray.mk #[100, 98]), (ByteArray.mk #[]), (ByteArray.mk #[113])])) ([(ByteArray.mk #[109, 111, 115, 116]), (ByteArray.mk #[120]), (ByteArray.mk #[110, 101, 119]), (ByteArray.mk #[97, 32, 98])]))).1) ((getF x8 (dwdG y43 ([(ByteArray.mk #[119, 101, 98]), (ByteArray.mk #[100, 98]), (ByteArray.mk #[]), (ByteArray.mk #[113])])) (dwdG (dwdGN y43 ([(ByteArray.mk #[119, 101, 98]), (ByteArray.mk #[100, 98]), (ByteArray.mk #[]), (ByteArray.mk #[113])])) ([(ByteArray.mk #[109, 111, 115, 116]), (ByteArray.mk #[120]), (ByteArray.mk #[110, 101, 119]), (ByteArray.mk #[97, 32, 98])]))).1)))
                 (some (.ret, st_f12_1_ret false))
                 (br ((ine ((setF x8 (dwdG y43 ([(ByteArray.mk #[119, 101, 98]), (ByteArray.mk #[100, 98]), (ByteArray.mk #[]), (ByteArray.mk #[113])])) (dwdG (dwdGN y43 ([(ByteArray.mk #[119, 101, 98]), (ByteArray.mk #[100, 98]), (ByteArray.mk #[]), (ByteArray.mk #[113])])) ([(ByteArray.mk #[109, 111, 115, 116]), (ByteArray.mk #[120]), (ByteArray.mk #[110, 101, 119]), (ByteArray.mk #[97, 32, 98])])) (dwdG (dwdGN (dwdGN y43 ([(ByteArray.mk #[119, 101, 98]), (ByteArray.mk #[100, 98]), (ByteArray.mk #[]), (ByteArray.mk #[113])])) ([(ByteArray.mk #[109, 111, 115, 116]), (ByteArray.mk #[120]), (ByteArray.mk #[110, 101, 119]), (ByteArray.mk #[97, 32, 98])])) ([(ByteArray.mk #[55]), x2]))).2) ((setF x8 (dwdG y43 ([(ByteArray.mk #[119, 101, 98]), (ByteArray.mk #[100, 98]), (ByteArray.mk #[]), (ByteArray.mk #[113])])) (dwdG (dwdGN y43 ([(ByteArray.mk #[119, 101, 98]), (ByteArray.mk #[100, 98]), (ByteArray.mk #[]), (ByteArray.mk #[113])])) ([(ByteArray.mk #[109, 111, 115, 116]), (ByteArray.mk #[120]), (ByteArray.mk #[110, 101, 119]), (ByteArray.mk #[97, 32, 98])])) (dwdG (dwdGN (dwdGN y43 ([(ByteArray.mk #[119, 101, 98]), (ByteArray.mk #[100, 98]), (ByteArray.mk #[]), (ByteArray.mk #[113])])) ([(ByteArray.mk #[109, 111, 115, 116]), (ByteArray.mk #[120]), (ByteArray.mk #[110, 101, 119]), (ByteArray.mk #[97, 32, 98])])) ([(ByteArray.mk #[55]), x2]))).2)))
                  (some (.ret, st_f12_1_ret false))
                  (br ((smSeOk ((setF x8 (dwdG y43 ([(ByteArray.mk #[119, 101, 98]), (ByteArray.mk #[100, 98]), (ByteArray.mk #[]), (ByteArray.mk #[113])])) (dwdG (dwdGN y43 ([(ByteArray.mk #[119, 101, 98]), (ByteArray.mk #[100, 98]), (ByteArray.mk #[]), (ByteArray.mk #[113])])) ([(ByteArray.mk #[109, 111, 115, 116]), (ByteArray.mk #[120]), (ByteArray.mk #[110, 101, 119]), (ByteArray.mk #[97, 32, 98])])) (dwdG (dwdGN (dwdGN y43 ([(ByteArray.mk #[119, 101, 98]), (ByteArray.mk #[100, 98]), (ByteArray.mk #[]), (ByteArray.mk #[113])])) ([(ByteArray.mk #[109, 111, 115, 116]), (ByteArray.mk #[120]), (ByteArray.mk #[110, 101, 119]), (ByteArray.mk #[97, 32, 98])])) ([(ByteArray.mk #[55]), x2]))).1) ((setF x8 (dwdG y43 ([(ByteArray.mk #[119, 101, 98]), (ByteArray.mk #[100, 98]), (ByteArray.mk #[]), (ByteArray.mk #[113])])) (dwdG (dwdGN y43 ([(ByteArray.mk #[119, 101, 98]), (ByteArray.mk #[100, 98]), (ByteArray.mk #[]), (ByteArray.mk #[113])])) ([(ByteArray.mk #[109, 111, 115, 116]), (ByteArray.mk #[120]), (ByteArray.mk #[110, 101, 119]), (ByteArray.mk #[97, 32, 98])])) (dwdG (dwdGN (dwdGN y43 ([(ByteArray.mk #[119, 101, 98]), (ByteArray.mk #[100, 98]), (ByteArray.mk #[]), (ByteArray.mk #[113])])) ([(ByteArray.mk #[109, 111, 115, 116]), (ByteArray.mk #[120]), (ByteArray.mk #[110, 101, 119]), (ByteArray.mk #[97, 32, 98])])) ([(ByteArray.mk #[55]), x2]))).1)))
                   (br ((!(smSe ((setF x8 (dwdG y43 ([(ByteArray.mk #[119, 101, 98]), (ByteArray.mk #[100, 98]), (ByteArray.mk #[]), (ByteArray.mk #[113])])) (dwdG (dwdGN y43 ([(ByteArray.mk #[119, 101, 98]), (ByteArray.mk #[100, 98]), (ByteArray.mk #[]), (ByteArray.mk #[113])])) ([(ByteArray.mk #[109, 111, 115, 116]), (ByteArray.mk #[120]), (ByteArray.mk #[110, 101, 119]), (ByteArray.mk #[97, 32, 98])])) (dwdG (dwdGN (dwdGN y43 ([(ByteArray.mk #[119, 101, 98]), (ByteArray.mk #[100, 98]), (ByteArray.mk #[]), (ByteArray.mk #[113])])) ([(ByteArray.mk #[109, 111, 115, 116]), (ByteArray.mk #[120]), (ByteArray.mk #[110, 101, 119]), (ByteArray.mk #[97, 32, 98])])) ([(ByteArray.mk #[55]), x2]))).1) ((setF x8 (dwdG y43 ([(ByteArray.mk #[119, 101, 98]), (ByteArray.mk #[100, 98]), (ByteArray.mk #[]), (ByteArray.mk #[113])])) (dwdG (dwdGN y43 ([(ByteArray.mk #[119, 101, 98]), (ByteArray.mk #[100, 98]), (ByteArray.mk #[]), (ByteArray.mk #[113])])) ([(ByteArray.mk #[109, 111, 115, 116]), (ByteArray.mk #[120]), (ByteArray.mk #[110, 101, 119]), (ByteArray.mk #[97, 32, 98])])) (dwdG (dwdGN (dwdGN y43 ([(ByteArray.mk #[119, 101, 98]), (ByteArray.mk #[100, 98]), (ByteArray.mk #[]), (ByteArray.mk #[113])])) ([(ByteArray.mk #[109, 111, 115, 116]), (ByteArray.mk #[120]), (ByteArray.mk #[110, 101, 119]), (ByteArray.mk #[97, 32, 98])])) ([(ByteArray.mk #[55]), x2]))).1))))
                    (some (.ret, st_f12_1_ret false))
                    (br ((ine (llen (secF x8)) (llen (secF x8))))
                     (some (.ret, st_f12_1_ret false))
                     (br ((li0 (secF x8) (secF x8) (0 : Int)))
                      (br ((false))
                       (some (.ret, st_f12_1_ret (false)))
                       (some (.normal, st_f12_1 (x1) (x2) (x1) (iadd .i64 (x9) 1) ((dwdGN (dwdGN (dwdGN y43 ([(ByteArray.mk #[119, 101, 98]), (ByteArray.mk #[100, 98]), (ByteArray.mk #[]), (ByteArray.mk #[113])])) ([(ByteArray.mk #[109, 111, 115, 116]), (ByteArray.mk #[120]), (ByteArray.mk #[110, 101, 119]), (ByteArray.mk #[97, 32, 98])])) ([(ByteArray.mk #[55]), x2]))))))
                      (none))))
                   (none)))))))
             (none))
            (none))
           (none))
          (none))
         (none))
        (none))
       (none))
      (none))
     (none))
    (none))
   (none))
  (some (.exit 0, st_f12_1_e0))
noncomputable def lp_f12_1 (x1 : (List Setting)) (x2 : ByteArray) (x8 : (List Setting)) (x9 : Int) (y43 : Dice) : Option (Exit × VS) := loopF (roundF g_f12 fg_f12_1 tb_f12_1) (st_f12_1 x1 x2 x8 x9 y43)
noncomputable def n_f12_1 (x1 : (List Setting)) (x2 : ByteArray) (x8 : (List Setting)) (x9 : Int) (y43 : Dice) : Option (Exit × VS) :=
 br ((ilt x9 2))
  (br ((prOk x8))
   (br ((prOk x8))
    (br ((wdGOk y43 ([(ByteArray.mk #[119, 101, 98]), (ByteArray.mk #[100, 98]), (ByteArray.mk #[]), (ByteArray.mk #[113])])))
     (br ((wdGOk (dwdGN y43 ([(ByteArray.mk #[119, 101, 98]), (ByteArray.mk #[100, 98]), (ByteArray.mk #[]), (ByteArray.mk #[113])])) ([(ByteArray.mk #[109, 111, 115, 116]), (ByteArray.mk #[120]), (ByteArray.mk #[110, 101, 119]), (ByteArray.mk #[97, 32, 98])])))
      (br ((getOk x8 (dwdG y43 ([(ByteArray.mk #[119, 101, 98]), (ByteArray.mk #[100, 98]), (ByteArray.mk #[]), (ByteArray.mk #[113])])) (dwdG (dwdGN y43 ([(ByteArray.mk #[119, 101, 98]), (ByteArray.mk #[100, 98]), (ByteArray.mk #[]), (ByteArray.mk #[113])])) ([(ByteArray.mk #[109, 111, 115, 116]), (ByteArray.mk #[120]), (ByteArray.mk #[110, 101, 119]), (ByteArray.mk #[97, 32, 98])]))))
       (br ((getOk x8 (dwdG y43 ([(ByteArray.mk #[119, 101, 98]), (ByteArray.mk #[100, 98]), (ByteArray.mk #[]), (ByteArray.mk #[113])])) (dwdG (dwdGN y43 ([(ByteArray.mk #[119, 101, 98]), (ByteArray.mk #[100, 98]), (ByteArray.mk #[]), (ByteArray.mk #[113])])) ([(ByteArray.mk #[109, 111, 115, 116]), (ByteArray.mk #[120]), (ByteArray.mk #[110, 101, 119]), (ByteArray.mk #[97, 32, 98])]))))
        (br ((wdGOk (dwdGN (dwdGN y43 ([(ByteArray.mk #[119, 101, 98]), (ByteArray.mk #[100, 98]), (ByteArray.mk #[]), (ByteArray.mk #[113])])) ([(ByteArray.mk #[109, 111, 115, 116]), (ByteArray.mk #[120]), (ByteArray.mk #[110, 101, 119]), (ByteArray.mk #[97, 32, 98])])) ([(ByteArray.mk #[55]), x2])))
         (br ((setOkS x8 (dwdG y43 ([(ByteArray.mk #[119, 101, 98]), (ByteArray.mk #[100, 98]), (ByteArray.mk #[]), (ByteArray.mk #[113])])) (dwdG (dwdGN y43 ([(ByteArray.mk #[119, 101, 98]), (ByteArray.mk #[100, 98]), (ByteArray.mk #[]), (ByteArray.mk #[113])])) ([(ByteArray.mk #[109, 111, 115, 116]), (ByteArray.mk #[120]), (ByteArray.mk #[110, 101, 119]), (ByteArray.mk #[97, 32, 98])])) (dwdG (dwdGN (dwdGN y43 ([(ByteArray.mk #[119, 101, 98]), (ByteArray.mk #[100, 98]), (ByteArray.mk #[]), (ByteArray.mk #[113])])) ([(ByteArray.mk #[109, 111, 115, 116]), (ByteArray.mk #[120]), (ByteArray.mk #[110, 101, 119]), (ByteArray.mk #[97, 32, 98])])) ([(ByteArray.mk #[55]), x2]))))
          (br ((setOkF x8 (dwdG y43 ([(ByteArray.mk #[119, 101, 98]), (ByteArray.mk #[100, 98]), (ByteArray.mk #[]), (ByteArray.mk #[113])])) (dwdG (dwdGN y43 ([(ByteArray.mk #[119, 101, 98]), (ByteArray.mk #[100, 98]), (ByteArray.mk #[]), (ByteArray.mk #[113])])) ([(ByteArray.mk #[109, 111, 115, 116]), (ByteArray.mk #[120]), (ByteArray.mk #[110, 101, 119]), (ByteArray.mk #[97, 32, 98])])) (dwdG (dwdGN (dwdGN y43 ([(ByteArray.mk #[119, 101, 98]), (ByteArray.mk #[100, 98]), (ByteArray.mk #[]), (ByteArray.mk #[113])])) ([(ByteArray.mk #[109, 111, 115, 116]), (ByteArray.mk #[120]), (ByteArray.mk #[110, 101, 119]), (ByteArray.mk #[97, 32, 98])])) ([(ByteArray.mk #[55]), x2]))))
           (br ((secOk x8))
            (br ((secOk x8))
             (br ((ine ((prnF x8).2) ((prnF x8).2)))
              (some (.ret, st_f12_1_ret false))
              (br ((sne ((prnF x8).1) ((prnF x8).1)))
               (some (.ret, st_f12_1_ret false))
               (br ((bneq ((getF x8 (dwdG y43 ([(ByteArray.mk #[119, 101, 98]), (ByteArray.mk #[100, 98]), (ByteArray.mk #[]), (ByteArray.mk #[113])])) (dwdG (dwdGN y43 ([(ByteArray.mk #[119, 101, 98]), (ByteArray.mk #[100, 98]), (ByteArray.mk #[]), (ByteArray.mk #[113])])) ([(ByteArray.mk #[109, 111, 115, 116]), (ByteArray.mk #[120]), (ByteArray.mk #[110, 101, 119]), (ByteArray.mk #[97, 32, 98])]))).2) ((getF x8 (dwdG y43 ([(ByteArray.mk #[119, 101, 98]), (ByteArray.mk #[100, 98]), (ByteArray.mk #[]), (ByteArray.mk #[113])])) (dwdG (dwdGN y43 ([(ByteArray.mk #[119, 101, 98]), (ByteArray.mk #[100, 98]), (ByteArray.mk #[]), (ByteArray.mk #[113])])) ([(ByteArray.mk #[109, 111, 115, 116]), (ByteArray.mk #[120]), (ByteArray.mk #[110, 101, 119]), (ByteArray.mk #[97, 32, 98])]))).2)))
                (some (.ret, st_f12_1_ret false))
                (br ((sne ((getF x8 (dwdG y43 ([(ByteArray.mk #[119, 101, 98]), (ByteArray.mk #[100, 98]), (ByteArray.mk #[]), (ByteArray.mk #[113])])) (dwdG (dwdGN y43 ([(ByteArray.mk #[119, 101, 98]), (ByteArray.mk #[100, 98]), (ByteArray.mk #[]), (ByteArray.mk #[113])])) ([(ByteArray.mk #[109, 111, 115, 116]), (ByteArray.mk #[120]), (ByteArray.mk #[110, 101, 119]), (ByteArray.mk #[97, 32, 98])]))).1) ((getF x8 (dwdG y43 ([(ByteArray.mk #[119, 101, 98]), (ByteArray.mk #[100, 98]), (ByteArray.mk #[]), (ByteArray.mk #[113])])) (dwdG (dwdGN y43 ([(ByteArray.mk #[119, 101, 98]), (ByteArray.mk #[100, 98]), (ByteArray.mk #[]), (ByteArray.mk #[113])])) ([(ByteArray.mk #[109, 111, 115, 116]), (ByteArray.mk #[120]), (ByteArray.mk #[110, 101, 119]), (ByteArray.mk #[97, 32, 98])]))).1)))
                 (some (.ret, st_f12_1_ret false))
                 (br ((ine ((setF x8 (dwdG y43 ([(ByteArray.mk #[119, 101, 98]), (ByteArray.mk #[100, 98]), (ByteArray.mk #[]), (ByteArray.mk #[113])])) (dwdG (dwdGN y43 ([(ByteArray.mk #[119, 101, 98]), (ByteArray.mk #[100, 98]), (ByteArray.mk #[]), (ByteArray.mk #[113])])) ([(ByteArray.mk #[109, 111, 115, 116]), (ByteArray.mk #[120]), (ByteArray.mk #[110, 101, 119]), (ByteArray.mk #[97, 32, 98])])) (dwdG (dwdGN (dwdGN y43 ([(ByteArray.mk #[119, 101, 98]), (ByteArray.mk #[100, 98]), (ByteArray.mk #[]), (ByteArray.mk #[113])])) ([(ByteArray.mk #[109, 111, 115, 116]), (ByteArray.mk #[120]), (ByteArray.mk #[110, 101, 119]), (ByteArray.mk #[97, 32, 98])])) ([(ByteArray.mk #[55]), x2]))).2) ((setF x8 (dwdG y43 ([(ByteArray.mk #[119, 101, 98]), (ByteArray.mk #[100, 98]), (ByteArray.mk #[]), (ByteArray.mk #[113])])) (dwdG (dwdGN y43 ([(ByteArray.mk #[119, 101, 98]), (ByteArray.mk #[100, 98]), (ByteArray.mk #[]), (ByteArray.mk #[113])])) ([(ByteArray.mk #[109, 111, 115, 116]), (ByteArray.mk #[120]), (ByteArray.mk #[110, 101, 119]), (ByteArray.mk #[97, 32, 98])])) (dwdG (dwdGN (dwdGN y43 ([(ByteArray.mk #[119, 101, 98]), (ByteArray.mk #[100, 98]), (ByteArray.mk #[]), (ByteArray.mk #[113])])) ([(ByteArray.mk #[109, 111, 115, 116]), (ByteArray.mk #[120]), (ByteArray.mk #[110, 101, 119]), (ByteArray.mk #[97, 32, 98])])) ([(ByteArray.mk #[55]), x2]))).2)))
                  (some (.ret, st_f12_1_ret false))
                  (br ((smSeOk ((setF x8 (dwdG y43 ([(ByteArray.mk #[119, 101, 98]), (ByteArray.mk #[100, 98]), (ByteArray.mk #[]), (ByteArray.mk #[113])])) (dwdG (dwdGN y43 ([(ByteArray.mk #[119, 101, 98]), (ByteArray.mk #[100, 98]), (ByteArray.mk #[]), (ByteArray.mk #[113])])) ([(ByteArray.mk #[109, 111, 115, 116]), (ByteArray.mk #[120]), (ByteArray.mk #[110, 101, 119]), (ByteArray.mk #[97, 32, 98])])) (dwdG (dwdGN (dwdGN y43 ([(ByteArray.mk #[119, 101, 98]), (ByteArray.mk #[100, 98]), (ByteArray.mk #[]), (ByteArray.mk #[113])])) ([(ByteArray.mk #[109, 111, 115, 116]), (ByteArray.mk #[120]), (ByteArray.mk #[110, 101, 119]), (ByteArray.mk #[97, 32, 98])])) ([(ByteArray.mk #[55]), x2]))).1) ((setF x8 (dwdG y43 ([(ByteArray.mk #[119, 101, 98]), (ByteArray.mk #[100, 98]), (ByteArray.mk #[]), (ByteArray.mk #[113])])) (dwdG (dwdGN y43 ([(ByteArray.mk #[119, 101, 98]), (ByteArray.mk #[100, 98]), (ByteArray.mk #[]), (ByteArray.mk #[113])])) ([(ByteArray.mk #[109, 111, 115, 116]), (ByteArray.mk #[120]), (ByteArray.mk #[110, 101, 119]), (ByteArray.mk #[97, 32, 98])])) (dwdG (dwdGN (dwdGN y43 ([(ByteArray.mk #[119, 101, 98]), (ByteArray.mk #[100, 98]), (ByteArray.mk #[]), (ByteArray.mk #[113])])) ([(ByteArray.mk #[109, 111, 115, 116]), (ByteArray.mk #[120]), (ByteArray.mk #[110, 101, 119]), (ByteArray.mk #[97, 32, 98])])) ([(ByteArray.mk #[55]), x2]))).1)))
                   (br ((!(smSe ((setF x8 (dwdG y43 ([(ByteArray.mk #[119, 101, 98]), (ByteArray.mk #[100, 98]), (ByteArray.mk #[]), (ByteArray.mk #[113])])) (dwdG (dwdGN y43 ([(ByteArray.mk #[119, 101, 98]), (ByteArray.mk #[100, 98]), (ByteArray.mk #[]), (ByteArray.mk #[113])])) ([(ByteArray.mk #[109, 111, 115, 116]), (ByteArray.mk #[120]), (ByteArray.mk #[110, 101, 119]), (ByteArray.mk #[97, 32, 98])])) (dwdG (dwdGN (dwdGN y43 ([(ByteArray.mk #[119, 101, 98]), (ByteArray.mk #[100, 98]), (ByteArray.mk #[]), (ByteArray.mk #[113])])) ([(ByteArray.mk #[109, 111, 115, 116]), (ByteArray.mk #[120]), (ByteArray.mk #[110, 101, 119]), (ByteArray.mk #[97, 32, 98])])) ([(ByteArray.mk #[55]), x2]))).1) ((setF x8 (dwdG y43 ([(ByteArray.mk #[119, 101, 98]), (ByteArray.mk #[100, 98]), (ByteArray.mk #[]), (ByteArray.mk #[113])])) (dwdG (dwdGN y43 ([(ByteArray.mk #[119, 101, 98]), (ByteArray.mk #[100, 98]), (ByteArray.mk #[]), (ByteArray.mk #[113])])) ([(ByteArray.mk #[109, 111, 115, 116]), (ByteArray.mk #[120]), (ByteArray.mk #[110, 101, 119]), (ByteArray.mk #[97, 32, 98])])) (dwdG (dwdGN (dwdGN y43 ([(ByteArray.mk #[119, 101, 98]), (ByteArray.mk #[100, 98]), (ByteArray.mk #[]), (ByteArray.mk #[113])])) ([(ByteArray.mk #[109, 111, 115, 116]), (ByteArray.mk #[120]), (ByteArray.mk #[110, 101, 119]), (ByteArray.mk #[97, 32, 98])])) ([(ByteArray.mk #[55]), x2]))).1))))
                    (some (.ret, st_f12_1_ret false))
                    (br ((ine (llen (secF x8)) (llen (secF x8))))
                     (some (.ret, st_f12_1_ret false))
                     (br ((li0 (secF x8) (secF x8) (0 : Int)))
                      (br ((false))
                       (some (.ret, st_f12_1_ret (false)))
                       (lp_f12_1 (x1) (x2) (x1) (iadd .i64 (x9) 1) ((dwdGN (dwdGN (dwdGN y43 ([(ByteArray.mk #[119, 101, 98]), (ByteArray.mk #[100, 98]), (ByteArray.mk #[]), (ByteArray.mk #[113])])) ([(ByteArray.mk #[109, 111, 115, 116]), (ByteArray.mk #[120]), (ByteArray.mk #[110, 101, 119]), (ByteArray.mk #[97, 32, 98])])) ([(ByteArray.mk #[55]), x2])))))
                      (none))))
                   (none)))))))
             (none))
            (none))
           (none))
          (none))
         (none))
        (none))
       (none))
      (none))
     (none))
    (none))
   (none))
  (some (.exit 0, st_f12_1_e0))
def la_f12_1 (x1 : (List Setting)) (x2 : ByteArray) (x8 : (List Setting)) (x9 : Int) (y43 : Dice) : Option (Exit × VS) := br (false) (some (.ret, st_f12_1_ret (false))) <| some (.exit 0, st_f12_1_e0)
theorem be_f12_1 (x1 : (List Setting)) (x2 : ByteArray) (x8 : (List Setting)) (x9 : Int) (y43 : Dice) : roundF g_f12 fg_f12_1 tb_f12_1 (st_f12_1 x1 x2 x8 x9 y43) = b_f12_1 x1 x2 x8 x9 y43 := by kernel_rfl
theorem ln_f12_1 (x1 : (List Setting)) (x2 : ByteArray) (x8 : (List Setting)) (x9 : Int) (y43 : Dice) : lp_f12_1 x1 x2 x8 x9 y43 = n_f12_1 x1 x2 x8 x9 y43 := (loopF_nxt _ _).trans (by
 rw [be_f12_1]
 simp only [b_f12_1, n_f12_1, nxt_br, nxt_n, nxt_r, nxt_e, nxt_0]
 rfl)
def r_f12 (p0 : (List Int)) (p1 : (List Setting)) (p2 : ByteArray) : Option (V × List VO) :=
 br ((!(light p0)))
  (some (.t .bool awkT, []))
  (br ((igt (llen p1) 100))
   (some (.t .bool awkT, []))
   (br ((igt (slen p2) 300))
    (some (.t .bool awkT, []))
    (br ((dOk (roll p0)))
     (br ((li1 p1 p2 (liF (roll p0)) (0 : Int) (liN (roll p0))))
      (br ((false))
       (some (.t .bool (false), []))
       (some (.t .bool awkT, [])))
      (none))
     (none))))
theorem e_f12 (p0 : (List Int)) (p1 : (List Setting)) (p2 : ByteArray) : runF g_f12 tc_f12 rv_f12 false [.t (.sl tI) p0, .t (.sl tySetting) p1, .t .str p2] [] = r_f12 p0 p1 p2 := by kernel_rfl
theorem ok_f12 : Option.map (trC Tryd.prog) Tryd.f12.body = some tc_f12.er := by kernel_rfl
theorem rok_f12 : trVs Tryd.prog Tryd.f12.results.toList = some (rv_f12.map Prod.fst) := by kernel_rfl
theorem gk_f12 : GOk Tryd.prog g_f12 := gok_of _ (by
 intro p hp
 simp only [List.mem_cons, List.not_mem_nil, or_false] at hp
 rcases hp with rfl | rfl | rfl | rfl | rfl | rfl | rfl | rfl | rfl | rfl | rfl | rfl | rfl | rfl
 ·exact ⟨en_f13, ms_f13⟩
 ·exact ⟨en_f14, ms_f14⟩
 ·exact ⟨en_f15, ms_f15⟩
 ·exact ⟨en_f26, ms_f26⟩
 ·exact ⟨en_f27, ms_f27⟩
 ·exact ⟨en_f28, ms_f28⟩
 ·exact ⟨en_f32, ms_f32⟩
 ·exact ⟨en_f44, ms_f44⟩
 ·exact ⟨en_f45, ms_f45⟩
 ·exact ⟨en_f46, ms_f46⟩
 ·exact ⟨en_f47, ms_f47⟩
 ·exact ⟨en_f48, ms_f48⟩
 ·exact ⟨en_f49, ms_f49⟩
 ·exact ⟨en_f50, ms_f50⟩)
theorem l_f12_0 (x1 : (List Setting)) (x2 : ByteArray) (x9 : Int) (x25 : (List ByteArray)) (x26 : (List ByteArray)) (x27 : Int) (y43 : Dice) (h : (li0 x25 x26 x27) = true) : lp_f12_0 x1 x2 x9 x25 x26 x27 y43 = la_f12_0 x1 x2 x9 x25 x26 x27 y43 := by
 obtain ⟨rfl, h1, h2, h3⟩ := cP_of h
 clear h
 obtain ⟨k, rfl⟩ := Int.eq_ofNat_of_zero_le h1
 refine range_ind x25 (fun k => lp_f12_0 x1 x2 x9 x25 x25 (k : Int) y43 = la_f12_0 x1 x2 x9 x25 x25 (k : Int) y43) ?_ ?_ k (by omega)
 ·rw [ln_f12_0]
  simp only [n_f12_0, la_f12_0, ilt_nat, llen, Nat.lt_irrefl, decide_false, br_false]
 ·intro k hk ih
  rw [ln_f12_0]
  simp only [n_f12_0, ilt_nat, llen, cIx_nat, hk, decide_true, br_true, Int.toNat_natCast, sne_s, br_false, add1 (show k < 4611686018427387904 by omega), ih, la_f12_0]
theorem bneq_s (a : Bool) : bneq a a = false := by cases a <;> rfl
theorem setF_len (l : List Setting) (a b v : ByteArray) : (setF l a b v).1.length ≤ l.length + 1 := by
 unfold setF
 cases rgtB (newS a b v) with
 | false => exact Nat.zero_le _
 | true =>
  have := setL_len l a b v
  rw [cond_true]
  show (setL l a b v).length ≤ _
  omega
theorem l_f12_1 (x1 : (List Setting)) (x2 : ByteArray) (x8 : (List Setting)) (x9 : Int) (y43 : Dice) (h : (li1 x1 x2 x8 x9 y43) = true) : lp_f12_1 x1 x2 x8 x9 y43 = la_f12_1 x1 x2 x8 x9 y43 := by
 obtain ⟨h0, h1, h2, h3, h4, h5, h6, h7⟩ := cP_of h
 clear h
 obtain ⟨k, rfl⟩ := Int.eq_ofNat_of_zero_le h1
 obtain ⟨n, hn⟩ : ∃ n, n = 2 - k := ⟨_, rfl⟩
 induction n generalizing k x8 y43 with
 | zero =>
  rw [ln_f12_1]
  have e : ilt (k : Int) 2 = false := decide_eq_false (by omega)
  simp only [n_f12_1, e, br_false, la_f12_1]
 | succ n ih =>
  have k1 : dOk (dwdGN y43 tw4) = true := dOk_next h0
  have k2 : dOk (dwdGN (dwdGN y43 tw4) tw5) = true := dOk_next k1
  have k3 : dOk (dwdGN (dwdGN (dwdGN y43 tw4) tw5) (tw6 x2)) = true := dOk_next k2
  have ih := ih x1 (dwdGN (dwdGN (dwdGN y43 tw4) tw5) (tw6 x2)) k3 h5 h6 (k + 1) (by omega) (by omega) (by omega)
  have e : ilt (k : Int) 2 = true := decide_eq_true (by omega)
  have a1 : wdGOk y43 tw4 = true := Bool.and_eq_true_iff.2 ⟨h0, by decide⟩
  have a2 : wdGOk (dwdGN y43 tw4) tw5 = true := Bool.and_eq_true_iff.2 ⟨k1, by decide⟩
  have a3 : wdGOk (dwdGN (dwdGN y43 tw4) tw5) (tw6 x2) = true := Bool.and_eq_true_iff.2 ⟨k2, by simp⟩
  have z1 : (dwdG y43 tw4).size ≤ 100 := dwd_size (by kernel_rfl)
  have z2 : (dwdG (dwdGN y43 tw4) tw5).size ≤ 100 := dwd_size (by kernel_rfl)
  have z3 : (dwdG (dwdGN (dwdGN y43 tw4) tw5) (tw6 x2)).size ≤ 300 := dwd_size (by
   have y1 : (ByteArray.mk #[55]).size = 1 := rfl
   simp only [List.all_cons, List.all_nil, Bool.and_true, Bool.and_eq_true, decide_eq_true_eq, y1]
   omega)
  rw [ln_f12_1]
  unfold n_f12_1
  rw [e, br_true]
  have hp : prOk x8 = true := Bool.and_eq_true_iff.2 ⟨decide_eq_true (by omega), h4⟩
  rw [hp, br_true, br_true]
  refine brY a1 (brY a2 ?_)
  have hg : ∀ c d, getOk x8 c d = true := fun c d => decide_eq_true (by omega)
  refine brY (hg _ _) (brY (hg _ _) (brY a3 ?_))
  generalize dwdG y43 tw4 = s at z1 ⊢
  generalize dwdG (dwdGN y43 tw4) tw5 = t at z2 ⊢
  generalize dwdG (dwdGN (dwdGN y43 tw4) tw5) (tw6 x2) = v at z3 ⊢
  have hr : rgtOk (newS s t v) = true := Bool.and_eq_true_iff.2 ⟨decide_eq_true (by show s.size ≤ _; omega), Bool.and_eq_true_iff.2 ⟨decide_eq_true (by show t.size ≤ _; omega), decide_eq_true (by show v.size ≤ _; omega)⟩⟩
  have hl := setF_len x8 s t v
  have hz := secZ_len x8 []
  have e1 : iadd .i64 (k : Int) 1 = ((k + 1 : Nat) : Int) := by rw [iadd_in (by omega)]; omega
  refine brY (Bool.and_eq_true_iff.2 ⟨decide_eq_true (by omega), hr⟩) (brY (Bool.and_eq_true_iff.2 ⟨decide_eq_true (by omega), hr⟩) (brY (decide_eq_true (by omega)) (brY (decide_eq_true (by omega)) ?_)))
  rw [ine_s, br_false, sne_s, br_false, bneq_s, br_false, sne_s, br_false, ine_s, br_false]
  refine brY (Bool.and_eq_true_iff.2 ⟨smEq_s _, decide_eq_true (by omega)⟩) ?_
  show br (!true) _ _ = _
  rw [Bool.not_true, br_false, ine_s, br_false]
  refine brY (cP_in ⟨rfl, by omega, by omega, by unfold secF; rw [List.length_nil] at hz; omega⟩) ?_
  rw [br_false, e1]
  exact ih
theorem lo_f12_0 : ∀ S l p, g_f12.L 0 (fgt fg_f12_0 S) = some (true, l) → pickA l = some p → loopF (roundF g_f12 fg_f12_0 tb_f12_0) S = some p :=
 lok_of (s := sh_f12_0) ⟨by decide, by decide⟩ (by kernel_rfl) fun x y hok p hp => by
 simp only [pickA_br, pickA_one] at hp
 exact (l_f12_0 x.1 x.2.1 x.2.2.2.1 x.2.2.2.2.1 x.2.2.2.2.2.1 x.2.2.2.2.2.2.1 y.1 (by simpa using hok)).trans hp
theorem lo_f12_1 : ∀ S l p, g_f12.L 1 (fgt fg_f12_1 S) = some (true, l) → pickA l = some p → loopF (roundF g_f12 fg_f12_1 tb_f12_1) S = some p :=
 lok_of (s := sh_f12_1) ⟨by decide, by decide⟩ (by kernel_rfl) fun x y hok p hp => by
 simp only [pickA_br, pickA_one] at hp
 exact (l_f12_1 x.1 x.2.1 x.2.2.2.1 x.2.2.2.2.1 y.1 (by simpa using hok)).trans hp
theorem lk_f12 : tc_f12.lok g_f12 := by
 repeat (first | exact trivial | exact lo_f12_0 | exact lo_f12_1 | refine ⟨?_, ?_⟩)
theorem s_f12 (p0 : List Int) (p1 : List Setting) (p2 : ByteArray) (h : lisOk p0 p1 p2 = true) : r_f12 p0 p1 p2 = some (.t .bool (lisT p0 p1 p2), []) := by
 simp only [r_f12]
 refine br_intro (fun _ => rfl) (fun k1 => br_intro (fun _ => rfl) (fun k2 => br_intro (fun _ => rfl) (fun k3 => ?_)))
 have k1 : light p0 = true := by simpa using k1
 have k2 : p1.length ≤ 100 := by simp only [igt, llen, decide_eq_false_iff_not] at k2; omega
 have k3 : p2.size ≤ 300 := by simp only [igt, slen, decide_eq_false_iff_not] at k3; omega
 have hd := dOk_roll k1
 obtain ⟨g1, g2, g3⟩ := liF_ok hd
 rw [hd, br_true]
 refine brY (cP_in ⟨g1, by omega, by omega, by omega, sm_sz g2, k2, h, k3⟩) rfl
def sp_f12 : Ent := spec (.pr (.sl tI) (.pr (.sl tySetting) (.pr .str .nil))) (fun x => (lisOk x.1 x.2.1 x.2.2.1)) (fun x => (.t .bool (lisT x.1 x.2.1 x.2.2.1)))
theorem ms_f12 : Meets Tryd.prog 12 (strip sp_f12) := by
 obtain ⟨c, hc, hi⟩ := Option.map_eq_some_iff.1 ok_f12
 exact meets_spec (R := runF g_f12 tc_f12 rv_f12 false) (meets_of (by decide) Tryd.func12 hc hi Tryd.ntmps12 rok_f12 gk_f12 lk_f12 mixed) fun x hok => (e_f12 x.1 x.2.1 x.2.2.1).trans (s_f12 x.1 x.2.1 x.2.2.1 hok)
theorem bulk_szs (l : List Setting) (u : Ty.bulk (.sl tySetting) l ≤ 1048576) : l.all szOk = true := by
 have u : bulkL tySetting l + 1 ≤ 1048576 := u
 rw [List.all_eq_true]
 intro z hz
 have h := bulkL_mem (z := tySetting) hz
 have h2 : tySetting.bulk z = (z.1.size + 1) + ((z.2.1.size + 1) + ((z.2.2.1.size + 1) + (1 + 0))) := rfl
 exact decide_eq_true (by omega)
theorem okw_SettingsLists (z0 : List Int) (z1 : List Setting) (z2 : ByteArray) (w0 : Ty.wf (.sl (.int .i64)) z0) (w1 : Ty.wf (.sl tySetting) z1) (w2 : Ty.wf .str z2) (u0 : Ty.bulk (.sl (.int .i64)) z0 ≤ 1048576) (u1 : Ty.bulk (.sl tySetting) z1 ≤ 1048576) (u2 : Ty.bulk .str z2 ≤ 1048576) : lisOk z0 z1 z2 = true := bulk_szs z1 u1
theorem walkSettingsLists (z0 : (List Int)) (z1 : (List Setting)) (z2 : ByteArray) (W : World) (v0 : Value) (v1 : Value) (v2 : Value) (c0 : C noX W (fun _ => .no) (V.t (.sl tI) z0).d v0) (c1 : C noX W (fun _ => .no) (V.t (.sl tySetting) z1).d v1) (c2 : C noX W (fun _ => .no) (V.t .str z2).d v2) (w0 : Ty.wf (.sl tI) z0) (w1 : Ty.wf (.sl tySetting) z1) (w2 : Ty.wf .str z2) (u0 : Ty.bulk (.sl tI) z0 ≤ 1048576) (u1 : Ty.bulk (.sl tySetting) z1 ≤ 1048576) (u2 : Ty.bulk .str z2 ≤ 1048576) :
  Calls Tryd.prog 12 #[v0, v1, v2] W fun r w' => r = .returned (.bool true) ∧ Below W.heap.size W w' :=
 calls_true (by decide) ms_f12 (args := [.t (.sl tI) z0, .t (.sl tySetting) z1, .t .str z2]) (strip_spec (x := (z0, z1, z2, ())) rfl (okw_SettingsLists z0 z1 z2 w0 w1 w2 u0 u1 u2)) (by simp only [V.ds, Cs]; exact ⟨_, _, rfl, c0, _, _, rfl, c1, _, _, rfl, c2, rfl⟩)
end
end Go.Proofs.YtkkoedniahnneaaDoor.K
