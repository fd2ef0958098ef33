/-
  The law on all functions of 22.
-/
import Derived.Test.YtfehjdaielifiaaGreatV30
import Derived.Test.YtfehjdaielifiaaGreatV29
import Derived.Test.YtfehjdaielifiaaGreatV22
import Derived.Test.YtfehjdaielifiaaGreatV14
import Derived.Test.YtfehjdaielifiaaGreatM2P
import Derived.Test.YtfehjdaielifiaaGreatKD
set_option linter.unusedSimpArgs false
set_option linter.unusedVariables false
namespace Go.Proofs.YtfehjdaielifiaaGreat.K.OI
open Go.RowKit
noncomputable section
theorem same22_self (a : Item) : sameI22 a a = true := by
  unfold sameI22
  simp [ieq, sne]
theorem ren_size {y : Policy} {i : Item} {u : Keep} {day : Int} (h : i.2.2.2.1.length ≤ 1000) : sameLen (RenewF y i u day).1 (RenewF y i u day).1 = true := by
  unfold sameLen RenewF
  refine decide_eq_true ?_
  split
  · show (i.2.2.2.1 ++ [(u, (day, ()))]).length ≤ 100000
    rw [List.length_append, List.length_singleton]
    omega
  · exact Nat.zero_le _
theorem fill_len : ∀ (n : Nat) (l : List Link) (d : Dice), (fillZ n l d).1.length ≤ l.length + n
  | 0, l, _ => Nat.le_refl _
  | n + 1, l, d => by
    unfold fillZ
    split
    · have := fill_len n (l ++ [((2, (0, ())), (iadd .i64 (lgt tyLink l (Int.toNat (isub .i64 (llen l) 1))).2.1 1, ()))]) (dnext d 2)
      rw [List.length_append, List.length_singleton] at this
      omega
    · exact Nat.le_add_right _ _
theorem word_size : ∀ i : Nat, (([ByteArray.mk #[], ByteArray.mk #[97, 32, 98]] : List ByteArray).getD i ByteArray.empty).size ≤ 3
  | 0 => by decide
  | 1 => by decide
  | _ + 2 => Nat.zero_le 3
theorem made_size (d : Dice) : (madeV d).1.size ≤ 4 ∧ (madeV d).2.2.2.1.length ≤ 10 := by
  have hl := itLk_len d
  have h1 : (itemV d deedS).1.size = 4 := rfl
  have h2 : (itemV d deedS).2.2.2.1.length ≤ 3 := hl.2
  unfold madeV
  generalize itemV d deedS = I at h1 h2 ⊢
  generalize itemN d deedS = D
  have h1' : I.1.size ≤ 4 := Nat.le_of_eq h1
  have h2' : I.2.2.2.1.length ≤ 10 := by omega
  have hs : ∀ x : Link, (I.2.2.2.1.set 0 x).length ≤ 10 := fun x => by rw [List.length_set]; exact h2'
  have ha : ∀ x : Link, (I.2.2.2.1 ++ [x]).length ≤ 10 := fun x => by rw [List.length_append, List.length_singleton]; omega
  unfold madeP
  generalize ieq (dval D 16) 0 = b0
  generalize ieq (dval D 16) 1 = b1
  generalize ieq (dval D 16) 2 = b2
  generalize ieq (dval D 16) 3 = b3
  generalize ieq (dval D 16) 4 = b4
  generalize ieq (dval D 16) 5 = b5
  generalize ieq (dval D 16) 6 = b6
  generalize ieq (dval D 16) 7 = b7
  generalize ieq (dval D 16) 8 = b8
  cases b0
  rotate_left
  · exact ⟨Nat.le_trans (word_size _) (by omega), h2'⟩
  cases b1
  rotate_left
  · exact ⟨h1', h2'⟩
  cases b2
  rotate_left
  · exact ⟨h1', h2'⟩
  cases b3
  rotate_left
  · exact ⟨h1', Nat.zero_le _⟩
  cases b4
  rotate_left
  · exact ⟨h1', hs _⟩
  cases b5
  rotate_left
  · exact ⟨h1', h2'⟩
  cases b6
  rotate_left
  · exact ⟨h1', ha _⟩
  cases b7
  rotate_left
  · exact ⟨h1', Nat.le_trans (fill_len _ _ _) (by omega)⟩
  cases b8
  · exact ⟨h1', h2'⟩
  · exact ⟨h1', hs _⟩
theorem dOk_fill : ∀ (n : Nat) (l : List Link) (d : Dice), dOk d = true → dOk (fillZ n l d).2 = true
  | 0, _, _, h => h
  | n + 1, l, d, h => by
    unfold fillZ
    split
    · exact dOk_fill n _ _ (dOk_next (n := 2) h)
    · exact dOk_next (n := 2) h
theorem dOk_made {d : Dice} (h : dOk d = true) : dOk (madeN d) = true := by
  have hD : dOk (itemN d deedS) = true := dOk_item h
  unfold madeN
  generalize itemV d deedS = I
  generalize itemN d deedS = D at hD ⊢
  have hE : dOk (dnext D 16) = true := dOk_next hD
  unfold madeP
  generalize ieq (dval D 16) 0 = b0
  generalize ieq (dval D 16) 1 = b1
  generalize ieq (dval D 16) 2 = b2
  generalize ieq (dval D 16) 3 = b3
  generalize ieq (dval D 16) 4 = b4
  generalize ieq (dval D 16) 5 = b5
  generalize ieq (dval D 16) 6 = b6
  generalize ieq (dval D 16) 7 = b7
  generalize ieq (dval D 16) 8 = b8
  cases b0
  rotate_left
  · exact dOk_next (n := (([ByteArray.mk #[], ByteArray.mk #[97, 32, 98]] : List ByteArray).length : Int)) hE
  cases b1
  rotate_left
  · exact dOk_of (l := [0, 3]) hE
  cases b2
  rotate_left
  · exact dOk_of (l := [0, 5]) hE
  cases b3
  rotate_left
  · exact hE
  cases b4
  rotate_left
  · exact hE
  cases b5
  rotate_left
  · exact dOk_of (l := [-1, 40001, 0]) hE
  cases b6
  rotate_left
  · exact hE
  cases b7
  rotate_left
  · exact dOk_fill _ _ _ hE
  cases b8 <;> exact hE
def lawMade (_ : List Int) (_ : Item) (_ : Int) : Bool := true
def lmOk (_ : List Int) (r : Item) (_ : Int) : Bool := nameOk r.1
def dr_f3_0 : List DO := [(.mk (oM 136 (.ld true 5 (.t 9))) []), (.mk (oC 137 25 [(.t 136)]) [0]), (.mk (oM 138 (.ld true 5 (.t 9))) []), (.mk (oC 139 26 [(.t 138)]) [2, 1]), (.mk (oP 140 (.bin false .neq (.t 137) (.t 139))) [1, 3]), (.mk (oV 141 140) [4, 3]), (.mk (oQ 142 141 false (.mv (.t 12))) [5]), (.mk (oQ 143 141 false (.mv (.t 14))) [5]), (.mk (oQ 144 141 false (.bin false .neq (.t 142) (.t 143))) [6, 7, 5]), (.mk (oP 145 (.pick (.t 141) (cB true) (.t 144))) [5, 8]), (.mk (oV 146 145) [9, 5]), (.mk (oQ 147 146 false (.mv (.t 13))) [10]), (.mk (oQ 148 146 false (.mv (.t 15))) [10]), (.mk (oQ 149 146 false (.bin false .neq (.t 147) (.t 148))) [11, 12, 10]), (.mk (oP 150 (.pick (.t 146) (cB true) (.t 149))) [10, 13]), (.mk (oV 151 150) [14, 10]), (.mk (oQ 152 151 false (.mv (.t 16))) [15]), (.mk (oQ 153 151 false (.mv (.t 19))) [15]), (.mk (oQ 154 151 false (.bin false .neq (.t 152) (.t 153))) [16, 17, 15]), (.mk (oP 155 (.pick (.t 151) (cB true) (.t 154))) [15, 18]), (.mk (oV 156 155) [19, 15]), (.mk (oQ 157 156 false (.mv (.t 17))) [20]), (.mk (oQ 158 156 false (.mv (.t 20))) [20]), (.mk (oQ 159 156 false (.bin true .neq (.t 157) (.t 158))) [21, 22, 20]), (.mk (oP 160 (.pick (.t 156) (cB true) (.t 159))) [20, 23]), (.mk (oV 161 160) [24, 20]), (.mk (oQ 162 161 false (.mv (.t 18))) [25]), (.mk (oQ 163 161 false (.mv (.t 21))) [25]), (.mk (oQ 164 161 false (.bin false .neq (.t 162) (.t 163))) [26, 27, 25]), (.mk (oP 165 (.pick (.t 161) (cB true) (.t 164))) [25, 28]), (.mk (oV 166 165) [29, 25]), (.mk (oQ 167 166 false (.mv (.t 22))) [30]), (.mk (oQ 168 166 false (.mv (.t 25))) [30]), (.mk (oQ 169 166 false (.bin false .neq (.t 167) (.t 168))) [31, 32, 30]), (.mk (oP 170 (.pick (.t 166) (cB true) (.t 169))) [30, 33]), (.mk (oV 171 170) [34, 30]), (.mk (oQ 172 171 false (.mv (.t 23))) [35]), (.mk (oQ 173 171 false (.mv (.t 26))) [35]), (.mk (oQ 174 171 false (.bin true .neq (.t 172) (.t 173))) [36, 37, 35]), (.mk (oP 175 (.pick (.t 171) (cB true) (.t 174))) [35, 38]), (.mk (oV 176 175) [39, 35]), (.mk (oQ 177 176 false (.mv (.t 24))) [40]), (.mk (oQ 178 176 false (.mv (.t 27))) [40]), (.mk (oQ 179 176 false (.bin false .neq (.t 177) (.t 178))) [41, 42, 40]), (.mk (oP 180 (.pick (.t 176) (cB true) (.t 179))) [40, 43]), (.mk (oV 181 180) [44, 40]), (.mk (oQ 182 181 false (.mv (.t 30))) [45]), (.mk (oQ 183 181 false (.mv (.t 32))) [45]), (.mk (oQ 184 181 false (.bin false .neq (.t 182) (.t 183))) [46, 47, 45]), (.mk (oP 185 (.pick (.t 181) (cB true) (.t 184))) [45, 48]), (.mk (oV 186 185) [49, 45]), (.mk (oG 187 186 false (.m (.ld true 5 (.t 29)))) [50]), (.mk (oG 188 186 false (.m (.ld true 5 (.t 31)))) [50]), (.mk (oG 189 186 false (.call 27 [(.t 187), (.t 188)])) [51, 52, 50, 50]), (.mk (oQ 190 186 false (.nt (.t 189))) [53, 50]), (.mk (oP 191 (.pick (.t 186) (cB true) (.t 190))) [50, 54])]
def fg_f3_0 : Fg := ⟨[(2, some tI), (4, none), (7, none), (8, none), (9, none), (10, none), (11, some tI)], [(4, some tyItem), (8, some tyPolicy), (9, some tyItem), (10, some tyKeep), (50, some tyDice), (52, none), (61, none), (5050, none), (5052, none), (10050, none), (10052, none), (15050, none), (15052, none)]⟩
def tb_f3_0 : TC := (.sq (.sq (.reg [(oV 68 11), (oP 69 (.bin false .lss (.t 68) (cI 2)))]) (.cd (.t 69) .sk (.fg ⟨[], []⟩ (.ex 0)))) (.sq (.bk 1 (.sq (.reg [(oM 73 (.ld true 2 (.t 8))), (oM 74 (.ld true 5 (.t 9))), (oC 75 16 [(.t 73), (.t 74)]), (oV 72 75), (oP 76 (.ext 0 (.t 72))), (oP 77 (.ext 1 (.t 72))), (oV 12 76), (oV 13 77)]) (.sq (.reg [(oM 79 (.ld true 2 (.t 8))), (oM 80 (.ld true 5 (.t 9))), (oC 81 17 [(.t 79), (.t 80)]), (oV 78 81), (oP 82 (.ext 0 (.t 78))), (oP 83 (.ext 1 (.t 78))), (oV 14 82), (oV 15 83)]) (.sq (.reg [(oM 85 (.ld true 2 (.t 8))), (oM 86 (.ld true 5 (.t 9))), (oC 87 18 [(.t 85), (.t 86)]), (oV 84 87), (oP 88 (.ext 0 (.t 84))), (oP 89 (.ext 1 (.t 84))), (oP 90 (.ext 2 (.t 84))), (oV 16 88), (oV 17 89), (oV 18 90)]) (.sq (.reg [(oM 92 (.ld true 2 (.t 8))), (oM 93 (.ld true 5 (.t 9))), (oC 94 19 [(.t 92), (.t 93)]), (oV 91 94), (oP 95 (.ext 0 (.t 91))), (oP 96 (.ext 1 (.t 91))), (oP 97 (.ext 2 (.t 91))), (oV 19 95), (oV 20 96), (oV 21 97)]) (.sq (.reg [(oM 99 (.ld true 2 (.t 8))), (oM 100 (.ld true 5 (.t 9))), (oC 101 20 [(.t 99), (.t 100)]), (oV 98 101), (oP 102 (.ext 0 (.t 98))), (oP 103 (.ext 1 (.t 98))), (oP 104 (.ext 2 (.t 98))), (oV 22 102), (oV 23 103), (oV 24 104)]) (.sq (.reg [(oM 106 (.ld true 2 (.t 8))), (oM 107 (.ld true 5 (.t 9))), (oC 108 21 [(.t 106), (.t 107)]), (oV 105 108), (oP 109 (.ext 0 (.t 105))), (oP 110 (.ext 1 (.t 105))), (oP 111 (.ext 2 (.t 105))), (oV 25 109), (oV 26 110), (oV 27 111)]) (.sq (.reg [(oV 112 7), (oM 113 (.bs 3 1 4 [(.v (.int .i64 0)), (.v (.int .i64 0)), (.v (.int .i64 0)), (.v (.int .i64 0))] [(0, 1, (cI 60)), (1, 1, (cI 5)), (2, 1, (cI 300)), (3, 1, (cI 40000))])), (oC 114 22 [(.t 112), (.t 113)]), (oV 115 2), (oM 116 (.bs 3 1 2 [(.v (.int .i64 0)), (.v (.int .i64 0))] [(0, 1, (.t 114)), (1, 1, (.t 115))])), (oV 117 11), (oP 118 (.ix 1 (.t 116) (.t 117))), (oL 119 118), (oV 28 119)]) (.sq (.reg [(oM 121 (.ld true 2 (.t 8))), (oM 122 (.ld true 5 (.t 9))), (oM 123 (.ld true 2 (.t 10))), (oV 124 28), (oC 125 23 [(.t 121), (.t 122), (.t 123), (.t 124)]), (oV 120 125), (oP 126 (.ext 0 (.t 120))), (oP 127 (.ext 1 (.t 120))), (oM 29 (.new [(.v (.string (ByteArray.mk #[]))), (.v (.int .i64 0)), (.v (.int .i64 0)), (.v (.slice none 0 0)), (.v (.int .i64 0))])), (.mk none none (.m (.st 5 (.t 29) (.t 126)))), (oV 30 127)]) (.sq (.reg [(oM 129 (.ld true 2 (.t 8))), (oM 130 (.ld true 5 (.t 9))), (oM 131 (.ld true 2 (.t 10))), (oV 132 28), (oC 133 24 [(.t 129), (.t 130), (.t 131), (.t 132)]), (oV 128 133), (oP 134 (.ext 0 (.t 128))), (oP 135 (.ext 1 (.t 128))), (oM 31 (.new [(.v (.string (ByteArray.mk #[]))), (.v (.int .i64 0)), (.v (.int .i64 0)), (.v (.slice none 0 0)), (.v (.int .i64 0))])), (.mk none none (.m (.st 5 (.t 31) (.t 134)))), (oV 32 135)]) (.sq (.sq (.dr dr_f3_0 [(0, [9]), (1, []), (2, [9]), (3, []), (4, []), (5, []), (6, []), (7, []), (8, []), (9, []), (10, []), (11, []), (12, []), (13, []), (14, []), (15, []), (16, []), (17, []), (18, []), (19, []), (20, []), (21, []), (22, []), (23, []), (24, []), (25, []), (26, []), (27, []), (28, []), (29, []), (30, []), (31, []), (32, []), (33, []), (34, []), (35, []), (36, []), (37, []), (38, []), (39, []), (40, []), (41, []), (42, []), (43, []), (44, []), (45, []), (46, []), (47, []), (48, []), (49, []), (50, []), (51, [29]), (52, [31]), (53, []), (54, []), (55, [])] (.of [0, 1, 2, 3, 4, 5, 6, 7, 8, 9, 10, 11, 12, 13, 14, 15, 16, 17, 18, 19, 20, 21, 22, 23, 24, 25, 26, 27, 28, 29, 30, 31, 32, 33, 34, 35, 36, 37, 38, 39, 40, 41, 42, 43, 44, 45, 46, 47, 48, 49, 50, 51, 52, 53, 54, 55])) (.cd (.t 191) (.sq (.reg [(oP 6 (.mv (cB false)))]) (.fg ⟨[(6, some .bool)], []⟩ .rt)) .sk)) (.sq (.reg [(oM 193 (.ld true 2 (.t 8))), (oM 194 (.ld true 5 (.t 9))), (oC 195 28 [(.t 193), (.t 194)]), (oV 192 195), (oP 196 (.ext 0 (.t 192))), (oP 197 (.ext 1 (.t 192))), (oP 198 (.ext 2 (.t 192))), (oV 33 196), (oV 34 197), (oV 35 198)]) (.sq (.reg [(oM 200 (.ld true 2 (.t 8))), (oM 201 (.ld true 5 (.t 9))), (oC 202 29 [(.t 200), (.t 201)]), (oV 199 202), (oP 203 (.ext 0 (.t 199))), (oP 204 (.ext 1 (.t 199))), (oP 205 (.ext 2 (.t 199))), (oV 36 203), (oV 37 204), (oV 38 205)]) (.sq (.sq (.reg [(oV 206 33), (oV 207 36), (oP 208 (.bin false .neq (.t 206) (.t 207))), (oV 209 208), (oQ 210 209 false (.mv (.t 34))), (oQ 211 209 false (.mv (.t 37))), (oQ 212 209 false (.bin true .neq (.t 210) (.t 211))), (oP 213 (.pick (.t 209) (cB true) (.t 212))), (oV 214 213), (oQ 215 214 false (.mv (.t 35))), (oQ 216 214 false (.mv (.t 38))), (oQ 217 214 false (.bin false .neq (.t 215) (.t 216))), (oP 218 (.pick (.t 214) (cB true) (.t 217)))]) (.cd (.t 218) (.sq (.reg [(oP 6 (.mv (cB false)))]) (.fg ⟨[(6, some .bool)], []⟩ .rt)) .sk)) (.reg [(oM 219 (.ld true 5 (.t 4))), (.mk none none (.m (.st 5 (.t 9) (.t 219))))]))))))))))))))) (.reg [(oV 70 11), (oP 71 (.bin false .add (.t 70) (cI 1))), (oV 11 71)])))
/-- cipherplan/cipherplanlaw22.LifetimeMade -/
def tc_f3 : TC := (.sq (.reg [(oM 4 (.box (.t 1))), (oP 6 (.mv (cB false)))]) (.sq (.sq (.reg [(oV 39 0), (oC 40 9 [(.t 39)]), (oP 41 (.nt (.t 40))), (oV 42 41), (oQ 43 42 false (.fa 3 (.t 4))), (oG 44 42 false (.m (.ld false 1 (.t 43)))), (oQ 45 42 false (.len false (.t 44))), (oQ 46 42 false (.bin false .gtr (.t 45) (cI 40))), (oP 47 (.pick (.t 42) (cB true) (.t 46)))]) (.cd (.t 47) (.sq (.reg [(oC 48 10 []), (oV 6 48)]) .rt) .sk)) (.sq (.reg [(oV 49 0), (oC 50 11 [(.t 49)]), (oV 7 50)]) (.sq (.reg [(oV 51 7), (oC 52 12 [(.t 51)]), (oV 53 7), (oC 54 13 [(.t 53)]), (oM 8 (.new [(.v (.slice none 0 0)), (.v (.slice none 0 0))])), (oM 9 (.new [(.v (.string (ByteArray.mk #[]))), (.v (.int .i64 0)), (.v (.int .i64 0)), (.v (.slice none 0 0)), (.v (.int .i64 0))])), (.mk none none (.m (.st 2 (.t 8) (.t 52)))), (.mk none none (.m (.st 5 (.t 9) (.t 54))))]) (.sq (.sq (.reg [(oV 55 7), (oC 56 14 [(.t 55), (cI 12)])]) (.cd (.t 56) (.reg [(oP 57 (.fa 0 (.t 8))), (oL 58 57), (oP 59 (.bd [(.v (.bool false)), (.v (.int .i64 0)), (.v (.int .i64 0)), (.v (.int .i64 0)), (.v (.int .i64 0)), (.v (.int .i64 0))] [(1, 1, (cI 99))])), (oM 60 (.bs 38 6 1 [(.v (.bool false)), (.v (.int .i64 0)), (.v (.int .i64 0)), (.v (.int .i64 0)), (.v (.int .i64 0)), (.v (.int .i64 0))] [(0, 6, (.t 59))])), (oM 61 (.app 38 6 48 (.t 58) (.t 60))), (oP 62 (.fa 0 (.t 8))), (.mk none none (.m (.st 1 (.t 62) (.t 61))))]) .sk)) (.sq (.reg [(oV 63 7), (oC 64 15 [(.t 63)]), (oM 10 (.new [(.v (.int .i64 0)), (.v (.int .i64 0))])), (.mk none none (.m (.st 2 (.t 10) (.t 64))))]) (.sq (.sq (.reg [(oV 65 7), (oC 66 14 [(.t 65), (cI 9)])]) (.cd (.t 66) (.reg [(oP 67 (.bd [(.v (.int .i64 0)), (.v (.int .i64 0))] [])), (.mk none none (.m (.st 2 (.t 10) (.t 67))))]) .sk)) (.sq (.sq (.reg [(oP 11 (.mv (cI 0)))]) (.bk 0 (.fz [52, 5052] (.lp 0 fg_f3_0 tb_f3_0)))) (.sq (.reg [(oC 220 10 []), (oV 6 220)]) .rt)))))))))
def rv_f3 : List (RV × Option Ty) := [((.t 6), some .bool)]
abbrev sh_f3_0 : Sh := ⟨[(2, .ty tI), (4, .ptr 4 0), (7, .ptr 50 0), (8, .ptr 8 0), (9, .ptr 9 0), (10, .ptr 10 0), (11, .ty tI)], [(4, .box tyItem), (8, .box tyPolicy), (9, .box tyItem), (10, .box tyKeep), (50, .box tyDice), (52, .no), (61, .no), (5050, .no), (5052, .no), (10050, .no), (10052, .no), (15050, .no), (15052, .no)]⟩
def st_f3_0 (x2 : Int) (x11 : Int) (y4 : Item) (y8 : Policy) (y9 : Item) (y10 : Keep) (y50 : Dice) : VS := sh_f3_0.st (x2, (), (), (), (), (), x11, ()) (y4, y8, y9, y10, y50, (), (), (), (), (), (), (), (), ())
abbrev sh_f3_0_ret : Sh := ⟨[(6, .ty .bool)], []⟩
def st_f3_0_ret (x6 : Bool) : VS := sh_f3_0_ret.st (x6, ()) ()
abbrev sh_f3_0_e0 : Sh := ⟨[], []⟩
def st_f3_0_e0  : VS := sh_f3_0_e0.st () ()
-- loop 0: (x2 : Int) (x11 : Int) (y4 : Item) (y8 : Policy) (y9 : Item) (y10 : Keep) (y50 : Dice); out: ('ret',) (x6 : Bool); ('exit', 0) 
def L_f3_0 : VS → Option (Bool × List (Bool × Exit × VS)) := mkL sh_f3_0 (fun x y => (dOk y.2.2.2.2.1 && nameOk y.2.2.1.1 && nameOk y.1.1 && polLen y.2.1 && decide (0 ≤ x.2.2.2.2.2.2.1 ∧ x.2.2.2.2.2.2.1 ≤ 2 ∧ y.2.2.1.2.2.2.1.length ≤ 1000 ∧ y.1.2.2.2.1.length ≤ 1000))) (fun x y => [(true, .exit 0, st_f3_0_e0)])
def g_f3 : G := ⟨TYs, [], 221, EL [(9, sp_f9), (10, sp_f10), (11, sp_f11), (12, sp_f12), (13, sp_f13), (14, sp_f14), (15, sp_f15), (16, sp_f16), (17, sp_f17), (18, sp_f18), (19, sp_f19), (20, sp_f20), (21, sp_f21), (22, sp_f22), (23, sp_f23), (24, sp_f24), (25, sp_f25), (26, sp_f26), (27, sp_f27), (28, sp_f28), (29, sp_f29)], keeps, (Ls [L_f3_0]), IL [], RL []⟩
def b_f3_0 (x2 : Int) (x11 : Int) (y4 : Item) (y8 : Policy) (y9 : Item) (y10 : Keep) (y50 : Dice) : Option (Exit × VS) :=
  br ((ilt x11 2))
    (br ((fineLen y8 y9))
      (br ((fineLen y8 y9))
        (br ((fineLen y8 y9))
          (br ((fineLen y8 y9))
            (br ((fineLen y8 y9))
              (br ((fineLen y8 y9))
                (br ((ofOk y50 ([60, 5, 300, 40000])))
                  (br (cIx ([(dof y50 ([60, 5, 300, 40000])), x2]) x11)
                    (br ((renLen y8 y9 y10 (lgt tI ([(dof y50 ([60, 5, 300, 40000])), x2]) (Int.toNat x11))))
                      (br ((renLen y8 y9 y10 (lgt tI ([(dof y50 ([60, 5, 300, 40000])), x2]) (Int.toNat x11))))
                        (br ((itemLen y9))
                          (br ((itemLen y9))
                            (br ((ine (checkI y9) (checkI y9)))
                              (some (.ret, st_f3_0_ret false))
                              (br ((ine ((LinksF y8 y9).1) ((LinksF y8 y9).1)))
                                (some (.ret, st_f3_0_ret false))
                                (br ((ine ((LinksF y8 y9).2) ((LinksF y8 y9).2)))
                                  (some (.ret, st_f3_0_ret false))
                                  (br ((ine ((FailsI y8 y9).1) ((FailsI y8 y9).1)))
                                    (some (.ret, st_f3_0_ret false))
                                    (br ((bneq (((FailsI y8 y9).2).1) (((FailsI y8 y9).2).1)))
                                      (some (.ret, st_f3_0_ret false))
                                      (br ((ine (((FailsI y8 y9).2).2) (((FailsI y8 y9).2).2)))
                                        (some (.ret, st_f3_0_ret false))
                                        (br ((ine ((LatestF y8 y9).1) ((LatestF y8 y9).1)))
                                          (some (.ret, st_f3_0_ret false))
                                          (br ((bneq (((LatestF y8 y9).2).1) (((LatestF y8 y9).2).1)))
                                            (some (.ret, st_f3_0_ret false))
                                            (br ((ine (((LatestF y8 y9).2).2) (((LatestF y8 y9).2).2)))
                                              (some (.ret, st_f3_0_ret false))
                                              (br ((ine ((RenewF y8 y9 y10 (lgt tI ([(dof y50 ([60, 5, 300, 40000])), x2]) (Int.toNat x11))).2) ((RenewF y8 y9 y10 (lgt tI ([(dof y50 ([60, 5, 300, 40000])), x2]) (Int.toNat x11))).2)))
                                                (some (.ret, st_f3_0_ret false))
                                                (br ((sameLen ((RenewF y8 y9 y10 (lgt tI ([(dof y50 ([60, 5, 300, 40000])), x2]) (Int.toNat x11))).1) ((RenewF y8 y9 y10 (lgt tI ([(dof y50 ([60, 5, 300, 40000])), x2]) (Int.toNat x11))).1)))
                                                  (br ((!(sameI22 ((RenewF y8 y9 y10 (lgt tI ([(dof y50 ([60, 5, 300, 40000])), x2]) (Int.toNat x11))).1) ((RenewF y8 y9 y10 (lgt tI ([(dof y50 ([60, 5, 300, 40000])), x2]) (Int.toNat x11))).1))))
                                                    (some (.ret, st_f3_0_ret false))
                                                    (br ((fineLen y8 y9))
                                                      (br ((fineLen y8 y9))
                                                        (br ((ine ((WantedF y8 y9).1) ((WantedF y8 y9).1)))
                                                          (some (.ret, st_f3_0_ret false))
                                                          (br ((bneq (((WantedF y8 y9).2).1) (((WantedF y8 y9).2).1)))
                                                            (some (.ret, st_f3_0_ret false))
                                                            (br ((ine (((WantedF y8 y9).2).2) (((WantedF y8 y9).2).2)))
                                                              (some (.ret, st_f3_0_ret false))
                                                              (some (.normal, st_f3_0 x2 (iadd .i64 x11 1) y4 y8 y4 y10 (dofN y50 ([60, 5, 300, 40000])))))))
                                                        (none))
                                                      (none)))
                                                  (none))))))))))))
                            (none))
                          (none))
                        (none))
                      (none))
                    (none))
                  (none))
                (none))
              (none))
            (none))
          (none))
        (none))
      (none))
    (some (.exit 0, st_f3_0_e0))
noncomputable def lp_f3_0 (x2 : Int) (x11 : Int) (y4 : Item) (y8 : Policy) (y9 : Item) (y10 : Keep) (y50 : Dice) : Option (Exit × VS) := loopF (roundF g_f3 fg_f3_0 tb_f3_0) (st_f3_0 x2 x11 y4 y8 y9 y10 y50)
noncomputable def n_f3_0 (x2 : Int) (x11 : Int) (y4 : Item) (y8 : Policy) (y9 : Item) (y10 : Keep) (y50 : Dice) : Option (Exit × VS) :=
  br ((ilt x11 2))
    (br ((fineLen y8 y9))
      (br ((fineLen y8 y9))
        (br ((fineLen y8 y9))
          (br ((fineLen y8 y9))
            (br ((fineLen y8 y9))
              (br ((fineLen y8 y9))
                (br ((ofOk y50 ([60, 5, 300, 40000])))
                  (br (cIx ([(dof y50 ([60, 5, 300, 40000])), x2]) x11)
                    (br ((renLen y8 y9 y10 (lgt tI ([(dof y50 ([60, 5, 300, 40000])), x2]) (Int.toNat x11))))
                      (br ((renLen y8 y9 y10 (lgt tI ([(dof y50 ([60, 5, 300, 40000])), x2]) (Int.toNat x11))))
                        (br ((itemLen y9))
                          (br ((itemLen y9))
                            (br ((ine (checkI y9) (checkI y9)))
                              (some (.ret, st_f3_0_ret false))
                              (br ((ine ((LinksF y8 y9).1) ((LinksF y8 y9).1)))
                                (some (.ret, st_f3_0_ret false))
                                (br ((ine ((LinksF y8 y9).2) ((LinksF y8 y9).2)))
                                  (some (.ret, st_f3_0_ret false))
                                  (br ((ine ((FailsI y8 y9).1) ((FailsI y8 y9).1)))
                                    (some (.ret, st_f3_0_ret false))
                                    (br ((bneq (((FailsI y8 y9).2).1) (((FailsI y8 y9).2).1)))
                                      (some (.ret, st_f3_0_ret false))
                                      (br ((ine (((FailsI y8 y9).2).2) (((FailsI y8 y9).2).2)))
                                        (some (.ret, st_f3_0_ret false))
                                        (br ((ine ((LatestF y8 y9).1) ((LatestF y8 y9).1)))
                                          (some (.ret, st_f3_0_ret false))
                                          (br ((bneq (((LatestF y8 y9).2).1) (((LatestF y8 y9).2).1)))
                                            (some (.ret, st_f3_0_ret false))
                                            (br ((ine (((LatestF y8 y9).2).2) (((LatestF y8 y9).2).2)))
                                              (some (.ret, st_f3_0_ret false))
                                              (br ((ine ((RenewF y8 y9 y10 (lgt tI ([(dof y50 ([60, 5, 300, 40000])), x2]) (Int.toNat x11))).2) ((RenewF y8 y9 y10 (lgt tI ([(dof y50 ([60, 5, 300, 40000])), x2]) (Int.toNat x11))).2)))
                                                (some (.ret, st_f3_0_ret false))
                                                (br ((sameLen ((RenewF y8 y9 y10 (lgt tI ([(dof y50 ([60, 5, 300, 40000])), x2]) (Int.toNat x11))).1) ((RenewF y8 y9 y10 (lgt tI ([(dof y50 ([60, 5, 300, 40000])), x2]) (Int.toNat x11))).1)))
                                                  (br ((!(sameI22 ((RenewF y8 y9 y10 (lgt tI ([(dof y50 ([60, 5, 300, 40000])), x2]) (Int.toNat x11))).1) ((RenewF y8 y9 y10 (lgt tI ([(dof y50 ([60, 5, 300, 40000])), x2]) (Int.toNat x11))).1))))
                                                    (some (.ret, st_f3_0_ret false))
                                                    (br ((fineLen y8 y9))
                                                      (br ((fineLen y8 y9))
                                                        (br ((ine ((WantedF y8 y9).1) ((WantedF y8 y9).1)))
                                                          (some (.ret, st_f3_0_ret false))
                                                          (br ((bneq (((WantedF y8 y9).2).1) (((WantedF y8 y9).2).1)))
                                                            (some (.ret, st_f3_0_ret false))
                                                            (br ((ine (((WantedF y8 y9).2).2) (((WantedF y8 y9).2).2)))
                                                              (some (.ret, st_f3_0_ret false))
                                                              (lp_f3_0 x2 (iadd .i64 x11 1) y4 y8 y4 y10 (dofN y50 ([60, 5, 300, 40000]))))))
                                                        (none))
                                                      (none)))
                                                  (none))))))))))))
                            (none))
                          (none))
                        (none))
                      (none))
                    (none))
                  (none))
                (none))
              (none))
            (none))
          (none))
        (none))
      (none))
    (some (.exit 0, st_f3_0_e0))
def la_f3_0 (x2 : Int) (x11 : Int) (y4 : Item) (y8 : Policy) (y9 : Item) (y10 : Keep) (y50 : Dice) : Option (Exit × VS) := some (.exit 0, st_f3_0_e0)
theorem be_f3_0 (x2 : Int) (x11 : Int) (y4 : Item) (y8 : Policy) (y9 : Item) (y10 : Keep) (y50 : Dice) : roundF g_f3 fg_f3_0 tb_f3_0 (st_f3_0 x2 x11 y4 y8 y9 y10 y50) = b_f3_0 x2 x11 y4 y8 y9 y10 y50 := by kernel_rfl
theorem ln_f3_0 (x2 : Int) (x11 : Int) (y4 : Item) (y8 : Policy) (y9 : Item) (y10 : Keep) (y50 : Dice) : lp_f3_0 x2 x11 y4 y8 y9 y10 y50 = n_f3_0 x2 x11 y4 y8 y9 y10 y50 := (loopF_nxt _ _).trans (by
  rw [be_f3_0]
  simp only [b_f3_0, n_f3_0, nxt_br, nxt_n, nxt_r, nxt_e, nxt_0]
  rfl)
def r_f3_1 (p0 : (List Int)) (p1 : Item) (p2 : Int) : Option (V × List VO) :=
  br ((dOk (dnext (useN (dnext (madeN (polN (roll p0))) 12)) 9) && nameOk (madeV (polN (roll p0))).1 && nameOk p1.1 && polLen ((((polV (roll p0)).1) ++ ([(false, (99, (0, (0, (0, (0, ()))))))])), (((polV (roll p0)).2).1, ())) && decide (0 ≤ (0 : Int) ∧ (0 : Int) ≤ 2 ∧ (madeV (polN (roll p0))).2.2.2.1.length ≤ 1000 ∧ p1.2.2.2.1.length ≤ 1000)))
    (some (.t .bool awakeT22, []))
    (none)
def r_f3_2 (p0 : (List Int)) (p1 : Item) (p2 : Int) : Option (V × List VO) :=
  br ((dOk (dnext (useN (dnext (madeN (polN (roll p0))) 12)) 9) && nameOk (madeV (polN (roll p0))).1 && nameOk p1.1 && polLen ((polV (roll p0)).1, (((polV (roll p0)).2).1, ())) && decide (0 ≤ (0 : Int) ∧ (0 : Int) ≤ 2 ∧ (madeV (polN (roll p0))).2.2.2.1.length ≤ 1000 ∧ p1.2.2.2.1.length ≤ 1000)))
    (some (.t .bool awakeT22, []))
    (none)
def r_f3 (p0 : (List Int)) (p1 : Item) (p2 : Int) : Option (V × List VO) :=
  br ((!(light p0)))
    (some (.t .bool awakeT22, []))
    (br ((igt (llen p1.2.2.2.1) 40))
      (some (.t .bool awakeT22, []))
      (br ((dOk (roll p0)))
        (br ((dOk (polN (roll p0))))
          (br ((oneOk (madeN (polN (roll p0))) 12))
            (br ((done (madeN (polN (roll p0))) 12))
              (br (cApp ((polV (roll p0)).1) ([(false, (99, (0, (0, (0, (0, ()))))))]) 48)
                (br ((dOk (dnext (madeN (polN (roll p0))) 12)))
                  (br ((oneOk (useN (dnext (madeN (polN (roll p0))) 12)) 9))
                    (br ((done (useN (dnext (madeN (polN (roll p0))) 12)) 9))
                      (r_f3_1 p0 p1 p2)
                      (r_f3_1 p0 p1 p2))
                    (none))
                  (none))
                (none))
              (br ((dOk (dnext (madeN (polN (roll p0))) 12)))
                (br ((oneOk (useN (dnext (madeN (polN (roll p0))) 12)) 9))
                  (br ((done (useN (dnext (madeN (polN (roll p0))) 12)) 9))
                    (r_f3_2 p0 p1 p2)
                    (r_f3_2 p0 p1 p2))
                  (none))
                (none)))
            (none))
          (none))
        (none)))
theorem e_f3 (p0 : (List Int)) (p1 : Item) (p2 : Int) : runF g_f3 tc_f3 rv_f3 false [.t (.sl tI) p0, .t tyItem p1, .t tI p2] [] = r_f3 p0 p1 p2 := by kernel_rfl
theorem ok_f3 : Option.map (trC Tryz.prog) Tryz.f3.body = some tc_f3.er := by kernel_rfl
theorem rok_f3 : trVs Tryz.prog Tryz.f3.results.toList = some (rv_f3.map Prod.fst) := by kernel_rfl
theorem en_f3 : Entered Tryz.prog 3 := .inr ⟨by decide, _, Tryz.func3, by kernel_rfl, by kernel_rfl⟩
theorem gk_f3 : GOk Tryz.prog g_f3 := gok_of _ (by
  intro p hp
  simp only [List.mem_cons, List.not_mem_nil, or_false] at hp
  rcases hp with rfl | rfl | rfl | rfl | rfl | rfl | rfl | rfl | rfl | rfl | rfl | rfl | rfl | rfl | rfl | rfl | rfl | rfl | rfl | rfl | rfl
  · exact ⟨en_f9, ms_f9⟩
  · exact ⟨en_f10, ms_f10⟩
  · exact ⟨en_f11, ms_f11⟩
  · exact ⟨en_f12, ms_f12⟩
  · exact ⟨en_f13, ms_f13⟩
  · exact ⟨en_f14, ms_f14⟩
  · exact ⟨en_f15, ms_f15⟩
  · exact ⟨en_f16, ms_f16⟩
  · exact ⟨en_f17, ms_f17⟩
  · exact ⟨en_f18, ms_f18⟩
  · exact ⟨en_f19, ms_f19⟩
  · exact ⟨en_f20, ms_f20⟩
  · exact ⟨en_f21, ms_f21⟩
  · exact ⟨en_f22, ms_f22⟩
  · exact ⟨en_f23, ms_f23⟩
  · exact ⟨en_f24, ms_f24⟩
  · exact ⟨en_f25, ms_f25⟩
  · exact ⟨en_f26, ms_f26⟩
  · exact ⟨en_f27, ms_f27⟩
  · exact ⟨en_f28, ms_f28⟩
  · exact ⟨en_f29, ms_f29⟩)
theorem l_f3_0 (x2 : Int) (x11 : Int) (y4 : Item) (y8 : Policy) (y9 : Item) (y10 : Keep) (y50 : Dice) (h : (dOk y50 && nameOk y9.1 && nameOk y4.1 && polLen y8 && decide (0 ≤ x11 ∧ x11 ≤ 2 ∧ y9.2.2.2.1.length ≤ 1000 ∧ y4.2.2.2.1.length ≤ 1000)) = true) : lp_f3_0 x2 x11 y4 y8 y9 y10 y50 = la_f3_0 x2 x11 y4 y8 y9 y10 y50 := by
  simp only [Bool.and_eq_true, decide_eq_true_eq] at h
  obtain ⟨⟨⟨⟨hd, hn9⟩, hn4⟩, hp⟩, h0, h2, h9, h4⟩ := h
  obtain ⟨k, rfl⟩ := Int.eq_ofNat_of_zero_le h0
  obtain ⟨m, hm⟩ : ∃ m, m = 2 - k := ⟨_, rfl⟩
  induction m generalizing k y9 y50 with
  | zero =>
    rw [ln_f3_0]
    have e1 : ilt (k : Int) 2 = false := by simp only [ilt, decide_eq_false_iff_not]; omega
    simp only [n_f3_0, e1, br_false, la_f3_0]
  | succ m ih =>
    rw [ln_f3_0]
    have e1 : ilt (k : Int) 2 = true := by simp only [ilt, decide_eq_true_eq]; omega
    have c1 : ofOk y50 [60, 5, 300, 40000] = true := by simp [ofOk, hd]
    have c2 : ∀ a b : Int, cIx [a, b] (k : Int) = true := fun a b => by rw [cIx_nat]; exact decide_eq_true (by simp; omega)
    have f : fineLen y8 y9 = true := by unfold fineLen; rw [hp, hn9]; rfl
    have r : ∀ d, renLen y8 y9 y10 d = true := fun d => f
    have i : itemLen y9 = true := hn9
    have z1 : ∀ a : Int, ine a a = false := fun a => by simp [ine]
    have z2 : ∀ a : Bool, bneq a a = false := fun a => by cases a <;> rfl
    have sl : ∀ d, sameLen (RenewF y8 y9 y10 d).1 (RenewF y8 y9 y10 d).1 = true := fun d => ren_size h9
    have ih : lp_f3_0 x2 ((k + 1 : Nat) : Int) y4 y8 y4 y10 (dofN y50 [60, 5, 300, 40000]) = la_f3_0 x2 ((k + 1 : Nat) : Int) y4 y8 y4 y10 (dofN y50 [60, 5, 300, 40000]) := by
      apply ih
      all_goals first | exact dOk_of hd | exact hn4 | exact h4 | omega
    simp only [n_f3_0, e1, c1, c2, f, r, i, z1, z2, sl, same22_self, br_true, br_false, Bool.not_true, add1 (show k < 4611686018427387904 by omega)]
    exact ih
theorem lo_f3_0 : ∀ S l p, g_f3.L 0 (fgt fg_f3_0 S) = some (true, l) → pickA l = some p → loopF (roundF g_f3 fg_f3_0 tb_f3_0) S = some p :=
  lok_of (s := sh_f3_0) ⟨by decide, by decide⟩ (by kernel_rfl) fun x y hok p hp => by
  simp only [pickA_br, pickA_one] at hp
  exact (l_f3_0 x.1 x.2.2.2.2.2.2.1 y.1 y.2.1 y.2.2.1 y.2.2.2.1 y.2.2.2.2.1 (by simpa using hok)).trans hp
theorem lk_f3 : tc_f3.lok g_f3 := by
  repeat (first | exact trivial | exact lo_f3_0 | refine ⟨?_, ?_⟩)
theorem s_f3 (p0 : List Int) (p1 : Item) (p2 : Int) (h : lmOk p0 p1 p2 = true) : r_f3 p0 p1 p2 = some (.t .bool (lawMade p0 p1 p2), []) := by
  have h : nameOk p1.1 = true := h
  simp only [r_f3, r_f3_1, r_f3_2]
  refine br_intro (fun _ => rfl) (fun g1 => br_intro (fun _ => rfl) (fun g2 => ?_))
  simp only [igt, llen, decide_eq_false_iff_not] at g2
  have hd := not_light g1
  have hN : dOk (polN (roll p0)) = true := dOk_pol hd
  have hM := dOk_made hN
  have hE : dOk (dnext (madeN (polN (roll p0))) 12) = true := dOk_next hM
  have hU := dOk_use hE
  have hms := made_size (polN (roll p0))
  have o12 : oneOk (madeN (polN (roll p0))) 12 = true := by simp [oneOk, nextOk, hM]
  have o9 : oneOk (useN (dnext (madeN (polN (roll p0))) 12)) 9 = true := by simp [oneOk, nextOk, hU]
  have hU2 : dOk (dnext (useN (dnext (madeN (polN (roll p0))) 12)) 9) = true := dOk_next hU
  have h6 := pol_size (roll p0)
  have c1 : ∀ x : Rule, cApp (polV (roll p0)).1 [x] 48 = true := fun x => cApp_ok (by simp; omega) (by omega)
  have p1k : polLen ((polV (roll p0)).1, ((polV (roll p0)).2.1, ())) = true := pol_lenI _
  have p2k : ∀ r : Rule, polLen ((polV (roll p0)).1 ++ [r], ((polV (roll p0)).2.1, ())) = true := fun r => pol_lenA _ r
  have n1 : nameOk (madeV (polN (roll p0))).1 = true := decide_eq_true (by omega)
  have q1 : decide (0 ≤ (0 : Int) ∧ (0 : Int) ≤ 2 ∧ (madeV (polN (roll p0))).2.2.2.1.length ≤ 1000 ∧ p1.2.2.2.1.length ≤ 1000) = true := decide_eq_true ⟨by omega, by omega, by omega, by omega⟩
  simp only [hd, hN, hE, hU2, o12, o9, c1, h, p1k, p2k, n1, q1, br_true, Bool.and_self]
  cases done (madeN (polN (roll p0))) 12 <;> cases done (useN (dnext (madeN (polN (roll p0))) 12)) 9 <;> rfl
def sp_f3 : Ent := spec (.pr (.sl tI) (.pr tyItem (.pr tI .nil))) (fun x => (lmOk x.1 x.2.1 x.2.2.1)) (fun x => (.t .bool (lawMade x.1 x.2.1 x.2.2.1)))
theorem ms_f3 : Meets Tryz.prog 3 (strip sp_f3) := by
  obtain ⟨c, hc, hi⟩ := Option.map_eq_some_iff.1 ok_f3
  exact meets_spec (R := runF g_f3 tc_f3 rv_f3 false) (meets_of (by decide) Tryz.func3 hc hi Tryz.ntmps3 rok_f3 gk_f3 lk_f3 mixed) fun x hok => (e_f3 x.1 x.2.1 x.2.2.1).trans (s_f3 x.1 x.2.1 x.2.2.1 hok)
theorem okw_LifetimeMade (z0 : List Int) (z1 : Item) (z2 : Int) (w0 : Ty.wf (.sl (.int .i64)) z0) (w1 : Ty.wf tyItem z1) (w2 : Ty.wf (.int .i64) z2) : lmOk z0 z1 z2 = true := decide_eq_true w1.1
end
end Go.Proofs.YtfehjdaielifiaaGreat.K.OI
namespace Go.Proofs.YtfehjdaielifiaaGreat.K
open Go.RowKit OI
theorem walkLifetimeMade (z0 : (List Int)) (z1 : Item) (z2 : Int) (W : World) (v0 : Value) (v1 : Value) (v2 : Value) (c0 : C noX W (fun _ => .no) (V.t (.sl tI) z0).d v0) (c1 : C noX W (fun _ => .no) (V.t tyItem z1).d v1) (c2 : C noX W (fun _ => .no) (V.t tI z2).d v2) (w0 : Ty.wf (.sl tI) z0) (w1 : Ty.wf tyItem z1) (w2 : Ty.wf tI z2) :
    Calls Tryz.prog 3 #[v0, v1, v2] W fun r w' => r = .returned (.bool true) ∧ Below W.heap.size W w' :=
  calls_true (by decide) ms_f3 (args := [.t (.sl tI) z0, .t tyItem z1, .t tI z2]) (strip_spec (x := (z0, z1, z2, ())) rfl (okw_LifetimeMade z0 z1 z2 w0 w1 w2)) (by simp only [V.ds, Cs]; exact ⟨_, _, rfl, c0, _, _, rfl, c1, _, _, rfl, c2, rfl⟩)
end Go.Proofs.YtfehjdaielifiaaGreat.K
