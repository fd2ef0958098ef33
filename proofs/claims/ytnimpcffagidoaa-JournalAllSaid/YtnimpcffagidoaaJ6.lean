/-
 The law JournalAll.
-/
import Derived.Test.YtnimpcffagidoaaJ5
import Derived.KernelRfl
set_option linter.unusedSimpArgs false
set_option linter.unusedVariables false
namespace Go.Proofs.Ytnimpcffagidoaa.K
open Go.RowKit
noncomputable section
theorem ine_s (a : Int) : ine a a = false := by simp [ine]
theorem sne_s (a : ByteArray) : sne a a = false := by simp [sne]
theorem ieq_s (a : Int) : ieq a a = true := by simp [ieq]
theorem eqDs_s (a : List Decision) : eqDs a a = true := by simp [eqDs]
theorem sameV_s (a : Ledger) : sameV a a = true := by simp [sameV]
theorem rep_le : ∀ (l : List Decision) (z : Ledger), (l.foldl repF z).1.length ≤ z.1.length + l.length
 | [], _ => Nat.le_refl _
 | d :: l, z => by
  have h1 := rep_len z d
  have h2 := rep_le l (repF z d)
  rw [List.foldl_cons, List.length_cons]
  omega
theorem open_le {s : ByteArray} (h : s.size ≤ 2000) : (openV s).1.length ≤ 2000 := by
 have := openL_le (s.size + 1) s.data.toList
 have hsl : s.data.toList.length = s.size := by simp
 show ((opens s).map und).length ≤ 2000
 rw [List.length_map]
 unfold opens
 omega
theorem crash_le {s t : ByteArray} {n : Int} (h1 : s.size ≤ 1000) (h2 : t.size ≤ 1000) : (crashV s n t).size ≤ 2000 := by
 unfold crashV
 rw [ByteArray.size_append, ByteArray.size_extract]
 omega
theorem dmod_ok (a : Int) (k : Nat) (h : k ≤ 1000000) (h0 : 0 < k) : dmodOk a (k : Int) = true := by
 simp only [dmodOk, decide_eq_true_eq]
 omega
theorem strOf_size (l : List Int) : (strOf l).size = l.length := by
 show Array.size _ = _
 simp [strOf]
def jaL0 (s : ByteArray) (l : List Decision) (n k : Int) : Bool := rngOk l n k && sz6 s
def jaL1 (s : ByteArray) (l : List Int) (n k : Int) : Bool := rngOk l n k && sz6 s
def jaL2 (s : ByteArray) (l : List ByteArray) (n k : Int) : Bool := rngOk l n k && (decide (s.size ≤ 1000) && l.all fun w => decide (w.size ≤ 1000))
def jaL3 (t s : ByteArray) (b : List Int) (l : List Int) (n k : Int) : Bool := rngOk l n k && decide (t.size ≤ 300 ∧ s.size ≤ 1000 ∧ b.length ≤ 1000)
def lawAll (_ : List Int) (_ : Decision) (_ : ByteArray) (_ _ _ : Int) : Bool := true
def dr_f11_0 : List DO := [(.mk (oM 62 (.ld true 5 (.t 7))) []), (.mk (oV 63 13) []), (.mk (oP 64 (.bd [(.v (.int .i64 0)), (.v (.int .i64 0)), (.v (.int .i64 0)), (.v (.int .i64 0)), (.v (.int .i64 0))] [])) []), (.mk (oC 65 29 [(.t 63), (.t 64)]) [1, 2]), (.mk (oP 66 (.bd [(.v (.int .i64 0)), (.v (.int .i64 0)), (.v (.int .i64 0)), (.v (.int .i64 0)), (.v (.int .i64 0))] [(0, 1, (cI 40000)), (1, 1, (cI 400)), (2, 1, (cI 5)), (3, 1, (cI 40)), (4, 1, (cI 1))])) []), (.mk (oM 67 (.bs 40 5 3 [(.v (.int .i64 0)), (.v (.int .i64 0)), (.v (.int .i64 0)), (.v (.int .i64 0)), (.v (.int .i64 0)), (.v (.int .i64 0)), (.v (.int .i64 0)), (.v (.int .i64 0)), (.v (.int .i64 0)), (.v (.int .i64 0)), (.v (.int .i64 0)), (.v (.int .i64 0)), (.v (.int .i64 0)), (.v (.int .i64 0)), (.v (.int .i64 0))] [(0, 5, (.t 62)), (5, 5, (.t 65)), (10, 5, (.t 66))])) [0, 3, 4]), (.mk (oP 68 (.len false (.t 67))) [5]), (.mk (oP 69 (.mv (cI 0))) [])]
def fg_f11_0 : Fg := ⟨[(2, some .str), (3, some tI), (4, some tI), (5, some tI), (14, some .str), (67, some (.sl tyDecision)), (68, some tI), (69, some tI)], []⟩
def tb_f11_0 : TC := (.sq (.reg [(oP 70 (.bin false .lss (.t 69) (.t 68)))]) (.sq (.cd (.t 70) .sk (.fg ⟨[(2, some .str), (3, some tI), (4, some tI), (5, some tI), (14, some .str)], []⟩ (.ex 0))) (.sq (.bk 1 (.sq (.reg [(oP 71 (.ix 5 (.t 67) (.t 69))), (oM 72 (.ld true 5 (.t 71))), (oM 16 (.new [(.v (.int .i64 0)), (.v (.int .i64 0)), (.v (.int .i64 0)), (.v (.int .i64 0)), (.v (.int .i64 0))])), (.mk none none (.m (.st 5 (.t 16) (.t 72))))]) (.sq (.reg [(oM 74 (.ld true 5 (.t 16))), (oC 75 45 [(.t 74)]), (oV 73 75), (oP 76 (.ext 0 (.t 73))), (oP 77 (.ext 1 (.t 73))), (oV 17 76), (oV 18 77)]) (.sq (.reg [(oM 79 (.ld true 5 (.t 16))), (oC 80 46 [(.t 79)]), (oV 78 80), (oP 81 (.ext 0 (.t 78))), (oP 82 (.ext 1 (.t 78))), (oV 19 81), (oV 20 82)]) (.sq (.reg [(oV 84 14), (oM 85 (.ld true 5 (.t 16))), (oC 86 47 [(.t 84), (.t 85)]), (oV 83 86), (oP 87 (.ext 0 (.t 83))), (oP 88 (.ext 1 (.t 83))), (oV 21 87), (oV 22 88)]) (.sq (.reg [(oV 90 14), (oM 91 (.ld true 5 (.t 16))), (oC 92 48 [(.t 90), (.t 91)]), (oV 89 92), (oP 93 (.ext 0 (.t 89))), (oP 94 (.ext 1 (.t 89))), (oV 23 93), (oV 24 94)]) (.sq (.reg [(oV 95 17), (oV 96 19), (oP 97 (.bin false .neq (.t 95) (.t 96))), (oV 98 97), (oQ 99 98 false (.mv (.t 18))), (oQ 100 98 false (.mv (.t 20))), (oQ 101 98 false (.bin false .neq (.t 99) (.t 100))), (oP 102 (.pick (.t 98) (cB true) (.t 101))), (oV 103 102), (oQ 104 103 false (.mv (.t 21))), (oQ 105 103 false (.mv (.t 23))), (oQ 106 103 false (.bin false .neq (.t 104) (.t 105))), (oP 107 (.pick (.t 103) (cB true) (.t 106))), (oV 108 107), (oQ 109 108 false (.mv (.t 22))), (oQ 110 108 false (.mv (.t 24))), (oQ 111 108 false (.bin false .neq (.t 109) (.t 110))), (oP 112 (.pick (.t 108) (cB true) (.t 111)))]) (.cd (.t 112) (.sq (.reg [(oP 12 (.mv (cB false)))]) (.fg ⟨[(12, some .bool)], []⟩ .rt)) .sk)))))))) (.reg [(oP 113 (.bin false .add (.t 69) (cI 1))), (oV 69 113)]))))
def fg_f11_1 : Fg := ⟨[(2, some .str), (4, some tI), (14, some .str), (25, some (.sl (.int .u8))), (27, some tI), (31, some .str), (136, some (.sl tI)), (137, some tI), (138, some tI), (145, some (.sl .str)), (146, some tI), (147, some tI), (217, some (.sl tI)), (218, some tI), (219, some tI)], [(115, none), (5115, none), (10115, none), (15115, none)]⟩
def tb_f11_1 : TC := (.sq (.reg [(oP 220 (.bin false .lss (.t 219) (.t 218)))]) (.sq (.cd (.t 220) .sk (.fg ⟨[(2, some .str), (4, some tI), (14, some .str), (25, none), (27, some tI), (136, some (.sl tI)), (137, some tI), (138, some tI), (145, some (.sl .str)), (146, some tI), (147, some tI)], [(115, none), (5115, none), (10115, none), (15115, none)]⟩ (.ex 6))) (.sq (.bk 7 (.sq (.reg [(oP 221 (.ix 1 (.t 217) (.t 219))), (oL 222 221), (oV 41 222)]) (.sq (.reg [(oV 224 31), (oV 225 41), (oC 226 21 [(.t 224), (.t 225)]), (oV 223 226), (oP 227 (.ext 0 (.t 223))), (oP 228 (.ext 1 (.t 223))), (oP 229 (.ext 2 (.t 223))), (oM 42 (.new [(.v (.int .i64 0)), (.v (.int .i64 0)), (.v (.int .i64 0)), (.v (.int .i64 0)), (.v (.int .i64 0))])), (.mk none none (.m (.st 5 (.t 42) (.t 227)))), (oV 43 228), (oV 44 229)]) (.sq (.reg [(oV 231 31), (oV 232 41), (oC 233 55 [(.t 231), (.t 232)]), (oV 230 233), (oP 234 (.ext 0 (.t 230))), (oP 235 (.ext 1 (.t 230))), (oP 236 (.ext 2 (.t 230))), (oM 45 (.new [(.v (.int .i64 0)), (.v (.int .i64 0)), (.v (.int .i64 0)), (.v (.int .i64 0)), (.v (.int .i64 0))])), (.mk none none (.m (.st 5 (.t 45) (.t 234)))), (oV 46 235), (oV 47 236)]) (.sq (.reg [(oM 237 (.ld true 5 (.t 42))), (oM 238 (.ld true 5 (.t 45))), (oP 239 (.eqs true [0, 0, 0, 0, 0] (.t 237) (.t 238))), (oV 240 239), (oQ 241 240 false (.mv (.t 43))), (oQ 242 240 false (.mv (.t 46))), (oQ 243 240 false (.bin false .neq (.t 241) (.t 242))), (oP 244 (.pick (.t 240) (cB true) (.t 243))), (oV 245 244), (oQ 246 245 false (.mv (.t 44))), (oQ 247 245 false (.mv (.t 47))), (oQ 248 245 false (.bin false .neq (.t 246) (.t 247))), (oP 249 (.pick (.t 245) (cB true) (.t 248)))]) (.cd (.t 249) (.sq (.reg [(oP 12 (.mv (cB false)))]) (.fg ⟨[(12, some .bool)], []⟩ .rt)) .sk)))))) (.reg [(oP 250 (.bin false .add (.t 219) (cI 1))), (oV 219 250)]))))
def fg_f11_2 : Fg := ⟨[(2, some .str), (4, some tI), (14, some .str), (25, some (.sl (.int .u8))), (27, some tI), (136, some (.sl tI)), (137, some tI), (138, some tI), (145, some (.sl .str)), (146, some tI), (147, some tI)], [(115, none), (5115, none), (10115, none), (15115, none)]⟩
def tb_f11_2 : TC := (.sq (.reg [(oP 148 (.bin false .lss (.t 147) (.t 146)))]) (.sq (.cd (.t 148) .sk (.fg ⟨[(2, some .str), (4, some tI), (14, some .str), (25, none), (136, some (.sl tI)), (137, some tI), (138, some tI)], [(115, none), (5115, none), (10115, none), (15115, none)]⟩ (.ex 4))) (.sq (.bk 5 (.sq (.reg [(oP 149 (.ix 1 (.t 145) (.t 147))), (oL 150 149), (oV 29 150)]) (.sq (.reg [(oV 151 14), (oV 152 27), (oV 153 29), (oC 154 49 [(.t 151), (.t 152), (.t 153)]), (oV 155 14), (oV 156 27), (oV 157 29), (oC 158 50 [(.t 155), (.t 156), (.t 157)]), (oV 30 154), (oV 31 158)]) (.sq (.reg [(oV 160 31), (oC 161 19 [(.t 160)]), (oV 159 161), (oP 162 (.ext 0 (.t 159))), (oP 163 (.ext 1 (.t 159))), (oV 32 162), (oV 33 163)]) (.sq (.reg [(oV 165 31), (oC 166 51 [(.t 165)]), (oV 164 166), (oP 167 (.ext 0 (.t 164))), (oP 168 (.ext 1 (.t 164))), (oV 34 167), (oV 35 168)]) (.sq (.reg [(oV 170 31), (oC 171 52 [(.t 170)]), (oV 169 171), (oP 172 (.ext 0 (.t 169))), (oP 173 (.ext 1 (.t 169))), (oM 36 (.new [(.v (.slice none 0 0))])), (.mk none none (.m (.st 1 (.t 36) (.t 172)))), (oV 37 173)]) (.sq (.reg [(oV 175 31), (oC 176 53 [(.t 175)]), (oV 174 176), (oP 177 (.ext 0 (.t 174))), (oP 178 (.ext 1 (.t 174))), (oM 38 (.new [(.v (.slice none 0 0))])), (.mk none none (.m (.st 1 (.t 38) (.t 177)))), (oV 39 178)]) (.sq (.sq (.reg [(oV 179 30), (oV 180 31), (oP 181 (.bin false .neq (.t 179) (.t 180))), (oV 182 181), (oQ 183 182 false (.mv (.t 33))), (oQ 184 182 false (.mv (.t 35))), (oQ 185 182 false (.bin false .neq (.t 183) (.t 184))), (oP 186 (.pick (.t 182) (cB true) (.t 185))), (oV 187 186), (oQ 188 187 false (.mv (.t 37))), (oQ 189 187 false (.mv (.t 39))), (oQ 190 187 false (.bin false .neq (.t 188) (.t 189))), (oP 191 (.pick (.t 187) (cB true) (.t 190))), (oV 192 191), (oQ 193 192 false (.mv (.t 32))), (oQ 194 192 false (.mv (.t 34))), (oG 195 192 false (.call 22 [(.t 193), (.t 194)])), (oQ 196 192 false (.nt (.t 195))), (oP 197 (.pick (.t 192) (cB true) (.t 196))), (oV 198 197), (oG 199 198 false (.m (.ld true 1 (.t 36)))), (oG 200 198 false (.m (.ld true 1 (.t 38)))), (oG 201 198 false (.call 31 [(.t 199), (.t 200)])), (oQ 202 198 false (.nt (.t 201))), (oP 203 (.pick (.t 198) (cB true) (.t 202))), (oV 204 203), (oQ 205 204 false (.mv (.t 31))), (oG 206 204 false (.call 23 [(.t 205)])), (oQ 207 204 false (.mv (.t 31))), (oG 208 204 false (.call 54 [(.t 207)])), (oQ 209 204 false (.bin false .neq (.t 206) (.t 208))), (oP 210 (.pick (.t 204) (cB true) (.t 209)))]) (.cd (.t 210) (.sq (.reg [(oP 12 (.mv (cB false)))]) (.fg ⟨[(12, some .bool)], []⟩ .rt)) .sk)) (.sq (.reg [(oV 211 4), (oV 212 4), (oV 213 31), (oP 214 (.len true (.t 213))), (oP 215 (.bin false .add (.t 214) (cI 2))), (oC 216 20 [(.t 212), (.t 215)]), (oM 217 (.bs 3 1 3 [(.v (.int .i64 0)), (.v (.int .i64 0)), (.v (.int .i64 0))] [(0, 1, (.t 211)), (1, 1, (.t 216)), (2, 1, (cI 0))])), (oP 218 (.len false (.t 217))), (oP 219 (.mv (cI 0)))]) (.bk 6 (.lp 1 fg_f11_1 tb_f11_1))))))))))) (.reg [(oP 251 (.bin false .add (.t 147) (cI 1))), (oV 147 251)]))))
def fg_f11_3 : Fg := ⟨[(2, some .str), (4, some tI), (14, some .str), (25, some (.sl (.int .u8))), (136, some (.sl tI)), (137, some tI), (138, some tI)], [(115, none), (5115, none), (10115, none), (15115, none)]⟩
def tb_f11_3 : TC := (.sq (.reg [(oP 139 (.bin false .lss (.t 138) (.t 137)))]) (.sq (.cd (.t 139) .sk (.fg ⟨[(2, some .str)], []⟩ (.ex 2))) (.sq (.bk 3 (.sq (.reg [(oP 140 (.ix 1 (.t 136) (.t 138))), (oL 141 140), (oV 27 141)]) (.sq (.reg [(oV 142 2), (oV 143 25), (oC 144 2440384 [(.t 143)]), (oM 145 (.bs 9 1 3 [(.v (.string (ByteArray.mk #[]))), (.v (.string (ByteArray.mk #[]))), (.v (.string (ByteArray.mk #[])))] [(0, 1, (.t 142)), (1, 1, (.c (.v (.string (ByteArray.mk #[]))))), (2, 1, (.t 144))])), (oP 146 (.len false (.t 145))), (oP 147 (.mv (cI 0)))]) (.bk 4 (.lp 2 fg_f11_2 tb_f11_2))))) (.reg [(oP 252 (.bin false .add (.t 138) (cI 1))), (oV 138 252)]))))
def tc_f11 : TC := (.sq (.reg [(oM 7 (.box (.t 1))), (oP 12 (.mv (cB false)))]) (.sq (.sq (.reg [(oV 48 0), (oC 49 15 [(.t 48)]), (oP 50 (.nt (.t 49))), (oV 51 50), (oQ 52 51 false (.mv (.t 2))), (oQ 53 51 false (.len true (.t 52))), (oQ 54 51 false (.bin false .gtr (.t 53) (cI 300))), (oP 55 (.pick (.t 51) (cB true) (.t 54)))]) (.cd (.t 55) (.sq (.reg [(oC 56 14 []), (oV 12 56)]) .rt) .sk)) (.sq (.reg [(oV 57 0), (oC 58 17 [(.t 57)]), (oV 13 58)]) (.sq (.reg [(oV 59 13), (oC 60 16 [(.t 59), (cI 6)]), (oC 61 18 [(.t 60)]), (oV 14 61)]) (.sq (.sq (.dr dr_f11_0 [(0, [7]), (1, [58, 5058, 10058, 15058]), (2, []), (3, [58, 65, 5058, 5065, 10058, 10065, 15058, 15065]), (4, []), (5, []), (6, []), (7, [])] (.of [0, 1, 2, 4, 7, 3, 5, 6])) (.bk 0 (.lp 0 fg_f11_0 tb_f11_0))) (.sq (.reg [(oV 114 14), (oC 115 4840144 [(.t 114)]), (oV 25 115)]) (.sq (.sq (.reg [(oV 116 25), (oP 117 (.len false (.t 116))), (oP 118 (.bin false .gtr (.t 117) (cI 0)))]) (.cd (.t 118) (.reg [(oV 119 25), (oV 120 4), (oV 121 25), (oP 122 (.len false (.t 121))), (oC 123 20 [(.t 120), (.t 122)]), (oP 124 (.ix 1 (.t 119) (.t 123))), (oL 125 124), (oV 126 5), (oP 127 (.cv .u8 (.t 126))), (oP 128 (.bin false .add (.t 125) (.t 127))), (oP 129 (.ix 1 (.t 119) (.t 123))), (.mk none none (.m (.st 1 (.t 129) (.t 128))))]) .sk)) (.sq (.sq (.reg [(oV 130 3), (oV 131 3), (oV 132 14), (oP 133 (.len true (.t 132))), (oP 134 (.bin false .add (.t 133) (cI 2))), (oC 135 20 [(.t 131), (.t 134)]), (oM 136 (.bs 3 1 2 [(.v (.int .i64 0)), (.v (.int .i64 0))] [(0, 1, (.t 130)), (1, 1, (.t 135))])), (oP 137 (.len false (.t 136))), (oP 138 (.mv (cI 0)))]) (.bk 2 (.fz [115] (.lp 3 fg_f11_3 tb_f11_3)))) (.sq (.reg [(oV 253 2), (oC 254 13 [(.t 253)]), (oV 255 2), (oC 256 56 [(.t 255)]), (oP 257 (.bin false .eql (.t 254) (.t 256))), (oV 258 257), (oG 259 258 true (.call 14 [])), (oP 260 (.pick (.t 258) (.t 259) (cB false))), (oV 12 260)]) .rt)))))))))
def rv_f11 : List (RV × Option Ty) := [((.t 12), some .bool)]
abbrev sh_f11_0 : Sh := ⟨[(2, .ty .str), (3, .ty tI), (4, .ty tI), (5, .ty tI), (14, .ty .str), (67, .ty (.sl tyDecision)), (68, .ty tI), (69, .ty tI)], []⟩
def st_f11_0 (x2 : ByteArray) (x3 : Int) (x4 : Int) (x5 : Int) (x14 : ByteArray) (x67 : (List Decision)) (x68 : Int) (x69 : Int) : VS := sh_f11_0.st (x2, x3, x4, x5, x14, x67, x68, x69, ()) ()
abbrev sh_f11_0_ret : Sh := ⟨[(12, .ty .bool)], []⟩
def st_f11_0_ret (x12 : Bool) : VS := sh_f11_0_ret.st (x12, ()) ()
abbrev sh_f11_0_e0 : Sh := ⟨[(2, .ty .str), (3, .ty tI), (4, .ty tI), (5, .ty tI), (14, .ty .str)], []⟩
def st_f11_0_e0 (x2 : ByteArray) (x3 : Int) (x4 : Int) (x5 : Int) (x14 : ByteArray) : VS := sh_f11_0_e0.st (x2, x3, x4, x5, x14, ()) ()
-- loop 0: (x2 : ByteArray) (x3 : Int) (x4 : Int) (x5 : Int) (x14 : ByteArray) (x67 : (List Decision)) (x68 : Int) (x69 : Int); out: ('ret',) (x12 : Bool); ('exit', 0) (x2 : ByteArray) (x3 : Int) (x4 : Int) (x5 : Int) (x14 : ByteArray)
abbrev sh_f11_1 : Sh := ⟨[(2, .ty .str), (4, .ty tI), (14, .ty .str), (25, .ty (.sl (.int .u8))), (27, .ty tI), (31, .ty .str), (136, .ty (.sl tI)), (137, .ty tI), (138, .ty tI), (145, .ty (.sl .str)), (146, .ty tI), (147, .ty tI), (217, .ty (.sl tI)), (218, .ty tI), (219, .ty tI)], [(115, .no), (5115, .no), (10115, .no), (15115, .no)]⟩
def st_f11_1 (x2 : ByteArray) (x4 : Int) (x14 : ByteArray) (x25 : (List Int)) (x27 : Int) (x31 : ByteArray) (x136 : (List Int)) (x137 : Int) (x138 : Int) (x145 : (List ByteArray)) (x146 : Int) (x147 : Int) (x217 : (List Int)) (x218 : Int) (x219 : Int) : VS := sh_f11_1.st (x2, x4, x14, x25, x27, x31, x136, x137, x138, x145, x146, x147, x217, x218, x219, ()) ((), (), (), (), ())
abbrev sh_f11_1_ret : Sh := ⟨[(12, .ty .bool)], []⟩
def st_f11_1_ret (x12 : Bool) : VS := sh_f11_1_ret.st (x12, ()) ()
abbrev sh_f11_1_e6 : Sh := ⟨[(2, .ty .str), (4, .ty tI), (14, .ty .str), (25, .ty (.sl (.int .u8))), (27, .ty tI), (136, .ty (.sl tI)), (137, .ty tI), (138, .ty tI), (145, .ty (.sl .str)), (146, .ty tI), (147, .ty tI)], [(115, .no), (5115, .no), (10115, .no), (15115, .no)]⟩
def st_f11_1_e6 (x2 : ByteArray) (x4 : Int) (x14 : ByteArray) (x25 : (List Int)) (x27 : Int) (x136 : (List Int)) (x137 : Int) (x138 : Int) (x145 : (List ByteArray)) (x146 : Int) (x147 : Int) : VS := sh_f11_1_e6.st (x2, x4, x14, x25, x27, x136, x137, x138, x145, x146, x147, ()) ((), (), (), (), ())
-- loop 1: (x2 : ByteArray) (x4 : Int) (x14 : ByteArray) (x25 : (List Int)) (x27 : Int) (x31 : ByteArray) (x136 : (List Int)) (x137 : Int) (x138 : Int) (x145 : (List ByteArray)) (x146 : Int) (x147 : Int) (x217 : (List Int)) (x218 : Int) (x219 : Int); out: ('ret',) (x12 : Bool); ('exit', 6) (x2 : ByteArray) (x4 : Int) (x14 : ByteArray) (x25 : (List Int)) (x27 : Int) (x136 : (List Int)) (x137 : Int) (x138 : Int) (x145 : (List ByteArray)) (x146 : Int) (x147 : Int)
abbrev sh_f11_2 : Sh := ⟨[(2, .ty .str), (4, .ty tI), (14, .ty .str), (25, .ty (.sl (.int .u8))), (27, .ty tI), (136, .ty (.sl tI)), (137, .ty tI), (138, .ty tI), (145, .ty (.sl .str)), (146, .ty tI), (147, .ty tI)], [(115, .no), (5115, .no), (10115, .no), (15115, .no)]⟩
def st_f11_2 (x2 : ByteArray) (x4 : Int) (x14 : ByteArray) (x25 : (List Int)) (x27 : Int) (x136 : (List Int)) (x137 : Int) (x138 : Int) (x145 : (List ByteArray)) (x146 : Int) (x147 : Int) : VS := sh_f11_2.st (x2, x4, x14, x25, x27, x136, x137, x138, x145, x146, x147, ()) ((), (), (), (), ())
abbrev sh_f11_2_ret : Sh := ⟨[(12, .ty .bool)], []⟩
def st_f11_2_ret (x12 : Bool) : VS := sh_f11_2_ret.st (x12, ()) ()
abbrev sh_f11_2_e4 : Sh := ⟨[(2, .ty .str), (4, .ty tI), (14, .ty .str), (25, .ty (.sl (.int .u8))), (136, .ty (.sl tI)), (137, .ty tI), (138, .ty tI)], [(115, .no), (5115, .no), (10115, .no), (15115, .no)]⟩
def st_f11_2_e4 (x2 : ByteArray) (x4 : Int) (x14 : ByteArray) (x25 : (List Int)) (x136 : (List Int)) (x137 : Int) (x138 : Int) : VS := sh_f11_2_e4.st (x2, x4, x14, x25, x136, x137, x138, ()) ((), (), (), (), ())
-- loop 2: (x2 : ByteArray) (x4 : Int) (x14 : ByteArray) (x25 : (List Int)) (x27 : Int) (x136 : (List Int)) (x137 : Int) (x138 : Int) (x145 : (List ByteArray)) (x146 : Int) (x147 : Int); out: ('ret',) (x12 : Bool); ('exit', 4) (x2 : ByteArray) (x4 : Int) (x14 : ByteArray) (x25 : (List Int)) (x136 : (List Int)) (x137 : Int) (x138 : Int)
abbrev sh_f11_3 : Sh := ⟨[(2, .ty .str), (4, .ty tI), (14, .ty .str), (25, .ty (.sl (.int .u8))), (136, .ty (.sl tI)), (137, .ty tI), (138, .ty tI)], [(115, .no), (5115, .no), (10115, .no), (15115, .no)]⟩
def st_f11_3 (x2 : ByteArray) (x4 : Int) (x14 : ByteArray) (x25 : (List Int)) (x136 : (List Int)) (x137 : Int) (x138 : Int) : VS := sh_f11_3.st (x2, x4, x14, x25, x136, x137, x138, ()) ((), (), (), (), ())
abbrev sh_f11_3_ret : Sh := ⟨[(12, .ty .bool)], []⟩
def st_f11_3_ret (x12 : Bool) : VS := sh_f11_3_ret.st (x12, ()) ()
abbrev sh_f11_3_e2 : Sh := ⟨[(2, .ty .str)], []⟩
def st_f11_3_e2 (x2 : ByteArray) : VS := sh_f11_3_e2.st (x2, ()) ()
-- loop 3: (x2 : ByteArray) (x4 : Int) (x14 : ByteArray) (x25 : (List Int)) (x136 : (List Int)) (x137 : Int) (x138 : Int); out: ('ret',) (x12 : Bool); ('exit', 2) (x2 : ByteArray)
def L_f11_0 : VS → Option (Bool × List (Bool × Exit × VS)) := mkL sh_f11_0 (fun x y => (jaL0 x.2.2.2.2.1 x.2.2.2.2.2.1 x.2.2.2.2.2.2.1 x.2.2.2.2.2.2.2.1)) (fun x y => [((false), .ret, st_f11_0_ret (false)), (true, .exit 0, st_f11_0_e0 (x.1) (x.2.1) (x.2.2.1) (x.2.2.2.1) (x.2.2.2.2.1))])
def L_f11_1 : VS → Option (Bool × List (Bool × Exit × VS)) := mkL sh_f11_1 (fun x y => (jaL1 x.2.2.2.2.2.1 x.2.2.2.2.2.2.2.2.2.2.2.2.1 x.2.2.2.2.2.2.2.2.2.2.2.2.2.1 x.2.2.2.2.2.2.2.2.2.2.2.2.2.2.1)) (fun x y => [((false), .ret, st_f11_1_ret (false)), (true, .exit 6, st_f11_1_e6 (x.1) (x.2.1) (x.2.2.1) (x.2.2.2.1) (x.2.2.2.2.1) (x.2.2.2.2.2.2.1) (x.2.2.2.2.2.2.2.1) (x.2.2.2.2.2.2.2.2.1) (x.2.2.2.2.2.2.2.2.2.1) (x.2.2.2.2.2.2.2.2.2.2.1) (x.2.2.2.2.2.2.2.2.2.2.2.1))])
def L_f11_2 : VS → Option (Bool × List (Bool × Exit × VS)) := mkL sh_f11_2 (fun x y => (jaL2 x.2.2.1 x.2.2.2.2.2.2.2.2.1 x.2.2.2.2.2.2.2.2.2.1 x.2.2.2.2.2.2.2.2.2.2.1)) (fun x y => [((false), .ret, st_f11_2_ret (false)), (true, .exit 4, st_f11_2_e4 (x.1) (x.2.1) (x.2.2.1) (x.2.2.2.1) (x.2.2.2.2.2.1) (x.2.2.2.2.2.2.1) (x.2.2.2.2.2.2.2.1))])
def L_f11_3 : VS → Option (Bool × List (Bool × Exit × VS)) := mkL sh_f11_3 (fun x y => (jaL3 x.1 x.2.2.1 x.2.2.2.1 x.2.2.2.2.1 x.2.2.2.2.2.1 x.2.2.2.2.2.2.1)) (fun x y => [(true, .exit 2, st_f11_3_e2 (x.1))])
def g_f11 : G := ⟨TYs, [], 261, EL [(13, sp_f13), (14, sp_f14), (15, sp_f15), (16, sp_f16), (17, sp_f17), (18, sp_f18), (19, sp_f19), (20, sp_f20), (21, sp_f21), (22, sp_f22), (23, sp_f23), (29, sp_f29), (31, sp_f31), (45, sp_f45), (46, sp_f46), (47, sp_f47), (48, sp_f48), (49, sp_f49), (50, sp_f50), (51, sp_f51), (52, sp_f52), (53, sp_f53), (54, sp_f54), (55, sp_f55), (56, sp_f56), (2440384, sp_op_convert_24_9), (4840144, sp_op_convert_9_24_O)], keeps, (Ls [L_f11_0, L_f11_1, L_f11_2, L_f11_3]), IL [], RL []⟩
def b_f11_0 (x2 : ByteArray) (x3 : Int) (x4 : Int) (x5 : Int) (x14 : ByteArray) (x67 : (List Decision)) (x68 : Int) (x69 : Int) : Option (Exit × VS) :=
 br ((ilt x69 x68))
  (br (cIx x67 x69)
   (br ((appOk x14 (lgt tyDecision x67 (Int.toNat x69))))
    (br ((appOk x14 (lgt tyDecision x67 (Int.toNat x69))))
     (br ((sne ((encV (lgt tyDecision x67 (Int.toNat x69))).1) ((encV (lgt tyDecision x67 (Int.toNat x69))).1)))
      (some (.ret, st_f11_0_ret false))
      (br ((ine ((encV (lgt tyDecision x67 (Int.toNat x69))).2) ((encV (lgt tyDecision x67 (Int.toNat x69))).2)))
       (some (.ret, st_f11_0_ret false))
       (br ((sne ((appV x14 (lgt tyDecision x67 (Int.toNat x69))).1) ((appV x14 (lgt tyDecision x67 (Int.toNat x69))).1)))
        (some (.ret, st_f11_0_ret false))
        (br ((ine ((appV x14 (lgt tyDecision x67 (Int.toNat x69))).2) ((appV x14 (lgt tyDecision x67 (Int.toNat x69))).2)))
         (some (.ret, st_f11_0_ret false))
         (some (.normal, st_f11_0 x2 x3 x4 x5 x14 x67 x68 (iadd .i64 x69 1)))))))
     (none))
    (none))
   (none))
  (some (.exit 0, st_f11_0_e0 x2 x3 x4 x5 x14))
noncomputable def lp_f11_0 (x2 : ByteArray) (x3 : Int) (x4 : Int) (x5 : Int) (x14 : ByteArray) (x67 : (List Decision)) (x68 : Int) (x69 : Int) : Option (Exit × VS) := loopF (roundF g_f11 fg_f11_0 tb_f11_0) (st_f11_0 x2 x3 x4 x5 x14 x67 x68 x69)
noncomputable def n_f11_0 (x2 : ByteArray) (x3 : Int) (x4 : Int) (x5 : Int) (x14 : ByteArray) (x67 : (List Decision)) (x68 : Int) (x69 : Int) : Option (Exit × VS) :=
 br ((ilt x69 x68))
  (br (cIx x67 x69)
   (br ((appOk x14 (lgt tyDecision x67 (Int.toNat x69))))
    (br ((appOk x14 (lgt tyDecision x67 (Int.toNat x69))))
     (br ((sne ((encV (lgt tyDecision x67 (Int.toNat x69))).1) ((encV (lgt tyDecision x67 (Int.toNat x69))).1)))
      (some (.ret, st_f11_0_ret false))
      (br ((ine ((encV (lgt tyDecision x67 (Int.toNat x69))).2) ((encV (lgt tyDecision x67 (Int.toNat x69))).2)))
       (some (.ret, st_f11_0_ret false))
       (br ((sne ((appV x14 (lgt tyDecision x67 (Int.toNat x69))).1) ((appV x14 (lgt tyDecision x67 (Int.toNat x69))).1)))
        (some (.ret, st_f11_0_ret false))
        (br ((ine ((appV x14 (lgt tyDecision x67 (Int.toNat x69))).2) ((appV x14 (lgt tyDecision x67 (Int.toNat x69))).2)))
         (some (.ret, st_f11_0_ret false))
         (lp_f11_0 x2 x3 x4 x5 x14 x67 x68 (iadd .i64 x69 1))))))
     (none))
    (none))
   (none))
  (some (.exit 0, st_f11_0_e0 x2 x3 x4 x5 x14))
def la_f11_0 (x2 : ByteArray) (x3 : Int) (x4 : Int) (x5 : Int) (x14 : ByteArray) (x67 : (List Decision)) (x68 : Int) (x69 : Int) : Option (Exit × VS) := br (false) (some (.ret, st_f11_0_ret (false))) <| some (.exit 0, st_f11_0_e0 (x2) (x3) (x4) (x5) (x14))
theorem be_f11_0 (x2 : ByteArray) (x3 : Int) (x4 : Int) (x5 : Int) (x14 : ByteArray) (x67 : (List Decision)) (x68 : Int) (x69 : Int) : roundF g_f11 fg_f11_0 tb_f11_0 (st_f11_0 x2 x3 x4 x5 x14 x67 x68 x69) = b_f11_0 x2 x3 x4 x5 x14 x67 x68 x69 := by kernel_rfl
theorem ln_f11_0 (x2 : ByteArray) (x3 : Int) (x4 : Int) (x5 : Int) (x14 : ByteArray) (x67 : (List Decision)) (x68 : Int) (x69 : Int) : lp_f11_0 x2 x3 x4 x5 x14 x67 x68 x69 = n_f11_0 x2 x3 x4 x5 x14 x67 x68 x69 := (loopF_nxt _ _).trans (by
 rw [be_f11_0]
 simp only [b_f11_0, n_f11_0, nxt_br, nxt_n, nxt_r, nxt_e, nxt_0]
 rfl)
def b_f11_1 (x2 : ByteArray) (x4 : Int) (x14 : ByteArray) (x25 : (List Int)) (x27 : Int) (x31 : ByteArray) (x136 : (List Int)) (x137 : Int) (x138 : Int) (x145 : (List ByteArray)) (x146 : Int) (x147 : Int) (x217 : (List Int)) (x218 : Int) (x219 : Int) : Option (Exit × VS) :=
 br ((ilt x219 x218))
  (br (cIx x217 x219)
   (br ((dcdOk x31 (lgt tI x217 (Int.toNat x219))))
    (br ((dcdOk x31 (lgt tI x217 (Int.toNat x219))))
     (br ((!(and (ieq (((dcdV x31 (lgt tI x217 (Int.toNat x219))).1).1) (((dcdV x31 (lgt tI x217 (Int.toNat x219))).1).1)) (and (ieq ((((dcdV x31 (lgt tI x217 (Int.toNat x219))).1).2).1) ((((dcdV x31 (lgt tI x217 (Int.toNat x219))).1).2).1)) (and (ieq (((((dcdV x31 (lgt tI x217 (Int.toNat x219))).1).2).2).1) (((((dcdV x31 (lgt tI x217 (Int.toNat x219))).1).2).2).1)) (and (ieq ((((((dcdV x31 (lgt tI x217 (Int.toNat x219))).1).2).2).2).1) ((((((dcdV x31 (lgt tI x217 (Int.toNat x219))).1).2).2).2).1)) (and (ieq (((((((dcdV x31 (lgt tI x217 (Int.toNat x219))).1).2).2).2).2).1) (((((((dcdV x31 (lgt tI x217 (Int.toNat x219))).1).2).2).2).2).1)) true)))))))
      (some (.ret, st_f11_1_ret false))
      (br ((ine (((dcdV x31 (lgt tI x217 (Int.toNat x219))).2).1) (((dcdV x31 (lgt tI x217 (Int.toNat x219))).2).1)))
       (some (.ret, st_f11_1_ret false))
       (br ((ine (((dcdV x31 (lgt tI x217 (Int.toNat x219))).2).2) (((dcdV x31 (lgt tI x217 (Int.toNat x219))).2).2)))
        (some (.ret, st_f11_1_ret false))
        (some (.normal, st_f11_1 x2 x4 x14 x25 x27 x31 x136 x137 x138 x145 x146 x147 x217 x218 (iadd .i64 x219 1))))))
     (none))
    (none))
   (none))
  (some (.exit 6, st_f11_1_e6 x2 x4 x14 x25 x27 x136 x137 x138 x145 x146 x147))
noncomputable def lp_f11_1 (x2 : ByteArray) (x4 : Int) (x14 : ByteArray) (x25 : (List Int)) (x27 : Int) (x31 : ByteArray) (x136 : (List Int)) (x137 : Int) (x138 : Int) (x145 : (List ByteArray)) (x146 : Int) (x147 : Int) (x217 : (List Int)) (x218 : Int) (x219 : Int) : Option (Exit × VS) := loopF (roundF g_f11 fg_f11_1 tb_f11_1) (st_f11_1 x2 x4 x14 x25 x27 x31 x136 x137 x138 x145 x146 x147 x217 x218 x219)
noncomputable def n_f11_1 (x2 : ByteArray) (x4 : Int) (x14 : ByteArray) (x25 : (List Int)) (x27 : Int) (x31 : ByteArray) (x136 : (List Int)) (x137 : Int) (x138 : Int) (x145 : (List ByteArray)) (x146 : Int) (x147 : Int) (x217 : (List Int)) (x218 : Int) (x219 : Int) : Option (Exit × VS) :=
 br ((ilt x219 x218))
  (br (cIx x217 x219)
   (br ((dcdOk x31 (lgt tI x217 (Int.toNat x219))))
    (br ((dcdOk x31 (lgt tI x217 (Int.toNat x219))))
     (br ((!(and (ieq (((dcdV x31 (lgt tI x217 (Int.toNat x219))).1).1) (((dcdV x31 (lgt tI x217 (Int.toNat x219))).1).1)) (and (ieq ((((dcdV x31 (lgt tI x217 (Int.toNat x219))).1).2).1) ((((dcdV x31 (lgt tI x217 (Int.toNat x219))).1).2).1)) (and (ieq (((((dcdV x31 (lgt tI x217 (Int.toNat x219))).1).2).2).1) (((((dcdV x31 (lgt tI x217 (Int.toNat x219))).1).2).2).1)) (and (ieq ((((((dcdV x31 (lgt tI x217 (Int.toNat x219))).1).2).2).2).1) ((((((dcdV x31 (lgt tI x217 (Int.toNat x219))).1).2).2).2).1)) (and (ieq (((((((dcdV x31 (lgt tI x217 (Int.toNat x219))).1).2).2).2).2).1) (((((((dcdV x31 (lgt tI x217 (Int.toNat x219))).1).2).2).2).2).1)) true)))))))
      (some (.ret, st_f11_1_ret false))
      (br ((ine (((dcdV x31 (lgt tI x217 (Int.toNat x219))).2).1) (((dcdV x31 (lgt tI x217 (Int.toNat x219))).2).1)))
       (some (.ret, st_f11_1_ret false))
       (br ((ine (((dcdV x31 (lgt tI x217 (Int.toNat x219))).2).2) (((dcdV x31 (lgt tI x217 (Int.toNat x219))).2).2)))
        (some (.ret, st_f11_1_ret false))
        (lp_f11_1 x2 x4 x14 x25 x27 x31 x136 x137 x138 x145 x146 x147 x217 x218 (iadd .i64 x219 1)))))
     (none))
    (none))
   (none))
  (some (.exit 6, st_f11_1_e6 x2 x4 x14 x25 x27 x136 x137 x138 x145 x146 x147))
def la_f11_1 (x2 : ByteArray) (x4 : Int) (x14 : ByteArray) (x25 : (List Int)) (x27 : Int) (x31 : ByteArray) (x136 : (List Int)) (x137 : Int) (x138 : Int) (x145 : (List ByteArray)) (x146 : Int) (x147 : Int) (x217 : (List Int)) (x218 : Int) (x219 : Int) : Option (Exit × VS) := br (false) (some (.ret, st_f11_1_ret (false))) <| some (.exit 6, st_f11_1_e6 (x2) (x4) (x14) (x25) (x27) (x136) (x137) (x138) (x145) (x146) (x147))
theorem be_f11_1 (x2 : ByteArray) (x4 : Int) (x14 : ByteArray) (x25 : (List Int)) (x27 : Int) (x31 : ByteArray) (x136 : (List Int)) (x137 : Int) (x138 : Int) (x145 : (List ByteArray)) (x146 : Int) (x147 : Int) (x217 : (List Int)) (x218 : Int) (x219 : Int) : roundF g_f11 fg_f11_1 tb_f11_1 (st_f11_1 x2 x4 x14 x25 x27 x31 x136 x137 x138 x145 x146 x147 x217 x218 x219) = b_f11_1 x2 x4 x14 x25 x27 x31 x136 x137 x138 x145 x146 x147 x217 x218 x219 := by kernel_rfl
theorem ln_f11_1 (x2 : ByteArray) (x4 : Int) (x14 : ByteArray) (x25 : (List Int)) (x27 : Int) (x31 : ByteArray) (x136 : (List Int)) (x137 : Int) (x138 : Int) (x145 : (List ByteArray)) (x146 : Int) (x147 : Int) (x217 : (List Int)) (x218 : Int) (x219 : Int) : lp_f11_1 x2 x4 x14 x25 x27 x31 x136 x137 x138 x145 x146 x147 x217 x218 x219 = n_f11_1 x2 x4 x14 x25 x27 x31 x136 x137 x138 x145 x146 x147 x217 x218 x219 := (loopF_nxt _ _).trans (by
 rw [be_f11_1]
 simp only [b_f11_1, n_f11_1, nxt_br, nxt_n, nxt_r, nxt_e, nxt_0]
 rfl)
def b_f11_2 (x2 : ByteArray) (x4 : Int) (x14 : ByteArray) (x25 : (List Int)) (x27 : Int) (x136 : (List Int)) (x137 : Int) (x138 : Int) (x145 : (List ByteArray)) (x146 : Int) (x147 : Int) : Option (Exit × VS) :=
 br ((ilt x147 x146))
  (br (cIx x145 x147)
   (br ((crashOk x14 x27 (lgt .str x145 (Int.toNat x147))))
    (br ((crashOk x14 x27 (lgt .str x145 (Int.toNat x147))))
     (br ((sz6 (crashV x14 x27 (lgt .str x145 (Int.toNat x147)))))
      (br ((sz6 (crashV x14 x27 (lgt .str x145 (Int.toNat x147)))))
       (br ((replayOk (crashV x14 x27 (lgt .str x145 (Int.toNat x147)))))
        (br ((replayOk (crashV x14 x27 (lgt .str x145 (Int.toNat x147)))))
         (br ((sne (crashV x14 x27 (lgt .str x145 (Int.toNat x147))) (crashV x14 x27 (lgt .str x145 (Int.toNat x147)))))
          (some (.ret, st_f11_2_ret false))
          (br ((ine ((openV (crashV x14 x27 (lgt .str x145 (Int.toNat x147)))).2) ((openV (crashV x14 x27 (lgt .str x145 (Int.toNat x147)))).2)))
           (some (.ret, st_f11_2_ret false))
           (br ((ine ((replayV (crashV x14 x27 (lgt .str x145 (Int.toNat x147)))).2) ((replayV (crashV x14 x27 (lgt .str x145 (Int.toNat x147)))).2)))
            (some (.ret, st_f11_2_ret false))
            (br ((eqOk ((openV (crashV x14 x27 (lgt .str x145 (Int.toNat x147)))).1) ((openV (crashV x14 x27 (lgt .str x145 (Int.toNat x147)))).1)))
             (br ((!(eqDs ((openV (crashV x14 x27 (lgt .str x145 (Int.toNat x147)))).1) ((openV (crashV x14 x27 (lgt .str x145 (Int.toNat x147)))).1))))
              (some (.ret, st_f11_2_ret false))
              (br ((sameOk ((replayV (crashV x14 x27 (lgt .str x145 (Int.toNat x147)))).1) ((replayV (crashV x14 x27 (lgt .str x145 (Int.toNat x147)))).1)))
               (br ((!(sameV ((replayV (crashV x14 x27 (lgt .str x145 (Int.toNat x147)))).1) ((replayV (crashV x14 x27 (lgt .str x145 (Int.toNat x147)))).1))))
                (some (.ret, st_f11_2_ret false))
                (br ((sz6 (crashV x14 x27 (lgt .str x145 (Int.toNat x147)))))
                 (br ((sz6 (crashV x14 x27 (lgt .str x145 (Int.toNat x147)))))
                  (br ((sne (wholeV (crashV x14 x27 (lgt .str x145 (Int.toNat x147)))) (wholeV (crashV x14 x27 (lgt .str x145 (Int.toNat x147))))))
                   (some (.ret, st_f11_2_ret false))
                   (br ((dmodOk x4 (iadd .i64 (slen (crashV x14 x27 (lgt .str x145 (Int.toNat x147)))) 2)))
                    (br ((jaL1 (crashV x14 x27 (lgt .str x145 (Int.toNat x147))) ([x4, (dmod x4 (iadd .i64 (slen (crashV x14 x27 (lgt .str x145 (Int.toNat x147)))) 2)), 0]) (llen ([x4, (dmod x4 (iadd .i64 (slen (crashV x14 x27 (lgt .str x145 (Int.toNat x147)))) 2)), 0])) (0 : Int)))
                     (br ((false))
                      (some (.ret, st_f11_2_ret (false)))
                      (some (.normal, st_f11_2 (x2) (x4) (x14) (x25) (x27) (x136) (x137) (x138) (x145) (x146) (iadd .i64 (x147) 1))))
                     (none))
                    (none)))
                  (none))
                 (none)))
               (none)))
             (none)))))
         (none))
        (none))
       (none))
      (none))
     (none))
    (none))
   (none))
  (some (.exit 4, st_f11_2_e4 x2 x4 x14 x25 x136 x137 x138))
noncomputable def lp_f11_2 (x2 : ByteArray) (x4 : Int) (x14 : ByteArray) (x25 : (List Int)) (x27 : Int) (x136 : (List Int)) (x137 : Int) (x138 : Int) (x145 : (List ByteArray)) (x146 : Int) (x147 : Int) : Option (Exit × VS) := loopF (roundF g_f11 fg_f11_2 tb_f11_2) (st_f11_2 x2 x4 x14 x25 x27 x136 x137 x138 x145 x146 x147)
noncomputable def n_f11_2 (x2 : ByteArray) (x4 : Int) (x14 : ByteArray) (x25 : (List Int)) (x27 : Int) (x136 : (List Int)) (x137 : Int) (x138 : Int) (x145 : (List ByteArray)) (x146 : Int) (x147 : Int) : Option (Exit × VS) :=
 br ((ilt x147 x146))
  (br (cIx x145 x147)
   (br ((crashOk x14 x27 (lgt .str x145 (Int.toNat x147))))
    (br ((crashOk x14 x27 (lgt .str x145 (Int.toNat x147))))
     (br ((sz6 (crashV x14 x27 (lgt .str x145 (Int.toNat x147)))))
      (br ((sz6 (crashV x14 x27 (lgt .str x145 (Int.toNat x147)))))
       (br ((replayOk (crashV x14 x27 (lgt .str x145 (Int.toNat x147)))))
        (br ((replayOk (crashV x14 x27 (lgt .str x145 (Int.toNat x147)))))
         (br ((sne (crashV x14 x27 (lgt .str x145 (Int.toNat x147))) (crashV x14 x27 (lgt .str x145 (Int.toNat x147)))))
          (some (.ret, st_f11_2_ret false))
          (br ((ine ((openV (crashV x14 x27 (lgt .str x145 (Int.toNat x147)))).2) ((openV (crashV x14 x27 (lgt .str x145 (Int.toNat x147)))).2)))
           (some (.ret, st_f11_2_ret false))
           (br ((ine ((replayV (crashV x14 x27 (lgt .str x145 (Int.toNat x147)))).2) ((replayV (crashV x14 x27 (lgt .str x145 (Int.toNat x147)))).2)))
            (some (.ret, st_f11_2_ret false))
            (br ((eqOk ((openV (crashV x14 x27 (lgt .str x145 (Int.toNat x147)))).1) ((openV (crashV x14 x27 (lgt .str x145 (Int.toNat x147)))).1)))
             (br ((!(eqDs ((openV (crashV x14 x27 (lgt .str x145 (Int.toNat x147)))).1) ((openV (crashV x14 x27 (lgt .str x145 (Int.toNat x147)))).1))))
              (some (.ret, st_f11_2_ret false))
              (br ((sameOk ((replayV (crashV x14 x27 (lgt .str x145 (Int.toNat x147)))).1) ((replayV (crashV x14 x27 (lgt .str x145 (Int.toNat x147)))).1)))
               (br ((!(sameV ((replayV (crashV x14 x27 (lgt .str x145 (Int.toNat x147)))).1) ((replayV (crashV x14 x27 (lgt .str x145 (Int.toNat x147)))).1))))
                (some (.ret, st_f11_2_ret false))
                (br ((sz6 (crashV x14 x27 (lgt .str x145 (Int.toNat x147)))))
                 (br ((sz6 (crashV x14 x27 (lgt .str x145 (Int.toNat x147)))))
                  (br ((sne (wholeV (crashV x14 x27 (lgt .str x145 (Int.toNat x147)))) (wholeV (crashV x14 x27 (lgt .str x145 (Int.toNat x147))))))
                   (some (.ret, st_f11_2_ret false))
                   (br ((dmodOk x4 (iadd .i64 (slen (crashV x14 x27 (lgt .str x145 (Int.toNat x147)))) 2)))
                    (br ((jaL1 (crashV x14 x27 (lgt .str x145 (Int.toNat x147))) ([x4, (dmod x4 (iadd .i64 (slen (crashV x14 x27 (lgt .str x145 (Int.toNat x147)))) 2)), 0]) (llen ([x4, (dmod x4 (iadd .i64 (slen (crashV x14 x27 (lgt .str x145 (Int.toNat x147)))) 2)), 0])) (0 : Int)))
                     (br ((false))
                      (some (.ret, st_f11_2_ret (false)))
                      (lp_f11_2 (x2) (x4) (x14) (x25) (x27) (x136) (x137) (x138) (x145) (x146) (iadd .i64 (x147) 1)))
                     (none))
                    (none)))
                  (none))
                 (none)))
               (none)))
             (none)))))
         (none))
        (none))
       (none))
      (none))
     (none))
    (none))
   (none))
  (some (.exit 4, st_f11_2_e4 x2 x4 x14 x25 x136 x137 x138))
def la_f11_2 (x2 : ByteArray) (x4 : Int) (x14 : ByteArray) (x25 : (List Int)) (x27 : Int) (x136 : (List Int)) (x137 : Int) (x138 : Int) (x145 : (List ByteArray)) (x146 : Int) (x147 : Int) : Option (Exit × VS) := br (false) (some (.ret, st_f11_2_ret (false))) <| some (.exit 4, st_f11_2_e4 (x2) (x4) (x14) (x25) (x136) (x137) (x138))
theorem be_f11_2 (x2 : ByteArray) (x4 : Int) (x14 : ByteArray) (x25 : (List Int)) (x27 : Int) (x136 : (List Int)) (x137 : Int) (x138 : Int) (x145 : (List ByteArray)) (x146 : Int) (x147 : Int) : roundF g_f11 fg_f11_2 tb_f11_2 (st_f11_2 x2 x4 x14 x25 x27 x136 x137 x138 x145 x146 x147) = b_f11_2 x2 x4 x14 x25 x27 x136 x137 x138 x145 x146 x147 := by kernel_rfl
theorem ln_f11_2 (x2 : ByteArray) (x4 : Int) (x14 : ByteArray) (x25 : (List Int)) (x27 : Int) (x136 : (List Int)) (x137 : Int) (x138 : Int) (x145 : (List ByteArray)) (x146 : Int) (x147 : Int) : lp_f11_2 x2 x4 x14 x25 x27 x136 x137 x138 x145 x146 x147 = n_f11_2 x2 x4 x14 x25 x27 x136 x137 x138 x145 x146 x147 := (loopF_nxt _ _).trans (by
 rw [be_f11_2]
 simp only [b_f11_2, n_f11_2, nxt_br, nxt_n, nxt_r, nxt_e, nxt_0]
 rfl)
def b_f11_3 (x2 : ByteArray) (x4 : Int) (x14 : ByteArray) (x25 : (List Int)) (x136 : (List Int)) (x137 : Int) (x138 : Int) : Option (Exit × VS) :=
 br ((ilt x138 x137))
  (br (cIx x136 x138)
   (br ((jaL2 x14 ([x2, (ByteArray.mk #[]), (strOf x25)]) (llen ([x2, (ByteArray.mk #[]), (strOf x25)])) (0 : Int)))
    (br ((false))
     (some (.ret, st_f11_3_ret (false)))
     (some (.normal, st_f11_3 (x2) (x4) (x14) (x25) (x136) (x137) (iadd .i64 (x138) 1))))
    (none))
   (none))
  (some (.exit 2, st_f11_3_e2 x2))
noncomputable def lp_f11_3 (x2 : ByteArray) (x4 : Int) (x14 : ByteArray) (x25 : (List Int)) (x136 : (List Int)) (x137 : Int) (x138 : Int) : Option (Exit × VS) := loopF (roundF g_f11 fg_f11_3 tb_f11_3) (st_f11_3 x2 x4 x14 x25 x136 x137 x138)
noncomputable def n_f11_3 (x2 : ByteArray) (x4 : Int) (x14 : ByteArray) (x25 : (List Int)) (x136 : (List Int)) (x137 : Int) (x138 : Int) : Option (Exit × VS) :=
 br ((ilt x138 x137))
  (br (cIx x136 x138)
   (br ((jaL2 x14 ([x2, (ByteArray.mk #[]), (strOf x25)]) (llen ([x2, (ByteArray.mk #[]), (strOf x25)])) (0 : Int)))
    (br ((false))
     (some (.ret, st_f11_3_ret (false)))
     (lp_f11_3 (x2) (x4) (x14) (x25) (x136) (x137) (iadd .i64 (x138) 1)))
    (none))
   (none))
  (some (.exit 2, st_f11_3_e2 x2))
def la_f11_3 (x2 : ByteArray) (x4 : Int) (x14 : ByteArray) (x25 : (List Int)) (x136 : (List Int)) (x137 : Int) (x138 : Int) : Option (Exit × VS) := some (.exit 2, st_f11_3_e2 (x2))
theorem be_f11_3 (x2 : ByteArray) (x4 : Int) (x14 : ByteArray) (x25 : (List Int)) (x136 : (List Int)) (x137 : Int) (x138 : Int) : roundF g_f11 fg_f11_3 tb_f11_3 (st_f11_3 x2 x4 x14 x25 x136 x137 x138) = b_f11_3 x2 x4 x14 x25 x136 x137 x138 := by kernel_rfl
theorem ln_f11_3 (x2 : ByteArray) (x4 : Int) (x14 : ByteArray) (x25 : (List Int)) (x136 : (List Int)) (x137 : Int) (x138 : Int) : lp_f11_3 x2 x4 x14 x25 x136 x137 x138 = n_f11_3 x2 x4 x14 x25 x136 x137 x138 := (loopF_nxt _ _).trans (by
 rw [be_f11_3]
 simp only [b_f11_3, n_f11_3, nxt_br, nxt_n, nxt_r, nxt_e, nxt_0]
 rfl)
def r_f11_1 (p0 : (List Int)) (p1 : Decision) (p2 : ByteArray) (p3 : Int) (p4 : Int) (p5 : Int) : Option (V × List VO) :=
 br ((sz6 ((p2))))
  (br ((sz6 ((p2))))
   (br ((ieq (sumV ((p2))) (sumV ((p2)))))
    (some (.t .bool awake2, []))
    (some (.t .bool false, [])))
   (none))
  (none)
def r_f11 (p0 : (List Int)) (p1 : Decision) (p2 : ByteArray) (p3 : Int) (p4 : Int) (p5 : Int) : Option (V × List VO) :=
 br ((!(light p0)))
  (some (.t .bool awake2, []))
  (br ((igt (slen p2) 300))
   (some (.t .bool awake2, []))
   (br ((ledOk (roll p0) 6))
    (br ((wrtOk (ledV (roll p0) 6)))
     (br ((decOk (ledN (roll p0) 6) (0, (0, (0, (0, (0, ())))))))
      (br ((jaL0 (wrtV (ledV (roll p0) 6)) ([(p1.1, (p1.2.1, (p1.2.2.1, (p1.2.2.2.1, (p1.2.2.2.2.1, ()))))), ((decV (ledN (roll p0) 6) (0, (0, (0, (0, (0, ())))))).1, (((decV (ledN (roll p0) 6) (0, (0, (0, (0, (0, ())))))).2).1, ((((decV (ledN (roll p0) 6) (0, (0, (0, (0, (0, ())))))).2).2).1, (((((decV (ledN (roll p0) 6) (0, (0, (0, (0, (0, ())))))).2).2).2).1, ((((((decV (ledN (roll p0) 6) (0, (0, (0, (0, (0, ())))))).2).2).2).2).1, ()))))), (40000, (400, (5, (40, (1, ())))))]) (llen ([(p1.1, (p1.2.1, (p1.2.2.1, (p1.2.2.2.1, (p1.2.2.2.2.1, ()))))), ((decV (ledN (roll p0) 6) (0, (0, (0, (0, (0, ())))))).1, (((decV (ledN (roll p0) 6) (0, (0, (0, (0, (0, ())))))).2).1, ((((decV (ledN (roll p0) 6) (0, (0, (0, (0, (0, ())))))).2).2).1, (((((decV (ledN (roll p0) 6) (0, (0, (0, (0, (0, ())))))).2).2).2).1, ((((((decV (ledN (roll p0) 6) (0, (0, (0, (0, (0, ())))))).2).2).2).2).1, ()))))), (40000, (400, (5, (40, (1, ())))))])) (0 : Int)))
       (br ((false))
        (some (.t .bool (false), []))
        (br ((bytesOk ((wrtV (ledV (roll p0) 6)))))
         (br ((igt (llen (bytesL ((wrtV (ledV (roll p0) 6))))) 0))
          (br ((dmodOk (p4) (llen (bytesL ((wrtV (ledV (roll p0) 6)))))))
           (br (cIx (bytesL ((wrtV (ledV (roll p0) 6)))) (dmod (p4) (llen (bytesL ((wrtV (ledV (roll p0) 6)))))))
            (br (cLd (bytesL ((wrtV (ledV (roll p0) 6)))) (Int.toNat (dmod (p4) (llen (bytesL ((wrtV (ledV (roll p0) 6))))))))
             (br (cIx (bytesL ((wrtV (ledV (roll p0) 6)))) (dmod (p4) (llen (bytesL ((wrtV (ledV (roll p0) 6)))))))
              (br (cLd (bytesL ((wrtV (ledV (roll p0) 6)))) (Int.toNat (dmod (p4) (llen (bytesL ((wrtV (ledV (roll p0) 6))))))))
               (br ((dmodOk (p3) (iadd .i64 (slen ((wrtV (ledV (roll p0) 6)))) 2)))
                (br ((jaL3 (p2) ((wrtV (ledV (roll p0) 6))) (List.set (bytesL ((wrtV (ledV (roll p0) 6)))) (Int.toNat (dmod (p4) (llen (bytesL ((wrtV (ledV (roll p0) 6))))))) (iadd .u8 (lgt (.int .u8) (bytesL ((wrtV (ledV (roll p0) 6)))) (Int.toNat (dmod (p4) (llen (bytesL ((wrtV (ledV (roll p0) 6)))))))) (icv .u8 (p5)))) ([(p3), (dmod (p3) (iadd .i64 (slen ((wrtV (ledV (roll p0) 6)))) 2))]) (llen ([(p3), (dmod (p3) (iadd .i64 (slen ((wrtV (ledV (roll p0) 6)))) 2))])) (0 : Int)))
                 (r_f11_1 p0 p1 p2 p3 p4 p5)
                 (none))
                (none))
               (none))
              (none))
             (none))
            (none))
           (none))
          (br ((dmodOk (p3) (iadd .i64 (slen ((wrtV (ledV (roll p0) 6)))) 2)))
           (br ((jaL3 (p2) ((wrtV (ledV (roll p0) 6))) (bytesL ((wrtV (ledV (roll p0) 6)))) ([(p3), (dmod (p3) (iadd .i64 (slen ((wrtV (ledV (roll p0) 6)))) 2))]) (llen ([(p3), (dmod (p3) (iadd .i64 (slen ((wrtV (ledV (roll p0) 6)))) 2))])) (0 : Int)))
            (r_f11_1 p0 p1 p2 p3 p4 p5)
            (none))
           (none)))
         (none)))
       (none))
      (none))
     (none))
    (none)))
theorem e_f11 (p0 : (List Int)) (p1 : Decision) (p2 : ByteArray) (p3 : Int) (p4 : Int) (p5 : Int) : runF g_f11 tc_f11 rv_f11 false [.t (.sl tI) p0, .t tyDecision p1, .t .str p2, .t tI p3, .t tI p4, .t tI p5] [] = r_f11 p0 p1 p2 p3 p4 p5 := by kernel_rfl
theorem ok_f11 : Option.map (trC Try.prog) Try.f11.body = some tc_f11.er := by kernel_rfl
theorem rok_f11 : trVs Try.prog Try.f11.results.toList = some (rv_f11.map Prod.fst) := by kernel_rfl
theorem gk_f11 : GOk Try.prog g_f11 := gok_of _ (by
 intro p hp
 simp only [List.mem_cons, List.not_mem_nil, or_false] at hp
 rcases hp with rfl | rfl | rfl | rfl | rfl | rfl | rfl | rfl | rfl | rfl | rfl | rfl | rfl | rfl | rfl | rfl | rfl | rfl | rfl | rfl | rfl | rfl | rfl | rfl | rfl | rfl | rfl
 ·exact ⟨en_f13, ms_f13⟩
 ·exact ⟨en_f14, ms_f14⟩
 ·exact ⟨en_f15, ms_f15⟩
 ·exact ⟨en_f16, ms_f16⟩
 ·exact ⟨en_f17, ms_f17⟩
 ·exact ⟨en_f18, ms_f18⟩
 ·exact ⟨en_f19, ms_f19⟩
 ·exact ⟨en_f20, ms_f20⟩
 ·exact ⟨en_f21, ms_f21⟩
 ·exact ⟨en_f22, ms_f22⟩
 ·exact ⟨en_f23, ms_f23⟩
 ·exact ⟨en_f29, ms_f29⟩
 ·exact ⟨en_f31, ms_f31⟩
 ·exact ⟨en_f45, ms_f45⟩
 ·exact ⟨en_f46, ms_f46⟩
 ·exact ⟨en_f47, ms_f47⟩
 ·exact ⟨en_f48, ms_f48⟩
 ·exact ⟨en_f49, ms_f49⟩
 ·exact ⟨en_f50, ms_f50⟩
 ·exact ⟨en_f51, ms_f51⟩
 ·exact ⟨en_f52, ms_f52⟩
 ·exact ⟨en_f53, ms_f53⟩
 ·exact ⟨en_f54, ms_f54⟩
 ·exact ⟨en_f55, ms_f55⟩
 ·exact ⟨en_f56, ms_f56⟩
 ·exact ⟨en_op_convert_24_9, ms_op_convert_24_9⟩
 ·exact ⟨en_op_convert_9_24_O, ms_op_convert_9_24_O⟩)
theorem l_f11_0 (x2 : ByteArray) (x3 : Int) (x4 : Int) (x5 : Int) (x14 : ByteArray) (x67 : (List Decision)) (x68 : Int) (x69 : Int) (h : (jaL0 x14 x67 x68 x69) = true) : lp_f11_0 x2 x3 x4 x5 x14 x67 x68 x69 = la_f11_0 x2 x3 x4 x5 x14 x67 x68 x69 := by
 obtain ⟨h0, h6⟩ := Bool.and_eq_true_iff.1 h
 obtain ⟨rfl, h3, k, rfl, hk⟩ := rng_k h0
 clear h0
 refine range_ind x67 (fun k => lp_f11_0 x2 x3 x4 x5 x14 x67 (x67.length : Int) (k : Int) = la_f11_0 x2 x3 x4 x5 x14 x67 (x67.length : Int) (k : Int)) ?_ ?_ k hk
 ·rw [ln_f11_0]
  simp only [n_f11_0, la_f11_0, ilt_nat, Nat.lt_irrefl, decide_false, br_false]
 ·intro k hk ih
  rw [ln_f11_0]
  have e1 : ∀ d, appOk x14 d = true := fun _ => h6
  simp only [n_f11_0, ilt_nat, cIx_nat, hk, decide_true, br_true, Int.toNat_natCast, add1 (show k < 4611686018427387904 by omega), e1, ine_s, sne_s, br_false, ih]
  simp only [la_f11_0]
theorem l_f11_1 (x2 : ByteArray) (x4 : Int) (x14 : ByteArray) (x25 : (List Int)) (x27 : Int) (x31 : ByteArray) (x136 : (List Int)) (x137 : Int) (x138 : Int) (x145 : (List ByteArray)) (x146 : Int) (x147 : Int) (x217 : (List Int)) (x218 : Int) (x219 : Int) (h : (jaL1 x31 x217 x218 x219) = true) : lp_f11_1 x2 x4 x14 x25 x27 x31 x136 x137 x138 x145 x146 x147 x217 x218 x219 = la_f11_1 x2 x4 x14 x25 x27 x31 x136 x137 x138 x145 x146 x147 x217 x218 x219 := by
 obtain ⟨h0, h6⟩ := Bool.and_eq_true_iff.1 h
 obtain ⟨rfl, h3, k, rfl, hk⟩ := rng_k h0
 clear h0
 refine range_ind x217 (fun k => lp_f11_1 x2 x4 x14 x25 x27 x31 x136 x137 x138 x145 x146 x147 x217 (x217.length : Int) (k : Int) = la_f11_1 x2 x4 x14 x25 x27 x31 x136 x137 x138 x145 x146 x147 x217 (x217.length : Int) (k : Int)) ?_ ?_ k hk
 ·rw [ln_f11_1]
  simp only [n_f11_1, la_f11_1, ilt_nat, Nat.lt_irrefl, decide_false, br_false]
 ·intro k hk ih
  rw [ln_f11_1]
  have e1 : ∀ z, dcdOk x31 z = true := fun _ => h6
  simp only [n_f11_1, ilt_nat, cIx_nat, hk, decide_true, br_true, Int.toNat_natCast, add1 (show k < 4611686018427387904 by omega), e1, ine_s, ieq_s, Bool.and_self, Bool.not_true, br_false, ih]
  simp only [la_f11_1]
theorem l_f11_2 (x2 : ByteArray) (x4 : Int) (x14 : ByteArray) (x25 : (List Int)) (x27 : Int) (x136 : (List Int)) (x137 : Int) (x138 : Int) (x145 : (List ByteArray)) (x146 : Int) (x147 : Int) (h : (jaL2 x14 x145 x146 x147) = true) : lp_f11_2 x2 x4 x14 x25 x27 x136 x137 x138 x145 x146 x147 = la_f11_2 x2 x4 x14 x25 x27 x136 x137 x138 x145 x146 x147 := by
 obtain ⟨h0, h6⟩ := Bool.and_eq_true_iff.1 h
 obtain ⟨h5, h7⟩ := Bool.and_eq_true_iff.1 h6
 have h5 : x14.size ≤ 1000 := of_decide_eq_true h5
 obtain ⟨rfl, h3, k, rfl, hk⟩ := rng_k h0
 clear h0
 refine range_ind x145 (fun k => lp_f11_2 x2 x4 x14 x25 x27 x136 x137 x138 x145 (x145.length : Int) (k : Int) = la_f11_2 x2 x4 x14 x25 x27 x136 x137 x138 x145 (x145.length : Int) (k : Int)) ?_ ?_ k hk
 ·rw [ln_f11_2]
  simp only [n_f11_2, la_f11_2, ilt_nat, Nat.lt_irrefl, decide_false, br_false]
 ·intro k hk ih
  rw [ln_f11_2]
  have hw : x145[k].size ≤ 1000 := of_decide_eq_true (List.all_eq_true.1 h7 x145[k] (List.getElem_mem hk))
  have hc := crash_le (n := x27) h5 hw
  have e1 : crashOk x14 x27 x145[k] = true := by simp only [crashOk, sz6, Bool.and_eq_true, decide_eq_true_eq]; omega
  simp only [n_f11_2, ilt_nat, cIx_nat, hk, decide_true, br_true, Int.toNat_natCast, add1 (show k < 4611686018427387904 by omega), lgt_get (y := .str) hk, e1]
  generalize crashV x14 x27 x145[k] = y at hc ⊢
  have hol := open_le hc
  have hrl := rep_le (openV y).1 ([], ())
  have e2 : sz6 y = true := decide_eq_true (by omega)
  have e3 : replayOk y = true := Bool.and_eq_true_iff.2 ⟨e2, decide_eq_true (by omega)⟩
  have e4 : eqOk (openV y).1 (openV y).1 = true := by simp only [eqOk, decide_eq_true_eq]; omega
  have hr2 : (replayV y).1.1.length ≤ 2000 := by
   show ((openV y).1.foldl repF ([], ())).1.length ≤ 2000
   simp only [List.length_nil] at hrl
   omega
  have e5 : sameOk (replayV y).1 (replayV y).1 = true := by simp only [sameOk, decide_eq_true_eq]; omega
  have e6 : iadd .i64 (slen y) 2 = ((y.size + 2 : Nat) : Int) := by rw [iadd_in (by simp only [slen]; omega)]; simp only [slen]; omega
  have e7 := dmod_ok x4 (y.size + 2) (by omega) (by omega)
  have e8 : ∀ a b c : Int, jaL1 y [a, b, c] (llen [a, b, c]) 0 = true := fun a b c => Bool.and_eq_true_iff.2 ⟨rng_0 (by simp), e2⟩
  simp only [e2, e3, e4, e5, e6, e7, e8, ine_s, sne_s, eqDs_s, sameV_s, Bool.not_true, br_true, br_false, ih]
  simp only [la_f11_2]
theorem l_f11_3 (x2 : ByteArray) (x4 : Int) (x14 : ByteArray) (x25 : (List Int)) (x136 : (List Int)) (x137 : Int) (x138 : Int) (h : (jaL3 x2 x14 x25 x136 x137 x138) = true) : lp_f11_3 x2 x4 x14 x25 x136 x137 x138 = la_f11_3 x2 x4 x14 x25 x136 x137 x138 := by
 obtain ⟨h0, h6⟩ := Bool.and_eq_true_iff.1 h
 have h6 : x2.size ≤ 300 ∧ x14.size ≤ 1000 ∧ x25.length ≤ 1000 := of_decide_eq_true h6
 obtain ⟨rfl, h3, k, rfl, hk⟩ := rng_k h0
 clear h0
 refine range_ind x136 (fun k => lp_f11_3 x2 x4 x14 x25 x136 (x136.length : Int) (k : Int) = la_f11_3 x2 x4 x14 x25 x136 (x136.length : Int) (k : Int)) ?_ ?_ k hk
 ·rw [ln_f11_3]
  simp only [n_f11_3, la_f11_3, ilt_nat, Nat.lt_irrefl, decide_false, br_false]
 ·intro k hk ih
  rw [ln_f11_3]
  have e0 : (strOf x25).size ≤ 1000 := by rw [strOf_size]; exact h6.2.2
  have e1 : jaL2 x14 [x2, ByteArray.mk #[], strOf x25] (llen [x2, ByteArray.mk #[], strOf x25]) 0 = true := by
   refine Bool.and_eq_true_iff.2 ⟨rng_0 (by simp), Bool.and_eq_true_iff.2 ⟨decide_eq_true h6.2.1, ?_⟩⟩
   simp only [List.all_cons, List.all_nil, Bool.and_true, Bool.and_eq_true, decide_eq_true_eq]
   exact ⟨by omega, by decide, e0⟩
  simp only [n_f11_3, ilt_nat, cIx_nat, hk, decide_true, br_true, Int.toNat_natCast, add1 (show k < 4611686018427387904 by omega), e1, br_false, ih]
  simp only [la_f11_3]
theorem lo_f11_0 : ∀ S l p, g_f11.L 0 (fgt fg_f11_0 S) = some (true, l) → pickA l = some p → loopF (roundF g_f11 fg_f11_0 tb_f11_0) S = some p :=
 lok_of (s := sh_f11_0) ⟨by decide, by decide⟩ (by kernel_rfl) fun x y hok p hp => by
 simp only [pickA_br, pickA_one] at hp
 exact (l_f11_0 x.1 x.2.1 x.2.2.1 x.2.2.2.1 x.2.2.2.2.1 x.2.2.2.2.2.1 x.2.2.2.2.2.2.1 x.2.2.2.2.2.2.2.1 (by simpa using hok)).trans hp
theorem lo_f11_1 : ∀ S l p, g_f11.L 1 (fgt fg_f11_1 S) = some (true, l) → pickA l = some p → loopF (roundF g_f11 fg_f11_1 tb_f11_1) S = some p :=
 lok_of (s := sh_f11_1) ⟨by decide, by decide⟩ (by kernel_rfl) fun x y hok p hp => by
 simp only [pickA_br, pickA_one] at hp
 exact (l_f11_1 x.1 x.2.1 x.2.2.1 x.2.2.2.1 x.2.2.2.2.1 x.2.2.2.2.2.1 x.2.2.2.2.2.2.1 x.2.2.2.2.2.2.2.1 x.2.2.2.2.2.2.2.2.1 x.2.2.2.2.2.2.2.2.2.1 x.2.2.2.2.2.2.2.2.2.2.1 x.2.2.2.2.2.2.2.2.2.2.2.1 x.2.2.2.2.2.2.2.2.2.2.2.2.1 x.2.2.2.2.2.2.2.2.2.2.2.2.2.1 x.2.2.2.2.2.2.2.2.2.2.2.2.2.2.1 (by simpa using hok)).trans hp
theorem lo_f11_2 : ∀ S l p, g_f11.L 2 (fgt fg_f11_2 S) = some (true, l) → pickA l = some p → loopF (roundF g_f11 fg_f11_2 tb_f11_2) S = some p :=
 lok_of (s := sh_f11_2) ⟨by decide, by decide⟩ (by kernel_rfl) fun x y hok p hp => by
 simp only [pickA_br, pickA_one] at hp
 exact (l_f11_2 x.1 x.2.1 x.2.2.1 x.2.2.2.1 x.2.2.2.2.1 x.2.2.2.2.2.1 x.2.2.2.2.2.2.1 x.2.2.2.2.2.2.2.1 x.2.2.2.2.2.2.2.2.1 x.2.2.2.2.2.2.2.2.2.1 x.2.2.2.2.2.2.2.2.2.2.1 (by simpa using hok)).trans hp
theorem lo_f11_3 : ∀ S l p, g_f11.L 3 (fgt fg_f11_3 S) = some (true, l) → pickA l = some p → loopF (roundF g_f11 fg_f11_3 tb_f11_3) S = some p :=
 lok_of (s := sh_f11_3) ⟨by decide, by decide⟩ (by kernel_rfl) fun x y hok p hp => by
 simp only [pickA_br, pickA_one] at hp
 exact (l_f11_3 x.1 x.2.1 x.2.2.1 x.2.2.2.1 x.2.2.2.2.1 x.2.2.2.2.2.1 x.2.2.2.2.2.2.1 (by simpa using hok)).trans hp
theorem lk_f11 : tc_f11.lok g_f11 := by
 repeat (first | exact trivial | exact lo_f11_0 | exact lo_f11_1 | exact lo_f11_2 | exact lo_f11_3 | refine ⟨?_, ?_⟩)
set_option maxRecDepth 100000 in
theorem s_f11 (p0 : List Int) (p1 : Decision) (p2 : ByteArray) (p3 p4 p5 : Int) : r_f11 p0 p1 p2 p3 p4 p5 = some (.t .bool (lawAll p0 p1 p2 p3 p4 p5), []) := by
 unfold r_f11 lawAll
 cases h0 : light p0 with
 | false => rfl
 | true =>
  rw [Bool.not_true, br_false]
  cases h1 : igt (slen p2) 300 with
  | true => rfl
  | false =>
   have hp2 : p2.size ≤ 300 := by simp only [igt, slen, decide_eq_false_iff_not] at h1; omega
   rw [br_false]
   obtain ⟨g1, g2, g3⟩ := led_facts (n := 6) (dOk_roll h0) (by decide)
   have l1 : ledOk (roll p0) 6 = true := by simp only [ledOk, dOk_roll h0, Bool.true_and]; rfl
   have hl : (ledV (roll p0) 6).1.length ≤ 6 := g2
   have hw := wrt_size (ledV (roll p0) 6).1 (ByteArray.mk #[])
   have hws : (wrtV (ledV (roll p0) 6)).size ≤ 72 := by
    unfold wrtV
    have : (ByteArray.mk #[]).size = 0 := rfl
    omega
   have l2 : wrtOk (ledV (roll p0) 6) = true := decide_eq_true (by omega)
   generalize wrtV (ledV (roll p0) 6) = s at hws
   have l3 : sz6 s = true := decide_eq_true (by omega)
   refine brY l1 (brY l2 (brY ?_ (brY ?_ ?_)))
   ·exact Bool.and_eq_true_iff.2 ⟨g3, by decide⟩
   ·exact Bool.and_eq_true_iff.2 ⟨rng_0 (by simp), l3⟩
   rw [br_false]
   have hb : (bytesL s).length = s.size := by simp [bytesL]
   have e2 : iadd .i64 (slen s) 2 = ((s.size + 2 : Nat) : Int) := by rw [iadd_in (by simp only [slen]; omega)]; simp only [slen]; omega
   have e3 : ∀ (b : List Int) (a c : Int), b.length ≤ 1000 → jaL3 p2 s b [a, c] (llen [a, c]) 0 = true := fun b a c hb => Bool.and_eq_true_iff.2 ⟨rng_0 (by simp), decide_eq_true ⟨hp2, by omega, hb⟩⟩
   have d2 : dmodOk p3 ((s.size + 2 : Nat) : Int) = true := dmod_ok p3 (s.size + 2) (by omega) (by omega)
   have hq : ∀ {a : ByteArray}, a.size ≤ 300 → sz6 a = true := fun h => decide_eq_true (by omega)
   have fin : r_f11_1 p0 p1 p2 p3 p4 p5 = some (.t .bool true, []) := by
    unfold r_f11_1
    exact brY (hq hp2) (brY (hq hp2) (brY (ieq_s _) rfl))
   refine brY (decide_eq_true (by omega)) ?_
   cases h5 : igt (llen (bytesL s)) 0 with
   | false =>
    rw [br_false, e2]
    exact brY d2 (brY (e3 _ _ _ (by omega)) fin)
   | true =>
    have h5 : 0 < s.size := by simp only [igt, llen, decide_eq_true_eq] at h5; omega
    have d1 : dmodOk p4 (llen (bytesL s)) = true := by
     show dmodOk p4 (((bytesL s).length : Nat) : Int) = true
     rw [hb]
     exact dmod_ok p4 s.size (by omega) h5
    have hm : 0 ≤ dmod p4 (llen (bytesL s)) ∧ dmod p4 (llen (bytesL s)) < llen (bytesL s) := by
     have : 0 < llen (bytesL s) := by simp only [llen]; omega
     unfold dmod
     rw [if_neg (by omega)]
     exact ⟨Int.emod_nonneg _ (by omega), Int.emod_lt_of_pos _ (by omega)⟩
    simp only [llen] at hm
    have c1 : cIx (bytesL s) (dmod p4 (llen (bytesL s))) = true := decide_eq_true hm
    have c2 : cLd (bytesL s) (Int.toNat (dmod p4 (llen (bytesL s)))) = true := decide_eq_true (by simp only [llen]; omega)
    rw [br_true, e2]
    exact brY d1 (brY c1 (brY c2 (brY c1 (brY c2 (brY d2 (brY (e3 _ _ _ (by rw [List.length_set]; omega)) fin))))))
def sp_f11 : Ent := spec (.pr (.sl tI) (.pr tyDecision (.pr .str (.pr tI (.pr tI (.pr tI .nil)))))) (fun x => true) (fun x => (.t .bool (lawAll x.1 x.2.1 x.2.2.1 x.2.2.2.1 x.2.2.2.2.1 x.2.2.2.2.2.1)))
theorem ms_f11 : Meets Try.prog 11 (strip sp_f11) := by
 obtain ⟨c, hc, hi⟩ := Option.map_eq_some_iff.1 ok_f11
 exact meets_spec (R := runF g_f11 tc_f11 rv_f11 false) (meets_of (by decide) Try.func11 hc hi Try.ntmps11 rok_f11 gk_f11 lk_f11 mixed) fun x _ => (e_f11 x.1 x.2.1 x.2.2.1 x.2.2.2.1 x.2.2.2.2.1 x.2.2.2.2.2.1).trans (s_f11 x.1 x.2.1 x.2.2.1 x.2.2.2.1 x.2.2.2.2.1 x.2.2.2.2.2.1)
theorem walkJournalAll (z0 : (List Int)) (z1 : Decision) (z2 : ByteArray) (z3 : Int) (z4 : Int) (z5 : Int) (W : World) (v0 : Value) (v1 : Value) (v2 : Value) (v3 : Value) (v4 : Value) (v5 : Value) (c0 : C noX W (fun _ => .no) (V.t (.sl tI) z0).d v0) (c1 : C noX W (fun _ => .no) (V.t tyDecision z1).d v1) (c2 : C noX W (fun _ => .no) (V.t .str z2).d v2) (c3 : C noX W (fun _ => .no) (V.t tI z3).d v3) (c4 : C noX W (fun _ => .no) (V.t tI z4).d v4) (c5 : C noX W (fun _ => .no) (V.t tI z5).d v5) (w0 : Ty.wf (.sl tI) z0) (w1 : Ty.wf tyDecision z1) (w2 : Ty.wf .str z2) (w3 : Ty.wf tI z3) (w4 : Ty.wf tI z4) (w5 : Ty.wf tI z5) :
  Calls Try.prog 11 #[v0, v1, v2, v3, v4, v5] W fun r w' => r = .returned (.bool true) ∧ Below W.heap.size W w' :=
 calls_true (by decide) ms_f11 (args := [.t (.sl tI) z0, .t tyDecision z1, .t .str z2, .t tI z3, .t tI z4, .t tI z5]) (strip_spec (x := (z0, z1, z2, z3, z4, z5, ())) rfl (rfl)) (by simp only [V.ds, Cs]; exact ⟨_, _, rfl, c0, _, _, rfl, c1, _, _, rfl, c2, _, _, rfl, c3, _, _, rfl, c4, _, _, rfl, c5, rfl⟩)
end
end Go.Proofs.Ytnimpcffagidoaa.K
