/-
 SettingsTexts: texts mean the same by the program and by the answer.
-/
import Derived.Test.YtkkoedniahnneaaDoorA21
set_option linter.unusedSimpArgs false
set_option linter.unusedVariables false
namespace Go.Proofs.YtkkoedniahnneaaDoor.K
open Go.RowKit
noncomputable section
theorem txZ_size : ∀ (n : Nat) (s : ByteArray) (d : Dice), (txZ n s d).1.size ≤ s.size + 30 * n
 | 0, s, d => Nat.le_refl _
 | n + 1, s, d => by
  have g1 : (dwdG d tw1).size ≤ 2 := dwd_size (by kernel_rfl)
  have g2 : (dwdG (dwdGN d tw1) tw2).size ≤ 18 := dwd_size (by kernel_rfl)
  have g3 : (dwdG (dwdGN (dwdGN d tw1) tw2) tw3).size ≤ 2 := dwd_size (by kernel_rfl)
  have ih := txZ_size n (scat (scat (scat s (dwdG d tw1)) (dwdG (dwdGN d tw1) tw2)) (dwdG (dwdGN (dwdGN d tw1) tw2) tw3)) (dwdGN (dwdGN (dwdGN d tw1) tw2) tw3)
  rw [txZ]
  rw [show (scat (scat (scat s (dwdG d tw1)) (dwdG (dwdGN d tw1) tw2)) (dwdG (dwdGN (dwdGN d tw1) tw2) tw3)).size = s.size + (dwdG d tw1).size + (dwdG (dwdGN d tw1) tw2).size + (dwdG (dwdGN (dwdGN d tw1) tw2) tw3).size by simp only [scat, ByteArray.size_append]] at ih
  omega
theorem txF_size (d : Dice) : (txF d).size ≤ 300 := by
 have h := txZ_size (dval d 9).toNat (ByteArray.mk #[]) (dnext d 9)
 have hv := dval_lt (d := d) (n := 9) (by omega)
 have : (ByteArray.mk #[]).size = 0 := rfl
 unfold txF
 omega
theorem txZ_ok : ∀ (n : Nat) (s : ByteArray) (d : Dice), dOk d = true → dOk (txZ n s d).2 = true
 | 0, _, _, h => h
 | n + 1, s, d, h => txZ_ok n _ _ (dOk_next (dOk_next (dOk_next h)))
theorem txN_ok {d : Dice} (h : dOk d = true) : dOk (txN d) = true := txZ_ok _ _ _ (dOk_next h)
theorem strOf_size (l : List Int) : (strOf l).size = l.length := by
 show Array.size _ = _
 simp [strOf]
theorem strOf_ok {l : List Int} (h : l.length ≤ 1000000) : nameG (strOf l) = true := decide_eq_true (by rw [strOf_size]; omega)
def insX (l : List Int) (i : Int) : List Int := (([] : List Int) ++ (lsl l 0 i)) ++ ([(lgt (.int .u8) l (Int.toNat i))]) ++ (lsl l i ((List.length l : Nat) : Int))
def txtT (_ : List Int) (_ : ByteArray) (_ : Int) : Bool := true
def dr_f3_0 : List DO := [(.mk (oV 46 9) []), (.mk (oV 47 10) []), (.mk (oP 48 (.slc 1 (.t 46) none (some (.t 47)) none)) [0, 1]), (.mk (oV 49 9) []), (.mk (oV 50 10) []), (.mk (oP 51 (.bin false .add (.t 50) (cI 1))) [4]), (.mk (oP 52 (.slc 1 (.t 49) (some (.t 51)) none none)) [3, 5]), (.mk (oM 53 (.app 5 1 1 (.t 48) (.t 52))) [2, 6]), (.mk (oV 9 53) [7, 7, 0, 1, 2, 3, 4, 5, 6, 7])]
def dr_f3_1 : List DO := [(.mk (oM 56 (.bs 5 1 0 [] [])) []), (.mk (oV 57 9) []), (.mk (oV 58 10) []), (.mk (oP 59 (.slc 1 (.t 57) none (some (.t 58)) none)) [1, 2]), (.mk (oM 60 (.app 5 1 1 (.t 56) (.t 59))) [0, 3]), (.mk (oV 61 9) []), (.mk (oV 62 10) []), (.mk (oP 63 (.ix 1 (.t 61) (.t 62))) [5, 6]), (.mk (oL 64 63) [7]), (.mk (oM 65 (.bs 5 1 1 [(.v (.int .u8 0))] [(0, 1, (.t 64))])) [8]), (.mk (oM 66 (.app 5 1 1 (.t 60) (.t 65))) [4, 9, 4]), (.mk (oV 67 9) []), (.mk (oV 68 10) []), (.mk (oP 69 (.slc 1 (.t 67) (some (.t 68)) none none)) [11, 12]), (.mk (oM 70 (.app 5 1 1 (.t 66) (.t 69))) [10, 13, 10]), (.mk (oV 9 70) [14, 14, 0, 1, 2, 3, 4, 5, 6, 7, 8, 9, 10, 11, 12, 13, 14])]
def fg_f3_0 : Fg := ⟨[(1, some .str), (8, some .str), (9, none), (10, some tI)], [(25, none), (53, none), (56, none), (60, none), (66, none), (70, none), (5025, none), (10025, none), (15025, none)]⟩
def fh_f3_0 : Fg := ⟨[(1, some .str), (8, some .str), (9, none)], [(25, none), (53, none), (56, none), (60, none), (66, none), (70, none), (5025, none), (10025, none), (15025, none)]⟩
def tb_f3_0 : TC := (.fz [25] (.dr dr_f3_1 [(0, [56, 5056, 10056, 15056]), (1, [5025, 10025, 15025]), (2, []), (3, [5025, 10025, 15025]), (4, [56, 60, 5025, 5060, 10025, 10060, 15025, 15060]), (5, [5025, 10025, 15025]), (6, []), (7, [5025, 10025, 15025]), (8, [5025, 10025, 15025]), (9, []), (10, [56, 60, 66, 5066, 10066, 15066]), (11, [5025, 10025, 15025]), (12, []), (13, [5025, 10025, 15025]), (14, [56, 60, 66, 70, 5025, 5070, 10025, 10070, 15025, 15070]), (15, [56, 60, 66, 70])] (.one 1 (.one 2 (.one 3 (.one 6 (.one 12 (.alt 0 (.alt 4 (.of [11, 13, 5, 7, 8, 9, 10, 14, 15]) (.alt 5 (.alt 4 (.of [7, 8, 9, 11, 13, 10, 14, 15]) (.alt 7 (.alt 4 (.of [8, 9, 11, 13, 10, 14, 15]) (.alt 8 (.one 9 (.alt 4 (.of [11, 13, 10, 14, 15]) (.one 11 (.alt 4 (.of [13, 10, 14, 15]) (.of [13, 4, 10, 14, 15]))))) (.one 11 (.alt 4 (.of [8, 9, 13, 10, 14, 15]) (.alt 8 (.one 9 (.alt 4 (.of [13, 10, 14, 15]) (.of [13, 4, 10, 14, 15]))) (.one 13 (.alt 4 (.of [8, 9, 10, 14, 15]) (.of [8, 9, 4, 10, 14, 15])))))))) (.one 11 (.alt 4 (.of [7, 8, 9, 13, 10, 14, 15]) (.alt 7 (.alt 4 (.of [8, 9, 13, 10, 14, 15]) (.alt 8 (.one 9 (.alt 4 (.of [13, 10, 14, 15]) (.of [13, 4, 10, 14, 15]))) (.one 13 (.alt 4 (.of [8, 9, 10, 14, 15]) (.of [8, 9, 4, 10, 14, 15]))))) (.one 13 (.alt 4 (.of [7, 8, 9, 10, 14, 15]) (.one 7 (.alt 4 (.of [8, 9, 10, 14, 15]) (.of [8, 9, 4, 10, 14, 15])))))))))) (.one 11 (.alt 4 (.of [13, 5, 7, 8, 9, 10, 14, 15]) (.alt 5 (.alt 4 (.of [7, 8, 9, 13, 10, 14, 15]) (.alt 7 (.alt 4 (.of [8, 9, 13, 10, 14, 15]) (.alt 8 (.one 9 (.alt 4 (.of [13, 10, 14, 15]) (.of [13, 4, 10, 14, 15]))) (.one 13 (.alt 4 (.of [8, 9, 10, 14, 15]) (.of [8, 9, 4, 10, 14, 15]))))) (.one 13 (.alt 4 (.of [7, 8, 9, 10, 14, 15]) (.one 7 (.alt 4 (.of [8, 9, 10, 14, 15]) (.of [8, 9, 4, 10, 14, 15]))))))) (.one 13 (.alt 4 (.of [5, 7, 8, 9, 10, 14, 15]) (.one 5 (.alt 4 (.of [7, 8, 9, 10, 14, 15]) (.one 7 (.alt 4 (.of [8, 9, 10, 14, 15]) (.of [8, 9, 4, 10, 14, 15])))))))))))) (.alt 5 (.alt 0 (.alt 4 (.of [7, 8, 9, 11, 13, 10, 14, 15]) (.alt 7 (.alt 4 (.of [8, 9, 11, 13, 10, 14, 15]) (.alt 8 (.one 9 (.alt 4 (.of [11, 13, 10, 14, 15]) (.one 11 (.alt 4 (.of [13, 10, 14, 15]) (.of [13, 4, 10, 14, 15]))))) (.one 11 (.alt 4 (.of [8, 9, 13, 10, 14, 15]) (.alt 8 (.one 9 (.alt 4 (.of [13, 10, 14, 15]) (.of [13, 4, 10, 14, 15]))) (.one 13 (.alt 4 (.of [8, 9, 10, 14, 15]) (.of [8, 9, 4, 10, 14, 15])))))))) (.one 11 (.alt 4 (.of [7, 8, 9, 13, 10, 14, 15]) (.alt 7 (.alt 4 (.of [8, 9, 13, 10, 14, 15]) (.alt 8 (.one 9 (.alt 4 (.of [13, 10, 14, 15]) (.of [13, 4, 10, 14, 15]))) (.one 13 (.alt 4 (.of [8, 9, 10, 14, 15]) (.of [8, 9, 4, 10, 14, 15]))))) (.one 13 (.alt 4 (.of [7, 8, 9, 10, 14, 15]) (.one 7 (.alt 4 (.of [8, 9, 10, 14, 15]) (.of [8, 9, 4, 10, 14, 15])))))))))) (.alt 7 (.alt 0 (.alt 4 (.of [8, 9, 11, 13, 10, 14, 15]) (.alt 8 (.one 9 (.alt 4 (.of [11, 13, 10, 14, 15]) (.one 11 (.alt 4 (.of [13, 10, 14, 15]) (.of [13, 4, 10, 14, 15]))))) (.one 11 (.alt 4 (.of [8, 9, 13, 10, 14, 15]) (.alt 8 (.one 9 (.alt 4 (.of [13, 10, 14, 15]) (.of [13, 4, 10, 14, 15]))) (.one 13 (.alt 4 (.of [8, 9, 10, 14, 15]) (.of [8, 9, 4, 10, 14, 15])))))))) (.alt 8 (.one 9 (.alt 0 (.alt 4 (.of [11, 13, 10, 14, 15]) (.one 11 (.alt 4 (.of [13, 10, 14, 15]) (.of [13, 4, 10, 14, 15])))) (.one 11 (.alt 0 (.alt 4 (.of [13, 10, 14, 15]) (.of [13, 4, 10, 14, 15])) (.of [13, 0, 4, 10, 14, 15]))))) (.one 11 (.alt 0 (.alt 4 (.of [8, 9, 13, 10, 14, 15]) (.alt 8 (.one 9 (.alt 4 (.of [13, 10, 14, 15]) (.of [13, 4, 10, 14, 15]))) (.one 13 (.alt 4 (.of [8, 9, 10, 14, 15]) (.of [8, 9, 4, 10, 14, 15]))))) (.alt 8 (.one 9 (.alt 0 (.alt 4 (.of [13, 10, 14, 15]) (.of [13, 4, 10, 14, 15])) (.of [13, 0, 4, 10, 14, 15]))) (.one 13 (.alt 0 (.alt 4 (.of [8, 9, 10, 14, 15]) (.of [8, 9, 4, 10, 14, 15])) (.of [8, 9, 0, 4, 10, 14, 15])))))))) (.one 11 (.alt 0 (.alt 4 (.of [7, 8, 9, 13, 10, 14, 15]) (.alt 7 (.alt 4 (.of [8, 9, 13, 10, 14, 15]) (.alt 8 (.one 9 (.alt 4 (.of [13, 10, 14, 15]) (.of [13, 4, 10, 14, 15]))) (.one 13 (.alt 4 (.of [8, 9, 10, 14, 15]) (.of [8, 9, 4, 10, 14, 15]))))) (.one 13 (.alt 4 (.of [7, 8, 9, 10, 14, 15]) (.one 7 (.alt 4 (.of [8, 9, 10, 14, 15]) (.of [8, 9, 4, 10, 14, 15]))))))) (.alt 7 (.alt 0 (.alt 4 (.of [8, 9, 13, 10, 14, 15]) (.alt 8 (.one 9 (.alt 4 (.of [13, 10, 14, 15]) (.of [13, 4, 10, 14, 15]))) (.one 13 (.alt 4 (.of [8, 9, 10, 14, 15]) (.of [8, 9, 4, 10, 14, 15]))))) (.alt 8 (.one 9 (.alt 0 (.alt 4 (.of [13, 10, 14, 15]) (.of [13, 4, 10, 14, 15])) (.of [13, 0, 4, 10, 14, 15]))) (.one 13 (.alt 0 (.alt 4 (.of [8, 9, 10, 14, 15]) (.of [8, 9, 4, 10, 14, 15])) (.of [8, 9, 0, 4, 10, 14, 15]))))) (.one 13 (.alt 0 (.alt 4 (.of [7, 8, 9, 10, 14, 15]) (.one 7 (.alt 4 (.of [8, 9, 10, 14, 15]) (.of [8, 9, 4, 10, 14, 15])))) (.one 7 (.alt 0 (.alt 4 (.of [8, 9, 10, 14, 15]) (.of [8, 9, 4, 10, 14, 15])) (.of [8, 9, 0, 4, 10, 14, 15])))))))))) (.one 11 (.alt 0 (.alt 4 (.of [13, 5, 7, 8, 9, 10, 14, 15]) (.alt 5 (.alt 4 (.of [7, 8, 9, 13, 10, 14, 15]) (.alt 7 (.alt 4 (.of [8, 9, 13, 10, 14, 15]) (.alt 8 (.one 9 (.alt 4 (.of [13, 10, 14, 15]) (.of [13, 4, 10, 14, 15]))) (.one 13 (.alt 4 (.of [8, 9, 10, 14, 15]) (.of [8, 9, 4, 10, 14, 15]))))) (.one 13 (.alt 4 (.of [7, 8, 9, 10, 14, 15]) (.one 7 (.alt 4 (.of [8, 9, 10, 14, 15]) (.of [8, 9, 4, 10, 14, 15]))))))) (.one 13 (.alt 4 (.of [5, 7, 8, 9, 10, 14, 15]) (.one 5 (.alt 4 (.of [7, 8, 9, 10, 14, 15]) (.one 7 (.alt 4 (.of [8, 9, 10, 14, 15]) (.of [8, 9, 4, 10, 14, 15]))))))))) (.alt 5 (.alt 0 (.alt 4 (.of [7, 8, 9, 13, 10, 14, 15]) (.alt 7 (.alt 4 (.of [8, 9, 13, 10, 14, 15]) (.alt 8 (.one 9 (.alt 4 (.of [13, 10, 14, 15]) (.of [13, 4, 10, 14, 15]))) (.one 13 (.alt 4 (.of [8, 9, 10, 14, 15]) (.of [8, 9, 4, 10, 14, 15]))))) (.one 13 (.alt 4 (.of [7, 8, 9, 10, 14, 15]) (.one 7 (.alt 4 (.of [8, 9, 10, 14, 15]) (.of [8, 9, 4, 10, 14, 15]))))))) (.alt 7 (.alt 0 (.alt 4 (.of [8, 9, 13, 10, 14, 15]) (.alt 8 (.one 9 (.alt 4 (.of [13, 10, 14, 15]) (.of [13, 4, 10, 14, 15]))) (.one 13 (.alt 4 (.of [8, 9, 10, 14, 15]) (.of [8, 9, 4, 10, 14, 15]))))) (.alt 8 (.one 9 (.alt 0 (.alt 4 (.of [13, 10, 14, 15]) (.of [13, 4, 10, 14, 15])) (.of [13, 0, 4, 10, 14, 15]))) (.one 13 (.alt 0 (.alt 4 (.of [8, 9, 10, 14, 15]) (.of [8, 9, 4, 10, 14, 15])) (.of [8, 9, 0, 4, 10, 14, 15]))))) (.one 13 (.alt 0 (.alt 4 (.of [7, 8, 9, 10, 14, 15]) (.one 7 (.alt 4 (.of [8, 9, 10, 14, 15]) (.of [8, 9, 4, 10, 14, 15])))) (.one 7 (.alt 0 (.alt 4 (.of [8, 9, 10, 14, 15]) (.of [8, 9, 4, 10, 14, 15])) (.of [8, 9, 0, 4, 10, 14, 15]))))))) (.one 13 (.alt 0 (.alt 4 (.of [5, 7, 8, 9, 10, 14, 15]) (.one 5 (.alt 4 (.of [7, 8, 9, 10, 14, 15]) (.one 7 (.alt 4 (.of [8, 9, 10, 14, 15]) (.of [8, 9, 4, 10, 14, 15])))))) (.one 5 (.alt 0 (.alt 4 (.of [7, 8, 9, 10, 14, 15]) (.one 7 (.alt 4 (.of [8, 9, 10, 14, 15]) (.of [8, 9, 4, 10, 14, 15])))) (.one 7 (.alt 0 (.alt 4 (.of [8, 9, 10, 14, 15]) (.of [8, 9, 4, 10, 14, 15])) (.of [8, 9, 0, 4, 10, 14, 15])))))))))))))))))))
def tc_f3 : TC := (.sq (.reg [(oP 6 (.mv (cB false)))]) (.sq (.sq (.reg [(oV 11 0), (oC 12 13 [(.t 11)]), (oP 13 (.nt (.t 12))), (oV 14 13), (oQ 15 14 false (.mv (.t 1))), (oQ 16 14 false (.len true (.t 15))), (oQ 17 14 false (.bin false .gtr (.t 16) (cI 9000))), (oP 18 (.pick (.t 14) (cB true) (.t 17)))]) (.cd (.t 18) (.sq (.reg [(oC 19 14 []), (oV 6 19)]) .rt) .sk)) (.sq (.reg [(oV 20 0), (oC 21 15 [(.t 20)]), (oV 7 21)]) (.sq (.reg [(oV 22 7), (oC 23 16 [(.t 22)]), (oV 8 23)]) (.sq (.reg [(oV 24 8), (oC 25 5480144 [(.t 24)]), (oV 9 25)]) (.sq (.sq (.reg [(oV 26 9), (oP 27 (.len false (.t 26))), (oP 28 (.bin false .gtr (.t 27) (cI 0)))]) (.cd (.t 28) (.sq (.reg [(oV 29 2), (oV 30 9), (oP 31 (.len false (.t 30))), (oC 32 17 [(.t 29), (.t 31)]), (oV 10 32)]) (.sq (.reg [(oV 33 7), (oC 34 18 [(.t 33), (cI 4)])]) (.bk 0 (.sq (.reg [(oP 36 (.bin false .eql (.t 34) (cI 0))), (oV 35 36)]) (.cd (.t 35) (.reg [(oV 37 9), (oV 38 10), (oV 39 7), (oM 40 (.bs 3 1 11 [(.v (.int .i64 0)), (.v (.int .i64 0)), (.v (.int .i64 0)), (.v (.int .i64 0)), (.v (.int .i64 0)), (.v (.int .i64 0)), (.v (.int .i64 0)), (.v (.int .i64 0)), (.v (.int .i64 0)), (.v (.int .i64 0)), (.v (.int .i64 0))] [(0, 1, (cI 10)), (1, 1, (cI 32)), (2, 1, (cI 92)), (3, 1, (cI 61)), (4, 1, (cI 91)), (5, 1, (cI 93)), (6, 1, (cI 35)), (7, 1, (cI 9)), (8, 1, (cI 13)), (9, 1, (cI 127)), (10, 1, (cI 200))])), (oC 41 19 [(.t 39), (.t 40)]), (oP 42 (.cv .u8 (.t 41))), (oP 43 (.ix 1 (.t 37) (.t 38))), (.mk none none (.m (.st 1 (.t 43) (.t 42))))]) (.sq (.reg [(oP 45 (.bin false .eql (.t 34) (cI 1))), (oV 44 45)]) (.cd (.t 44) (.dr dr_f3_0 [(0, [25, 53, 56, 60, 66, 70, 5025, 10025, 15025]), (1, []), (2, [25, 53, 56, 60, 66, 70, 5025, 10025, 15025]), (3, [25, 53, 56, 60, 66, 70, 5025, 10025, 15025]), (4, []), (5, []), (6, [25, 53, 56, 60, 66, 70, 5025, 10025, 15025]), (7, [25, 53, 56, 60, 66, 70, 5025, 5053, 10025, 10053, 15025, 15053]), (8, [25, 53, 56, 60, 66, 70, 5025, 10025, 15025])] (.of [0, 1, 2, 3, 4, 5, 6, 7, 8])) (.sq (.reg [(oP 55 (.bin false .eql (.t 34) (cI 2))), (oV 54 55)]) (.cd (.t 54) (.rg 0 fg_f3_0 fh_f3_0 tb_f3_0) .sk))))))))) .sk)) (.sq (.reg [(oV 71 8), (oC 72 20 [(.t 71)]), (oV 73 72), (oQ 74 73 true (.mv (.t 9))), (oG 75 73 true (.call 2440448 [(.t 74)])), (oG 76 73 true (.call 20 [(.t 75)])), (oP 77 (.pick (.t 73) (.t 76) (cB false))), (oV 78 77), (oQ 79 78 true (.mv (.t 1))), (oG 80 78 true (.call 20 [(.t 79)])), (oP 81 (.pick (.t 78) (.t 80) (cB false))), (oV 82 81), (oG 83 82 true (.call 14 [])), (oP 84 (.pick (.t 82) (.t 83) (cB false))), (oV 6 84)]) .rt)))))))
def rv_f3 : List (RV × Option Ty) := [((.t 6), some .bool)]
abbrev sh_f3_0 : Sh := ⟨[(1, .ty .str), (8, .ty .str), (9, .ms 25), (10, .ty tI)], [(25, .arr 1000005 (.int .u8)), (53, .no), (56, .no), (60, .no), (66, .no), (70, .no), (5025, .no), (10025, .no), (15025, .no)]⟩
def st_f3_0 (x1 : ByteArray) (x8 : ByteArray) (x10 : Int) (y25 : (List Int)) : VS := sh_f3_0.st (x1, x8, (), x10, ()) (y25, (), (), (), (), (), (), (), (), ())
abbrev sh_f3_0_normal : Sh := ⟨[(1, .ty .str), (8, .ty .str), (9, .ms 56)], [(25, .no), (53, .no), (56, .arr 5 (.int .u8)), (60, .no), (66, .no), (70, .no), (5025, .no), (10025, .no), (15025, .no)]⟩
def st_f3_0_normal (x1 : ByteArray) (x8 : ByteArray) (y56 : (List Int)) : VS := sh_f3_0_normal.st (x1, x8, (), ()) ((), (), y56, (), (), (), (), (), (), ())
-- loop 0: (x1 : ByteArray) (x8 : ByteArray) (x10 : Int) (y25 : (List Int)); out: ('normal',) (x1 : ByteArray) (x8 : ByteArray) (y56 : (List Int))
def L_f3_0 : VS → Option (Bool × List (Bool × Exit × VS)) := mkL sh_f3_0 (fun x y => (decide (0 ≤ x.2.2.2.1 ∧ x.2.2.2.1 < y.1.length ∧ y.1.length ≤ 100000))) (fun x y => [(true, .normal, st_f3_0_normal (x.1) (x.2.1) (insX y.1 x.2.2.2.1))])
def g_f3 : G := ⟨TYs, [56], 85, EL [(13, sp_f13), (14, sp_f14), (15, sp_f15), (16, sp_f16), (17, sp_f17), (18, sp_f18), (19, sp_f19), (20, sp_f20), (2440448, sp_op_convert_28_9), (5480144, sp_op_convert_9_28_O)], keeps, (Ls [L_f3_0]), IL [], RL []⟩
noncomputable def n_f3_0_3 (x1 : ByteArray) (x8 : ByteArray) (x10 : Int) (y25 : (List Int)) : Option (Exit × VS) :=
 br (cApp (([] : List Int) ++ (lsl y25 0 x10)) ([(lgt (.int .u8) y25 (Int.toNat x10))]) 1)
  (br (cApp ((([] : List Int) ++ (lsl y25 0 x10)) ++ ([(lgt (.int .u8) y25 (Int.toNat x10))])) (lsl y25 x10 ((List.length y25 : Nat) : Int)) 1)
   (some (.normal, st_f3_0_normal x1 x8 (((([] : List Int) ++ (lsl y25 0 x10)) ++ ([(lgt (.int .u8) y25 (Int.toNat x10))])) ++ (lsl y25 x10 ((List.length y25 : Nat) : Int)))))
   (none))
  (none)
noncomputable def n_f3_0_2 (x1 : ByteArray) (x8 : ByteArray) (x10 : Int) (y25 : (List Int)) : Option (Exit × VS) :=
 br (cIx y25 x10)
  (n_f3_0_3 x1 x8 x10 y25)
  (none)
noncomputable def n_f3_0_1 (x1 : ByteArray) (x8 : ByteArray) (x10 : Int) (y25 : (List Int)) : Option (Exit × VS) :=
 br (cApp ([] : List Int) (lsl y25 0 x10) 1)
  (br (cSl y25 x10 ((List.length y25 : Nat) : Int) ((List.length y25 : Nat) : Int))
   (n_f3_0_2 x1 x8 x10 y25)
   (none))
  (none)
noncomputable def n_f3_0_6 (x1 : ByteArray) (x8 : ByteArray) (x10 : Int) (y25 : (List Int)) : Option (Exit × VS) :=
 br (cSl y25 x10 ((List.length y25 : Nat) : Int) ((List.length y25 : Nat) : Int))
  (n_f3_0_3 x1 x8 x10 y25)
  (none)
noncomputable def n_f3_0_5 (x1 : ByteArray) (x8 : ByteArray) (x10 : Int) (y25 : (List Int)) : Option (Exit × VS) :=
 br (cApp ([] : List Int) (lsl y25 0 x10) 1)
  (br (cIx y25 x10)
   (n_f3_0_6 x1 x8 x10 y25)
   (none))
  (none)
noncomputable def n_f3_0_8 (x1 : ByteArray) (x8 : ByteArray) (x10 : Int) (y25 : (List Int)) : Option (Exit × VS) :=
 br (cApp ([] : List Int) (lsl y25 0 x10) 1)
  (n_f3_0_6 x1 x8 x10 y25)
  (none)
noncomputable def n_f3_0_12 (x1 : ByteArray) (x8 : ByteArray) (x10 : Int) (y25 : (List Int)) : Option (Exit × VS) :=
 br (cApp ([] : List Int) (lsl y25 0 x10) 1)
  (n_f3_0_3 x1 x8 x10 y25)
  (none)
noncomputable def n_f3_0_11 (x1 : ByteArray) (x8 : ByteArray) (x10 : Int) (y25 : (List Int)) : Option (Exit × VS) :=
 br (cSl y25 x10 ((List.length y25 : Nat) : Int) ((List.length y25 : Nat) : Int))
  (n_f3_0_12 x1 x8 x10 y25)
  (none)
noncomputable def n_f3_0_10 (x1 : ByteArray) (x8 : ByteArray) (x10 : Int) (y25 : (List Int)) : Option (Exit × VS) :=
 frk
  (n_f3_0_8 x1 x8 x10 y25)
  (n_f3_0_11 x1 x8 x10 y25)
noncomputable def n_f3_0_9 (x1 : ByteArray) (x8 : ByteArray) (x10 : Int) (y25 : (List Int)) : Option (Exit × VS) :=
 frk
  (n_f3_0_8 x1 x8 x10 y25)
  (n_f3_0_10 x1 x8 x10 y25)
noncomputable def n_f3_0_14 (x1 : ByteArray) (x8 : ByteArray) (x10 : Int) (y25 : (List Int)) : Option (Exit × VS) :=
 frk
  (n_f3_0_12 x1 x8 x10 y25)
  (n_f3_0_12 x1 x8 x10 y25)
noncomputable def n_f3_0_13 (x1 : ByteArray) (x8 : ByteArray) (x10 : Int) (y25 : (List Int)) : Option (Exit × VS) :=
 frk
  (n_f3_0_8 x1 x8 x10 y25)
  (frk
   (n_f3_0_10 x1 x8 x10 y25)
   (br (cSl y25 x10 ((List.length y25 : Nat) : Int) ((List.length y25 : Nat) : Int))
    (n_f3_0_14 x1 x8 x10 y25)
    (none)))
noncomputable def n_f3_0_7 (x1 : ByteArray) (x8 : ByteArray) (x10 : Int) (y25 : (List Int)) : Option (Exit × VS) :=
 frk
  (n_f3_0_8 x1 x8 x10 y25)
  (frk
   (n_f3_0_9 x1 x8 x10 y25)
   (n_f3_0_13 x1 x8 x10 y25))
noncomputable def n_f3_0_17 (x1 : ByteArray) (x8 : ByteArray) (x10 : Int) (y25 : (List Int)) : Option (Exit × VS) :=
 br (cApp ([] : List Int) (lsl y25 0 x10) 1)
  (n_f3_0_2 x1 x8 x10 y25)
  (none)
noncomputable def n_f3_0_16 (x1 : ByteArray) (x8 : ByteArray) (x10 : Int) (y25 : (List Int)) : Option (Exit × VS) :=
 frk
  (n_f3_0_17 x1 x8 x10 y25)
  (br (cIx y25 x10)
   (n_f3_0_14 x1 x8 x10 y25)
   (none))
noncomputable def n_f3_0_15 (x1 : ByteArray) (x8 : ByteArray) (x10 : Int) (y25 : (List Int)) : Option (Exit × VS) :=
 frk
  (n_f3_0_5 x1 x8 x10 y25)
  (frk
   (br (cIx y25 x10)
    (n_f3_0_13 x1 x8 x10 y25)
    (none))
   (br (cSl y25 x10 ((List.length y25 : Nat) : Int) ((List.length y25 : Nat) : Int))
    (n_f3_0_16 x1 x8 x10 y25)
    (none)))
noncomputable def n_f3_0_4 (x1 : ByteArray) (x8 : ByteArray) (x10 : Int) (y25 : (List Int)) : Option (Exit × VS) :=
 frk
  (n_f3_0_5 x1 x8 x10 y25)
  (frk
   (br (cIx y25 x10)
    (n_f3_0_7 x1 x8 x10 y25)
    (none))
   (n_f3_0_15 x1 x8 x10 y25))
noncomputable def n_f3_0_19 (x1 : ByteArray) (x8 : ByteArray) (x10 : Int) (y25 : (List Int)) : Option (Exit × VS) :=
 frk
  (n_f3_0_17 x1 x8 x10 y25)
  (n_f3_0_16 x1 x8 x10 y25)
noncomputable def n_f3_0_18 (x1 : ByteArray) (x8 : ByteArray) (x10 : Int) (y25 : (List Int)) : Option (Exit × VS) :=
 frk
  (n_f3_0_1 x1 x8 x10 y25)
  (frk
   (n_f3_0_15 x1 x8 x10 y25)
   (br (cSl y25 x10 ((List.length y25 : Nat) : Int) ((List.length y25 : Nat) : Int))
    (n_f3_0_19 x1 x8 x10 y25)
    (none)))
noncomputable def n_f3_0_20 (x1 : ByteArray) (x8 : ByteArray) (x10 : Int) (y25 : (List Int)) : Option (Exit × VS) :=
 frk
  (n_f3_0_10 x1 x8 x10 y25)
  (n_f3_0_11 x1 x8 x10 y25)
noncomputable def n_f3_0_22 (x1 : ByteArray) (x8 : ByteArray) (x10 : Int) (y25 : (List Int)) : Option (Exit × VS) :=
 frk
  (n_f3_0_14 x1 x8 x10 y25)
  (n_f3_0_12 x1 x8 x10 y25)
noncomputable def n_f3_0_21 (x1 : ByteArray) (x8 : ByteArray) (x10 : Int) (y25 : (List Int)) : Option (Exit × VS) :=
 frk
  (n_f3_0_13 x1 x8 x10 y25)
  (frk
   (n_f3_0_20 x1 x8 x10 y25)
   (br (cSl y25 x10 ((List.length y25 : Nat) : Int) ((List.length y25 : Nat) : Int))
    (n_f3_0_22 x1 x8 x10 y25)
    (none)))
noncomputable def n_f3_0_24 (x1 : ByteArray) (x8 : ByteArray) (x10 : Int) (y25 : (List Int)) : Option (Exit × VS) :=
 frk
  (n_f3_0_16 x1 x8 x10 y25)
  (br (cIx y25 x10)
   (n_f3_0_22 x1 x8 x10 y25)
   (none))
noncomputable def n_f3_0_23 (x1 : ByteArray) (x8 : ByteArray) (x10 : Int) (y25 : (List Int)) : Option (Exit × VS) :=
 frk
  (n_f3_0_15 x1 x8 x10 y25)
  (frk
   (br (cIx y25 x10)
    (n_f3_0_21 x1 x8 x10 y25)
    (none))
   (br (cSl y25 x10 ((List.length y25 : Nat) : Int) ((List.length y25 : Nat) : Int))
    (n_f3_0_24 x1 x8 x10 y25)
    (none)))
noncomputable def n_f3_0 (x1 : ByteArray) (x8 : ByteArray) (x10 : Int) (y25 : (List Int)) : Option (Exit × VS) :=
 br (cSl y25 0 x10 ((List.length y25 : Nat) : Int))
  (frk
   (frk
    (n_f3_0_1 x1 x8 x10 y25)
    (frk
     (n_f3_0_4 x1 x8 x10 y25)
     (n_f3_0_18 x1 x8 x10 y25)))
   (frk
    (frk
     (n_f3_0_4 x1 x8 x10 y25)
     (frk
      (br (cIx y25 x10)
       (frk
        (n_f3_0_7 x1 x8 x10 y25)
        (frk
         (frk
          (n_f3_0_9 x1 x8 x10 y25)
          (n_f3_0_20 x1 x8 x10 y25))
         (n_f3_0_21 x1 x8 x10 y25)))
       (none))
      (n_f3_0_23 x1 x8 x10 y25)))
    (frk
     (n_f3_0_18 x1 x8 x10 y25)
     (frk
      (n_f3_0_23 x1 x8 x10 y25)
      (br (cSl y25 x10 ((List.length y25 : Nat) : Int) ((List.length y25 : Nat) : Int))
       (frk
        (n_f3_0_19 x1 x8 x10 y25)
        (n_f3_0_24 x1 x8 x10 y25))
       (none))))))
  (none)
noncomputable def lp_f3_0 (x1 : ByteArray) (x8 : ByteArray) (x10 : Int) (y25 : (List Int)) : Option (Exit × VS) := ev g_f3 tb_f3_0 (st_f3_0 x1 x8 x10 y25) fun e S => some (e, fgt fh_f3_0 S)
def la_f3_0 (x1 : ByteArray) (x8 : ByteArray) (x10 : Int) (y25 : (List Int)) : Option (Exit × VS) := some (.normal, st_f3_0_normal (x1) (x8) (insX y25 x10))
theorem ln_f3_0 (x1 : ByteArray) (x8 : ByteArray) (x10 : Int) (y25 : (List Int)) : lp_f3_0 x1 x8 x10 y25 = n_f3_0 x1 x8 x10 y25 := by kernel_rfl
def r_f3_1 (p0 : (List Int)) (p1 : ByteArray) (p2 : Int) : Option (V × List VO) :=
 br ((nameG p1))
  (br ((agT p1))
   (some (.t .bool awkT, []))
   (some (.t .bool false, [])))
  (none)
def r_f3_2 (p0 : (List Int)) (p1 : ByteArray) (p2 : Int) : Option (V × List VO) :=
 br ((nameG (txF (roll p0))))
  (br ((agT (txF (roll p0))))
   (br ((nameG (strOf (bytesL (txF (roll p0))))))
    (br ((agT (strOf (bytesL (txF (roll p0))))))
     (r_f3_1 p0 p1 p2)
     (some (.t .bool false, [])))
    (none))
   (some (.t .bool false, [])))
  (none)
def r_f3 (p0 : (List Int)) (p1 : ByteArray) (p2 : Int) : Option (V × List VO) :=
 br ((!(light p0)))
  (some (.t .bool awkT, []))
  (br ((igt (slen p1) 9000))
   (some (.t .bool awkT, []))
   (br ((dOk (roll p0)))
    (br ((bytesOk (txF (roll p0))))
     (br ((igt (llen (bytesL (txF (roll p0)))) 0))
      (br ((dmodOk p2 (llen (bytesL (txF (roll p0))))))
       (br ((nextOk (txN (roll p0)) 4))
        (br ((ieq (dval (txN (roll p0)) 4) 0))
         (br ((ofOk (dnext (txN (roll p0)) 4) ([10, 32, 92, 61, 91, 93, 35, 9, 13, 127, 200])))
          (br (cIx (bytesL (txF (roll p0))) (dmod p2 (llen (bytesL (txF (roll p0))))))
           (br (cLd (bytesL (txF (roll p0))) (Int.toNat (dmod p2 (llen (bytesL (txF (roll p0)))))))
            (br ((nameG (txF (roll p0))))
             (br ((agT (txF (roll p0))))
              (br ((nameG (strOf (List.set (bytesL (txF (roll p0))) (Int.toNat (dmod p2 (llen (bytesL (txF (roll p0)))))) (icv .u8 (dof (dnext (txN (roll p0)) 4) ([10, 32, 92, 61, 91, 93, 35, 9, 13, 127, 200])))))))
               (br ((agT (strOf (List.set (bytesL (txF (roll p0))) (Int.toNat (dmod p2 (llen (bytesL (txF (roll p0)))))) (icv .u8 (dof (dnext (txN (roll p0)) 4) ([10, 32, 92, 61, 91, 93, 35, 9, 13, 127, 200])))))))
                (r_f3_1 p0 p1 p2)
                (some (.t .bool false, [])))
               (none))
              (some (.t .bool false, [])))
             (none))
            (none))
           (none))
          (none))
         (br ((ieq (dval (txN (roll p0)) 4) 1))
          (br (cWn (bytesL (txF (roll p0))) 0 (dmod p2 (llen (bytesL (txF (roll p0))))))
           (br (cWn (bytesL (txF (roll p0))) (iadd .i64 (dmod p2 (llen (bytesL (txF (roll p0))))) 1) ((List.length (bytesL (txF (roll p0))) : Nat) : Int))
            (br (cApp (wnL (.int .u8) (bytesL (txF (roll p0))) 0 (Int.toNat (dmod p2 (llen (bytesL (txF (roll p0))))) - Int.toNat 0)) (wnL (.int .u8) (bytesL (txF (roll p0))) (Int.toNat (iadd .i64 (dmod p2 (llen (bytesL (txF (roll p0))))) 1)) (Int.toNat ((List.length (bytesL (txF (roll p0))) : Nat) : Int) - Int.toNat (iadd .i64 (dmod p2 (llen (bytesL (txF (roll p0))))) 1))) 1)
             (br ((nameG (txF (roll p0))))
              (br ((agT (txF (roll p0))))
               (br ((nameG (strOf ((wnL (.int .u8) (bytesL (txF (roll p0))) 0 (Int.toNat (dmod p2 (llen (bytesL (txF (roll p0))))) - Int.toNat 0)) ++ (wnL (.int .u8) (bytesL (txF (roll p0))) (Int.toNat (iadd .i64 (dmod p2 (llen (bytesL (txF (roll p0))))) 1)) (Int.toNat ((List.length (bytesL (txF (roll p0))) : Nat) : Int) - Int.toNat (iadd .i64 (dmod p2 (llen (bytesL (txF (roll p0))))) 1)))))))
                (br ((agT (strOf ((wnL (.int .u8) (bytesL (txF (roll p0))) 0 (Int.toNat (dmod p2 (llen (bytesL (txF (roll p0))))) - Int.toNat 0)) ++ (wnL (.int .u8) (bytesL (txF (roll p0))) (Int.toNat (iadd .i64 (dmod p2 (llen (bytesL (txF (roll p0))))) 1)) (Int.toNat ((List.length (bytesL (txF (roll p0))) : Nat) : Int) - Int.toNat (iadd .i64 (dmod p2 (llen (bytesL (txF (roll p0))))) 1)))))))
                 (r_f3_1 p0 p1 p2)
                 (some (.t .bool false, [])))
                (none))
               (some (.t .bool false, [])))
              (none))
             (none))
            (none))
           (none))
          (br ((ieq (dval (txN (roll p0)) 4) 2))
           (br ((decide (0 ≤ (dmod p2 (llen (bytesL (txF (roll p0))))) ∧ (dmod p2 (llen (bytesL (txF (roll p0))))) < (bytesL (txF (roll p0))).length ∧ (bytesL (txF (roll p0))).length ≤ 100000)))
            (br ((nameG ((txF (roll p0)))))
             (br ((agT ((txF (roll p0)))))
              (br ((nameG (strOf (insX (bytesL (txF (roll p0))) (dmod p2 (llen (bytesL (txF (roll p0)))))))))
               (br ((agT (strOf (insX (bytesL (txF (roll p0))) (dmod p2 (llen (bytesL (txF (roll p0)))))))))
                (br ((nameG (p1)))
                 (br ((agT (p1)))
                  (some (.t .bool awkT, []))
                  (some (.t .bool false, [])))
                 (none))
                (some (.t .bool false, [])))
               (none))
              (some (.t .bool false, [])))
             (none))
            (none))
           (r_f3_2 p0 p1 p2))))
        (none))
       (none))
      (r_f3_2 p0 p1 p2))
     (none))
    (none)))
theorem e_f3 (p0 : (List Int)) (p1 : ByteArray) (p2 : Int) : runF g_f3 tc_f3 rv_f3 false [.t (.sl tI) p0, .t .str p1, .t tI p2] [] = r_f3 p0 p1 p2 := by kernel_rfl
theorem ok_f3 : Option.map (trC Tryd.prog) Tryd.f3.body = some tc_f3.er := by kernel_rfl
theorem rok_f3 : trVs Tryd.prog Tryd.f3.results.toList = some (rv_f3.map Prod.fst) := by kernel_rfl
theorem gk_f3 : GOk Tryd.prog g_f3 := gok_of _ (by
 intro p hp
 simp only [List.mem_cons, List.not_mem_nil, or_false] at hp
 rcases hp with rfl | rfl | rfl | rfl | rfl | rfl | rfl | rfl | rfl | rfl
 ·exact ⟨en_f13, ms_f13⟩
 ·exact ⟨en_f14, ms_f14⟩
 ·exact ⟨en_f15, ms_f15⟩
 ·exact ⟨en_f16, ms_f16⟩
 ·exact ⟨en_f17, ms_f17⟩
 ·exact ⟨en_f18, ms_f18⟩
 ·exact ⟨en_f19, ms_f19⟩
 ·exact ⟨en_f20, ms_f20⟩
 ·exact ⟨en_op_convert_28_9, ms_op_convert_28_9⟩
 ·exact ⟨en_op_convert_9_28_O, ms_op_convert_9_28_O⟩)
theorem lsl_len (l : List Int) (a b : Int) : (lsl l a b).length ≤ l.length := by
 unfold lsl
 rw [List.length_take, List.length_drop]
 omega
theorem l_f3_0 (x1 : ByteArray) (x8 : ByteArray) (x10 : Int) (y25 : (List Int)) (h : (decide (0 ≤ x10 ∧ x10 < y25.length ∧ y25.length ≤ 100000)) = true) : lp_f3_0 x1 x8 x10 y25 = la_f3_0 x1 x8 x10 y25 := by
 obtain ⟨h0, h1, h2⟩ := of_decide_eq_true h
 have l1 := lsl_len y25 0 x10
 have l2 := lsl_len y25 x10 ((List.length y25 : Nat) : Int)
 have c1 : cApp ([] : List Int) (lsl y25 0 x10) 1 = true := cAppN (by decide) (by simp only [List.length_nil]; omega)
 have c2 : cApp (([] : List Int) ++ (lsl y25 0 x10)) ([(lgt (.int .u8) y25 (Int.toNat x10))]) 1 = true := cAppN (by decide) (by simp only [List.length_nil, List.length_append, List.length_cons]; omega)
 have c3 : cApp ((([] : List Int) ++ (lsl y25 0 x10)) ++ ([(lgt (.int .u8) y25 (Int.toNat x10))])) (lsl y25 x10 ((List.length y25 : Nat) : Int)) 1 = true := cAppN (by decide) (by simp only [List.length_nil, List.length_append, List.length_cons]; omega)
 have c4 : cSl y25 0 x10 ((List.length y25 : Nat) : Int) = true := decide_eq_true (by omega)
 have c5 : cSl y25 x10 ((List.length y25 : Nat) : Int) ((List.length y25 : Nat) : Int) = true := decide_eq_true (by omega)
 have c6 : cIx y25 x10 = true := decide_eq_true (by omega)
 rw [ln_f3_0]
 simp only [n_f3_0, n_f3_0_1, n_f3_0_2, n_f3_0_3, n_f3_0_4, n_f3_0_5, n_f3_0_6, n_f3_0_7, n_f3_0_8, n_f3_0_9, n_f3_0_10, n_f3_0_11, n_f3_0_12, n_f3_0_13, n_f3_0_14, n_f3_0_15, n_f3_0_16, n_f3_0_17, n_f3_0_18, n_f3_0_19, n_f3_0_20, n_f3_0_21, n_f3_0_22, n_f3_0_23, n_f3_0_24, frk_self, c1, c2, c3, c4, c5, c6, br_true, frk_self]
 rfl
theorem lo_f3_0 : ∀ S l p, g_f3.L 0 (fgt fg_f3_0 S) = some (true, l) → pickA l = some p → ev g_f3 tb_f3_0 (fgt fg_f3_0 S) (fun e S => some (e, fgt fh_f3_0 S)) = some p :=
 lokG_of (s := sh_f3_0) ⟨by decide, by decide⟩ (by kernel_rfl) fun x y hok p hp => by
 simp only [pickA_br, pickA_one] at hp
 exact (l_f3_0 x.1 x.2.1 x.2.2.2.1 y.1 (by simpa using hok)).trans hp
theorem lk_f3 : tc_f3.lok g_f3 := by
 repeat (first | exact trivial | exact lo_f3_0 | refine ⟨?_, ?_⟩)
set_option maxRecDepth 100000 in
theorem s_f3 (p0 : List Int) (p1 : ByteArray) (p2 : Int) : r_f3 p0 p1 p2 = some (.t .bool (txtT p0 p1 p2), []) := by
 simp only [r_f3, r_f3_1, r_f3_2]
 refine br_intro (fun _ => rfl) (fun k1 => br_intro (fun _ => rfl) (fun k2 => ?_))
 have k1 : light p0 = true := by simpa using k1
 have k2 : p1.size ≤ 9000 := by simp only [igt, slen, decide_eq_false_iff_not] at k2; omega
 have hd := dOk_roll k1
 have hn := txN_ok hd
 have hz := txF_size (roll p0)
 generalize txF (roll p0) = s at hz ⊢
 generalize txN (roll p0) = d at hn ⊢
 have z1 : nameG s = true := decide_eq_true (by omega)
 have z2 : nameG p1 = true := decide_eq_true (by omega)
 have z3 : bytesOk s = true := decide_eq_true (by omega)
 have hb : (bytesL s).length = s.size := by simp [bytesL]
 have hfin : br (nameG p1) (br (agT p1) (some (V.t .bool awkT, ([] : List VO))) (some (.t .bool false, []))) none = some (.t .bool true, []) := by rw [z2]; rfl
 have hD : br (nameG s) (br (agT s) (br (nameG (strOf (bytesL s))) (br (agT (strOf (bytesL s))) (br (nameG p1) (br (agT p1) (some (V.t .bool awkT, ([] : List VO))) (some (.t .bool false, []))) none) (some (.t .bool false, []))) none) (some (.t .bool false, []))) none = some (.t .bool true, []) :=
  brY z1 (brY rfl (brY (strOf_ok (by omega)) (brY rfl hfin)))
 rw [hd, br_true, z3, br_true]
 cases h5 : igt (llen (bytesL s)) 0 with
 | false =>
  rw [br_false]
  exact hD
 | true =>
  have h5 : 0 < s.size := by simp only [igt, llen, decide_eq_true_eq] at h5; omega
  have d1 : dmodOk p2 (llen (bytesL s)) = true := by
   simp only [dmodOk, llen, decide_eq_true_eq]
   omega
  have hm : 0 ≤ dmod p2 (llen (bytesL s)) ∧ dmod p2 (llen (bytesL s)) < llen (bytesL s) := by
   have : 0 < llen (bytesL s) := by simp only [llen]; omega
   unfold dmod
   rw [if_neg (by omega)]
   exact ⟨Int.emod_nonneg _ (by omega), Int.emod_lt_of_pos _ (by omega)⟩
  generalize dmod p2 (llen (bytesL s)) = i at hm ⊢
  generalize bytesL s = b at hb d1 hm hD ⊢
  simp only [llen] at hm
  obtain ⟨k, rfl⟩ := Int.eq_ofNat_of_zero_le hm.1
  have e1 : iadd .i64 (k : Int) 1 = ((k + 1 : Nat) : Int) := by rw [iadd_in (by omega)]; omega
  rw [br_true]
  refine brY d1 (brY (Bool.and_eq_true_iff.2 ⟨hn, by decide⟩) ?_)
  refine br_intro (fun _ => ?_) (fun _ => br_intro (fun _ => ?_) (fun _ => br_intro (fun _ => ?_) (fun _ => hD)))
  ·exact brY (Bool.and_eq_true_iff.2 ⟨dOk_next hn, by decide⟩) (brY (decide_eq_true hm) (brY (decide_eq_true (by omega)) (brY z1 (brY rfl (brY (strOf_ok (by rw [List.length_set]; omega)) (brY rfl hfin))))))
  ·rw [e1]
   have w1 : wnL (.int .u8) b 0 (Int.toNat (k : Int) - Int.toNat 0) = (b.drop 0).take k := wnL_eq (y := .int .u8) (by simp; omega)
   have w2 : wnL (.int .u8) b (Int.toNat ((k + 1 : Nat) : Int)) (Int.toNat ((List.length b : Nat) : Int) - Int.toNat ((k + 1 : Nat) : Int)) = (b.drop (k + 1)).take (b.length - (k + 1)) := wnL_eq (y := .int .u8) (by simp only [Int.toNat_natCast]; omega)
   rw [w1, w2]
   refine brY (decide_eq_true (by omega)) (brY (decide_eq_true (by omega)) (brY (cAppN (by decide) (by simp only [List.length_take, List.length_drop]; omega)) (brY z1 (brY rfl (brY (strOf_ok ?_) (brY rfl hfin))))))
   simp only [List.length_append, List.length_take, List.length_drop]
   omega
  ·refine brY (decide_eq_true ⟨hm.1, hm.2, by omega⟩) (brY z1 (brY rfl (brY (strOf_ok ?_) (brY rfl hfin))))
   have l1 := lsl_len b 0 (k : Int)
   have l2 := lsl_len b (k : Int) ((List.length b : Nat) : Int)
   unfold insX
   simp only [List.length_append, List.length_cons, List.length_nil]
   omega
def sp_f3 : Ent := spec (.pr (.sl tI) (.pr .str (.pr tI .nil))) (fun x => true) (fun x => (.t .bool (txtT x.1 x.2.1 x.2.2.1)))
theorem ms_f3 : Meets Tryd.prog 3 (strip sp_f3) := by
 obtain ⟨c, hc, hi⟩ := Option.map_eq_some_iff.1 ok_f3
 exact meets_spec (R := runF g_f3 tc_f3 rv_f3 false) (meets_of (by decide) Tryd.func3 hc hi Tryd.ntmps3 rok_f3 gk_f3 lk_f3 mixed) fun x _ => (e_f3 x.1 x.2.1 x.2.2.1).trans (s_f3 x.1 x.2.1 x.2.2.1)
theorem walkSettingsTexts (z0 : (List Int)) (z1 : ByteArray) (z2 : Int) (W : World) (v0 : Value) (v1 : Value) (v2 : Value) (c0 : C noX W (fun _ => .no) (V.t (.sl tI) z0).d v0) (c1 : C noX W (fun _ => .no) (V.t .str z1).d v1) (c2 : C noX W (fun _ => .no) (V.t tI z2).d v2) (w0 : Ty.wf (.sl tI) z0) (w1 : Ty.wf .str z1) (w2 : Ty.wf tI z2) :
  Calls Tryd.prog 3 #[v0, v1, v2] W fun r w' => r = .returned (.bool true) ∧ Below W.heap.size W w' :=
 calls_true (by decide) ms_f3 (args := [.t (.sl tI) z0, .t .str z1, .t tI z2]) (strip_spec (x := (z0, z1, z2, ())) rfl (rfl)) (by simp only [V.ds, Cs]; exact ⟨_, _, rfl, c0, _, _, rfl, c1, _, _, rfl, c2, rfl⟩)
end
end Go.Proofs.YtkkoedniahnneaaDoor.K
