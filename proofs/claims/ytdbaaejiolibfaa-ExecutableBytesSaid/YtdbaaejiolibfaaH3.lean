/-
  The law that decoding agrees with its answer at all bytes.
-/
import Derived.Test.YtdbaaejiolibfaaH0
import Derived.Test.YtdbaaejiolibfaaG11
import Derived.Test.YtdbaaejiolibfaaG2N
set_option linter.unusedSimpArgs false
set_option linter.unusedVariables false
namespace Go.Proofs.Ytdbaaejiolibfaa.K.OE
open Go.RowKit Go.Shelf
noncomputable section
theorem dec_img (l : List Int) : imgOk (decX l).1 = true := by
  have h0 : imgOk noImg = true := rfl
  unfold decX
  cases decide (4096 < l.length) with
  | true => exact h0
  | false =>
    cases mgD l with
    | true => exact h0
    | false =>
      cases (d4D l).2.1 || decide (0 < (d4D l).1.length) with
      | true => exact h0
      | false =>
        cases hb : badX (imD l) with
        | true => exact h0
        | false =>
          obtain ⟨h1, h2, _⟩ := bad_facts hb
          show imgOk (imD l) = true
          exact decide_eq_true ⟨by omega, by omega⟩
def rawOk (l : List Int) : Bool := l.all isB && decide (l.length ≤ 5000)
theorem raw_dec {l : List Int} (h : rawOk l = true) : decOkX l = true ∧ decOkX ([88, 69, 1] ++ l) = true ∧ l.length ≤ 5000 := by
  simp only [rawOk, Bool.and_eq_true, decide_eq_true_eq] at h
  refine ⟨?_, ?_, h.2⟩
  · simp only [decOkX, Bool.and_eq_true, decide_eq_true_eq]
    exact ⟨h.1, by omega⟩
  · simp only [decOkX, List.all_append, h.1, Bool.and_true, Bool.and_eq_true, decide_eq_true_eq, List.length_append, List.length_cons, List.length_nil]
    exact ⟨rfl, by omega⟩
def insB (l : List Int) (i : Int) (d : Dice) : List Int := ((([] : List Int) ++ (wnL (.int .u8) l (Int.toNat 0) (Int.toNat i - Int.toNat 0))) ++ ([(icv .u8 (dval d 256))])) ++ (wnL (.int .u8) l (Int.toNat i) (Int.toNat ((List.length l : Nat) : Int) - Int.toNat i))
theorem u8_isB (n : Int) : isB (icv .u8 n) = true := by
  have : icv .u8 n = n % 256 := by
    show IntKind.u8.wrap n = _
    rw [IntKind.wrap_u8]
  rw [this]
  exact decide_eq_true (by omega)
theorem part_isB {l : List Int} (h : l.all isB = true) (a b : Nat) : ((l.drop a).take b).all isB = true := by
  rw [List.all_eq_true] at h ⊢
  exact fun x hx => h x (List.mem_of_mem_drop (List.mem_of_mem_take hx))
theorem ins_dec {l : List Int} {i : Int} {d : Dice} (h : l.all isB = true) (hl : l.length ≤ 5000) (h0 : 0 ≤ i) (h1 : i ≤ l.length) : decOkX (insB l i d) = true := by
  unfold insB
  rw [wnL_eq (y := .int .u8) (by simp only [Int.toNat_zero]; omega), wnL_eq (y := .int .u8) (by rw [Int.toNat_natCast]; omega)]
  simp only [decOkX, List.nil_append, List.all_append, part_isB h, List.all_cons, List.all_nil, u8_isB, Bool.and_true, Bool.true_and, Bool.and_self, decide_eq_true_eq, List.length_append, List.length_take, List.length_drop, List.length_cons, List.length_nil]
  omega
def bytesT (_l _r : List Int) (_a : Int) : Bool := true
def bytesTOk (_l r : List Int) (_a : Int) : Bool := r.all isB

def dr_f3_0 : List DO := [(.mk (oV 50 8) []), (.mk (oV 51 10) []), (.mk (oP 52 (.slc 1 (.t 50) none (some (.t 51)) none)) [0, 1]), (.mk (oV 53 8) []), (.mk (oV 54 10) []), (.mk (oP 55 (.bin false .add (.t 54) (cI 1))) [4]), (.mk (oP 56 (.slc 1 (.t 53) (some (.t 55)) none none)) [3, 5]), (.mk (oM 57 (.app 5 1 1 (.t 52) (.t 56))) [2, 6]), (.mk (oV 8 57) [7, 7, 0, 1, 2, 3, 4, 5, 6, 7])]
def dr_f3_1 : List DO := [(.mk (oM 60 (.bs 5 1 0 [] [])) []), (.mk (oV 61 8) []), (.mk (oV 62 10) []), (.mk (oP 63 (.slc 1 (.t 61) none (some (.t 62)) none)) [1, 2]), (.mk (oM 64 (.app 5 1 1 (.t 60) (.t 63))) [0, 3]), (.mk (oV 65 7) []), (.mk (oC 66 10 [(.t 65), (cI 256)]) [5, 4]), (.mk (oP 67 (.cv .u8 (.t 66))) [6]), (.mk (oM 68 (.bs 5 1 1 [(.v (.int .u8 0))] [(0, 1, (.t 67))])) [7]), (.mk (oM 69 (.app 5 1 1 (.t 64) (.t 68))) [4, 8, 6]), (.mk (oV 70 8) []), (.mk (oV 71 10) []), (.mk (oP 72 (.slc 1 (.t 70) (some (.t 71)) none none)) [10, 11]), (.mk (oM 73 (.app 5 1 1 (.t 69) (.t 72))) [9, 12, 9]), (.mk (oV 8 73) [13, 13, 0, 1, 2, 3, 4, 5, 6, 7, 8, 9, 10, 11, 12, 13])]
def fg_f3_1 : Fg := ⟨[(1, some (.sl (.int .u8))), (7, none), (8, none), (10, some tI)], [(8, none), (26, some tyDice), (30, none), (57, none), (60, none), (64, none), (69, none), (73, none), (100, none), (102, none), (5026, none), (5030, none), (10026, none), (10030, none), (15026, none), (15030, none)]⟩
def fh_f3_1 : Fg := ⟨[(1, some (.sl (.int .u8))), (8, none)], [(8, none), (30, none), (57, none), (60, none), (64, none), (69, none), (73, none), (100, none), (102, none), (5030, none), (10030, none), (15030, none)]⟩
def tb_f3_1 : TC := (.dr dr_f3_1 [(0, [60, 5060, 10060, 15060]), (1, [8, 30, 57, 60, 64, 69, 73, 100, 102, 5030, 10030, 15030]), (2, []), (3, [8, 30, 57, 60, 64, 69, 73, 100, 102, 5030, 10030, 15030]), (4, [8, 30, 57, 60, 64, 69, 73, 100, 102, 5030, 5064, 10030, 10064, 15030, 15064]), (5, [26, 5026, 10026, 15026]), (6, [26, 66, 5026, 5066, 10026, 10066, 15026, 15066]), (7, []), (8, []), (9, [60, 64, 69, 5069, 10069, 15069]), (10, [8, 30, 57, 60, 64, 69, 73, 100, 102, 5030, 10030, 15030]), (11, []), (12, [8, 30, 57, 60, 64, 69, 73, 100, 102, 5030, 10030, 15030]), (13, [8, 30, 57, 60, 64, 69, 73, 100, 102, 5030, 5073, 10030, 10073, 15030, 15073]), (14, [60, 64, 69, 73])] (.one 2 (.one 5 (.one 11 (.alt 0 (.one 1 (.one 3 (.alt 4 (.alt 6 (.one 7 (.one 8 (.alt 9 (.of [10, 12, 13, 14]) (.one 10 (.alt 9 (.of [12, 13, 14]) (.of [12, 9, 13, 14])))))) (.one 10 (.alt 6 (.one 7 (.one 8 (.alt 9 (.of [12, 13, 14]) (.of [12, 9, 13, 14])))) (.of [12, 6, 7, 8, 9, 13, 14])))) (.one 10 (.alt 4 (.alt 6 (.one 7 (.one 8 (.alt 9 (.of [12, 13, 14]) (.of [12, 9, 13, 14])))) (.of [12, 6, 7, 8, 9, 13, 14])) (.of [12, 4, 6, 7, 8, 9, 13, 14])))))) (.alt 1 (.alt 0 (.one 3 (.alt 4 (.alt 6 (.one 7 (.one 8 (.alt 9 (.of [10, 12, 13, 14]) (.one 10 (.alt 9 (.of [12, 13, 14]) (.of [12, 9, 13, 14])))))) (.one 10 (.alt 6 (.one 7 (.one 8 (.alt 9 (.of [12, 13, 14]) (.of [12, 9, 13, 14])))) (.of [12, 6, 7, 8, 9, 13, 14])))) (.one 10 (.alt 4 (.alt 6 (.one 7 (.one 8 (.alt 9 (.of [12, 13, 14]) (.of [12, 9, 13, 14])))) (.of [12, 6, 7, 8, 9, 13, 14])) (.of [12, 4, 6, 7, 8, 9, 13, 14]))))) (.alt 3 (.alt 0 (.alt 4 (.alt 6 (.one 7 (.one 8 (.alt 9 (.of [10, 12, 13, 14]) (.one 10 (.alt 9 (.of [12, 13, 14]) (.of [12, 9, 13, 14])))))) (.one 10 (.alt 6 (.one 7 (.one 8 (.alt 9 (.of [12, 13, 14]) (.of [12, 9, 13, 14])))) (.of [12, 6, 7, 8, 9, 13, 14])))) (.one 10 (.alt 4 (.alt 6 (.one 7 (.one 8 (.alt 9 (.of [12, 13, 14]) (.of [12, 9, 13, 14])))) (.of [12, 6, 7, 8, 9, 13, 14])) (.of [12, 4, 6, 7, 8, 9, 13, 14])))) (.one 10 (.alt 0 (.alt 4 (.alt 6 (.one 7 (.one 8 (.alt 9 (.of [12, 13, 14]) (.of [12, 9, 13, 14])))) (.of [12, 6, 7, 8, 9, 13, 14])) (.of [12, 4, 6, 7, 8, 9, 13, 14])) (.of [12, 0, 4, 6, 7, 8, 9, 13, 14])))) (.one 10 (.alt 0 (.one 3 (.alt 4 (.alt 6 (.one 7 (.one 8 (.alt 9 (.of [12, 13, 14]) (.of [12, 9, 13, 14])))) (.of [12, 6, 7, 8, 9, 13, 14])) (.of [12, 4, 6, 7, 8, 9, 13, 14]))) (.alt 3 (.alt 0 (.alt 4 (.alt 6 (.one 7 (.one 8 (.alt 9 (.of [12, 13, 14]) (.of [12, 9, 13, 14])))) (.of [12, 6, 7, 8, 9, 13, 14])) (.of [12, 4, 6, 7, 8, 9, 13, 14])) (.of [12, 0, 4, 6, 7, 8, 9, 13, 14])) (.one 12 (.alt 0 (.of [3, 4, 6, 7, 8, 9, 13, 14]) (.of [3, 0, 4, 6, 7, 8, 9, 13, 14])))))))) (.one 10 (.alt 0 (.one 1 (.one 3 (.alt 4 (.alt 6 (.one 7 (.one 8 (.alt 9 (.of [12, 13, 14]) (.of [12, 9, 13, 14])))) (.of [12, 6, 7, 8, 9, 13, 14])) (.of [12, 4, 6, 7, 8, 9, 13, 14])))) (.alt 1 (.alt 0 (.one 3 (.alt 4 (.alt 6 (.one 7 (.one 8 (.alt 9 (.of [12, 13, 14]) (.of [12, 9, 13, 14])))) (.of [12, 6, 7, 8, 9, 13, 14])) (.of [12, 4, 6, 7, 8, 9, 13, 14]))) (.alt 3 (.alt 0 (.alt 4 (.alt 6 (.one 7 (.one 8 (.alt 9 (.of [12, 13, 14]) (.of [12, 9, 13, 14])))) (.of [12, 6, 7, 8, 9, 13, 14])) (.of [12, 4, 6, 7, 8, 9, 13, 14])) (.of [12, 0, 4, 6, 7, 8, 9, 13, 14])) (.one 12 (.alt 0 (.of [3, 4, 6, 7, 8, 9, 13, 14]) (.of [3, 0, 4, 6, 7, 8, 9, 13, 14]))))) (.one 12 (.alt 0 (.of [1, 3, 4, 6, 7, 8, 9, 13, 14]) (.one 1 (.alt 0 (.of [3, 4, 6, 7, 8, 9, 13, 14]) (.of [3, 0, 4, 6, 7, 8, 9, 13, 14]))))))))))))))
def fg_f3_0 : Fg := ⟨[(1, some (.sl (.int .u8))), (8, some (.sl (.int .u8))), (11, some tI)], [(8, none), (30, none), (57, none), (60, none), (64, none), (69, none), (73, none), (100, none), (102, none), (5030, none), (10030, none), (15030, none)]⟩
def tb_f3_0 : TC := (.sq (.sq (.reg [(oV 74 11), (oP 75 (.bin false .lss (.t 74) (cI 3)))]) (.cd (.t 75) .sk (.fg ⟨[], []⟩ (.ex 1)))) (.sq (.bk 2 (.sq (.reg [(oV 79 8), (oC 80 12 [(.t 79)]), (oV 78 80), (oP 81 (.ext 0 (.t 78))), (oP 82 (.ext 1 (.t 78))), (oM 12 (.new [(.v (.slice none 0 0)), (.v (.slice none 0 0))])), (.mk none none (.m (.st 2 (.t 12) (.t 81)))), (oV 13 82)]) (.sq (.reg [(oV 84 8), (oC 85 13 [(.t 84)]), (oV 83 85), (oP 86 (.ext 0 (.t 83))), (oP 87 (.ext 1 (.t 83))), (oM 14 (.new [(.v (.slice none 0 0)), (.v (.slice none 0 0))])), (.mk none none (.m (.st 2 (.t 14) (.t 86)))), (oV 15 87)]) (.sq (.sq (.reg [(oV 88 13), (oV 89 15), (oP 90 (.bin false .neq (.t 88) (.t 89))), (oV 91 90), (oG 92 91 false (.m (.ld true 2 (.t 12)))), (oG 93 91 false (.m (.ld true 2 (.t 14)))), (oG 94 91 false (.call 14 [(.t 92), (.t 93)])), (oQ 95 91 false (.nt (.t 94))), (oP 96 (.pick (.t 91) (cB true) (.t 95)))]) (.cd (.t 96) (.sq (.reg [(oP 6 (.mv (cB false)))]) (.fg ⟨[(6, some .bool)], []⟩ .rt)) .sk)) (.sq (.reg [(oV 97 1), (oV 8 97)]) (.sq (.reg [(oV 98 11), (oP 99 (.bin false .eql (.t 98) (cI 1)))]) (.cd (.t 99) (.reg [(oM 100 (.bs 5 1 3 [(.v (.int .u8 0)), (.v (.int .u8 0)), (.v (.int .u8 0))] [(0, 1, (.c (.v (.int .u8 88)))), (1, 1, (.c (.v (.int .u8 69)))), (2, 1, (.c (.v (.int .u8 1))))])), (oV 101 1), (oM 102 (.app 5 1 1 (.t 100) (.t 101))), (oV 8 102)]) .sk))))))) (.fz [30, 60, 100] (.reg [(oV 76 11), (oP 77 (.bin false .add (.t 76) (cI 1))), (oV 11 77)]))))
/-- cipherplan/cipherplanlaw10.ExecutableBytes -/
def tc_f3 : TC := (.sq (.reg [(oP 6 (.mv (cB false)))]) (.sq (.sq (.reg [(oV 16 0), (oC 17 4 [(.t 16)]), (oP 18 (.nt (.t 17))), (oV 19 18), (oQ 20 19 false (.mv (.t 1))), (oQ 21 19 false (.len false (.t 20))), (oQ 22 19 false (.bin false .gtr (.t 21) (cI 5000))), (oP 23 (.pick (.t 19) (cB true) (.t 22)))]) (.cd (.t 23) (.sq (.reg [(oC 24 5 []), (oV 6 24)]) .rt) .sk)) (.sq (.reg [(oV 25 0), (oC 26 6 [(.t 25)]), (oV 7 26)]) (.sq (.reg [(oV 28 7), (oC 29 8 [(.t 28)]), (oC 30 7 [(.t 29)]), (oV 27 30), (oP 31 (.ext 0 (.t 27))), (oP 32 (.ext 1 (.t 27))), (oV 8 31), (oV 9 32)]) (.sq (.reg [(oV 33 2), (oV 34 8), (oP 35 (.len false (.t 34))), (oC 36 9 [(.t 33), (.t 35)]), (oV 10 36)]) (.sq (.sq (.reg [(oV 37 7), (oC 38 10 [(.t 37), (cI 4)])]) (.bk 0 (.sq (.reg [(oP 40 (.bin false .eql (.t 38) (cI 0))), (oV 39 40)]) (.cd (.t 39) (.reg [(oV 41 8), (oV 42 10), (oV 43 7), (oM 44 (.bs 3 1 5 [(.v (.int .i64 0)), (.v (.int .i64 0)), (.v (.int .i64 0)), (.v (.int .i64 0)), (.v (.int .i64 0))] [(0, 1, (cI 0)), (1, 1, (cI 1)), (2, 1, (cI 255)), (3, 1, (cI 88)), (4, 1, (cI 65))])), (oC 45 11 [(.t 43), (.t 44)]), (oP 46 (.cv .u8 (.t 45))), (oP 47 (.ix 1 (.t 41) (.t 42))), (.mk none none (.m (.st 1 (.t 47) (.t 46))))]) (.sq (.reg [(oP 49 (.bin false .eql (.t 38) (cI 1))), (oV 48 49)]) (.cd (.t 48) (.dr dr_f3_0 [(0, [8, 30, 57, 60, 64, 69, 73, 100, 102, 5030, 10030, 15030]), (1, []), (2, [8, 30, 57, 60, 64, 69, 73, 100, 102, 5030, 10030, 15030]), (3, [8, 30, 57, 60, 64, 69, 73, 100, 102, 5030, 10030, 15030]), (4, []), (5, []), (6, [8, 30, 57, 60, 64, 69, 73, 100, 102, 5030, 10030, 15030]), (7, [8, 30, 57, 60, 64, 69, 73, 100, 102, 5030, 5057, 10030, 10057, 15030, 15057]), (8, [8, 30, 57, 60, 64, 69, 73, 100, 102, 5030, 10030, 15030])] (.of [0, 1, 2, 3, 4, 5, 6, 7, 8])) (.sq (.reg [(oP 59 (.bin false .eql (.t 38) (cI 2))), (oV 58 59)]) (.cd (.t 58) (.rg 1 fg_f3_1 fh_f3_1 tb_f3_1) .sk)))))))) (.sq (.sq (.fz [30, 60, 100] (.reg [(oP 11 (.mv (cI 0)))])) (.bk 1 (.fz [30, 60] (.nw 8 5 (.lp 0 fg_f3_0 tb_f3_0))))) (.sq (.reg [(oC 103 5 []), (oV 6 103)]) .rt))))))))
def rv_f3 : List (RV × Option Ty) := [((.t 6), some .bool)]
abbrev sh_f3_1 : Sh := ⟨[(1, .ty (.sl (.int .u8))), (7, .ptr 26 0), (8, .ms 30), (10, .ty tI)], [(8, .no), (26, .box tyDice), (30, .arr 5 (.int .u8)), (57, .no), (60, .no), (64, .no), (69, .no), (73, .no), (100, .no), (102, .no), (5026, .no), (5030, .no), (10026, .no), (10030, .no), (15026, .no), (15030, .no)]⟩
def st_f3_1 (x1 : (List Int)) (x10 : Int) (y26 : Dice) (y30 : (List Int)) : VS := sh_f3_1.st (x1, (), (), x10, ()) ((), y26, y30, (), (), (), (), (), (), (), (), (), (), (), (), (), ())
abbrev sh_f3_1_normal : Sh := ⟨[(1, .ty (.sl (.int .u8))), (8, .ms 60)], [(8, .no), (30, .arr 5 (.int .u8)), (57, .no), (60, .arr 5 (.int .u8)), (64, .no), (69, .no), (73, .no), (100, .no), (102, .no), (5030, .no), (10030, .no), (15030, .no)]⟩
def st_f3_1_normal (x1 : (List Int)) (y30 : (List Int)) (y60 : (List Int)) : VS := sh_f3_1_normal.st (x1, (), ()) ((), y30, (), y60, (), (), (), (), (), (), (), (), ())
-- loop 1: (x1 : (List Int)) (x10 : Int) (y26 : Dice) (y30 : (List Int)); out: ('normal',) (x1 : (List Int)) (y30 : (List Int)) (y60 : (List Int))
abbrev sh_f3_0 : Sh := ⟨[(1, .ty (.sl (.int .u8))), (8, .ty (.sl (.int .u8))), (11, .ty tI)], [(8, .no), (30, .no), (57, .no), (60, .no), (64, .no), (69, .no), (73, .no), (100, .no), (102, .no), (5030, .no), (10030, .no), (15030, .no)]⟩
def st_f3_0 (x1 : (List Int)) (x8 : (List Int)) (x11 : Int) : VS := sh_f3_0.st (x1, x8, x11, ()) ((), (), (), (), (), (), (), (), (), (), (), (), ())
abbrev sh_f3_0_ret : Sh := ⟨[(6, .ty .bool)], []⟩
def st_f3_0_ret (x6 : Bool) : VS := sh_f3_0_ret.st (x6, ()) ()
abbrev sh_f3_0_e1 : Sh := ⟨[], []⟩
def st_f3_0_e1  : VS := sh_f3_0_e1.st () ()
-- loop 0: (x1 : (List Int)) (x8 : (List Int)) (x11 : Int); out: ('ret',) (x6 : Bool); ('exit', 1) 
def L_f3_1 : VS → Option (Bool × List (Bool × Exit × VS)) := mkL sh_f3_1 (fun x y => (decide (0 ≤ x.2.2.2.1 ∧ x.2.2.2.1 ≤ y.2.2.1.length ∧ y.2.2.1.length ≤ 100000) && dOk y.2.1)) (fun x y => [(true, .normal, st_f3_1_normal (x.1) (y.2.2.1) (insB y.2.2.1 x.2.2.2.1 y.2.1))])
def L_f3_0 : VS → Option (Bool × List (Bool × Exit × VS)) := mkL sh_f3_0 (fun x y => (decOkX x.2.1 && (rawOk x.1 && decide (0 ≤ x.2.2.1 ∧ x.2.2.1 ≤ 3)))) (fun x y => [((false), .ret, st_f3_0_ret (false)), (true, .exit 1, st_f3_0_e1)])
def g_f3 : G := ⟨TYs, [60, 100], 104, EL [(4, sp_f4), (5, sp_f5), (6, sp_f6), (7, sp_f7), (8, sp_f8), (9, sp_f9), (10, sp_f10), (11, sp_f11), (12, sp_f12), (13, sp_f13), (14, sp_f14)], keeps, (Ls [L_f3_0, L_f3_1]), IL [], RL []⟩
noncomputable def n_f3_1_4 (x1 : (List Int)) (x10 : Int) (y26 : Dice) (y30 : (List Int)) : Option (Exit × VS) :=
  br (cApp ((([] : List Int) ++ (wnL (.int .u8) y30 (Int.toNat 0) (Int.toNat x10 - Int.toNat 0))) ++ ([(icv .u8 (dval y26 256))])) (wnL (.int .u8) y30 (Int.toNat x10) (Int.toNat ((List.length y30 : Nat) : Int) - Int.toNat x10)) 1)
    (some (.normal, st_f3_1_normal x1 y30 (((([] : List Int) ++ (wnL (.int .u8) y30 (Int.toNat 0) (Int.toNat x10 - Int.toNat 0))) ++ ([(icv .u8 (dval y26 256))])) ++ (wnL (.int .u8) y30 (Int.toNat x10) (Int.toNat ((List.length y30 : Nat) : Int) - Int.toNat x10)))))
    (none)
noncomputable def n_f3_1_3 (x1 : (List Int)) (x10 : Int) (y26 : Dice) (y30 : (List Int)) : Option (Exit × VS) :=
  br (cApp (([] : List Int) ++ (wnL (.int .u8) y30 (Int.toNat 0) (Int.toNat x10 - Int.toNat 0))) ([(icv .u8 (dval y26 256))]) 1)
    (br (cWn y30 x10 ((List.length y30 : Nat) : Int))
      (n_f3_1_4 x1 x10 y26 y30)
      (none))
    (none)
noncomputable def n_f3_1_6 (x1 : (List Int)) (x10 : Int) (y26 : Dice) (y30 : (List Int)) : Option (Exit × VS) :=
  br (cApp (([] : List Int) ++ (wnL (.int .u8) y30 (Int.toNat 0) (Int.toNat x10 - Int.toNat 0))) ([(icv .u8 (dval y26 256))]) 1)
    (n_f3_1_4 x1 x10 y26 y30)
    (none)
noncomputable def n_f3_1_5 (x1 : (List Int)) (x10 : Int) (y26 : Dice) (y30 : (List Int)) : Option (Exit × VS) :=
  frk
    (n_f3_1_3 x1 x10 y26 y30)
    (br (cWn y30 x10 ((List.length y30 : Nat) : Int))
      (n_f3_1_6 x1 x10 y26 y30)
      (none))
noncomputable def n_f3_1_8 (x1 : (List Int)) (x10 : Int) (y26 : Dice) (y30 : (List Int)) : Option (Exit × VS) :=
  br ((nextOk y26 256))
    (n_f3_1_6 x1 x10 y26 y30)
    (none)
noncomputable def n_f3_1_7 (x1 : (List Int)) (x10 : Int) (y26 : Dice) (y30 : (List Int)) : Option (Exit × VS) :=
  frk
    (br ((nextOk y26 256))
      (n_f3_1_5 x1 x10 y26 y30)
      (none))
    (br (cWn y30 x10 ((List.length y30 : Nat) : Int))
      (n_f3_1_8 x1 x10 y26 y30)
      (none))
noncomputable def n_f3_1_11 (x1 : (List Int)) (x10 : Int) (y26 : Dice) (y30 : (List Int)) : Option (Exit × VS) :=
  br (cApp ([] : List Int) (wnL (.int .u8) y30 (Int.toNat 0) (Int.toNat x10 - Int.toNat 0)) 1)
    (n_f3_1_8 x1 x10 y26 y30)
    (none)
noncomputable def n_f3_1_10 (x1 : (List Int)) (x10 : Int) (y26 : Dice) (y30 : (List Int)) : Option (Exit × VS) :=
  br (cWn y30 x10 ((List.length y30 : Nat) : Int))
    (n_f3_1_11 x1 x10 y26 y30)
    (none)
noncomputable def n_f3_1_9 (x1 : (List Int)) (x10 : Int) (y26 : Dice) (y30 : (List Int)) : Option (Exit × VS) :=
  frk
    (br (cApp ([] : List Int) (wnL (.int .u8) y30 (Int.toNat 0) (Int.toNat x10 - Int.toNat 0)) 1)
      (n_f3_1_7 x1 x10 y26 y30)
      (none))
    (n_f3_1_10 x1 x10 y26 y30)
noncomputable def n_f3_1_2 (x1 : (List Int)) (x10 : Int) (y26 : Dice) (y30 : (List Int)) : Option (Exit × VS) :=
  frk
    (br (cApp ([] : List Int) (wnL (.int .u8) y30 (Int.toNat 0) (Int.toNat x10 - Int.toNat 0)) 1)
      (frk
        (br ((nextOk y26 256))
          (frk
            (n_f3_1_3 x1 x10 y26 y30)
            (n_f3_1_5 x1 x10 y26 y30))
          (none))
        (n_f3_1_7 x1 x10 y26 y30))
      (none))
    (n_f3_1_9 x1 x10 y26 y30)
noncomputable def n_f3_1_1 (x1 : (List Int)) (x10 : Int) (y26 : Dice) (y30 : (List Int)) : Option (Exit × VS) :=
  br (cWn y30 0 x10)
    (n_f3_1_2 x1 x10 y26 y30)
    (none)
noncomputable def n_f3_1_12 (x1 : (List Int)) (x10 : Int) (y26 : Dice) (y30 : (List Int)) : Option (Exit × VS) :=
  frk
    (n_f3_1_9 x1 x10 y26 y30)
    (n_f3_1_10 x1 x10 y26 y30)
noncomputable def n_f3_1_14 (x1 : (List Int)) (x10 : Int) (y26 : Dice) (y30 : (List Int)) : Option (Exit × VS) :=
  br (cWn y30 0 x10)
    (n_f3_1_9 x1 x10 y26 y30)
    (none)
noncomputable def n_f3_1_16 (x1 : (List Int)) (x10 : Int) (y26 : Dice) (y30 : (List Int)) : Option (Exit × VS) :=
  br (cWn y30 0 x10)
    (n_f3_1_11 x1 x10 y26 y30)
    (none)
noncomputable def n_f3_1_15 (x1 : (List Int)) (x10 : Int) (y26 : Dice) (y30 : (List Int)) : Option (Exit × VS) :=
  frk
    (n_f3_1_16 x1 x10 y26 y30)
    (n_f3_1_16 x1 x10 y26 y30)
noncomputable def n_f3_1_13 (x1 : (List Int)) (x10 : Int) (y26 : Dice) (y30 : (List Int)) : Option (Exit × VS) :=
  frk
    (n_f3_1_14 x1 x10 y26 y30)
    (frk
      (br (cWn y30 0 x10)
        (n_f3_1_12 x1 x10 y26 y30)
        (none))
      (br (cWn y30 x10 ((List.length y30 : Nat) : Int))
        (n_f3_1_15 x1 x10 y26 y30)
        (none)))
noncomputable def n_f3_1 (x1 : (List Int)) (x10 : Int) (y26 : Dice) (y30 : (List Int)) : Option (Exit × VS) :=
  frk
    (n_f3_1_1 x1 x10 y26 y30)
    (frk
      (frk
        (n_f3_1_1 x1 x10 y26 y30)
        (frk
          (br (cWn y30 0 x10)
            (frk
              (n_f3_1_2 x1 x10 y26 y30)
              (n_f3_1_12 x1 x10 y26 y30))
            (none))
          (n_f3_1_13 x1 x10 y26 y30)))
      (frk
        (n_f3_1_14 x1 x10 y26 y30)
        (frk
          (n_f3_1_13 x1 x10 y26 y30)
          (br (cWn y30 x10 ((List.length y30 : Nat) : Int))
            (frk
              (n_f3_1_16 x1 x10 y26 y30)
              (n_f3_1_15 x1 x10 y26 y30))
            (none)))))
noncomputable def lp_f3_1 (x1 : (List Int)) (x10 : Int) (y26 : Dice) (y30 : (List Int)) : Option (Exit × VS) := ev g_f3 tb_f3_1 (st_f3_1 x1 x10 y26 y30) fun e S => some (e, fgt fh_f3_1 S)
def la_f3_1 (x1 : (List Int)) (x10 : Int) (y26 : Dice) (y30 : (List Int)) : Option (Exit × VS) := some (.normal, st_f3_1_normal (x1) (y30) (insB y30 x10 y26))
theorem ln_f3_1 (x1 : (List Int)) (x10 : Int) (y26 : Dice) (y30 : (List Int)) : lp_f3_1 x1 x10 y26 y30 = n_f3_1 x1 x10 y26 y30 := by kernel_rfl
def b_f3_0 (x1 : (List Int)) (x8 : (List Int)) (x11 : Int) : Option (Exit × VS) :=
  br ((ilt x11 3))
    (br ((decOkX x8))
      (br ((decOkX x8))
        (br ((ine ((decX x8).2) ((decX x8).2)))
          (some (.ret, st_f3_0_ret false))
          (br ((sameXOk ((decX x8).1) ((decX x8).1)))
            (br ((!(sameX ((decX x8).1) ((decX x8).1))))
              (some (.ret, st_f3_0_ret false))
              (br ((ieq x11 1))
                (br (cApp ([88, 69, 1]) x1 1)
                  (some (.normal, st_f3_0 x1 (([88, 69, 1]) ++ x1) (iadd .i64 x11 1)))
                  (none))
                (some (.normal, st_f3_0 x1 x1 (iadd .i64 x11 1)))))
            (none)))
        (none))
      (none))
    (some (.exit 1, st_f3_0_e1))
noncomputable def lp_f3_0 (x1 : (List Int)) (x8 : (List Int)) (x11 : Int) : Option (Exit × VS) := loopF (roundF g_f3 fg_f3_0 tb_f3_0) (st_f3_0 x1 x8 x11)
noncomputable def n_f3_0 (x1 : (List Int)) (x8 : (List Int)) (x11 : Int) : Option (Exit × VS) :=
  br ((ilt x11 3))
    (br ((decOkX x8))
      (br ((decOkX x8))
        (br ((ine ((decX x8).2) ((decX x8).2)))
          (some (.ret, st_f3_0_ret false))
          (br ((sameXOk ((decX x8).1) ((decX x8).1)))
            (br ((!(sameX ((decX x8).1) ((decX x8).1))))
              (some (.ret, st_f3_0_ret false))
              (br ((ieq x11 1))
                (br (cApp ([88, 69, 1]) x1 1)
                  (lp_f3_0 x1 (([88, 69, 1]) ++ x1) (iadd .i64 x11 1))
                  (none))
                (lp_f3_0 x1 x1 (iadd .i64 x11 1))))
            (none)))
        (none))
      (none))
    (some (.exit 1, st_f3_0_e1))
def la_f3_0 (x1 : (List Int)) (x8 : (List Int)) (x11 : Int) : Option (Exit × VS) := br (false) (some (.ret, st_f3_0_ret (false))) <| some (.exit 1, st_f3_0_e1)
theorem be_f3_0 (x1 : (List Int)) (x8 : (List Int)) (x11 : Int) : roundF g_f3 fg_f3_0 tb_f3_0 (st_f3_0 x1 x8 x11) = b_f3_0 x1 x8 x11 := by kernel_rfl
theorem ln_f3_0 (x1 : (List Int)) (x8 : (List Int)) (x11 : Int) : lp_f3_0 x1 x8 x11 = n_f3_0 x1 x8 x11 := (loopF_nxt _ _).trans (by
  rw [be_f3_0]
  simp only [b_f3_0, n_f3_0, nxt_br, nxt_n, nxt_r, nxt_e, nxt_0]
  rfl)
def r_f3_1 (p0 : (List Int)) (p1 : (List Int)) (p2 : Int) : Option (V × List VO) :=
  br ((false))
    (some (.t .bool (false), []))
    (some (.t .bool awakeL, []))
def r_f3 (p0 : (List Int)) (p1 : (List Int)) (p2 : Int) : Option (V × List VO) :=
  br ((!(light p0)))
    (some (.t .bool awakeL, []))
    (br ((igt (llen p1) 5000))
      (some (.t .bool awakeL, []))
      (br ((dOk (roll p0)))
        (br ((encOwn (imgV (roll p0))))
          (br ((dmodOk p2 (llen ((encX (imgV (roll p0))).1))))
            (br ((nextOk (imgN (roll p0)) 4))
              (br ((ieq (dval (imgN (roll p0)) 4) 0))
                (br ((ofOk (dnext (imgN (roll p0)) 4) ([0, 1, 255, 88, 65])))
                  (br (cIx ((encX (imgV (roll p0))).1) (dmod p2 (llen ((encX (imgV (roll p0))).1))))
                    (br (cLd ((encX (imgV (roll p0))).1) (Int.toNat (dmod p2 (llen ((encX (imgV (roll p0))).1)))))
                      (br ((decOkX (List.set ((encX (imgV (roll p0))).1) (Int.toNat (dmod p2 (llen ((encX (imgV (roll p0))).1)))) (icv .u8 (dof (dnext (imgN (roll p0)) 4) ([0, 1, 255, 88, 65])))) && (rawOk p1 && decide (0 ≤ (0 : Int) ∧ (0 : Int) ≤ 3))))
                        (r_f3_1 p0 p1 p2)
                        (none))
                      (none))
                    (none))
                  (none))
                (br ((ieq (dval (imgN (roll p0)) 4) 1))
                  (br (cWn ((encX (imgV (roll p0))).1) 0 (dmod p2 (llen ((encX (imgV (roll p0))).1))))
                    (br (cWn ((encX (imgV (roll p0))).1) (iadd .i64 (dmod p2 (llen ((encX (imgV (roll p0))).1))) 1) ((List.length ((encX (imgV (roll p0))).1) : Nat) : Int))
                      (br (cApp (wnL (.int .u8) ((encX (imgV (roll p0))).1) 0 (Int.toNat (dmod p2 (llen ((encX (imgV (roll p0))).1))) - Int.toNat 0)) (wnL (.int .u8) ((encX (imgV (roll p0))).1) (Int.toNat (iadd .i64 (dmod p2 (llen ((encX (imgV (roll p0))).1))) 1)) (Int.toNat ((List.length ((encX (imgV (roll p0))).1) : Nat) : Int) - Int.toNat (iadd .i64 (dmod p2 (llen ((encX (imgV (roll p0))).1))) 1))) 1)
                        (br ((decOkX ((wnL (.int .u8) ((encX (imgV (roll p0))).1) 0 (Int.toNat (dmod p2 (llen ((encX (imgV (roll p0))).1))) - Int.toNat 0)) ++ (wnL (.int .u8) ((encX (imgV (roll p0))).1) (Int.toNat (iadd .i64 (dmod p2 (llen ((encX (imgV (roll p0))).1))) 1)) (Int.toNat ((List.length ((encX (imgV (roll p0))).1) : Nat) : Int) - Int.toNat (iadd .i64 (dmod p2 (llen ((encX (imgV (roll p0))).1))) 1)))) && (rawOk p1 && decide (0 ≤ (0 : Int) ∧ (0 : Int) ≤ 3))))
                          (r_f3_1 p0 p1 p2)
                          (none))
                        (none))
                      (none))
                    (none))
                  (br ((ieq (dval (imgN (roll p0)) 4) 2))
                    (br ((decide (0 ≤ (dmod p2 (llen ((encX (imgV (roll p0))).1))) ∧ (dmod p2 (llen ((encX (imgV (roll p0))).1))) ≤ ((encX (imgV (roll p0))).1).length ∧ ((encX (imgV (roll p0))).1).length ≤ 100000) && dOk (dnext (imgN (roll p0)) 4)))
                      (br ((decOkX (insB ((encX (imgV (roll p0))).1) (dmod p2 (llen ((encX (imgV (roll p0))).1))) (dnext (imgN (roll p0)) 4)) && (rawOk (p1) && decide (0 ≤ (0 : Int) ∧ (0 : Int) ≤ 3))))
                        (r_f3_1 p0 p1 p2)
                        (none))
                      (none))
                    (br ((decOkX ((encX (imgV (roll p0))).1) && (rawOk p1 && decide (0 ≤ (0 : Int) ∧ (0 : Int) ≤ 3))))
                      (r_f3_1 p0 p1 p2)
                      (none)))))
              (none))
            (none))
          (none))
        (none)))
theorem e_f3 (p0 : (List Int)) (p1 : (List Int)) (p2 : Int) : runF g_f3 tc_f3 rv_f3 false [.t (.sl tI) p0, .t (.sl (.int .u8)) p1, .t tI p2] [] = r_f3 p0 p1 p2 := by kernel_rfl
theorem ok_f3 : Option.map (trC Try.prog) Try.f3.body = some tc_f3.er := by kernel_rfl
theorem rok_f3 : trVs Try.prog Try.f3.results.toList = some (rv_f3.map Prod.fst) := by kernel_rfl
theorem gk_f3 : GOk Try.prog g_f3 := gok_of _ (by
  intro p hp
  simp only [List.mem_cons, List.not_mem_nil, or_false] at hp
  rcases hp with rfl | rfl | rfl | rfl | rfl | rfl | rfl | rfl | rfl | rfl | rfl
  · exact ⟨en_f4, ms_f4⟩
  · exact ⟨en_f5, ms_f5⟩
  · exact ⟨en_f6, ms_f6⟩
  · exact ⟨en_f7, ms_f7⟩
  · exact ⟨en_f8, ms_f8⟩
  · exact ⟨en_f9, ms_f9⟩
  · exact ⟨en_f10, ms_f10⟩
  · exact ⟨en_f11, ms_f11⟩
  · exact ⟨en_f12, ms_f12⟩
  · exact ⟨en_f13, ms_f13⟩
  · exact ⟨en_f14, ms_f14⟩)
theorem ine_selfB (a : Int) : ine a a = false := by simp [ine]
theorem l_f3_0 (x1 : (List Int)) (x8 : (List Int)) (x11 : Int) (h : (decOkX x8 && (rawOk x1 && decide (0 ≤ x11 ∧ x11 ≤ 3))) = true) : lp_f3_0 x1 x8 x11 = la_f3_0 x1 x8 x11 := by
  simp only [Bool.and_eq_true, decide_eq_true_eq] at h
  obtain ⟨hb, hr, h0, h1⟩ := h
  obtain ⟨k, rfl⟩ := Int.eq_ofNat_of_zero_le h0
  obtain ⟨r1, r2, r3⟩ := raw_dec hr
  refine up_ind 3 (fun k => ∀ x8 : List Int, decOkX x8 = true → lp_f3_0 x1 x8 (k : Int) = la_f3_0 x1 x8 (k : Int)) ?_ ?_ k (by omega) x8 hb
  · intro x8 _
    rw [ln_f3_0]
    rfl
  · intro k hk ih x8 hb
    have e1 : ilt (k : Int) 3 = true := decide_eq_true (by omega)
    have e2 : sameXOk (decX x8).1 (decX x8).1 = true := dec_img x8
    have e3 : cApp ([88, 69, 1] : List Int) x1 1 = true := cAppG (by simp only [List.length_cons, List.length_nil]; omega)
    rw [ln_f3_0]
    simp only [n_f3_0, e1, hb, e2, ine_selfB, sameX_self, br_true, br_false, Bool.not_true, add1 (show k < 4611686018427387904 by omega)]
    rw [ih x1 r1, ih ([88, 69, 1] ++ x1) r2]
    refine br_intro (fun _ => ?_) (fun _ => rfl)
    refine Eq.trans (congrArg (fun b => br b _ _) e3) ?_
    rfl
theorem l_f3_1 (x1 : (List Int)) (x10 : Int) (y26 : Dice) (y30 : (List Int)) (h : (decide (0 ≤ x10 ∧ x10 ≤ y30.length ∧ y30.length ≤ 100000) && dOk y26) = true) : lp_f3_1 x1 x10 y26 y30 = la_f3_1 x1 x10 y26 y30 := by
  simp only [Bool.and_eq_true, decide_eq_true_eq] at h
  obtain ⟨⟨h0, h1, h2⟩, hd⟩ := h
  rw [ln_f3_1]
  have c1 : cWn y30 0 x10 = true := decide_eq_true ⟨Int.le_refl _, h0, h1⟩
  have c2 : cWn y30 x10 ((List.length y30 : Nat) : Int) = true := decide_eq_true ⟨h0, h1, Int.le_refl _⟩
  have c3 : nextOk y26 256 = true := by simp [nextOk, hd]
  have w1 : wnL (.int .u8) y30 (Int.toNat 0) (Int.toNat x10 - Int.toNat 0) = (y30.drop 0).take x10.toNat := wnL_eq (y := .int .u8) (by simp only [Int.toNat_zero]; omega)
  have w2 : wnL (.int .u8) y30 (Int.toNat x10) (Int.toNat ((List.length y30 : Nat) : Int) - Int.toNat x10) = (y30.drop x10.toNat).take (y30.length - x10.toNat) := wnL_eq (y := .int .u8) (by rw [Int.toNat_natCast]; omega)
  have c4 : cApp ([] : List Int) (wnL (.int .u8) y30 (Int.toNat 0) (Int.toNat x10 - Int.toNat 0)) 1 = true := by
    rw [w1]
    exact cAppG (by simp only [List.length_nil, List.length_take, List.length_drop]; omega)
  have c5 : cApp (([] : List Int) ++ (wnL (.int .u8) y30 (Int.toNat 0) (Int.toNat x10 - Int.toNat 0))) ([(icv .u8 (dval y26 256))]) 1 = true := by
    rw [w1]
    exact cAppG (by simp only [List.length_nil, List.length_append, List.length_cons, List.length_take, List.length_drop]; omega)
  have c6 : cApp ((([] : List Int) ++ (wnL (.int .u8) y30 (Int.toNat 0) (Int.toNat x10 - Int.toNat 0))) ++ ([(icv .u8 (dval y26 256))])) (wnL (.int .u8) y30 (Int.toNat x10) (Int.toNat ((List.length y30 : Nat) : Int) - Int.toNat x10)) 1 = true := by
    rw [w1, w2]
    exact cAppG (by simp only [List.length_nil, List.length_append, List.length_cons, List.length_take, List.length_drop]; omega)
  simp only [n_f3_1, n_f3_1_1, n_f3_1_2, n_f3_1_3, n_f3_1_4, n_f3_1_5, n_f3_1_6, n_f3_1_7, n_f3_1_8, n_f3_1_9, n_f3_1_10, n_f3_1_11, n_f3_1_12, n_f3_1_13, n_f3_1_14, n_f3_1_15, n_f3_1_16, frk_self, c1, c2, c3, c4, c5, c6, br_true, frk_self]
  rfl
theorem lo_f3_1 : ∀ S l p, g_f3.L 1 (fgt fg_f3_1 S) = some (true, l) → pickA l = some p → ev g_f3 tb_f3_1 (fgt fg_f3_1 S) (fun e S => some (e, fgt fh_f3_1 S)) = some p :=
  lokG_of (s := sh_f3_1) ⟨by decide, by decide⟩ (by kernel_rfl) fun x y hok p hp => by
  simp only [pickA_br, pickA_one] at hp
  exact (l_f3_1 x.1 x.2.2.2.1 y.2.1 y.2.2.1 (by simpa using hok)).trans hp
theorem lo_f3_0 : ∀ S l p, g_f3.L 0 (fgt fg_f3_0 S) = some (true, l) → pickA l = some p → loopF (roundF g_f3 fg_f3_0 tb_f3_0) S = some p :=
  lok_of (s := sh_f3_0) ⟨by decide, by decide⟩ (by kernel_rfl) fun x y hok p hp => by
  simp only [pickA_br, pickA_one] at hp
  exact (l_f3_0 x.1 x.2.1 x.2.2.1 (by simpa using hok)).trans hp
theorem lk_f3 : tc_f3.lok g_f3 := by
  repeat (first | exact trivial | exact lo_f3_1 | exact lo_f3_0 | refine ⟨?_, ?_⟩)
set_option maxRecDepth 100000 in
theorem s_f3 (p0 p1 : List Int) (p2 : Int) (h : bytesTOk p0 p1 p2 = true) : r_f3 p0 p1 p2 = some (.t .bool (bytesT p0 p1 p2), []) := by
  have h : p1.all isB = true := h
  simp only [r_f3, r_f3_1]
  refine br_intro (fun _ => rfl) (fun k1 => br_intro (fun _ => rfl) (fun k2 => ?_))
  have k1 : light p0 = true := by simpa using k1
  have k2 : p1.length ≤ 5000 := by simp only [igt, llen, decide_eq_false_iff_not] at k2; omega
  have hd := dOk_roll k1
  have hb := img_ok (roll p0)
  have hx := img_chk (roll p0)
  have e0 := enc_ok hb
  have e2 := img_dec (roll p0)
  have hw := written_len (imgV (roll p0))
  have hl2 : (writtenF (imgV (roll p0))).length ≤ 4096 := by
    simp only [badX, Bool.or_eq_false_iff, decide_eq_false_iff_not] at hb
    omega
  have hE : encOwn (imgV (roll p0)) = true := by
    unfold encOwn
    rw [hx, hb]
    rfl
  have hraw : rawOk p1 = true := by
    unfold rawOk
    rw [h, decide_eq_true k2]
    rfl
  obtain ⟨B, hB⟩ : ∃ B, B = (encX (imgV (roll p0))).1 := ⟨_, rfl⟩
  have hBw : B = writtenF (imgV (roll p0)) := by rw [hB, e0]
  have hBl : 5 ≤ B.length ∧ B.length ≤ 4096 := by rw [hBw]; omega
  have hBd : decOkX B = true := by rw [hBw]; exact e2
  have hBb : B.all isB = true := by simp only [decOkX, Bool.and_eq_true] at hBd; exact hBd.1
  have hi : 0 ≤ dmod p2 (llen B) ∧ dmod p2 (llen B) < B.length := by
    have h1 : (0 : Int) < (B.length : Int) := by omega
    have := Int.emod_nonneg p2 (show (B.length : Int) ≠ 0 by omega)
    have := Int.emod_lt_of_pos p2 h1
    simp only [dmod, llen]
    rw [if_neg (by omega)]
    omega
  have hdn : dOk (imgN (roll p0)) = true := by
    unfold imgN
    exact syms_okG _ (secs_okG _ _ hd)
  have m1 : dmodOk p2 (llen B) = true := decide_eq_true (by simp only [llen]; omega)
  have m2 : nextOk (imgN (roll p0)) 4 = true := by simp [nextOk, hdn]
  have hd4 : dOk (dnext (imgN (roll p0)) 4) = true := dok_next 4 hdn
  have m3 : ofOk (dnext (imgN (roll p0)) 4) [0, 1, 255, 88, 65] = true := by simp [ofOk, hd4]
  have hend : ∀ Z : List Int, decOkX Z = true → br (decOkX Z && (rawOk p1 && decide ((0 : Int) ≤ 0 ∧ (0 : Int) ≤ 3))) (br false (some (V.t .bool false, ([] : List VO))) (some (V.t .bool awakeL, []))) none = some (V.t .bool (bytesT p0 p1 p2), []) := fun Z hZ => by
    rw [hZ, hraw]
    rfl
  rw [hd, br_true, hE, br_true, ← hB, m1, br_true, m2, br_true]
  obtain ⟨k, hk⟩ := Int.eq_ofNat_of_zero_le hi.1
  rw [hk] at hi ⊢
  have hkl : k < B.length := by omega
  refine br_intro (fun _ => ?_) (fun _ => br_intro (fun _ => ?_) (fun _ => br_intro (fun _ => ?_) (fun _ => ?_)))
  · rw [m3, br_true, cIx_nat, decide_eq_true hkl, br_true, Int.toNat_natCast, show cLd B k = true from decide_eq_true (by omega), br_true]
    refine hend _ ?_
    simp only [decOkX, List.length_set, Bool.and_eq_true, decide_eq_true_eq]
    refine ⟨?_, by omega⟩
    rw [List.all_eq_true]
    intro z hz
    rcases List.mem_or_eq_of_mem_set hz with hz | rfl
    · exact List.all_eq_true.1 hBb z hz
    · exact u8_isB _
  · rw [add1 (show k < 4611686018427387904 by omega)]
    have w1 : wnL (.int .u8) B 0 (Int.toNat (k : Int) - Int.toNat 0) = (B.drop 0).take k := wnL_eq (y := .int .u8) (by rw [Int.toNat_natCast]; omega)
    have w2 : wnL (.int .u8) B (Int.toNat ((k + 1 : Nat) : Int)) (Int.toNat ((List.length B : Nat) : Int) - Int.toNat ((k + 1 : Nat) : Int)) = (B.drop (k + 1)).take (B.length - (k + 1)) := wnL_eq (y := .int .u8) (by rw [Int.toNat_natCast, Int.toNat_natCast]; omega)
    rw [show cWn B 0 (k : Int) = true from decide_eq_true (by omega), br_true, show cWn B ((k + 1 : Nat) : Int) ((List.length B : Nat) : Int) = true from decide_eq_true (by omega), br_true, w1, w2, cAppG (by simp only [List.length_take, List.length_drop]; omega), br_true]
    refine hend _ ?_
    simp only [decOkX, List.all_append, part_isB hBb, Bool.and_self, Bool.true_and, decide_eq_true_eq, List.length_append, List.length_take, List.length_drop]
    omega
  · have c : (decide ((0 : Int) ≤ (k : Int) ∧ (k : Int) ≤ B.length ∧ B.length ≤ 100000) && dOk (dnext (imgN (roll p0)) 4)) = true := by
      rw [hd4, decide_eq_true (by omega)]
      rfl
    refine Eq.trans (congrArg (fun b => br b _ _) c) ?_
    rw [br_true]
    exact hend _ (ins_dec hBb (by omega) (by omega) (by omega))
  · exact hend _ hBd
def sp_f3 : Ent := spec (.pr (.sl tI) (.pr (.sl (.int .u8)) (.pr tI .nil))) (fun x => (bytesTOk x.1 x.2.1 x.2.2.1)) (fun x => (.t .bool (bytesT x.1 x.2.1 x.2.2.1)))
theorem ms_f3 : Meets Try.prog 3 (strip sp_f3) := by
  obtain ⟨c, hc, hi⟩ := Option.map_eq_some_iff.1 ok_f3
  exact meets_spec (R := runF g_f3 tc_f3 rv_f3 false) (meets_of (by decide) Try.func3 hc hi Try.ntmps3 rok_f3 gk_f3 lk_f3 mixed) fun x hok => (e_f3 x.1 x.2.1 x.2.2.1).trans (s_f3 x.1 x.2.1 x.2.2.1 hok)
theorem okw_ExecutableBytes (z0 z1 : List Int) (z2 : Int) (w0 : Ty.wf (.sl (.int .i64)) z0) (w1 : Ty.wf (.sl (.int .u8)) z1) (w2 : Ty.wf (.int .i64) z2) : bytesTOk z0 z1 z2 = true := by
  refine List.all_eq_true.2 fun x hx => ?_
  have := wf_u8 (w1.2 x hx)
  exact decide_eq_true (by omega)
end
end Go.Proofs.Ytdbaaejiolibfaa.K.OE
namespace Go.Proofs.Ytdbaaejiolibfaa.K
open Go.RowKit OE
theorem walkExecutableBytes (z0 : (List Int)) (z1 : (List Int)) (z2 : Int) (W : World) (v0 : Value) (v1 : Value) (v2 : Value) (c0 : C noX W (fun _ => .no) (V.t (.sl tI) z0).d v0) (c1 : C noX W (fun _ => .no) (V.t (.sl (.int .u8)) z1).d v1) (c2 : C noX W (fun _ => .no) (V.t tI z2).d v2) (w0 : Ty.wf (.sl tI) z0) (w1 : Ty.wf (.sl (.int .u8)) z1) (w2 : Ty.wf tI z2) :
    Calls Try.prog 3 #[v0, v1, v2] W fun r w' => r = .returned (.bool true) ∧ Below W.heap.size W w' :=
  calls_true (by decide) ms_f3 (args := [.t (.sl tI) z0, .t (.sl (.int .u8)) z1, .t tI z2]) (strip_spec (x := (z0, z1, z2, ())) rfl (okw_ExecutableBytes z0 z1 z2 w0 w1 w2)) (by simp only [V.ds, Cs]; exact ⟨_, _, rfl, c0, _, _, rfl, c1, _, _, rfl, c2, rfl⟩)
end Go.Proofs.Ytdbaaejiolibfaa.K
