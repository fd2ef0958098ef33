/-
  executable: the executables that dice make; the law's awake.
-/
import Derived.Test.YtdbaaejiolibfaaG6
set_option linter.unusedSimpArgs false
set_option linter.unusedVariables false
namespace Go.Proofs.Ytdbaaejiolibfaa.K
open Go.RowKit Go.Shelf
noncomputable section
def bytsG : Nat → Dice → List Int × Dice
  | 0, d => ([], d)
  | n + 1, d => (icv .u8 (dof d [0, 1, 2, 103, 230, 9]) :: (bytsG n (dofN d [0, 1, 2, 103, 230, 9])).1, (bytsG n (dofN d [0, 1, 2, 103, 230, 9])).2)
def nmS (i : Int) : ByteArray := scat (lgt .str ([(ByteArray.mk #[46, 116, 101, 120, 116]), (ByteArray.mk #[46, 100, 97, 116, 97]), (ByteArray.mk #[46, 98, 115, 115])]) (Int.toNat (irem i 3))) (lgt .str ([(ByteArray.mk #[]), (ByteArray.mk #[49])]) (Int.toNat (iquo .i64 i 3)))
def secD (d : Dice) : List Int × Dice := bytsG (dval (dnext d 4) 40).toNat (dnext (dnext d 4) 40)
def secsG : Nat → Int → Dice → List Section × Dice
  | 0, _, d => ([], d)
  | n + 1, i, d => bif ilt i (dval d 4) then ((nmS i, ((secD d).1, ())) :: (secsG n (iadd .i64 i 1) (secD d).2).1, (secsG n (iadd .i64 i 1) (secD d).2).2) else ([], dnext d 4)
def symsG : List ByteArray → Dice → List Symbol × Dice
  | [], d => ([], d)
  | s :: l, d => bif done d 2 then ((s, (dval (dnext d 2) 1048576, ())) :: (symsG l (dnext (dnext d 2) 1048576)).1, (symsG l (dnext (dnext d 2) 1048576)).2) else symsG l (dnext d 2)
theorem dok_next {d : Dice} (n : Int) (h : dOk d = true) : dOk (dnext d n) = true := by
  simp only [dOk, decide_eq_true_eq] at h
  unfold dnext
  split
  · simpa only [dOk, decide_eq_true_eq] using h
  · simp only [dOk, decide_eq_true_eq]
    exact ⟨by omega, h.2⟩
theorem byts_ok : ∀ (n : Nat) {d : Dice}, dOk d = true → dOk (bytsG n d).2 = true
  | 0, _, h => h
  | n + 1, d, h => byts_ok n (d := dofN d [0, 1, 2, 103, 230, 9]) (dok_next ([0, 1, 2, 103, 230, 9] : List Int).length h)
theorem byts_len : ∀ (n : Nat) (d : Dice), (bytsG n d).1.length = n
  | 0, _ => rfl
  | n + 1, d => by
    have := byts_len n (dofN d [0, 1, 2, 103, 230, 9])
    simp only [bytsG, List.length_cons, this]
theorem secD_ok {d : Dice} (h : dOk d = true) : dOk (secD d).2 = true := byts_ok _ (dok_next _ (dok_next _ h))
theorem secs_okG : ∀ (n : Nat) (i : Int) {d : Dice}, dOk d = true → dOk (secsG n i d).2 = true
  | 0, _, _, h => h
  | n + 1, i, d, h => by
    unfold secsG
    cases ilt i (dval d 4) with
    | true => exact secs_okG n _ (secD_ok h)
    | false => exact dok_next 4 h
theorem syms_okG : ∀ (l : List ByteArray) {d : Dice}, dOk d = true → dOk (symsG l d).2 = true
  | [], _, h => h
  | s :: l, d, h => by
    unfold symsG
    cases done d 2 with
    | true => exact syms_okG l (dok_next 1048576 (dok_next 2 h))
    | false => exact syms_okG l (dok_next 2 h)
def namesG : List ByteArray := [(ByteArray.mk #[109, 100, 53, 95, 105, 110, 105, 116]), (ByteArray.mk #[115, 104, 97, 49]), (ByteArray.mk #[109, 97, 105, 110]), (ByteArray.mk #[97, 101, 115, 103, 99, 109, 95, 120]), (ByteArray.mk #[109, 100, 95, 53]), (ByteArray.mk #[114, 115, 97, 95, 115, 105, 103, 110]), (ByteArray.mk #[95, 114, 115, 97])]
def imgV (d : Dice) : Image := ((secsG 4 0 d).1, ((symsG namesG (secsG 4 0 d).2).1, ()))
def imgN (d : Dice) : Dice := (symsG namesG (secsG 4 0 d).2).2
def dr_f8_0 : List DO := [(.mk (oP 28 (.fa 0 (.t 3))) []), (.mk (oL 29 28) [0]), (.mk (oM 30 (.bs 9 1 3 [(.v (.string (ByteArray.mk #[]))), (.v (.string (ByteArray.mk #[]))), (.v (.string (ByteArray.mk #[])))] [(0, 1, (.c (.v (.string (ByteArray.mk #[46, 116, 101, 120, 116]))))), (1, 1, (.c (.v (.string (ByteArray.mk #[46, 100, 97, 116, 97]))))), (2, 1, (.c (.v (.string (ByteArray.mk #[46, 98, 115, 115])))))])) []), (.mk (oV 31 4) []), (.mk (oP 32 (.bin false .rem (.t 31) (cI 3))) [3]), (.mk (oP 33 (.ix 1 (.t 30) (.t 32))) [2, 4]), (.mk (oL 34 33) [5]), (.mk (oM 35 (.bs 9 1 2 [(.v (.string (ByteArray.mk #[]))), (.v (.string (ByteArray.mk #[])))] [(0, 1, (.c (.v (.string (ByteArray.mk #[]))))), (1, 1, (.c (.v (.string (ByteArray.mk #[49])))))])) []), (.mk (oV 36 4) []), (.mk (oP 37 (.bin false .quo (.t 36) (cI 3))) [8]), (.mk (oP 38 (.ix 1 (.t 35) (.t 37))) [7, 9]), (.mk (oL 39 38) [10]), (.mk (oP 40 (.bin false .add (.t 34) (.t 39))) [6, 11]), (.mk (oV 41 5) []), (.mk (oP 42 (.bd [(.v (.string (ByteArray.mk #[]))), (.v (.slice none 0 0))] [(0, 1, (.t 40)), (1, 1, (.t 41))])) [12, 13]), (.mk (oM 43 (.bs 44 2 1 [(.v (.string (ByteArray.mk #[]))), (.v (.slice none 0 0))] [(0, 2, (.t 42))])) [14]), (.mk (oM 44 (.app 44 2 40 (.t 29) (.t 43))) [1, 15]), (.mk (oP 45 (.fa 0 (.t 3))) [0, 1, 2, 3, 4, 5, 6, 7, 8, 9, 10, 11, 12, 13, 14, 15, 16]), (.mk (.mk none none (.m (.st 1 (.t 45) (.t 44)))) [17, 16, 16, 0, 1, 2, 3, 4, 5, 6, 7, 8, 9, 10, 11, 12, 13, 14, 15, 16])]
def dr_f8_1 : List DO := [(.mk (oP 55 (.fa 1 (.t 3))) []), (.mk (oL 56 55) [0]), (.mk (oV 57 7) []), (.mk (oV 58 8) []), (.mk (oP 59 (.ix 1 (.t 57) (.t 58))) [2, 3]), (.mk (oL 60 59) [4]), (.mk (oV 61 0) []), (.mk (oC 62 10 [(.t 61), (cI 1048576)]) [6]), (.mk (oP 63 (.bd [(.v (.string (ByteArray.mk #[]))), (.v (.int .i64 0))] [(0, 1, (.t 60)), (1, 1, (.t 62))])) [5, 7]), (.mk (oM 64 (.bs 46 2 1 [(.v (.string (ByteArray.mk #[]))), (.v (.int .i64 0))] [(0, 2, (.t 63))])) [8]), (.mk (oM 65 (.app 46 2 24 (.t 56) (.t 64))) [1, 9, 7]), (.mk (oP 66 (.fa 1 (.t 3))) [0, 1, 2, 3, 4, 5, 6, 7, 8, 9, 10]), (.mk (.mk none none (.m (.st 1 (.t 66) (.t 65)))) [11, 10, 10, 0, 1, 2, 3, 4, 5, 6, 7, 8, 9, 10])]
def fg_f8_0 : Fg := ⟨[(0, none), (2, none), (3, none), (4, some tI), (5, none), (6, some tI)], [(2, some tyImage), (3, none), (5, none), (27, none), (44, none), (65, none), (20300, none), (20301, none), (50000, some tyDice)]⟩
def tb_f8_0 : TC := (.sq (.sq (.reg [(oV 17 6), (oP 18 (.bin false .gtr (.t 17) (cI 0)))]) (.cd (.t 18) .sk (.fg ⟨[(0, none), (2, none), (3, none), (4, some tI), (5, none)], [(2, some tyImage), (3, some tyImage), (5, none), (27, none), (44, none), (65, none), (20300, none), (20301, none), (50000, some tyDice)]⟩ (.ex 2)))) (.sq (.bk 3 (.reg [(oV 21 5), (oV 22 0), (oM 23 (.bs 3 1 6 [(.v (.int .i64 0)), (.v (.int .i64 0)), (.v (.int .i64 0)), (.v (.int .i64 0)), (.v (.int .i64 0)), (.v (.int .i64 0))] [(0, 1, (cI 0)), (1, 1, (cI 1)), (2, 1, (cI 2)), (3, 1, (cI 103)), (4, 1, (cI 230)), (5, 1, (cI 9))])), (oC 24 11 [(.t 22), (.t 23)]), (oP 25 (.cv .u8 (.t 24))), (oM 26 (.bs 5 1 1 [(.v (.int .u8 0))] [(0, 1, (.t 25))])), (oM 27 (.app 5 1 1 (.t 21) (.t 26))), (oV 5 27)])) (.reg [(oV 19 6), (oP 20 (.bin false .sub (.t 19) (cI 1))), (oV 6 20)])))
def fg_f8_1 : Fg := ⟨[(0, none), (2, none), (3, none), (4, some tI)], [(2, some tyImage), (3, none), (44, none), (65, none), (20300, none), (20301, none), (50000, some tyDice)]⟩
def tb_f8_1 : TC := (.sq (.sq (.reg [(oV 9 4), (oV 10 0), (oC 11 10 [(.t 10), (cI 4)]), (oP 12 (.bin false .lss (.t 9) (.t 11)))]) (.cd (.t 12) .sk (.fg ⟨[(0, none), (2, none), (3, none)], [(2, some tyImage), (3, some tyImage), (44, none), (65, none), (20300, none), (20301, none), (50000, some tyDice)]⟩ (.ex 0)))) (.sq (.bk 1 (.sq (.reg [(oP 5 (.mv (.c (.v (.slice none 0 0)))))]) (.sq (.sq (.reg [(oV 15 0), (oC 16 10 [(.t 15), (cI 40)]), (oV 6 16)]) (.bk 2 (.nw 5 5 (.lp 0 fg_f8_0 tb_f8_0)))) (.dr dr_f8_0 [(0, [3, 44, 65, 20300, 20301]), (1, [3, 44, 65, 20300, 20301]), (2, []), (3, []), (4, []), (5, []), (6, []), (7, []), (8, []), (9, []), (10, []), (11, []), (12, []), (13, [5, 27]), (14, [5, 27]), (15, [5, 27, 43, 5043, 10043, 15043]), (16, [2, 3, 43, 44, 65, 5044, 10044, 15044, 20300, 20301]), (17, [3, 44, 65, 20300, 20301]), (18, [2, 3, 44, 65, 20300, 20301])] (.of [0, 1, 2, 3, 4, 5, 6, 7, 8, 9, 10, 11, 12, 13, 14, 15, 16, 17, 18]))))) (.reg [(oV 13 4), (oP 14 (.bin false .add (.t 13) (cI 1))), (oV 4 14)])))
def fg_f8_2 : Fg := ⟨[(0, none), (2, none), (3, none), (7, some (.sl .str)), (8, some tI)], [(2, some tyImage), (3, none), (44, none), (65, none), (20300, none), (20301, none), (50000, some tyDice)]⟩
def tb_f8_2 : TC := (.sq (.sq (.reg [(oV 47 8), (oV 48 7), (oP 49 (.len false (.t 48))), (oP 50 (.bin false .lss (.t 47) (.t 49)))]) (.cd (.t 50) .sk (.fg ⟨[(2, none), (3, none)], [(2, some tyImage), (3, some tyImage), (44, none), (65, none), (20300, none), (20301, none), (50000, some tyDice)]⟩ (.ex 4)))) (.sq (.bk 5 (.sq (.reg [(oV 53 0), (oC 54 21 [(.t 53), (cI 2)])]) (.cd (.t 54) (.dr dr_f8_1 [(0, [3, 44, 65, 20300, 20301]), (1, [3, 44, 65, 20300, 20301]), (2, []), (3, []), (4, []), (5, []), (6, [50000]), (7, [62, 5062, 10062, 15062, 50000]), (8, []), (9, []), (10, [2, 3, 44, 65, 5065, 10065, 15065, 20300, 20301]), (11, [3, 44, 65, 20300, 20301]), (12, [2, 3, 44, 65, 20300, 20301])] (.of [0, 1, 2, 3, 4, 5, 6, 7, 8, 9, 10, 11, 12])) .sk))) (.reg [(oV 51 8), (oP 52 (.bin false .add (.t 51) (cI 1))), (oV 8 52)])))
/-- cipherplan/cipherplanmake.Image -/
def tc_f8 : TC := (.sq (.reg [(oM 2 (.new [(.v (.slice none 0 0)), (.v (.slice none 0 0))]))]) (.sq (.reg [(oM 3 (.new [(.v (.slice none 0 0)), (.v (.slice none 0 0))]))]) (.sq (.sq (.reg [(oP 4 (.mv (cI 0)))]) (.bk 0 (.nf 3 1 46 20301 (.nf 3 0 44 20300 (.lp 1 fg_f8_1 tb_f8_1))))) (.sq (.reg [(oM 46 (.bs 9 1 7 [(.v (.string (ByteArray.mk #[]))), (.v (.string (ByteArray.mk #[]))), (.v (.string (ByteArray.mk #[]))), (.v (.string (ByteArray.mk #[]))), (.v (.string (ByteArray.mk #[]))), (.v (.string (ByteArray.mk #[]))), (.v (.string (ByteArray.mk #[])))] [(0, 1, (.c (.v (.string (ByteArray.mk #[109, 100, 53, 95, 105, 110, 105, 116]))))), (1, 1, (.c (.v (.string (ByteArray.mk #[115, 104, 97, 49]))))), (2, 1, (.c (.v (.string (ByteArray.mk #[109, 97, 105, 110]))))), (3, 1, (.c (.v (.string (ByteArray.mk #[97, 101, 115, 103, 99, 109, 95, 120]))))), (4, 1, (.c (.v (.string (ByteArray.mk #[109, 100, 95, 53]))))), (5, 1, (.c (.v (.string (ByteArray.mk #[114, 115, 97, 95, 115, 105, 103, 110]))))), (6, 1, (.c (.v (.string (ByteArray.mk #[95, 114, 115, 97])))))])), (oV 7 46)]) (.sq (.sq (.reg [(oP 8 (.mv (cI 0)))]) (.bk 4 (.nf 3 0 44 20300 (.nf 3 1 46 20301 (.lp 2 fg_f8_2 tb_f8_2))))) (.sq (.reg [(oM 67 (.ld true 2 (.t 3))), (.mk none none (.m (.st 2 (.t 2) (.t 67))))]) .rt))))))
def rv_f8 : List (RV × Option Ty) := [((.c 2 true 2), some tyImage)]
abbrev sh_f8_0 : Sh := ⟨[(0, .ptr 50000 0), (2, .ptr 2 0), (3, .ptr 3 0), (4, .ty tI), (5, .ms 5), (6, .ty tI)], [(2, .box tyImage), (3, .bag [.ms 20300, .ms 20301]), (5, .arr 5 (.int .u8)), (27, .no), (44, .no), (65, .no), (20300, .arr 44 tySection), (20301, .arr 46 tySymbol), (50000, .box tyDice)]⟩
def st_f8_0 (x4 : Int) (x6 : Int) (y2 : Image) (y5 : (List Int)) (y20300 : (List Section)) (y20301 : (List Symbol)) (y50000 : Dice) : VS := sh_f8_0.st ((), (), (), x4, (), x6, ()) (y2, ((), (), ()), y5, (), (), (), y20300, y20301, y50000, ())
abbrev sh_f8_0_e2 : Sh := ⟨[(0, .ptr 50000 0), (2, .ptr 2 0), (3, .ptr 3 0), (4, .ty tI), (5, .ms 5)], [(2, .box tyImage), (3, .bag [.ms 20300, .ms 20301]), (5, .arr 5 (.int .u8)), (27, .no), (44, .no), (65, .no), (20300, .arr 44 tySection), (20301, .arr 46 tySymbol), (50000, .box tyDice)]⟩
def st_f8_0_e2 (x4 : Int) (y2 : Image) (y5 : (List Int)) (y20300 : (List Section)) (y20301 : (List Symbol)) (y50000 : Dice) : VS := sh_f8_0_e2.st ((), (), (), x4, (), ()) (y2, ((), (), ()), y5, (), (), (), y20300, y20301, y50000, ())
-- loop 0: (x4 : Int) (x6 : Int) (y2 : Image) (y5 : (List Int)) (y20300 : (List Section)) (y20301 : (List Symbol)) (y50000 : Dice); out: ('exit', 2) (x4 : Int) (y2 : Image) (y5 : (List Int)) (y20300 : (List Section)) (y20301 : (List Symbol)) (y50000 : Dice)
abbrev sh_f8_1 : Sh := ⟨[(0, .ptr 50000 0), (2, .ptr 2 0), (3, .ptr 3 0), (4, .ty tI)], [(2, .box tyImage), (3, .bag [.ms 20300, .ms 20301]), (44, .no), (65, .no), (20300, .arr 44 tySection), (20301, .arr 46 tySymbol), (50000, .box tyDice)]⟩
def st_f8_1 (x4 : Int) (y2 : Image) (y20300 : (List Section)) (y20301 : (List Symbol)) (y50000 : Dice) : VS := sh_f8_1.st ((), (), (), x4, ()) (y2, ((), (), ()), (), (), y20300, y20301, y50000, ())
abbrev sh_f8_1_e0 : Sh := ⟨[(0, .ptr 50000 0), (2, .ptr 2 0), (3, .ptr 3 0)], [(2, .box tyImage), (3, .bag [.ms 20300, .ms 20301]), (44, .no), (65, .no), (20300, .arr 44 tySection), (20301, .arr 46 tySymbol), (50000, .box tyDice)]⟩
def st_f8_1_e0 (y2 : Image) (y20300 : (List Section)) (y20301 : (List Symbol)) (y50000 : Dice) : VS := sh_f8_1_e0.st ((), (), (), ()) (y2, ((), (), ()), (), (), y20300, y20301, y50000, ())
-- loop 1: (x4 : Int) (y2 : Image) (y20300 : (List Section)) (y20301 : (List Symbol)) (y50000 : Dice); out: ('exit', 0) (y2 : Image) (y20300 : (List Section)) (y20301 : (List Symbol)) (y50000 : Dice)
abbrev sh_f8_2 : Sh := ⟨[(0, .ptr 50000 0), (2, .ptr 2 0), (3, .ptr 3 0), (7, .ty (.sl .str)), (8, .ty tI)], [(2, .box tyImage), (3, .bag [.ms 20300, .ms 20301]), (44, .no), (65, .no), (20300, .arr 44 tySection), (20301, .arr 46 tySymbol), (50000, .box tyDice)]⟩
def st_f8_2 (x7 : (List ByteArray)) (x8 : Int) (y2 : Image) (y20300 : (List Section)) (y20301 : (List Symbol)) (y50000 : Dice) : VS := sh_f8_2.st ((), (), (), x7, x8, ()) (y2, ((), (), ()), (), (), y20300, y20301, y50000, ())
abbrev sh_f8_2_e4 : Sh := ⟨[(2, .ptr 2 0), (3, .ptr 3 0)], [(2, .box tyImage), (3, .bag [.ms 20300, .ms 20301]), (44, .no), (65, .no), (20300, .arr 44 tySection), (20301, .arr 46 tySymbol), (50000, .box tyDice)]⟩
def st_f8_2_e4 (y2 : Image) (y20300 : (List Section)) (y20301 : (List Symbol)) (y50000 : Dice) : VS := sh_f8_2_e4.st ((), (), ()) (y2, ((), (), ()), (), (), y20300, y20301, y50000, ())
-- loop 2: (x7 : (List ByteArray)) (x8 : Int) (y2 : Image) (y20300 : (List Section)) (y20301 : (List Symbol)) (y50000 : Dice); out: ('exit', 4) (y2 : Image) (y20300 : (List Section)) (y20301 : (List Symbol)) (y50000 : Dice)
def L_f8_0 : VS → Option (Bool × List (Bool × Exit × VS)) := mkL sh_f8_0 (fun x y => (dOk y.2.2.2.2.2.2.2.2.1 && decide (0 ≤ x.2.2.2.2.2.1 ∧ y.2.2.1.length + x.2.2.2.2.2.1.toNat ≤ 100))) (fun x y => [(true, .exit 2, st_f8_0_e2 (x.2.2.2.1) (y.1) (y.2.2.1 ++ (bytsG x.2.2.2.2.2.1.toNat y.2.2.2.2.2.2.2.2.1).1) (y.2.2.2.2.2.2.1) (y.2.2.2.2.2.2.2.1) ((bytsG x.2.2.2.2.2.1.toNat y.2.2.2.2.2.2.2.2.1).2))])
def L_f8_1 : VS → Option (Bool × List (Bool × Exit × VS)) := mkL sh_f8_1 (fun x y => (dOk y.2.2.2.2.2.2.1 && decide (0 ≤ x.2.2.2.1 ∧ x.2.2.2.1 ≤ 3 ∧ y.2.2.2.2.1.length + (3 - x.2.2.2.1.toNat) ≤ 100))) (fun x y => [(true, .exit 0, st_f8_1_e0 (y.1) (y.2.2.2.2.1 ++ (secsG (4 - x.2.2.2.1.toNat) x.2.2.2.1 y.2.2.2.2.2.2.1).1) (y.2.2.2.2.2.1) ((secsG (4 - x.2.2.2.1.toNat) x.2.2.2.1 y.2.2.2.2.2.2.1).2))])
def L_f8_2 : VS → Option (Bool × List (Bool × Exit × VS)) := mkL sh_f8_2 (fun x y => (dOk y.2.2.2.2.2.2.1 && decide (0 ≤ x.2.2.2.2.1 ∧ x.2.2.2.2.1 ≤ x.2.2.2.1.length ∧ x.2.2.2.1.length ≤ 100 ∧ y.2.2.2.2.2.1.length + (x.2.2.2.1.length - x.2.2.2.2.1.toNat) ≤ 100))) (fun x y => [(true, .exit 4, st_f8_2_e4 (y.1) (y.2.2.2.2.1) (y.2.2.2.2.2.1 ++ (symsG (x.2.2.2.1.drop x.2.2.2.2.1.toNat) y.2.2.2.2.2.2.1).1) ((symsG (x.2.2.2.1.drop x.2.2.2.2.1.toNat) y.2.2.2.2.2.2.1).2))])
def g_f8 : G := ⟨TYs, [43], 68, EL [(10, sp_f10), (11, sp_f11), (21, sp_f21)], keeps, (Ls [L_f8_0, L_f8_1, L_f8_2]), IL [], RL []⟩
def b_f8_0 (x4 : Int) (x6 : Int) (y2 : Image) (y5 : (List Int)) (y20300 : (List Section)) (y20301 : (List Symbol)) (y50000 : Dice) : Option (Exit × VS) :=
  br ((igt x6 0))
    (br ((ofOk y50000 ([0, 1, 2, 103, 230, 9])))
      (br (cApp y5 ([(icv .u8 (dof y50000 ([0, 1, 2, 103, 230, 9])))]) 1)
        (some (.normal, st_f8_0 x4 (isub .i64 x6 1) y2 (y5 ++ ([(icv .u8 (dof y50000 ([0, 1, 2, 103, 230, 9])))])) y20300 y20301 (dofN y50000 ([0, 1, 2, 103, 230, 9]))))
        (none))
      (none))
    (some (.exit 2, st_f8_0_e2 x4 y2 y5 y20300 y20301 y50000))
noncomputable def lp_f8_0 (x4 : Int) (x6 : Int) (y2 : Image) (y5 : (List Int)) (y20300 : (List Section)) (y20301 : (List Symbol)) (y50000 : Dice) : Option (Exit × VS) := loopF (roundF g_f8 fg_f8_0 tb_f8_0) (st_f8_0 x4 x6 y2 y5 y20300 y20301 y50000)
noncomputable def n_f8_0 (x4 : Int) (x6 : Int) (y2 : Image) (y5 : (List Int)) (y20300 : (List Section)) (y20301 : (List Symbol)) (y50000 : Dice) : Option (Exit × VS) :=
  br ((igt x6 0))
    (br ((ofOk y50000 ([0, 1, 2, 103, 230, 9])))
      (br (cApp y5 ([(icv .u8 (dof y50000 ([0, 1, 2, 103, 230, 9])))]) 1)
        (lp_f8_0 x4 (isub .i64 x6 1) y2 (y5 ++ ([(icv .u8 (dof y50000 ([0, 1, 2, 103, 230, 9])))])) y20300 y20301 (dofN y50000 ([0, 1, 2, 103, 230, 9])))
        (none))
      (none))
    (some (.exit 2, st_f8_0_e2 x4 y2 y5 y20300 y20301 y50000))
def la_f8_0 (x4 : Int) (x6 : Int) (y2 : Image) (y5 : (List Int)) (y20300 : (List Section)) (y20301 : (List Symbol)) (y50000 : Dice) : Option (Exit × VS) := some (.exit 2, st_f8_0_e2 (x4) (y2) (y5 ++ (bytsG x6.toNat y50000).1) (y20300) (y20301) ((bytsG x6.toNat y50000).2))
theorem be_f8_0 (x4 : Int) (x6 : Int) (y2 : Image) (y5 : (List Int)) (y20300 : (List Section)) (y20301 : (List Symbol)) (y50000 : Dice) : roundF g_f8 fg_f8_0 tb_f8_0 (st_f8_0 x4 x6 y2 y5 y20300 y20301 y50000) = b_f8_0 x4 x6 y2 y5 y20300 y20301 y50000 := by kernel_rfl
theorem ln_f8_0 (x4 : Int) (x6 : Int) (y2 : Image) (y5 : (List Int)) (y20300 : (List Section)) (y20301 : (List Symbol)) (y50000 : Dice) : lp_f8_0 x4 x6 y2 y5 y20300 y20301 y50000 = n_f8_0 x4 x6 y2 y5 y20300 y20301 y50000 := (loopF_nxt _ _).trans (by
  rw [be_f8_0]
  simp only [b_f8_0, n_f8_0, nxt_br, nxt_n, nxt_r, nxt_e, nxt_0]
  rfl)
def b_f8_1 (x4 : Int) (y2 : Image) (y20300 : (List Section)) (y20301 : (List Symbol)) (y50000 : Dice) : Option (Exit × VS) :=
  br ((nextOk y50000 4))
    (br ((ilt x4 (dval y50000 4)))
      (br ((nextOk (dnext y50000 4) 40))
        (br ((dOk (dnext (dnext y50000 4) 40) && decide (0 ≤ (dval (dnext y50000 4) 40) ∧ ([] : List Int).length + (dval (dnext y50000 4) 40).toNat ≤ 100)))
          (br (cNz 3)
            (br (cIx ([(ByteArray.mk #[46, 116, 101, 120, 116]), (ByteArray.mk #[46, 100, 97, 116, 97]), (ByteArray.mk #[46, 98, 115, 115])]) (irem (x4) 3))
              (br (cNz 3)
                (br (cIx ([(ByteArray.mk #[]), (ByteArray.mk #[49])]) (iquo .i64 (x4) 3))
                  (br (cCat (lgt .str ([(ByteArray.mk #[46, 116, 101, 120, 116]), (ByteArray.mk #[46, 100, 97, 116, 97]), (ByteArray.mk #[46, 98, 115, 115])]) (Int.toNat (irem (x4) 3))) (lgt .str ([(ByteArray.mk #[]), (ByteArray.mk #[49])]) (Int.toNat (iquo .i64 (x4) 3))))
                    (br (cApp (y20300) ([((scat (lgt .str ([(ByteArray.mk #[46, 116, 101, 120, 116]), (ByteArray.mk #[46, 100, 97, 116, 97]), (ByteArray.mk #[46, 98, 115, 115])]) (Int.toNat (irem (x4) 3))) (lgt .str ([(ByteArray.mk #[]), (ByteArray.mk #[49])]) (Int.toNat (iquo .i64 (x4) 3)))), ((([] : List Int) ++ (bytsG (dval (dnext y50000 4) 40).toNat (dnext (dnext y50000 4) 40)).1), ()))]) 40)
                      (some (.normal, st_f8_1 (iadd .i64 (x4) 1) (y2) ((y20300) ++ ([((scat (lgt .str ([(ByteArray.mk #[46, 116, 101, 120, 116]), (ByteArray.mk #[46, 100, 97, 116, 97]), (ByteArray.mk #[46, 98, 115, 115])]) (Int.toNat (irem (x4) 3))) (lgt .str ([(ByteArray.mk #[]), (ByteArray.mk #[49])]) (Int.toNat (iquo .i64 (x4) 3)))), ((([] : List Int) ++ (bytsG (dval (dnext y50000 4) 40).toNat (dnext (dnext y50000 4) 40)).1), ()))])) (y20301) ((bytsG (dval (dnext y50000 4) 40).toNat (dnext (dnext y50000 4) 40)).2)))
                      (none))
                    (none))
                  (none))
                (none))
              (none))
            (none))
          (none))
        (none))
      (some (.exit 0, st_f8_1_e0 y2 y20300 y20301 (dnext y50000 4))))
    (none)
noncomputable def lp_f8_1 (x4 : Int) (y2 : Image) (y20300 : (List Section)) (y20301 : (List Symbol)) (y50000 : Dice) : Option (Exit × VS) := loopF (roundF g_f8 fg_f8_1 tb_f8_1) (st_f8_1 x4 y2 y20300 y20301 y50000)
noncomputable def n_f8_1 (x4 : Int) (y2 : Image) (y20300 : (List Section)) (y20301 : (List Symbol)) (y50000 : Dice) : Option (Exit × VS) :=
  br ((nextOk y50000 4))
    (br ((ilt x4 (dval y50000 4)))
      (br ((nextOk (dnext y50000 4) 40))
        (br ((dOk (dnext (dnext y50000 4) 40) && decide (0 ≤ (dval (dnext y50000 4) 40) ∧ ([] : List Int).length + (dval (dnext y50000 4) 40).toNat ≤ 100)))
          (br (cNz 3)
            (br (cIx ([(ByteArray.mk #[46, 116, 101, 120, 116]), (ByteArray.mk #[46, 100, 97, 116, 97]), (ByteArray.mk #[46, 98, 115, 115])]) (irem (x4) 3))
              (br (cNz 3)
                (br (cIx ([(ByteArray.mk #[]), (ByteArray.mk #[49])]) (iquo .i64 (x4) 3))
                  (br (cCat (lgt .str ([(ByteArray.mk #[46, 116, 101, 120, 116]), (ByteArray.mk #[46, 100, 97, 116, 97]), (ByteArray.mk #[46, 98, 115, 115])]) (Int.toNat (irem (x4) 3))) (lgt .str ([(ByteArray.mk #[]), (ByteArray.mk #[49])]) (Int.toNat (iquo .i64 (x4) 3))))
                    (br (cApp (y20300) ([((scat (lgt .str ([(ByteArray.mk #[46, 116, 101, 120, 116]), (ByteArray.mk #[46, 100, 97, 116, 97]), (ByteArray.mk #[46, 98, 115, 115])]) (Int.toNat (irem (x4) 3))) (lgt .str ([(ByteArray.mk #[]), (ByteArray.mk #[49])]) (Int.toNat (iquo .i64 (x4) 3)))), ((([] : List Int) ++ (bytsG (dval (dnext y50000 4) 40).toNat (dnext (dnext y50000 4) 40)).1), ()))]) 40)
                      (lp_f8_1 (iadd .i64 (x4) 1) (y2) ((y20300) ++ ([((scat (lgt .str ([(ByteArray.mk #[46, 116, 101, 120, 116]), (ByteArray.mk #[46, 100, 97, 116, 97]), (ByteArray.mk #[46, 98, 115, 115])]) (Int.toNat (irem (x4) 3))) (lgt .str ([(ByteArray.mk #[]), (ByteArray.mk #[49])]) (Int.toNat (iquo .i64 (x4) 3)))), ((([] : List Int) ++ (bytsG (dval (dnext y50000 4) 40).toNat (dnext (dnext y50000 4) 40)).1), ()))])) (y20301) ((bytsG (dval (dnext y50000 4) 40).toNat (dnext (dnext y50000 4) 40)).2))
                      (none))
                    (none))
                  (none))
                (none))
              (none))
            (none))
          (none))
        (none))
      (some (.exit 0, st_f8_1_e0 y2 y20300 y20301 (dnext y50000 4))))
    (none)
def la_f8_1 (x4 : Int) (y2 : Image) (y20300 : (List Section)) (y20301 : (List Symbol)) (y50000 : Dice) : Option (Exit × VS) := some (.exit 0, st_f8_1_e0 (y2) (y20300 ++ (secsG (4 - x4.toNat) x4 y50000).1) (y20301) ((secsG (4 - x4.toNat) x4 y50000).2))
theorem be_f8_1 (x4 : Int) (y2 : Image) (y20300 : (List Section)) (y20301 : (List Symbol)) (y50000 : Dice) : roundF g_f8 fg_f8_1 tb_f8_1 (st_f8_1 x4 y2 y20300 y20301 y50000) = b_f8_1 x4 y2 y20300 y20301 y50000 := by kernel_rfl
theorem ln_f8_1 (x4 : Int) (y2 : Image) (y20300 : (List Section)) (y20301 : (List Symbol)) (y50000 : Dice) : lp_f8_1 x4 y2 y20300 y20301 y50000 = n_f8_1 x4 y2 y20300 y20301 y50000 := (loopF_nxt _ _).trans (by
  rw [be_f8_1]
  simp only [b_f8_1, n_f8_1, nxt_br, nxt_n, nxt_r, nxt_e, nxt_0]
  rfl)
def b_f8_2 (x7 : (List ByteArray)) (x8 : Int) (y2 : Image) (y20300 : (List Section)) (y20301 : (List Symbol)) (y50000 : Dice) : Option (Exit × VS) :=
  br ((ilt x8 (llen x7)))
    (br ((oneOk y50000 2))
      (br ((done y50000 2))
        (br (cIx x7 x8)
          (br ((nextOk (dnext y50000 2) 1048576))
            (br (cApp y20301 ([((lgt .str x7 (Int.toNat x8)), ((dval (dnext y50000 2) 1048576), ()))]) 24)
              (some (.normal, st_f8_2 x7 (iadd .i64 x8 1) y2 y20300 (y20301 ++ ([((lgt .str x7 (Int.toNat x8)), ((dval (dnext y50000 2) 1048576), ()))])) (dnext (dnext y50000 2) 1048576)))
              (none))
            (none))
          (none))
        (some (.normal, st_f8_2 x7 (iadd .i64 x8 1) y2 y20300 y20301 (dnext y50000 2))))
      (none))
    (some (.exit 4, st_f8_2_e4 y2 y20300 y20301 y50000))
noncomputable def lp_f8_2 (x7 : (List ByteArray)) (x8 : Int) (y2 : Image) (y20300 : (List Section)) (y20301 : (List Symbol)) (y50000 : Dice) : Option (Exit × VS) := loopF (roundF g_f8 fg_f8_2 tb_f8_2) (st_f8_2 x7 x8 y2 y20300 y20301 y50000)
noncomputable def n_f8_2 (x7 : (List ByteArray)) (x8 : Int) (y2 : Image) (y20300 : (List Section)) (y20301 : (List Symbol)) (y50000 : Dice) : Option (Exit × VS) :=
  br ((ilt x8 (llen x7)))
    (br ((oneOk y50000 2))
      (br ((done y50000 2))
        (br (cIx x7 x8)
          (br ((nextOk (dnext y50000 2) 1048576))
            (br (cApp y20301 ([((lgt .str x7 (Int.toNat x8)), ((dval (dnext y50000 2) 1048576), ()))]) 24)
              (lp_f8_2 x7 (iadd .i64 x8 1) y2 y20300 (y20301 ++ ([((lgt .str x7 (Int.toNat x8)), ((dval (dnext y50000 2) 1048576), ()))])) (dnext (dnext y50000 2) 1048576))
              (none))
            (none))
          (none))
        (lp_f8_2 x7 (iadd .i64 x8 1) y2 y20300 y20301 (dnext y50000 2)))
      (none))
    (some (.exit 4, st_f8_2_e4 y2 y20300 y20301 y50000))
def la_f8_2 (x7 : (List ByteArray)) (x8 : Int) (y2 : Image) (y20300 : (List Section)) (y20301 : (List Symbol)) (y50000 : Dice) : Option (Exit × VS) := some (.exit 4, st_f8_2_e4 (y2) (y20300) (y20301 ++ (symsG (x7.drop x8.toNat) y50000).1) ((symsG (x7.drop x8.toNat) y50000).2))
theorem be_f8_2 (x7 : (List ByteArray)) (x8 : Int) (y2 : Image) (y20300 : (List Section)) (y20301 : (List Symbol)) (y50000 : Dice) : roundF g_f8 fg_f8_2 tb_f8_2 (st_f8_2 x7 x8 y2 y20300 y20301 y50000) = b_f8_2 x7 x8 y2 y20300 y20301 y50000 := by kernel_rfl
theorem ln_f8_2 (x7 : (List ByteArray)) (x8 : Int) (y2 : Image) (y20300 : (List Section)) (y20301 : (List Symbol)) (y50000 : Dice) : lp_f8_2 x7 x8 y2 y20300 y20301 y50000 = n_f8_2 x7 x8 y2 y20300 y20301 y50000 := (loopF_nxt _ _).trans (by
  rw [be_f8_2]
  simp only [b_f8_2, n_f8_2, nxt_br, nxt_n, nxt_r, nxt_e, nxt_0]
  rfl)
def r_f8 (d0 : Dice) : Option (V × List VO) :=
  br ((dOk d0 && decide (0 ≤ (0 : Int) ∧ (0 : Int) ≤ 3 ∧ ([] : List Section).length + (3 - (0 : Int).toNat) ≤ 100)))
    (br ((dOk ((secsG (4 - (0 : Int).toNat) (0 : Int) d0).2) && decide (0 ≤ (0 : Int) ∧ (0 : Int) ≤ ([(ByteArray.mk #[109, 100, 53, 95, 105, 110, 105, 116]), (ByteArray.mk #[115, 104, 97, 49]), (ByteArray.mk #[109, 97, 105, 110]), (ByteArray.mk #[97, 101, 115, 103, 99, 109, 95, 120]), (ByteArray.mk #[109, 100, 95, 53]), (ByteArray.mk #[114, 115, 97, 95, 115, 105, 103, 110]), (ByteArray.mk #[95, 114, 115, 97])]).length ∧ ([(ByteArray.mk #[109, 100, 53, 95, 105, 110, 105, 116]), (ByteArray.mk #[115, 104, 97, 49]), (ByteArray.mk #[109, 97, 105, 110]), (ByteArray.mk #[97, 101, 115, 103, 99, 109, 95, 120]), (ByteArray.mk #[109, 100, 95, 53]), (ByteArray.mk #[114, 115, 97, 95, 115, 105, 103, 110]), (ByteArray.mk #[95, 114, 115, 97])]).length ≤ 100 ∧ (([] : List Symbol)).length + (([(ByteArray.mk #[109, 100, 53, 95, 105, 110, 105, 116]), (ByteArray.mk #[115, 104, 97, 49]), (ByteArray.mk #[109, 97, 105, 110]), (ByteArray.mk #[97, 101, 115, 103, 99, 109, 95, 120]), (ByteArray.mk #[109, 100, 95, 53]), (ByteArray.mk #[114, 115, 97, 95, 115, 105, 103, 110]), (ByteArray.mk #[95, 114, 115, 97])]).length - (0 : Int).toNat) ≤ 100)))
      (some (.t tyImage (((([] : List Section) ++ (secsG (4 - (0 : Int).toNat) (0 : Int) d0).1)), (((([] : List Symbol)) ++ (symsG (([(ByteArray.mk #[109, 100, 53, 95, 105, 110, 105, 116]), (ByteArray.mk #[115, 104, 97, 49]), (ByteArray.mk #[109, 97, 105, 110]), (ByteArray.mk #[97, 101, 115, 103, 99, 109, 95, 120]), (ByteArray.mk #[109, 100, 95, 53]), (ByteArray.mk #[114, 115, 97, 95, 115, 105, 103, 110]), (ByteArray.mk #[95, 114, 115, 97])]).drop (0 : Int).toNat) ((secsG (4 - (0 : Int).toNat) (0 : Int) d0).2)).1), ())), [.box (.t tyDice ((symsG (([(ByteArray.mk #[109, 100, 53, 95, 105, 110, 105, 116]), (ByteArray.mk #[115, 104, 97, 49]), (ByteArray.mk #[109, 97, 105, 110]), (ByteArray.mk #[97, 101, 115, 103, 99, 109, 95, 120]), (ByteArray.mk #[109, 100, 95, 53]), (ByteArray.mk #[114, 115, 97, 95, 115, 105, 103, 110]), (ByteArray.mk #[95, 114, 115, 97])]).drop (0 : Int).toNat) ((secsG (4 - (0 : Int).toNat) (0 : Int) d0).2)).2))]))
      (none))
    (none)
theorem e_f8 (d0 : Dice) : runF g_f8 tc_f8 rv_f8 false [.ptr 50000 0] [.box (.t tyDice d0)] = r_f8 d0 := by kernel_rfl
theorem ok_f8 : Option.map (trC Try.prog) Try.f8.body = some tc_f8.er := by kernel_rfl
theorem rok_f8 : trVs Try.prog Try.f8.results.toList = some (rv_f8.map Prod.fst) := by kernel_rfl
theorem en_f8 : Entered Try.prog 8 := .inr ⟨by decide, _, Try.func8, by kernel_rfl, by kernel_rfl⟩
theorem gk_f8 : GOk Try.prog g_f8 := gok_of _ (by
  intro p hp
  simp only [List.mem_cons, List.not_mem_nil, or_false] at hp
  rcases hp with rfl | rfl | rfl
  · exact ⟨en_f10, ms_f10⟩
  · exact ⟨en_f11, ms_f11⟩
  · exact ⟨en_f21, ms_f21⟩)
theorem l_f8_0 (x4 : Int) (x6 : Int) (y2 : Image) (y5 : (List Int)) (y20300 : (List Section)) (y20301 : (List Symbol)) (y50000 : Dice) (h : (dOk y50000 && decide (0 ≤ x6 ∧ y5.length + x6.toNat ≤ 100)) = true) : lp_f8_0 x4 x6 y2 y5 y20300 y20301 y50000 = la_f8_0 x4 x6 y2 y5 y20300 y20301 y50000 := by
  simp only [Bool.and_eq_true, decide_eq_true_eq] at h
  obtain ⟨h1, h2, h3⟩ := h
  obtain ⟨n, rfl⟩ := Int.eq_ofNat_of_zero_le h2
  rw [Int.toNat_natCast] at h3
  induction n generalizing y5 y50000 with
  | zero =>
    rw [ln_f8_0]
    simp [n_f8_0, la_f8_0, igt, br_false, bytsG]
  | succ n ih =>
    rw [ln_f8_0]
    have e1 : igt ((n + 1 : Nat) : Int) 0 = true := by simp only [igt, decide_eq_true_eq]; omega
    have e2 : isub .i64 ((n + 1 : Nat) : Int) 1 = (n : Int) := by rw [isub_in (by omega)]; omega
    have e3 : ofOk y50000 [0, 1, 2, 103, 230, 9] = true := by simp only [ofOk, h1, Bool.true_and]; rfl
    have := ih (y5 ++ [icv .u8 (dof y50000 [0, 1, 2, 103, 230, 9])]) (dofN y50000 [0, 1, 2, 103, 230, 9]) (dok_next _ h1) (by omega) (by rw [List.length_append]; simp only [List.length_singleton]; omega)
    simp only [n_f8_0, e1, e2, e3, br_true]
    rw [cApp_ok (by simp only [List.length_singleton]; omega) (by omega), br_true, this]
    simp only [la_f8_0, Int.toNat_natCast, bytsG, List.append_assoc, List.singleton_append]
theorem l_f8_1 (x4 : Int) (y2 : Image) (y20300 : (List Section)) (y20301 : (List Symbol)) (y50000 : Dice) (h : (dOk y50000 && decide (0 ≤ x4 ∧ x4 ≤ 3 ∧ y20300.length + (3 - x4.toNat) ≤ 100)) = true) : lp_f8_1 x4 y2 y20300 y20301 y50000 = la_f8_1 x4 y2 y20300 y20301 y50000 := by
  simp only [Bool.and_eq_true, decide_eq_true_eq] at h
  obtain ⟨h1, h2, h3, h4⟩ := h
  obtain ⟨k, rfl⟩ := Int.eq_ofNat_of_zero_le h2
  rw [Int.toNat_natCast] at h4
  obtain ⟨n, hn⟩ : ∃ n, n = 3 - k := ⟨_, rfl⟩
  induction n generalizing k y20300 y50000 with
  | zero =>
    have hk : k = 3 := by omega
    subst hk
    have e0 : nextOk y50000 4 = true := by simp only [nextOk, h1, Bool.true_and]; rfl
    have e1 : ilt ((3 : Nat) : Int) (dval y50000 4) = false := by
      have := dval_lt (d := y50000) (n := 4) (by omega)
      simp only [ilt, decide_eq_false_iff_not]; omega
    rw [ln_f8_1]
    simp only [n_f8_1, e0, e1, br_true, br_false, la_f8_1, Int.toNat_natCast, secsG, cond_false, List.append_nil]
  | succ n ih =>
    have e0 : nextOk y50000 4 = true := by simp only [nextOk, h1, Bool.true_and]; rfl
    rw [ln_f8_1]
    simp only [n_f8_1, e0, br_true, la_f8_1, Int.toNat_natCast]
    rw [show 4 - k = (4 - (k + 1)) + 1 by omega]
    unfold secsG
    cases hc : ilt (k : Int) (dval y50000 4) with
    | false => simp only [br_false, cond_false, List.append_nil]
    | true =>
      have e2 : nextOk (dnext y50000 4) 40 = true := by simp only [nextOk, dok_next _ h1, Bool.true_and]; rfl
      have hb := dval_lt (d := dnext y50000 4) (n := 40) (by omega)
      have hk3 : k = 0 ∨ k = 1 ∨ k = 2 := by omega
      have c1 : cIx ([(ByteArray.mk #[46, 116, 101, 120, 116]), (ByteArray.mk #[46, 100, 97, 116, 97]), (ByteArray.mk #[46, 98, 115, 115])]) (irem (k : Int) 3) = true := by rcases hk3 with rfl | rfl | rfl <;> rfl
      have c2 : cIx ([(ByteArray.mk #[]), (ByteArray.mk #[49])]) (iquo .i64 (k : Int) 3) = true := by rcases hk3 with rfl | rfl | rfl <;> rfl
      have c3 : cCat (lgt .str ([(ByteArray.mk #[46, 116, 101, 120, 116]), (ByteArray.mk #[46, 100, 97, 116, 97]), (ByteArray.mk #[46, 98, 115, 115])]) (Int.toNat (irem (k : Int) 3))) (lgt .str ([(ByteArray.mk #[]), (ByteArray.mk #[49])]) (Int.toNat (iquo .i64 (k : Int) 3))) = true := by rcases hk3 with rfl | rfl | rfl <;> rfl
      rw [br_true, e2, br_true]
      have q0 : ([] : List Int).length + (dval (dnext y50000 4) 40).toNat ≤ 100 := by rw [List.length_nil]; omega
      refine (br_of (and_dec (dok_next _ (dok_next _ h1)) ⟨hb.1, q0⟩)).trans ?_
      rw [show cNz 3 = true from rfl, br_true, c1, br_true, br_true, c2, br_true, c3, br_true, cApp_ok (by simp only [List.length_singleton]; omega) (by omega), br_true, add1 (by omega)]
      refine (ih (y20300 := y20300 ++ [(nmS k, ((secD y50000).1, ()))]) (y50000 := (secD y50000).2) (secD_ok h1) (k := k + 1) (by omega) (by omega) (by rw [List.length_append]; simp only [List.length_singleton]; omega) (by omega)).trans ?_
      simp only [la_f8_1, Int.toNat_natCast, cond_true, List.append_assoc, List.singleton_append]
theorem l_f8_2 (x7 : (List ByteArray)) (x8 : Int) (y2 : Image) (y20300 : (List Section)) (y20301 : (List Symbol)) (y50000 : Dice) (h : (dOk y50000 && decide (0 ≤ x8 ∧ x8 ≤ x7.length ∧ x7.length ≤ 100 ∧ y20301.length + (x7.length - x8.toNat) ≤ 100)) = true) : lp_f8_2 x7 x8 y2 y20300 y20301 y50000 = la_f8_2 x7 x8 y2 y20300 y20301 y50000 := by
  simp only [Bool.and_eq_true, decide_eq_true_eq] at h
  obtain ⟨h1, h2, h3, h4, h5⟩ := h
  obtain ⟨k, rfl⟩ := Int.eq_ofNat_of_zero_le h2
  rw [Int.toNat_natCast] at h5
  revert y20301 y50000
  refine range_ind x7 (fun k => ∀ (y20301 : List Symbol) (y50000 : Dice), dOk y50000 = true → y20301.length + (x7.length - k) ≤ 100 → lp_f8_2 x7 (k : Int) y2 y20300 y20301 y50000 = la_f8_2 x7 (k : Int) y2 y20300 y20301 y50000) ?_ ?_ k (by omega)
  · intro y20301 y50000 h1 _
    rw [ln_f8_2]
    simp [n_f8_2, la_f8_2, ilt_llen, br_false, symsG]
  · intro k hk ih y20301 y50000 h1 hy
    have e1 : oneOk y50000 2 = true := by simp only [oneOk, nextOk, h1, Bool.true_and]; rfl
    have e2 : nextOk (dnext y50000 2) 1048576 = true := by simp only [nextOk, dok_next _ h1, Bool.true_and]; rfl
    rw [ln_f8_2]
    simp only [n_f8_2, ilt_llen, cIx_nat, hk, decide_true, br_true, Int.toNat_natCast, add1 (show k < 4611686018427387904 by omega), lgt_get (y := .str) hk, e1, e2, la_f8_2, List.drop_eq_getElem_cons hk, symsG]
    cases hd : done y50000 2 with
    | false =>
      rw [br_false, ih _ _ (dok_next _ h1) (by omega)]
      simp only [la_f8_2, Int.toNat_natCast, cond_false]
    | true =>
      rw [br_true, cApp_ok (by simp only [List.length_singleton]; omega) (by omega), br_true, ih _ _ (dok_next _ (dok_next _ h1)) (by rw [List.length_append]; simp only [List.length_singleton]; omega)]
      simp only [la_f8_2, Int.toNat_natCast, cond_true, List.append_assoc, List.singleton_append]
theorem lo_f8_0 : ∀ S l p, g_f8.L 0 (fgt fg_f8_0 S) = some (true, l) → pickA l = some p → loopF (roundF g_f8 fg_f8_0 tb_f8_0) S = some p :=
  lok_of (s := sh_f8_0) ⟨by decide, by decide⟩ (by kernel_rfl) fun x y hok p hp => by
  simp only [pickA_br, pickA_one] at hp
  exact (l_f8_0 x.2.2.2.1 x.2.2.2.2.2.1 y.1 y.2.2.1 y.2.2.2.2.2.2.1 y.2.2.2.2.2.2.2.1 y.2.2.2.2.2.2.2.2.1 (by simpa using hok)).trans hp
theorem lo_f8_1 : ∀ S l p, g_f8.L 1 (fgt fg_f8_1 S) = some (true, l) → pickA l = some p → loopF (roundF g_f8 fg_f8_1 tb_f8_1) S = some p :=
  lok_of (s := sh_f8_1) ⟨by decide, by decide⟩ (by kernel_rfl) fun x y hok p hp => by
  simp only [pickA_br, pickA_one] at hp
  exact (l_f8_1 x.2.2.2.1 y.1 y.2.2.2.2.1 y.2.2.2.2.2.1 y.2.2.2.2.2.2.1 (by simpa using hok)).trans hp
theorem lo_f8_2 : ∀ S l p, g_f8.L 2 (fgt fg_f8_2 S) = some (true, l) → pickA l = some p → loopF (roundF g_f8 fg_f8_2 tb_f8_2) S = some p :=
  lok_of (s := sh_f8_2) ⟨by decide, by decide⟩ (by kernel_rfl) fun x y hok p hp => by
  simp only [pickA_br, pickA_one] at hp
  exact (l_f8_2 x.2.2.2.1 x.2.2.2.2.1 y.1 y.2.2.2.2.1 y.2.2.2.2.2.1 y.2.2.2.2.2.2.1 (by simpa using hok)).trans hp
theorem lk_f8 : tc_f8.lok g_f8 := by
  repeat (first | exact trivial | exact lo_f8_0 | exact lo_f8_1 | exact lo_f8_2 | refine ⟨?_, ?_⟩)
theorem s_f8 (d : Dice) (h : dOk d = true) : r_f8 d = some (.t tyImage (imgV d), [.box (.t tyDice (imgN d))]) := by
  simp only [r_f8]
  refine (br_of (and_dec h (by simp))).trans ?_
  refine (br_of (and_dec (secs_okG 4 0 h) (by simp))).trans ?_
  rfl
def sp_f8 : Ent := specP tyDice .nil (fun d x => (dOk d)) (fun d x => (.t tyImage (imgV d))) (fun d x => (imgN d))
theorem ms_f8 : Meets Try.prog 8 (strip sp_f8) := by
  obtain ⟨c, hc, hi⟩ := Option.map_eq_some_iff.1 ok_f8
  exact meets_specP (R := runF g_f8 tc_f8 rv_f8 false) (meets_of (by decide) Try.func8 hc hi Try.ntmps8 rok_f8 gk_f8 lk_f8 mixed) rfl fun d x hok => (e_f8 d).trans (s_f8 d hok)
end
end Go.Proofs.Ytdbaaejiolibfaa.K
