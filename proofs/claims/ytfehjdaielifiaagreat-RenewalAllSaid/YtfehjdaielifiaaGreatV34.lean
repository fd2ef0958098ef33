/-
 renewal: Schedule.
-/
import Derived.Test.YtfehjdaielifiaaGreatP26
set_option linter.unusedSimpArgs false
set_option linter.unusedVariables false
namespace Go.Proofs.YtfehjdaielifiaaGreat.K
open Go.RowKit
noncomputable section
def schOk (y : Policy) (i : Item) (us : List Keep) (_f : Int) : Bool := fineLen y i && lenOk5 us
def dr_f33_0 : List DO := [(.mk (oM 33 (.ld true 2 (.t 4))) []), (.mk (oM 34 (.ld true 5 (.t 5))) []), (.mk (oC 35 62 [(.t 33), (.t 34)]) [0, 1]), (.mk (oP 36 (.fa 4 (.t 5))) []), (.mk (oL 37 36) [3]), (.mk (oP 38 (.bin false .lss (.t 35) (.t 37))) [2, 4])]
def dr_f33_1 : List DO := [(.mk (oM 49 (.ld true 2 (.t 4))) []), (.mk (oV 50 2) []), (.mk (oP 51 (.fa 2 (.t 5))) []), (.mk (oL 52 51) [2]), (.mk (oV 53 3) []), (.mk (oP 54 (.fa 3 (.t 5))) []), (.mk (oL 55 54) [5]), (.mk (oP 56 (.fa 3 (.t 5))) []), (.mk (oL 57 56) [7]), (.mk (oP 58 (.len false (.t 57))) [8]), (.mk (oP 59 (.bin false .sub (.t 58) (cI 1))) [9]), (.mk (oP 60 (.ix 3 (.t 55) (.t 59))) [6, 10]), (.mk (oP 61 (.fa 2 (.t 60))) [11]), (.mk (oL 62 61) [12]), (.mk (oP 63 (.bin false .add (.t 62) (cI 1))) [13]), (.mk (oP 64 (.mx (.t 53) (.t 63))) [4, 14]), (.mk (oV 65 12) []), (.mk (oC 66 63 [(.t 49), (.t 50), (.t 52), (.t 64), (.t 65)]) [0, 1, 3, 15, 16]), (.mk (oV 48 66) [17]), (.mk (oP 67 (.ext 0 (.t 48))) [18]), (.mk (oP 68 (.ext 1 (.t 48))) [18]), (.mk (oM 15 (.new [(.v (.int .i64 0)), (.v (.int .i64 0)), (.v (.int .i64 0))])) []), (.mk (.mk none none (.m (.st 3 (.t 15) (.t 67)))) [21, 19, 17, 0, 1, 2, 3, 4, 5, 6, 7, 8, 9, 10, 11, 12, 13, 14, 15, 16, 17, 18, 19, 21]), (.mk (oV 13 68) [20, 22, 0, 1, 2, 3, 4, 5, 6, 7, 8, 9, 10, 11, 12, 13, 14, 15, 16, 17, 18, 19, 20, 21, 22])]
def dr_f33_2 : List DO := [(.mk (oM 79 (.ld true 2 (.t 4))) []), (.mk (oM 80 (.ld true 5 (.t 16))) []), (.mk (oC 81 62 [(.t 79), (.t 80)]) [0, 1]), (.mk (oM 82 (.ld true 2 (.t 4))) []), (.mk (oM 83 (.ld true 5 (.t 5))) []), (.mk (oC 84 62 [(.t 82), (.t 83)]) [3, 4, 2]), (.mk (oP 85 (.bin false .leq (.t 81) (.t 84))) [2, 5])]
def dr_f33_3 : List DO := [(.mk (oM 86 (.ld true 5 (.t 16))) []), (.mk (oV 87 11) []), (.mk (oM 88 (.ld true 3 (.t 15))) []), (.mk (oM 89 (.bs 62 3 1 [(.v (.int .i64 0)), (.v (.int .i64 0)), (.v (.int .i64 0))] [(0, 3, (.t 88))])) [2]), (.mk (oM 90 (.app 62 3 24 (.t 87) (.t 89))) [1, 3]), (.mk (.mk none none (.m (.st 5 (.t 5) (.t 86)))) [0, 4, 0]), (.mk (oV 11 90) [4, 5, 0, 1, 2, 3, 4, 5])]
def fg_f33_0 : Fg := ⟨[(2, some (.sl tyKeep)), (3, some tI), (4, none), (5, none), (11, none)], [(4, some tyPolicy), (5, some tyItem), (11, none), (90, none)]⟩
def tb_f33_0 : TC := (.sq (.sq (.dr dr_f33_0 [(0, [4]), (1, [5]), (2, []), (3, [5]), (4, [5]), (5, [])] (.of [0, 1, 2, 3, 4, 5])) (.cd (.t 38) .sk (.fg ⟨[(11, none)], [(11, none), (90, none)]⟩ (.ex 1)))) (.bk 2 (.sq (.reg [(oM 40 (.ld true 2 (.t 4))), (oM 41 (.ld true 5 (.t 5))), (oC 42 20 [(.t 40), (.t 41)]), (oV 39 42), (oP 43 (.ext 0 (.t 39))), (oP 44 (.ext 1 (.t 39))), (oP 45 (.ext 2 (.t 39))), (oV 12 43), (oV 13 44), (oV 14 45)]) (.sq (.sq (.reg [(oV 46 13), (oP 47 (.nt (.t 46)))]) (.cd (.t 47) (.sq (.reg [(oP 8 (.mv (.c (.v (.slice none 0 0))))), (oP 9 (.mv (cI 51)))]) (.fg ⟨[(8, none), (9, some tI)], [(11, none), (90, none)]⟩ .rt)) .sk)) (.sq (.dr dr_f33_1 [(0, [4]), (1, []), (2, [5]), (3, [5]), (4, []), (5, [5]), (6, [5]), (7, [5]), (8, [5]), (9, []), (10, []), (11, []), (12, []), (13, []), (14, []), (15, []), (16, []), (17, []), (18, []), (19, []), (20, []), (21, [15, 5015, 10015, 15015]), (22, [15]), (23, [])] (.of [0, 1, 2, 3, 4, 5, 6, 7, 8, 9, 10, 11, 12, 13, 14, 15, 16, 17, 18, 19, 20, 21, 22, 23])) (.sq (.sq (.reg [(oV 69 13), (oP 70 (.nt (.t 69)))]) (.cd (.t 70) (.sq (.reg [(oP 8 (.mv (.c (.v (.slice none 0 0))))), (oP 9 (.mv (cI 51)))]) (.fg ⟨[(8, none), (9, some tI)], [(11, none), (90, none)]⟩ .rt)) .sk)) (.sq (.sq (.reg [(oP 71 (.fa 3 (.t 5))), (oL 72 71), (oP 73 (.len false (.t 72))), (oP 74 (.bin false .geq (.t 73) (cI 8)))]) (.cd (.t 74) (.sq (.reg [(oP 8 (.mv (.c (.v (.slice none 0 0))))), (oP 9 (.mv (cI 3)))]) (.fg ⟨[(8, none), (9, some tI)], [(11, none), (90, none)]⟩ .rt)) .sk)) (.sq (.reg [(oM 75 (.ld true 5 (.t 5))), (oM 76 (.ld true 3 (.t 15))), (oM 77 (.bs 62 3 1 [(.v (.int .i64 0)), (.v (.int .i64 0)), (.v (.int .i64 0))] [(0, 3, (.t 76))])), (oC 78 36 [(.t 75), (.t 77)]), (oM 16 (.new [(.v (.string (ByteArray.mk #[]))), (.v (.int .i64 0)), (.v (.int .i64 0)), (.v (.slice none 0 0)), (.v (.int .i64 0))])), (.mk none none (.m (.st 5 (.t 16) (.t 78))))]) (.sq (.sq (.dr dr_f33_2 [(0, [4]), (1, [16]), (2, []), (3, [4]), (4, [5]), (5, []), (6, [])] (.of [0, 1, 2, 3, 4, 5, 6])) (.cd (.t 85) (.sq (.reg [(oP 8 (.mv (.c (.v (.slice none 0 0))))), (oP 9 (.mv (cI 51)))]) (.fg ⟨[(8, none), (9, some tI)], [(11, none), (90, none)]⟩ .rt)) .sk)) (.dr dr_f33_3 [(0, [16]), (1, [11, 90]), (2, [15]), (3, []), (4, [11, 90, 5090, 10090, 15090]), (5, [5]), (6, [11, 90])] (.of [0, 1, 2, 3, 4, 5, 6])))))))))))
def tc_f33 : TC := (.sq (.reg [(oM 4 (.box (.t 0))), (oM 5 (.box (.t 1))), (oP 8 (.mv (.c (.v (.slice none 0 0))))), (oP 9 (.mv (cI 0)))]) (.sq (.sq (.reg [(oM 17 (.ld true 2 (.t 4))), (oM 18 (.ld true 5 (.t 5))), (oC 19 60 [(.t 17), (.t 18)]), (oV 10 19)]) (.sq (.reg [(oV 20 10), (oP 21 (.bin false .neq (.t 20) (cI 0)))]) (.cd (.t 21) (.sq (.reg [(oV 22 10), (oP 8 (.mv (.c (.v (.slice none 0 0))))), (oV 9 22)]) .rt) .sk))) (.sq (.bk 0 (.sq (.reg [(oV 24 2), (oC 25 61 [(.t 24)]), (oV 23 25)]) (.cd (.t 23) (.sq (.reg [(oP 8 (.mv (.c (.v (.slice none 0 0))))), (oP 9 (.mv (cI 7)))]) .rt) (.sq (.reg [(oV 27 3), (oP 28 (.bin false .lss (.t 27) (cI 0))), (oV 29 28), (oQ 30 29 false (.mv (.t 3))), (oQ 31 29 false (.bin false .gtr (.t 30) (cI 40000))), (oP 32 (.pick (.t 29) (cB true) (.t 31))), (oV 26 32)]) (.cd (.t 26) (.sq (.reg [(oP 8 (.mv (.c (.v (.slice none 0 0))))), (oP 9 (.mv (cI 2)))]) .rt) .sk))))) (.sq (.reg [(oP 11 (.mv (.c (.v (.slice none 0 0)))))]) (.sq (.bk 1 (.nw 11 62 (.lp 0 fg_f33_0 tb_f33_0))) (.sq (.reg [(oV 91 11), (oV 8 91), (oP 9 (.mv (cI 0)))]) .rt))))))
def rv_f33 : List (RV × Option Ty) := [((.t 8), some (.sl tyLink)), ((.t 9), some tI)]
abbrev sh_f33_0 : Sh := ⟨[(2, .ty (.sl tyKeep)), (3, .ty tI), (4, .ptr 4 0), (5, .ptr 5 0), (11, .ms 11)], [(4, .box tyPolicy), (5, .box tyItem), (11, .arr 62 tyLink), (90, .no)]⟩
def st_f33_0 (x2 : (List Keep)) (x3 : Int) (y4 : Policy) (y5 : Item) (y11 : (List Link)) : VS := sh_f33_0.st (x2, x3, (), (), (), ()) (y4, y5, y11, (), ())
abbrev sh_f33_0_ret : Sh := ⟨[(8, .nl), (9, .ty tI)], [(11, .arr 62 tyLink), (90, .no)]⟩
def st_f33_0_ret (x9 : Int) (y11 : (List Link)) : VS := sh_f33_0_ret.st ((), x9, ()) (y11, (), ())
abbrev sh_f33_0_e1 : Sh := ⟨[(11, .ms 11)], [(11, .arr 62 tyLink), (90, .no)]⟩
def st_f33_0_e1 (y11 : (List Link)) : VS := sh_f33_0_e1.st ((), ()) (y11, (), ())
-- loop 0: (x2 : (List Keep)) (x3 : Int) (y4 : Policy) (y5 : Item) (y11 : (List Link)); out: ('ret',) (x9 : Int) (y11 : (List Link)); ('exit', 1) (y11 : (List Link))
def L_f33_0 : VS → Option (Bool × List (Bool × Exit × VS)) := mkL sh_f33_0 (fun x y => (fineB y.1 y.2.1 && x.1.all validF && lenOk5 x.1 && decide (0 ≤ x.2.1 ∧ y.2.2.1.length ≤ y.2.1.2.2.2.1.length))) (fun x y => [((ine (schZ y.1 x.1 x.2.1 (9 - y.2.1.2.2.2.1.length) y.2.1 y.2.2.1).2 0), .ret, st_f33_0_ret ((schZ y.1 x.1 x.2.1 (9 - y.2.1.2.2.2.1.length) y.2.1 y.2.2.1).2) ((schZ y.1 x.1 x.2.1 (9 - y.2.1.2.2.2.1.length) y.2.1 y.2.2.1).1)), (true, .exit 1, st_f33_0_e1 ((schZ y.1 x.1 x.2.1 (9 - y.2.1.2.2.2.1.length) y.2.1 y.2.2.1).1))])
def g_f33 : G := ⟨TYs, [], 92, EL [(20, sp_f20), (36, sp_f36), (60, sp_f60), (61, sp_f61), (62, sp_f62), (63, sp_f63)], keeps, (Ls [L_f33_0]), IL [], RL []⟩
def b_f33_0 (x2 : (List Keep)) (x3 : Int) (y4 : Policy) (y5 : Item) (y11 : (List Link)) : Option (Exit × VS) :=
 br ((fineLen y4 y5))
  (br ((ilt (reachF y4 y5) y5.2.2.2.2.1))
   (br ((fineLen y4 y5))
    (br ((!(((LatestF y4 y5).2).1)))
     (some (.ret, st_f33_0_ret 51 y11))
     (br (cIx y5.2.2.2.1 (isub .i64 (llen y5.2.2.2.1) 1))
      (br ((bestOk y4 x2 y5.2.2.1 (imx x3 (iadd .i64 (((lgt tyLink y5.2.2.2.1 (Int.toNat (isub .i64 (llen y5.2.2.2.1) 1))).2).1) 1)) ((LatestF y4 y5).1)))
       (br ((!((bestF y4 x2 y5.2.2.1 (imx x3 (iadd .i64 (((lgt tyLink y5.2.2.2.1 (Int.toNat (isub .i64 (llen y5.2.2.2.1) 1))).2).1) 1)) ((LatestF y4 y5).1)).2)))
        (some (.ret, st_f33_0_ret 51 y11))
        (br ((ige (llen y5.2.2.2.1) 8))
         (some (.ret, st_f33_0_ret 3 y11))
         (br ((applyOk y5 ([(((((bestF y4 x2 y5.2.2.1 (imx x3 (iadd .i64 (((lgt tyLink y5.2.2.2.1 (Int.toNat (isub .i64 (llen y5.2.2.2.1) 1))).2).1) 1)) ((LatestF y4 y5).1)).1).1).1, (((((bestF y4 x2 y5.2.2.1 (imx x3 (iadd .i64 (((lgt tyLink y5.2.2.2.1 (Int.toNat (isub .i64 (llen y5.2.2.2.1) 1))).2).1) 1)) ((LatestF y4 y5).1)).1).1).2).1, ())), ((((bestF y4 x2 y5.2.2.1 (imx x3 (iadd .i64 (((lgt tyLink y5.2.2.2.1 (Int.toNat (isub .i64 (llen y5.2.2.2.1) 1))).2).1) 1)) ((LatestF y4 y5).1)).1).2).1, ()))])))
          (br ((fineLen y4 (applyF y5 ([(((((bestF y4 x2 y5.2.2.1 (imx x3 (iadd .i64 (((lgt tyLink y5.2.2.2.1 (Int.toNat (isub .i64 (llen y5.2.2.2.1) 1))).2).1) 1)) ((LatestF y4 y5).1)).1).1).1, (((((bestF y4 x2 y5.2.2.1 (imx x3 (iadd .i64 (((lgt tyLink y5.2.2.2.1 (Int.toNat (isub .i64 (llen y5.2.2.2.1) 1))).2).1) 1)) ((LatestF y4 y5).1)).1).1).2).1, ())), ((((bestF y4 x2 y5.2.2.1 (imx x3 (iadd .i64 (((lgt tyLink y5.2.2.2.1 (Int.toNat (isub .i64 (llen y5.2.2.2.1) 1))).2).1) 1)) ((LatestF y4 y5).1)).1).2).1, ()))]))))
           (br ((fineLen y4 y5))
            (br ((ile (reachF y4 (applyF y5 ([(((((bestF y4 x2 y5.2.2.1 (imx x3 (iadd .i64 (((lgt tyLink y5.2.2.2.1 (Int.toNat (isub .i64 (llen y5.2.2.2.1) 1))).2).1) 1)) ((LatestF y4 y5).1)).1).1).1, (((((bestF y4 x2 y5.2.2.1 (imx x3 (iadd .i64 (((lgt tyLink y5.2.2.2.1 (Int.toNat (isub .i64 (llen y5.2.2.2.1) 1))).2).1) 1)) ((LatestF y4 y5).1)).1).1).2).1, ())), ((((bestF y4 x2 y5.2.2.1 (imx x3 (iadd .i64 (((lgt tyLink y5.2.2.2.1 (Int.toNat (isub .i64 (llen y5.2.2.2.1) 1))).2).1) 1)) ((LatestF y4 y5).1)).1).2).1, ()))]))) (reachF y4 y5)))
             (some (.ret, st_f33_0_ret 51 y11))
             (br (cApp y11 ([(((((bestF y4 x2 y5.2.2.1 (imx x3 (iadd .i64 (((lgt tyLink y5.2.2.2.1 (Int.toNat (isub .i64 (llen y5.2.2.2.1) 1))).2).1) 1)) ((LatestF y4 y5).1)).1).1).1, (((((bestF y4 x2 y5.2.2.1 (imx x3 (iadd .i64 (((lgt tyLink y5.2.2.2.1 (Int.toNat (isub .i64 (llen y5.2.2.2.1) 1))).2).1) 1)) ((LatestF y4 y5).1)).1).1).2).1, ())), ((((bestF y4 x2 y5.2.2.1 (imx x3 (iadd .i64 (((lgt tyLink y5.2.2.2.1 (Int.toNat (isub .i64 (llen y5.2.2.2.1) 1))).2).1) 1)) ((LatestF y4 y5).1)).1).2).1, ()))]) 24)
              (some (.normal, st_f33_0 x2 x3 y4 (applyF y5 ([(((((bestF y4 x2 y5.2.2.1 (imx x3 (iadd .i64 (((lgt tyLink y5.2.2.2.1 (Int.toNat (isub .i64 (llen y5.2.2.2.1) 1))).2).1) 1)) ((LatestF y4 y5).1)).1).1).1, (((((bestF y4 x2 y5.2.2.1 (imx x3 (iadd .i64 (((lgt tyLink y5.2.2.2.1 (Int.toNat (isub .i64 (llen y5.2.2.2.1) 1))).2).1) 1)) ((LatestF y4 y5).1)).1).1).2).1, ())), ((((bestF y4 x2 y5.2.2.1 (imx x3 (iadd .i64 (((lgt tyLink y5.2.2.2.1 (Int.toNat (isub .i64 (llen y5.2.2.2.1) 1))).2).1) 1)) ((LatestF y4 y5).1)).1).2).1, ()))])) (y11 ++ ([(((((bestF y4 x2 y5.2.2.1 (imx x3 (iadd .i64 (((lgt tyLink y5.2.2.2.1 (Int.toNat (isub .i64 (llen y5.2.2.2.1) 1))).2).1) 1)) ((LatestF y4 y5).1)).1).1).1, (((((bestF y4 x2 y5.2.2.1 (imx x3 (iadd .i64 (((lgt tyLink y5.2.2.2.1 (Int.toNat (isub .i64 (llen y5.2.2.2.1) 1))).2).1) 1)) ((LatestF y4 y5).1)).1).1).2).1, ())), ((((bestF y4 x2 y5.2.2.1 (imx x3 (iadd .i64 (((lgt tyLink y5.2.2.2.1 (Int.toNat (isub .i64 (llen y5.2.2.2.1) 1))).2).1) 1)) ((LatestF y4 y5).1)).1).2).1, ()))]))))
              (none)))
            (none))
           (none))
          (none))))
       (none))
      (none)))
    (none))
   (some (.exit 1, st_f33_0_e1 y11)))
  (none)
noncomputable def lp_f33_0 (x2 : (List Keep)) (x3 : Int) (y4 : Policy) (y5 : Item) (y11 : (List Link)) : Option (Exit × VS) := loopF (roundF g_f33 fg_f33_0 tb_f33_0) (st_f33_0 x2 x3 y4 y5 y11)
noncomputable def n_f33_0 (x2 : (List Keep)) (x3 : Int) (y4 : Policy) (y5 : Item) (y11 : (List Link)) : Option (Exit × VS) :=
 br ((fineLen y4 y5))
  (br ((ilt (reachF y4 y5) y5.2.2.2.2.1))
   (br ((fineLen y4 y5))
    (br ((!(((LatestF y4 y5).2).1)))
     (some (.ret, st_f33_0_ret 51 y11))
     (br (cIx y5.2.2.2.1 (isub .i64 (llen y5.2.2.2.1) 1))
      (br ((bestOk y4 x2 y5.2.2.1 (imx x3 (iadd .i64 (((lgt tyLink y5.2.2.2.1 (Int.toNat (isub .i64 (llen y5.2.2.2.1) 1))).2).1) 1)) ((LatestF y4 y5).1)))
       (br ((!((bestF y4 x2 y5.2.2.1 (imx x3 (iadd .i64 (((lgt tyLink y5.2.2.2.1 (Int.toNat (isub .i64 (llen y5.2.2.2.1) 1))).2).1) 1)) ((LatestF y4 y5).1)).2)))
        (some (.ret, st_f33_0_ret 51 y11))
        (br ((ige (llen y5.2.2.2.1) 8))
         (some (.ret, st_f33_0_ret 3 y11))
         (br ((applyOk y5 ([(((((bestF y4 x2 y5.2.2.1 (imx x3 (iadd .i64 (((lgt tyLink y5.2.2.2.1 (Int.toNat (isub .i64 (llen y5.2.2.2.1) 1))).2).1) 1)) ((LatestF y4 y5).1)).1).1).1, (((((bestF y4 x2 y5.2.2.1 (imx x3 (iadd .i64 (((lgt tyLink y5.2.2.2.1 (Int.toNat (isub .i64 (llen y5.2.2.2.1) 1))).2).1) 1)) ((LatestF y4 y5).1)).1).1).2).1, ())), ((((bestF y4 x2 y5.2.2.1 (imx x3 (iadd .i64 (((lgt tyLink y5.2.2.2.1 (Int.toNat (isub .i64 (llen y5.2.2.2.1) 1))).2).1) 1)) ((LatestF y4 y5).1)).1).2).1, ()))])))
          (br ((fineLen y4 (applyF y5 ([(((((bestF y4 x2 y5.2.2.1 (imx x3 (iadd .i64 (((lgt tyLink y5.2.2.2.1 (Int.toNat (isub .i64 (llen y5.2.2.2.1) 1))).2).1) 1)) ((LatestF y4 y5).1)).1).1).1, (((((bestF y4 x2 y5.2.2.1 (imx x3 (iadd .i64 (((lgt tyLink y5.2.2.2.1 (Int.toNat (isub .i64 (llen y5.2.2.2.1) 1))).2).1) 1)) ((LatestF y4 y5).1)).1).1).2).1, ())), ((((bestF y4 x2 y5.2.2.1 (imx x3 (iadd .i64 (((lgt tyLink y5.2.2.2.1 (Int.toNat (isub .i64 (llen y5.2.2.2.1) 1))).2).1) 1)) ((LatestF y4 y5).1)).1).2).1, ()))]))))
           (br ((fineLen y4 y5))
            (br ((ile (reachF y4 (applyF y5 ([(((((bestF y4 x2 y5.2.2.1 (imx x3 (iadd .i64 (((lgt tyLink y5.2.2.2.1 (Int.toNat (isub .i64 (llen y5.2.2.2.1) 1))).2).1) 1)) ((LatestF y4 y5).1)).1).1).1, (((((bestF y4 x2 y5.2.2.1 (imx x3 (iadd .i64 (((lgt tyLink y5.2.2.2.1 (Int.toNat (isub .i64 (llen y5.2.2.2.1) 1))).2).1) 1)) ((LatestF y4 y5).1)).1).1).2).1, ())), ((((bestF y4 x2 y5.2.2.1 (imx x3 (iadd .i64 (((lgt tyLink y5.2.2.2.1 (Int.toNat (isub .i64 (llen y5.2.2.2.1) 1))).2).1) 1)) ((LatestF y4 y5).1)).1).2).1, ()))]))) (reachF y4 y5)))
             (some (.ret, st_f33_0_ret 51 y11))
             (br (cApp y11 ([(((((bestF y4 x2 y5.2.2.1 (imx x3 (iadd .i64 (((lgt tyLink y5.2.2.2.1 (Int.toNat (isub .i64 (llen y5.2.2.2.1) 1))).2).1) 1)) ((LatestF y4 y5).1)).1).1).1, (((((bestF y4 x2 y5.2.2.1 (imx x3 (iadd .i64 (((lgt tyLink y5.2.2.2.1 (Int.toNat (isub .i64 (llen y5.2.2.2.1) 1))).2).1) 1)) ((LatestF y4 y5).1)).1).1).2).1, ())), ((((bestF y4 x2 y5.2.2.1 (imx x3 (iadd .i64 (((lgt tyLink y5.2.2.2.1 (Int.toNat (isub .i64 (llen y5.2.2.2.1) 1))).2).1) 1)) ((LatestF y4 y5).1)).1).2).1, ()))]) 24)
              (lp_f33_0 x2 x3 y4 (applyF y5 ([(((((bestF y4 x2 y5.2.2.1 (imx x3 (iadd .i64 (((lgt tyLink y5.2.2.2.1 (Int.toNat (isub .i64 (llen y5.2.2.2.1) 1))).2).1) 1)) ((LatestF y4 y5).1)).1).1).1, (((((bestF y4 x2 y5.2.2.1 (imx x3 (iadd .i64 (((lgt tyLink y5.2.2.2.1 (Int.toNat (isub .i64 (llen y5.2.2.2.1) 1))).2).1) 1)) ((LatestF y4 y5).1)).1).1).2).1, ())), ((((bestF y4 x2 y5.2.2.1 (imx x3 (iadd .i64 (((lgt tyLink y5.2.2.2.1 (Int.toNat (isub .i64 (llen y5.2.2.2.1) 1))).2).1) 1)) ((LatestF y4 y5).1)).1).2).1, ()))])) (y11 ++ ([(((((bestF y4 x2 y5.2.2.1 (imx x3 (iadd .i64 (((lgt tyLink y5.2.2.2.1 (Int.toNat (isub .i64 (llen y5.2.2.2.1) 1))).2).1) 1)) ((LatestF y4 y5).1)).1).1).1, (((((bestF y4 x2 y5.2.2.1 (imx x3 (iadd .i64 (((lgt tyLink y5.2.2.2.1 (Int.toNat (isub .i64 (llen y5.2.2.2.1) 1))).2).1) 1)) ((LatestF y4 y5).1)).1).1).2).1, ())), ((((bestF y4 x2 y5.2.2.1 (imx x3 (iadd .i64 (((lgt tyLink y5.2.2.2.1 (Int.toNat (isub .i64 (llen y5.2.2.2.1) 1))).2).1) 1)) ((LatestF y4 y5).1)).1).2).1, ()))])))
              (none)))
            (none))
           (none))
          (none))))
       (none))
      (none)))
    (none))
   (some (.exit 1, st_f33_0_e1 y11)))
  (none)
def la_f33_0 (x2 : (List Keep)) (x3 : Int) (y4 : Policy) (y5 : Item) (y11 : (List Link)) : Option (Exit × VS) := br (ine (schZ y4 x2 x3 (9 - y5.2.2.2.1.length) y5 y11).2 0) (some (.ret, st_f33_0_ret ((schZ y4 x2 x3 (9 - y5.2.2.2.1.length) y5 y11).2) ((schZ y4 x2 x3 (9 - y5.2.2.2.1.length) y5 y11).1))) <| some (.exit 1, st_f33_0_e1 ((schZ y4 x2 x3 (9 - y5.2.2.2.1.length) y5 y11).1))
theorem be_f33_0 (x2 : (List Keep)) (x3 : Int) (y4 : Policy) (y5 : Item) (y11 : (List Link)) : roundF g_f33 fg_f33_0 tb_f33_0 (st_f33_0 x2 x3 y4 y5 y11) = b_f33_0 x2 x3 y4 y5 y11 := by kernel_rfl
theorem ln_f33_0 (x2 : (List Keep)) (x3 : Int) (y4 : Policy) (y5 : Item) (y11 : (List Link)) : lp_f33_0 x2 x3 y4 y5 y11 = n_f33_0 x2 x3 y4 y5 y11 := (loopF_nxt _ _).trans (by
 rw [be_f33_0]
 simp only [b_f33_0, n_f33_0, nxt_br, nxt_n, nxt_r, nxt_e, nxt_0]
 rfl)
def r_f33 (p0 : Policy) (p1 : Item) (p2 : (List Keep)) (p3 : Int) : Option (V × List VO) :=
 br ((fineLen p0 p1))
  (br ((ine (rcheckF p0 p1) 0))
   (some (.tu [(.t (.sl tyLink) ([] : List Link)), (.t tI (rcheckF p0 p1))], []))
   (br ((lenOk5 p2))
    (br ((anyUse p2))
     (some (.tu [(.t (.sl tyLink) ([] : List Link)), (.t tI 7)], []))
     (br ((ilt p3 0))
      (some (.tu [(.t (.sl tyLink) ([] : List Link)), (.t tI 2)], []))
      (br ((igt p3 40000))
       (some (.tu [(.t (.sl tyLink) ([] : List Link)), (.t tI 2)], []))
       (br ((fineB p0 p1 && p2.all validF && lenOk5 p2 && decide (0 ≤ p3 ∧ ([] : List Link).length ≤ p1.2.2.2.1.length)))
        (br ((ine (schZ p0 p2 p3 (9 - p1.2.2.2.1.length) p1 ([] : List Link)).2 0))
         (some (.tu [(.t (.sl tyLink) ([] : List Link)), (.t tI ((schZ p0 p2 p3 (9 - p1.2.2.2.1.length) p1 ([] : List Link)).2))], []))
         (some (.tu [(.t (.sl tyLink) ((schZ p0 p2 p3 (9 - p1.2.2.2.1.length) p1 ([] : List Link)).1)), (.t tI 0)], [])))
        (none)))))
    (none)))
  (none)
theorem e_f33 (p0 : Policy) (p1 : Item) (p2 : (List Keep)) (p3 : Int) : runF g_f33 tc_f33 rv_f33 false [.t tyPolicy p0, .t tyItem p1, .t (.sl tyKeep) p2, .t tI p3] [] = r_f33 p0 p1 p2 p3 := by kernel_rfl
theorem ok_f33 : Option.map (trC Tryz.prog) Tryz.f33.body = some tc_f33.er := by kernel_rfl
theorem rok_f33 : trVs Tryz.prog Tryz.f33.results.toList = some (rv_f33.map Prod.fst) := by kernel_rfl
theorem en_f33 : Entered Tryz.prog 33 := .inr ⟨by decide, _, Tryz.func33, by kernel_rfl, by kernel_rfl⟩
theorem gk_f33 : GOk Tryz.prog g_f33 := gok_of _ (by
 intro p hp
 simp only [List.mem_cons, List.not_mem_nil, or_false] at hp
 rcases hp with rfl | rfl | rfl | rfl | rfl | rfl
 ·exact ⟨en_f20, ms_f20⟩
 ·exact ⟨en_f36, ms_f36⟩
 ·exact ⟨en_f60, ms_f60⟩
 ·exact ⟨en_f61, ms_f61⟩
 ·exact ⟨en_f62, ms_f62⟩
 ·exact ⟨en_f63, ms_f63⟩)
def dayB (i : Item) : Int := iadd .i64 (lgt tyLink i.2.2.2.1 (Int.toNat (isub .i64 (llen i.2.2.2.1) 1))).2.1 1
def nxB' (y : Policy) (us : List Keep) (from_ : Int) (i : Item) : Link × Bool := bestF y us i.2.2.1 (imx from_ (dayB i)) (LatestF y i).1
theorem n_sch_eq (x2 : List Keep) (x3 : Int) (y4 : Policy) (y5 : Item) (y11 : List Link) : n_f33_0 x2 x3 y4 y5 y11 =
  br (fineLen y4 y5) (br (ilt (reachF y4 y5) y5.2.2.2.2.1) (br (fineLen y4 y5) (br (!(LatestF y4 y5).2.1) (some (.ret, st_f33_0_ret 51 y11)) (br (cIx y5.2.2.2.1 (isub .i64 (llen y5.2.2.2.1) 1)) (br (bestOk y4 x2 y5.2.2.1 (imx x3 (dayB y5)) (LatestF y4 y5).1)
   (br (!(nxB' y4 x2 x3 y5).2) (some (.ret, st_f33_0_ret 51 y11)) (br (ige (llen y5.2.2.2.1) 8) (some (.ret, st_f33_0_ret 3 y11)) (br (applyOk y5 [(nxB' y4 x2 x3 y5).1]) (br (fineLen y4 (applyF y5 [(nxB' y4 x2 x3 y5).1])) (br (fineLen y4 y5)
    (br (ile (reachF y4 (applyF y5 [(nxB' y4 x2 x3 y5).1])) (reachF y4 y5)) (some (.ret, st_f33_0_ret 51 y11)) (br (cApp y11 [(nxB' y4 x2 x3 y5).1] 24) (lp_f33_0 x2 x3 y4 (applyF y5 [(nxB' y4 x2 x3 y5).1]) (y11 ++ [(nxB' y4 x2 x3 y5).1])) none)) none) none) none))) none) none)) none) (some (.exit 1, st_f33_0_e1 y11))) none := by kernel_rfl
theorem l_f33_0 (x2 : (List Keep)) (x3 : Int) (y4 : Policy) (y5 : Item) (y11 : (List Link)) (h : (fineB y4 y5 && x2.all validF && lenOk5 x2 && decide (0 ≤ x3 ∧ y11.length ≤ y5.2.2.2.1.length)) = true) : lp_f33_0 x2 x3 y4 y5 y11 = la_f33_0 x2 x3 y4 y5 y11 := by
 simp only [Bool.and_eq_true, decide_eq_true_eq] at h
 obtain ⟨⟨⟨hf, hu⟩, hl⟩, h0, h1⟩ := h
 have hI0 : y5.2.2.2.1.length ≤ 8 := by
  simp only [fineB, Bool.and_eq_true] at hf
  exact (itemOk_iff.1 hf.2).2.2.2.1.2
 obtain ⟨m, hm⟩ : ∃ m, m = 8 - y5.2.2.2.1.length := ⟨_, rfl⟩
 induction m using Nat.strongRecOn generalizing y5 y11 with
 | ind m ih =>
  rw [ln_f33_0, n_sch_eq]
  have hf2 := hf
  simp only [fineB, Bool.and_eq_true] at hf2
  have hI := itemOk_iff.1 hf2.2
  have e9 : 9 - y5.2.2.2.1.length = (8 - y5.2.2.2.1.length) + 1 := by omega
  obtain ⟨_, _, _, e7, e8⟩ := fine_lens hf
  have f1 := len_of hf
  unfold la_f33_0
  rw [e9]
  unfold schZ
  rw [f1, br_true]
  cases c1 : ilt (reachF y4 y5) y5.2.2.2.2.1 with
  | false => rfl
  | true =>
   rw [br_true, br_true, cond_true]
   cases c2 : (LatestF y4 y5).2.1 with
   | false => rfl
   | true =>
    obtain ⟨l, x, e, hx, hk, hc, eL, hlt, hle, hl0, _⟩ := latest_law hf c2
    have ed : dayB y5 = lastDay y5 + 1 := by
     unfold dayB
     rw [e7, Int.toNat_natCast]
     exact iadd_in (by show _ ≤ lastDay y5 + 1 ∧ lastDay y5 + 1 ≤ _; omega)
    have en : nxB' y4 x2 x3 y5 = nxB y4 x2 x3 y5 := by unfold nxB' nxB; rw [ed]
    have hb : bestOk y4 x2 y5.2.2.1 (imx x3 (dayB y5)) (LatestF y4 y5).1 = true := by
     unfold bestOk
     rw [hf2.1, hu, hl]
     exact decide_eq_true hI.2.2.1
    rw [e7, e8, hb, en, Bool.not_true, br_false, br_true, br_true, cond_true]
    cases c3 : (nxB y4 x2 x3 y5).2 with
    | false => rfl
    | true =>
     rw [Bool.not_true, br_false, cond_true]
     cases c4 : ige (llen y5.2.2.2.1) 8 with
     | true => rfl
     | false =>
      simp only [ige, llen, decide_eq_false_iff_not] at c4
      obtain ⟨u, d, g1, g2, g3, g4, g5, g6, g7, g8, g9, g10⟩ := nx_law hf hu h0 c2 c3
      obtain ⟨n1, n2, n3, n4⟩ := next_law hf c2 g2 (by omega) g6 g8 g10
      have ea : applyF y5 [(nxB y4 x2 x3 y5).1] = moreL y5 u d := by rw [g4]; rfl
      have f2 : fineLen y4 (applyF y5 [(nxB y4 x2 x3 y5).1]) = true := by rw [ea]; exact len_of n1
      have f3 : applyOk y5 [(nxB y4 x2 x3 y5).1] = true := by
       unfold applyOk lenOk5
       rw [Bool.and_eq_true]
       exact ⟨decide_eq_true (by omega), decide_eq_true (by simp)⟩
      have f4 : cApp y11 [(nxB y4 x2 x3 y5).1] 24 = true := cApp_ok (by simp; omega) (by omega)
      rw [br_false, cond_false, f2, f3, f4, br_true, br_true, br_true, br_true]
      cases c5 : ile (reachF y4 (applyF y5 [(nxB y4 x2 x3 y5).1])) (reachF y4 y5) with
      | true => rfl
      | false =>
       rw [br_false, cond_false]
       have hlen : (applyF y5 [(nxB y4 x2 x3 y5).1]).2.2.2.1.length = y5.2.2.2.1.length + 1 := by
        rw [ea]
        show (y5.2.2.2.1 ++ [(u, (d, ()))]).length = _
        simp
       have hl2 : (y11 ++ [(nxB y4 x2 x3 y5).1]).length ≤ (applyF y5 [(nxB y4 x2 x3 y5).1]).2.2.2.1.length := by
        rw [hlen, List.length_append, List.length_singleton]
        exact Nat.succ_le_succ h1
       have hl3 : (applyF y5 [(nxB y4 x2 x3 y5).1]).2.2.2.1.length ≤ 8 := by
        rw [hlen]
        omega
       have hl4 : 8 - (y5.2.2.2.1.length + 1) < m := by omega
       rw [ih (8 - (y5.2.2.2.1.length + 1)) hl4 (y5 := applyF y5 [(nxB y4 x2 x3 y5).1]) (y11 := y11 ++ [(nxB y4 x2 x3 y5).1]) (by rw [ea]; exact n1) hl2 hl3 (by rw [hlen])]
       unfold la_f33_0
       rw [hlen, show 9 - (y5.2.2.2.1.length + 1) = 8 - y5.2.2.2.1.length by omega]
theorem lo_f33_0 : ∀ S l p, g_f33.L 0 (fgt fg_f33_0 S) = some (true, l) → pickA l = some p → loopF (roundF g_f33 fg_f33_0 tb_f33_0) S = some p :=
 lok_of (s := sh_f33_0) ⟨by decide, by decide⟩ (by kernel_rfl) fun x y hok p hp => by
 simp only [pickA_br, pickA_one] at hp
 exact (l_f33_0 x.1 x.2.1 y.1 y.2.1 y.2.2.1 (by simpa using hok)).trans hp
theorem lk_f33 : tc_f33.lok g_f33 := by
 repeat (first | exact trivial | exact lo_f33_0 | refine ⟨?_, ?_⟩)
theorem s_f33 (y : Policy) (i : Item) (us : List Keep) (f : Int) (h : schOk y i us f = true) : r_f33 y i us f = some (.tu [.t (.sl tyLink) (schF y i us f).1, .t tI (schF y i us f).2], []) := by
 simp only [schOk, Bool.and_eq_true] at h
 simp only [r_f33, h.1, h.2, br_true]
 unfold schF
 rcases rcheck_ne (y := y) (i := i) with ⟨q1, q2⟩ | ⟨q1, q2, q3⟩
 ·rw [q1, q2, show ine 0 0 = false from rfl, br_false, if_neg (by simp)]
  cases ha : anyUse us with
  | true => rfl
  | false =>
   rw [br_false, if_neg (by simp)]
   have hall : us.all validF = true := by rw [any_valid] at ha; simpa using ha
   refine br_intro (fun g => ?_) (fun g1 => br_intro (fun g => ?_) (fun g2 => ?_))
   ·rw [if_pos (.inl (of_decide_eq_true g))]
   ·rw [if_pos (.inr (of_decide_eq_true g))]
   ·have g1 := of_decide_eq_false g1
    have g2 := of_decide_eq_false g2
    rw [if_neg (by omega), hall, Bool.true_and, Bool.true_and, Bool.true_and, dec_true ⟨by omega, Nat.zero_le _⟩, br_true]
    generalize schZ y us f (9 - i.2.2.2.1.length) i [] = r
    by_cases hr : r.2 = 0
    ·rw [if_pos hr, hr]
     rfl
    ·rw [if_neg hr, show ine r.2 0 = true by simpa [ine] using hr]
     rfl
 ·rw [q2, q3, q1, br_true, if_pos rfl]
def sp_f33 : Ent := spec (.pr tyPolicy (.pr tyItem (.pr (.sl tyKeep) (.pr tI .nil)))) (fun x => (schOk x.1 x.2.1 x.2.2.1 x.2.2.2.1)) (fun x => (.tu [(.t (.sl tyLink) ((schF x.1 x.2.1 x.2.2.1 x.2.2.2.1).1)), (.t tI ((schF x.1 x.2.1 x.2.2.1 x.2.2.2.1).2))]))
theorem ms_f33 : Meets Tryz.prog 33 (strip sp_f33) := by
 obtain ⟨c, hc, hi⟩ := Option.map_eq_some_iff.1 ok_f33
 exact meets_spec (R := runF g_f33 tc_f33 rv_f33 false) (meets_of (by decide) Tryz.func33 hc hi Tryz.ntmps33 rok_f33 gk_f33 lk_f33 mixed) fun x hok => (e_f33 x.1 x.2.1 x.2.2.1 x.2.2.2.1).trans (s_f33 x.1 x.2.1 x.2.2.1 x.2.2.2.1 hok)
end
end Go.Proofs.YtfehjdaielifiaaGreat.K
