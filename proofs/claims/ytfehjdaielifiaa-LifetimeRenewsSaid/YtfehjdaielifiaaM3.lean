/-
  Items out of dice.
-/
import Derived.Test.YtfehjdaielifiaaM2
import Derived.Test.YtfehjdaielifiaaV20
set_option linter.unusedSimpArgs false
set_option linter.unusedVariables false
namespace Go.Proofs.Ytfehjdaielifiaa.K
open Go.RowKit
def useL : List Keep := [(2, (0, ())), (1, (0, ())), (5, (2048, ())), (16, (128, ())), (3, (0, ())), (15, (168, ()))]
def linkZ : Nat → Int → Dice → List Link × Dice
  | 0, _, d => ([], d)
  | n + 1, day, d => ((lgt tyKeep useL (dval d 6).toNat, (day, ())) :: (linkZ n (iadd .i64 (iadd .i64 day 1) (dof (dnext d 6) [5, 30, 0, 100])) (dofN (dnext d 6) [5, 30, 0, 100])).1, (linkZ n (iadd .i64 (iadd .i64 day 1) (dof (dnext d 6) [5, 30, 0, 100])) (dofN (dnext d 6) [5, 30, 0, 100])).2)
def itD3 (d : Dice) : Dice := dnext (dnext (dnext (dnext d 2) 4) 20) 3
def itLk (d : Dice) : List Link × Dice := linkZ (iadd .i64 1 (dval (dnext (dnext (dnext d 2) 4) 20) 3)).toNat (dval (dnext (dnext d 2) 4) 20) (itD3 d)
def itemV (d : Dice) (s : ByteArray) : Item := (s, (iadd .i64 1 (dval d 2), (iadd .i64 1 (dval (dnext d 2) 4), ((itLk d).1, (iadd .i64 (lgt tyLink (itLk d).1 0).2.1 (dof (itLk d).2 [50, 300, 0, 3000]), ())))))
def itemN (d : Dice) (_s : ByteArray) : Dice := dofN (itLk d).2 [50, 300, 0, 3000]
def dOkS (d : Dice) (_s : ByteArray) : Bool := dOk d
theorem dOk_link {n : Nat} : ∀ {day : Int} {d : Dice}, dOk d = true → dOk (linkZ n day d).2 = true := by
  induction n with
  | zero => exact fun h => h
  | succ n ih => exact fun h => ih (dOk_of (l := [5, 30, 0, 100]) (dOk_next h))
theorem dOk_itLk {d : Dice} (h : dOk d = true) : dOk (itLk d).2 = true := dOk_link (dOk_next (dOk_next (dOk_next (dOk_next h))))
theorem dOk_item {d : Dice} {s : ByteArray} (h : dOk d = true) : dOk (itemN d s) = true := dOk_of (dOk_itLk h)
theorem link_len : ∀ (n : Nat) (day : Int) (d : Dice), (linkZ n day d).1.length = n
  | 0, _, _ => rfl
  | n + 1, day, d => by simp only [linkZ, List.length_cons, link_len n]
def dr_make_Item_0 : List DO := [(.mk (.mk (some 51) none (.m (.pu (.fa 3 (.t 5))))) []), (.mk (.mk (some 52) none (.m (.ld false 1 (.t 51)))) [0]), (.mk (.mk (some 53) none (.m (.pu (.ix 3 (.t 52) (.c (.v (.int .i64 0))))))) [1]), (.mk (.mk (some 54) none (.m (.pu (.fa 2 (.t 53))))) [2]), (.mk (.mk (some 55) none (.m (.ld false 1 (.t 54)))) [3]), (.mk (.mk (some 56) none (.m (.pu (.mv (.t 0))))) []), (.mk (.mk (some 57) none (.m (.bs 3 1 4 [(.v (.int .i64 0)), (.v (.int .i64 0)), (.v (.int .i64 0)), (.v (.int .i64 0))] [(0, 1, (.c (.v (.int .i64 50)))), (1, 1, (.c (.v (.int .i64 300)))), (2, 1, (.c (.v (.int .i64 0)))), (3, 1, (.c (.v (.int .i64 3000))))]))) []), (.mk (.mk (some 58) none (.call 23 [(.t 56), (.t 57)])) [5, 6]), (.mk (.mk (some 59) none (.m (.pu (.bin false .add (.t 55) (.t 58))))) [4, 7]), (.mk (.mk (some 60) none (.m (.pu (.fa 4 (.t 5))))) [0, 1, 2, 3, 4, 5, 6, 7, 8]), (.mk (.mk none none (.m (.st 1 (.t 60) (.t 59)))) [9, 8, 7, 0, 1, 2, 3, 4, 5, 6, 7, 8])]
def fg_make_Item_0 : Fg := ⟨[(0, none), (4, none), (5, none), (6, some tI), (7, some tI)], [(4, some tyItem), (5, none), (43, none), (20503, none), (50000, some tyDice)]⟩
def tb_make_Item_0 : TC := (.sq (.sq (.reg [(.mk (some 22) none (.m (.pu (.mv (.t 7))))), (.mk (some 23) none (.m (.pu (.bin false .gtr (.t 22) (.c (.v (.int .i64 0)))))))]) (.cd (.t 23) .sk (.fg ⟨[(0, none), (4, none), (5, none)], [(4, some tyItem), (5, some tyItem), (43, none), (20503, none), (50000, some tyDice)]⟩ (.ex 0)))) (.sq (.bk 1 (.sq (.reg [(.mk (some 26) none (.m (.pu (.bd [(.v (.int .i64 0)), (.v (.int .i64 0))] [(0, 1, (.c (.v (.int .i64 2))))])))), (.mk (some 27) none (.m (.pu (.bd [(.v (.int .i64 0)), (.v (.int .i64 0))] [(0, 1, (.c (.v (.int .i64 1))))])))), (.mk (some 28) none (.m (.pu (.bd [(.v (.int .i64 0)), (.v (.int .i64 0))] [(0, 1, (.c (.v (.int .i64 5)))), (1, 1, (.c (.v (.int .i64 2048))))])))), (.mk (some 29) none (.m (.pu (.bd [(.v (.int .i64 0)), (.v (.int .i64 0))] [(0, 1, (.c (.v (.int .i64 16)))), (1, 1, (.c (.v (.int .i64 128))))])))), (.mk (some 30) none (.m (.pu (.bd [(.v (.int .i64 0)), (.v (.int .i64 0))] [(0, 1, (.c (.v (.int .i64 3))))])))), (.mk (some 31) none (.m (.pu (.bd [(.v (.int .i64 0)), (.v (.int .i64 0))] [(0, 1, (.c (.v (.int .i64 15)))), (1, 1, (.c (.v (.int .i64 168))))])))), (.mk (some 32) none (.m (.bs 42 2 6 [(.v (.int .i64 0)), (.v (.int .i64 0)), (.v (.int .i64 0)), (.v (.int .i64 0)), (.v (.int .i64 0)), (.v (.int .i64 0)), (.v (.int .i64 0)), (.v (.int .i64 0)), (.v (.int .i64 0)), (.v (.int .i64 0)), (.v (.int .i64 0)), (.v (.int .i64 0))] [(0, 2, (.t 26)), (2, 2, (.t 27)), (4, 2, (.t 28)), (6, 2, (.t 29)), (8, 2, (.t 30)), (10, 2, (.t 31))]))), (.mk (some 33) none (.m (.pu (.mv (.t 0))))), (.mk (some 34) none (.call 16 [(.t 33), (.c (.v (.int .i64 6)))])), (.mk (some 35) none (.m (.pu (.ix 2 (.t 32) (.t 34))))), (.mk (some 36) none (.m (.ld true 2 (.t 35)))), (.mk (some 8) none (.m (.new [(.v (.int .i64 0)), (.v (.int .i64 0))]))), (.mk none none (.m (.st 2 (.t 8) (.t 36))))]) (.sq (.reg [(.mk (some 37) none (.m (.pu (.fa 3 (.t 5))))), (.mk (some 38) none (.m (.ld false 1 (.t 37)))), (.mk (some 39) none (.m (.ld true 2 (.t 8)))), (.mk (some 40) none (.m (.pu (.mv (.t 6))))), (.mk (some 41) none (.m (.pu (.bd [(.v (.int .i64 0)), (.v (.int .i64 0)), (.v (.int .i64 0))] [(0, 2, (.t 39)), (2, 1, (.t 40))])))), (.mk (some 42) none (.m (.bs 44 3 1 [(.v (.int .i64 0)), (.v (.int .i64 0)), (.v (.int .i64 0))] [(0, 3, (.t 41))]))), (.mk (some 43) none (.m (.app 44 3 24 (.t 38) (.t 42)))), (.mk (some 44) none (.m (.pu (.fa 3 (.t 5))))), (.mk none none (.m (.st 1 (.t 44) (.t 43))))]) (.reg [(.mk (some 45) none (.m (.pu (.mv (.t 6))))), (.mk (some 46) none (.m (.pu (.bin false .add (.t 45) (.c (.v (.int .i64 1))))))), (.mk (some 47) none (.m (.pu (.mv (.t 0))))), (.mk (some 48) none (.m (.bs 3 1 4 [(.v (.int .i64 0)), (.v (.int .i64 0)), (.v (.int .i64 0)), (.v (.int .i64 0))] [(0, 1, (.c (.v (.int .i64 5)))), (1, 1, (.c (.v (.int .i64 30)))), (2, 1, (.c (.v (.int .i64 0)))), (3, 1, (.c (.v (.int .i64 100))))]))), (.mk (some 49) none (.call 23 [(.t 47), (.t 48)])), (.mk (some 50) none (.m (.pu (.bin false .add (.t 46) (.t 49))))), (.mk (some 6) none (.m (.pu (.mv (.t 50)))))])))) (.reg [(.mk (some 24) none (.m (.pu (.mv (.t 7))))), (.mk (some 25) none (.m (.pu (.bin false .sub (.t 24) (.c (.v (.int .i64 1))))))), (.mk (some 7) none (.m (.pu (.mv (.t 25)))))])))
/-- cipherplan/cipherplanmake.Item -/
def tc_make_Item : TC := (.sq (.reg [(.mk (some 4) none (.m (.new [(.v (.string (ByteArray.mk #[]))), (.v (.int .i64 0)), (.v (.int .i64 0)), (.v (.slice none 0 0)), (.v (.int .i64 0))])))]) (.sq (.reg [(.mk (some 9) none (.m (.pu (.mv (.t 1))))), (.mk (some 10) none (.m (.pu (.mv (.t 0))))), (.mk (some 11) none (.call 16 [(.t 10), (.c (.v (.int .i64 2)))])), (.mk (some 12) none (.m (.pu (.bin false .add (.c (.v (.int .i64 1))) (.t 11))))), (.mk (some 13) none (.m (.pu (.mv (.t 0))))), (.mk (some 14) none (.call 16 [(.t 13), (.c (.v (.int .i64 4)))])), (.mk (some 15) none (.m (.pu (.bin false .add (.c (.v (.int .i64 1))) (.t 14))))), (.mk (some 16) none (.m (.pu (.bd [(.v (.string (ByteArray.mk #[]))), (.v (.int .i64 0)), (.v (.int .i64 0)), (.v (.slice none 0 0)), (.v (.int .i64 0))] [(0, 1, (.t 9)), (1, 1, (.t 12)), (2, 1, (.t 15))])))), (.mk (some 5) none (.m (.new [(.v (.string (ByteArray.mk #[]))), (.v (.int .i64 0)), (.v (.int .i64 0)), (.v (.slice none 0 0)), (.v (.int .i64 0))]))), (.mk none none (.m (.st 5 (.t 5) (.t 16))))]) (.sq (.reg [(.mk (some 17) none (.m (.pu (.mv (.t 0))))), (.mk (some 18) none (.call 16 [(.t 17), (.c (.v (.int .i64 20)))])), (.mk (some 6) none (.m (.pu (.mv (.t 18)))))]) (.sq (.sq (.reg [(.mk (some 19) none (.m (.pu (.mv (.t 0))))), (.mk (some 20) none (.call 16 [(.t 19), (.c (.v (.int .i64 3)))])), (.mk (some 21) none (.m (.pu (.bin false .add (.c (.v (.int .i64 1))) (.t 20))))), (.mk (some 7) none (.m (.pu (.mv (.t 21)))))]) (.bk 0 (.nf 5 3 44 20503 (.lp 0 fg_make_Item_0 tb_make_Item_0)))) (.sq (.dr dr_make_Item_0 [(0, [5, 43, 20503]), (1, [5, 43, 20503]), (2, [43, 20503]), (3, [43, 20503]), (4, [43, 20503]), (5, [50000]), (6, []), (7, [58, 5058, 10058, 15058, 50000]), (8, []), (9, [5, 43, 20503]), (10, [4, 5, 43, 20503])] (.of [0, 1, 2, 3, 4, 5, 6, 7, 8, 9, 10])) (.sq (.reg [(.mk (some 61) none (.m (.ld true 5 (.t 5)))), (.mk none none (.m (.st 5 (.t 4) (.t 61))))]) .rt))))))
def rv_make_Item : List (RV × Option Ty) := [((.c 4 true 5), some tyItem)]
abbrev sh_make_Item_0 : Sh := ⟨[(0, .ptr 50000 0), (4, .ptr 4 0), (5, .ptr 5 0), (6, .ty tI), (7, .ty tI)], [(4, .box tyItem), (5, .bag [.ty .str, .ty tI, .ty tI, .ms 20503, .ty tI]), (43, .no), (20503, .arr 44 tyLink), (50000, .box tyDice)]⟩
def st_make_Item_0 (x6 : Int) (x7 : Int) (y4 : Item) (y5_0 : ByteArray) (y5_1 : Int) (y5_2 : Int) (y5_4 : Int) (y20503 : (List Link)) (y50000 : Dice) : VS := sh_make_Item_0.st ((), (), (), x6, x7, ()) (y4, (y5_0, y5_1, y5_2, (), y5_4, ()), (), y20503, y50000, ())
abbrev sh_make_Item_0_e0 : Sh := ⟨[(0, .ptr 50000 0), (4, .ptr 4 0), (5, .ptr 5 0)], [(4, .box tyItem), (5, .bag [.ty .str, .ty tI, .ty tI, .ms 20503, .ty tI]), (43, .no), (20503, .arr 44 tyLink), (50000, .box tyDice)]⟩
def st_make_Item_0_e0 (y4 : Item) (y5_0 : ByteArray) (y5_1 : Int) (y5_2 : Int) (y5_4 : Int) (y20503 : (List Link)) (y50000 : Dice) : VS := sh_make_Item_0_e0.st ((), (), (), ()) (y4, (y5_0, y5_1, y5_2, (), y5_4, ()), (), y20503, y50000, ())
-- loop 0: (x6 : Int) (x7 : Int) (y4 : Item) (y5_0 : ByteArray) (y5_1 : Int) (y5_2 : Int) (y5_4 : Int) (y20503 : (List Link)) (y50000 : Dice); out: ('exit', 0) (y4 : Item) (y5_0 : ByteArray) (y5_1 : Int) (y5_2 : Int) (y5_4 : Int) (y20503 : (List Link)) (y50000 : Dice)
def L_make_Item_0 : VS → Option (Bool × List (Bool × Exit × VS)) := mkL sh_make_Item_0 (fun x y => (dOk y.2.2.2.2.1 && decide (0 ≤ x.2.2.2.2.1 ∧ x.2.2.2.2.1 ≤ 100 ∧ y.2.2.2.1.length + x.2.2.2.2.1.toNat ≤ 1000))) (fun x y => [(true, .exit 0, st_make_Item_0_e0 (y.1) (y.2.1.1) (y.2.1.2.1) (y.2.1.2.2.1) (y.2.1.2.2.2.2.1) (y.2.2.2.1 ++ (linkZ x.2.2.2.2.1.toNat x.2.2.2.1 y.2.2.2.2.1).1) ((linkZ x.2.2.2.2.1.toNat x.2.2.2.1 y.2.2.2.2.1).2))])
def g_make_Item : G := ⟨TYs, [], 62, EL [(16, sp_make_Dice_Next), (23, sp_make_Dice_Of)], keeps, (Ls [L_make_Item_0]), IL [], RL []⟩
def b_make_Item_0 (x6 : Int) (x7 : Int) (y4 : Item) (y5_0 : ByteArray) (y5_1 : Int) (y5_2 : Int) (y5_4 : Int) (y20503 : (List Link)) (y50000 : Dice) : Option (Exit × VS) :=
  br ((igt x7 0))
    (br ((nextOk y50000 6))
      (br (cIx ([(2, (0, ())), (1, (0, ())), (5, (2048, ())), (16, (128, ())), (3, (0, ())), (15, (168, ()))]) (dval y50000 6))
        (br (cApp y20503 ([(((lgt tyKeep ([(2, (0, ())), (1, (0, ())), (5, (2048, ())), (16, (128, ())), (3, (0, ())), (15, (168, ()))]) (Int.toNat (dval y50000 6))).1, (((lgt tyKeep ([(2, (0, ())), (1, (0, ())), (5, (2048, ())), (16, (128, ())), (3, (0, ())), (15, (168, ()))]) (Int.toNat (dval y50000 6))).2).1, ())), (x6, ()))]) 24)
          (br ((ofOk (dnext y50000 6) ([5, 30, 0, 100])))
            (some (.normal, st_make_Item_0 (iadd .i64 (iadd .i64 x6 1) (dof (dnext y50000 6) ([5, 30, 0, 100]))) (isub .i64 x7 1) y4 y5_0 y5_1 y5_2 y5_4 (y20503 ++ ([(((lgt tyKeep ([(2, (0, ())), (1, (0, ())), (5, (2048, ())), (16, (128, ())), (3, (0, ())), (15, (168, ()))]) (Int.toNat (dval y50000 6))).1, (((lgt tyKeep ([(2, (0, ())), (1, (0, ())), (5, (2048, ())), (16, (128, ())), (3, (0, ())), (15, (168, ()))]) (Int.toNat (dval y50000 6))).2).1, ())), (x6, ()))])) (dofN (dnext y50000 6) ([5, 30, 0, 100]))))
            (none))
          (none))
        (none))
      (none))
    (some (.exit 0, st_make_Item_0_e0 y4 y5_0 y5_1 y5_2 y5_4 y20503 y50000))
noncomputable def lp_make_Item_0 (x6 : Int) (x7 : Int) (y4 : Item) (y5_0 : ByteArray) (y5_1 : Int) (y5_2 : Int) (y5_4 : Int) (y20503 : (List Link)) (y50000 : Dice) : Option (Exit × VS) := loopF (roundF g_make_Item fg_make_Item_0 tb_make_Item_0) (st_make_Item_0 x6 x7 y4 y5_0 y5_1 y5_2 y5_4 y20503 y50000)
noncomputable def n_make_Item_0 (x6 : Int) (x7 : Int) (y4 : Item) (y5_0 : ByteArray) (y5_1 : Int) (y5_2 : Int) (y5_4 : Int) (y20503 : (List Link)) (y50000 : Dice) : Option (Exit × VS) :=
  br ((igt x7 0))
    (br ((nextOk y50000 6))
      (br (cIx ([(2, (0, ())), (1, (0, ())), (5, (2048, ())), (16, (128, ())), (3, (0, ())), (15, (168, ()))]) (dval y50000 6))
        (br (cApp y20503 ([(((lgt tyKeep ([(2, (0, ())), (1, (0, ())), (5, (2048, ())), (16, (128, ())), (3, (0, ())), (15, (168, ()))]) (Int.toNat (dval y50000 6))).1, (((lgt tyKeep ([(2, (0, ())), (1, (0, ())), (5, (2048, ())), (16, (128, ())), (3, (0, ())), (15, (168, ()))]) (Int.toNat (dval y50000 6))).2).1, ())), (x6, ()))]) 24)
          (br ((ofOk (dnext y50000 6) ([5, 30, 0, 100])))
            (lp_make_Item_0 (iadd .i64 (iadd .i64 x6 1) (dof (dnext y50000 6) ([5, 30, 0, 100]))) (isub .i64 x7 1) y4 y5_0 y5_1 y5_2 y5_4 (y20503 ++ ([(((lgt tyKeep ([(2, (0, ())), (1, (0, ())), (5, (2048, ())), (16, (128, ())), (3, (0, ())), (15, (168, ()))]) (Int.toNat (dval y50000 6))).1, (((lgt tyKeep ([(2, (0, ())), (1, (0, ())), (5, (2048, ())), (16, (128, ())), (3, (0, ())), (15, (168, ()))]) (Int.toNat (dval y50000 6))).2).1, ())), (x6, ()))])) (dofN (dnext y50000 6) ([5, 30, 0, 100])))
            (none))
          (none))
        (none))
      (none))
    (some (.exit 0, st_make_Item_0_e0 y4 y5_0 y5_1 y5_2 y5_4 y20503 y50000))
def la_make_Item_0 (x6 : Int) (x7 : Int) (y4 : Item) (y5_0 : ByteArray) (y5_1 : Int) (y5_2 : Int) (y5_4 : Int) (y20503 : (List Link)) (y50000 : Dice) : Option (Exit × VS) := some (.exit 0, st_make_Item_0_e0 (y4) (y5_0) (y5_1) (y5_2) (y5_4) (y20503 ++ (linkZ x7.toNat x6 y50000).1) ((linkZ x7.toNat x6 y50000).2))
theorem be_make_Item_0 (x6 : Int) (x7 : Int) (y4 : Item) (y5_0 : ByteArray) (y5_1 : Int) (y5_2 : Int) (y5_4 : Int) (y20503 : (List Link)) (y50000 : Dice) : roundF g_make_Item fg_make_Item_0 tb_make_Item_0 (st_make_Item_0 x6 x7 y4 y5_0 y5_1 y5_2 y5_4 y20503 y50000) = b_make_Item_0 x6 x7 y4 y5_0 y5_1 y5_2 y5_4 y20503 y50000 := by kernel_rfl
theorem ln_make_Item_0 (x6 : Int) (x7 : Int) (y4 : Item) (y5_0 : ByteArray) (y5_1 : Int) (y5_2 : Int) (y5_4 : Int) (y20503 : (List Link)) (y50000 : Dice) : lp_make_Item_0 x6 x7 y4 y5_0 y5_1 y5_2 y5_4 y20503 y50000 = n_make_Item_0 x6 x7 y4 y5_0 y5_1 y5_2 y5_4 y20503 y50000 := (loopF_nxt _ _).trans (by
  rw [be_make_Item_0]
  simp only [b_make_Item_0, n_make_Item_0, nxt_br, nxt_n, nxt_r, nxt_e, nxt_0]
  rfl)
def r_make_Item (d0 : Dice) (p1 : ByteArray) : Option (V × List VO) :=
  br ((nextOk d0 2))
    (br ((nextOk (dnext d0 2) 4))
      (br ((nextOk (dnext (dnext d0 2) 4) 20))
        (br ((nextOk (dnext (dnext (dnext d0 2) 4) 20) 3))
          (br ((dOk (dnext (dnext (dnext (dnext d0 2) 4) 20) 3) && decide (0 ≤ (iadd .i64 1 (dval (dnext (dnext (dnext d0 2) 4) 20) 3)) ∧ (iadd .i64 1 (dval (dnext (dnext (dnext d0 2) 4) 20) 3)) ≤ 100 ∧ ([] : List Link).length + (iadd .i64 1 (dval (dnext (dnext (dnext d0 2) 4) 20) 3)).toNat ≤ 1000)))
            (br (cIx (([] : List Link) ++ (linkZ (iadd .i64 1 (dval (dnext (dnext (dnext d0 2) 4) 20) 3)).toNat (dval (dnext (dnext d0 2) 4) 20) (dnext (dnext (dnext (dnext d0 2) 4) 20) 3)).1) 0)
              (br (cLd (([] : List Link) ++ (linkZ (iadd .i64 1 (dval (dnext (dnext (dnext d0 2) 4) 20) 3)).toNat (dval (dnext (dnext d0 2) 4) 20) (dnext (dnext (dnext (dnext d0 2) 4) 20) 3)).1) (Int.toNat 0))
                (br ((ofOk ((linkZ (iadd .i64 1 (dval (dnext (dnext (dnext d0 2) 4) 20) 3)).toNat (dval (dnext (dnext d0 2) 4) 20) (dnext (dnext (dnext (dnext d0 2) 4) 20) 3)).2) ([50, 300, 0, 3000])))
                  (some (.t tyItem ((p1), (((iadd .i64 1 (dval d0 2))), (((iadd .i64 1 (dval (dnext d0 2) 4))), ((([] : List Link) ++ (linkZ (iadd .i64 1 (dval (dnext (dnext (dnext d0 2) 4) 20) 3)).toNat (dval (dnext (dnext d0 2) 4) 20) (dnext (dnext (dnext (dnext d0 2) 4) 20) 3)).1), ((iadd .i64 (((lgt tyLink (([] : List Link) ++ (linkZ (iadd .i64 1 (dval (dnext (dnext (dnext d0 2) 4) 20) 3)).toNat (dval (dnext (dnext d0 2) 4) 20) (dnext (dnext (dnext (dnext d0 2) 4) 20) 3)).1) (Int.toNat 0)).2).1) (dof ((linkZ (iadd .i64 1 (dval (dnext (dnext (dnext d0 2) 4) 20) 3)).toNat (dval (dnext (dnext d0 2) 4) 20) (dnext (dnext (dnext (dnext d0 2) 4) 20) 3)).2) ([50, 300, 0, 3000]))), ()))))), [.box (.t tyDice (dofN ((linkZ (iadd .i64 1 (dval (dnext (dnext (dnext d0 2) 4) 20) 3)).toNat (dval (dnext (dnext d0 2) 4) 20) (dnext (dnext (dnext (dnext d0 2) 4) 20) 3)).2) ([50, 300, 0, 3000])))]))
                  (none))
                (none))
              (none))
            (none))
          (none))
        (none))
      (none))
    (none)
theorem e_make_Item (d0 : Dice) (p1 : ByteArray) : runF g_make_Item tc_make_Item rv_make_Item false [.ptr 50000 0, .t .str p1] [.box (.t tyDice d0)] = r_make_Item d0 p1 := by kernel_rfl
theorem ok_make_Item : Option.map (trC Try.prog) Try.f11.body = some tc_make_Item.er := by kernel_rfl
theorem rok_make_Item : trVs Try.prog Try.f11.results.toList = some (rv_make_Item.map Prod.fst) := by kernel_rfl
theorem en_make_Item : Entered Try.prog 11 := .inr ⟨by decide, _, Try.func11, by kernel_rfl, by kernel_rfl⟩
theorem gk_make_Item : GOk Try.prog g_make_Item := gok_of _ (by
  intro p hp
  simp only [List.mem_cons, List.not_mem_nil, or_false] at hp
  rcases hp with rfl | rfl
  · exact ⟨en_make_Dice_Next, ms_make_Dice_Next⟩
  · exact ⟨en_make_Dice_Of, ms_make_Dice_Of⟩)
theorem l_make_Item_0 (x6 : Int) (x7 : Int) (y4 : Item) (y5_0 : ByteArray) (y5_1 : Int) (y5_2 : Int) (y5_4 : Int) (y20503 : (List Link)) (y50000 : Dice) (h : (dOk y50000 && decide (0 ≤ x7 ∧ x7 ≤ 100 ∧ y20503.length + x7.toNat ≤ 1000)) = true) : lp_make_Item_0 x6 x7 y4 y5_0 y5_1 y5_2 y5_4 y20503 y50000 = la_make_Item_0 x6 x7 y4 y5_0 y5_1 y5_2 y5_4 y20503 y50000 := by
  simp only [Bool.and_eq_true, decide_eq_true_eq] at h
  obtain ⟨hd, h1, h2q, h3⟩ := h
  obtain ⟨k, rfl⟩ := Int.eq_ofNat_of_zero_le h1
  rw [Int.toNat_natCast] at h3
  have h2 : k ≤ 100 := by omega
  clear h1 h2q
  induction k generalizing y20503 y50000 x6 with
  | zero =>
    rw [ln_make_Item_0]
    have e1 : igt ((0 : Nat) : Int) 0 = false := rfl
    simp only [n_make_Item_0, e1, br_false, la_make_Item_0, Int.toNat_natCast, linkZ, List.append_nil]
  | succ k ih =>
    rw [ln_make_Item_0]
    have e1 : igt ((k + 1 : Nat) : Int) 0 = true := by simp only [igt, decide_eq_true_eq]; omega
    have e2 : isub .i64 ((k + 1 : Nat) : Int) 1 = (k : Int) := by rw [isub_in (by omega)]; omega
    have hv := dval_lt (d := y50000) (n := 6) (by omega)
    have hc : cIx useL (dval y50000 6) = true := by
      have : useL.length = 6 := rfl
      simp only [cIx, decide_eq_true_eq]
      omega
    have hla : la_make_Item_0 x6 ((k + 1 : Nat) : Int) y4 y5_0 y5_1 y5_2 y5_4 y20503 y50000 = la_make_Item_0 (iadd .i64 (iadd .i64 x6 1) (dof (dnext y50000 6) [5, 30, 0, 100])) (k : Int) y4 y5_0 y5_1 y5_2 y5_4 (y20503 ++ [(lgt tyKeep useL (dval y50000 6).toNat, (x6, ()))]) (dofN (dnext y50000 6) [5, 30, 0, 100]) := by
      simp only [la_make_Item_0, Int.toNat_natCast, linkZ, List.append_assoc]
      rfl
    rw [hla, ← ih _ _ _ (dOk_of (dOk_next hd)) (by simp; omega) (by omega)]
    have n6 : nextOk y50000 6 = true := by simp [nextOk, hd]
    have f1 : ofOk (dnext y50000 6) [5, 30, 0, 100] = true := by simp [ofOk, dOk_next hd]
    simp only [n_make_Item_0, e1, e2, n6, f1, br_true, show ([(2, (0, ())), (1, (0, ())), (5, (2048, ())), (16, (128, ())), (3, (0, ())), (15, (168, ()))] : List Keep) = useL from rfl, hc]
    rw [cApp_ok (by simp; omega) (by omega), br_true]
    show br (cIx useL (dval y50000 6)) _ _ = _
    rw [hc, br_true]
theorem lo_make_Item_0 : ∀ S l p, g_make_Item.L 0 (fgt fg_make_Item_0 S) = some (true, l) → pickA l = some p → loopF (roundF g_make_Item fg_make_Item_0 tb_make_Item_0) S = some p :=
  lok_of (s := sh_make_Item_0) ⟨by decide, by decide⟩ (by kernel_rfl) fun x y hok p hp => by
  simp only [pickA_br, pickA_one] at hp
  exact (l_make_Item_0 x.2.2.2.1 x.2.2.2.2.1 y.1 y.2.1.1 y.2.1.2.1 y.2.1.2.2.1 y.2.1.2.2.2.2.1 y.2.2.2.1 y.2.2.2.2.1 (by simpa using hok)).trans hp
theorem lk_make_Item : tc_make_Item.lok g_make_Item := by
  repeat (first | exact trivial | exact lo_make_Item_0 | refine ⟨?_, ?_⟩)
theorem s_make_Item (d : Dice) (s : ByteArray) (h : dOkS d s = true) : r_make_Item d s = some (.t tyItem (itemV d s), [.box (.t tyDice (itemN d s))]) := by
  have h : dOk d = true := h
  have n2 : nextOk d 2 = true := by simp [nextOk, h]
  have n4 : nextOk (dnext d 2) 4 = true := by simp [nextOk, dOk_next h]
  have n20 : nextOk (dnext (dnext d 2) 4) 20 = true := by simp [nextOk, dOk_next (dOk_next h)]
  have n3 : nextOk (dnext (dnext (dnext d 2) 4) 20) 3 = true := by simp [nextOk, dOk_next (dOk_next (dOk_next h))]
  have b3 := dval_lt (d := dnext (dnext (dnext d 2) 4) 20) (n := 3) (by omega)
  have e3 : iadd .i64 1 (dval (dnext (dnext (dnext d 2) 4) 20) 3) = 1 + dval (dnext (dnext (dnext d 2) 4) 20) 3 := iadd_in (by omega)
  have hl := link_len (iadd .i64 1 (dval (dnext (dnext (dnext d 2) 4) 20) 3)).toNat (dval (dnext (dnext d 2) 4) 20) (itD3 d)
  have hd3 : dOk (itD3 d) = true := dOk_next (dOk_next (dOk_next (dOk_next h)))
  have hL : dOk (itLk d).2 = true := dOk_itLk h
  have f5 : ofOk (itLk d).2 [50, 300, 0, 3000] = true := by simp [ofOk, hL]
  have hlen : 0 < (itLk d).1.length := by
    show 0 < (linkZ _ _ _).1.length
    rw [hl]
    omega
  have c1 : cIx (itLk d).1 0 = true := by simp only [cIx, decide_eq_true_eq]; omega
  have c2 : cLd (itLk d).1 (Int.toNat 0) = true := by simp only [cLd, decide_eq_true_eq]; exact hlen
  simp only [r_make_Item, n2, n4, n20, n3, br_true, List.nil_append, show dnext (dnext (dnext (dnext d 2) 4) 20) 3 = itD3 d from rfl, hd3, Bool.true_and]
  rw [dec_true ⟨by omega, by omega, by simp; omega⟩, br_true]
  simp only [show linkZ (iadd .i64 1 (dval (dnext (dnext (dnext d 2) 4) 20) 3)).toNat (dval (dnext (dnext d 2) 4) 20) (itD3 d) = itLk d from rfl, c1, c2, f5, br_true]
  rfl
def sp_make_Item : Ent := specP tyDice (.pr .str .nil) (fun d x => (dOkS d x.1)) (fun d x => (.t tyItem (itemV d x.1))) (fun d x => (itemN d x.1))
theorem ms_make_Item : Meets Try.prog 11 (strip sp_make_Item) := by
  obtain ⟨c, hc, hi⟩ := Option.map_eq_some_iff.1 ok_make_Item
  exact meets_specP (R := runF g_make_Item tc_make_Item rv_make_Item false) (meets_of (by decide) Try.func11 hc hi Try.ntmps11 rok_make_Item gk_make_Item lk_make_Item mixed) rfl fun d x hok => (e_make_Item d x.1).trans (s_make_Item d x.1 hok)
end Go.Proofs.Ytfehjdaielifiaa.K
