/-
 Items out of dice: mk.Item.
-/
import Derived.Test.YtfehjdaielifiaaGreatM3
set_option linter.unusedSimpArgs false
set_option linter.unusedVariables false
namespace Go.Proofs.YtfehjdaielifiaaGreat.K
open Go.RowKit
def dr_f32_0 : List DO := [(.mk (oP 51 (.fa 3 (.t 5))) []), (.mk (oL 52 51) [0]), (.mk (oP 53 (.ix 3 (.t 52) (cI 0))) [1]), (.mk (oP 54 (.fa 2 (.t 53))) [2]), (.mk (oL 55 54) [3]), (.mk (oV 56 0) []), (.mk (oM 57 (.bs 3 1 4 [(.v (.int .i64 0)), (.v (.int .i64 0)), (.v (.int .i64 0)), (.v (.int .i64 0))] [(0, 1, (cI 50)), (1, 1, (cI 300)), (2, 1, (cI 0)), (3, 1, (cI 3000))])) []), (.mk (oC 58 22 [(.t 56), (.t 57)]) [5, 6]), (.mk (oP 59 (.bin false .add (.t 55) (.t 58))) [4, 7]), (.mk (oP 60 (.fa 4 (.t 5))) [0, 1, 2, 3, 4, 5, 6, 7, 8]), (.mk (.mk none none (.m (.st 1 (.t 60) (.t 59)))) [9, 8, 7, 0, 1, 2, 3, 4, 5, 6, 7, 8])]
def fg_f32_0 : Fg := ⟨[(0, none), (4, none), (5, none), (6, some tI), (7, some tI)], [(4, some tyItem), (5, none), (43, none), (20503, none), (50000, some tyDice)]⟩
def tb_f32_0 : TC := (.sq (.sq (.reg [(oV 22 7), (oP 23 (.bin false .gtr (.t 22) (cI 0)))]) (.cd (.t 23) .sk (.fg ⟨[(0, none), (4, none), (5, none)], [(4, some tyItem), (5, some tyItem), (43, none), (20503, none), (50000, some tyDice)]⟩ (.ex 0)))) (.sq (.bk 1 (.sq (.reg [(oP 26 (.bd [(.v (.int .i64 0)), (.v (.int .i64 0))] [(0, 1, (cI 2))])), (oP 27 (.bd [(.v (.int .i64 0)), (.v (.int .i64 0))] [(0, 1, (cI 1))])), (oP 28 (.bd [(.v (.int .i64 0)), (.v (.int .i64 0))] [(0, 1, (cI 5)), (1, 1, (cI 2048))])), (oP 29 (.bd [(.v (.int .i64 0)), (.v (.int .i64 0))] [(0, 1, (cI 16)), (1, 1, (cI 128))])), (oP 30 (.bd [(.v (.int .i64 0)), (.v (.int .i64 0))] [(0, 1, (cI 3))])), (oP 31 (.bd [(.v (.int .i64 0)), (.v (.int .i64 0))] [(0, 1, (cI 15)), (1, 1, (cI 168))])), (oM 32 (.bs 40 2 6 [(.v (.int .i64 0)), (.v (.int .i64 0)), (.v (.int .i64 0)), (.v (.int .i64 0)), (.v (.int .i64 0)), (.v (.int .i64 0)), (.v (.int .i64 0)), (.v (.int .i64 0)), (.v (.int .i64 0)), (.v (.int .i64 0)), (.v (.int .i64 0)), (.v (.int .i64 0))] [(0, 2, (.t 26)), (2, 2, (.t 27)), (4, 2, (.t 28)), (6, 2, (.t 29)), (8, 2, (.t 30)), (10, 2, (.t 31))])), (oV 33 0), (oC 34 47 [(.t 33), (cI 6)]), (oP 35 (.ix 2 (.t 32) (.t 34))), (oM 36 (.ld true 2 (.t 35))), (oM 8 (.new [(.v (.int .i64 0)), (.v (.int .i64 0))])), (.mk none none (.m (.st 2 (.t 8) (.t 36))))]) (.sq (.reg [(oP 37 (.fa 3 (.t 5))), (oL 38 37), (oM 39 (.ld true 2 (.t 8))), (oV 40 6), (oP 41 (.bd [(.v (.int .i64 0)), (.v (.int .i64 0)), (.v (.int .i64 0))] [(0, 2, (.t 39)), (2, 1, (.t 40))])), (oM 42 (.bs 62 3 1 [(.v (.int .i64 0)), (.v (.int .i64 0)), (.v (.int .i64 0))] [(0, 3, (.t 41))])), (oM 43 (.app 62 3 24 (.t 38) (.t 42))), (oP 44 (.fa 3 (.t 5))), (.mk none none (.m (.st 1 (.t 44) (.t 43))))]) (.reg [(oV 45 6), (oP 46 (.bin false .add (.t 45) (cI 1))), (oV 47 0), (oM 48 (.bs 3 1 4 [(.v (.int .i64 0)), (.v (.int .i64 0)), (.v (.int .i64 0)), (.v (.int .i64 0))] [(0, 1, (cI 5)), (1, 1, (cI 30)), (2, 1, (cI 0)), (3, 1, (cI 100))])), (oC 49 22 [(.t 47), (.t 48)]), (oP 50 (.bin false .add (.t 46) (.t 49))), (oV 6 50)])))) (.reg [(oV 24 7), (oP 25 (.bin false .sub (.t 24) (cI 1))), (oV 7 25)])))
def tc_f32 : TC := (.sq (.reg [(oM 4 (.new [(.v (.string (ByteArray.mk #[]))), (.v (.int .i64 0)), (.v (.int .i64 0)), (.v (.slice none 0 0)), (.v (.int .i64 0))]))]) (.sq (.reg [(oV 9 1), (oV 10 0), (oC 11 47 [(.t 10), (cI 2)]), (oP 12 (.bin false .add (cI 1) (.t 11))), (oV 13 0), (oC 14 47 [(.t 13), (cI 4)]), (oP 15 (.bin false .add (cI 1) (.t 14))), (oP 16 (.bd [(.v (.string (ByteArray.mk #[]))), (.v (.int .i64 0)), (.v (.int .i64 0)), (.v (.slice none 0 0)), (.v (.int .i64 0))] [(0, 1, (.t 9)), (1, 1, (.t 12)), (2, 1, (.t 15))])), (oM 5 (.new [(.v (.string (ByteArray.mk #[]))), (.v (.int .i64 0)), (.v (.int .i64 0)), (.v (.slice none 0 0)), (.v (.int .i64 0))])), (.mk none none (.m (.st 5 (.t 5) (.t 16))))]) (.sq (.reg [(oV 17 0), (oC 18 47 [(.t 17), (cI 20)]), (oV 6 18)]) (.sq (.sq (.reg [(oV 19 0), (oC 20 47 [(.t 19), (cI 3)]), (oP 21 (.bin false .add (cI 1) (.t 20))), (oV 7 21)]) (.bk 0 (.nf 5 3 62 20503 (.lp 0 fg_f32_0 tb_f32_0)))) (.sq (.dr dr_f32_0 [(0, [5, 43, 20503]), (1, [5, 43, 20503]), (2, [43, 20503]), (3, [43, 20503]), (4, [43, 20503]), (5, [50000]), (6, []), (7, [58, 5058, 10058, 15058, 50000]), (8, []), (9, [5, 43, 20503]), (10, [4, 5, 43, 20503])] (.of [0, 1, 2, 3, 4, 5, 6, 7, 8, 9, 10])) (.sq (.reg [(oM 61 (.ld true 5 (.t 5))), (.mk none none (.m (.st 5 (.t 4) (.t 61))))]) .rt))))))
def rv_f32 : List (RV × Option Ty) := [((.c 4 true 5), some tyItem)]
abbrev sh_f32_0 : Sh := ⟨[(0, .ptr 50000 0), (4, .ptr 4 0), (5, .ptr 5 0), (6, .ty tI), (7, .ty tI)], [(4, .box tyItem), (5, .bag [.ty .str, .ty tI, .ty tI, .ms 20503, .ty tI]), (43, .no), (20503, .arr 62 tyLink), (50000, .box tyDice)]⟩
def st_f32_0 (x6 : Int) (x7 : Int) (y4 : Item) (y5_0 : ByteArray) (y5_1 : Int) (y5_2 : Int) (y5_4 : Int) (y20503 : (List Link)) (y50000 : Dice) : VS := sh_f32_0.st ((), (), (), x6, x7, ()) (y4, (y5_0, y5_1, y5_2, (), y5_4, ()), (), y20503, y50000, ())
abbrev sh_f32_0_e0 : Sh := ⟨[(0, .ptr 50000 0), (4, .ptr 4 0), (5, .ptr 5 0)], [(4, .box tyItem), (5, .bag [.ty .str, .ty tI, .ty tI, .ms 20503, .ty tI]), (43, .no), (20503, .arr 62 tyLink), (50000, .box tyDice)]⟩
def st_f32_0_e0 (y4 : Item) (y5_0 : ByteArray) (y5_1 : Int) (y5_2 : Int) (y5_4 : Int) (y20503 : (List Link)) (y50000 : Dice) : VS := sh_f32_0_e0.st ((), (), (), ()) (y4, (y5_0, y5_1, y5_2, (), y5_4, ()), (), y20503, y50000, ())
-- loop 0: (x6 : Int) (x7 : Int) (y4 : Item) (y5_0 : ByteArray) (y5_1 : Int) (y5_2 : Int) (y5_4 : Int) (y20503 : (List Link)) (y50000 : Dice); out: ('exit', 0) (y4 : Item) (y5_0 : ByteArray) (y5_1 : Int) (y5_2 : Int) (y5_4 : Int) (y20503 : (List Link)) (y50000 : Dice)
def L_f32_0 : VS → Option (Bool × List (Bool × Exit × VS)) := mkL sh_f32_0 (fun x y => (dOk y.2.2.2.2.1 && decide (0 ≤ x.2.2.2.2.1 ∧ x.2.2.2.2.1 ≤ 100 ∧ y.2.2.2.1.length + x.2.2.2.2.1.toNat ≤ 1000))) (fun x y => [(true, .exit 0, st_f32_0_e0 (y.1) (y.2.1.1) (y.2.1.2.1) (y.2.1.2.2.1) (y.2.1.2.2.2.2.1) (y.2.2.2.1 ++ (linkZ x.2.2.2.2.1.toNat x.2.2.2.1 y.2.2.2.2.1).1) ((linkZ x.2.2.2.2.1.toNat x.2.2.2.1 y.2.2.2.2.1).2))])
def g_f32 : G := ⟨TYs, [], 62, EL [(22, sp_f22), (47, sp_f47)], keeps, (Ls [L_f32_0]), IL [], RL []⟩
def b_f32_0 (x6 : Int) (x7 : Int) (y4 : Item) (y5_0 : ByteArray) (y5_1 : Int) (y5_2 : Int) (y5_4 : Int) (y20503 : (List Link)) (y50000 : Dice) : Option (Exit × VS) :=
 br ((igt x7 0))
  (br ((nextOk y50000 6))
   (br (cIx ([(2, (0, ())), (1, (0, ())), (5, (2048, ())), (16, (128, ())), (3, (0, ())), (15, (168, ()))]) (dval y50000 6))
    (br (cApp y20503 ([(((lgt tyKeep ([(2, (0, ())), (1, (0, ())), (5, (2048, ())), (16, (128, ())), (3, (0, ())), (15, (168, ()))]) (Int.toNat (dval y50000 6))).1, (((lgt tyKeep ([(2, (0, ())), (1, (0, ())), (5, (2048, ())), (16, (128, ())), (3, (0, ())), (15, (168, ()))]) (Int.toNat (dval y50000 6))).2).1, ())), (x6, ()))]) 24)
     (br ((ofOk (dnext y50000 6) ([5, 30, 0, 100])))
      (some (.normal, st_f32_0 (iadd .i64 (iadd .i64 x6 1) (dof (dnext y50000 6) ([5, 30, 0, 100]))) (isub .i64 x7 1) y4 y5_0 y5_1 y5_2 y5_4 (y20503 ++ ([(((lgt tyKeep ([(2, (0, ())), (1, (0, ())), (5, (2048, ())), (16, (128, ())), (3, (0, ())), (15, (168, ()))]) (Int.toNat (dval y50000 6))).1, (((lgt tyKeep ([(2, (0, ())), (1, (0, ())), (5, (2048, ())), (16, (128, ())), (3, (0, ())), (15, (168, ()))]) (Int.toNat (dval y50000 6))).2).1, ())), (x6, ()))])) (dofN (dnext y50000 6) ([5, 30, 0, 100]))))
      (none))
     (none))
    (none))
   (none))
  (some (.exit 0, st_f32_0_e0 y4 y5_0 y5_1 y5_2 y5_4 y20503 y50000))
noncomputable def lp_f32_0 (x6 : Int) (x7 : Int) (y4 : Item) (y5_0 : ByteArray) (y5_1 : Int) (y5_2 : Int) (y5_4 : Int) (y20503 : (List Link)) (y50000 : Dice) : Option (Exit × VS) := loopF (roundF g_f32 fg_f32_0 tb_f32_0) (st_f32_0 x6 x7 y4 y5_0 y5_1 y5_2 y5_4 y20503 y50000)
noncomputable def n_f32_0 (x6 : Int) (x7 : Int) (y4 : Item) (y5_0 : ByteArray) (y5_1 : Int) (y5_2 : Int) (y5_4 : Int) (y20503 : (List Link)) (y50000 : Dice) : Option (Exit × VS) :=
 br ((igt x7 0))
  (br ((nextOk y50000 6))
   (br (cIx ([(2, (0, ())), (1, (0, ())), (5, (2048, ())), (16, (128, ())), (3, (0, ())), (15, (168, ()))]) (dval y50000 6))
    (br (cApp y20503 ([(((lgt tyKeep ([(2, (0, ())), (1, (0, ())), (5, (2048, ())), (16, (128, ())), (3, (0, ())), (15, (168, ()))]) (Int.toNat (dval y50000 6))).1, (((lgt tyKeep ([(2, (0, ())), (1, (0, ())), (5, (2048, ())), (16, (128, ())), (3, (0, ())), (15, (168, ()))]) (Int.toNat (dval y50000 6))).2).1, ())), (x6, ()))]) 24)
     (br ((ofOk (dnext y50000 6) ([5, 30, 0, 100])))
      (lp_f32_0 (iadd .i64 (iadd .i64 x6 1) (dof (dnext y50000 6) ([5, 30, 0, 100]))) (isub .i64 x7 1) y4 y5_0 y5_1 y5_2 y5_4 (y20503 ++ ([(((lgt tyKeep ([(2, (0, ())), (1, (0, ())), (5, (2048, ())), (16, (128, ())), (3, (0, ())), (15, (168, ()))]) (Int.toNat (dval y50000 6))).1, (((lgt tyKeep ([(2, (0, ())), (1, (0, ())), (5, (2048, ())), (16, (128, ())), (3, (0, ())), (15, (168, ()))]) (Int.toNat (dval y50000 6))).2).1, ())), (x6, ()))])) (dofN (dnext y50000 6) ([5, 30, 0, 100])))
      (none))
     (none))
    (none))
   (none))
  (some (.exit 0, st_f32_0_e0 y4 y5_0 y5_1 y5_2 y5_4 y20503 y50000))
def la_f32_0 (x6 : Int) (x7 : Int) (y4 : Item) (y5_0 : ByteArray) (y5_1 : Int) (y5_2 : Int) (y5_4 : Int) (y20503 : (List Link)) (y50000 : Dice) : Option (Exit × VS) := some (.exit 0, st_f32_0_e0 (y4) (y5_0) (y5_1) (y5_2) (y5_4) (y20503 ++ (linkZ x7.toNat x6 y50000).1) ((linkZ x7.toNat x6 y50000).2))
theorem be_f32_0 (x6 : Int) (x7 : Int) (y4 : Item) (y5_0 : ByteArray) (y5_1 : Int) (y5_2 : Int) (y5_4 : Int) (y20503 : (List Link)) (y50000 : Dice) : roundF g_f32 fg_f32_0 tb_f32_0 (st_f32_0 x6 x7 y4 y5_0 y5_1 y5_2 y5_4 y20503 y50000) = b_f32_0 x6 x7 y4 y5_0 y5_1 y5_2 y5_4 y20503 y50000 := by kernel_rfl
theorem ln_f32_0 (x6 : Int) (x7 : Int) (y4 : Item) (y5_0 : ByteArray) (y5_1 : Int) (y5_2 : Int) (y5_4 : Int) (y20503 : (List Link)) (y50000 : Dice) : lp_f32_0 x6 x7 y4 y5_0 y5_1 y5_2 y5_4 y20503 y50000 = n_f32_0 x6 x7 y4 y5_0 y5_1 y5_2 y5_4 y20503 y50000 := (loopF_nxt _ _).trans (by
 rw [be_f32_0]
 simp only [b_f32_0, n_f32_0, nxt_br, nxt_n, nxt_r, nxt_e, nxt_0]
 rfl)
def r_f32 (d0 : Dice) (p1 : ByteArray) : Option (V × List VO) :=
 br ((nextOk d0 2))
  (br ((nextOk (dnext d0 2) 4))
   (br ((nextOk (dnext (dnext d0 2) 4) 20))
    (br ((nextOk (dnext (dnext (dnext d0 2) 4) 20) 3))
     (br ((dOk (dnext (dnext (dnext (dnext d0 2) 4) 20) 3) && decide (0 ≤ (iadd .i64 1 (dval (dnext (dnext (dnext d0 2) 4) 20) 3)) ∧ (iadd .i64 1 (dval (dnext (dnext (dnext d0 2) 4) 20) 3)) ≤ 100 ∧ ([] : List Link).length + (iadd .i64 1 (dval (dnext (dnext (dnext d0 2) 4) 20) 3)).toNat ≤ 1000)))
      (br (cIx (([] : List Link) ++ (linkZ (iadd .i64 1 (dval (dnext (dnext (dnext d0 2) 4) 20) 3)).toNat (dval (dnext (dnext d0 2) 4) 20) (dnext (dnext (dnext (dnext d0 2) 4) 20) 3)).1) 0)
       (br (cLd (([] : List Link) ++ (linkZ (iadd .i64 1 (dval (dnext (dnext (dnext d0 2) 4) 20) 3)).toNat (dval (dnext (dnext d0 2) 4) 20) (dnext (dnext (dnext (dnext d0 2) 4) 20) 3)).1) (Int.toNat 0))
        (br ((ofOk ((linkZ (iadd .i64 1 (dval (dnext (dnext (dnext d0 2) 4) 20) 3)).toNat (dval (dnext (dnext d0 2) 4) 20) (dnext (dnext (dnext (dnext d0 2) 4) 20) 3)).2) ([50, 300, 0, 3000])))
         (some (.t tyItem ((p1), (((iadd .i64 1 (dval d0 2))), (((iadd .i64 1 (dval (dnext d0 2) 4))), ((([] : List Link) ++ (linkZ (iadd .i64 1 (dval (dnext (dnext (dnext d0 2) 4) 20) 3)).toNat (dval (dnext (dnext d0 2) 4) 20) (dnext (dnext (dnext (dnext d0 2) 4) 20) 3)).1), ((iadd .i64 (((lgt tyLink (([] : List Link) ++ (linkZ (iadd .i64 1 (dval (dnext (dnext (dnext d0 2) 4) 20) 3)).toNat (dval (dnext (dnext d0 2) 4) 20) (dnext (dnext (dnext (dnext d0 2) 4) 20) 3)).1) (Int.toNat 0)).2).1) (dof ((linkZ (iadd .i64 1 (dval (dnext (dnext (dnext d0 2) 4) 20) 3)).toNat (dval (dnext (dnext d0 2) 4) 20) (dnext (dnext (dnext (dnext d0 2) 4) 20) 3)).2) ([50, 300, 0, 3000]))), ()))))), [.box (.t tyDice (dofN ((linkZ (iadd .i64 1 (dval (dnext (dnext (dnext d0 2) 4) 20) 3)).toNat (dval (dnext (dnext d0 2) 4) 20) (dnext (dnext (dnext (dnext d0 2) 4) 20) 3)).2) ([50, 300, 0, 3000])))]))
         (none))
        (none))
       (none))
      (none))
     (none))
    (none))
   (none))
  (none)
theorem e_f32 (d0 : Dice) (p1 : ByteArray) : runF g_f32 tc_f32 rv_f32 false [.ptr 50000 0, .t .str p1] [.box (.t tyDice d0)] = r_f32 d0 p1 := by kernel_rfl
theorem ok_f32 : Option.map (trC Tryz.prog) Tryz.f32.body = some tc_f32.er := by kernel_rfl
theorem rok_f32 : trVs Tryz.prog Tryz.f32.results.toList = some (rv_f32.map Prod.fst) := by kernel_rfl
theorem en_f32 : Entered Tryz.prog 32 := .inr ⟨by decide, _, Tryz.func32, by kernel_rfl, by kernel_rfl⟩
theorem gk_f32 : GOk Tryz.prog g_f32 := gok_of _ (by
 intro p hp
 simp only [List.mem_cons, List.not_mem_nil, or_false] at hp
 rcases hp with rfl | rfl
 ·exact ⟨en_f22, ms_f22⟩
 ·exact ⟨en_f47, ms_f47⟩)
theorem l_f32_0 (x6 : Int) (x7 : Int) (y4 : Item) (y5_0 : ByteArray) (y5_1 : Int) (y5_2 : Int) (y5_4 : Int) (y20503 : (List Link)) (y50000 : Dice) (h : (dOk y50000 && decide (0 ≤ x7 ∧ x7 ≤ 100 ∧ y20503.length + x7.toNat ≤ 1000)) = true) : lp_f32_0 x6 x7 y4 y5_0 y5_1 y5_2 y5_4 y20503 y50000 = la_f32_0 x6 x7 y4 y5_0 y5_1 y5_2 y5_4 y20503 y50000 := by
 simp only [Bool.and_eq_true, decide_eq_true_eq] at h
 obtain ⟨hd, h1, h2q, h3⟩ := h
 obtain ⟨k, rfl⟩ := Int.eq_ofNat_of_zero_le h1
 rw [Int.toNat_natCast] at h3
 have h2 : k ≤ 100 := by omega
 clear h1 h2q
 induction k generalizing y20503 y50000 x6 with
 | zero =>
  rw [ln_f32_0]
  have e1 : igt ((0 : Nat) : Int) 0 = false := rfl
  simp only [n_f32_0, e1, br_false, la_f32_0, Int.toNat_natCast, linkZ, List.append_nil]
 | succ k ih =>
  rw [ln_f32_0]
  have e1 : igt ((k + 1 : Nat) : Int) 0 = true := by simp only [igt, decide_eq_true_eq]; omega
  have e2 : isub .i64 ((k + 1 : Nat) : Int) 1 = (k : Int) := by rw [isub_in (by omega)]; omega
  have hv := dval_lt (d := y50000) (n := 6) (by omega)
  have hc : cIx useL (dval y50000 6) = true := by
   have : useL.length = 6 := rfl
   simp only [cIx, decide_eq_true_eq]
   omega
  have hla : la_f32_0 x6 ((k + 1 : Nat) : Int) y4 y5_0 y5_1 y5_2 y5_4 y20503 y50000 = la_f32_0 (iadd .i64 (iadd .i64 x6 1) (dof (dnext y50000 6) [5, 30, 0, 100])) (k : Int) y4 y5_0 y5_1 y5_2 y5_4 (y20503 ++ [(lgt tyKeep useL (dval y50000 6).toNat, (x6, ()))]) (dofN (dnext y50000 6) [5, 30, 0, 100]) := by
   simp only [la_f32_0, Int.toNat_natCast, linkZ, List.append_assoc]
   rfl
  rw [hla, ← ih _ _ _ (dOk_of (dOk_next hd)) (by simp; omega) (by omega)]
  have n6 : nextOk y50000 6 = true := by simp [nextOk, hd]
  have f1 : ofOk (dnext y50000 6) [5, 30, 0, 100] = true := by simp [ofOk, dOk_next hd]
  simp only [n_f32_0, e1, e2, n6, f1, br_true, show ([(2, (0, ())), (1, (0, ())), (5, (2048, ())), (16, (128, ())), (3, (0, ())), (15, (168, ()))] : List Keep) = useL from rfl, hc]
  rw [cApp_ok (by simp; omega) (by omega), br_true]
  show br (cIx useL (dval y50000 6)) _ _ = _
  rw [hc, br_true]
theorem lo_f32_0 : ∀ S l p, g_f32.L 0 (fgt fg_f32_0 S) = some (true, l) → pickA l = some p → loopF (roundF g_f32 fg_f32_0 tb_f32_0) S = some p :=
 lok_of (s := sh_f32_0) ⟨by decide, by decide⟩ (by kernel_rfl) fun x y hok p hp => by
 simp only [pickA_br, pickA_one] at hp
 exact (l_f32_0 x.2.2.2.1 x.2.2.2.2.1 y.1 y.2.1.1 y.2.1.2.1 y.2.1.2.2.1 y.2.1.2.2.2.2.1 y.2.2.2.1 y.2.2.2.2.1 (by simpa using hok)).trans hp
theorem lk_f32 : tc_f32.lok g_f32 := by
 repeat (first | exact trivial | exact lo_f32_0 | refine ⟨?_, ?_⟩)
theorem s_f32 (d : Dice) (s : ByteArray) (h : dOkS d s = true) : r_f32 d s = some (.t tyItem (itemV d s), [.box (.t tyDice (itemN d s))]) := by
 have h : dOk d = true := h
 have n2 : nextOk d 2 = true := by simp [nextOk, h]
 have n4 : nextOk (dnext d 2) 4 = true := by simp [nextOk, dOk_next h]
 have n20 : nextOk (dnext (dnext d 2) 4) 20 = true := by simp [nextOk, dOk_next (dOk_next h)]
 have n3 : nextOk (dnext (dnext (dnext d 2) 4) 20) 3 = true := by simp [nextOk, dOk_next (dOk_next (dOk_next h))]
 have b3 := dval_lt (d := dnext (dnext (dnext d 2) 4) 20) (n := 3) (by omega)
 have e3 : iadd .i64 1 (dval (dnext (dnext (dnext d 2) 4) 20) 3) = 1 + dval (dnext (dnext (dnext d 2) 4) 20) 3 := iadd_in (by omega)
 have hl := link_len (iadd .i64 1 (dval (dnext (dnext (dnext d 2) 4) 20) 3)).toNat (dval (dnext (dnext d 2) 4) 20) (itD3 d)
 have hd3 : dOk (itD3 d) = true := dOk_next (dOk_next (dOk_next (dOk_next h)))
 have hL : dOk (itLk d).2 = true := dOk_itLk h
 have f5 : ofOk (itLk d).2 [50, 300, 0, 3000] = true := by simp [ofOk, hL]
 have hlen : 0 < (itLk d).1.length := by
  show 0 < (linkZ _ _ _).1.length
  rw [hl]
  omega
 have c1 : cIx (itLk d).1 0 = true := by simp only [cIx, decide_eq_true_eq]; omega
 have c2 : cLd (itLk d).1 (Int.toNat 0) = true := by simp only [cLd, decide_eq_true_eq]; exact hlen
 simp only [r_f32, n2, n4, n20, n3, br_true, List.nil_append, show dnext (dnext (dnext (dnext d 2) 4) 20) 3 = itD3 d from rfl, hd3, Bool.true_and]
 rw [dec_true ⟨by omega, by omega, by simp; omega⟩, br_true]
 simp only [show linkZ (iadd .i64 1 (dval (dnext (dnext (dnext d 2) 4) 20) 3)).toNat (dval (dnext (dnext d 2) 4) 20) (itD3 d) = itLk d from rfl, c1, c2, f5, br_true]
 rfl
def sp_f32 : Ent := specP tyDice (.pr .str .nil) (fun d x => (dOkS d x.1)) (fun d x => (.t tyItem (itemV d x.1))) (fun d x => (itemN d x.1))
theorem ms_f32 : Meets Tryz.prog 32 (strip sp_f32) := by
 obtain ⟨c, hc, hi⟩ := Option.map_eq_some_iff.1 ok_f32
 exact meets_specP (R := runF g_f32 tc_f32 rv_f32 false) (meets_of (by decide) Tryz.func32 hc hi Tryz.ntmps32 rok_f32 gk_f32 lk_f32 mixed) rfl fun d x hok => (e_f32 d x.1).trans (s_f32 d x.1 hok)
end Go.Proofs.YtfehjdaielifiaaGreat.K
