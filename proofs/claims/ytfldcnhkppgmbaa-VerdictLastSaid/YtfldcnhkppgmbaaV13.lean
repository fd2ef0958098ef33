/-
  The answer of verdict: sizes, alive, Dead.
-/
import Derived.Test.YtfldcnhkppgmbaaV12
set_option linter.unusedSimpArgs false
set_option linter.unusedVariables false
namespace Go.Proofs.Ytfldcnhkppgmbaa.K
open Go.RowKit
def base17 : List Int := [0, 40, 44, 65, 87, 112, 128, 160, 168, 224, 256, 384, 512, 521, 768, 1024, 16384]
def belows2 (l : List Rule) : List Int := l.flatMap fun r => [r.2.2.1, isub .i64 r.2.2.1 1]
def sizeZ (a : Int) (o l : List Int) : List Int := l.foldl (fun o b => if validF (a, (b, ())) then insL o b else o) o
def sizesR (y : Policy) (a : Int) : List Int := sizeZ a [] (base17 ++ belows2 y.1)
def szOk (y : Policy) (_a : Int) : Bool := polSmall y
def dr_ref18_sizes_0 : List DO := [(.mk (.mk (some 17) none (.m (.pu (.mv (.t 5))))) []), (.mk (.mk (some 18) none (.m (.pu (.fa 0 (.t 2))))) []), (.mk (.mk (some 19) none (.m (.ld false 1 (.t 18)))) [1]), (.mk (.mk (some 20) none (.m (.pu (.mv (.t 6))))) []), (.mk (.mk (some 21) none (.m (.pu (.ix 6 (.t 19) (.t 20))))) [2, 3]), (.mk (.mk (some 22) none (.m (.pu (.fa 2 (.t 21))))) [4]), (.mk (.mk (some 23) none (.m (.ld false 1 (.t 22)))) [5]), (.mk (.mk (some 24) none (.m (.pu (.fa 0 (.t 2))))) []), (.mk (.mk (some 25) none (.m (.ld false 1 (.t 24)))) [7]), (.mk (.mk (some 26) none (.m (.pu (.mv (.t 6))))) []), (.mk (.mk (some 27) none (.m (.pu (.ix 6 (.t 25) (.t 26))))) [8, 9]), (.mk (.mk (some 28) none (.m (.pu (.fa 2 (.t 27))))) [10]), (.mk (.mk (some 29) none (.m (.ld false 1 (.t 28)))) [11]), (.mk (.mk (some 30) none (.m (.pu (.bin false .sub (.t 29) (.c (.v (.int .i64 1))))))) [12]), (.mk (.mk (some 31) none (.m (.bs 3 1 2 [(.v (.int .i64 0)), (.v (.int .i64 0))] [(0, 1, (.t 23)), (1, 1, (.t 30))]))) [6, 13]), (.mk (.mk (some 32) none (.m (.app 3 1 8 (.t 17) (.t 31)))) [0, 14]), (.mk (.mk (some 5) none (.m (.pu (.mv (.t 32))))) [15, 15, 0, 1, 2, 3, 4, 5, 6, 7, 8, 9, 10, 11, 12, 13, 14, 15])]
def fg_ref18_sizes_0 : Fg := ⟨[(1, some tI), (2, none), (5, none), (6, some tI)], [(2, some tyPolicy), (5, none), (9, none), (32, none)]⟩
def tb_ref18_sizes_0 : TC := (.sq (.sq (.reg [(.mk (some 10) none (.m (.pu (.mv (.t 6))))), (.mk (some 11) none (.m (.pu (.fa 0 (.t 2))))), (.mk (some 12) none (.m (.ld false 1 (.t 11)))), (.mk (some 13) none (.m (.pu (.len false (.t 12))))), (.mk (some 14) none (.m (.pu (.bin false .lss (.t 10) (.t 13)))))]) (.cd (.t 14) .sk (.fg ⟨[(1, some tI), (5, none)], [(5, none), (9, none), (32, none)]⟩ (.ex 0)))) (.sq (.bk 1 (.dr dr_ref18_sizes_0 [(0, [5, 9, 32]), (1, [2]), (2, [2]), (3, []), (4, []), (5, []), (6, []), (7, [2]), (8, [2]), (9, []), (10, []), (11, []), (12, []), (13, []), (14, []), (15, [5, 9, 32, 5032, 10032, 15032]), (16, [5, 9, 32])] (.of [0, 1, 2, 3, 4, 5, 6, 7, 8, 9, 10, 11, 12, 13, 14, 15, 16]))) (.reg [(.mk (some 15) none (.m (.pu (.mv (.t 6))))), (.mk (some 16) none (.m (.pu (.bin false .add (.t 15) (.c (.v (.int .i64 1))))))), (.mk (some 6) none (.m (.pu (.mv (.t 16)))))])))
def fg_ref18_sizes_1 : Fg := ⟨[(1, some tI), (5, none), (7, some (.sl tI)), (8, some tI)], [(5, none), (9, none), (32, none)]⟩
def tb_ref18_sizes_1 : TC := (.sq (.sq (.reg [(.mk (some 33) none (.m (.pu (.mv (.t 8))))), (.mk (some 34) none (.m (.pu (.mv (.t 5))))), (.mk (some 35) none (.m (.pu (.len false (.t 34))))), (.mk (some 36) none (.m (.pu (.bin false .lss (.t 33) (.t 35)))))]) (.cd (.t 36) .sk (.fg ⟨[(7, some (.sl tI))], []⟩ (.ex 2)))) (.sq (.bk 3 (.sq (.reg [(.mk (some 39) none (.m (.pu (.mv (.t 1))))), (.mk (some 40) none (.m (.pu (.mv (.t 5))))), (.mk (some 41) none (.m (.pu (.mv (.t 8))))), (.mk (some 42) none (.m (.pu (.ix 1 (.t 40) (.t 41))))), (.mk (some 43) none (.m (.ld false 1 (.t 42)))), (.mk (some 44) none (.m (.pu (.bd [(.v (.int .i64 0)), (.v (.int .i64 0))] [(0, 1, (.t 39)), (1, 1, (.t 43))])))), (.mk (some 45) none (.call 37 [(.t 44)]))]) (.cd (.t 45) (.reg [(.mk (some 46) none (.m (.pu (.mv (.t 7))))), (.mk (some 47) none (.m (.pu (.mv (.t 5))))), (.mk (some 48) none (.m (.pu (.mv (.t 8))))), (.mk (some 49) none (.m (.pu (.ix 1 (.t 47) (.t 48))))), (.mk (some 50) none (.m (.ld false 1 (.t 49)))), (.mk (some 51) none (.call 67 [(.t 46), (.t 50)])), (.mk (some 7) none (.m (.pu (.mv (.t 51)))))]) .sk))) (.reg [(.mk (some 37) none (.m (.pu (.mv (.t 8))))), (.mk (some 38) none (.m (.pu (.bin false .add (.t 37) (.c (.v (.int .i64 1))))))), (.mk (some 8) none (.m (.pu (.mv (.t 38)))))])))
/-- cipherplan/cipherplanref18.sizes -/
def tc_ref18_sizes : TC := (.sq (.reg [(.mk (some 2) none (.m (.box (.t 0)))), (.mk (some 4) none (.m (.pu (.mv (.c (.v (.slice none 0 0)))))))]) (.sq (.reg [(.mk (some 9) none (.m (.bs 3 1 17 [(.v (.int .i64 0)), (.v (.int .i64 0)), (.v (.int .i64 0)), (.v (.int .i64 0)), (.v (.int .i64 0)), (.v (.int .i64 0)), (.v (.int .i64 0)), (.v (.int .i64 0)), (.v (.int .i64 0)), (.v (.int .i64 0)), (.v (.int .i64 0)), (.v (.int .i64 0)), (.v (.int .i64 0)), (.v (.int .i64 0)), (.v (.int .i64 0)), (.v (.int .i64 0)), (.v (.int .i64 0))] [(0, 1, (.c (.v (.int .i64 0)))), (1, 1, (.c (.v (.int .i64 40)))), (2, 1, (.c (.v (.int .i64 44)))), (3, 1, (.c (.v (.int .i64 65)))), (4, 1, (.c (.v (.int .i64 87)))), (5, 1, (.c (.v (.int .i64 112)))), (6, 1, (.c (.v (.int .i64 128)))), (7, 1, (.c (.v (.int .i64 160)))), (8, 1, (.c (.v (.int .i64 168)))), (9, 1, (.c (.v (.int .i64 224)))), (10, 1, (.c (.v (.int .i64 256)))), (11, 1, (.c (.v (.int .i64 384)))), (12, 1, (.c (.v (.int .i64 512)))), (13, 1, (.c (.v (.int .i64 521)))), (14, 1, (.c (.v (.int .i64 768)))), (15, 1, (.c (.v (.int .i64 1024)))), (16, 1, (.c (.v (.int .i64 16384))))]))), (.mk (some 5) none (.m (.pu (.mv (.t 9)))))]) (.sq (.sq (.reg [(.mk (some 6) none (.m (.pu (.mv (.c (.v (.int .i64 0)))))))]) (.bk 0 (.nw 5 3 (.lp 0 fg_ref18_sizes_0 tb_ref18_sizes_0)))) (.sq (.reg [(.mk (some 7) none (.m (.pu (.mv (.c (.v (.slice none 0 0)))))))]) (.sq (.sq (.reg [(.mk (some 8) none (.m (.pu (.mv (.c (.v (.int .i64 0)))))))]) (.bk 2 (.lp 1 fg_ref18_sizes_1 tb_ref18_sizes_1))) (.sq (.reg [(.mk (some 52) none (.m (.pu (.mv (.t 7))))), (.mk (some 4) none (.m (.pu (.mv (.t 52)))))]) .rt))))))
def rv_ref18_sizes : List (RV × Option Ty) := [((.t 4), some (.sl tI))]
abbrev sh_ref18_sizes_0 : Sh := ⟨[(1, .ty tI), (2, .ptr 2 0), (5, .ms 9), (6, .ty tI)], [(2, .box tyPolicy), (5, .no), (9, .arr 3 tI), (32, .no)]⟩
def st_ref18_sizes_0 (x1 : Int) (x6 : Int) (y2 : Policy) (y9 : (List Int)) : VS := sh_ref18_sizes_0.st (x1, (), (), x6, ()) (y2, (), y9, (), ())
abbrev sh_ref18_sizes_0_e0 : Sh := ⟨[(1, .ty tI), (5, .ms 9)], [(5, .no), (9, .arr 3 tI), (32, .no)]⟩
def st_ref18_sizes_0_e0 (x1 : Int) (y9 : (List Int)) : VS := sh_ref18_sizes_0_e0.st (x1, (), ()) ((), y9, (), ())
-- loop 0: (x1 : Int) (x6 : Int) (y2 : Policy) (y9 : (List Int)); out: ('exit', 0) (x1 : Int) (y9 : (List Int))
abbrev sh_ref18_sizes_1 : Sh := ⟨[(1, .ty tI), (5, .ms 9), (7, .ty (.sl tI)), (8, .ty tI)], [(5, .no), (9, .arr 3 tI), (32, .no)]⟩
def st_ref18_sizes_1 (x1 : Int) (x7 : (List Int)) (x8 : Int) (y9 : (List Int)) : VS := sh_ref18_sizes_1.st (x1, (), x7, x8, ()) ((), y9, (), ())
abbrev sh_ref18_sizes_1_e2 : Sh := ⟨[(7, .ty (.sl tI))], []⟩
def st_ref18_sizes_1_e2 (x7 : (List Int)) : VS := sh_ref18_sizes_1_e2.st (x7, ()) ()
-- loop 1: (x1 : Int) (x7 : (List Int)) (x8 : Int) (y9 : (List Int)); out: ('exit', 2) (x7 : (List Int))
def L_ref18_sizes_0 : VS → Option (Bool × List (Bool × Exit × VS)) := mkL sh_ref18_sizes_0 (fun x y => (decide (0 ≤ x.2.2.2.1 ∧ x.2.2.2.1 ≤ y.1.1.length ∧ y.1.1.length ≤ 100000 ∧ (y.2.2.1.length : Int) ≤ 17 + 2 * x.2.2.2.1))) (fun x y => [(true, .exit 0, st_ref18_sizes_0_e0 (x.1) (y.2.2.1 ++ belows2 (y.1.1.drop x.2.2.2.1.toNat)))])
def L_ref18_sizes_1 : VS → Option (Bool × List (Bool × Exit × VS)) := mkL sh_ref18_sizes_1 (fun x y => (decide (0 ≤ x.2.2.2.1 ∧ x.2.2.2.1 ≤ y.2.1.length ∧ y.2.1.length ≤ 300000 ∧ (x.2.2.1.length : Int) ≤ x.2.2.2.1))) (fun x y => [(true, .exit 2, st_ref18_sizes_1_e2 (sizeZ x.1 x.2.2.1 (y.2.1.drop x.2.2.2.1.toNat)))])
def g_ref18_sizes : G := ⟨TYs, [9], 53, EL [(37, sp_ref02_Valid), (67, sp_ref18_put)], keeps, (Ls [L_ref18_sizes_0, L_ref18_sizes_1]), IL [], RL []⟩
def b_ref18_sizes_0 (x1 : Int) (x6 : Int) (y2 : Policy) (y9 : (List Int)) : Option (Exit × VS) :=
  br ((ilt x6 (llen y2.1)))
    (br (cIx y2.1 x6)
      (br (cIx y2.1 x6)
        (br (cApp y9 ([(((lgt tyRule y2.1 (Int.toNat x6)).2).2).1, (isub .i64 ((((lgt tyRule y2.1 (Int.toNat x6)).2).2).1) 1)]) 8)
          (some (.normal, st_ref18_sizes_0 x1 (iadd .i64 x6 1) y2 (y9 ++ ([(((lgt tyRule y2.1 (Int.toNat x6)).2).2).1, (isub .i64 ((((lgt tyRule y2.1 (Int.toNat x6)).2).2).1) 1)]))))
          (none))
        (none))
      (none))
    (some (.exit 0, st_ref18_sizes_0_e0 x1 y9))
noncomputable def lp_ref18_sizes_0 (x1 : Int) (x6 : Int) (y2 : Policy) (y9 : (List Int)) : Option (Exit × VS) := loopF (roundF g_ref18_sizes fg_ref18_sizes_0 tb_ref18_sizes_0) (st_ref18_sizes_0 x1 x6 y2 y9)
noncomputable def n_ref18_sizes_0 (x1 : Int) (x6 : Int) (y2 : Policy) (y9 : (List Int)) : Option (Exit × VS) :=
  br ((ilt x6 (llen y2.1)))
    (br (cIx y2.1 x6)
      (br (cIx y2.1 x6)
        (br (cApp y9 ([(((lgt tyRule y2.1 (Int.toNat x6)).2).2).1, (isub .i64 ((((lgt tyRule y2.1 (Int.toNat x6)).2).2).1) 1)]) 8)
          (lp_ref18_sizes_0 x1 (iadd .i64 x6 1) y2 (y9 ++ ([(((lgt tyRule y2.1 (Int.toNat x6)).2).2).1, (isub .i64 ((((lgt tyRule y2.1 (Int.toNat x6)).2).2).1) 1)])))
          (none))
        (none))
      (none))
    (some (.exit 0, st_ref18_sizes_0_e0 x1 y9))
def la_ref18_sizes_0 (x1 : Int) (x6 : Int) (y2 : Policy) (y9 : (List Int)) : Option (Exit × VS) := some (.exit 0, st_ref18_sizes_0_e0 (x1) (y9 ++ belows2 (y2.1.drop x6.toNat)))
theorem be_ref18_sizes_0 (x1 : Int) (x6 : Int) (y2 : Policy) (y9 : (List Int)) : roundF g_ref18_sizes fg_ref18_sizes_0 tb_ref18_sizes_0 (st_ref18_sizes_0 x1 x6 y2 y9) = b_ref18_sizes_0 x1 x6 y2 y9 := by kernel_rfl
theorem ln_ref18_sizes_0 (x1 : Int) (x6 : Int) (y2 : Policy) (y9 : (List Int)) : lp_ref18_sizes_0 x1 x6 y2 y9 = n_ref18_sizes_0 x1 x6 y2 y9 := (loopF_nxt _ _).trans (by
  rw [be_ref18_sizes_0]
  simp only [b_ref18_sizes_0, n_ref18_sizes_0, nxt_br, nxt_n, nxt_r, nxt_e, nxt_0]
  rfl)
def b_ref18_sizes_1 (x1 : Int) (x7 : (List Int)) (x8 : Int) (y9 : (List Int)) : Option (Exit × VS) :=
  br ((ilt x8 (llen y9)))
    (br (cIx y9 x8)
      (br (cLd y9 (Int.toNat x8))
        (br ((validF (x1, ((lgt tI y9 (Int.toNat x8)), ()))))
          (br (cIx y9 x8)
            (br (cLd y9 (Int.toNat x8))
              (br ((putOk x7 (lgt tI y9 (Int.toNat x8))))
                (some (.normal, st_ref18_sizes_1 x1 (insL x7 (lgt tI y9 (Int.toNat x8))) (iadd .i64 x8 1) y9))
                (none))
              (none))
            (none))
          (some (.normal, st_ref18_sizes_1 x1 x7 (iadd .i64 x8 1) y9)))
        (none))
      (none))
    (some (.exit 2, st_ref18_sizes_1_e2 x7))
noncomputable def lp_ref18_sizes_1 (x1 : Int) (x7 : (List Int)) (x8 : Int) (y9 : (List Int)) : Option (Exit × VS) := loopF (roundF g_ref18_sizes fg_ref18_sizes_1 tb_ref18_sizes_1) (st_ref18_sizes_1 x1 x7 x8 y9)
noncomputable def n_ref18_sizes_1 (x1 : Int) (x7 : (List Int)) (x8 : Int) (y9 : (List Int)) : Option (Exit × VS) :=
  br ((ilt x8 (llen y9)))
    (br (cIx y9 x8)
      (br (cLd y9 (Int.toNat x8))
        (br ((validF (x1, ((lgt tI y9 (Int.toNat x8)), ()))))
          (br (cIx y9 x8)
            (br (cLd y9 (Int.toNat x8))
              (br ((putOk x7 (lgt tI y9 (Int.toNat x8))))
                (lp_ref18_sizes_1 x1 (insL x7 (lgt tI y9 (Int.toNat x8))) (iadd .i64 x8 1) y9)
                (none))
              (none))
            (none))
          (lp_ref18_sizes_1 x1 x7 (iadd .i64 x8 1) y9))
        (none))
      (none))
    (some (.exit 2, st_ref18_sizes_1_e2 x7))
def la_ref18_sizes_1 (x1 : Int) (x7 : (List Int)) (x8 : Int) (y9 : (List Int)) : Option (Exit × VS) := some (.exit 2, st_ref18_sizes_1_e2 (sizeZ x1 x7 (y9.drop x8.toNat)))
theorem be_ref18_sizes_1 (x1 : Int) (x7 : (List Int)) (x8 : Int) (y9 : (List Int)) : roundF g_ref18_sizes fg_ref18_sizes_1 tb_ref18_sizes_1 (st_ref18_sizes_1 x1 x7 x8 y9) = b_ref18_sizes_1 x1 x7 x8 y9 := by kernel_rfl
theorem ln_ref18_sizes_1 (x1 : Int) (x7 : (List Int)) (x8 : Int) (y9 : (List Int)) : lp_ref18_sizes_1 x1 x7 x8 y9 = n_ref18_sizes_1 x1 x7 x8 y9 := (loopF_nxt _ _).trans (by
  rw [be_ref18_sizes_1]
  simp only [b_ref18_sizes_1, n_ref18_sizes_1, nxt_br, nxt_n, nxt_r, nxt_e, nxt_0]
  rfl)
def r_ref18_sizes (p0 : Policy) (p1 : Int) : Option (V × List VO) :=
  br ((decide (0 ≤ (0 : Int) ∧ (0 : Int) ≤ p0.1.length ∧ p0.1.length ≤ 100000 ∧ (([0, 40, 44, 65, 87, 112, 128, 160, 168, 224, 256, 384, 512, 521, 768, 1024, 16384]).length : Int) ≤ 17 + 2 * (0 : Int))))
    (br ((decide (0 ≤ (0 : Int) ∧ (0 : Int) ≤ (([0, 40, 44, 65, 87, 112, 128, 160, 168, 224, 256, 384, 512, 521, 768, 1024, 16384]) ++ belows2 (p0.1.drop (0 : Int).toNat)).length ∧ (([0, 40, 44, 65, 87, 112, 128, 160, 168, 224, 256, 384, 512, 521, 768, 1024, 16384]) ++ belows2 (p0.1.drop (0 : Int).toNat)).length ≤ 300000 ∧ (([] : List Int).length : Int) ≤ (0 : Int))))
      (some (.t (.sl tI) (sizeZ (p1) ([] : List Int) ((([0, 40, 44, 65, 87, 112, 128, 160, 168, 224, 256, 384, 512, 521, 768, 1024, 16384]) ++ belows2 (p0.1.drop (0 : Int).toNat)).drop (0 : Int).toNat)), []))
      (none))
    (none)
theorem e_ref18_sizes (p0 : Policy) (p1 : Int) : runF g_ref18_sizes tc_ref18_sizes rv_ref18_sizes false [.t tyPolicy p0, .t tI p1] [] = r_ref18_sizes p0 p1 := by kernel_rfl
theorem ok_ref18_sizes : Option.map (trC Try.prog) Try.f79.body = some tc_ref18_sizes.er := by kernel_rfl
theorem rok_ref18_sizes : trVs Try.prog Try.f79.results.toList = some (rv_ref18_sizes.map Prod.fst) := by kernel_rfl
theorem en_ref18_sizes : Entered Try.prog 79 := .inr ⟨by decide, _, Try.func79, by kernel_rfl, by kernel_rfl⟩
theorem gk_ref18_sizes : GOk Try.prog g_ref18_sizes := gok_of _ (by
  intro p hp
  simp only [List.mem_cons, List.not_mem_nil, or_false] at hp
  rcases hp with rfl | rfl
  · exact ⟨en_ref02_Valid, ms_ref02_Valid⟩
  · exact ⟨en_ref18_put, ms_ref18_put⟩)
theorem l_ref18_sizes_0 (x1 : Int) (x6 : Int) (y2 : Policy) (y9 : (List Int)) (h : (decide (0 ≤ x6 ∧ x6 ≤ y2.1.length ∧ y2.1.length ≤ 100000 ∧ (y9.length : Int) ≤ 17 + 2 * x6)) = true) : lp_ref18_sizes_0 x1 x6 y2 y9 = la_ref18_sizes_0 x1 x6 y2 y9 := by
  simp only [decide_eq_true_eq] at h
  obtain ⟨h1, h2, h3, h4⟩ := h
  obtain ⟨k, rfl⟩ := Int.eq_ofNat_of_zero_le h1
  revert y9
  refine range_ind y2.1 (fun k => ∀ y9 : List Int, (y9.length : Int) ≤ 17 + 2 * (k : Int) → lp_ref18_sizes_0 x1 (k : Int) y2 y9 = la_ref18_sizes_0 x1 (k : Int) y2 y9) ?_ ?_ k (by omega)
  · intro y9 _
    rw [ln_ref18_sizes_0]
    simp [n_ref18_sizes_0, la_ref18_sizes_0, ilt_nat, llen, br_false, belows2]
  · intro k hk ih y9 hy
    rw [ln_ref18_sizes_0]
    simp only [n_ref18_sizes_0, ilt_nat, llen, cIx_nat, hk, decide_true, br_true, Int.toNat_natCast, add1 (show k < 4611686018427387904 by omega), lgt_get (y := tyRule) hk]
    rw [cApp_ok (by simp; omega) (by omega), br_true, ih _ (by simp; omega)]
    simp only [la_ref18_sizes_0, Int.toNat_natCast, List.drop_eq_getElem_cons hk, belows2, List.flatMap_cons, List.append_assoc]
theorem l_ref18_sizes_1 (x1 : Int) (x7 : (List Int)) (x8 : Int) (y9 : (List Int)) (h : (decide (0 ≤ x8 ∧ x8 ≤ y9.length ∧ y9.length ≤ 300000 ∧ (x7.length : Int) ≤ x8)) = true) : lp_ref18_sizes_1 x1 x7 x8 y9 = la_ref18_sizes_1 x1 x7 x8 y9 := by
  simp only [decide_eq_true_eq] at h
  obtain ⟨h1, h2, h3, h4⟩ := h
  obtain ⟨k, rfl⟩ := Int.eq_ofNat_of_zero_le h1
  revert x7
  refine range_ind y9 (fun k => ∀ x7 : List Int, (x7.length : Int) ≤ (k : Int) → lp_ref18_sizes_1 x1 x7 (k : Int) y9 = la_ref18_sizes_1 x1 x7 (k : Int) y9) ?_ ?_ k (by omega)
  · intro x7 _
    rw [ln_ref18_sizes_1]
    simp [n_ref18_sizes_1, la_ref18_sizes_1, ilt_nat, llen, br_false, sizeZ]
  · intro k hk ih x7 hy
    rw [ln_ref18_sizes_1]
    have h5 : cLd y9 k = true := by simp [cLd, hk]
    simp only [n_ref18_sizes_1, ilt_nat, llen, cIx_nat, hk, h5, decide_true, br_true, Int.toNat_natCast, add1 (show k < 4611686018427387904 by omega), lgt_get (y := tI) hk]
    have el : la_ref18_sizes_1 x1 x7 (k : Int) y9 = la_ref18_sizes_1 x1 (if validF (x1, (y9[k], ())) then insL x7 y9[k] else x7) ((k + 1 : Nat) : Int) y9 := by
      simp only [la_ref18_sizes_1, Int.toNat_natCast, List.drop_eq_getElem_cons hk, sizeZ, List.foldl_cons]
    rw [el, show putOk x7 y9[k] = true by simp only [putOk, decide_eq_true_eq]; omega, br_true]
    have hl := insL_len y9[k] x7
    cases hv : validF (x1, (y9[k], ())) with
    | true => rw [br_true, if_pos rfl]; exact ih _ (by omega)
    | false => rw [br_false, if_neg (by simp)]; exact ih _ (by omega)
theorem lo_ref18_sizes_0 : ∀ S l p, g_ref18_sizes.L 0 (fgt fg_ref18_sizes_0 S) = some (true, l) → pickA l = some p → loopF (roundF g_ref18_sizes fg_ref18_sizes_0 tb_ref18_sizes_0) S = some p :=
  lok_of (s := sh_ref18_sizes_0) ⟨by decide, by decide⟩ (by kernel_rfl) fun x y hok p hp => by
  simp only [pickA_br, pickA_one] at hp
  exact (l_ref18_sizes_0 x.1 x.2.2.2.1 y.1 y.2.2.1 (by simpa using hok)).trans hp
theorem lo_ref18_sizes_1 : ∀ S l p, g_ref18_sizes.L 1 (fgt fg_ref18_sizes_1 S) = some (true, l) → pickA l = some p → loopF (roundF g_ref18_sizes fg_ref18_sizes_1 tb_ref18_sizes_1) S = some p :=
  lok_of (s := sh_ref18_sizes_1) ⟨by decide, by decide⟩ (by kernel_rfl) fun x y hok p hp => by
  simp only [pickA_br, pickA_one] at hp
  exact (l_ref18_sizes_1 x.1 x.2.2.1 x.2.2.2.1 y.2.1 (by simpa using hok)).trans hp
theorem lk_ref18_sizes : tc_ref18_sizes.lok g_ref18_sizes := by
  repeat (first | exact trivial | exact lo_ref18_sizes_0 | exact lo_ref18_sizes_1 | refine ⟨?_, ?_⟩)
theorem belows2_len (l : List Rule) : (belows2 l).length = 2 * l.length := by
  induction l with
  | nil => rfl
  | cons a l ih => simp only [belows2, List.flatMap_cons, List.length_append, List.length_cons, List.length_nil] at ih ⊢; omega
theorem s_ref18_sizes (y : Policy) (a : Int) (h : szOk y a = true) : r_ref18_sizes y a = some (.t (.sl tI) (sizesR y a), []) := by
  have h : polSmall y = true := h
  simp only [polSmall, decide_eq_true_eq] at h
  have hb : ([0, 40, 44, 65, 87, 112, 128, 160, 168, 224, 256, 384, 512, 521, 768, 1024, 16384] : List Int) = base17 := rfl
  have hl := belows2_len y.1
  simp only [r_ref18_sizes, Int.toNat_zero, List.drop_zero]
  rw [dec_true ⟨Int.le_refl 0, by omega, by omega, by decide⟩, br_true, hb, dec_true ⟨Int.le_refl 0, by omega, by rw [List.length_append, hl]; simp [base17]; omega, by simp⟩, br_true]
  rfl
def sp_ref18_sizes : Ent := spec (.pr tyPolicy (.pr tI .nil)) (fun x => (szOk x.1 x.2.1)) (fun x => (.t (.sl tI) (sizesR x.1 x.2.1)))
theorem ms_ref18_sizes : Meets Try.prog 79 (strip sp_ref18_sizes) := by
  obtain ⟨c, hc, hi⟩ := Option.map_eq_some_iff.1 ok_ref18_sizes
  exact meets_spec (R := runF g_ref18_sizes tc_ref18_sizes rv_ref18_sizes false) (meets_of (by decide) Try.func79 hc hi Try.ntmps79 rok_ref18_sizes gk_ref18_sizes lk_ref18_sizes mixed) fun x hok => (e_ref18_sizes x.1 x.2.1).trans (s_ref18_sizes x.1 x.2.1 hok)

/-! alive -/
def anyN (hi : Int) (f : Int → Bool) : Nat → Bool
  | 0 => false
  | n + 1 => f (hi - (n : Int)) || anyN hi f n
def pieceB (f : Int → Bool) : List Int → Bool
  | a :: b :: r => f a || pieceB f (b :: r)
  | _ => false
def hitR (y : Policy) (r : Rule) (i : Int) (u : Keep) (q d : Int) : Bool := matches' r u q d && ieq (decF y u q d) i
def aliveF (y : Policy) (i a : Int) : Bool := if (y.1.getD i.toNat tyRule.zero).2.1 ≠ 0 ∧ (y.1.getD i.toNat tyRule.zero).2.1 ≠ a then false else (sizesR y a).any fun b => anyN 4 (fun q => pieceB (hitR y (y.1.getD i.toNat tyRule.zero) i (a, (b, ())) q) (daysF y)) 4
def alOk (y : Policy) (i _a : Int) : Bool := polSmall y && polLen y && cIx y.1 i
def dr_ref18_alive_0 : List DO := [(.mk (.mk (some 28) none (.m (.ld true 2 (.t 3)))) []), (.mk (.mk (some 29) none (.m (.pu (.mv (.t 2))))) []), (.mk (.mk (some 30) none (.call 79 [(.t 28), (.t 29)])) [0, 1]), (.mk (.mk (some 31) none (.m (.ld true 2 (.t 3)))) []), (.mk (.mk (some 32) none (.call 51 [(.t 31)])) [3, 2]), (.mk (.mk (some 8) none (.m (.pu (.mv (.t 30))))) [2, 4, 0, 1, 2]), (.mk (.mk (some 9) none (.m (.pu (.mv (.t 32))))) [4, 5, 0, 1, 2, 3, 4, 5])]
def dr_ref18_alive_1 : List DO := [(.mk (.mk (some 56) none (.m (.ld true 6 (.t 7)))) []), (.mk (.mk (some 57) none (.m (.ld true 2 (.t 13)))) []), (.mk (.mk (some 58) none (.m (.pu (.mv (.t 11))))) []), (.mk (.mk (some 59) none (.m (.pu (.mv (.t 9))))) []), (.mk (.mk (some 60) none (.m (.pu (.mv (.t 12))))) []), (.mk (.mk (some 61) none (.m (.pu (.ix 1 (.t 59) (.t 60))))) [3, 4]), (.mk (.mk (some 62) none (.m (.ld false 1 (.t 61)))) [5]), (.mk (.mk (some 63) none (.call 66 [(.t 56), (.t 57), (.t 58), (.t 62)])) [0, 1, 2, 6]), (.mk (.mk (some 64) none (.m (.pu (.mv (.t 63))))) [7, 7]), (.mk (.mk (some 65) (some (64, true)) (.m (.ld true 2 (.t 3)))) [8]), (.mk (.mk (some 66) (some (64, true)) (.m (.ld true 2 (.t 13)))) [8]), (.mk (.mk (some 67) (some (64, true)) (.m (.pu (.mv (.t 11))))) [8]), (.mk (.mk (some 68) (some (64, true)) (.m (.pu (.mv (.t 9))))) [8]), (.mk (.mk (some 69) (some (64, true)) (.m (.pu (.mv (.t 12))))) [8]), (.mk (.mk (some 70) (some (64, true)) (.m (.pu (.ix 1 (.t 68) (.t 69))))) [12, 13, 8]), (.mk (.mk (some 71) (some (64, true)) (.m (.ld false 1 (.t 70)))) [14, 8]), (.mk (.mk (some 72) (some (64, true)) (.call 50 [(.t 65), (.t 66), (.t 67), (.t 71)])) [9, 10, 11, 15, 8, 8]), (.mk (.mk (some 73) (some (64, true)) (.m (.pu (.mv (.t 1))))) [8]), (.mk (.mk (some 74) (some (64, true)) (.m (.pu (.bin false .eql (.t 72) (.t 73))))) [16, 17, 8]), (.mk (.mk (some 75) none (.m (.pu (.pick (.t 64) (.t 74) (.c (.v (.bool false))))))) [8, 18])]
def fg_ref18_alive_0 : Fg := ⟨[(1, some tI), (2, some tI), (3, none), (7, none), (8, some (.sl tI)), (9, some (.sl tI)), (10, some tI), (11, some tI), (12, some tI)], [(3, some tyPolicy), (7, some tyRule)]⟩
def tb_ref18_alive_0 : TC := (.sq (.sq (.reg [(.mk (some 43) none (.m (.pu (.mv (.t 12))))), (.mk (some 44) none (.m (.pu (.bin false .add (.t 43) (.c (.v (.int .i64 1))))))), (.mk (some 45) none (.m (.pu (.mv (.t 9))))), (.mk (some 46) none (.m (.pu (.len false (.t 45))))), (.mk (some 47) none (.m (.pu (.bin false .lss (.t 44) (.t 46)))))]) (.cd (.t 47) .sk (.fg ⟨[(1, some tI), (2, some tI), (3, none), (7, none), (8, some (.sl tI)), (9, some (.sl tI)), (10, some tI), (11, some tI)], [(3, some tyPolicy), (7, some tyRule)]⟩ (.ex 4)))) (.sq (.bk 5 (.sq (.reg [(.mk (some 50) none (.m (.pu (.mv (.t 2))))), (.mk (some 51) none (.m (.pu (.mv (.t 8))))), (.mk (some 52) none (.m (.pu (.mv (.t 10))))), (.mk (some 53) none (.m (.pu (.ix 1 (.t 51) (.t 52))))), (.mk (some 54) none (.m (.ld false 1 (.t 53)))), (.mk (some 55) none (.m (.pu (.bd [(.v (.int .i64 0)), (.v (.int .i64 0))] [(0, 1, (.t 50)), (1, 1, (.t 54))])))), (.mk (some 13) none (.m (.new [(.v (.int .i64 0)), (.v (.int .i64 0))]))), (.mk none none (.m (.st 2 (.t 13) (.t 55))))]) (.sq (.dr dr_ref18_alive_1 [(0, [7]), (1, [13]), (2, []), (3, []), (4, []), (5, []), (6, []), (7, []), (8, []), (9, [3]), (10, [13]), (11, []), (12, []), (13, []), (14, []), (15, []), (16, []), (17, []), (18, []), (19, [])] (.of [0, 1, 2, 3, 4, 5, 6, 7, 8, 9, 10, 11, 12, 13, 14, 15, 16, 17, 18, 19])) (.cd (.t 75) (.sq (.reg [(.mk (some 6) none (.m (.pu (.mv (.c (.v (.bool true)))))))]) (.fg ⟨[(6, some .bool)], []⟩ .rt)) .sk)))) (.reg [(.mk (some 48) none (.m (.pu (.mv (.t 12))))), (.mk (some 49) none (.m (.pu (.bin false .add (.t 48) (.c (.v (.int .i64 1))))))), (.mk (some 12) none (.m (.pu (.mv (.t 49)))))])))
def fg_ref18_alive_1 : Fg := ⟨[(1, some tI), (2, some tI), (3, none), (7, none), (8, some (.sl tI)), (9, some (.sl tI)), (10, some tI), (11, some tI)], [(3, some tyPolicy), (7, some tyRule)]⟩
def tb_ref18_alive_1 : TC := (.sq (.sq (.reg [(.mk (some 39) none (.m (.pu (.mv (.t 11))))), (.mk (some 40) none (.m (.pu (.bin false .leq (.t 39) (.c (.v (.int .i64 4)))))))]) (.cd (.t 40) .sk (.fg ⟨[(1, some tI), (2, some tI), (3, none), (7, none), (8, some (.sl tI)), (9, some (.sl tI)), (10, some tI)], [(3, some tyPolicy), (7, some tyRule)]⟩ (.ex 2)))) (.sq (.bk 3 (.sq (.reg [(.mk (some 12) none (.m (.pu (.mv (.c (.v (.int .i64 0)))))))]) (.bk 4 (.lp 0 fg_ref18_alive_0 tb_ref18_alive_0)))) (.reg [(.mk (some 41) none (.m (.pu (.mv (.t 11))))), (.mk (some 42) none (.m (.pu (.bin false .add (.t 41) (.c (.v (.int .i64 1))))))), (.mk (some 11) none (.m (.pu (.mv (.t 42)))))])))
def fg_ref18_alive_2 : Fg := ⟨[(1, some tI), (2, some tI), (3, none), (7, none), (8, some (.sl tI)), (9, some (.sl tI)), (10, some tI)], [(3, some tyPolicy), (7, some tyRule)]⟩
def tb_ref18_alive_2 : TC := (.sq (.sq (.reg [(.mk (some 33) none (.m (.pu (.mv (.t 10))))), (.mk (some 34) none (.m (.pu (.mv (.t 8))))), (.mk (some 35) none (.m (.pu (.len false (.t 34))))), (.mk (some 36) none (.m (.pu (.bin false .lss (.t 33) (.t 35)))))]) (.cd (.t 36) .sk (.fg ⟨[], []⟩ (.ex 0)))) (.sq (.bk 1 (.sq (.reg [(.mk (some 11) none (.m (.pu (.mv (.c (.v (.int .i64 1)))))))]) (.bk 2 (.lp 1 fg_ref18_alive_1 tb_ref18_alive_1)))) (.reg [(.mk (some 37) none (.m (.pu (.mv (.t 10))))), (.mk (some 38) none (.m (.pu (.bin false .add (.t 37) (.c (.v (.int .i64 1))))))), (.mk (some 10) none (.m (.pu (.mv (.t 38)))))])))
/-- cipherplan/cipherplanref18.alive -/
def tc_ref18_alive : TC := (.sq (.reg [(.mk (some 3) none (.m (.box (.t 0)))), (.mk (some 6) none (.m (.pu (.mv (.c (.v (.bool false)))))))]) (.sq (.reg [(.mk (some 14) none (.m (.pu (.fa 0 (.t 3))))), (.mk (some 15) none (.m (.ld false 1 (.t 14)))), (.mk (some 16) none (.m (.pu (.mv (.t 1))))), (.mk (some 17) none (.m (.pu (.ix 6 (.t 15) (.t 16))))), (.mk (some 18) none (.m (.ld true 6 (.t 17)))), (.mk (some 7) none (.m (.new [(.v (.bool false)), (.v (.int .i64 0)), (.v (.int .i64 0)), (.v (.int .i64 0)), (.v (.int .i64 0)), (.v (.int .i64 0))]))), (.mk none none (.m (.st 6 (.t 7) (.t 18))))]) (.sq (.sq (.reg [(.mk (some 19) none (.m (.pu (.fa 1 (.t 7))))), (.mk (some 20) none (.m (.ld false 1 (.t 19)))), (.mk (some 21) none (.m (.pu (.bin false .neq (.t 20) (.c (.v (.int .i64 0))))))), (.mk (some 22) none (.m (.pu (.mv (.t 21))))), (.mk (some 23) (some (22, true)) (.m (.pu (.fa 1 (.t 7))))), (.mk (some 24) (some (22, true)) (.m (.ld false 1 (.t 23)))), (.mk (some 25) (some (22, true)) (.m (.pu (.mv (.t 2))))), (.mk (some 26) (some (22, true)) (.m (.pu (.bin false .neq (.t 24) (.t 25))))), (.mk (some 27) none (.m (.pu (.pick (.t 22) (.t 26) (.c (.v (.bool false)))))))]) (.cd (.t 27) (.sq (.reg [(.mk (some 6) none (.m (.pu (.mv (.c (.v (.bool false)))))))]) .rt) .sk)) (.sq (.dr dr_ref18_alive_0 [(0, [3]), (1, []), (2, []), (3, [3]), (4, []), (5, []), (6, [])] (.of [0, 1, 2, 3, 4, 5, 6])) (.sq (.sq (.reg [(.mk (some 10) none (.m (.pu (.mv (.c (.v (.int .i64 0)))))))]) (.bk 0 (.lp 2 fg_ref18_alive_2 tb_ref18_alive_2))) (.sq (.reg [(.mk (some 6) none (.m (.pu (.mv (.c (.v (.bool false)))))))]) .rt))))))
def rv_ref18_alive : List (RV × Option Ty) := [((.t 6), some .bool)]
abbrev sh_ref18_alive_0 : Sh := ⟨[(1, .ty tI), (2, .ty tI), (3, .ptr 3 0), (7, .ptr 7 0), (8, .ty (.sl tI)), (9, .ty (.sl tI)), (10, .ty tI), (11, .ty tI), (12, .ty tI)], [(3, .box tyPolicy), (7, .box tyRule)]⟩
def st_ref18_alive_0 (x1 : Int) (x2 : Int) (x8 : (List Int)) (x9 : (List Int)) (x10 : Int) (x11 : Int) (x12 : Int) (y3 : Policy) (y7 : Rule) : VS := sh_ref18_alive_0.st (x1, x2, (), (), x8, x9, x10, x11, x12, ()) (y3, y7, ())
abbrev sh_ref18_alive_0_ret : Sh := ⟨[(6, .ty .bool)], []⟩
def st_ref18_alive_0_ret (x6 : Bool) : VS := sh_ref18_alive_0_ret.st (x6, ()) ()
abbrev sh_ref18_alive_0_e4 : Sh := ⟨[(1, .ty tI), (2, .ty tI), (3, .ptr 3 0), (7, .ptr 7 0), (8, .ty (.sl tI)), (9, .ty (.sl tI)), (10, .ty tI), (11, .ty tI)], [(3, .box tyPolicy), (7, .box tyRule)]⟩
def st_ref18_alive_0_e4 (x1 : Int) (x2 : Int) (x8 : (List Int)) (x9 : (List Int)) (x10 : Int) (x11 : Int) (y3 : Policy) (y7 : Rule) : VS := sh_ref18_alive_0_e4.st (x1, x2, (), (), x8, x9, x10, x11, ()) (y3, y7, ())
-- loop 0: (x1 : Int) (x2 : Int) (x8 : (List Int)) (x9 : (List Int)) (x10 : Int) (x11 : Int) (x12 : Int) (y3 : Policy) (y7 : Rule); out: ('ret',) (x6 : Bool); ('exit', 4) (x1 : Int) (x2 : Int) (x8 : (List Int)) (x9 : (List Int)) (x10 : Int) (x11 : Int) (y3 : Policy) (y7 : Rule)
abbrev sh_ref18_alive_1 : Sh := ⟨[(1, .ty tI), (2, .ty tI), (3, .ptr 3 0), (7, .ptr 7 0), (8, .ty (.sl tI)), (9, .ty (.sl tI)), (10, .ty tI), (11, .ty tI)], [(3, .box tyPolicy), (7, .box tyRule)]⟩
def st_ref18_alive_1 (x1 : Int) (x2 : Int) (x8 : (List Int)) (x9 : (List Int)) (x10 : Int) (x11 : Int) (y3 : Policy) (y7 : Rule) : VS := sh_ref18_alive_1.st (x1, x2, (), (), x8, x9, x10, x11, ()) (y3, y7, ())
abbrev sh_ref18_alive_1_ret : Sh := ⟨[(6, .ty .bool)], []⟩
def st_ref18_alive_1_ret (x6 : Bool) : VS := sh_ref18_alive_1_ret.st (x6, ()) ()
abbrev sh_ref18_alive_1_e2 : Sh := ⟨[(1, .ty tI), (2, .ty tI), (3, .ptr 3 0), (7, .ptr 7 0), (8, .ty (.sl tI)), (9, .ty (.sl tI)), (10, .ty tI)], [(3, .box tyPolicy), (7, .box tyRule)]⟩
def st_ref18_alive_1_e2 (x1 : Int) (x2 : Int) (x8 : (List Int)) (x9 : (List Int)) (x10 : Int) (y3 : Policy) (y7 : Rule) : VS := sh_ref18_alive_1_e2.st (x1, x2, (), (), x8, x9, x10, ()) (y3, y7, ())
-- loop 1: (x1 : Int) (x2 : Int) (x8 : (List Int)) (x9 : (List Int)) (x10 : Int) (x11 : Int) (y3 : Policy) (y7 : Rule); out: ('ret',) (x6 : Bool); ('exit', 2) (x1 : Int) (x2 : Int) (x8 : (List Int)) (x9 : (List Int)) (x10 : Int) (y3 : Policy) (y7 : Rule)
abbrev sh_ref18_alive_2 : Sh := ⟨[(1, .ty tI), (2, .ty tI), (3, .ptr 3 0), (7, .ptr 7 0), (8, .ty (.sl tI)), (9, .ty (.sl tI)), (10, .ty tI)], [(3, .box tyPolicy), (7, .box tyRule)]⟩
def st_ref18_alive_2 (x1 : Int) (x2 : Int) (x8 : (List Int)) (x9 : (List Int)) (x10 : Int) (y3 : Policy) (y7 : Rule) : VS := sh_ref18_alive_2.st (x1, x2, (), (), x8, x9, x10, ()) (y3, y7, ())
abbrev sh_ref18_alive_2_ret : Sh := ⟨[(6, .ty .bool)], []⟩
def st_ref18_alive_2_ret (x6 : Bool) : VS := sh_ref18_alive_2_ret.st (x6, ()) ()
abbrev sh_ref18_alive_2_e0 : Sh := ⟨[], []⟩
def st_ref18_alive_2_e0  : VS := sh_ref18_alive_2_e0.st () ()
-- loop 2: (x1 : Int) (x2 : Int) (x8 : (List Int)) (x9 : (List Int)) (x10 : Int) (y3 : Policy) (y7 : Rule); out: ('ret',) (x6 : Bool); ('exit', 0) 
def L_ref18_alive_0 : VS → Option (Bool × List (Bool × Exit × VS)) := mkL sh_ref18_alive_0 (fun x y => (decide (0 ≤ x.2.2.2.2.2.2.2.2.1 ∧ x.2.2.2.2.2.2.2.2.1 + 1 ≤ x.2.2.2.2.2.1.length ∧ x.2.2.2.2.2.1.length ≤ 500000 ∧ y.1.1.length ≤ 100000 ∧ 0 ≤ x.2.2.2.2.2.2.1 ∧ x.2.2.2.2.2.2.1 < x.2.2.2.2.1.length))) (fun x y => [((pieceB (hitR y.1 y.2.1 x.1 (x.2.1, (x.2.2.2.2.1.getD x.2.2.2.2.2.2.1.toNat 0, ())) x.2.2.2.2.2.2.2.1) (x.2.2.2.2.2.1.drop x.2.2.2.2.2.2.2.2.1.toNat)), .ret, st_ref18_alive_0_ret (true)), (true, .exit 4, st_ref18_alive_0_e4 (x.1) (x.2.1) (x.2.2.2.2.1) (x.2.2.2.2.2.1) (x.2.2.2.2.2.2.1) (x.2.2.2.2.2.2.2.1) (y.1) (y.2.1))])
def L_ref18_alive_1 : VS → Option (Bool × List (Bool × Exit × VS)) := mkL sh_ref18_alive_1 (fun x y => (decide (1 ≤ x.2.2.2.2.2.2.2.1 ∧ x.2.2.2.2.2.2.2.1 ≤ 5 ∧ 1 ≤ x.2.2.2.2.2.1.length ∧ x.2.2.2.2.2.1.length ≤ 500000 ∧ y.1.1.length ≤ 100000 ∧ 0 ≤ x.2.2.2.2.2.2.1 ∧ x.2.2.2.2.2.2.1 < x.2.2.2.2.1.length))) (fun x y => [((anyN 4 (fun q => pieceB (hitR y.1 y.2.1 x.1 (x.2.1, (x.2.2.2.2.1.getD x.2.2.2.2.2.2.1.toNat 0, ())) q) x.2.2.2.2.2.1) (5 - x.2.2.2.2.2.2.2.1).toNat), .ret, st_ref18_alive_1_ret (true)), (true, .exit 2, st_ref18_alive_1_e2 (x.1) (x.2.1) (x.2.2.2.2.1) (x.2.2.2.2.2.1) (x.2.2.2.2.2.2.1) (y.1) (y.2.1))])
def L_ref18_alive_2 : VS → Option (Bool × List (Bool × Exit × VS)) := mkL sh_ref18_alive_2 (fun x y => (decide (1 ≤ x.2.2.2.2.2.1.length ∧ x.2.2.2.2.2.1.length ≤ 500000 ∧ y.1.1.length ≤ 100000 ∧ 0 ≤ x.2.2.2.2.2.2.1 ∧ x.2.2.2.2.2.2.1 ≤ x.2.2.2.2.1.length ∧ x.2.2.2.2.1.length ≤ 500000))) (fun x y => [(((x.2.2.2.2.1.drop x.2.2.2.2.2.2.1.toNat).any fun b => anyN 4 (fun q => pieceB (hitR y.1 y.2.1 x.1 (x.2.1, (b, ())) q) x.2.2.2.2.2.1) 4), .ret, st_ref18_alive_2_ret (true)), (true, .exit 0, st_ref18_alive_2_e0)])
def g_ref18_alive : G := ⟨TYs, [], 76, EL [(50, sp_ref18_decides), (51, sp_ref18_days), (66, sp_ref18_matches), (79, sp_ref18_sizes)], keeps, (Ls [L_ref18_alive_0, L_ref18_alive_1, L_ref18_alive_2]), IL [], RL []⟩
def b_ref18_alive_0 (x1 : Int) (x2 : Int) (x8 : (List Int)) (x9 : (List Int)) (x10 : Int) (x11 : Int) (x12 : Int) (y3 : Policy) (y7 : Rule) : Option (Exit × VS) :=
  br ((ilt (iadd .i64 x12 1) (llen x9)))
    (br (cIx x8 x10)
      (br (cIx x9 x12)
        (br ((matches' y7 (x2, ((lgt tI x8 (Int.toNat x10)), ())) x11 (lgt tI x9 (Int.toNat x12))))
          (br (cIx x9 x12)
            (br ((polLen5 y3 (x2, ((lgt tI x8 (Int.toNat x10)), ())) x11 (lgt tI x9 (Int.toNat x12))))
              (br ((ieq (decF y3 (x2, ((lgt tI x8 (Int.toNat x10)), ())) x11 (lgt tI x9 (Int.toNat x12))) x1))
                (some (.ret, st_ref18_alive_0_ret true))
                (some (.normal, st_ref18_alive_0 x1 x2 x8 x9 x10 x11 (iadd .i64 x12 1) y3 y7)))
              (none))
            (none))
          (some (.normal, st_ref18_alive_0 x1 x2 x8 x9 x10 x11 (iadd .i64 x12 1) y3 y7)))
        (none))
      (none))
    (some (.exit 4, st_ref18_alive_0_e4 x1 x2 x8 x9 x10 x11 y3 y7))
noncomputable def lp_ref18_alive_0 (x1 : Int) (x2 : Int) (x8 : (List Int)) (x9 : (List Int)) (x10 : Int) (x11 : Int) (x12 : Int) (y3 : Policy) (y7 : Rule) : Option (Exit × VS) := loopF (roundF g_ref18_alive fg_ref18_alive_0 tb_ref18_alive_0) (st_ref18_alive_0 x1 x2 x8 x9 x10 x11 x12 y3 y7)
noncomputable def n_ref18_alive_0 (x1 : Int) (x2 : Int) (x8 : (List Int)) (x9 : (List Int)) (x10 : Int) (x11 : Int) (x12 : Int) (y3 : Policy) (y7 : Rule) : Option (Exit × VS) :=
  br ((ilt (iadd .i64 x12 1) (llen x9)))
    (br (cIx x8 x10)
      (br (cIx x9 x12)
        (br ((matches' y7 (x2, ((lgt tI x8 (Int.toNat x10)), ())) x11 (lgt tI x9 (Int.toNat x12))))
          (br (cIx x9 x12)
            (br ((polLen5 y3 (x2, ((lgt tI x8 (Int.toNat x10)), ())) x11 (lgt tI x9 (Int.toNat x12))))
              (br ((ieq (decF y3 (x2, ((lgt tI x8 (Int.toNat x10)), ())) x11 (lgt tI x9 (Int.toNat x12))) x1))
                (some (.ret, st_ref18_alive_0_ret true))
                (lp_ref18_alive_0 x1 x2 x8 x9 x10 x11 (iadd .i64 x12 1) y3 y7))
              (none))
            (none))
          (lp_ref18_alive_0 x1 x2 x8 x9 x10 x11 (iadd .i64 x12 1) y3 y7))
        (none))
      (none))
    (some (.exit 4, st_ref18_alive_0_e4 x1 x2 x8 x9 x10 x11 y3 y7))
def la_ref18_alive_0 (x1 : Int) (x2 : Int) (x8 : (List Int)) (x9 : (List Int)) (x10 : Int) (x11 : Int) (x12 : Int) (y3 : Policy) (y7 : Rule) : Option (Exit × VS) := br (pieceB (hitR y3 y7 x1 (x2, (x8.getD x10.toNat 0, ())) x11) (x9.drop x12.toNat)) (some (.ret, st_ref18_alive_0_ret (true))) <| some (.exit 4, st_ref18_alive_0_e4 (x1) (x2) (x8) (x9) (x10) (x11) (y3) (y7))
theorem be_ref18_alive_0 (x1 : Int) (x2 : Int) (x8 : (List Int)) (x9 : (List Int)) (x10 : Int) (x11 : Int) (x12 : Int) (y3 : Policy) (y7 : Rule) : roundF g_ref18_alive fg_ref18_alive_0 tb_ref18_alive_0 (st_ref18_alive_0 x1 x2 x8 x9 x10 x11 x12 y3 y7) = b_ref18_alive_0 x1 x2 x8 x9 x10 x11 x12 y3 y7 := by kernel_rfl
theorem ln_ref18_alive_0 (x1 : Int) (x2 : Int) (x8 : (List Int)) (x9 : (List Int)) (x10 : Int) (x11 : Int) (x12 : Int) (y3 : Policy) (y7 : Rule) : lp_ref18_alive_0 x1 x2 x8 x9 x10 x11 x12 y3 y7 = n_ref18_alive_0 x1 x2 x8 x9 x10 x11 x12 y3 y7 := (loopF_nxt _ _).trans (by
  rw [be_ref18_alive_0]
  simp only [b_ref18_alive_0, n_ref18_alive_0, nxt_br, nxt_n, nxt_r, nxt_e, nxt_0]
  rfl)
def b_ref18_alive_1 (x1 : Int) (x2 : Int) (x8 : (List Int)) (x9 : (List Int)) (x10 : Int) (x11 : Int) (y3 : Policy) (y7 : Rule) : Option (Exit × VS) :=
  br ((ile x11 4))
    (br ((decide (0 ≤ (0 : Int) ∧ (0 : Int) + 1 ≤ x9.length ∧ x9.length ≤ 500000 ∧ y3.1.length ≤ 100000 ∧ 0 ≤ x10 ∧ x10 < x8.length)))
      (br ((pieceB (hitR y3 y7 x1 (x2, (x8.getD x10.toNat 0, ())) x11) (x9.drop (0 : Int).toNat)))
        (some (.ret, st_ref18_alive_1_ret (true)))
        (some (.normal, st_ref18_alive_1 (x1) (x2) (x8) (x9) (x10) (iadd .i64 (x11) 1) (y3) (y7))))
      (none))
    (some (.exit 2, st_ref18_alive_1_e2 x1 x2 x8 x9 x10 y3 y7))
noncomputable def lp_ref18_alive_1 (x1 : Int) (x2 : Int) (x8 : (List Int)) (x9 : (List Int)) (x10 : Int) (x11 : Int) (y3 : Policy) (y7 : Rule) : Option (Exit × VS) := loopF (roundF g_ref18_alive fg_ref18_alive_1 tb_ref18_alive_1) (st_ref18_alive_1 x1 x2 x8 x9 x10 x11 y3 y7)
noncomputable def n_ref18_alive_1 (x1 : Int) (x2 : Int) (x8 : (List Int)) (x9 : (List Int)) (x10 : Int) (x11 : Int) (y3 : Policy) (y7 : Rule) : Option (Exit × VS) :=
  br ((ile x11 4))
    (br ((decide (0 ≤ (0 : Int) ∧ (0 : Int) + 1 ≤ x9.length ∧ x9.length ≤ 500000 ∧ y3.1.length ≤ 100000 ∧ 0 ≤ x10 ∧ x10 < x8.length)))
      (br ((pieceB (hitR y3 y7 x1 (x2, (x8.getD x10.toNat 0, ())) x11) (x9.drop (0 : Int).toNat)))
        (some (.ret, st_ref18_alive_1_ret (true)))
        (lp_ref18_alive_1 (x1) (x2) (x8) (x9) (x10) (iadd .i64 (x11) 1) (y3) (y7)))
      (none))
    (some (.exit 2, st_ref18_alive_1_e2 x1 x2 x8 x9 x10 y3 y7))
def la_ref18_alive_1 (x1 : Int) (x2 : Int) (x8 : (List Int)) (x9 : (List Int)) (x10 : Int) (x11 : Int) (y3 : Policy) (y7 : Rule) : Option (Exit × VS) := br (anyN 4 (fun q => pieceB (hitR y3 y7 x1 (x2, (x8.getD x10.toNat 0, ())) q) x9) (5 - x11).toNat) (some (.ret, st_ref18_alive_1_ret (true))) <| some (.exit 2, st_ref18_alive_1_e2 (x1) (x2) (x8) (x9) (x10) (y3) (y7))
theorem be_ref18_alive_1 (x1 : Int) (x2 : Int) (x8 : (List Int)) (x9 : (List Int)) (x10 : Int) (x11 : Int) (y3 : Policy) (y7 : Rule) : roundF g_ref18_alive fg_ref18_alive_1 tb_ref18_alive_1 (st_ref18_alive_1 x1 x2 x8 x9 x10 x11 y3 y7) = b_ref18_alive_1 x1 x2 x8 x9 x10 x11 y3 y7 := by kernel_rfl
theorem ln_ref18_alive_1 (x1 : Int) (x2 : Int) (x8 : (List Int)) (x9 : (List Int)) (x10 : Int) (x11 : Int) (y3 : Policy) (y7 : Rule) : lp_ref18_alive_1 x1 x2 x8 x9 x10 x11 y3 y7 = n_ref18_alive_1 x1 x2 x8 x9 x10 x11 y3 y7 := (loopF_nxt _ _).trans (by
  rw [be_ref18_alive_1]
  simp only [b_ref18_alive_1, n_ref18_alive_1, nxt_br, nxt_n, nxt_r, nxt_e, nxt_0]
  rfl)
def b_ref18_alive_2 (x1 : Int) (x2 : Int) (x8 : (List Int)) (x9 : (List Int)) (x10 : Int) (y3 : Policy) (y7 : Rule) : Option (Exit × VS) :=
  br ((ilt x10 (llen x8)))
    (br ((decide (1 ≤ (1 : Int) ∧ (1 : Int) ≤ 5 ∧ 1 ≤ x9.length ∧ x9.length ≤ 500000 ∧ y3.1.length ≤ 100000 ∧ 0 ≤ x10 ∧ x10 < x8.length)))
      (br ((anyN 4 (fun q => pieceB (hitR y3 y7 x1 (x2, (x8.getD x10.toNat 0, ())) q) x9) (5 - (1 : Int)).toNat))
        (some (.ret, st_ref18_alive_2_ret (true)))
        (some (.normal, st_ref18_alive_2 (x1) (x2) (x8) (x9) (iadd .i64 (x10) 1) (y3) (y7))))
      (none))
    (some (.exit 0, st_ref18_alive_2_e0))
noncomputable def lp_ref18_alive_2 (x1 : Int) (x2 : Int) (x8 : (List Int)) (x9 : (List Int)) (x10 : Int) (y3 : Policy) (y7 : Rule) : Option (Exit × VS) := loopF (roundF g_ref18_alive fg_ref18_alive_2 tb_ref18_alive_2) (st_ref18_alive_2 x1 x2 x8 x9 x10 y3 y7)
noncomputable def n_ref18_alive_2 (x1 : Int) (x2 : Int) (x8 : (List Int)) (x9 : (List Int)) (x10 : Int) (y3 : Policy) (y7 : Rule) : Option (Exit × VS) :=
  br ((ilt x10 (llen x8)))
    (br ((decide (1 ≤ (1 : Int) ∧ (1 : Int) ≤ 5 ∧ 1 ≤ x9.length ∧ x9.length ≤ 500000 ∧ y3.1.length ≤ 100000 ∧ 0 ≤ x10 ∧ x10 < x8.length)))
      (br ((anyN 4 (fun q => pieceB (hitR y3 y7 x1 (x2, (x8.getD x10.toNat 0, ())) q) x9) (5 - (1 : Int)).toNat))
        (some (.ret, st_ref18_alive_2_ret (true)))
        (lp_ref18_alive_2 (x1) (x2) (x8) (x9) (iadd .i64 (x10) 1) (y3) (y7)))
      (none))
    (some (.exit 0, st_ref18_alive_2_e0))
def la_ref18_alive_2 (x1 : Int) (x2 : Int) (x8 : (List Int)) (x9 : (List Int)) (x10 : Int) (y3 : Policy) (y7 : Rule) : Option (Exit × VS) := br ((x8.drop x10.toNat).any fun b => anyN 4 (fun q => pieceB (hitR y3 y7 x1 (x2, (b, ())) q) x9) 4) (some (.ret, st_ref18_alive_2_ret (true))) <| some (.exit 0, st_ref18_alive_2_e0)
theorem be_ref18_alive_2 (x1 : Int) (x2 : Int) (x8 : (List Int)) (x9 : (List Int)) (x10 : Int) (y3 : Policy) (y7 : Rule) : roundF g_ref18_alive fg_ref18_alive_2 tb_ref18_alive_2 (st_ref18_alive_2 x1 x2 x8 x9 x10 y3 y7) = b_ref18_alive_2 x1 x2 x8 x9 x10 y3 y7 := by kernel_rfl
theorem ln_ref18_alive_2 (x1 : Int) (x2 : Int) (x8 : (List Int)) (x9 : (List Int)) (x10 : Int) (y3 : Policy) (y7 : Rule) : lp_ref18_alive_2 x1 x2 x8 x9 x10 y3 y7 = n_ref18_alive_2 x1 x2 x8 x9 x10 y3 y7 := (loopF_nxt _ _).trans (by
  rw [be_ref18_alive_2]
  simp only [b_ref18_alive_2, n_ref18_alive_2, nxt_br, nxt_n, nxt_r, nxt_e, nxt_0]
  rfl)
def r_ref18_alive_1 (p0 : Policy) (p1 : Int) (p2 : Int) : Option (V × List VO) :=
  br ((szOk p0 p2))
    (br ((polLen p0))
      (br ((decide (1 ≤ (daysF p0).length ∧ (daysF p0).length ≤ 500000 ∧ p0.1.length ≤ 100000 ∧ 0 ≤ (0 : Int) ∧ (0 : Int) ≤ (sizesR p0 p2).length ∧ (sizesR p0 p2).length ≤ 500000)))
        (br ((((sizesR p0 p2).drop (0 : Int).toNat).any fun b => anyN 4 (fun q => pieceB (hitR p0 (lgt tyRule p0.1 (Int.toNat p1)) p1 (p2, (b, ())) q) (daysF p0)) 4))
          (some (.t .bool (true), []))
          (some (.t .bool false, [])))
        (none))
      (none))
    (none)
def r_ref18_alive (p0 : Policy) (p1 : Int) (p2 : Int) : Option (V × List VO) :=
  br (cIx p0.1 p1)
    (br ((ine (((lgt tyRule p0.1 (Int.toNat p1)).2).1) 0))
      (br ((ine (((lgt tyRule p0.1 (Int.toNat p1)).2).1) p2))
        (some (.t .bool false, []))
        (r_ref18_alive_1 p0 p1 p2))
      (r_ref18_alive_1 p0 p1 p2))
    (none)
theorem e_ref18_alive (p0 : Policy) (p1 : Int) (p2 : Int) : runF g_ref18_alive tc_ref18_alive rv_ref18_alive false [.t tyPolicy p0, .t tI p1, .t tI p2] [] = r_ref18_alive p0 p1 p2 := by kernel_rfl
theorem ok_ref18_alive : Option.map (trC Try.prog) Try.f58.body = some tc_ref18_alive.er := by kernel_rfl
theorem rok_ref18_alive : trVs Try.prog Try.f58.results.toList = some (rv_ref18_alive.map Prod.fst) := by kernel_rfl
theorem en_ref18_alive : Entered Try.prog 58 := .inr ⟨by decide, _, Try.func58, by kernel_rfl, by kernel_rfl⟩
theorem gk_ref18_alive : GOk Try.prog g_ref18_alive := gok_of _ (by
  intro p hp
  simp only [List.mem_cons, List.not_mem_nil, or_false] at hp
  rcases hp with rfl | rfl | rfl | rfl
  · exact ⟨en_ref18_decides, ms_ref18_decides⟩
  · exact ⟨en_ref18_days, ms_ref18_days⟩
  · exact ⟨en_ref18_matches, ms_ref18_matches⟩
  · exact ⟨en_ref18_sizes, ms_ref18_sizes⟩)
theorem l_ref18_alive_0 (x1 : Int) (x2 : Int) (x8 : (List Int)) (x9 : (List Int)) (x10 : Int) (x11 : Int) (x12 : Int) (y3 : Policy) (y7 : Rule) (h : (decide (0 ≤ x12 ∧ x12 + 1 ≤ x9.length ∧ x9.length ≤ 500000 ∧ y3.1.length ≤ 100000 ∧ 0 ≤ x10 ∧ x10 < x8.length)) = true) : lp_ref18_alive_0 x1 x2 x8 x9 x10 x11 x12 y3 y7 = la_ref18_alive_0 x1 x2 x8 x9 x10 x11 x12 y3 y7 := by
  simp only [decide_eq_true_eq] at h
  obtain ⟨h1, h2, h3, h4, h5, h6⟩ := h
  obtain ⟨k, rfl⟩ := Int.eq_ofNat_of_zero_le h1
  obtain ⟨a, rfl⟩ := Int.eq_ofNat_of_zero_le h5
  have ha : a < x8.length := by omega
  refine up_ind (x9.length - 1) (fun k => lp_ref18_alive_0 x1 x2 x8 x9 (a : Int) x11 (k : Int) y3 y7 = la_ref18_alive_0 x1 x2 x8 x9 (a : Int) x11 (k : Int) y3 y7) ?_ ?_ k (by omega)
  · rw [ln_ref18_alive_0]
    have e0 : iadd .i64 ((x9.length - 1 : Nat) : Int) 1 = ((x9.length - 1 + 1 : Nat) : Int) := add1 (by omega)
    have e1 : ilt (iadd .i64 ((x9.length - 1 : Nat) : Int) 1) (llen x9) = false := by rw [e0]; simp only [ilt, llen, decide_eq_false_iff_not]; omega
    have e2 : x9.drop (x9.length - 1) = [x9[x9.length - 1]'(by omega)] := by
      rw [List.drop_eq_getElem_cons (by omega)]
      congr 1
      exact List.drop_eq_nil_of_le (by omega)
    simp only [n_ref18_alive_0, e1, br_false, la_ref18_alive_0, Int.toNat_natCast, e2, pieceB]
  · intro k hk ih
    rw [ln_ref18_alive_0]
    have hk1 : k < x9.length := by omega
    have hk2 : k + 1 < x9.length := by omega
    have ea : iadd .i64 (k : Int) 1 = ((k + 1 : Nat) : Int) := add1 (by omega)
    have eg : x8.getD a 0 = x8[a] := by rw [List.getD_eq_getElem?_getD, List.getElem?_eq_getElem ha]; rfl
    have ep : ∀ u q d, polLen5 y3 u q d = true := fun u q d => by simp only [polLen5, lenOk5, decide_eq_true_eq]; exact h4
    simp only [n_ref18_alive_0, ea, llen, ilt_nat, br_true, cIx_nat, ha, hk1, hk2, decide_true, Int.toNat_natCast, lgt_get (y := tI) hk1, lgt_get (y := tI) ha, ep, ih]
    simp only [la_ref18_alive_0, Int.toNat_natCast, eg]
    rw [List.drop_eq_getElem_cons hk1, List.drop_eq_getElem_cons hk2]
    simp only [pieceB, hitR]
    cases matches' y7 (x2, x8[a], ()) x11 x9[k] <;> cases ieq (decF y3 (x2, x8[a], ()) x11 x9[k]) x1 <;> rfl
theorem l_ref18_alive_1 (x1 : Int) (x2 : Int) (x8 : (List Int)) (x9 : (List Int)) (x10 : Int) (x11 : Int) (y3 : Policy) (y7 : Rule) (h : (decide (1 ≤ x11 ∧ x11 ≤ 5 ∧ 1 ≤ x9.length ∧ x9.length ≤ 500000 ∧ y3.1.length ≤ 100000 ∧ 0 ≤ x10 ∧ x10 < x8.length)) = true) : lp_ref18_alive_1 x1 x2 x8 x9 x10 x11 y3 y7 = la_ref18_alive_1 x1 x2 x8 x9 x10 x11 y3 y7 := by
  simp only [decide_eq_true_eq] at h
  obtain ⟨h1, h2, h3, h4, h5, h6, h7⟩ := h
  obtain ⟨k, rfl⟩ := Int.eq_ofNat_of_zero_le (show 0 ≤ x11 by omega)
  have h8 : 1 ≤ k := by omega
  revert h8
  refine up_ind 5 (fun k => 1 ≤ k → lp_ref18_alive_1 x1 x2 x8 x9 x10 (k : Int) y3 y7 = la_ref18_alive_1 x1 x2 x8 x9 x10 (k : Int) y3 y7) ?_ ?_ k (by omega)
  · intro _
    rw [ln_ref18_alive_1]
    rfl
  · intro k hk ih hk1
    rw [ln_ref18_alive_1]
    have e1 : ile (k : Int) 4 = true := by simp only [ile, decide_eq_true_eq]; omega
    simp only [n_ref18_alive_1, e1, br_true, add1 (show k < 4611686018427387904 by omega), ih (by omega), Int.toNat_zero, List.drop_zero]
    rw [dec_true ⟨Int.le_refl 0, by omega, h4, h5, h6, h7⟩, br_true]
    have e2 : (5 - (k : Int)).toNat = (5 - ((k + 1 : Nat) : Int)).toNat + 1 := by omega
    have e3 : (4 : Int) - ((5 - ((k + 1 : Nat) : Int)).toNat : Int) = (k : Int) := by omega
    simp only [la_ref18_alive_1, e2, anyN, e3]
    cases pieceB (hitR y3 y7 x1 (x2, x8.getD x10.toNat 0, ()) (k : Int)) x9 <;> rfl
theorem l_ref18_alive_2 (x1 : Int) (x2 : Int) (x8 : (List Int)) (x9 : (List Int)) (x10 : Int) (y3 : Policy) (y7 : Rule) (h : (decide (1 ≤ x9.length ∧ x9.length ≤ 500000 ∧ y3.1.length ≤ 100000 ∧ 0 ≤ x10 ∧ x10 ≤ x8.length ∧ x8.length ≤ 500000)) = true) : lp_ref18_alive_2 x1 x2 x8 x9 x10 y3 y7 = la_ref18_alive_2 x1 x2 x8 x9 x10 y3 y7 := by
  simp only [decide_eq_true_eq] at h
  obtain ⟨h1, h2, h3, h4, h5, h6⟩ := h
  obtain ⟨k, rfl⟩ := Int.eq_ofNat_of_zero_le h4
  refine range_ind x8 (fun k => lp_ref18_alive_2 x1 x2 x8 x9 (k : Int) y3 y7 = la_ref18_alive_2 x1 x2 x8 x9 (k : Int) y3 y7) ?_ ?_ k (by omega)
  · rw [ln_ref18_alive_2]
    simp [n_ref18_alive_2, la_ref18_alive_2, ilt_nat, llen, br_false]
  · intro k hk ih
    rw [ln_ref18_alive_2]
    have eg : x8.getD k 0 = x8[k] := by rw [List.getD_eq_getElem?_getD, List.getElem?_eq_getElem hk]; rfl
    simp only [n_ref18_alive_2, ilt_nat, llen, hk, decide_true, br_true, add1 (show k < 4611686018427387904 by omega), ih, Int.toNat_natCast]
    rw [dec_true ⟨Int.le_refl 1, by decide, h1, h2, h3, by omega, by omega⟩, br_true]
    simp only [la_ref18_alive_2, Int.toNat_natCast, List.drop_eq_getElem_cons hk, List.any_cons, eg]
    rw [show ((5 : Int) - 1).toNat = 4 from rfl]
    cases anyN 4 (fun q => pieceB (hitR y3 y7 x1 (x2, x8[k], ()) q) x9) 4 <;> rfl
theorem lo_ref18_alive_0 : ∀ S l p, g_ref18_alive.L 0 (fgt fg_ref18_alive_0 S) = some (true, l) → pickA l = some p → loopF (roundF g_ref18_alive fg_ref18_alive_0 tb_ref18_alive_0) S = some p :=
  lok_of (s := sh_ref18_alive_0) ⟨by decide, by decide⟩ (by kernel_rfl) fun x y hok p hp => by
  simp only [pickA_br, pickA_one] at hp
  exact (l_ref18_alive_0 x.1 x.2.1 x.2.2.2.2.1 x.2.2.2.2.2.1 x.2.2.2.2.2.2.1 x.2.2.2.2.2.2.2.1 x.2.2.2.2.2.2.2.2.1 y.1 y.2.1 (by simpa using hok)).trans hp
theorem lo_ref18_alive_1 : ∀ S l p, g_ref18_alive.L 1 (fgt fg_ref18_alive_1 S) = some (true, l) → pickA l = some p → loopF (roundF g_ref18_alive fg_ref18_alive_1 tb_ref18_alive_1) S = some p :=
  lok_of (s := sh_ref18_alive_1) ⟨by decide, by decide⟩ (by kernel_rfl) fun x y hok p hp => by
  simp only [pickA_br, pickA_one] at hp
  exact (l_ref18_alive_1 x.1 x.2.1 x.2.2.2.2.1 x.2.2.2.2.2.1 x.2.2.2.2.2.2.1 x.2.2.2.2.2.2.2.1 y.1 y.2.1 (by simpa using hok)).trans hp
theorem lo_ref18_alive_2 : ∀ S l p, g_ref18_alive.L 2 (fgt fg_ref18_alive_2 S) = some (true, l) → pickA l = some p → loopF (roundF g_ref18_alive fg_ref18_alive_2 tb_ref18_alive_2) S = some p :=
  lok_of (s := sh_ref18_alive_2) ⟨by decide, by decide⟩ (by kernel_rfl) fun x y hok p hp => by
  simp only [pickA_br, pickA_one] at hp
  exact (l_ref18_alive_2 x.1 x.2.1 x.2.2.2.2.1 x.2.2.2.2.2.1 x.2.2.2.2.2.2.1 y.1 y.2.1 (by simpa using hok)).trans hp
theorem lk_ref18_alive : tc_ref18_alive.lok g_ref18_alive := by
  repeat (first | exact trivial | exact lo_ref18_alive_0 | exact lo_ref18_alive_1 | exact lo_ref18_alive_2 | refine ⟨?_, ?_⟩)
theorem sizeZ_len (a : Int) : ∀ (l o : List Int), (sizeZ a o l).length ≤ o.length + l.length
  | [], o => by simp [sizeZ]
  | b :: l, o => by
    have h := sizeZ_len a l (if validF (a, (b, ())) then insL o b else o)
    have h2 := insL_len b o
    simp only [sizeZ, List.foldl_cons, List.length_cons] at h ⊢
    split at h <;> simp_all <;> omega
theorem s_ref18_alive (y : Policy) (i a : Int) (h : alOk y i a = true) : r_ref18_alive y i a = some (.t .bool (aliveF y i a), []) := by
  simp only [alOk, Bool.and_eq_true] at h
  obtain ⟨⟨h1, h2⟩, h3⟩ := h
  have h1' := h1
  have h2' := h2
  simp only [polSmall, decide_eq_true_eq] at h1'
  simp only [polLen, lenOk5, Bool.and_eq_true, decide_eq_true_eq] at h2'
  have hz : szOk y a = true := h1
  have hl : 2 ≤ (daysF y).length ∧ (daysF y).length ≤ 2 * y.1.length + 2 := cuts_len y.1
  have hs : (sizesR y a).length ≤ 17 + 2 * y.1.length := by
    have h := sizeZ_len a (base17 ++ belows2 y.1) []
    have h4 := belows2_len y.1
    have h5 : base17.length = 17 := rfl
    unfold sizesR
    simp only [List.length_append, List.length_nil] at h
    omega
  simp only [r_ref18_alive, r_ref18_alive_1, h3, hz, h2, br_true, Int.toNat_zero, List.drop_zero, aliveF, ine_dec, lgt]
  have hd : decide (1 ≤ (daysF y).length ∧ (daysF y).length ≤ 500000 ∧ y.1.length ≤ 100000 ∧ (0 : Int) ≤ 0 ∧ (0 : Int) ≤ ((sizesR y a).length : Int) ∧ (sizesR y a).length ≤ 500000) = true := dec_true ⟨by omega, by omega, h2'.1, Int.le_refl 0, by omega, by omega⟩
  simp only [hd, br_true]
  generalize y.1.getD i.toNat tyRule.zero = r
  by_cases g1 : r.2.1 = 0
  · simp only [g1, ne_eq, not_true_eq_false, decide_false, br_false, false_and, if_false]
    cases (sizesR y a).any fun b => anyN 4 (fun q => pieceB (hitR y r i (a, (b, ())) q) (daysF y)) 4 <;> rfl
  · by_cases g2 : r.2.1 = a
    · simp only [g2, ne_eq, not_true_eq_false, decide_false, br_false, and_false, if_false]
      cases (sizesR y a).any fun b => anyN 4 (fun q => pieceB (hitR y r i (a, (b, ())) q) (daysF y)) 4 <;> cases decide (¬ a = 0) <;> rfl
    · simp [g1, g2, br_true]
def sp_ref18_alive : Ent := spec (.pr tyPolicy (.pr tI (.pr tI .nil))) (fun x => (alOk x.1 x.2.1 x.2.2.1)) (fun x => (.t .bool (aliveF x.1 x.2.1 x.2.2.1)))
theorem ms_ref18_alive : Meets Try.prog 58 (strip sp_ref18_alive) := by
  obtain ⟨c, hc, hi⟩ := Option.map_eq_some_iff.1 ok_ref18_alive
  exact meets_spec (R := runF g_ref18_alive tc_ref18_alive rv_ref18_alive false) (meets_of (by decide) Try.func58 hc hi Try.ntmps58 rok_ref18_alive gk_ref18_alive lk_ref18_alive mixed) fun x hok => (e_ref18_alive x.1 x.2.1 x.2.2.1).trans (s_ref18_alive x.1 x.2.1 x.2.2.1 hok)

/-! Dead -/
def anyA (y : Policy) (i : Int) : Bool := anyN 22 (fun a => aliveF y i a) 22
def deadR (y : Policy) (k : Int) : Nat → List Int
  | 0 => []
  | n + 1 => if anyA y k then deadR y (k + 1) n else k :: deadR y (k + 1) n
def DeadR (y : Policy) : List Int × Int := if polOk y then (deadR y 0 y.1.length, 0) else ([], 25)
def fg_ref18_Dead_0 : Fg := ⟨[(1, none), (5, none), (6, some tI), (7, some .bool), (8, some tI)], [(1, some tyPolicy), (5, none), (38, none)]⟩
def tb_ref18_Dead_0 : TC := (.sq (.sq (.reg [(.mk (some 21) none (.m (.pu (.mv (.t 8))))), (.mk (some 22) none (.m (.pu (.bin false .leq (.t 21) (.c (.v (.int .i64 22))))))), (.mk (some 23) none (.m (.pu (.mv (.t 22))))), (.mk (some 24) (some (23, true)) (.m (.pu (.mv (.t 7))))), (.mk (some 25) (some (23, true)) (.m (.pu (.nt (.t 24))))), (.mk (some 26) none (.m (.pu (.pick (.t 23) (.t 25) (.c (.v (.bool false)))))))]) (.cd (.t 26) .sk (.fg ⟨[(1, none), (5, none), (6, some tI), (7, some .bool)], [(1, some tyPolicy), (5, none), (38, none)]⟩ (.ex 2)))) (.sq (.bk 3 (.reg [(.mk (some 29) none (.m (.ld true 2 (.t 1)))), (.mk (some 30) none (.m (.pu (.mv (.t 6))))), (.mk (some 31) none (.m (.pu (.mv (.t 8))))), (.mk (some 32) none (.call 58 [(.t 29), (.t 30), (.t 31)])), (.mk (some 7) none (.m (.pu (.mv (.t 32)))))])) (.reg [(.mk (some 27) none (.m (.pu (.mv (.t 8))))), (.mk (some 28) none (.m (.pu (.bin false .add (.t 27) (.c (.v (.int .i64 1))))))), (.mk (some 8) none (.m (.pu (.mv (.t 28)))))])))
def fg_ref18_Dead_1 : Fg := ⟨[(1, none), (5, none), (6, some tI)], [(1, some tyPolicy), (5, none), (38, none)]⟩
def tb_ref18_Dead_1 : TC := (.sq (.sq (.reg [(.mk (some 14) none (.m (.pu (.mv (.t 6))))), (.mk (some 15) none (.m (.pu (.fa 0 (.t 1))))), (.mk (some 16) none (.m (.ld false 1 (.t 15)))), (.mk (some 17) none (.m (.pu (.len false (.t 16))))), (.mk (some 18) none (.m (.pu (.bin false .lss (.t 14) (.t 17)))))]) (.cd (.t 18) .sk (.fg ⟨[(5, none)], [(5, none), (38, none)]⟩ (.ex 0)))) (.sq (.bk 1 (.sq (.reg [(.mk (some 7) none (.m (.pu (.mv (.c (.v (.bool false)))))))]) (.sq (.sq (.reg [(.mk (some 8) none (.m (.pu (.mv (.c (.v (.int .i64 1)))))))]) (.bk 2 (.lp 0 fg_ref18_Dead_0 tb_ref18_Dead_0))) (.sq (.reg [(.mk (some 33) none (.m (.pu (.mv (.t 7))))), (.mk (some 34) none (.m (.pu (.nt (.t 33)))))]) (.cd (.t 34) (.reg [(.mk (some 35) none (.m (.pu (.mv (.t 5))))), (.mk (some 36) none (.m (.pu (.mv (.t 6))))), (.mk (some 37) none (.m (.bs 3 1 1 [(.v (.int .i64 0))] [(0, 1, (.t 36))]))), (.mk (some 38) none (.m (.app 3 1 8 (.t 35) (.t 37)))), (.mk (some 5) none (.m (.pu (.mv (.t 38)))))]) .sk))))) (.reg [(.mk (some 19) none (.m (.pu (.mv (.t 6))))), (.mk (some 20) none (.m (.pu (.bin false .add (.t 19) (.c (.v (.int .i64 1))))))), (.mk (some 6) none (.m (.pu (.mv (.t 20)))))])))
/-- cipherplan/cipherplanref18.Dead -/
def tc_ref18_Dead : TC := (.sq (.reg [(.mk (some 1) none (.m (.box (.t 0)))), (.mk (some 2) none (.m (.pu (.mv (.c (.v (.slice none 0 0))))))), (.mk (some 3) none (.m (.pu (.mv (.c (.v (.int .i64 0)))))))]) (.sq (.sq (.reg [(.mk (some 9) none (.m (.ld true 2 (.t 1)))), (.mk (some 10) none (.call 57 [(.t 9)])), (.mk (some 4) none (.m (.pu (.mv (.t 10)))))]) (.sq (.reg [(.mk (some 11) none (.m (.pu (.mv (.t 4))))), (.mk (some 12) none (.m (.pu (.bin false .neq (.t 11) (.c (.v (.int .i64 0)))))))]) (.cd (.t 12) (.sq (.reg [(.mk (some 13) none (.m (.pu (.mv (.t 4))))), (.mk (some 2) none (.m (.pu (.mv (.c (.v (.slice none 0 0))))))), (.mk (some 3) none (.m (.pu (.mv (.t 13)))))]) .rt) .sk))) (.sq (.reg [(.mk (some 5) none (.m (.pu (.mv (.c (.v (.slice none 0 0)))))))]) (.sq (.sq (.reg [(.mk (some 6) none (.m (.pu (.mv (.c (.v (.int .i64 0)))))))]) (.bk 0 (.nw 5 3 (.lp 1 fg_ref18_Dead_1 tb_ref18_Dead_1)))) (.sq (.reg [(.mk (some 39) none (.m (.pu (.mv (.t 5))))), (.mk (some 2) none (.m (.pu (.mv (.t 39))))), (.mk (some 3) none (.m (.pu (.mv (.c (.v (.int .i64 0)))))))]) .rt)))))
def rv_ref18_Dead : List (RV × Option Ty) := [((.t 2), some (.sl tI)), ((.t 3), some tI)]
abbrev sh_ref18_Dead_0 : Sh := ⟨[(1, .ptr 1 0), (5, .ms 5), (6, .ty tI), (7, .ty .bool), (8, .ty tI)], [(1, .box tyPolicy), (5, .arr 3 tI), (38, .no)]⟩
def st_ref18_Dead_0 (x6 : Int) (x7 : Bool) (x8 : Int) (y1 : Policy) (y5 : (List Int)) : VS := sh_ref18_Dead_0.st ((), (), x6, x7, x8, ()) (y1, y5, (), ())
abbrev sh_ref18_Dead_0_e2 : Sh := ⟨[(1, .ptr 1 0), (5, .ms 5), (6, .ty tI), (7, .ty .bool)], [(1, .box tyPolicy), (5, .arr 3 tI), (38, .no)]⟩
def st_ref18_Dead_0_e2 (x6 : Int) (x7 : Bool) (y1 : Policy) (y5 : (List Int)) : VS := sh_ref18_Dead_0_e2.st ((), (), x6, x7, ()) (y1, y5, (), ())
-- loop 0: (x6 : Int) (x7 : Bool) (x8 : Int) (y1 : Policy) (y5 : (List Int)); out: ('exit', 2) (x6 : Int) (x7 : Bool) (y1 : Policy) (y5 : (List Int))
abbrev sh_ref18_Dead_1 : Sh := ⟨[(1, .ptr 1 0), (5, .ms 5), (6, .ty tI)], [(1, .box tyPolicy), (5, .arr 3 tI), (38, .no)]⟩
def st_ref18_Dead_1 (x6 : Int) (y1 : Policy) (y5 : (List Int)) : VS := sh_ref18_Dead_1.st ((), (), x6, ()) (y1, y5, (), ())
abbrev sh_ref18_Dead_1_e0 : Sh := ⟨[(5, .ms 5)], [(5, .arr 3 tI), (38, .no)]⟩
def st_ref18_Dead_1_e0 (y5 : (List Int)) : VS := sh_ref18_Dead_1_e0.st ((), ()) (y5, (), ())
-- loop 1: (x6 : Int) (y1 : Policy) (y5 : (List Int)); out: ('exit', 0) (y5 : (List Int))
def L_ref18_Dead_0 : VS → Option (Bool × List (Bool × Exit × VS)) := mkL sh_ref18_Dead_0 (fun x y => (decide (1 ≤ x.2.2.2.2.1 ∧ x.2.2.2.2.1 ≤ 23) && polOk y.1 && cIx y.1.1 x.2.2.1)) (fun x y => [(true, .exit 2, st_ref18_Dead_0_e2 (x.2.2.1) (x.2.2.2.1 || anyN 22 (fun a => aliveF y.1 x.2.2.1 a) (23 - x.2.2.2.2.1).toNat) (y.1) (y.2.1))])
def L_ref18_Dead_1 : VS → Option (Bool × List (Bool × Exit × VS)) := mkL sh_ref18_Dead_1 (fun x y => (decide (0 ≤ x.2.2.1 ∧ x.2.2.1 ≤ y.1.1.length ∧ (y.2.1.length : Int) ≤ x.2.2.1) && polOk y.1)) (fun x y => [(true, .exit 0, st_ref18_Dead_1_e0 (y.2.1 ++ deadR y.1 x.2.2.1 (y.1.1.length - x.2.2.1.toNat)))])
def g_ref18_Dead : G := ⟨TYs, [], 40, EL [(57, sp_ref17_Check), (58, sp_ref18_alive)], keeps, (Ls [L_ref18_Dead_0, L_ref18_Dead_1]), IL [], RL []⟩
def b_ref18_Dead_0 (x6 : Int) (x7 : Bool) (x8 : Int) (y1 : Policy) (y5 : (List Int)) : Option (Exit × VS) :=
  br ((ile x8 22))
    (br ((!x7))
      (br ((alOk y1 x6 x8))
        (some (.normal, st_ref18_Dead_0 x6 (aliveF y1 x6 x8) (iadd .i64 x8 1) y1 y5))
        (none))
      (some (.exit 2, st_ref18_Dead_0_e2 x6 x7 y1 y5)))
    (some (.exit 2, st_ref18_Dead_0_e2 x6 x7 y1 y5))
noncomputable def lp_ref18_Dead_0 (x6 : Int) (x7 : Bool) (x8 : Int) (y1 : Policy) (y5 : (List Int)) : Option (Exit × VS) := loopF (roundF g_ref18_Dead fg_ref18_Dead_0 tb_ref18_Dead_0) (st_ref18_Dead_0 x6 x7 x8 y1 y5)
noncomputable def n_ref18_Dead_0 (x6 : Int) (x7 : Bool) (x8 : Int) (y1 : Policy) (y5 : (List Int)) : Option (Exit × VS) :=
  br ((ile x8 22))
    (br ((!x7))
      (br ((alOk y1 x6 x8))
        (lp_ref18_Dead_0 x6 (aliveF y1 x6 x8) (iadd .i64 x8 1) y1 y5)
        (none))
      (some (.exit 2, st_ref18_Dead_0_e2 x6 x7 y1 y5)))
    (some (.exit 2, st_ref18_Dead_0_e2 x6 x7 y1 y5))
def la_ref18_Dead_0 (x6 : Int) (x7 : Bool) (x8 : Int) (y1 : Policy) (y5 : (List Int)) : Option (Exit × VS) := some (.exit 2, st_ref18_Dead_0_e2 (x6) (x7 || anyN 22 (fun a => aliveF y1 x6 a) (23 - x8).toNat) (y1) (y5))
theorem be_ref18_Dead_0 (x6 : Int) (x7 : Bool) (x8 : Int) (y1 : Policy) (y5 : (List Int)) : roundF g_ref18_Dead fg_ref18_Dead_0 tb_ref18_Dead_0 (st_ref18_Dead_0 x6 x7 x8 y1 y5) = b_ref18_Dead_0 x6 x7 x8 y1 y5 := by kernel_rfl
theorem ln_ref18_Dead_0 (x6 : Int) (x7 : Bool) (x8 : Int) (y1 : Policy) (y5 : (List Int)) : lp_ref18_Dead_0 x6 x7 x8 y1 y5 = n_ref18_Dead_0 x6 x7 x8 y1 y5 := (loopF_nxt _ _).trans (by
  rw [be_ref18_Dead_0]
  simp only [b_ref18_Dead_0, n_ref18_Dead_0, nxt_br, nxt_n, nxt_r, nxt_e, nxt_0]
  rfl)
def b_ref18_Dead_1 (x6 : Int) (y1 : Policy) (y5 : (List Int)) : Option (Exit × VS) :=
  br ((ilt x6 (llen y1.1)))
    (br ((decide (1 ≤ (1 : Int) ∧ (1 : Int) ≤ 23) && polOk y1 && cIx y1.1 x6))
      (br ((!(false || anyN 22 (fun a => aliveF y1 x6 a) (23 - (1 : Int)).toNat)))
        (br (cApp (y5) ([(x6)]) 8)
          (some (.normal, st_ref18_Dead_1 (iadd .i64 (x6) 1) (y1) ((y5) ++ ([(x6)]))))
          (none))
        (some (.normal, st_ref18_Dead_1 (iadd .i64 (x6) 1) (y1) (y5))))
      (none))
    (some (.exit 0, st_ref18_Dead_1_e0 y5))
noncomputable def lp_ref18_Dead_1 (x6 : Int) (y1 : Policy) (y5 : (List Int)) : Option (Exit × VS) := loopF (roundF g_ref18_Dead fg_ref18_Dead_1 tb_ref18_Dead_1) (st_ref18_Dead_1 x6 y1 y5)
noncomputable def n_ref18_Dead_1 (x6 : Int) (y1 : Policy) (y5 : (List Int)) : Option (Exit × VS) :=
  br ((ilt x6 (llen y1.1)))
    (br ((decide (1 ≤ (1 : Int) ∧ (1 : Int) ≤ 23) && polOk y1 && cIx y1.1 x6))
      (br ((!(false || anyN 22 (fun a => aliveF y1 x6 a) (23 - (1 : Int)).toNat)))
        (br (cApp (y5) ([(x6)]) 8)
          (lp_ref18_Dead_1 (iadd .i64 (x6) 1) (y1) ((y5) ++ ([(x6)])))
          (none))
        (lp_ref18_Dead_1 (iadd .i64 (x6) 1) (y1) (y5)))
      (none))
    (some (.exit 0, st_ref18_Dead_1_e0 y5))
def la_ref18_Dead_1 (x6 : Int) (y1 : Policy) (y5 : (List Int)) : Option (Exit × VS) := some (.exit 0, st_ref18_Dead_1_e0 (y5 ++ deadR y1 x6 (y1.1.length - x6.toNat)))
theorem be_ref18_Dead_1 (x6 : Int) (y1 : Policy) (y5 : (List Int)) : roundF g_ref18_Dead fg_ref18_Dead_1 tb_ref18_Dead_1 (st_ref18_Dead_1 x6 y1 y5) = b_ref18_Dead_1 x6 y1 y5 := by kernel_rfl
theorem ln_ref18_Dead_1 (x6 : Int) (y1 : Policy) (y5 : (List Int)) : lp_ref18_Dead_1 x6 y1 y5 = n_ref18_Dead_1 x6 y1 y5 := (loopF_nxt _ _).trans (by
  rw [be_ref18_Dead_1]
  simp only [b_ref18_Dead_1, n_ref18_Dead_1, nxt_br, nxt_n, nxt_r, nxt_e, nxt_0]
  rfl)
def r_ref18_Dead (p0 : Policy) : Option (V × List VO) :=
  br ((polLen p0))
    (br ((ine (checkF p0) 0))
      (some (.tu [(.t (.sl tI) ([] : List Int)), (.t tI (checkF p0))], []))
      (br ((decide (0 ≤ (0 : Int) ∧ (0 : Int) ≤ p0.1.length ∧ (([] : List Int).length : Int) ≤ (0 : Int)) && polOk p0))
        (some (.tu [(.t (.sl tI) (([] : List Int) ++ deadR p0 (0 : Int) (p0.1.length - (0 : Int).toNat))), (.t tI 0)], []))
        (none)))
    (none)
theorem e_ref18_Dead (p0 : Policy) : runF g_ref18_Dead tc_ref18_Dead rv_ref18_Dead false [.t tyPolicy p0] [] = r_ref18_Dead p0 := by kernel_rfl
theorem ok_ref18_Dead : Option.map (trC Try.prog) Try.f30.body = some tc_ref18_Dead.er := by kernel_rfl
theorem rok_ref18_Dead : trVs Try.prog Try.f30.results.toList = some (rv_ref18_Dead.map Prod.fst) := by kernel_rfl
theorem en_ref18_Dead : Entered Try.prog 30 := .inr ⟨by decide, _, Try.func30, by kernel_rfl, by kernel_rfl⟩
theorem gk_ref18_Dead : GOk Try.prog g_ref18_Dead := gok_of _ (by
  intro p hp
  simp only [List.mem_cons, List.not_mem_nil, or_false] at hp
  rcases hp with rfl | rfl
  · exact ⟨en_ref17_Check, ms_ref17_Check⟩
  · exact ⟨en_ref18_alive, ms_ref18_alive⟩)
theorem l_ref18_Dead_0 (x6 : Int) (x7 : Bool) (x8 : Int) (y1 : Policy) (y5 : (List Int)) (h : (decide (1 ≤ x8 ∧ x8 ≤ 23) && polOk y1 && cIx y1.1 x6) = true) : lp_ref18_Dead_0 x6 x7 x8 y1 y5 = la_ref18_Dead_0 x6 x7 x8 y1 y5 := by
  simp only [Bool.and_eq_true, decide_eq_true_eq] at h
  obtain ⟨⟨⟨h1, h2⟩, h3⟩, h4⟩ := h
  obtain ⟨k, rfl⟩ := Int.eq_ofNat_of_zero_le (show 0 ≤ x8 by omega)
  have h8 : 1 ≤ k := by omega
  have ho : ∀ a, alOk y1 x6 a = true := fun a => by simp [alOk, pol_len h3, h4]
  revert h8 x7
  refine up_ind 23 (fun k => ∀ x7 : Bool, 1 ≤ k → lp_ref18_Dead_0 x6 x7 (k : Int) y1 y5 = la_ref18_Dead_0 x6 x7 (k : Int) y1 y5) ?_ ?_ k (by omega)
  · intro x7 _
    rw [ln_ref18_Dead_0]
    have e1 : ile ((23 : Nat) : Int) 22 = false := rfl
    simp only [n_ref18_Dead_0, e1, br_false, la_ref18_Dead_0]
    rw [show (23 - ((23 : Nat) : Int)).toNat = 0 from rfl]
    simp [anyN]
  · intro k hk ih x7 hk1
    rw [ln_ref18_Dead_0]
    have e1 : ile (k : Int) 22 = true := by simp only [ile, decide_eq_true_eq]; omega
    have e2 : (23 - (k : Int)).toNat = (23 - ((k + 1 : Nat) : Int)).toNat + 1 := by omega
    have e3 : (22 : Int) - ((23 - ((k + 1 : Nat) : Int)).toNat : Int) = (k : Int) := by omega
    simp only [n_ref18_Dead_0, e1, br_true, add1 (show k < 4611686018427387904 by omega), ih _ (show 1 ≤ k + 1 by omega), ho]
    simp only [la_ref18_Dead_0, e2, anyN, e3]
    cases x7 <;> simp [br_true, br_false]
theorem l_ref18_Dead_1 (x6 : Int) (y1 : Policy) (y5 : (List Int)) (h : (decide (0 ≤ x6 ∧ x6 ≤ y1.1.length ∧ (y5.length : Int) ≤ x6) && polOk y1) = true) : lp_ref18_Dead_1 x6 y1 y5 = la_ref18_Dead_1 x6 y1 y5 := by
  simp only [Bool.and_eq_true, decide_eq_true_eq] at h
  obtain ⟨⟨h1, h2, h3⟩, h4⟩ := h
  obtain ⟨k, rfl⟩ := Int.eq_ofNat_of_zero_le h1
  have h60 := polOk_len h4
  revert y5
  refine range_ind y1.1 (fun k => ∀ y5 : List Int, (y5.length : Int) ≤ (k : Int) → lp_ref18_Dead_1 (k : Int) y1 y5 = la_ref18_Dead_1 (k : Int) y1 y5) ?_ ?_ k (by omega)
  · intro y5 _
    rw [ln_ref18_Dead_1]
    simp [n_ref18_Dead_1, la_ref18_Dead_1, ilt_nat, llen, br_false, deadR]
  · intro k hk ih y5 hy
    rw [ln_ref18_Dead_1]
    simp only [n_ref18_Dead_1, ilt_nat, llen, hk, cIx_nat, decide_true, h4, Bool.and_true, br_true, add1 (show k < 4611686018427387904 by omega), Bool.false_or]
    rw [dec_true (show (1 : Int) ≤ 1 ∧ (1 : Int) ≤ 23 by omega), br_true, cApp_ok (by simp; omega) (by omega), br_true]
    have el : la_ref18_Dead_1 (k : Int) y1 y5 = la_ref18_Dead_1 ((k + 1 : Nat) : Int) y1 (if anyA y1 (k : Int) then y5 else y5 ++ [(k : Int)]) := by
      have e1 : y1.1.length - k = (y1.1.length - (k + 1)) + 1 := by omega
      simp only [la_ref18_Dead_1, Int.toNat_natCast, e1, deadR]
      have e2 : ((k + 1 : Nat) : Int) = (k : Int) + 1 := by omega
      rw [e2]
      cases anyA y1 (k : Int) <;> simp
    rw [el]
    have e5 : anyN 22 (fun a => aliveF y1 (k : Int) a) (23 - (1 : Int)).toNat = anyA y1 (k : Int) := rfl
    rw [e5]
    cases hv : anyA y1 (k : Int) with
    | true => rw [Bool.not_true, br_false, if_pos rfl]; exact ih _ (by omega)
    | false => rw [Bool.not_false, br_true, if_neg (by simp)]; exact ih _ (by simp; omega)
theorem lo_ref18_Dead_0 : ∀ S l p, g_ref18_Dead.L 0 (fgt fg_ref18_Dead_0 S) = some (true, l) → pickA l = some p → loopF (roundF g_ref18_Dead fg_ref18_Dead_0 tb_ref18_Dead_0) S = some p :=
  lok_of (s := sh_ref18_Dead_0) ⟨by decide, by decide⟩ (by kernel_rfl) fun x y hok p hp => by
  simp only [pickA_br, pickA_one] at hp
  exact (l_ref18_Dead_0 x.2.2.1 x.2.2.2.1 x.2.2.2.2.1 y.1 y.2.1 (by simpa using hok)).trans hp
theorem lo_ref18_Dead_1 : ∀ S l p, g_ref18_Dead.L 1 (fgt fg_ref18_Dead_1 S) = some (true, l) → pickA l = some p → loopF (roundF g_ref18_Dead fg_ref18_Dead_1 tb_ref18_Dead_1) S = some p :=
  lok_of (s := sh_ref18_Dead_1) ⟨by decide, by decide⟩ (by kernel_rfl) fun x y hok p hp => by
  simp only [pickA_br, pickA_one] at hp
  exact (l_ref18_Dead_1 x.2.2.1 y.1 y.2.1 (by simpa using hok)).trans hp
theorem lk_ref18_Dead : tc_ref18_Dead.lok g_ref18_Dead := by
  repeat (first | exact trivial | exact lo_ref18_Dead_0 | exact lo_ref18_Dead_1 | refine ⟨?_, ?_⟩)
theorem s_ref18_Dead (y : Policy) (h : polLen y = true) : r_ref18_Dead y = some (.tu [.t (.sl tI) (DeadR y).1, .t tI (DeadR y).2], []) := by
  simp only [r_ref18_Dead, h, br_true, checkF, DeadR]
  cases hp : polOk y with
  | false => rfl
  | true =>
    simp only [if_true, show ine 0 0 = false from rfl, br_false, Bool.and_true]
    rw [dec_true ⟨Int.le_refl 0, by omega, by simp⟩, br_true]
    rfl
def sp_ref18_Dead : Ent := spec (.pr tyPolicy .nil) (fun x => (polLen x.1)) (fun x => (.tu [(.t (.sl tI) ((DeadR x.1).1)), (.t tI ((DeadR x.1).2))]))
theorem ms_ref18_Dead : Meets Try.prog 30 (strip sp_ref18_Dead) := by
  obtain ⟨c, hc, hi⟩ := Option.map_eq_some_iff.1 ok_ref18_Dead
  exact meets_spec (R := runF g_ref18_Dead tc_ref18_Dead rv_ref18_Dead false) (meets_of (by decide) Try.func30 hc hi Try.ntmps30 rok_ref18_Dead gk_ref18_Dead lk_ref18_Dead mixed) fun x hok => (e_ref18_Dead x.1).trans (s_ref18_Dead x.1 hok)
end Go.Proofs.Ytfldcnhkppgmbaa.K
