/-
  verdict: uses, cut.
-/
import Derived.Test.YtfldcnhkppgmbaaV8
set_option linter.unusedSimpArgs false
set_option linter.unusedVariables false
namespace Go.Proofs.Ytfldcnhkppgmbaa.K
open Go.RowKit
/-! uses -/
def belows (l : List Rule) : List Int := l.map fun r => r.2.2.1
def base16 : List Int := [0, 40, 44, 65, 87, 112, 128, 160, 168, 224, 256, 384, 512, 521, 768, 1024]
def sizesP (rs : List Rule) : List Int := Lib.compact (sortI (base16 ++ belows rs))
def usesA (a : Int) (l : List Int) : List Keep := (l.map fun b => ((a, (b, ())) : Keep)).filter validF
def usesZ (l : List Int) : Nat → List Keep
  | 0 => []
  | n + 1 => usesA (22 - (n : Int)) l ++ usesZ l n
def usesF (y : Policy) : List Keep := usesZ (sizesP y.1) 23
def polSmall (y : Policy) : Bool := decide (y.1.length ≤ 10000)
def fg_verdict_uses_0 : Fg := ⟨[(3, none), (13, some (.sl tyRule)), (14, some tI), (15, some tI)], [(3, none), (11, none), (23, none)]⟩
def tb_verdict_uses_0 : TC := (.sq (.reg [(.mk (some 16) none (.m (.pu (.bin false .lss (.t 15) (.t 14)))))]) (.sq (.cd (.t 16) .sk (.fg ⟨[(3, none)], [(3, none), (11, none), (23, none)]⟩ (.ex 0))) (.sq (.bk 1 (.sq (.reg [(.mk (some 17) none (.m (.pu (.ix 6 (.t 13) (.t 15))))), (.mk (some 18) none (.m (.ld true 6 (.t 17)))), (.mk (some 5) none (.m (.new [(.v (.bool false)), (.v (.int .i64 0)), (.v (.int .i64 0)), (.v (.int .i64 0)), (.v (.int .i64 0)), (.v (.int .i64 0))]))), (.mk none none (.m (.st 6 (.t 5) (.t 18))))]) (.reg [(.mk (some 19) none (.m (.pu (.mv (.t 3))))), (.mk (some 20) none (.m (.pu (.fa 2 (.t 5))))), (.mk (some 21) none (.m (.ld false 1 (.t 20)))), (.mk (some 22) none (.m (.bs 3 1 1 [(.v (.int .i64 0))] [(0, 1, (.t 21))]))), (.mk (some 23) none (.m (.app 3 1 8 (.t 19) (.t 22)))), (.mk (some 3) none (.m (.pu (.mv (.t 23)))))]))) (.reg [(.mk (some 24) none (.m (.pu (.bin false .add (.t 15) (.c (.v (.int .i64 1))))))), (.mk (some 15) none (.m (.pu (.mv (.t 24)))))]))))
def fg_verdict_uses_1 : Fg := ⟨[(3, some (.sl tI)), (6, none), (7, some tI), (29, some tI), (32, some (.sl tI)), (33, some tI), (34, some tI)], [(3, none), (6, none), (11, none), (23, none), (46, none)]⟩
def tb_verdict_uses_1 : TC := (.sq (.reg [(.mk (some 35) none (.m (.pu (.bin false .lss (.t 34) (.t 33)))))]) (.sq (.cd (.t 35) .sk (.fg ⟨[(3, none), (6, none), (29, some tI)], [(3, none), (6, none), (11, none), (23, none), (46, none)]⟩ (.ex 4))) (.sq (.bk 5 (.sq (.reg [(.mk (some 36) none (.m (.pu (.ix 1 (.t 32) (.t 34))))), (.mk (some 37) none (.m (.ld false 1 (.t 36)))), (.mk (some 9) none (.m (.pu (.mv (.t 37)))))]) (.sq (.reg [(.mk (some 38) none (.m (.pu (.mv (.t 7))))), (.mk (some 39) none (.m (.pu (.mv (.t 9))))), (.mk (some 40) none (.m (.pu (.bd [(.v (.int .i64 0)), (.v (.int .i64 0))] [(0, 1, (.t 38)), (1, 1, (.t 39))])))), (.mk (some 10) none (.m (.new [(.v (.int .i64 0)), (.v (.int .i64 0))]))), (.mk none none (.m (.st 2 (.t 10) (.t 40))))]) (.sq (.reg [(.mk (some 41) none (.m (.ld true 2 (.t 10)))), (.mk (some 42) none (.call 62 [(.t 41)]))]) (.cd (.t 42) (.reg [(.mk (some 43) none (.m (.pu (.mv (.t 6))))), (.mk (some 44) none (.m (.ld true 2 (.t 10)))), (.mk (some 45) none (.m (.bs 40 2 1 [(.v (.int .i64 0)), (.v (.int .i64 0))] [(0, 2, (.t 44))]))), (.mk (some 46) none (.m (.app 40 2 16 (.t 43) (.t 45)))), (.mk (some 6) none (.m (.pu (.mv (.t 46)))))]) .sk))))) (.reg [(.mk (some 47) none (.m (.pu (.bin false .add (.t 34) (.c (.v (.int .i64 1))))))), (.mk (some 34) none (.m (.pu (.mv (.t 47)))))]))))
def fg_verdict_uses_2 : Fg := ⟨[(3, some (.sl tI)), (6, none), (29, some tI)], [(3, none), (6, none), (11, none), (23, none), (46, none)]⟩
def tb_verdict_uses_2 : TC := (.sq (.reg [(.mk (some 30) none (.m (.pu (.bin false .lss (.t 29) (.c (.v (.int .i64 23)))))))]) (.sq (.cd (.t 30) .sk (.fg ⟨[(6, none)], [(6, none), (46, none)]⟩ (.ex 2))) (.sq (.bk 3 (.sq (.reg [(.mk (some 31) none (.m (.pu (.mv (.t 29))))), (.mk (some 7) none (.m (.pu (.mv (.t 31)))))]) (.sq (.reg [(.mk (some 32) none (.m (.pu (.mv (.t 3))))), (.mk (some 33) none (.m (.pu (.len false (.t 32))))), (.mk (some 34) none (.m (.pu (.mv (.c (.v (.int .i64 0)))))))]) (.bk 4 (.nw 6 40 (.lp 1 fg_verdict_uses_1 tb_verdict_uses_1)))))) (.reg [(.mk (some 48) none (.m (.pu (.bin false .add (.t 29) (.c (.v (.int .i64 1))))))), (.mk (some 29) none (.m (.pu (.mv (.t 48)))))]))))
/-- cipherplan/verdict.uses -/
def tc_verdict_uses : TC := (.sq (.reg [(.mk (some 1) none (.m (.box (.t 0)))), (.mk (some 2) none (.m (.pu (.mv (.c (.v (.slice none 0 0)))))))]) (.sq (.reg [(.mk (some 11) none (.m (.bs 3 1 16 [(.v (.int .i64 0)), (.v (.int .i64 0)), (.v (.int .i64 0)), (.v (.int .i64 0)), (.v (.int .i64 0)), (.v (.int .i64 0)), (.v (.int .i64 0)), (.v (.int .i64 0)), (.v (.int .i64 0)), (.v (.int .i64 0)), (.v (.int .i64 0)), (.v (.int .i64 0)), (.v (.int .i64 0)), (.v (.int .i64 0)), (.v (.int .i64 0)), (.v (.int .i64 0))] [(0, 1, (.c (.v (.int .i64 0)))), (1, 1, (.c (.v (.int .i64 40)))), (2, 1, (.c (.v (.int .i64 44)))), (3, 1, (.c (.v (.int .i64 65)))), (4, 1, (.c (.v (.int .i64 87)))), (5, 1, (.c (.v (.int .i64 112)))), (6, 1, (.c (.v (.int .i64 128)))), (7, 1, (.c (.v (.int .i64 160)))), (8, 1, (.c (.v (.int .i64 168)))), (9, 1, (.c (.v (.int .i64 224)))), (10, 1, (.c (.v (.int .i64 256)))), (11, 1, (.c (.v (.int .i64 384)))), (12, 1, (.c (.v (.int .i64 512)))), (13, 1, (.c (.v (.int .i64 521)))), (14, 1, (.c (.v (.int .i64 768)))), (15, 1, (.c (.v (.int .i64 1024))))]))), (.mk (some 3) none (.m (.pu (.mv (.t 11)))))]) (.sq (.sq (.reg [(.mk (some 12) none (.m (.pu (.fa 0 (.t 1))))), (.mk (some 13) none (.m (.ld false 1 (.t 12)))), (.mk (some 14) none (.m (.pu (.len false (.t 13))))), (.mk (some 15) none (.m (.pu (.mv (.c (.v (.int .i64 0)))))))]) (.bk 0 (.nw 3 3 (.lp 0 fg_verdict_uses_0 tb_verdict_uses_0)))) (.sq (.reg [(.mk (some 25) none (.m (.pu (.mv (.t 3))))), (.mk (some 26) none (.call 74 [(.t 25)]))]) (.sq (.reg [(.mk (some 27) none (.m (.pu (.mv (.t 3))))), (.mk (some 28) none (.call 75 [(.t 27)])), (.mk (some 3) none (.m (.pu (.mv (.t 28)))))]) (.sq (.reg [(.mk (some 6) none (.m (.pu (.mv (.c (.v (.slice none 0 0)))))))]) (.sq (.sq (.reg [(.mk (some 29) none (.m (.pu (.mv (.c (.v (.int .i64 0)))))))]) (.bk 2 (.nw 6 40 (.lp 2 fg_verdict_uses_2 tb_verdict_uses_2)))) (.sq (.reg [(.mk (some 49) none (.m (.pu (.mv (.t 6))))), (.mk (some 2) none (.m (.pu (.mv (.t 49)))))]) .rt))))))))
def rv_verdict_uses : List (RV × Option Ty) := [((.t 2), some (.sl tyKeep))]
abbrev sh_verdict_uses_0 : Sh := ⟨[(3, .ms 11), (13, .ty (.sl tyRule)), (14, .ty tI), (15, .ty tI)], [(3, .no), (11, .arr 3 tI), (23, .no)]⟩
def st_verdict_uses_0 (x13 : (List Rule)) (x14 : Int) (x15 : Int) (y11 : (List Int)) : VS := sh_verdict_uses_0.st ((), x13, x14, x15, ()) ((), y11, (), ())
abbrev sh_verdict_uses_0_e0 : Sh := ⟨[(3, .ms 11)], [(3, .no), (11, .arr 3 tI), (23, .no)]⟩
def st_verdict_uses_0_e0 (y11 : (List Int)) : VS := sh_verdict_uses_0_e0.st ((), ()) ((), y11, (), ())
-- loop 0: (x13 : (List Rule)) (x14 : Int) (x15 : Int) (y11 : (List Int)); out: ('exit', 0) (y11 : (List Int))
abbrev sh_verdict_uses_1 : Sh := ⟨[(3, .ty (.sl tI)), (6, .ms 6), (7, .ty tI), (29, .ty tI), (32, .ty (.sl tI)), (33, .ty tI), (34, .ty tI)], [(3, .no), (6, .arr 40 tyKeep), (11, .no), (23, .no), (46, .no)]⟩
def st_verdict_uses_1 (x3 : (List Int)) (x7 : Int) (x29 : Int) (x32 : (List Int)) (x33 : Int) (x34 : Int) (y6 : (List Keep)) : VS := sh_verdict_uses_1.st (x3, (), x7, x29, x32, x33, x34, ()) ((), y6, (), (), (), ())
abbrev sh_verdict_uses_1_e4 : Sh := ⟨[(3, .ty (.sl tI)), (6, .ms 6), (29, .ty tI)], [(3, .no), (6, .arr 40 tyKeep), (11, .no), (23, .no), (46, .no)]⟩
def st_verdict_uses_1_e4 (x3 : (List Int)) (x29 : Int) (y6 : (List Keep)) : VS := sh_verdict_uses_1_e4.st (x3, (), x29, ()) ((), y6, (), (), (), ())
-- loop 1: (x3 : (List Int)) (x7 : Int) (x29 : Int) (x32 : (List Int)) (x33 : Int) (x34 : Int) (y6 : (List Keep)); out: ('exit', 4) (x3 : (List Int)) (x29 : Int) (y6 : (List Keep))
abbrev sh_verdict_uses_2 : Sh := ⟨[(3, .ty (.sl tI)), (6, .ms 6), (29, .ty tI)], [(3, .no), (6, .arr 40 tyKeep), (11, .no), (23, .no), (46, .no)]⟩
def st_verdict_uses_2 (x3 : (List Int)) (x29 : Int) (y6 : (List Keep)) : VS := sh_verdict_uses_2.st (x3, (), x29, ()) ((), y6, (), (), (), ())
abbrev sh_verdict_uses_2_e2 : Sh := ⟨[(6, .ms 6)], [(6, .arr 40 tyKeep), (46, .no)]⟩
def st_verdict_uses_2_e2 (y6 : (List Keep)) : VS := sh_verdict_uses_2_e2.st ((), ()) (y6, (), ())
-- loop 2: (x3 : (List Int)) (x29 : Int) (y6 : (List Keep)); out: ('exit', 2) (y6 : (List Keep))
def L_verdict_uses_0 : VS → Option (Bool × List (Bool × Exit × VS)) := mkL sh_verdict_uses_0 (fun x y => (rngOk x.2.1 x.2.2.1 x.2.2.2.1 && decide ((y.2.1.length : Int) ≤ 16 + x.2.2.2.1))) (fun x y => [(true, .exit 0, st_verdict_uses_0_e0 (y.2.1 ++ belows (x.2.1.drop x.2.2.2.1.toNat)))])
def L_verdict_uses_1 : VS → Option (Bool × List (Bool × Exit × VS)) := mkL sh_verdict_uses_1 (fun x y => (decide (x.2.2.2.2.2.1 = (x.2.2.2.2.1.length : Int) ∧ 0 ≤ x.2.2.2.2.2.2.1 ∧ x.2.2.2.2.2.2.1 ≤ x.2.2.2.2.2.1 ∧ x.2.2.2.2.1.length ≤ 17000 ∧ (y.2.1.length : Int) ≤ 391000 + x.2.2.2.2.2.2.1))) (fun x y => [(true, .exit 4, st_verdict_uses_1_e4 (x.1) (x.2.2.2.1) (y.2.1 ++ usesA x.2.2.1 (x.2.2.2.2.1.drop x.2.2.2.2.2.2.1.toNat)))])
def L_verdict_uses_2 : VS → Option (Bool × List (Bool × Exit × VS)) := mkL sh_verdict_uses_2 (fun x y => (decide (0 ≤ x.2.2.1 ∧ x.2.2.1 ≤ 23 ∧ x.1.length ≤ 17000 ∧ (y.2.1.length : Int) ≤ 17000 * x.2.2.1))) (fun x y => [(true, .exit 2, st_verdict_uses_2_e2 (y.2.1 ++ usesZ x.1 (23 - x.2.2.1).toNat))])
def g_verdict_uses : G := ⟨TYs, [11], 50, EL [(62, sp_catalog_Valid), (74, sp_slices_Sort_int_int), (75, sp_slices_Compact_int_int)], keeps, (Ls [L_verdict_uses_0, L_verdict_uses_1, L_verdict_uses_2]), IL [], RL []⟩
def b_verdict_uses_0 (x13 : (List Rule)) (x14 : Int) (x15 : Int) (y11 : (List Int)) : Option (Exit × VS) :=
  br ((ilt x15 x14))
    (br (cIx x13 x15)
      (br (cApp y11 ([(((lgt tyRule x13 (Int.toNat x15)).2).2).1]) 8)
        (some (.normal, st_verdict_uses_0 x13 x14 (iadd .i64 x15 1) (y11 ++ ([(((lgt tyRule x13 (Int.toNat x15)).2).2).1]))))
        (none))
      (none))
    (some (.exit 0, st_verdict_uses_0_e0 y11))
noncomputable def lp_verdict_uses_0 (x13 : (List Rule)) (x14 : Int) (x15 : Int) (y11 : (List Int)) : Option (Exit × VS) := loopF (roundF g_verdict_uses fg_verdict_uses_0 tb_verdict_uses_0) (st_verdict_uses_0 x13 x14 x15 y11)
noncomputable def n_verdict_uses_0 (x13 : (List Rule)) (x14 : Int) (x15 : Int) (y11 : (List Int)) : Option (Exit × VS) :=
  br ((ilt x15 x14))
    (br (cIx x13 x15)
      (br (cApp y11 ([(((lgt tyRule x13 (Int.toNat x15)).2).2).1]) 8)
        (lp_verdict_uses_0 x13 x14 (iadd .i64 x15 1) (y11 ++ ([(((lgt tyRule x13 (Int.toNat x15)).2).2).1])))
        (none))
      (none))
    (some (.exit 0, st_verdict_uses_0_e0 y11))
def la_verdict_uses_0 (x13 : (List Rule)) (x14 : Int) (x15 : Int) (y11 : (List Int)) : Option (Exit × VS) := some (.exit 0, st_verdict_uses_0_e0 (y11 ++ belows (x13.drop x15.toNat)))
theorem be_verdict_uses_0 (x13 : (List Rule)) (x14 : Int) (x15 : Int) (y11 : (List Int)) : roundF g_verdict_uses fg_verdict_uses_0 tb_verdict_uses_0 (st_verdict_uses_0 x13 x14 x15 y11) = b_verdict_uses_0 x13 x14 x15 y11 := by kernel_rfl
theorem ln_verdict_uses_0 (x13 : (List Rule)) (x14 : Int) (x15 : Int) (y11 : (List Int)) : lp_verdict_uses_0 x13 x14 x15 y11 = n_verdict_uses_0 x13 x14 x15 y11 := (loopF_nxt _ _).trans (by
  rw [be_verdict_uses_0]
  simp only [b_verdict_uses_0, n_verdict_uses_0, nxt_br, nxt_n, nxt_r, nxt_e, nxt_0]
  rfl)
def b_verdict_uses_1 (x3 : (List Int)) (x7 : Int) (x29 : Int) (x32 : (List Int)) (x33 : Int) (x34 : Int) (y6 : (List Keep)) : Option (Exit × VS) :=
  br ((ilt x34 x33))
    (br (cIx x32 x34)
      (br ((validF (x7, ((lgt tI x32 (Int.toNat x34)), ()))))
        (br (cApp y6 ([(x7, ((lgt tI x32 (Int.toNat x34)), ()))]) 16)
          (some (.normal, st_verdict_uses_1 x3 x7 x29 x32 x33 (iadd .i64 x34 1) (y6 ++ ([(x7, ((lgt tI x32 (Int.toNat x34)), ()))]))))
          (none))
        (some (.normal, st_verdict_uses_1 x3 x7 x29 x32 x33 (iadd .i64 x34 1) y6)))
      (none))
    (some (.exit 4, st_verdict_uses_1_e4 x3 x29 y6))
noncomputable def lp_verdict_uses_1 (x3 : (List Int)) (x7 : Int) (x29 : Int) (x32 : (List Int)) (x33 : Int) (x34 : Int) (y6 : (List Keep)) : Option (Exit × VS) := loopF (roundF g_verdict_uses fg_verdict_uses_1 tb_verdict_uses_1) (st_verdict_uses_1 x3 x7 x29 x32 x33 x34 y6)
noncomputable def n_verdict_uses_1 (x3 : (List Int)) (x7 : Int) (x29 : Int) (x32 : (List Int)) (x33 : Int) (x34 : Int) (y6 : (List Keep)) : Option (Exit × VS) :=
  br ((ilt x34 x33))
    (br (cIx x32 x34)
      (br ((validF (x7, ((lgt tI x32 (Int.toNat x34)), ()))))
        (br (cApp y6 ([(x7, ((lgt tI x32 (Int.toNat x34)), ()))]) 16)
          (lp_verdict_uses_1 x3 x7 x29 x32 x33 (iadd .i64 x34 1) (y6 ++ ([(x7, ((lgt tI x32 (Int.toNat x34)), ()))])))
          (none))
        (lp_verdict_uses_1 x3 x7 x29 x32 x33 (iadd .i64 x34 1) y6))
      (none))
    (some (.exit 4, st_verdict_uses_1_e4 x3 x29 y6))
def la_verdict_uses_1 (x3 : (List Int)) (x7 : Int) (x29 : Int) (x32 : (List Int)) (x33 : Int) (x34 : Int) (y6 : (List Keep)) : Option (Exit × VS) := some (.exit 4, st_verdict_uses_1_e4 (x3) (x29) (y6 ++ usesA x7 (x32.drop x34.toNat)))
theorem be_verdict_uses_1 (x3 : (List Int)) (x7 : Int) (x29 : Int) (x32 : (List Int)) (x33 : Int) (x34 : Int) (y6 : (List Keep)) : roundF g_verdict_uses fg_verdict_uses_1 tb_verdict_uses_1 (st_verdict_uses_1 x3 x7 x29 x32 x33 x34 y6) = b_verdict_uses_1 x3 x7 x29 x32 x33 x34 y6 := by kernel_rfl
theorem ln_verdict_uses_1 (x3 : (List Int)) (x7 : Int) (x29 : Int) (x32 : (List Int)) (x33 : Int) (x34 : Int) (y6 : (List Keep)) : lp_verdict_uses_1 x3 x7 x29 x32 x33 x34 y6 = n_verdict_uses_1 x3 x7 x29 x32 x33 x34 y6 := (loopF_nxt _ _).trans (by
  rw [be_verdict_uses_1]
  simp only [b_verdict_uses_1, n_verdict_uses_1, nxt_br, nxt_n, nxt_r, nxt_e, nxt_0]
  rfl)
def b_verdict_uses_2 (x3 : (List Int)) (x29 : Int) (y6 : (List Keep)) : Option (Exit × VS) :=
  br ((ilt x29 23))
    (br ((decide ((llen x3) = (x3.length : Int) ∧ 0 ≤ (0 : Int) ∧ (0 : Int) ≤ (llen x3) ∧ x3.length ≤ 17000 ∧ (y6.length : Int) ≤ 391000 + (0 : Int))))
      (some (.normal, st_verdict_uses_2 (x3) (iadd .i64 (x29) 1) (y6 ++ usesA x29 (x3.drop (0 : Int).toNat))))
      (none))
    (some (.exit 2, st_verdict_uses_2_e2 y6))
noncomputable def lp_verdict_uses_2 (x3 : (List Int)) (x29 : Int) (y6 : (List Keep)) : Option (Exit × VS) := loopF (roundF g_verdict_uses fg_verdict_uses_2 tb_verdict_uses_2) (st_verdict_uses_2 x3 x29 y6)
noncomputable def n_verdict_uses_2 (x3 : (List Int)) (x29 : Int) (y6 : (List Keep)) : Option (Exit × VS) :=
  br ((ilt x29 23))
    (br ((decide ((llen x3) = (x3.length : Int) ∧ 0 ≤ (0 : Int) ∧ (0 : Int) ≤ (llen x3) ∧ x3.length ≤ 17000 ∧ (y6.length : Int) ≤ 391000 + (0 : Int))))
      (lp_verdict_uses_2 (x3) (iadd .i64 (x29) 1) (y6 ++ usesA x29 (x3.drop (0 : Int).toNat)))
      (none))
    (some (.exit 2, st_verdict_uses_2_e2 y6))
def la_verdict_uses_2 (x3 : (List Int)) (x29 : Int) (y6 : (List Keep)) : Option (Exit × VS) := some (.exit 2, st_verdict_uses_2_e2 (y6 ++ usesZ x3 (23 - x29).toNat))
theorem be_verdict_uses_2 (x3 : (List Int)) (x29 : Int) (y6 : (List Keep)) : roundF g_verdict_uses fg_verdict_uses_2 tb_verdict_uses_2 (st_verdict_uses_2 x3 x29 y6) = b_verdict_uses_2 x3 x29 y6 := by kernel_rfl
theorem ln_verdict_uses_2 (x3 : (List Int)) (x29 : Int) (y6 : (List Keep)) : lp_verdict_uses_2 x3 x29 y6 = n_verdict_uses_2 x3 x29 y6 := (loopF_nxt _ _).trans (by
  rw [be_verdict_uses_2]
  simp only [b_verdict_uses_2, n_verdict_uses_2, nxt_br, nxt_n, nxt_r, nxt_e, nxt_0]
  rfl)
def r_verdict_uses (p0 : Policy) : Option (V × List VO) :=
  br ((rngOk p0.1 (llen p0.1) (0 : Int) && decide ((([0, 40, 44, 65, 87, 112, 128, 160, 168, 224, 256, 384, 512, 521, 768, 1024]).length : Int) ≤ 16 + (0 : Int))))
    (br ((lenOk (([0, 40, 44, 65, 87, 112, 128, 160, 168, 224, 256, 384, 512, 521, 768, 1024]) ++ belows (p0.1.drop (0 : Int).toNat))))
      (br ((lenOk (sortI (([0, 40, 44, 65, 87, 112, 128, 160, 168, 224, 256, 384, 512, 521, 768, 1024]) ++ belows (p0.1.drop (0 : Int).toNat)))))
        (br ((decide (0 ≤ (0 : Int) ∧ (0 : Int) ≤ 23 ∧ (Lib.compact (sortI (([0, 40, 44, 65, 87, 112, 128, 160, 168, 224, 256, 384, 512, 521, 768, 1024]) ++ belows (p0.1.drop (0 : Int).toNat)))).length ≤ 17000 ∧ (([] : List Keep).length : Int) ≤ 17000 * (0 : Int))))
          (some (.t (.sl tyKeep) (([] : List Keep) ++ usesZ (Lib.compact (sortI (([0, 40, 44, 65, 87, 112, 128, 160, 168, 224, 256, 384, 512, 521, 768, 1024]) ++ belows (p0.1.drop (0 : Int).toNat)))) (23 - (0 : Int)).toNat), []))
          (none))
        (none))
      (none))
    (none)
theorem e_verdict_uses (p0 : Policy) : runF g_verdict_uses tc_verdict_uses rv_verdict_uses false [.t tyPolicy p0] [] = r_verdict_uses p0 := by kernel_rfl
theorem ok_verdict_uses : Option.map (trC Try.prog) Try.f53.body = some tc_verdict_uses.er := by kernel_rfl
theorem rok_verdict_uses : trVs Try.prog Try.f53.results.toList = some (rv_verdict_uses.map Prod.fst) := by kernel_rfl
theorem en_verdict_uses : Entered Try.prog 53 := .inr ⟨by decide, _, Try.func53, by kernel_rfl, by kernel_rfl⟩
theorem gk_verdict_uses : GOk Try.prog g_verdict_uses := gok_of _ (by
  intro p hp
  simp only [List.mem_cons, List.not_mem_nil, or_false] at hp
  rcases hp with rfl | rfl | rfl
  · exact ⟨en_catalog_Valid, ms_catalog_Valid⟩
  · exact ⟨en_slices_Sort_int_int, ms_slices_Sort_int_int⟩
  · exact ⟨en_slices_Compact_int_int, ms_slices_Compact_int_int⟩)
theorem l_verdict_uses_0 (x13 : (List Rule)) (x14 : Int) (x15 : Int) (y11 : (List Int)) (h : (rngOk x13 x14 x15 && decide ((y11.length : Int) ≤ 16 + x15)) = true) : lp_verdict_uses_0 x13 x14 x15 y11 = la_verdict_uses_0 x13 x14 x15 y11 := by
  simp only [Bool.and_eq_true, decide_eq_true_eq] at h
  obtain ⟨h0, h4⟩ := h
  obtain ⟨rfl, h3, k, rfl, hk⟩ := rng_k h0
  clear h0
  revert y11
  refine range_ind x13 (fun k => ∀ y11 : List Int, (y11.length : Int) ≤ 16 + (k : Int) → lp_verdict_uses_0 x13 (x13.length : Int) (k : Int) y11 = la_verdict_uses_0 x13 (x13.length : Int) (k : Int) y11) ?_ ?_ k hk
  · intro y6 _
    rw [ln_verdict_uses_0]
    simp [n_verdict_uses_0, la_verdict_uses_0, ilt_nat, br_false, belows]
  · intro k hk ih y6 hy
    rw [ln_verdict_uses_0]
    simp only [n_verdict_uses_0, ilt_nat, cIx_nat, hk, decide_true, br_true, Int.toNat_natCast, add1 (show k < 4611686018427387904 by omega), lgt_get (y := tyRule) hk]
    rw [cApp_ok (by simp; omega) (by omega), br_true, ih _ (by simp; omega)]
    simp only [la_verdict_uses_0, Int.toNat_natCast, List.drop_eq_getElem_cons hk, belows, List.map_cons, List.append_assoc]
    rfl
theorem usesA_len (a : Int) (l : List Int) : (usesA a l).length ≤ l.length := by
  unfold usesA
  exact Nat.le_trans (List.length_filter_le _ _) (by simp)
theorem l_verdict_uses_1 (x3 : (List Int)) (x7 : Int) (x29 : Int) (x32 : (List Int)) (x33 : Int) (x34 : Int) (y6 : (List Keep)) (h : (decide (x33 = (x32.length : Int) ∧ 0 ≤ x34 ∧ x34 ≤ x33 ∧ x32.length ≤ 17000 ∧ (y6.length : Int) ≤ 391000 + x34)) = true) : lp_verdict_uses_1 x3 x7 x29 x32 x33 x34 y6 = la_verdict_uses_1 x3 x7 x29 x32 x33 x34 y6 := by
  simp only [decide_eq_true_eq] at h
  obtain ⟨rfl, h1, h2, h3, h4⟩ := h
  obtain ⟨k, rfl⟩ := Int.eq_ofNat_of_zero_le h1
  revert y6
  refine range_ind x32 (fun k => ∀ y6 : List Keep, (y6.length : Int) ≤ 391000 + (k : Int) → lp_verdict_uses_1 x3 x7 x29 x32 (x32.length : Int) (k : Int) y6 = la_verdict_uses_1 x3 x7 x29 x32 (x32.length : Int) (k : Int) y6) ?_ ?_ k (by omega)
  · intro y6 _
    rw [ln_verdict_uses_1]
    simp [n_verdict_uses_1, la_verdict_uses_1, ilt_nat, br_false, usesA]
  · intro k hk ih y6 hy
    rw [ln_verdict_uses_1]
    simp only [n_verdict_uses_1, ilt_nat, cIx_nat, hk, decide_true, br_true, Int.toNat_natCast, add1 (show k < 4611686018427387904 by omega), lgt_get (y := tI) hk]
    rw [cApp_ok (by simp; omega) (by omega), br_true]
    have el : la_verdict_uses_1 x3 x7 x29 x32 (x32.length : Int) (k : Int) y6 = la_verdict_uses_1 x3 x7 x29 x32 (x32.length : Int) ((k + 1 : Nat) : Int) (if validF (x7, (x32[k], ())) then y6 ++ [(x7, (x32[k], ()))] else y6) := by
      simp only [la_verdict_uses_1, Int.toNat_natCast, List.drop_eq_getElem_cons hk, usesA, List.map_cons, List.filter_cons]
      cases validF (x7, (x32[k], ())) <;> simp
    rw [el]
    cases hv : validF (x7, (x32[k], ())) with
    | true => rw [br_true, if_pos rfl]; exact ih _ (by simp; omega)
    | false => rw [br_false, if_neg (by simp)]; exact ih _ (by omega)
theorem l_verdict_uses_2 (x3 : (List Int)) (x29 : Int) (y6 : (List Keep)) (h : (decide (0 ≤ x29 ∧ x29 ≤ 23 ∧ x3.length ≤ 17000 ∧ (y6.length : Int) ≤ 17000 * x29)) = true) : lp_verdict_uses_2 x3 x29 y6 = la_verdict_uses_2 x3 x29 y6 := by
  simp only [decide_eq_true_eq] at h
  obtain ⟨h1, h2, h3, h4⟩ := h
  obtain ⟨k, rfl⟩ := Int.eq_ofNat_of_zero_le h1
  revert y6
  refine up_ind 23 (fun k => ∀ y6 : List Keep, (y6.length : Int) ≤ 17000 * (k : Int) → lp_verdict_uses_2 x3 (k : Int) y6 = la_verdict_uses_2 x3 (k : Int) y6) ?_ ?_ k (by omega)
  · intro y6 _
    rw [ln_verdict_uses_2]
    have e1 : ilt ((23 : Nat) : Int) 23 = false := rfl
    simp only [n_verdict_uses_2, e1, br_false]
    simp [la_verdict_uses_2, usesZ]
  · intro k hk ih y6 hy
    rw [ln_verdict_uses_2]
    have e1 : ilt (k : Int) 23 = true := by simp only [ilt, decide_eq_true_eq]; omega
    have hl := usesA_len (k : Int) x3
    simp only [n_verdict_uses_2, e1, br_true, Int.toNat_zero, List.drop_zero, add1 (show k < 4611686018427387904 by omega)]
    rw [dec_true ⟨trivial, Int.le_refl 0, by unfold llen; omega, h3, by omega⟩, br_true, ih _ (by rw [List.length_append]; omega)]
    simp only [la_verdict_uses_2]
    have e2 : (23 - (k : Int)).toNat = (23 - ((k + 1 : Nat) : Int)).toNat + 1 := by omega
    have e3 : (22 : Int) - ((23 - ((k + 1 : Nat) : Int)).toNat : Int) = (k : Int) := by omega
    rw [e2, usesZ, e3, List.append_assoc]
theorem lo_verdict_uses_0 : ∀ S l p, g_verdict_uses.L 0 (fgt fg_verdict_uses_0 S) = some (true, l) → pickA l = some p → loopF (roundF g_verdict_uses fg_verdict_uses_0 tb_verdict_uses_0) S = some p :=
  lok_of (s := sh_verdict_uses_0) ⟨by decide, by decide⟩ (by kernel_rfl) fun x y hok p hp => by
  simp only [pickA_br, pickA_one] at hp
  exact (l_verdict_uses_0 x.2.1 x.2.2.1 x.2.2.2.1 y.2.1 (by simpa using hok)).trans hp
theorem lo_verdict_uses_1 : ∀ S l p, g_verdict_uses.L 1 (fgt fg_verdict_uses_1 S) = some (true, l) → pickA l = some p → loopF (roundF g_verdict_uses fg_verdict_uses_1 tb_verdict_uses_1) S = some p :=
  lok_of (s := sh_verdict_uses_1) ⟨by decide, by decide⟩ (by kernel_rfl) fun x y hok p hp => by
  simp only [pickA_br, pickA_one] at hp
  exact (l_verdict_uses_1 x.1 x.2.2.1 x.2.2.2.1 x.2.2.2.2.1 x.2.2.2.2.2.1 x.2.2.2.2.2.2.1 y.2.1 (by simpa using hok)).trans hp
theorem lo_verdict_uses_2 : ∀ S l p, g_verdict_uses.L 2 (fgt fg_verdict_uses_2 S) = some (true, l) → pickA l = some p → loopF (roundF g_verdict_uses fg_verdict_uses_2 tb_verdict_uses_2) S = some p :=
  lok_of (s := sh_verdict_uses_2) ⟨by decide, by decide⟩ (by kernel_rfl) fun x y hok p hp => by
  simp only [pickA_br, pickA_one] at hp
  exact (l_verdict_uses_2 x.1 x.2.2.1 y.2.1 (by simpa using hok)).trans hp
theorem lk_verdict_uses : tc_verdict_uses.lok g_verdict_uses := by
  repeat (first | exact trivial | exact lo_verdict_uses_0 | exact lo_verdict_uses_1 | exact lo_verdict_uses_2 | refine ⟨?_, ?_⟩)
theorem sizes_len (rs : List Rule) : (sizesP rs).length ≤ rs.length + 16 := by
  unfold sizesP
  refine Nat.le_trans (compact_le _) ?_
  unfold sortI
  rw [List.length_mergeSort]
  simp [belows, base16]
theorem s_verdict_uses (y : Policy) (h : polSmall y = true) : r_verdict_uses y = some (.t (.sl tyKeep) (usesF y), []) := by
  simp only [polSmall, decide_eq_true_eq] at h
  have e1 : rngOk y.1 (llen y.1) 0 = true := rng_0 (by omega)
  have hb : ([0, 40, 44, 65, 87, 112, 128, 160, 168, 224, 256, 384, 512, 521, 768, 1024] : List Int) = base16 := rfl
  have hl := sizes_len y.1
  have hm : (belows y.1).length = y.1.length := by simp [belows]
  have h16 : base16.length = 16 := rfl
  simp only [r_verdict_uses, e1, Bool.true_and, Int.toNat_zero, List.drop_zero, hb]
  rw [dec_true (by decide), br_true]
  rw [show lenOk (base16 ++ belows y.1) = true by simp [lenOk]; omega, br_true]
  rw [show lenOk (sortI (base16 ++ belows y.1)) = true by simp [lenOk, sortI]; omega, br_true]
  rw [show Lib.compact (sortI (base16 ++ belows y.1)) = sizesP y.1 from rfl]
  rw [dec_true (by simp; omega), br_true]
  rfl
def sp_verdict_uses : Ent := spec (.pr tyPolicy .nil) (fun x => (polSmall x.1)) (fun x => (.t (.sl tyKeep) (usesF x.1)))
theorem ms_verdict_uses : Meets Try.prog 53 (strip sp_verdict_uses) := by
  obtain ⟨c, hc, hi⟩ := Option.map_eq_some_iff.1 ok_verdict_uses
  exact meets_spec (R := runF g_verdict_uses tc_verdict_uses rv_verdict_uses false) (meets_of (by decide) Try.func53 hc hi Try.ntmps53 rok_verdict_uses gk_verdict_uses lk_verdict_uses mixed) fun x hok => (e_verdict_uses x.1).trans (s_verdict_uses x.1 hok)

/-! cut -/
def cutS (r : Rule) (s : Keep) : List Keep := if imn s.2.1 r.2.2.2.2.2.1 ≤ imx s.1 r.2.2.2.2.1 then [s] else (if s.1 < imx s.1 r.2.2.2.2.1 then [(s.1, imx s.1 r.2.2.2.2.1, ())] else []) ++ (if imn s.2.1 r.2.2.2.2.2.1 < s.2.1 then [(imn s.2.1 r.2.2.2.2.2.1, s.2.1, ())] else [])
def hitS (r : Rule) (s : Keep) : Bool := decide (imx s.1 r.2.2.2.2.1 < imn s.2.1 r.2.2.2.2.2.1)
def cutL (l : List Keep) (r : Rule) : List Keep := l.flatMap (cutS r)
def cutB (l : List Keep) (r : Rule) : Bool := l.any (hitS r)
def cutF (l : List Keep) (r : Rule) : List Keep × Bool := (cutL l r, cutB l r)
def cutOk (l : List Keep) (_r : Rule) : Bool := lenOk5 l
theorem cutS_len (r : Rule) (s : Keep) : (cutS r s).length ≤ 2 := by
  unfold cutS
  split
  · simp
  · split <;> split <;> simp
def dr_verdict_cut_0 : List DO := [(.mk (.mk (some 18) none (.m (.pu (.fa 0 (.t 9))))) []), (.mk (.mk (some 19) none (.m (.ld false 1 (.t 18)))) [0]), (.mk (.mk (some 20) none (.m (.pu (.fa 4 (.t 3))))) []), (.mk (.mk (some 21) none (.m (.ld false 1 (.t 20)))) [2]), (.mk (.mk (some 22) none (.m (.pu (.mx (.t 19) (.t 21))))) [1, 3]), (.mk (.mk (some 23) none (.m (.pu (.fa 1 (.t 9))))) []), (.mk (.mk (some 24) none (.m (.ld false 1 (.t 23)))) [5]), (.mk (.mk (some 25) none (.m (.pu (.fa 5 (.t 3))))) []), (.mk (.mk (some 26) none (.m (.ld false 1 (.t 25)))) [7]), (.mk (.mk (some 27) none (.m (.pu (.mn (.t 24) (.t 26))))) [6, 8]), (.mk (.mk (some 10) none (.m (.pu (.mv (.t 22))))) [4, 0, 1, 2, 3, 4]), (.mk (.mk (some 11) none (.m (.pu (.mv (.t 27))))) [9, 10, 0, 1, 2, 3, 4, 5, 6, 7, 8, 9, 10])]
def fg_verdict_cut_0 : Fg := ⟨[(3, none), (6, none), (7, some .bool), (12, some (.sl tyKeep)), (13, some tI), (14, some tI)], [(3, some tyRule), (6, none), (34, none), (45, none), (56, none)]⟩
def tb_verdict_cut_0 : TC := (.sq (.reg [(.mk (some 15) none (.m (.pu (.bin false .lss (.t 14) (.t 13)))))]) (.sq (.cd (.t 15) .sk (.fg ⟨[(6, none), (7, some .bool)], [(6, none), (34, none), (45, none), (56, none)]⟩ (.ex 0))) (.sq (.bk 1 (.sq (.reg [(.mk (some 16) none (.m (.pu (.ix 2 (.t 12) (.t 14))))), (.mk (some 17) none (.m (.ld true 2 (.t 16)))), (.mk (some 9) none (.m (.new [(.v (.int .i64 0)), (.v (.int .i64 0))]))), (.mk none none (.m (.st 2 (.t 9) (.t 17))))]) (.sq (.dr dr_verdict_cut_0 [(0, [9]), (1, [9]), (2, [3]), (3, [3]), (4, []), (5, [9]), (6, [9]), (7, [3]), (8, [3]), (9, []), (10, []), (11, [])] (.of [0, 1, 2, 3, 4, 5, 6, 7, 8, 9, 10, 11])) (.sq (.sq (.reg [(.mk (some 28) none (.m (.pu (.mv (.t 10))))), (.mk (some 29) none (.m (.pu (.mv (.t 11))))), (.mk (some 30) none (.m (.pu (.bin false .geq (.t 28) (.t 29)))))]) (.cd (.t 30) (.sq (.reg [(.mk (some 31) none (.m (.pu (.mv (.t 6))))), (.mk (some 32) none (.m (.ld true 2 (.t 9)))), (.mk (some 33) none (.m (.bs 50 2 1 [(.v (.int .i64 0)), (.v (.int .i64 0))] [(0, 2, (.t 32))]))), (.mk (some 34) none (.m (.app 50 2 16 (.t 31) (.t 33)))), (.mk (some 6) none (.m (.pu (.mv (.t 34)))))]) (.fg ⟨[(3, none), (6, none), (7, some .bool), (12, some (.sl tyKeep)), (13, some tI), (14, some tI)], [(3, some tyRule), (6, none), (34, none), (45, none), (56, none)]⟩ (.ex 1))) .sk)) (.sq (.reg [(.mk (some 7) none (.m (.pu (.mv (.c (.v (.bool true)))))))]) (.sq (.sq (.reg [(.mk (some 35) none (.m (.pu (.fa 0 (.t 9))))), (.mk (some 36) none (.m (.ld false 1 (.t 35)))), (.mk (some 37) none (.m (.pu (.mv (.t 10))))), (.mk (some 38) none (.m (.pu (.bin false .lss (.t 36) (.t 37)))))]) (.cd (.t 38) (.reg [(.mk (some 39) none (.m (.pu (.mv (.t 6))))), (.mk (some 40) none (.m (.pu (.fa 0 (.t 9))))), (.mk (some 41) none (.m (.ld false 1 (.t 40)))), (.mk (some 42) none (.m (.pu (.mv (.t 10))))), (.mk (some 43) none (.m (.pu (.bd [(.v (.int .i64 0)), (.v (.int .i64 0))] [(0, 1, (.t 41)), (1, 1, (.t 42))])))), (.mk (some 44) none (.m (.bs 50 2 1 [(.v (.int .i64 0)), (.v (.int .i64 0))] [(0, 2, (.t 43))]))), (.mk (some 45) none (.m (.app 50 2 16 (.t 39) (.t 44)))), (.mk (some 6) none (.m (.pu (.mv (.t 45)))))]) .sk)) (.sq (.reg [(.mk (some 46) none (.m (.pu (.mv (.t 11))))), (.mk (some 47) none (.m (.pu (.fa 1 (.t 9))))), (.mk (some 48) none (.m (.ld false 1 (.t 47)))), (.mk (some 49) none (.m (.pu (.bin false .lss (.t 46) (.t 48)))))]) (.cd (.t 49) (.reg [(.mk (some 50) none (.m (.pu (.mv (.t 6))))), (.mk (some 51) none (.m (.pu (.mv (.t 11))))), (.mk (some 52) none (.m (.pu (.fa 1 (.t 9))))), (.mk (some 53) none (.m (.ld false 1 (.t 52)))), (.mk (some 54) none (.m (.pu (.bd [(.v (.int .i64 0)), (.v (.int .i64 0))] [(0, 1, (.t 51)), (1, 1, (.t 53))])))), (.mk (some 55) none (.m (.bs 50 2 1 [(.v (.int .i64 0)), (.v (.int .i64 0))] [(0, 2, (.t 54))]))), (.mk (some 56) none (.m (.app 50 2 16 (.t 50) (.t 55)))), (.mk (some 6) none (.m (.pu (.mv (.t 56)))))]) .sk)))))))) (.reg [(.mk (some 57) none (.m (.pu (.bin false .add (.t 14) (.c (.v (.int .i64 1))))))), (.mk (some 14) none (.m (.pu (.mv (.t 57)))))]))))
/-- cipherplan/verdict.cut -/
def tc_verdict_cut : TC := (.sq (.reg [(.mk (some 3) none (.m (.box (.t 1)))), (.mk (some 4) none (.m (.pu (.mv (.c (.v (.slice none 0 0))))))), (.mk (some 5) none (.m (.pu (.mv (.c (.v (.bool false)))))))]) (.sq (.reg [(.mk (some 6) none (.m (.pu (.mv (.c (.v (.slice none 0 0)))))))]) (.sq (.reg [(.mk (some 7) none (.m (.pu (.mv (.c (.v (.bool false)))))))]) (.sq (.sq (.reg [(.mk (some 12) none (.m (.pu (.mv (.t 0))))), (.mk (some 13) none (.m (.pu (.len false (.t 12))))), (.mk (some 14) none (.m (.pu (.mv (.c (.v (.int .i64 0)))))))]) (.bk 0 (.nw 6 50 (.lp 0 fg_verdict_cut_0 tb_verdict_cut_0)))) (.sq (.reg [(.mk (some 58) none (.m (.pu (.mv (.t 6))))), (.mk (some 59) none (.m (.pu (.mv (.t 7))))), (.mk (some 4) none (.m (.pu (.mv (.t 58))))), (.mk (some 5) none (.m (.pu (.mv (.t 59)))))]) .rt)))))
def rv_verdict_cut : List (RV × Option Ty) := [((.t 4), some (.sl tyKeep)), ((.t 5), some .bool)]
abbrev sh_verdict_cut_0 : Sh := ⟨[(3, .ptr 3 0), (6, .ms 6), (7, .ty .bool), (12, .ty (.sl tyKeep)), (13, .ty tI), (14, .ty tI)], [(3, .box tyRule), (6, .arr 50 tyKeep), (34, .no), (45, .no), (56, .no)]⟩
def st_verdict_cut_0 (x7 : Bool) (x12 : (List Keep)) (x13 : Int) (x14 : Int) (y3 : Rule) (y6 : (List Keep)) : VS := sh_verdict_cut_0.st ((), (), x7, x12, x13, x14, ()) (y3, y6, (), (), (), ())
abbrev sh_verdict_cut_0_e0 : Sh := ⟨[(6, .ms 6), (7, .ty .bool)], [(6, .arr 50 tyKeep), (34, .no), (45, .no), (56, .no)]⟩
def st_verdict_cut_0_e0 (x7 : Bool) (y6 : (List Keep)) : VS := sh_verdict_cut_0_e0.st ((), x7, ()) (y6, (), (), (), ())
-- loop 0: (x7 : Bool) (x12 : (List Keep)) (x13 : Int) (x14 : Int) (y3 : Rule) (y6 : (List Keep)); out: ('exit', 0) (x7 : Bool) (y6 : (List Keep))
def L_verdict_cut_0 : VS → Option (Bool × List (Bool × Exit × VS)) := mkL sh_verdict_cut_0 (fun x y => (rngOk x.2.2.2.1 x.2.2.2.2.1 x.2.2.2.2.2.1 && decide ((y.2.1.length : Int) ≤ 2 * x.2.2.2.2.2.1))) (fun x y => [(true, .exit 0, st_verdict_cut_0_e0 (x.2.2.1 || cutB (x.2.2.2.1.drop x.2.2.2.2.2.1.toNat) y.1) (y.2.1 ++ cutL (x.2.2.2.1.drop x.2.2.2.2.2.1.toNat) y.1))])
def g_verdict_cut : G := ⟨TYs, [], 60, EL [], keeps, (Ls [L_verdict_cut_0]), IL [], RL []⟩
def b_verdict_cut_0 (x7 : Bool) (x12 : (List Keep)) (x13 : Int) (x14 : Int) (y3 : Rule) (y6 : (List Keep)) : Option (Exit × VS) :=
  br ((ilt x14 x13))
    (br (cIx x12 x14)
      (br ((ige (imx ((lgt tyKeep x12 (Int.toNat x14)).1) y3.2.2.2.2.1) (imn (((lgt tyKeep x12 (Int.toNat x14)).2).1) y3.2.2.2.2.2.1)))
        (br (cApp y6 ([((lgt tyKeep x12 (Int.toNat x14)).1, (((lgt tyKeep x12 (Int.toNat x14)).2).1, ()))]) 16)
          (some (.normal, st_verdict_cut_0 x7 x12 x13 (iadd .i64 x14 1) y3 (y6 ++ ([((lgt tyKeep x12 (Int.toNat x14)).1, (((lgt tyKeep x12 (Int.toNat x14)).2).1, ()))]))))
          (none))
        (br ((ilt ((lgt tyKeep x12 (Int.toNat x14)).1) (imx ((lgt tyKeep x12 (Int.toNat x14)).1) y3.2.2.2.2.1)))
          (br (cApp y6 ([((lgt tyKeep x12 (Int.toNat x14)).1, ((imx ((lgt tyKeep x12 (Int.toNat x14)).1) y3.2.2.2.2.1), ()))]) 16)
            (br ((ilt (imn (((lgt tyKeep x12 (Int.toNat x14)).2).1) y3.2.2.2.2.2.1) (((lgt tyKeep x12 (Int.toNat x14)).2).1)))
              (br (cApp (y6 ++ ([((lgt tyKeep x12 (Int.toNat x14)).1, ((imx ((lgt tyKeep x12 (Int.toNat x14)).1) y3.2.2.2.2.1), ()))])) ([((imn (((lgt tyKeep x12 (Int.toNat x14)).2).1) y3.2.2.2.2.2.1), (((lgt tyKeep x12 (Int.toNat x14)).2).1, ()))]) 16)
                (some (.normal, st_verdict_cut_0 true x12 x13 (iadd .i64 x14 1) y3 ((y6 ++ ([((lgt tyKeep x12 (Int.toNat x14)).1, ((imx ((lgt tyKeep x12 (Int.toNat x14)).1) y3.2.2.2.2.1), ()))])) ++ ([((imn (((lgt tyKeep x12 (Int.toNat x14)).2).1) y3.2.2.2.2.2.1), (((lgt tyKeep x12 (Int.toNat x14)).2).1, ()))]))))
                (none))
              (some (.normal, st_verdict_cut_0 true x12 x13 (iadd .i64 x14 1) y3 (y6 ++ ([((lgt tyKeep x12 (Int.toNat x14)).1, ((imx ((lgt tyKeep x12 (Int.toNat x14)).1) y3.2.2.2.2.1), ()))])))))
            (none))
          (br ((ilt (imn (((lgt tyKeep x12 (Int.toNat x14)).2).1) y3.2.2.2.2.2.1) (((lgt tyKeep x12 (Int.toNat x14)).2).1)))
            (br (cApp y6 ([((imn (((lgt tyKeep x12 (Int.toNat x14)).2).1) y3.2.2.2.2.2.1), (((lgt tyKeep x12 (Int.toNat x14)).2).1, ()))]) 16)
              (some (.normal, st_verdict_cut_0 true x12 x13 (iadd .i64 x14 1) y3 (y6 ++ ([((imn (((lgt tyKeep x12 (Int.toNat x14)).2).1) y3.2.2.2.2.2.1), (((lgt tyKeep x12 (Int.toNat x14)).2).1, ()))]))))
              (none))
            (some (.normal, st_verdict_cut_0 true x12 x13 (iadd .i64 x14 1) y3 y6)))))
      (none))
    (some (.exit 0, st_verdict_cut_0_e0 x7 y6))
noncomputable def lp_verdict_cut_0 (x7 : Bool) (x12 : (List Keep)) (x13 : Int) (x14 : Int) (y3 : Rule) (y6 : (List Keep)) : Option (Exit × VS) := loopF (roundF g_verdict_cut fg_verdict_cut_0 tb_verdict_cut_0) (st_verdict_cut_0 x7 x12 x13 x14 y3 y6)
noncomputable def n_verdict_cut_0 (x7 : Bool) (x12 : (List Keep)) (x13 : Int) (x14 : Int) (y3 : Rule) (y6 : (List Keep)) : Option (Exit × VS) :=
  br ((ilt x14 x13))
    (br (cIx x12 x14)
      (br ((ige (imx ((lgt tyKeep x12 (Int.toNat x14)).1) y3.2.2.2.2.1) (imn (((lgt tyKeep x12 (Int.toNat x14)).2).1) y3.2.2.2.2.2.1)))
        (br (cApp y6 ([((lgt tyKeep x12 (Int.toNat x14)).1, (((lgt tyKeep x12 (Int.toNat x14)).2).1, ()))]) 16)
          (lp_verdict_cut_0 x7 x12 x13 (iadd .i64 x14 1) y3 (y6 ++ ([((lgt tyKeep x12 (Int.toNat x14)).1, (((lgt tyKeep x12 (Int.toNat x14)).2).1, ()))])))
          (none))
        (br ((ilt ((lgt tyKeep x12 (Int.toNat x14)).1) (imx ((lgt tyKeep x12 (Int.toNat x14)).1) y3.2.2.2.2.1)))
          (br (cApp y6 ([((lgt tyKeep x12 (Int.toNat x14)).1, ((imx ((lgt tyKeep x12 (Int.toNat x14)).1) y3.2.2.2.2.1), ()))]) 16)
            (br ((ilt (imn (((lgt tyKeep x12 (Int.toNat x14)).2).1) y3.2.2.2.2.2.1) (((lgt tyKeep x12 (Int.toNat x14)).2).1)))
              (br (cApp (y6 ++ ([((lgt tyKeep x12 (Int.toNat x14)).1, ((imx ((lgt tyKeep x12 (Int.toNat x14)).1) y3.2.2.2.2.1), ()))])) ([((imn (((lgt tyKeep x12 (Int.toNat x14)).2).1) y3.2.2.2.2.2.1), (((lgt tyKeep x12 (Int.toNat x14)).2).1, ()))]) 16)
                (lp_verdict_cut_0 true x12 x13 (iadd .i64 x14 1) y3 ((y6 ++ ([((lgt tyKeep x12 (Int.toNat x14)).1, ((imx ((lgt tyKeep x12 (Int.toNat x14)).1) y3.2.2.2.2.1), ()))])) ++ ([((imn (((lgt tyKeep x12 (Int.toNat x14)).2).1) y3.2.2.2.2.2.1), (((lgt tyKeep x12 (Int.toNat x14)).2).1, ()))])))
                (none))
              (lp_verdict_cut_0 true x12 x13 (iadd .i64 x14 1) y3 (y6 ++ ([((lgt tyKeep x12 (Int.toNat x14)).1, ((imx ((lgt tyKeep x12 (Int.toNat x14)).1) y3.2.2.2.2.1), ()))]))))
            (none))
          (br ((ilt (imn (((lgt tyKeep x12 (Int.toNat x14)).2).1) y3.2.2.2.2.2.1) (((lgt tyKeep x12 (Int.toNat x14)).2).1)))
            (br (cApp y6 ([((imn (((lgt tyKeep x12 (Int.toNat x14)).2).1) y3.2.2.2.2.2.1), (((lgt tyKeep x12 (Int.toNat x14)).2).1, ()))]) 16)
              (lp_verdict_cut_0 true x12 x13 (iadd .i64 x14 1) y3 (y6 ++ ([((imn (((lgt tyKeep x12 (Int.toNat x14)).2).1) y3.2.2.2.2.2.1), (((lgt tyKeep x12 (Int.toNat x14)).2).1, ()))])))
              (none))
            (lp_verdict_cut_0 true x12 x13 (iadd .i64 x14 1) y3 y6))))
      (none))
    (some (.exit 0, st_verdict_cut_0_e0 x7 y6))
def la_verdict_cut_0 (x7 : Bool) (x12 : (List Keep)) (x13 : Int) (x14 : Int) (y3 : Rule) (y6 : (List Keep)) : Option (Exit × VS) := some (.exit 0, st_verdict_cut_0_e0 (x7 || cutB (x12.drop x14.toNat) y3) (y6 ++ cutL (x12.drop x14.toNat) y3))
theorem be_verdict_cut_0 (x7 : Bool) (x12 : (List Keep)) (x13 : Int) (x14 : Int) (y3 : Rule) (y6 : (List Keep)) : roundF g_verdict_cut fg_verdict_cut_0 tb_verdict_cut_0 (st_verdict_cut_0 x7 x12 x13 x14 y3 y6) = b_verdict_cut_0 x7 x12 x13 x14 y3 y6 := by kernel_rfl
theorem ln_verdict_cut_0 (x7 : Bool) (x12 : (List Keep)) (x13 : Int) (x14 : Int) (y3 : Rule) (y6 : (List Keep)) : lp_verdict_cut_0 x7 x12 x13 x14 y3 y6 = n_verdict_cut_0 x7 x12 x13 x14 y3 y6 := (loopF_nxt _ _).trans (by
  rw [be_verdict_cut_0]
  simp only [b_verdict_cut_0, n_verdict_cut_0, nxt_br, nxt_n, nxt_r, nxt_e, nxt_0]
  rfl)
def r_verdict_cut (p0 : (List Keep)) (p1 : Rule) : Option (V × List VO) :=
  br ((rngOk p0 (llen p0) (0 : Int) && decide ((([] : List Keep).length : Int) ≤ 2 * (0 : Int))))
    (some (.tu [(.t (.sl tyKeep) (([] : List Keep) ++ cutL (p0.drop (0 : Int).toNat) p1)), (.t .bool (false || cutB (p0.drop (0 : Int).toNat) p1))], []))
    (none)
theorem e_verdict_cut (p0 : (List Keep)) (p1 : Rule) : runF g_verdict_cut tc_verdict_cut rv_verdict_cut false [.t (.sl tyKeep) p0, .t tyRule p1] [] = r_verdict_cut p0 p1 := by kernel_rfl
theorem ok_verdict_cut : Option.map (trC Try.prog) Try.f56.body = some tc_verdict_cut.er := by kernel_rfl
theorem rok_verdict_cut : trVs Try.prog Try.f56.results.toList = some (rv_verdict_cut.map Prod.fst) := by kernel_rfl
theorem en_verdict_cut : Entered Try.prog 56 := .inr ⟨by decide, _, Try.func56, by kernel_rfl, by kernel_rfl⟩
theorem gk_verdict_cut : GOk Try.prog g_verdict_cut := gok_of _ (fun p hp => by cases hp)
theorem l_verdict_cut_0 (x7 : Bool) (x12 : (List Keep)) (x13 : Int) (x14 : Int) (y3 : Rule) (y6 : (List Keep)) (h : (rngOk x12 x13 x14 && decide ((y6.length : Int) ≤ 2 * x14)) = true) : lp_verdict_cut_0 x7 x12 x13 x14 y3 y6 = la_verdict_cut_0 x7 x12 x13 x14 y3 y6 := by
  simp only [Bool.and_eq_true, decide_eq_true_eq] at h
  obtain ⟨h0, h4⟩ := h
  obtain ⟨rfl, h3, k, rfl, hk⟩ := rng_k h0
  clear h0
  revert y6 x7
  refine range_ind x12 (fun k => ∀ (x7 : Bool) (y6 : List Keep), (y6.length : Int) ≤ 2 * (k : Int) → lp_verdict_cut_0 x7 x12 (x12.length : Int) (k : Int) y3 y6 = la_verdict_cut_0 x7 x12 (x12.length : Int) (k : Int) y3 y6) ?_ ?_ k hk
  · intro x7 y6 _
    rw [ln_verdict_cut_0]
    simp [n_verdict_cut_0, la_verdict_cut_0, ilt_nat, br_false, cutL, cutB]
  · intro k hk ih x7 y6 hy
    rw [ln_verdict_cut_0]
    simp only [n_verdict_cut_0, ilt_nat, cIx_nat, hk, decide_true, br_true, Int.toNat_natCast, add1 (show k < 4611686018427387904 by omega), lgt_get (y := tyKeep) hk]
    have el : la_verdict_cut_0 x7 x12 (x12.length : Int) (k : Int) y3 y6 = la_verdict_cut_0 (x7 || hitS y3 x12[k]) x12 (x12.length : Int) ((k + 1 : Nat) : Int) y3 (y6 ++ cutS y3 x12[k]) := by
      simp only [la_verdict_cut_0, Int.toNat_natCast, List.drop_eq_getElem_cons hk, cutL, cutB, List.any_cons, List.flatMap_cons, Bool.or_assoc, List.append_assoc]
    rw [el, ← ih _ _ (by have := cutS_len y3 x12[k]; simp; omega)]
    generalize x12[k] = s
    unfold cutS hitS
    refine br_intro (fun g1 => ?_) (fun g1 => ?_)
    · simp only [ige, decide_eq_true_eq] at g1
      rw [cApp_ok (by simp; omega) (by omega), br_true, if_pos g1, dec_false (by omega), Bool.or_false]
    · simp only [ige, decide_eq_false_iff_not] at g1
      rw [if_neg g1, dec_true (by omega), Bool.or_true]
      refine br_intro (fun g2 => ?_) (fun g2 => ?_)
      · simp only [ilt, decide_eq_true_eq] at g2
        rw [cApp_ok (by simp; omega) (by omega), br_true, if_pos g2]
        refine br_intro (fun g3 => ?_) (fun g3 => ?_)
        · simp only [ilt, decide_eq_true_eq] at g3
          rw [cApp_ok (by simp; omega) (by omega), br_true, if_pos g3, List.append_assoc]
        · simp only [ilt, decide_eq_false_iff_not] at g3
          rw [if_neg g3, List.append_nil]
      · simp only [ilt, decide_eq_false_iff_not] at g2
        rw [if_neg g2, List.nil_append]
        refine br_intro (fun g3 => ?_) (fun g3 => ?_)
        · simp only [ilt, decide_eq_true_eq] at g3
          rw [cApp_ok (by simp; omega) (by omega), br_true, if_pos g3]
        · simp only [ilt, decide_eq_false_iff_not] at g3
          rw [if_neg g3, List.append_nil]
theorem lo_verdict_cut_0 : ∀ S l p, g_verdict_cut.L 0 (fgt fg_verdict_cut_0 S) = some (true, l) → pickA l = some p → loopF (roundF g_verdict_cut fg_verdict_cut_0 tb_verdict_cut_0) S = some p :=
  lok_of (s := sh_verdict_cut_0) ⟨by decide, by decide⟩ (by kernel_rfl) fun x y hok p hp => by
  simp only [pickA_br, pickA_one] at hp
  exact (l_verdict_cut_0 x.2.2.1 x.2.2.2.1 x.2.2.2.2.1 x.2.2.2.2.2.1 y.1 y.2.1 (by simpa using hok)).trans hp
theorem lk_verdict_cut : tc_verdict_cut.lok g_verdict_cut := by
  repeat (first | exact trivial | exact lo_verdict_cut_0 | refine ⟨?_, ?_⟩)
theorem s_verdict_cut (l : List Keep) (r : Rule) (h : cutOk l r = true) : r_verdict_cut l r = some (.tu [.t (.sl tyKeep) (cutF l r).1, .t .bool (cutF l r).2], []) := by
  have h : lenOk5 l = true := h
  simp only [lenOk5, decide_eq_true_eq] at h
  simp only [r_verdict_cut, rng_0 h, Bool.true_and]
  rw [dec_true (by simp), br_true]
  rfl
def sp_verdict_cut : Ent := spec (.pr (.sl tyKeep) (.pr tyRule .nil)) (fun x => (cutOk x.1 x.2.1)) (fun x => (.tu [(.t (.sl tyKeep) ((cutF x.1 x.2.1).1)), (.t .bool ((cutF x.1 x.2.1).2))]))
theorem ms_verdict_cut : Meets Try.prog 56 (strip sp_verdict_cut) := by
  obtain ⟨c, hc, hi⟩ := Option.map_eq_some_iff.1 ok_verdict_cut
  exact meets_spec (R := runF g_verdict_cut tc_verdict_cut rv_verdict_cut false) (meets_of (by decide) Try.func56 hc hi Try.ntmps56 rok_verdict_cut gk_verdict_cut lk_verdict_cut mixed) fun x hok => (e_verdict_cut x.1 x.2.1).trans (s_verdict_cut x.1 x.2.1 hok)
theorem polOk_len {y : Policy} (h : polOk y = true) : y.1.length ≤ 60 ∧ y.2.1.length ≤ 60 := by
  simp only [polOk, Bool.and_eq_true, decide_eq_true_eq] at h
  exact h.2
theorem pol_len {y : Policy} (h : polOk y = true) : polLen y = true ∧ polSmall y = true := by
  have := polOk_len h
  simp only [polLen, polSmall, lenOk5, Bool.and_eq_true, decide_eq_true_eq]
  omega
end Go.Proofs.Ytfldcnhkppgmbaa.K
