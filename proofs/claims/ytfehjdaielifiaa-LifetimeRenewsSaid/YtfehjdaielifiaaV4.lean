/-
  verdict: allowed, early, Allowed, days.
-/
import Derived.Test.YtfehjdaielifiaaV7
import Derived.Test.YtfehjdaielifiaaP18
import Derived.Test.YtfehjdaielifiaaB4
set_option linter.unusedSimpArgs false
set_option linter.unusedVariables false
namespace Go.Proofs.Ytfehjdaielifiaa.K
open Go.RowKit
/-- cipherplan/verdict.allowed -/
def tc_verdict_allowed : TC := (.sq (.reg [(.mk (some 4) none (.m (.box (.t 0)))), (.mk (some 5) none (.m (.box (.t 1)))), (.mk (some 8) none (.m (.pu (.mv (.c (.v (.bool false)))))))]) (.sq (.reg [(.mk (some 10) none (.m (.ld true 2 (.t 4)))), (.mk (some 11) none (.m (.ld true 2 (.t 5)))), (.mk (some 12) none (.m (.pu (.mv (.t 2))))), (.mk (some 13) none (.m (.pu (.mv (.t 3))))), (.mk (some 14) none (.call 70 [(.t 10), (.t 11), (.t 12), (.t 13)])), (.mk (some 9) none (.m (.pu (.mv (.t 14)))))]) (.sq (.reg [(.mk (some 15) none (.m (.pu (.mv (.t 9))))), (.mk (some 16) none (.m (.pu (.bin false .lss (.t 15) (.c (.v (.int .i64 0))))))), (.mk (some 17) none (.m (.pu (.mv (.t 16))))), (.mk (some 18) (some (17, false)) (.m (.pu (.fa 0 (.t 4))))), (.mk (some 19) (some (17, false)) (.m (.ld false 1 (.t 18)))), (.mk (some 20) (some (17, false)) (.m (.pu (.mv (.t 9))))), (.mk (some 21) (some (17, false)) (.m (.pu (.ix 6 (.t 19) (.t 20))))), (.mk (some 22) (some (17, false)) (.m (.pu (.fa 0 (.t 21))))), (.mk (some 23) (some (17, false)) (.m (.ld false 1 (.t 22)))), (.mk (some 24) none (.m (.pu (.pick (.t 17) (.c (.v (.bool true))) (.t 23))))), (.mk (some 8) none (.m (.pu (.mv (.t 24)))))]) .rt)))
def rv_verdict_allowed : List (RV × Option Ty) := [((.t 8), some .bool)]
def g_verdict_allowed : G := ⟨TYs, [], 25, EL [(70, sp_verdict_decides)], keeps, (fun _ _ => none), IL [], RL []⟩
def r_verdict_allowed (p0 : Policy) (p1 : Keep) (p2 : Int) (p3 : Int) : Option (V × List VO) :=
  br ((ilt (decF p0 p1 p2 p3) 0))
    (some (.t .bool true, []))
    (br (cIx p0.1 (decF p0 p1 p2 p3))
      (some (.t .bool ((lgt tyRule p0.1 (Int.toNat (decF p0 p1 p2 p3))).1), []))
      (none))
theorem e_verdict_allowed (p0 : Policy) (p1 : Keep) (p2 : Int) (p3 : Int) : runF g_verdict_allowed tc_verdict_allowed rv_verdict_allowed false [.t tyPolicy p0, .t tyKeep p1, .t tI p2, .t tI p3] [] = r_verdict_allowed p0 p1 p2 p3 := by kernel_rfl
theorem ok_verdict_allowed : Option.map (trC Try.prog) Try.f63.body = some tc_verdict_allowed.er := by kernel_rfl
theorem rok_verdict_allowed : trVs Try.prog Try.f63.results.toList = some (rv_verdict_allowed.map Prod.fst) := by kernel_rfl
theorem en_verdict_allowed : Entered Try.prog 63 := .inr ⟨by decide, _, Try.func63, by kernel_rfl, by kernel_rfl⟩
theorem gk_verdict_allowed : GOk Try.prog g_verdict_allowed := gok_of _ (by
  intro p hp
  simp only [List.mem_cons, List.not_mem_nil, or_false] at hp
  rcases hp with rfl
  · exact ⟨en_verdict_decides, ms_verdict_decides⟩)
theorem lk_verdict_allowed : tc_verdict_allowed.lok g_verdict_allowed := by repeat (first | exact trivial | refine ⟨?_, ?_⟩)
theorem allF_eq (y : Policy) (u : Keep) (p d : Int) : allF y u p d = (ilt (decF y u p d) 0 || (y.1.getD (decF y u p d).toNat tyRule.zero).1) := by
  unfold allF allL
  have h := decF_eq (y := y) (u := u) (p := p) (d := d)
  cases hq : decL y.1 u p d with
  | none =>
    rw [hq] at h
    simp only at h
    rw [h]
    rfl
  | some k =>
    rw [hq] at h
    simp only at h
    rw [h]
    obtain ⟨h1, _⟩ := lastI_some.1 hq
    have e1 : ilt (k : Int) 0 = false := by simp only [ilt, decide_eq_false_iff_not]; omega
    simp only [e1, Bool.false_or, Int.toNat_natCast, List.getElem?_eq_getElem h1, Option.map_some, Option.getD_some, List.getD_eq_getElem?_getD]
theorem decF_ix {y : Policy} {u : Keep} {p d : Int} (h : ilt (decF y u p d) 0 = false) : cIx y.1 (decF y u p d) = true := by
  have h2 := decF_lt (y := y) (u := u) (p := p) (d := d)
  simp only [ilt, decide_eq_false_iff_not] at h
  simp only [cIx, decide_eq_true_eq]
  omega
theorem s_verdict_allowed (y : Policy) (u : Keep) (p d : Int) : r_verdict_allowed y u p d = some (.t .bool (allF y u p d), []) := by
  simp only [r_verdict_allowed, allF_eq]
  cases h : ilt (decF y u p d) 0 with
  | true => simp [br_true]
  | false =>
    rw [decF_ix h, br_false, br_true, Bool.false_or, lgt]
def sp_verdict_allowed : Ent := spec (.pr tyPolicy (.pr tyKeep (.pr tI (.pr tI .nil)))) (fun x => true) (fun x => (.t .bool (allF x.1 x.2.1 x.2.2.1 x.2.2.2.1)))
theorem ms_verdict_allowed : Meets Try.prog 63 (strip sp_verdict_allowed) := by
  obtain ⟨c, hc, hi⟩ := Option.map_eq_some_iff.1 ok_verdict_allowed
  exact meets_spec (R := runF g_verdict_allowed tc_verdict_allowed rv_verdict_allowed false) (meets_of (by decide) Try.func63 hc hi Try.ntmps63 rok_verdict_allowed gk_verdict_allowed lk_verdict_allowed mixed) fun x _ => (e_verdict_allowed x.1 x.2.1 x.2.2.1 x.2.2.2.1).trans (s_verdict_allowed x.1 x.2.1 x.2.2.1 x.2.2.2.1)
def earlyF (y : Policy) (u : Keep) (p d : Int) : Int := if polOk y = false then 25 else if validF u = false then 7 else if p < 1 ∨ 4 < p ∨ d < 0 ∨ 40000 < d then 2 else 0
def polLen4 (y : Policy) (_u : Keep) (_p _d : Int) : Bool := polLen y
def polLen3 (y : Policy) (_u : Keep) (_p : Int) : Bool := polLen y
/-- cipherplan/verdict.early -/
def tc_verdict_early : TC := (.sq (.reg [(.mk (some 4) none (.m (.box (.t 0)))), (.mk (some 5) none (.m (.box (.t 1)))), (.mk (some 8) none (.m (.pu (.mv (.c (.v (.int .i64 0)))))))]) (.sq (.sq (.reg [(.mk (some 10) none (.m (.ld true 2 (.t 4)))), (.mk (some 11) none (.call 32 [(.t 10)])), (.mk (some 9) none (.m (.pu (.mv (.t 11)))))]) (.sq (.reg [(.mk (some 12) none (.m (.pu (.mv (.t 9))))), (.mk (some 13) none (.m (.pu (.bin false .neq (.t 12) (.c (.v (.int .i64 0)))))))]) (.cd (.t 13) (.sq (.reg [(.mk (some 14) none (.m (.pu (.mv (.t 9))))), (.mk (some 8) none (.m (.pu (.mv (.t 14)))))]) .rt) .sk))) (.sq (.bk 0 (.sq (.reg [(.mk (some 16) none (.m (.ld true 2 (.t 5)))), (.mk (some 17) none (.call 30 [(.t 16)])), (.mk (some 18) none (.m (.pu (.nt (.t 17))))), (.mk (some 15) none (.m (.pu (.mv (.t 18)))))]) (.cd (.t 15) (.sq (.reg [(.mk (some 8) none (.m (.pu (.mv (.c (.v (.int .i64 7)))))))]) .rt) (.sq (.reg [(.mk (some 20) none (.m (.pu (.mv (.t 2))))), (.mk (some 21) none (.m (.pu (.bin false .lss (.t 20) (.c (.v (.int .i64 1))))))), (.mk (some 22) none (.m (.pu (.mv (.t 21))))), (.mk (some 23) (some (22, false)) (.m (.pu (.mv (.t 2))))), (.mk (some 24) (some (22, false)) (.m (.pu (.bin false .gtr (.t 23) (.c (.v (.int .i64 4))))))), (.mk (some 25) none (.m (.pu (.pick (.t 22) (.c (.v (.bool true))) (.t 24))))), (.mk (some 26) none (.m (.pu (.mv (.t 25))))), (.mk (some 27) (some (26, false)) (.m (.pu (.mv (.t 3))))), (.mk (some 28) (some (26, false)) (.m (.pu (.bin false .lss (.t 27) (.c (.v (.int .i64 0))))))), (.mk (some 29) none (.m (.pu (.pick (.t 26) (.c (.v (.bool true))) (.t 28))))), (.mk (some 30) none (.m (.pu (.mv (.t 29))))), (.mk (some 31) (some (30, false)) (.m (.pu (.mv (.t 3))))), (.mk (some 32) (some (30, false)) (.m (.pu (.bin false .gtr (.t 31) (.c (.v (.int .i64 40000))))))), (.mk (some 33) none (.m (.pu (.pick (.t 30) (.c (.v (.bool true))) (.t 32))))), (.mk (some 19) none (.m (.pu (.mv (.t 33)))))]) (.cd (.t 19) (.sq (.reg [(.mk (some 8) none (.m (.pu (.mv (.c (.v (.int .i64 2)))))))]) .rt) .sk))))) (.sq (.reg [(.mk (some 8) none (.m (.pu (.mv (.c (.v (.int .i64 0)))))))]) .rt))))
def rv_verdict_early : List (RV × Option Ty) := [((.t 8), some tI)]
def g_verdict_early : G := ⟨TYs, [], 34, EL [(30, sp_catalog_Valid), (32, sp_rule_Check)], keeps, (fun _ _ => none), IL [], RL []⟩
def r_verdict_early (p0 : Policy) (p1 : Keep) (p2 : Int) (p3 : Int) : Option (V × List VO) :=
  br ((polLen p0))
    (br ((ine (checkF p0) 0))
      (some (.t tI (checkF p0), []))
      (br ((!(validF p1)))
        (some (.t tI 7, []))
        (br ((ilt p2 1))
          (some (.t tI 2, []))
          (br ((igt p2 4))
            (some (.t tI 2, []))
            (br ((ilt p3 0))
              (some (.t tI 2, []))
              (br ((igt p3 40000))
                (some (.t tI 2, []))
                (some (.t tI 0, []))))))))
    (none)
theorem e_verdict_early (p0 : Policy) (p1 : Keep) (p2 : Int) (p3 : Int) : runF g_verdict_early tc_verdict_early rv_verdict_early false [.t tyPolicy p0, .t tyKeep p1, .t tI p2, .t tI p3] [] = r_verdict_early p0 p1 p2 p3 := by kernel_rfl
theorem ok_verdict_early : Option.map (trC Try.prog) Try.f50.body = some tc_verdict_early.er := by kernel_rfl
theorem rok_verdict_early : trVs Try.prog Try.f50.results.toList = some (rv_verdict_early.map Prod.fst) := by kernel_rfl
theorem en_verdict_early : Entered Try.prog 50 := .inr ⟨by decide, _, Try.func50, by kernel_rfl, by kernel_rfl⟩
theorem gk_verdict_early : GOk Try.prog g_verdict_early := gok_of _ (by
  intro p hp
  simp only [List.mem_cons, List.not_mem_nil, or_false] at hp
  rcases hp with rfl | rfl
  · exact ⟨en_catalog_Valid, ms_catalog_Valid⟩
  · exact ⟨en_rule_Check, ms_rule_Check⟩)
theorem lk_verdict_early : tc_verdict_early.lok g_verdict_early := by repeat (first | exact trivial | refine ⟨?_, ?_⟩)
theorem s_verdict_early (y : Policy) (u : Keep) (p d : Int) (h : polLen4 y u p d = true) : r_verdict_early y u p d = some (.t tI (earlyF y u p d), []) := by
  have h : polLen y = true := h
  simp only [r_verdict_early, h, br_true, checkF, earlyF]
  cases polOk y with
  | false => rfl
  | true =>
    simp only [if_true, show ine 0 0 = false from rfl, br_false, Bool.true_eq_false, if_false]
    cases validF u with
    | false => rfl
    | true =>
      simp only [Bool.not_true, br_false, Bool.true_eq_false, if_false]
      repeat' (refine br_intro ?_ ?_ <;> intro _)
      all_goals simp only [igt, ilt, decide_eq_true_eq, decide_eq_false_iff_not] at *
      all_goals first
        | rw [if_pos (by omega)]
        | rw [if_neg (by omega)]
def sp_verdict_early : Ent := spec (.pr tyPolicy (.pr tyKeep (.pr tI (.pr tI .nil)))) (fun x => (polLen4 x.1 x.2.1 x.2.2.1 x.2.2.2.1)) (fun x => (.t tI (earlyF x.1 x.2.1 x.2.2.1 x.2.2.2.1)))
theorem ms_verdict_early : Meets Try.prog 50 (strip sp_verdict_early) := by
  obtain ⟨c, hc, hi⟩ := Option.map_eq_some_iff.1 ok_verdict_early
  exact meets_spec (R := runF g_verdict_early tc_verdict_early rv_verdict_early false) (meets_of (by decide) Try.func50 hc hi Try.ntmps50 rok_verdict_early gk_verdict_early lk_verdict_early mixed) fun x hok => (e_verdict_early x.1 x.2.1 x.2.2.1 x.2.2.2.1).trans (s_verdict_early x.1 x.2.1 x.2.2.1 x.2.2.2.1 hok)
/-! days -/
def daysF (y : Policy) : List Int := cutsP y.1
def fg_verdict_days_0 : Fg := ⟨[(3, none), (8, some (.sl tyRule)), (9, some tI), (10, some tI)], [(3, none), (6, none), (20, none), (24, none)]⟩
def tb_verdict_days_0 : TC := (.sq (.reg [(.mk (some 11) none (.m (.pu (.bin false .lss (.t 10) (.t 9)))))]) (.sq (.cd (.t 11) .sk (.fg ⟨[(3, none)], [(3, none), (6, none), (20, none), (24, none)]⟩ (.ex 0))) (.sq (.bk 1 (.sq (.reg [(.mk (some 12) none (.m (.pu (.ix 6 (.t 8) (.t 10))))), (.mk (some 13) none (.m (.ld true 6 (.t 12)))), (.mk (some 5) none (.m (.new [(.v (.bool false)), (.v (.int .i64 0)), (.v (.int .i64 0)), (.v (.int .i64 0)), (.v (.int .i64 0)), (.v (.int .i64 0))]))), (.mk none none (.m (.st 6 (.t 5) (.t 13))))]) (.reg [(.mk (some 14) none (.m (.pu (.mv (.t 3))))), (.mk (some 15) none (.m (.pu (.fa 4 (.t 5))))), (.mk (some 16) none (.m (.ld false 1 (.t 15)))), (.mk (some 17) none (.m (.pu (.fa 5 (.t 5))))), (.mk (some 18) none (.m (.ld false 1 (.t 17)))), (.mk (some 19) none (.m (.bs 3 1 2 [(.v (.int .i64 0)), (.v (.int .i64 0))] [(0, 1, (.t 16)), (1, 1, (.t 18))]))), (.mk (some 20) none (.m (.app 3 1 8 (.t 14) (.t 19)))), (.mk (some 3) none (.m (.pu (.mv (.t 20)))))]))) (.reg [(.mk (some 21) none (.m (.pu (.bin false .add (.t 10) (.c (.v (.int .i64 1))))))), (.mk (some 10) none (.m (.pu (.mv (.t 21)))))]))))
/-- cipherplan/verdict.days -/
def tc_verdict_days : TC := (.sq (.reg [(.mk (some 1) none (.m (.box (.t 0)))), (.mk (some 2) none (.m (.pu (.mv (.c (.v (.slice none 0 0)))))))]) (.sq (.reg [(.mk (some 6) none (.m (.bs 3 1 1 [(.v (.int .i64 0))] [(0, 1, (.c (.v (.int .i64 0))))]))), (.mk (some 3) none (.m (.pu (.mv (.t 6)))))]) (.sq (.sq (.reg [(.mk (some 7) none (.m (.pu (.fa 0 (.t 1))))), (.mk (some 8) none (.m (.ld false 1 (.t 7)))), (.mk (some 9) none (.m (.pu (.len false (.t 8))))), (.mk (some 10) none (.m (.pu (.mv (.c (.v (.int .i64 0)))))))]) (.bk 0 (.nw 3 3 (.lp 0 fg_verdict_days_0 tb_verdict_days_0)))) (.sq (.reg [(.mk (some 22) none (.m (.pu (.mv (.t 3))))), (.mk (some 23) none (.m (.bs 3 1 1 [(.v (.int .i64 0))] [(0, 1, (.c (.v (.int .i64 40001))))]))), (.mk (some 24) none (.m (.app 3 1 8 (.t 22) (.t 23)))), (.mk (some 3) none (.m (.pu (.mv (.t 24)))))]) (.sq (.reg [(.mk (some 25) none (.m (.pu (.mv (.t 3))))), (.mk (some 26) none (.call 68 [(.t 25)]))]) (.sq (.reg [(.mk (some 27) none (.m (.pu (.mv (.t 3))))), (.mk (some 28) none (.call 69 [(.t 27)])), (.mk (some 2) none (.m (.pu (.mv (.t 28)))))]) .rt))))))
def rv_verdict_days : List (RV × Option Ty) := [((.t 2), some (.sl tI))]
abbrev sh_verdict_days_0 : Sh := ⟨[(3, .ms 6), (8, .ty (.sl tyRule)), (9, .ty tI), (10, .ty tI)], [(3, .no), (6, .arr 3 tI), (20, .no), (24, .no)]⟩
def st_verdict_days_0 (x8 : (List Rule)) (x9 : Int) (x10 : Int) (y6 : (List Int)) : VS := sh_verdict_days_0.st ((), x8, x9, x10, ()) ((), y6, (), (), ())
abbrev sh_verdict_days_0_e0 : Sh := ⟨[(3, .ms 6)], [(3, .no), (6, .arr 3 tI), (20, .no), (24, .no)]⟩
def st_verdict_days_0_e0 (y6 : (List Int)) : VS := sh_verdict_days_0_e0.st ((), ()) ((), y6, (), (), ())
-- loop 0: (x8 : (List Rule)) (x9 : Int) (x10 : Int) (y6 : (List Int)); out: ('exit', 0) (y6 : (List Int))
def L_verdict_days_0 : VS → Option (Bool × List (Bool × Exit × VS)) := mkL sh_verdict_days_0 (fun x y => (rngOk x.2.1 x.2.2.1 x.2.2.2.1 && decide (y.2.1.length ≤ 1 + 2 * x.2.2.2.1))) (fun x y => [(true, .exit 0, st_verdict_days_0_e0 (y.2.1 ++ ends (x.2.1.drop x.2.2.2.1.toNat)))])
def g_verdict_days : G := ⟨TYs, [6], 29, EL [(68, sp_slices_Sort_int_int), (69, sp_slices_Compact_int_int)], keeps, (Ls [L_verdict_days_0]), IL [], RL []⟩
def b_verdict_days_0 (x8 : (List Rule)) (x9 : Int) (x10 : Int) (y6 : (List Int)) : Option (Exit × VS) :=
  br ((ilt x10 x9))
    (br (cIx x8 x10)
      (br (cApp y6 ([(((((lgt tyRule x8 (Int.toNat x10)).2).2).2).2).1, ((((((lgt tyRule x8 (Int.toNat x10)).2).2).2).2).2).1]) 8)
        (some (.normal, st_verdict_days_0 x8 x9 (iadd .i64 x10 1) (y6 ++ ([(((((lgt tyRule x8 (Int.toNat x10)).2).2).2).2).1, ((((((lgt tyRule x8 (Int.toNat x10)).2).2).2).2).2).1]))))
        (none))
      (none))
    (some (.exit 0, st_verdict_days_0_e0 y6))
noncomputable def lp_verdict_days_0 (x8 : (List Rule)) (x9 : Int) (x10 : Int) (y6 : (List Int)) : Option (Exit × VS) := loopF (roundF g_verdict_days fg_verdict_days_0 tb_verdict_days_0) (st_verdict_days_0 x8 x9 x10 y6)
noncomputable def n_verdict_days_0 (x8 : (List Rule)) (x9 : Int) (x10 : Int) (y6 : (List Int)) : Option (Exit × VS) :=
  br ((ilt x10 x9))
    (br (cIx x8 x10)
      (br (cApp y6 ([(((((lgt tyRule x8 (Int.toNat x10)).2).2).2).2).1, ((((((lgt tyRule x8 (Int.toNat x10)).2).2).2).2).2).1]) 8)
        (lp_verdict_days_0 x8 x9 (iadd .i64 x10 1) (y6 ++ ([(((((lgt tyRule x8 (Int.toNat x10)).2).2).2).2).1, ((((((lgt tyRule x8 (Int.toNat x10)).2).2).2).2).2).1])))
        (none))
      (none))
    (some (.exit 0, st_verdict_days_0_e0 y6))
def la_verdict_days_0 (x8 : (List Rule)) (x9 : Int) (x10 : Int) (y6 : (List Int)) : Option (Exit × VS) := some (.exit 0, st_verdict_days_0_e0 (y6 ++ ends (x8.drop x10.toNat)))
theorem be_verdict_days_0 (x8 : (List Rule)) (x9 : Int) (x10 : Int) (y6 : (List Int)) : roundF g_verdict_days fg_verdict_days_0 tb_verdict_days_0 (st_verdict_days_0 x8 x9 x10 y6) = b_verdict_days_0 x8 x9 x10 y6 := by kernel_rfl
theorem ln_verdict_days_0 (x8 : (List Rule)) (x9 : Int) (x10 : Int) (y6 : (List Int)) : lp_verdict_days_0 x8 x9 x10 y6 = n_verdict_days_0 x8 x9 x10 y6 := (loopF_nxt _ _).trans (by
  rw [be_verdict_days_0]
  simp only [b_verdict_days_0, n_verdict_days_0, nxt_br, nxt_n, nxt_r, nxt_e, nxt_0]
  rfl)
def r_verdict_days (p0 : Policy) : Option (V × List VO) :=
  br ((rngOk p0.1 (llen p0.1) (0 : Int) && decide (([0]).length ≤ 1 + 2 * (0 : Int))))
    (br (cApp (([0]) ++ ends (p0.1.drop (0 : Int).toNat)) ([40001]) 8)
      (br ((lenOk ((([0]) ++ ends (p0.1.drop (0 : Int).toNat)) ++ ([40001]))))
        (br ((lenOk (sortI ((([0]) ++ ends (p0.1.drop (0 : Int).toNat)) ++ ([40001])))))
          (some (.t (.sl tI) (Lib.compact (sortI ((([0]) ++ ends (p0.1.drop (0 : Int).toNat)) ++ ([40001])))), []))
          (none))
        (none))
      (none))
    (none)
theorem e_verdict_days (p0 : Policy) : runF g_verdict_days tc_verdict_days rv_verdict_days false [.t tyPolicy p0] [] = r_verdict_days p0 := by kernel_rfl
theorem ok_verdict_days : Option.map (trC Try.prog) Try.f62.body = some tc_verdict_days.er := by kernel_rfl
theorem rok_verdict_days : trVs Try.prog Try.f62.results.toList = some (rv_verdict_days.map Prod.fst) := by kernel_rfl
theorem en_verdict_days : Entered Try.prog 62 := .inr ⟨by decide, _, Try.func62, by kernel_rfl, by kernel_rfl⟩
theorem gk_verdict_days : GOk Try.prog g_verdict_days := gok_of _ (by
  intro p hp
  simp only [List.mem_cons, List.not_mem_nil, or_false] at hp
  rcases hp with rfl | rfl
  · exact ⟨en_slices_Sort_int_int, ms_slices_Sort_int_int⟩
  · exact ⟨en_slices_Compact_int_int, ms_slices_Compact_int_int⟩)
theorem l_verdict_days_0 (x8 : (List Rule)) (x9 : Int) (x10 : Int) (y6 : (List Int)) (h : (rngOk x8 x9 x10 && decide (y6.length ≤ 1 + 2 * x10)) = true) : lp_verdict_days_0 x8 x9 x10 y6 = la_verdict_days_0 x8 x9 x10 y6 := by
  simp only [Bool.and_eq_true, decide_eq_true_eq] at h
  obtain ⟨h0, h4⟩ := h
  obtain ⟨rfl, h3, k, rfl, hk⟩ := rng_k h0
  clear h0
  revert y6
  refine range_ind x8 (fun k => ∀ y6 : List Int, (y6.length : Int) ≤ 1 + 2 * (k : Int) → lp_verdict_days_0 x8 (x8.length : Int) (k : Int) y6 = la_verdict_days_0 x8 (x8.length : Int) (k : Int) y6) ?_ ?_ k hk
  · intro y6 _
    rw [ln_verdict_days_0]
    simp [n_verdict_days_0, la_verdict_days_0, ilt_nat, br_false, ends]
  · intro k hk ih y6 hy
    rw [ln_verdict_days_0]
    simp only [n_verdict_days_0, ilt_nat, cIx_nat, hk, decide_true, br_true, Int.toNat_natCast, add1 (show k < 4611686018427387904 by omega), lgt_get (y := tyRule) hk]
    rw [cApp_ok (by simp; omega) (by omega), br_true, ih _ (by simp; omega)]
    simp only [la_verdict_days_0, Int.toNat_natCast, List.drop_eq_getElem_cons hk, ends, List.flatMap_cons, List.append_assoc]
theorem lo_verdict_days_0 : ∀ S l p, g_verdict_days.L 0 (fgt fg_verdict_days_0 S) = some (true, l) → pickA l = some p → loopF (roundF g_verdict_days fg_verdict_days_0 tb_verdict_days_0) S = some p :=
  lok_of (s := sh_verdict_days_0) ⟨by decide, by decide⟩ (by kernel_rfl) fun x y hok p hp => by
  simp only [pickA_br, pickA_one] at hp
  exact (l_verdict_days_0 x.2.1 x.2.2.1 x.2.2.2.1 y.2.1 (by simpa using hok)).trans hp
theorem lk_verdict_days : tc_verdict_days.lok g_verdict_days := by
  repeat (first | exact trivial | exact lo_verdict_days_0 | refine ⟨?_, ?_⟩)
theorem ends_length (l : List Rule) : (ends l).length = 2 * l.length := by
  induction l with
  | nil => rfl
  | cons a l ih => simp only [ends, List.flatMap_cons, List.length_append, List.length_cons, List.length_nil] at ih ⊢; omega
theorem s_verdict_days (y : Policy) (h : polLen y = true) : r_verdict_days y = some (.t (.sl tI) (daysF y), []) := by
  simp only [polLen, lenOk5, Bool.and_eq_true, decide_eq_true_eq] at h
  have e1 : rngOk y.1 (llen y.1) 0 = true := rng_0 h.1
  simp only [r_verdict_days, e1, Bool.true_and]
  have hl := ends_length y.1
  have e2 : decide ((([0] : List Int).length : Int) ≤ 1 + 2 * 0) = true := by decide
  simp only [e2, br_true, Int.toNat_zero, List.drop_zero]
  rw [cApp_ok (by simp; omega) (by omega), br_true]
  rw [show lenOk (([0] ++ ends y.1) ++ [40001]) = true by simp [lenOk]; omega]
  simp only [br_true]
  rw [show lenOk (sortI (([0] ++ ends y.1) ++ [40001])) = true by simp [lenOk, sortI]; omega]
  rfl
def sp_verdict_days : Ent := spec (.pr tyPolicy .nil) (fun x => (polLen x.1)) (fun x => (.t (.sl tI) (daysF x.1)))
theorem ms_verdict_days : Meets Try.prog 62 (strip sp_verdict_days) := by
  obtain ⟨c, hc, hi⟩ := Option.map_eq_some_iff.1 ok_verdict_days
  exact meets_spec (R := runF g_verdict_days tc_verdict_days rv_verdict_days false) (meets_of (by decide) Try.func62 hc hi Try.ntmps62 rok_verdict_days gk_verdict_days lk_verdict_days mixed) fun x hok => (e_verdict_days x.1).trans (s_verdict_days x.1 hok)
end Go.Proofs.Ytfehjdaielifiaa.K
