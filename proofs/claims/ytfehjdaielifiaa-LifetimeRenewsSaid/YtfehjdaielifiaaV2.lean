/-
  verdict.decides.
-/
import Derived.Test.YtfehjdaielifiaaV1
import Derived.Test.YtfehjdaielifiaaB2
set_option linter.unusedSimpArgs false
set_option linter.unusedVariables false
namespace Go.Proofs.Ytfehjdaielifiaa.K
open Go.RowKit
/-- the first of the rules that are given which matches -/
def decZ (zs : List (Int × (Rule × Unit))) (u : Keep) (p d : Int) : Option Int := (zs.find? fun z => matches' z.2.1 u p d).map (·.1)
def decHit (zs : List (Int × (Rule × Unit))) (u : Keep) (p d _x : Int) : Bool := (decZ zs u p d).isSome
def decAt (zs : List (Int × (Rule × Unit))) (u : Keep) (p d _x : Int) : Int := (decZ zs u p d).getD 0
def decF (y : Policy) (u : Keep) (p d : Int) : Int := (decZ (backL y.1) u p d).getD (-1)
def fg_verdict_decides_0 : Fg := ⟨[(5, none), (6, none), (7, none), (8, none)], [(60000, some tyKeep), (60001, some tI), (60002, some tI), (60003, none)]⟩
def ta_verdict_decides_0 : TC := (.sq (.reg [(.mk (some 9) none (.m (.pu (.mv (.t 14)))))]) (.reg [(.mk (some 10) none (.m (.new [(.v (.bool false)), (.v (.int .i64 0)), (.v (.int .i64 0)), (.v (.int .i64 0)), (.v (.int .i64 0)), (.v (.int .i64 0))]))), (.mk none none (.m (.st 6 (.t 10) (.t 15))))]))
def tb_verdict_decides_0 : TC := (.bk 1 (.sq (.reg [(.mk (some 16) none (.m (.ld true 6 (.t 10)))), (.mk (some 17) none (.m (.ld true 2 (.t 5)))), (.mk (some 18) none (.m (.ld false 1 (.t 6)))), (.mk (some 19) none (.call 74 [(.t 16), (.t 17), (.t 18)])), (.mk (some 20) none (.m (.pu (.mv (.t 19))))), (.mk (some 21) (some (20, true)) (.m (.pu (.fa 4 (.t 10))))), (.mk (some 22) (some (20, true)) (.m (.ld false 1 (.t 21)))), (.mk (some 23) (some (20, true)) (.m (.ld false 1 (.t 7)))), (.mk (some 24) (some (20, true)) (.m (.pu (.bin false .leq (.t 22) (.t 23))))), (.mk (some 25) none (.m (.pu (.pick (.t 20) (.t 24) (.c (.v (.bool false))))))), (.mk (some 26) none (.m (.pu (.mv (.t 25))))), (.mk (some 27) (some (26, true)) (.m (.ld false 1 (.t 7)))), (.mk (some 28) (some (26, true)) (.m (.pu (.fa 5 (.t 10))))), (.mk (some 29) (some (26, true)) (.m (.ld false 1 (.t 28)))), (.mk (some 30) (some (26, true)) (.m (.pu (.bin false .lss (.t 27) (.t 29))))), (.mk (some 31) none (.m (.pu (.pick (.t 26) (.t 30) (.c (.v (.bool false)))))))]) (.cd (.t 31) (.sq (.reg [(.mk (some 32) none (.m (.pu (.mv (.t 9))))), (.mk none none (.m (.st 1 (.t 8) (.t 32))))]) (.fg ⟨[], [(60000, some tyKeep), (60001, some tI), (60002, some tI), (60003, none)]⟩ .rt)) .sk)))
/-- cipherplan/verdict.decides -/
def tc_verdict_decides : TC := (.sq (.reg [(.mk (some 4) none (.m (.box (.t 0)))), (.mk (some 5) none (.m (.box (.t 1)))), (.mk (some 6) none (.m (.box (.t 2)))), (.mk (some 7) none (.m (.box (.t 3)))), (.mk (some 8) none (.m (.new [(.v (.int .i64 0))])))]) (.sq (.sq (.reg [(.mk (some 11) none (.m (.pu (.fa 0 (.t 4))))), (.mk (some 12) none (.m (.ld false 1 (.t 11)))), (.mk (some 13) none (.call 73 [(.t 12)]))]) (.bk 0 (.rf 0 fg_verdict_decides_0 (.t 13) (.pr tI (.pr tyRule .nil)) [14, 15] [5, 6, 7, 8] ta_verdict_decides_0 tb_verdict_decides_0))) (.sq (.reg [(.mk none none (.m (.st 1 (.t 8) (.c (.v (.int .i64 (-1)))))))]) .rt)))
def rv_verdict_decides : List (RV × Option Ty) := [((.c 8 false 1), some tI)]
abbrev sh_verdict_decides_0 : Sh := ⟨[(5, .ptr 60000 0), (6, .ptr 60001 0), (7, .ptr 60002 0), (8, .ptr 60003 0)], [(60000, .box tyKeep), (60001, .box tI), (60002, .box tI), (60003, .bag [.ty tI])]⟩
def st_verdict_decides_0 (y60000 : Keep) (y60001 : Int) (y60002 : Int) (y60003_0 : Int) : VS := sh_verdict_decides_0.st ((), (), (), (), ()) (y60000, y60001, y60002, (y60003_0, ()), ())
abbrev sh_verdict_decides_0_ret : Sh := ⟨[(5, .ptr 60000 0), (6, .ptr 60001 0), (7, .ptr 60002 0), (8, .ptr 60003 0)], [(60000, .box tyKeep), (60001, .box tI), (60002, .box tI), (60003, .bag [.ty tI])]⟩
def st_verdict_decides_0_ret (y60000 : Keep) (y60001 : Int) (y60002 : Int) (y60003_0 : Int) : VS := sh_verdict_decides_0_ret.st ((), (), (), (), ()) (y60000, y60001, y60002, (y60003_0, ()), ())
abbrev sh_verdict_decides_0_normal : Sh := ⟨[(5, .ptr 60000 0), (6, .ptr 60001 0), (7, .ptr 60002 0), (8, .ptr 60003 0)], [(60000, .box tyKeep), (60001, .box tI), (60002, .box tI), (60003, .bag [.ty tI])]⟩
def st_verdict_decides_0_normal (y60000 : Keep) (y60001 : Int) (y60002 : Int) (y60003_0 : Int) : VS := sh_verdict_decides_0_normal.st ((), (), (), (), ()) (y60000, y60001, y60002, (y60003_0, ()), ())
-- loop 0: (y60000 : Keep) (y60001 : Int) (y60002 : Int) (y60003_0 : Int); out: ('ret',) (y60000 : Keep) (y60001 : Int) (y60002 : Int) (y60003_0 : Int); ('normal',) (y60000 : Keep) (y60001 : Int) (y60002 : Int) (y60003_0 : Int)
def R_verdict_decides_0 : VS → List (Ty.T (.pr tI (.pr tyRule .nil))) → Option (Bool × List (Bool × Exit × VS)) := mkR sh_verdict_decides_0 (fun zs x y => true) (fun zs x y => [((decHit zs y.1 y.2.1 y.2.2.1 y.2.2.2.1.1), .ret, st_verdict_decides_0_ret (y.1) (y.2.1) (y.2.2.1) (decAt zs y.1 y.2.1 y.2.2.1 y.2.2.2.1.1)), (true, .normal, st_verdict_decides_0_normal (y.1) (y.2.1) (y.2.2.1) (y.2.2.2.1.1))])
def g_verdict_decides : G := ⟨TYs, [], 33, EL [(73, sp_slices_Backward_api_Rule_api_Rule), (74, sp_verdict_concerns)], keeps, (Ls [fun _ => none]), IL [(86, it_slices_Backward_api_Rule_api_Rule_1)], (RL [⟨(.pr tI (.pr tyRule .nil)), R_verdict_decides_0⟩])⟩
def b_verdict_decides_0 (z : (Int × (Rule × Unit))) (y60000 : Keep) (y60001 : Int) (y60002 : Int) (y60003_0 : Int) : Option (Exit × VS) :=
  br ((concerns z.2.1 y60000 y60001))
    (br ((ile z.2.1.2.2.2.2.1 y60002))
      (br ((ilt y60002 z.2.1.2.2.2.2.2.1))
        (some (.ret, st_verdict_decides_0_ret y60000 y60001 y60002 z.1))
        (some (.normal, st_verdict_decides_0 y60000 y60001 y60002 y60003_0)))
      (some (.normal, st_verdict_decides_0 y60000 y60001 y60002 y60003_0)))
    (some (.normal, st_verdict_decides_0 y60000 y60001 y60002 y60003_0))
noncomputable def lp_verdict_decides_0 (zs : List (Int × (Rule × Unit))) (y60000 : Keep) (y60001 : Int) (y60002 : Int) (y60003_0 : Int) : Option (Exit × VS) := rangeF (roundR g_verdict_decides fg_verdict_decides_0 (.pr tI (.pr tyRule .nil)) [14, 15] ta_verdict_decides_0 tb_verdict_decides_0) zs (st_verdict_decides_0 y60000 y60001 y60002 y60003_0)
noncomputable def n_verdict_decides_0 (z : (Int × (Rule × Unit))) (zs : List (Int × (Rule × Unit))) (y60000 : Keep) (y60001 : Int) (y60002 : Int) (y60003_0 : Int) : Option (Exit × VS) :=
  br ((concerns z.2.1 y60000 y60001))
    (br ((ile z.2.1.2.2.2.2.1 y60002))
      (br ((ilt y60002 z.2.1.2.2.2.2.2.1))
        (some (.ret, st_verdict_decides_0_ret y60000 y60001 y60002 z.1))
        (lp_verdict_decides_0 zs y60000 y60001 y60002 y60003_0))
      (lp_verdict_decides_0 zs y60000 y60001 y60002 y60003_0))
    (lp_verdict_decides_0 zs y60000 y60001 y60002 y60003_0)
def la_verdict_decides_0 (zs : List (Int × (Rule × Unit))) (y60000 : Keep) (y60001 : Int) (y60002 : Int) (y60003_0 : Int) : Option (Exit × VS) := br (decHit zs y60000 y60001 y60002 y60003_0) (some (.ret, st_verdict_decides_0_ret (y60000) (y60001) (y60002) (decAt zs y60000 y60001 y60002 y60003_0))) <| some (.normal, st_verdict_decides_0_normal (y60000) (y60001) (y60002) (y60003_0))
theorem be_verdict_decides_0 (z : (Int × (Rule × Unit))) (y60000 : Keep) (y60001 : Int) (y60002 : Int) (y60003_0 : Int) : roundR g_verdict_decides fg_verdict_decides_0 (.pr tI (.pr tyRule .nil)) [14, 15] ta_verdict_decides_0 tb_verdict_decides_0 z (st_verdict_decides_0 y60000 y60001 y60002 y60003_0) = b_verdict_decides_0 z y60000 y60001 y60002 y60003_0 := by kernel_rfl
theorem ln0_verdict_decides_0 (y60000 : Keep) (y60001 : Int) (y60002 : Int) (y60003_0 : Int) : lp_verdict_decides_0 [] y60000 y60001 y60002 y60003_0 = some (.normal, st_verdict_decides_0_normal y60000 y60001 y60002 y60003_0) := rfl
theorem ln_verdict_decides_0 (z : (Int × (Rule × Unit))) (zs : List (Int × (Rule × Unit))) (y60000 : Keep) (y60001 : Int) (y60002 : Int) (y60003_0 : Int) : lp_verdict_decides_0 (z :: zs) y60000 y60001 y60002 y60003_0 = n_verdict_decides_0 z zs y60000 y60001 y60002 y60003_0 := (rangeF_cons _ _ _ _).trans (by
  rw [be_verdict_decides_0]
  simp only [b_verdict_decides_0, n_verdict_decides_0, nxt_br, nxt_n, nxt_r, nxt_e, nxt_0]
  rfl)
def r_verdict_decides (p0 : Policy) (p1 : Keep) (p2 : Int) (p3 : Int) : Option (V × List VO) :=
  br ((decHit (backL p0.1) p1 p2 p3 0))
    (some (.t tI (decAt (backL p0.1) p1 p2 p3 0), []))
    (some (.t tI (-1), []))
theorem e_verdict_decides (p0 : Policy) (p1 : Keep) (p2 : Int) (p3 : Int) : runF g_verdict_decides tc_verdict_decides rv_verdict_decides false [.t tyPolicy p0, .t tyKeep p1, .t tI p2, .t tI p3] [] = r_verdict_decides p0 p1 p2 p3 := by kernel_rfl
theorem ok_verdict_decides : Option.map (trC Try.prog) Try.f70.body = some tc_verdict_decides.er := by kernel_rfl
theorem rok_verdict_decides : trVs Try.prog Try.f70.results.toList = some (rv_verdict_decides.map Prod.fst) := by kernel_rfl
theorem en_verdict_decides : Entered Try.prog 70 := .inr ⟨by decide, _, Try.func70, by kernel_rfl, by kernel_rfl⟩
theorem gk_verdict_decides : GOk Try.prog g_verdict_decides := gok_of _ (by
  intro p hp
  simp only [List.mem_cons, List.not_mem_nil, or_false] at hp
  rcases hp with rfl | rfl
  · exact ⟨en_slices_Backward_api_Rule_api_Rule, ms_slices_Backward_api_Rule_api_Rule⟩
  · exact ⟨en_verdict_concerns, ms_verdict_concerns⟩) [(86, it_slices_Backward_api_Rule_api_Rule_1)] (by
  intro p hp
  simp only [List.mem_cons, List.not_mem_nil, or_false] at hp
  rcases hp with rfl
  · exact is_slices_Backward_api_Rule_api_Rule_1)
theorem l_verdict_decides_0 (zs : List (Int × (Rule × Unit))) (y60000 : Keep) (y60001 : Int) (y60002 : Int) (y60003_0 : Int) (h : true = true) : lp_verdict_decides_0 zs y60000 y60001 y60002 y60003_0 = la_verdict_decides_0 zs y60000 y60001 y60002 y60003_0 := by
  clear h
  induction zs with
  | nil =>
    rw [ln0_verdict_decides_0]
    rfl
  | cons z zs ih =>
    rw [ln_verdict_decides_0]
    simp only [n_verdict_decides_0, ih, la_verdict_decides_0, decHit, decAt, decZ, List.find?_cons, matches', within', ile, ilt, Policy.Rules, Policy.Keeps, Item.Name, Item.Kind, Item.Purpose, Item.Links, Item.Until, Keep.Alg, Keep.Bits, Link.Use, Link.Day, Rule.Allow, Rule.Alg, Rule.Below, Rule.Purpose, Rule.From, Rule.To, Dice.L, Dice.At, LinkX.day, LinkX.fall, LinkX.falls, Row.name, Row.kind, Row.way, Row.sizes, Row.strengths]
    cases h1 : concerns z.2.1 y60000 y60001 <;> cases h2 : decide (z.2.1.2.2.2.2.1 ≤ y60002) <;> cases h3 : decide (y60002 < z.2.1.2.2.2.2.2.1) <;> simp [br_true, br_false]
theorem lo_verdict_decides_0 : ∀ S (rows : List (Ty.T (.pr tI (.pr tyRule .nil)))) l p, g_verdict_decides.R 0 (fgt fg_verdict_decides_0 S) (.pr tI (.pr tyRule .nil)) rows = some (true, l) → pickA l = some p → rangeF (roundR g_verdict_decides fg_verdict_decides_0 (.pr tI (.pr tyRule .nil)) [14, 15] ta_verdict_decides_0 tb_verdict_decides_0) rows (fgt fg_verdict_decides_0 S) = some p := by
  intro S rows l p hR hp
  rw [show g_verdict_decides.R 0 (fgt fg_verdict_decides_0 S) (.pr tI (.pr tyRule .nil)) rows = R_verdict_decides_0 (fgt fg_verdict_decides_0 S) rows from RL_at (l := [⟨(.pr tI (.pr tyRule .nil)), R_verdict_decides_0⟩]) (j := 0) (F := R_verdict_decides_0) rfl _ _] at hR
  refine lokR_of (s := sh_verdict_decides_0) ⟨by decide, by decide⟩ (by kernel_rfl) (fun zs x y hok p hp => ?_) S rows l p hR hp
  simp only [pickA_br, pickA_one] at hp
  exact (l_verdict_decides_0 zs y.1 y.2.1 y.2.2.1 y.2.2.2.1.1 (by first | rfl | simpa using hok)).trans hp
theorem lk_verdict_decides : tc_verdict_decides.lok g_verdict_decides := by
  repeat (first | exact trivial | exact lo_verdict_decides_0 | refine ⟨?_, ?_⟩)
theorem s_verdict_decides (p0 : Policy) (p1 : Keep) (p2 p3 : Int) : r_verdict_decides p0 p1 p2 p3 = some (.t tI (decF p0 p1 p2 p3), []) := by
  simp only [r_verdict_decides, decF, decHit, decAt]
  cases decZ (backL p0.1) p1 p2 p3 <;> simp [br_true, br_false]
def sp_verdict_decides : Ent := spec (.pr tyPolicy (.pr tyKeep (.pr tI (.pr tI .nil)))) (fun x => true) (fun x => (.t tI (decF x.1 x.2.1 x.2.2.1 x.2.2.2.1)))
theorem ms_verdict_decides : Meets Try.prog 70 (strip sp_verdict_decides) := by
  obtain ⟨c, hc, hi⟩ := Option.map_eq_some_iff.1 ok_verdict_decides
  exact meets_spec (R := runF g_verdict_decides tc_verdict_decides rv_verdict_decides false) (meets_of (by decide) Try.func70 hc hi Try.ntmps70 rok_verdict_decides gk_verdict_decides lk_verdict_decides mixed) fun x _ => (e_verdict_decides x.1 x.2.1 x.2.2.1 x.2.2.2.1).trans (s_verdict_decides x.1 x.2.1 x.2.2.1 x.2.2.2.1)
end Go.Proofs.Ytfehjdaielifiaa.K
