/-
 verdict.decides.
-/
import Derived.Test.YtfehjdaielifiaaGreatV1
import Derived.Test.YtfehjdaielifiaaGreatB2
set_option linter.unusedSimpArgs false
set_option linter.unusedVariables false
namespace Go.Proofs.YtfehjdaielifiaaGreat.K
open Go.RowKit
def decZ (zs : List (Int × (Rule × Unit))) (u : Keep) (p d : Int) : Option Int := (zs.find? fun z => matches' z.2.1 u p d).map (·.1)
def decHit (zs : List (Int × (Rule × Unit))) (u : Keep) (p d _x : Int) : Bool := (decZ zs u p d).isSome
def decAt (zs : List (Int × (Rule × Unit))) (u : Keep) (p d _x : Int) : Int := (decZ zs u p d).getD 0
def decF (y : Policy) (u : Keep) (p d : Int) : Int := (decZ (backL y.1) u p d).getD (-1)
def fg_f114_0 : Fg := ⟨[(5, none), (6, none), (7, none), (8, none)], [(60000, some tyKeep), (60001, some tI), (60002, some tI), (60003, none)]⟩
def ta_f114_0 : TC := (.sq (.reg [(oV 9 14)]) (.reg [(oM 10 (.new [(.v (.bool false)), (.v (.int .i64 0)), (.v (.int .i64 0)), (.v (.int .i64 0)), (.v (.int .i64 0)), (.v (.int .i64 0))])), (.mk none none (.m (.st 6 (.t 10) (.t 15))))]))
def tb_f114_0 : TC := (.bk 1 (.sq (.reg [(oM 16 (.ld true 6 (.t 10))), (oM 17 (.ld true 2 (.t 5))), (oL 18 6), (oC 19 118 [(.t 16), (.t 17), (.t 18)]), (oV 20 19), (oQ 21 20 true (.fa 4 (.t 10))), (oG 22 20 true (.m (.ld false 1 (.t 21)))), (oG 23 20 true (.m (.ld false 1 (.t 7)))), (oQ 24 20 true (.bin false .leq (.t 22) (.t 23))), (oP 25 (.pick (.t 20) (.t 24) (cB false))), (oV 26 25), (oG 27 26 true (.m (.ld false 1 (.t 7)))), (oQ 28 26 true (.fa 5 (.t 10))), (oG 29 26 true (.m (.ld false 1 (.t 28)))), (oQ 30 26 true (.bin false .lss (.t 27) (.t 29))), (oP 31 (.pick (.t 26) (.t 30) (cB false)))]) (.cd (.t 31) (.sq (.reg [(oV 32 9), (.mk none none (.m (.st 1 (.t 8) (.t 32))))]) (.fg ⟨[], [(60000, some tyKeep), (60001, some tI), (60002, some tI), (60003, none)]⟩ .rt)) .sk)))
def tc_f114 : TC := (.sq (.reg [(oM 4 (.box (.t 0))), (oM 5 (.box (.t 1))), (oM 6 (.box (.t 2))), (oM 7 (.box (.t 3))), (oM 8 (.new [(.v (.int .i64 0))]))]) (.sq (.sq (.reg [(oP 11 (.fa 0 (.t 4))), (oL 12 11), (oC 13 117 [(.t 12)])]) (.bk 0 (.rf 0 fg_f114_0 (.t 13) (.pr tI (.pr tyRule .nil)) [14, 15] [5, 6, 7, 8] ta_f114_0 tb_f114_0))) (.sq (.reg [(.mk none none (.m (.st 1 (.t 8) (cI (-1)))))]) .rt)))
def rv_f114 : List (RV × Option Ty) := [((.c 8 false 1), some tI)]
abbrev sh_f114_0 : Sh := ⟨[(5, .ptr 60000 0), (6, .ptr 60001 0), (7, .ptr 60002 0), (8, .ptr 60003 0)], [(60000, .box tyKeep), (60001, .box tI), (60002, .box tI), (60003, .bag [.ty tI])]⟩
def st_f114_0 (y60000 : Keep) (y60001 : Int) (y60002 : Int) (y60003_0 : Int) : VS := sh_f114_0.st ((), (), (), (), ()) (y60000, y60001, y60002, (y60003_0, ()), ())
abbrev sh_f114_0_ret : Sh := ⟨[(5, .ptr 60000 0), (6, .ptr 60001 0), (7, .ptr 60002 0), (8, .ptr 60003 0)], [(60000, .box tyKeep), (60001, .box tI), (60002, .box tI), (60003, .bag [.ty tI])]⟩
def st_f114_0_ret (y60000 : Keep) (y60001 : Int) (y60002 : Int) (y60003_0 : Int) : VS := sh_f114_0_ret.st ((), (), (), (), ()) (y60000, y60001, y60002, (y60003_0, ()), ())
abbrev sh_f114_0_normal : Sh := ⟨[(5, .ptr 60000 0), (6, .ptr 60001 0), (7, .ptr 60002 0), (8, .ptr 60003 0)], [(60000, .box tyKeep), (60001, .box tI), (60002, .box tI), (60003, .bag [.ty tI])]⟩
def st_f114_0_normal (y60000 : Keep) (y60001 : Int) (y60002 : Int) (y60003_0 : Int) : VS := sh_f114_0_normal.st ((), (), (), (), ()) (y60000, y60001, y60002, (y60003_0, ()), ())
-- loop 0: (y60000 : Keep) (y60001 : Int) (y60002 : Int) (y60003_0 : Int); out: ('ret',) (y60000 : Keep) (y60001 : Int) (y60002 : Int) (y60003_0 : Int); ('normal',) (y60000 : Keep) (y60001 : Int) (y60002 : Int) (y60003_0 : Int)
def R_f114_0 : VS → List (Ty.T (.pr tI (.pr tyRule .nil))) → Option (Bool × List (Bool × Exit × VS)) := mkR sh_f114_0 (fun zs x y => true) (fun zs x y => [((decHit zs y.1 y.2.1 y.2.2.1 y.2.2.2.1.1), .ret, st_f114_0_ret (y.1) (y.2.1) (y.2.2.1) (decAt zs y.1 y.2.1 y.2.2.1 y.2.2.2.1.1)), (true, .normal, st_f114_0_normal (y.1) (y.2.1) (y.2.2.1) (y.2.2.2.1.1))])
def g_f114 : G := ⟨TYs, [], 33, EL [(117, sp_f117), (118, sp_f118)], keeps, (Ls [fun _ => none]), IL [(130, it_f117_1)], (RL [⟨(.pr tI (.pr tyRule .nil)), R_f114_0⟩])⟩
def b_f114_0 (z : (Int × (Rule × Unit))) (y60000 : Keep) (y60001 : Int) (y60002 : Int) (y60003_0 : Int) : Option (Exit × VS) :=
 br ((concerns z.2.1 y60000 y60001))
  (br ((ile z.2.1.2.2.2.2.1 y60002))
   (br ((ilt y60002 z.2.1.2.2.2.2.2.1))
    (some (.ret, st_f114_0_ret y60000 y60001 y60002 z.1))
    (some (.normal, st_f114_0 y60000 y60001 y60002 y60003_0)))
   (some (.normal, st_f114_0 y60000 y60001 y60002 y60003_0)))
  (some (.normal, st_f114_0 y60000 y60001 y60002 y60003_0))
noncomputable def lp_f114_0 (zs : List (Int × (Rule × Unit))) (y60000 : Keep) (y60001 : Int) (y60002 : Int) (y60003_0 : Int) : Option (Exit × VS) := rangeF (roundR g_f114 fg_f114_0 (.pr tI (.pr tyRule .nil)) [14, 15] ta_f114_0 tb_f114_0) zs (st_f114_0 y60000 y60001 y60002 y60003_0)
noncomputable def n_f114_0 (z : (Int × (Rule × Unit))) (zs : List (Int × (Rule × Unit))) (y60000 : Keep) (y60001 : Int) (y60002 : Int) (y60003_0 : Int) : Option (Exit × VS) :=
 br ((concerns z.2.1 y60000 y60001))
  (br ((ile z.2.1.2.2.2.2.1 y60002))
   (br ((ilt y60002 z.2.1.2.2.2.2.2.1))
    (some (.ret, st_f114_0_ret y60000 y60001 y60002 z.1))
    (lp_f114_0 zs y60000 y60001 y60002 y60003_0))
   (lp_f114_0 zs y60000 y60001 y60002 y60003_0))
  (lp_f114_0 zs y60000 y60001 y60002 y60003_0)
def la_f114_0 (zs : List (Int × (Rule × Unit))) (y60000 : Keep) (y60001 : Int) (y60002 : Int) (y60003_0 : Int) : Option (Exit × VS) := br (decHit zs y60000 y60001 y60002 y60003_0) (some (.ret, st_f114_0_ret (y60000) (y60001) (y60002) (decAt zs y60000 y60001 y60002 y60003_0))) <| some (.normal, st_f114_0_normal (y60000) (y60001) (y60002) (y60003_0))
theorem be_f114_0 (z : (Int × (Rule × Unit))) (y60000 : Keep) (y60001 : Int) (y60002 : Int) (y60003_0 : Int) : roundR g_f114 fg_f114_0 (.pr tI (.pr tyRule .nil)) [14, 15] ta_f114_0 tb_f114_0 z (st_f114_0 y60000 y60001 y60002 y60003_0) = b_f114_0 z y60000 y60001 y60002 y60003_0 := by kernel_rfl
theorem ln0_f114_0 (y60000 : Keep) (y60001 : Int) (y60002 : Int) (y60003_0 : Int) : lp_f114_0 [] y60000 y60001 y60002 y60003_0 = some (.normal, st_f114_0_normal y60000 y60001 y60002 y60003_0) := rfl
theorem ln_f114_0 (z : (Int × (Rule × Unit))) (zs : List (Int × (Rule × Unit))) (y60000 : Keep) (y60001 : Int) (y60002 : Int) (y60003_0 : Int) : lp_f114_0 (z :: zs) y60000 y60001 y60002 y60003_0 = n_f114_0 z zs y60000 y60001 y60002 y60003_0 := (rangeF_cons _ _ _ _).trans (by
 rw [be_f114_0]
 simp only [b_f114_0, n_f114_0, nxt_br, nxt_n, nxt_r, nxt_e, nxt_0]
 rfl)
def r_f114 (p0 : Policy) (p1 : Keep) (p2 : Int) (p3 : Int) : Option (V × List VO) :=
 br ((decHit (backL p0.1) p1 p2 p3 0))
  (some (.t tI (decAt (backL p0.1) p1 p2 p3 0), []))
  (some (.t tI (-1), []))
theorem e_f114 (p0 : Policy) (p1 : Keep) (p2 : Int) (p3 : Int) : runF g_f114 tc_f114 rv_f114 false [.t tyPolicy p0, .t tyKeep p1, .t tI p2, .t tI p3] [] = r_f114 p0 p1 p2 p3 := by kernel_rfl
theorem ok_f114 : Option.map (trC Tryz.prog) Tryz.f114.body = some tc_f114.er := by kernel_rfl
theorem rok_f114 : trVs Tryz.prog Tryz.f114.results.toList = some (rv_f114.map Prod.fst) := by kernel_rfl
theorem en_f114 : Entered Tryz.prog 114 := .inr ⟨by decide, _, Tryz.func114, by kernel_rfl, by kernel_rfl⟩
theorem gk_f114 : GOk Tryz.prog g_f114 := gok_of _ (by
 intro p hp
 simp only [List.mem_cons, List.not_mem_nil, or_false] at hp
 rcases hp with rfl | rfl
 ·exact ⟨en_f117, ms_f117⟩
 ·exact ⟨en_f118, ms_f118⟩) [(130, it_f117_1)] (by
 intro p hp
 simp only [List.mem_cons, List.not_mem_nil, or_false] at hp
 rcases hp with rfl
 ·exact is_f117_1)
theorem l_f114_0 (zs : List (Int × (Rule × Unit))) (y60000 : Keep) (y60001 : Int) (y60002 : Int) (y60003_0 : Int) (h : true = true) : lp_f114_0 zs y60000 y60001 y60002 y60003_0 = la_f114_0 zs y60000 y60001 y60002 y60003_0 := by
 clear h
 induction zs with
 | nil =>
  rw [ln0_f114_0]
  rfl
 | cons z zs ih =>
  rw [ln_f114_0]
  simp only [n_f114_0, ih, la_f114_0, decHit, decAt, decZ, List.find?_cons, matches', within', ile, ilt, Item.Name, Item.Kind, Item.Purpose, Item.Links, Item.Until, Policy.Rules, Policy.Keeps, Rule.Allow, Rule.Alg, Rule.Below, Rule.Purpose, Rule.From, Rule.To, Keep.Alg, Keep.Bits, Link.Use, Link.Day, Dice.L, Dice.At, LinkX.day, LinkX.fall, LinkX.falls, Row.name, Row.kind, Row.way, Row.sizes, Row.strengths]
  cases h1 : concerns z.2.1 y60000 y60001 <;> cases h2 : decide (z.2.1.2.2.2.2.1 ≤ y60002) <;> cases h3 : decide (y60002 < z.2.1.2.2.2.2.2.1) <;> simp [br_true, br_false]
theorem lo_f114_0 : ∀ S (rows : List (Ty.T (.pr tI (.pr tyRule .nil)))) l p, g_f114.R 0 (fgt fg_f114_0 S) (.pr tI (.pr tyRule .nil)) rows = some (true, l) → pickA l = some p → rangeF (roundR g_f114 fg_f114_0 (.pr tI (.pr tyRule .nil)) [14, 15] ta_f114_0 tb_f114_0) rows (fgt fg_f114_0 S) = some p := by
 intro S rows l p hR hp
 rw [show g_f114.R 0 (fgt fg_f114_0 S) (.pr tI (.pr tyRule .nil)) rows = R_f114_0 (fgt fg_f114_0 S) rows from RL_at (l := [⟨(.pr tI (.pr tyRule .nil)), R_f114_0⟩]) (j := 0) (F := R_f114_0) rfl _ _] at hR
 refine lokR_of (s := sh_f114_0) ⟨by decide, by decide⟩ (by kernel_rfl) (fun zs x y hok p hp => ?_) S rows l p hR hp
 simp only [pickA_br, pickA_one] at hp
 exact (l_f114_0 zs y.1 y.2.1 y.2.2.1 y.2.2.2.1.1 (by first | rfl | simpa using hok)).trans hp
theorem lk_f114 : tc_f114.lok g_f114 := by
 repeat (first | exact trivial | exact lo_f114_0 | refine ⟨?_, ?_⟩)
theorem s_f114 (p0 : Policy) (p1 : Keep) (p2 p3 : Int) : r_f114 p0 p1 p2 p3 = some (.t tI (decF p0 p1 p2 p3), []) := by
 simp only [r_f114, decF, decHit, decAt]
 cases decZ (backL p0.1) p1 p2 p3 <;> simp [br_true, br_false]
def sp_f114 : Ent := spec (.pr tyPolicy (.pr tyKeep (.pr tI (.pr tI .nil)))) (fun x => true) (fun x => (.t tI (decF x.1 x.2.1 x.2.2.1 x.2.2.2.1)))
theorem ms_f114 : Meets Tryz.prog 114 (strip sp_f114) := by
 obtain ⟨c, hc, hi⟩ := Option.map_eq_some_iff.1 ok_f114
 exact meets_spec (R := runF g_f114 tc_f114 rv_f114 false) (meets_of (by decide) Tryz.func114 hc hi Tryz.ntmps114 rok_f114 gk_f114 lk_f114 mixed) fun x _ => (e_f114 x.1 x.2.1 x.2.2.1 x.2.2.2.1).trans (s_f114 x.1 x.2.1 x.2.2.1 x.2.2.2.1)
end Go.Proofs.YtfehjdaielifiaaGreat.K
