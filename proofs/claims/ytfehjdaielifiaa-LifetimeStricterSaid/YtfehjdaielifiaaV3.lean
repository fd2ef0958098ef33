/-
  verdict.Keep.
-/
import Derived.Test.YtfehjdaielifiaaV1
import Derived.Test.YtfehjdaielifiaaB3
set_option linter.unusedSimpArgs false
set_option linter.unusedVariables false
namespace Go.Proofs.Ytfehjdaielifiaa.K
open Go.RowKit
/-- the days of the first of the keeps that are given on a purpose -/
def keepZ (zs : List (Int × (Keep × Unit))) (p : Int) : Option Int := (zs.find? fun z => z.2.1.1 == p).map (·.2.1.2.1)
def keepHit (zs : List (Int × (Keep × Unit))) (p _x : Int) : Bool := (keepZ zs p).isSome
def keepAt (zs : List (Int × (Keep × Unit))) (p _x : Int) : Int := (keepZ zs p).getD 0
def keepF (y : Policy) (p : Int) : Int := (keepZ (backL y.2.1) p).getD 0
def fg_verdict_Keep_0 : Fg := ⟨[(3, none), (4, none)], [(60000, some tI), (60001, none)]⟩
def ta_verdict_Keep_0 : TC := (.reg [(.mk (some 6) none (.m (.new [(.v (.int .i64 0)), (.v (.int .i64 0))]))), (.mk none none (.m (.st 2 (.t 6) (.t 11))))])
def tb_verdict_Keep_0 : TC := (.bk 1 (.sq (.reg [(.mk (some 12) none (.m (.pu (.fa 0 (.t 6))))), (.mk (some 13) none (.m (.ld false 1 (.t 12)))), (.mk (some 14) none (.m (.ld false 1 (.t 3)))), (.mk (some 15) none (.m (.pu (.bin false .eql (.t 13) (.t 14)))))]) (.cd (.t 15) (.sq (.reg [(.mk (some 16) none (.m (.pu (.fa 1 (.t 6))))), (.mk (some 17) none (.m (.ld false 1 (.t 16)))), (.mk none none (.m (.st 1 (.t 4) (.t 17))))]) (.fg ⟨[], [(60000, some tI), (60001, none)]⟩ .rt)) .sk)))
/-- cipherplan/verdict.Keep -/
def tc_verdict_Keep : TC := (.sq (.reg [(.mk (some 2) none (.m (.box (.t 0)))), (.mk (some 3) none (.m (.box (.t 1)))), (.mk (some 4) none (.m (.new [(.v (.int .i64 0))])))]) (.sq (.sq (.reg [(.mk (some 7) none (.m (.pu (.fa 1 (.t 2))))), (.mk (some 8) none (.m (.ld false 1 (.t 7)))), (.mk (some 9) none (.call 41 [(.t 8)]))]) (.bk 0 (.rf 0 fg_verdict_Keep_0 (.t 9) (.pr tI (.pr tyKeep .nil)) [10, 11] [3, 4] ta_verdict_Keep_0 tb_verdict_Keep_0))) (.sq (.reg [(.mk none none (.m (.st 1 (.t 4) (.c (.v (.int .i64 0))))))]) .rt)))
def rv_verdict_Keep : List (RV × Option Ty) := [((.c 4 false 1), some tI)]
abbrev sh_verdict_Keep_0 : Sh := ⟨[(3, .ptr 60000 0), (4, .ptr 60001 0)], [(60000, .box tI), (60001, .bag [.ty tI])]⟩
def st_verdict_Keep_0 (y60000 : Int) (y60001_0 : Int) : VS := sh_verdict_Keep_0.st ((), (), ()) (y60000, (y60001_0, ()), ())
abbrev sh_verdict_Keep_0_ret : Sh := ⟨[(3, .ptr 60000 0), (4, .ptr 60001 0)], [(60000, .box tI), (60001, .bag [.ty tI])]⟩
def st_verdict_Keep_0_ret (y60000 : Int) (y60001_0 : Int) : VS := sh_verdict_Keep_0_ret.st ((), (), ()) (y60000, (y60001_0, ()), ())
abbrev sh_verdict_Keep_0_normal : Sh := ⟨[(3, .ptr 60000 0), (4, .ptr 60001 0)], [(60000, .box tI), (60001, .bag [.ty tI])]⟩
def st_verdict_Keep_0_normal (y60000 : Int) (y60001_0 : Int) : VS := sh_verdict_Keep_0_normal.st ((), (), ()) (y60000, (y60001_0, ()), ())
-- loop 0: (y60000 : Int) (y60001_0 : Int); out: ('ret',) (y60000 : Int) (y60001_0 : Int); ('normal',) (y60000 : Int) (y60001_0 : Int)
def R_verdict_Keep_0 : VS → List (Ty.T (.pr tI (.pr tyKeep .nil))) → Option (Bool × List (Bool × Exit × VS)) := mkR sh_verdict_Keep_0 (fun zs x y => true) (fun zs x y => [((keepHit zs y.1 y.2.1.1), .ret, st_verdict_Keep_0_ret (y.1) (keepAt zs y.1 y.2.1.1)), (true, .normal, st_verdict_Keep_0_normal (y.1) (y.2.1.1))])
def g_verdict_Keep : G := ⟨TYs, [], 18, EL [(41, sp_slices_Backward_api_Keep_api_Keep)], keeps, (Ls [fun _ => none]), IL [(55, it_slices_Backward_api_Keep_api_Keep_1)], (RL [⟨(.pr tI (.pr tyKeep .nil)), R_verdict_Keep_0⟩])⟩
def b_verdict_Keep_0 (z : (Int × (Keep × Unit))) (y60000 : Int) (y60001_0 : Int) : Option (Exit × VS) :=
  br ((ieq z.2.1.1 y60000))
    (some (.ret, st_verdict_Keep_0_ret y60000 z.2.1.2.1))
    (some (.normal, st_verdict_Keep_0 y60000 y60001_0))
noncomputable def lp_verdict_Keep_0 (zs : List (Int × (Keep × Unit))) (y60000 : Int) (y60001_0 : Int) : Option (Exit × VS) := rangeF (roundR g_verdict_Keep fg_verdict_Keep_0 (.pr tI (.pr tyKeep .nil)) [10, 11] ta_verdict_Keep_0 tb_verdict_Keep_0) zs (st_verdict_Keep_0 y60000 y60001_0)
noncomputable def n_verdict_Keep_0 (z : (Int × (Keep × Unit))) (zs : List (Int × (Keep × Unit))) (y60000 : Int) (y60001_0 : Int) : Option (Exit × VS) :=
  br ((ieq z.2.1.1 y60000))
    (some (.ret, st_verdict_Keep_0_ret y60000 z.2.1.2.1))
    (lp_verdict_Keep_0 zs y60000 y60001_0)
def la_verdict_Keep_0 (zs : List (Int × (Keep × Unit))) (y60000 : Int) (y60001_0 : Int) : Option (Exit × VS) := br (keepHit zs y60000 y60001_0) (some (.ret, st_verdict_Keep_0_ret (y60000) (keepAt zs y60000 y60001_0))) <| some (.normal, st_verdict_Keep_0_normal (y60000) (y60001_0))
theorem be_verdict_Keep_0 (z : (Int × (Keep × Unit))) (y60000 : Int) (y60001_0 : Int) : roundR g_verdict_Keep fg_verdict_Keep_0 (.pr tI (.pr tyKeep .nil)) [10, 11] ta_verdict_Keep_0 tb_verdict_Keep_0 z (st_verdict_Keep_0 y60000 y60001_0) = b_verdict_Keep_0 z y60000 y60001_0 := by kernel_rfl
theorem ln0_verdict_Keep_0 (y60000 : Int) (y60001_0 : Int) : lp_verdict_Keep_0 [] y60000 y60001_0 = some (.normal, st_verdict_Keep_0_normal y60000 y60001_0) := rfl
theorem ln_verdict_Keep_0 (z : (Int × (Keep × Unit))) (zs : List (Int × (Keep × Unit))) (y60000 : Int) (y60001_0 : Int) : lp_verdict_Keep_0 (z :: zs) y60000 y60001_0 = n_verdict_Keep_0 z zs y60000 y60001_0 := (rangeF_cons _ _ _ _).trans (by
  rw [be_verdict_Keep_0]
  simp only [b_verdict_Keep_0, n_verdict_Keep_0, nxt_br, nxt_n, nxt_r, nxt_e, nxt_0]
  rfl)
def r_verdict_Keep (p0 : Policy) (p1 : Int) : Option (V × List VO) :=
  br ((keepHit (backL p0.2.1) p1 0))
    (some (.t tI (keepAt (backL p0.2.1) p1 0), []))
    (some (.t tI 0, []))
theorem e_verdict_Keep (p0 : Policy) (p1 : Int) : runF g_verdict_Keep tc_verdict_Keep rv_verdict_Keep false [.t tyPolicy p0, .t tI p1] [] = r_verdict_Keep p0 p1 := by kernel_rfl
theorem ok_verdict_Keep : Option.map (trC Try.prog) Try.f28.body = some tc_verdict_Keep.er := by kernel_rfl
theorem rok_verdict_Keep : trVs Try.prog Try.f28.results.toList = some (rv_verdict_Keep.map Prod.fst) := by kernel_rfl
theorem en_verdict_Keep : Entered Try.prog 28 := .inr ⟨by decide, _, Try.func28, by kernel_rfl, by kernel_rfl⟩
theorem gk_verdict_Keep : GOk Try.prog g_verdict_Keep := gok_of _ (by
  intro p hp
  simp only [List.mem_cons, List.not_mem_nil, or_false] at hp
  rcases hp with rfl
  · exact ⟨en_slices_Backward_api_Keep_api_Keep, ms_slices_Backward_api_Keep_api_Keep⟩) [(55, it_slices_Backward_api_Keep_api_Keep_1)] (by
  intro p hp
  simp only [List.mem_cons, List.not_mem_nil, or_false] at hp
  rcases hp with rfl
  · exact is_slices_Backward_api_Keep_api_Keep_1)
theorem l_verdict_Keep_0 (zs : List (Int × (Keep × Unit))) (y60000 : Int) (y60001_0 : Int) (h : true = true) : lp_verdict_Keep_0 zs y60000 y60001_0 = la_verdict_Keep_0 zs y60000 y60001_0 := by
  clear h
  induction zs with
  | nil =>
    rw [ln0_verdict_Keep_0]
    rfl
  | cons z zs ih =>
    rw [ln_verdict_Keep_0]
    simp only [n_verdict_Keep_0, ih, la_verdict_Keep_0, keepHit, keepAt, keepZ, List.find?_cons, ieq]
    cases h1 : z.2.1.1 == y60000 <;> simp [br_true, br_false]
theorem lo_verdict_Keep_0 : ∀ S (rows : List (Ty.T (.pr tI (.pr tyKeep .nil)))) l p, g_verdict_Keep.R 0 (fgt fg_verdict_Keep_0 S) (.pr tI (.pr tyKeep .nil)) rows = some (true, l) → pickA l = some p → rangeF (roundR g_verdict_Keep fg_verdict_Keep_0 (.pr tI (.pr tyKeep .nil)) [10, 11] ta_verdict_Keep_0 tb_verdict_Keep_0) rows (fgt fg_verdict_Keep_0 S) = some p := by
  intro S rows l p hR hp
  rw [show g_verdict_Keep.R 0 (fgt fg_verdict_Keep_0 S) (.pr tI (.pr tyKeep .nil)) rows = R_verdict_Keep_0 (fgt fg_verdict_Keep_0 S) rows from RL_at (l := [⟨(.pr tI (.pr tyKeep .nil)), R_verdict_Keep_0⟩]) (j := 0) (F := R_verdict_Keep_0) rfl _ _] at hR
  refine lokR_of (s := sh_verdict_Keep_0) ⟨by decide, by decide⟩ (by kernel_rfl) (fun zs x y hok p hp => ?_) S rows l p hR hp
  simp only [pickA_br, pickA_one] at hp
  exact (l_verdict_Keep_0 zs y.1 y.2.1.1 (by first | rfl | simpa using hok)).trans hp
theorem lk_verdict_Keep : tc_verdict_Keep.lok g_verdict_Keep := by
  repeat (first | exact trivial | exact lo_verdict_Keep_0 | refine ⟨?_, ?_⟩)
theorem s_verdict_Keep (p0 : Policy) (p1 : Int) : r_verdict_Keep p0 p1 = some (.t tI (keepF p0 p1), []) := by
  simp only [r_verdict_Keep, keepF, keepHit, keepAt]
  cases keepZ (backL p0.2.1) p1 <;> simp [br_true, br_false]
def sp_verdict_Keep : Ent := spec (.pr tyPolicy (.pr tI .nil)) (fun x => true) (fun x => (.t tI (keepF x.1 x.2.1)))
theorem ms_verdict_Keep : Meets Try.prog 28 (strip sp_verdict_Keep) := by
  obtain ⟨c, hc, hi⟩ := Option.map_eq_some_iff.1 ok_verdict_Keep
  exact meets_spec (R := runF g_verdict_Keep tc_verdict_Keep rv_verdict_Keep false) (meets_of (by decide) Try.func28 hc hi Try.ntmps28 rok_verdict_Keep gk_verdict_Keep lk_verdict_Keep mixed) fun x _ => (e_verdict_Keep x.1 x.2.1).trans (s_verdict_Keep x.1 x.2.1)
end Go.Proofs.Ytfehjdaielifiaa.K
