/-
  verdict.Keep.
-/
import Derived.Test.YtfehjdaielifiaaGreatV1
import Derived.Test.YtfehjdaielifiaaGreatB3
set_option linter.unusedSimpArgs false
set_option linter.unusedVariables false
namespace Go.Proofs.YtfehjdaielifiaaGreat.K
open Go.RowKit
/-- the days of the first of the keeps that are given on a purpose -/
def keepZ (zs : List (Int × (Keep × Unit))) (p : Int) : Option Int := (zs.find? fun z => z.2.1.1 == p).map (·.2.1.2.1)
def keepHit (zs : List (Int × (Keep × Unit))) (p _x : Int) : Bool := (keepZ zs p).isSome
def keepAt (zs : List (Int × (Keep × Unit))) (p _x : Int) : Int := (keepZ zs p).getD 0
def keepF (y : Policy) (p : Int) : Int := (keepZ (backL y.2.1) p).getD 0
def fg_f57_0 : Fg := ⟨[(3, none), (4, none)], [(60000, some tI), (60001, none)]⟩
def ta_f57_0 : TC := (.reg [(oM 6 (.new [(.v (.int .i64 0)), (.v (.int .i64 0))])), (.mk none none (.m (.st 2 (.t 6) (.t 11))))])
def tb_f57_0 : TC := (.bk 1 (.sq (.reg [(oP 12 (.fa 0 (.t 6))), (oL 13 12), (oL 14 3), (oP 15 (.bin false .eql (.t 13) (.t 14)))]) (.cd (.t 15) (.sq (.reg [(oP 16 (.fa 1 (.t 6))), (oL 17 16), (.mk none none (.m (.st 1 (.t 4) (.t 17))))]) (.fg ⟨[], [(60000, some tI), (60001, none)]⟩ .rt)) .sk)))
/-- cipherplan/verdict.Keep -/
def tc_f57 : TC := (.sq (.reg [(oM 2 (.box (.t 0))), (oM 3 (.box (.t 1))), (oM 4 (.new [(.v (.int .i64 0))]))]) (.sq (.sq (.reg [(oP 7 (.fa 1 (.t 2))), (oL 8 7), (oC 9 78 [(.t 8)])]) (.bk 0 (.rf 0 fg_f57_0 (.t 9) (.pr tI (.pr tyKeep .nil)) [10, 11] [3, 4] ta_f57_0 tb_f57_0))) (.sq (.reg [(.mk none none (.m (.st 1 (.t 4) (cI 0))))]) .rt)))
def rv_f57 : List (RV × Option Ty) := [((.c 4 false 1), some tI)]
abbrev sh_f57_0 : Sh := ⟨[(3, .ptr 60000 0), (4, .ptr 60001 0)], [(60000, .box tI), (60001, .bag [.ty tI])]⟩
def st_f57_0 (y60000 : Int) (y60001_0 : Int) : VS := sh_f57_0.st ((), (), ()) (y60000, (y60001_0, ()), ())
abbrev sh_f57_0_ret : Sh := ⟨[(3, .ptr 60000 0), (4, .ptr 60001 0)], [(60000, .box tI), (60001, .bag [.ty tI])]⟩
def st_f57_0_ret (y60000 : Int) (y60001_0 : Int) : VS := sh_f57_0_ret.st ((), (), ()) (y60000, (y60001_0, ()), ())
abbrev sh_f57_0_normal : Sh := ⟨[(3, .ptr 60000 0), (4, .ptr 60001 0)], [(60000, .box tI), (60001, .bag [.ty tI])]⟩
def st_f57_0_normal (y60000 : Int) (y60001_0 : Int) : VS := sh_f57_0_normal.st ((), (), ()) (y60000, (y60001_0, ()), ())
-- loop 0: (y60000 : Int) (y60001_0 : Int); out: ('ret',) (y60000 : Int) (y60001_0 : Int); ('normal',) (y60000 : Int) (y60001_0 : Int)
def R_f57_0 : VS → List (Ty.T (.pr tI (.pr tyKeep .nil))) → Option (Bool × List (Bool × Exit × VS)) := mkR sh_f57_0 (fun zs x y => true) (fun zs x y => [((keepHit zs y.1 y.2.1.1), .ret, st_f57_0_ret (y.1) (keepAt zs y.1 y.2.1.1)), (true, .normal, st_f57_0_normal (y.1) (y.2.1.1))])
def g_f57 : G := ⟨TYs, [], 18, EL [(78, sp_f78)], keeps, (Ls [fun _ => none]), IL [(102, it_f78_1)], (RL [⟨(.pr tI (.pr tyKeep .nil)), R_f57_0⟩])⟩
def b_f57_0 (z : (Int × (Keep × Unit))) (y60000 : Int) (y60001_0 : Int) : Option (Exit × VS) :=
  br ((ieq z.2.1.1 y60000))
    (some (.ret, st_f57_0_ret y60000 z.2.1.2.1))
    (some (.normal, st_f57_0 y60000 y60001_0))
noncomputable def lp_f57_0 (zs : List (Int × (Keep × Unit))) (y60000 : Int) (y60001_0 : Int) : Option (Exit × VS) := rangeF (roundR g_f57 fg_f57_0 (.pr tI (.pr tyKeep .nil)) [10, 11] ta_f57_0 tb_f57_0) zs (st_f57_0 y60000 y60001_0)
noncomputable def n_f57_0 (z : (Int × (Keep × Unit))) (zs : List (Int × (Keep × Unit))) (y60000 : Int) (y60001_0 : Int) : Option (Exit × VS) :=
  br ((ieq z.2.1.1 y60000))
    (some (.ret, st_f57_0_ret y60000 z.2.1.2.1))
    (lp_f57_0 zs y60000 y60001_0)
def la_f57_0 (zs : List (Int × (Keep × Unit))) (y60000 : Int) (y60001_0 : Int) : Option (Exit × VS) := br (keepHit zs y60000 y60001_0) (some (.ret, st_f57_0_ret (y60000) (keepAt zs y60000 y60001_0))) <| some (.normal, st_f57_0_normal (y60000) (y60001_0))
theorem be_f57_0 (z : (Int × (Keep × Unit))) (y60000 : Int) (y60001_0 : Int) : roundR g_f57 fg_f57_0 (.pr tI (.pr tyKeep .nil)) [10, 11] ta_f57_0 tb_f57_0 z (st_f57_0 y60000 y60001_0) = b_f57_0 z y60000 y60001_0 := by kernel_rfl
theorem ln0_f57_0 (y60000 : Int) (y60001_0 : Int) : lp_f57_0 [] y60000 y60001_0 = some (.normal, st_f57_0_normal y60000 y60001_0) := rfl
theorem ln_f57_0 (z : (Int × (Keep × Unit))) (zs : List (Int × (Keep × Unit))) (y60000 : Int) (y60001_0 : Int) : lp_f57_0 (z :: zs) y60000 y60001_0 = n_f57_0 z zs y60000 y60001_0 := (rangeF_cons _ _ _ _).trans (by
  rw [be_f57_0]
  simp only [b_f57_0, n_f57_0, nxt_br, nxt_n, nxt_r, nxt_e, nxt_0]
  rfl)
def r_f57 (p0 : Policy) (p1 : Int) : Option (V × List VO) :=
  br ((keepHit (backL p0.2.1) p1 0))
    (some (.t tI (keepAt (backL p0.2.1) p1 0), []))
    (some (.t tI 0, []))
theorem e_f57 (p0 : Policy) (p1 : Int) : runF g_f57 tc_f57 rv_f57 false [.t tyPolicy p0, .t tI p1] [] = r_f57 p0 p1 := by kernel_rfl
theorem ok_f57 : Option.map (trC Tryz.prog) Tryz.f57.body = some tc_f57.er := by kernel_rfl
theorem rok_f57 : trVs Tryz.prog Tryz.f57.results.toList = some (rv_f57.map Prod.fst) := by kernel_rfl
theorem en_f57 : Entered Tryz.prog 57 := .inr ⟨by decide, _, Tryz.func57, by kernel_rfl, by kernel_rfl⟩
theorem gk_f57 : GOk Tryz.prog g_f57 := gok_of _ (by
  intro p hp
  simp only [List.mem_cons, List.not_mem_nil, or_false] at hp
  rcases hp with rfl
  · exact ⟨en_f78, ms_f78⟩) [(102, it_f78_1)] (by
  intro p hp
  simp only [List.mem_cons, List.not_mem_nil, or_false] at hp
  rcases hp with rfl
  · exact is_f78_1)
theorem l_f57_0 (zs : List (Int × (Keep × Unit))) (y60000 : Int) (y60001_0 : Int) (h : true = true) : lp_f57_0 zs y60000 y60001_0 = la_f57_0 zs y60000 y60001_0 := by
  clear h
  induction zs with
  | nil =>
    rw [ln0_f57_0]
    rfl
  | cons z zs ih =>
    rw [ln_f57_0]
    simp only [n_f57_0, ih, la_f57_0, keepHit, keepAt, keepZ, List.find?_cons, ieq]
    cases h1 : z.2.1.1 == y60000 <;> simp [br_true, br_false]
theorem lo_f57_0 : ∀ S (rows : List (Ty.T (.pr tI (.pr tyKeep .nil)))) l p, g_f57.R 0 (fgt fg_f57_0 S) (.pr tI (.pr tyKeep .nil)) rows = some (true, l) → pickA l = some p → rangeF (roundR g_f57 fg_f57_0 (.pr tI (.pr tyKeep .nil)) [10, 11] ta_f57_0 tb_f57_0) rows (fgt fg_f57_0 S) = some p := by
  intro S rows l p hR hp
  rw [show g_f57.R 0 (fgt fg_f57_0 S) (.pr tI (.pr tyKeep .nil)) rows = R_f57_0 (fgt fg_f57_0 S) rows from RL_at (l := [⟨(.pr tI (.pr tyKeep .nil)), R_f57_0⟩]) (j := 0) (F := R_f57_0) rfl _ _] at hR
  refine lokR_of (s := sh_f57_0) ⟨by decide, by decide⟩ (by kernel_rfl) (fun zs x y hok p hp => ?_) S rows l p hR hp
  simp only [pickA_br, pickA_one] at hp
  exact (l_f57_0 zs y.1 y.2.1.1 (by first | rfl | simpa using hok)).trans hp
theorem lk_f57 : tc_f57.lok g_f57 := by
  repeat (first | exact trivial | exact lo_f57_0 | refine ⟨?_, ?_⟩)
theorem s_f57 (p0 : Policy) (p1 : Int) : r_f57 p0 p1 = some (.t tI (keepF p0 p1), []) := by
  simp only [r_f57, keepF, keepHit, keepAt]
  cases keepZ (backL p0.2.1) p1 <;> simp [br_true, br_false]
def sp_f57 : Ent := spec (.pr tyPolicy (.pr tI .nil)) (fun x => true) (fun x => (.t tI (keepF x.1 x.2.1)))
theorem ms_f57 : Meets Tryz.prog 57 (strip sp_f57) := by
  obtain ⟨c, hc, hi⟩ := Option.map_eq_some_iff.1 ok_f57
  exact meets_spec (R := runF g_f57 tc_f57 rv_f57 false) (meets_of (by decide) Tryz.func57 hc hi Tryz.ntmps57 rok_f57 gk_f57 lk_f57 mixed) fun x _ => (e_f57 x.1 x.2.1).trans (s_f57 x.1 x.2.1)
end Go.Proofs.YtfehjdaielifiaaGreat.K
