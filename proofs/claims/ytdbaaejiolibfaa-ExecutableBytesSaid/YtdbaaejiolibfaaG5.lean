/-
  executable: when two are the same; which algorithms the symbols name.
-/
import Derived.Test.YtdbaaejiolibfaaG4
import Derived.Test.YtdbaaejiolibfaaB4
import Derived.Shelf.Strings.Search2
import Derived.Ground.NamesProg
set_option linter.unusedSimpArgs false
set_option linter.unusedVariables false
namespace Go.Proofs
open Go.Shelf
def Try.lays219_ren : Go.Shelf.Ren := ⟨fun | 219 => 49 | 217 => 62 | 225 => 63 | 224 => 64 | 267 => 65 | 266 => 72 | 314 => 73 | n => n, fun | 9 => 9 | 3 => 3 | 4 => 4 | 5 => 5 | 46 => 74 | 146 => 109 | 51 => 98 | n => n, fun | 1 => 0 | n => n⟩
theorem Try.lays219 : Go.Proofs.Lays.n219 Try.prog Try.lays219_ren := {
  mixed := by kernel_rfl
  f217 := Try.func62.trans (congrArg some (by kernel_rfl))
  f219 := Try.func49.trans (congrArg some (by kernel_rfl))
  f224 := Try.func64.trans (congrArg some (by kernel_rfl))
  f225 := Try.func63.trans (congrArg some (by kernel_rfl))
  f266 := Try.func72.trans (congrArg some (by kernel_rfl))
  f267 := Try.func65.trans (congrArg some (by kernel_rfl))
  f314 := Try.func73.trans (congrArg some (by kernel_rfl))
  t3 := Try.underlying3
  a3 := Try.isAgg3
  z3 := Try.sizeOf3
  v3 := Try.zeroValue3
  t4 := Try.underlying4
  a4 := Try.isAgg4
  z4 := Try.sizeOf4
  v4 := Try.zeroValue4
  t5 := Try.underlying5
  a5 := Try.isAgg5
  z5 := Try.sizeOf5
  v5 := Try.zeroValue5
  t9 := Try.underlying9
  a9 := Try.isAgg9
  z9 := Try.sizeOf9
  v9 := Try.zeroValue9
  t46 := Try.underlying74
  a46 := Try.isAgg74
  z46 := Try.sizeOf74
  v46 := Try.zeroValue74
  t51 := Try.underlying98
  a51 := Try.isAgg98
  z51 := Try.sizeOf98
  v51 := Try.zeroValue98
  t146 := Try.underlying109
  a146 := Try.isAgg109
  z146 := Try.sizeOf109
  v146 := Try.zeroValue109
  g1 := by kernel_rfl }
end Go.Proofs
namespace Go.Proofs.Ytdbaaejiolibfaa.K
open Go.RowKit Go.Shelf
noncomputable section
/-! same executables -/
def eqB (a b : List Int) : Bool := seq (strOf a) (strOf b)
/-- bytes.Equal -/
def tc_f31 : TC := (.sq (.reg [(oP 4 (.mv (cB false)))]) (.sq (.reg [(oV 5 0), (oC 6 2440368 [(.t 5)]), (oV 7 1), (oC 8 2440368 [(.t 7)]), (oP 9 (.bin false .eql (.t 6) (.t 8))), (oV 4 9)]) .rt))
def rv_f31 : List (RV × Option Ty) := [((.t 4), some .bool)]
def g_f31 : G := ⟨TYs, [], 10, EL [(2440368, sp_op_convert_23_9)], keeps, (fun _ _ => none), IL [], RL []⟩
def r_f31 (p0 : (List Int)) (p1 : (List Int)) : Option (V × List VO) :=
  some (.t .bool (seq (strOf p0) (strOf p1)), [])
theorem e_f31 (p0 : (List Int)) (p1 : (List Int)) : runF g_f31 tc_f31 rv_f31 false [.t (.sl (.int .u8)) p0, .t (.sl (.int .u8)) p1] [] = r_f31 p0 p1 := by kernel_rfl
theorem ok_f31 : Option.map (trC Try.prog) Try.f31.body = some tc_f31.er := by kernel_rfl
theorem rok_f31 : trVs Try.prog Try.f31.results.toList = some (rv_f31.map Prod.fst) := by kernel_rfl
theorem en_f31 : Entered Try.prog 31 := .inr ⟨by decide, _, Try.func31, by kernel_rfl, by kernel_rfl⟩
theorem gk_f31 : GOk Try.prog g_f31 := gok_of _ (by
  intro p hp
  simp only [List.mem_cons, List.not_mem_nil, or_false] at hp
  rcases hp with rfl
  · exact ⟨en_op_convert_23_9, ms_op_convert_23_9⟩)
theorem lk_f31 : tc_f31.lok g_f31 := by repeat (first | exact trivial | refine ⟨?_, ?_⟩)
theorem s_f31 (a b : List Int) : r_f31 a b = some (.t .bool (eqB a b), []) := rfl
def sp_f31 : Ent := spec (.pr (.sl (.int .u8)) (.pr (.sl (.int .u8)) .nil)) (fun x => true) (fun x => (.t .bool (eqB x.1 x.2.1)))
theorem ms_f31 : Meets Try.prog 31 (strip sp_f31) := by
  obtain ⟨c, hc, hi⟩ := Option.map_eq_some_iff.1 ok_f31
  exact meets_spec (R := runF g_f31 tc_f31 rv_f31 false) (meets_of (by decide) Try.func31 hc hi Try.ntmps31 rok_f31 gk_f31 lk_f31 mixed) fun x _ => (e_f31 x.1 x.2.1).trans (s_f31 x.1 x.2.1)
def eqSec (x y : Section) : Bool := seq x.1 y.1 && eqB x.2.1 y.2.1
def eqSym (x y : Symbol) : Bool := seq x.1 y.1 && (ieq x.2.1 y.2.1 && true)
def zipA {α : Type} (p : α → α → Bool) (a b : List α) : Bool := (a.zip b).all fun z => p z.1 z.2
def eqL {α : Type} (p : α → α → Bool) (a b : List α) : Bool := decide (a.length = b.length) && zipA p a b
theorem zipA_drop {α : Type} {p : α → α → Bool} {a b : List α} {k : Nat} (h1 : k < a.length) (h2 : k < b.length) : zipA p (a.drop k) (b.drop k) = (p a[k] b[k] && zipA p (a.drop (k + 1)) (b.drop (k + 1))) := by
  rw [List.drop_eq_getElem_cons h1, List.drop_eq_getElem_cons h2]
  rfl
def eqSecs (a b : List Section) : Bool := eqL eqSec a b
def eqSecsOk (a _b : List Section) : Bool := decide (a.length ≤ 100000)
def eqSyms (a b : List Symbol) : Bool := eqL eqSym a b
def eqSymsOk (a _b : List Symbol) : Bool := decide (a.length ≤ 100000)
/-- cipherplan/executable.Same-1 -/
def tc_f30 : TC := (.sq (.reg [(oM 2 (.box (.t 0))), (oM 3 (.box (.t 1))), (oP 4 (.mv (cB false)))]) (.sq (.reg [(oP 5 (.fa 0 (.t 2))), (oL 6 5), (oP 7 (.fa 0 (.t 3))), (oL 8 7), (oP 9 (.bin false .eql (.t 6) (.t 8))), (oV 10 9), (oQ 11 10 true (.fa 1 (.t 2))), (oG 12 10 true (.m (.ld false 1 (.t 11)))), (oQ 13 10 true (.fa 1 (.t 3))), (oG 14 10 true (.m (.ld false 1 (.t 13)))), (oG 15 10 true (.call 31 [(.t 12), (.t 14)])), (oP 16 (.pick (.t 10) (.t 15) (cB false))), (oV 4 16)]) .rt))
def rv_f30 : List (RV × Option Ty) := [((.t 4), some .bool)]
def g_f30 : G := ⟨TYs, [], 17, EL [(31, sp_f31)], keeps, (fun _ _ => none), IL [], RL []⟩
def r_f30 (p0 : Section) (p1 : Section) : Option (V × List VO) :=
  br ((seq p0.1 p1.1))
    (some (.t .bool (eqB p0.2.1 p1.2.1), []))
    (some (.t .bool false, []))
theorem e_f30 (p0 : Section) (p1 : Section) : runF g_f30 tc_f30 rv_f30 false [.t tySection p0, .t tySection p1] [] = r_f30 p0 p1 := by kernel_rfl
theorem ok_f30 : Option.map (trC Try.prog) Try.f30.body = some tc_f30.er := by kernel_rfl
theorem rok_f30 : trVs Try.prog Try.f30.results.toList = some (rv_f30.map Prod.fst) := by kernel_rfl
theorem en_f30 : Entered Try.prog 30 := .inr ⟨by decide, _, Try.func30, by kernel_rfl, by kernel_rfl⟩
theorem gk_f30 : GOk Try.prog g_f30 := gok_of _ (by
  intro p hp
  simp only [List.mem_cons, List.not_mem_nil, or_false] at hp
  rcases hp with rfl
  · exact ⟨en_f31, ms_f31⟩)
theorem lk_f30 : tc_f30.lok g_f30 := by repeat (first | exact trivial | refine ⟨?_, ?_⟩)
theorem s_f30 (x y : Section) : r_f30 x y = some (.t .bool (eqSec x y), []) := by
  simp only [r_f30, eqSec]
  cases seq x.1 y.1 <;> rfl
def sp_f30 : Ent := spec (.pr tySection (.pr tySection .nil)) (fun x => true) (fun x => (.t .bool (eqSec x.1 x.2.1)))
theorem ms_f30 : Meets Try.prog 30 (strip sp_f30) := by
  obtain ⟨c, hc, hi⟩ := Option.map_eq_some_iff.1 ok_f30
  exact meets_spec (R := runF g_f30 tc_f30 rv_f30 false) (meets_of (by decide) Try.func30 hc hi Try.ntmps30 rok_f30 gk_f30 lk_f30 mixed) fun x _ => (e_f30 x.1 x.2.1).trans (s_f30 x.1 x.2.1)
def fg_f32c30_0 : Fg := ⟨[(1, some (.sl tySection)), (2, none), (15, some (.sl tySection)), (16, some tI), (17, some tI)], []⟩
def tb_f32c30_0 : TC := (.sq (.reg [(oP 18 (.bin false .lss (.t 17) (.t 16)))]) (.sq (.cd (.t 18) .sk (.fg ⟨[], []⟩ (.ex 0))) (.sq (.bk 1 (.sq (.reg [(oV 19 17), (oP 20 (.ix 2 (.t 15) (.t 17))), (oM 21 (.ld true 2 (.t 20))), (oM 8 (.new [(.v (.string (ByteArray.mk #[]))), (.v (.slice none 0 0))])), (oV 7 19), (.mk none none (.m (.st 2 (.t 8) (.t 21))))]) (.sq (.reg [(oV 22 1), (oV 23 7), (oP 24 (.ix 2 (.t 22) (.t 23))), (oM 25 (.ld true 2 (.t 24))), (oM 9 (.new [(.v (.string (ByteArray.mk #[]))), (.v (.slice none 0 0))])), (.mk none none (.m (.st 2 (.t 9) (.t 25))))]) (.sq (.reg [(oV 26 2), (oM 27 (.ld true 2 (.t 8))), (oM 28 (.ld true 2 (.t 9))), (oK 29 (.cv (.t 26) [(.t 27), (.t 28)])), (oP 30 (.nt (.t 29)))]) (.cd (.t 30) (.sq (.reg [(oP 6 (.mv (cB false)))]) (.fg ⟨[(6, some .bool)], []⟩ .rt)) .sk))))) (.reg [(oP 31 (.bin false .add (.t 17) (cI 1))), (oV 17 31)]))))
/-- slices.EqualFunc[[]cipherplan/api.Section,[]cipherplan/api.Section,cipherplan/api.Section,cipherplan/api.Section] -/
def tc_f32c30 : TC := (.sq (.reg [(oP 6 (.mv (cB false)))]) (.sq (.sq (.reg [(oV 10 0), (oP 11 (.len false (.t 10))), (oV 12 1), (oP 13 (.len false (.t 12))), (oP 14 (.bin false .neq (.t 11) (.t 13)))]) (.cd (.t 14) (.sq (.reg [(oP 6 (.mv (cB false)))]) .rt) .sk)) (.sq (.sq (.reg [(oV 15 0), (oP 16 (.len false (.t 15))), (oP 17 (.mv (cI 0)))]) (.bk 0 (.lp 0 fg_f32c30_0 tb_f32c30_0))) (.sq (.reg [(oP 6 (.mv (cB true)))]) .rt))))
def rv_f32c30 : List (RV × Option Ty) := [((.t 6), some .bool)]
abbrev sh_f32c30_0 : Sh := ⟨[(1, .ty (.sl tySection)), (2, .cf 30), (15, .ty (.sl tySection)), (16, .ty tI), (17, .ty tI)], []⟩
def st_f32c30_0 (x1 : (List Section)) (x15 : (List Section)) (x16 : Int) (x17 : Int) : VS := sh_f32c30_0.st (x1, (), x15, x16, x17, ()) ()
abbrev sh_f32c30_0_ret : Sh := ⟨[(6, .ty .bool)], []⟩
def st_f32c30_0_ret (x6 : Bool) : VS := sh_f32c30_0_ret.st (x6, ()) ()
abbrev sh_f32c30_0_e0 : Sh := ⟨[], []⟩
def st_f32c30_0_e0  : VS := sh_f32c30_0_e0.st () ()
-- loop 0: (x1 : (List Section)) (x15 : (List Section)) (x16 : Int) (x17 : Int); out: ('ret',) (x6 : Bool); ('exit', 0) 
def L_f32c30_0 : VS → Option (Bool × List (Bool × Exit × VS)) := mkL sh_f32c30_0 (fun x y => (rngOk x.2.2.1 x.2.2.2.1 x.2.2.2.2.1 && decide (x.2.2.1.length = x.1.length))) (fun x y => [((!zipA eqSec (x.2.2.1.drop x.2.2.2.2.1.toNat) (x.1.drop x.2.2.2.2.1.toNat)), .ret, st_f32c30_0_ret (false)), (true, .exit 0, st_f32c30_0_e0)])
def g_f32c30 : G := ⟨TYs, [], 32, EL [(30, sp_f30)], keeps, (Ls [L_f32c30_0]), IL [], RL []⟩
def b_f32c30_0 (x1 : (List Section)) (x15 : (List Section)) (x16 : Int) (x17 : Int) : Option (Exit × VS) :=
  br ((ilt x17 x16))
    (br (cIx x15 x17)
      (br (cIx x1 x17)
        (br ((!(eqSec (lgt tySection x15 (Int.toNat x17)) (lgt tySection x1 (Int.toNat x17)))))
          (some (.ret, st_f32c30_0_ret false))
          (some (.normal, st_f32c30_0 x1 x15 x16 (iadd .i64 x17 1))))
        (none))
      (none))
    (some (.exit 0, st_f32c30_0_e0))
noncomputable def lp_f32c30_0 (x1 : (List Section)) (x15 : (List Section)) (x16 : Int) (x17 : Int) : Option (Exit × VS) := loopF (roundF g_f32c30 fg_f32c30_0 tb_f32c30_0) (st_f32c30_0 x1 x15 x16 x17)
noncomputable def n_f32c30_0 (x1 : (List Section)) (x15 : (List Section)) (x16 : Int) (x17 : Int) : Option (Exit × VS) :=
  br ((ilt x17 x16))
    (br (cIx x15 x17)
      (br (cIx x1 x17)
        (br ((!(eqSec (lgt tySection x15 (Int.toNat x17)) (lgt tySection x1 (Int.toNat x17)))))
          (some (.ret, st_f32c30_0_ret false))
          (lp_f32c30_0 x1 x15 x16 (iadd .i64 x17 1)))
        (none))
      (none))
    (some (.exit 0, st_f32c30_0_e0))
def la_f32c30_0 (x1 : (List Section)) (x15 : (List Section)) (x16 : Int) (x17 : Int) : Option (Exit × VS) := br (!zipA eqSec (x15.drop x17.toNat) (x1.drop x17.toNat)) (some (.ret, st_f32c30_0_ret (false))) <| some (.exit 0, st_f32c30_0_e0)
theorem be_f32c30_0 (x1 : (List Section)) (x15 : (List Section)) (x16 : Int) (x17 : Int) : roundF g_f32c30 fg_f32c30_0 tb_f32c30_0 (st_f32c30_0 x1 x15 x16 x17) = b_f32c30_0 x1 x15 x16 x17 := by kernel_rfl
theorem ln_f32c30_0 (x1 : (List Section)) (x15 : (List Section)) (x16 : Int) (x17 : Int) : lp_f32c30_0 x1 x15 x16 x17 = n_f32c30_0 x1 x15 x16 x17 := (loopF_nxt _ _).trans (by
  rw [be_f32c30_0]
  simp only [b_f32c30_0, n_f32c30_0, nxt_br, nxt_n, nxt_r, nxt_e, nxt_0]
  rfl)
def r_f32c30 (p0 : (List Section)) (p1 : (List Section)) : Option (V × List VO) :=
  br ((ine (llen p0) (llen p1)))
    (some (.t .bool false, []))
    (br ((rngOk p0 (llen p0) (0 : Int) && decide (p0.length = p1.length)))
      (br ((!zipA eqSec (p0.drop (0 : Int).toNat) (p1.drop (0 : Int).toNat)))
        (some (.t .bool (false), []))
        (some (.t .bool true, [])))
      (none))
theorem e_f32c30 (p0 : (List Section)) (p1 : (List Section)) : runF g_f32c30 tc_f32c30 rv_f32c30 false [.t (.sl tySection) p0, .t (.sl tySection) p1, .c (.func (.func 30) ⟨[]⟩ ⟨[]⟩)] [] = r_f32c30 p0 p1 := by kernel_rfl
theorem ok_f32c30 : Option.map (trC Try.prog) Try.f32.body = some tc_f32c30.er := by kernel_rfl
theorem rok_f32c30 : trVs Try.prog Try.f32.results.toList = some (rv_f32c30.map Prod.fst) := by kernel_rfl
theorem en_f32c30 : Entered Try.prog 32 := .inr ⟨by decide, _, Try.func32, by kernel_rfl, by kernel_rfl⟩
theorem gk_f32c30 : GOk Try.prog g_f32c30 := gok_of _ (by
  intro p hp
  simp only [List.mem_cons, List.not_mem_nil, or_false] at hp
  rcases hp with rfl
  · exact ⟨en_f30, ms_f30⟩)
theorem l_f32c30_0 (x1 : (List Section)) (x15 : (List Section)) (x16 : Int) (x17 : Int) (h : (rngOk x15 x16 x17 && decide (x15.length = x1.length)) = true) : lp_f32c30_0 x1 x15 x16 x17 = la_f32c30_0 x1 x15 x16 x17 := by
  simp only [Bool.and_eq_true, decide_eq_true_eq] at h
  obtain ⟨h0, h5⟩ := h
  obtain ⟨rfl, h3, k, rfl, hk⟩ := rng_k h0
  clear h0
  refine range_ind x15 (fun k => lp_f32c30_0 x1 x15 (x15.length : Int) (k : Int) = la_f32c30_0 x1 x15 (x15.length : Int) (k : Int)) ?_ ?_ k hk
  · rw [ln_f32c30_0]
    have e2 : x1.drop x15.length = [] := List.drop_eq_nil_of_le (by omega)
    simp [n_f32c30_0, la_f32c30_0, ilt_nat, br_false, e2, zipA]
  · intro k hk ih
    have hk1 : k < x1.length := by omega
    rw [ln_f32c30_0]
    simp only [n_f32c30_0, ilt_nat, cIx_nat, hk, hk1, decide_true, br_true, Int.toNat_natCast, lgt_get (y := tySection) hk, lgt_get (y := tySection) hk1, add1 (show k < 4611686018427387904 by omega), ih, la_f32c30_0, zipA_drop hk hk1]
    cases eqSec x15[k] x1[k] <;> rfl
theorem lo_f32c30_0 : ∀ S l p, g_f32c30.L 0 (fgt fg_f32c30_0 S) = some (true, l) → pickA l = some p → loopF (roundF g_f32c30 fg_f32c30_0 tb_f32c30_0) S = some p :=
  lok_of (s := sh_f32c30_0) ⟨by decide, by decide⟩ (by kernel_rfl) fun x y hok p hp => by
  simp only [pickA_br, pickA_one] at hp
  exact (l_f32c30_0 x.1 x.2.2.1 x.2.2.2.1 x.2.2.2.2.1 (by simpa using hok)).trans hp
theorem lk_f32c30 : tc_f32c30.lok g_f32c30 := by
  repeat (first | exact trivial | exact lo_f32c30_0 | refine ⟨?_, ?_⟩)
theorem eqL_of {α : Type} {p : α → α → Bool} {a b : List α} (h : a.length ≤ 100000) : br (ine (llen a) (llen b)) (some (.t .bool false, [])) (br (rngOk a (llen a) (0 : Int) && decide (a.length = b.length)) (br (!zipA p (a.drop (0 : Int).toNat) (b.drop (0 : Int).toNat)) (some (.t .bool false, [])) (some (.t .bool true, []))) none) = some (V.t .bool (eqL p a b), ([] : List VO)) := by
  by_cases q : a.length = b.length
  · have e1 : ine (llen a) (llen b) = false := by simp [ine, llen, q]
    simp only [e1, br_false, rng_0 h, br_true, Int.toNat_zero, List.drop_zero, eqL, q, decide_true, Bool.true_and]
    cases zipA p a b <;> rfl
  · have e1 : ine (llen a) (llen b) = true := by simp [ine, llen]; omega
    simp only [e1, br_true, eqL, q, decide_false, Bool.false_and]
theorem s_f32c30 (a b : List Section) (h : eqSecsOk a b = true) : r_f32c30 a b = some (.t .bool (eqSecs a b), []) :=
  eqL_of (of_decide_eq_true h)
def sp_f32c30 : Ent := specH [.ty (.sl tySection), .ty (.sl tySection), .cf 30] [] (fun x d => (eqSecsOk x.1 x.2.1)) (fun x d => (.t .bool (eqSecs x.1 x.2.1)))
theorem ms_f32c30 : Meets Try.prog 32 (strip sp_f32c30) := by
  obtain ⟨c, hc, hi⟩ := Option.map_eq_some_iff.1 ok_f32c30
  exact (meets_specH (R := runF g_f32c30 tc_f32c30 rv_f32c30 false) (meets_of (by decide) Try.func32 hc hi Try.ntmps32 rok_f32c30 gk_f32c30 lk_f32c30 mixed) fun x d hok => (e_f32c30 x.1 x.2.1).trans (s_f32c30 x.1 x.2.1 hok))
def dr_f33_0 : List DO := [(.mk (oV 16 0) []), (.mk (oV 17 5) []), (.mk (oP 18 (.ix 2 (.t 16) (.t 17))) [0, 1]), (.mk (oM 19 (.ld true 2 (.t 18))) [2]), (.mk (oV 20 1) []), (.mk (oV 21 5) []), (.mk (oP 22 (.ix 2 (.t 20) (.t 21))) [4, 5]), (.mk (oM 23 (.ld true 2 (.t 22))) [6]), (.mk (oP 24 (.eqs true [2, 0] (.t 19) (.t 23))) [3, 7])]
def fg_f33_0 : Fg := ⟨[(0, some (.sl tySymbol)), (1, some (.sl tySymbol)), (12, some tI), (13, some tI)], []⟩
def tb_f33_0 : TC := (.sq (.reg [(oP 14 (.bin false .lss (.t 13) (.t 12)))]) (.sq (.cd (.t 14) .sk (.fg ⟨[], []⟩ (.ex 0))) (.sq (.bk 1 (.sq (.reg [(oV 15 13), (oV 5 15)]) (.sq (.dr dr_f33_0 [(0, []), (1, []), (2, []), (3, []), (4, []), (5, []), (6, []), (7, []), (8, [])] (.of [0, 1, 2, 3, 4, 5, 6, 7, 8])) (.cd (.t 24) (.sq (.reg [(oP 4 (.mv (cB false)))]) (.fg ⟨[(4, some .bool)], []⟩ .rt)) .sk)))) (.reg [(oP 25 (.bin false .add (.t 13) (cI 1))), (oV 13 25)]))))
/-- slices.Equal[[]cipherplan/api.Symbol,cipherplan/api.Symbol] -/
def tc_f33 : TC := (.sq (.reg [(oP 4 (.mv (cB false)))]) (.sq (.sq (.reg [(oV 6 0), (oP 7 (.len false (.t 6))), (oV 8 1), (oP 9 (.len false (.t 8))), (oP 10 (.bin false .neq (.t 7) (.t 9)))]) (.cd (.t 10) (.sq (.reg [(oP 4 (.mv (cB false)))]) .rt) .sk)) (.sq (.sq (.reg [(oV 11 0), (oP 12 (.len false (.t 11))), (oP 13 (.mv (cI 0)))]) (.bk 0 (.lp 0 fg_f33_0 tb_f33_0))) (.sq (.reg [(oP 4 (.mv (cB true)))]) .rt))))
def rv_f33 : List (RV × Option Ty) := [((.t 4), some .bool)]
abbrev sh_f33_0 : Sh := ⟨[(0, .ty (.sl tySymbol)), (1, .ty (.sl tySymbol)), (12, .ty tI), (13, .ty tI)], []⟩
def st_f33_0 (x0 : (List Symbol)) (x1 : (List Symbol)) (x12 : Int) (x13 : Int) : VS := sh_f33_0.st (x0, x1, x12, x13, ()) ()
abbrev sh_f33_0_ret : Sh := ⟨[(4, .ty .bool)], []⟩
def st_f33_0_ret (x4 : Bool) : VS := sh_f33_0_ret.st (x4, ()) ()
abbrev sh_f33_0_e0 : Sh := ⟨[], []⟩
def st_f33_0_e0  : VS := sh_f33_0_e0.st () ()
-- loop 0: (x0 : (List Symbol)) (x1 : (List Symbol)) (x12 : Int) (x13 : Int); out: ('ret',) (x4 : Bool); ('exit', 0) 
def L_f33_0 : VS → Option (Bool × List (Bool × Exit × VS)) := mkL sh_f33_0 (fun x y => (rngOk x.1 x.2.2.1 x.2.2.2.1 && decide (x.1.length = x.2.1.length))) (fun x y => [((!zipA eqSym (x.1.drop x.2.2.2.1.toNat) (x.2.1.drop x.2.2.2.1.toNat)), .ret, st_f33_0_ret (false)), (true, .exit 0, st_f33_0_e0)])
def g_f33 : G := ⟨TYs, [], 26, EL [], keeps, (Ls [L_f33_0]), IL [], RL []⟩
def b_f33_0 (x0 : (List Symbol)) (x1 : (List Symbol)) (x12 : Int) (x13 : Int) : Option (Exit × VS) :=
  br ((ilt x13 x12))
    (br (cIx x0 x13)
      (br (cIx x1 x13)
        (br ((!(and (seq ((lgt tySymbol x0 (Int.toNat x13)).1) ((lgt tySymbol x1 (Int.toNat x13)).1)) (and (ieq (((lgt tySymbol x0 (Int.toNat x13)).2).1) (((lgt tySymbol x1 (Int.toNat x13)).2).1)) true))))
          (some (.ret, st_f33_0_ret false))
          (some (.normal, st_f33_0 x0 x1 x12 (iadd .i64 x13 1))))
        (none))
      (none))
    (some (.exit 0, st_f33_0_e0))
noncomputable def lp_f33_0 (x0 : (List Symbol)) (x1 : (List Symbol)) (x12 : Int) (x13 : Int) : Option (Exit × VS) := loopF (roundF g_f33 fg_f33_0 tb_f33_0) (st_f33_0 x0 x1 x12 x13)
noncomputable def n_f33_0 (x0 : (List Symbol)) (x1 : (List Symbol)) (x12 : Int) (x13 : Int) : Option (Exit × VS) :=
  br ((ilt x13 x12))
    (br (cIx x0 x13)
      (br (cIx x1 x13)
        (br ((!(and (seq ((lgt tySymbol x0 (Int.toNat x13)).1) ((lgt tySymbol x1 (Int.toNat x13)).1)) (and (ieq (((lgt tySymbol x0 (Int.toNat x13)).2).1) (((lgt tySymbol x1 (Int.toNat x13)).2).1)) true))))
          (some (.ret, st_f33_0_ret false))
          (lp_f33_0 x0 x1 x12 (iadd .i64 x13 1)))
        (none))
      (none))
    (some (.exit 0, st_f33_0_e0))
def la_f33_0 (x0 : (List Symbol)) (x1 : (List Symbol)) (x12 : Int) (x13 : Int) : Option (Exit × VS) := br (!zipA eqSym (x0.drop x13.toNat) (x1.drop x13.toNat)) (some (.ret, st_f33_0_ret (false))) <| some (.exit 0, st_f33_0_e0)
theorem be_f33_0 (x0 : (List Symbol)) (x1 : (List Symbol)) (x12 : Int) (x13 : Int) : roundF g_f33 fg_f33_0 tb_f33_0 (st_f33_0 x0 x1 x12 x13) = b_f33_0 x0 x1 x12 x13 := by kernel_rfl
theorem ln_f33_0 (x0 : (List Symbol)) (x1 : (List Symbol)) (x12 : Int) (x13 : Int) : lp_f33_0 x0 x1 x12 x13 = n_f33_0 x0 x1 x12 x13 := (loopF_nxt _ _).trans (by
  rw [be_f33_0]
  simp only [b_f33_0, n_f33_0, nxt_br, nxt_n, nxt_r, nxt_e, nxt_0]
  rfl)
def r_f33 (p0 : (List Symbol)) (p1 : (List Symbol)) : Option (V × List VO) :=
  br ((ine (llen p0) (llen p1)))
    (some (.t .bool false, []))
    (br ((rngOk p0 (llen p0) (0 : Int) && decide (p0.length = p1.length)))
      (br ((!zipA eqSym (p0.drop (0 : Int).toNat) (p1.drop (0 : Int).toNat)))
        (some (.t .bool (false), []))
        (some (.t .bool true, [])))
      (none))
theorem e_f33 (p0 : (List Symbol)) (p1 : (List Symbol)) : runF g_f33 tc_f33 rv_f33 false [.t (.sl tySymbol) p0, .t (.sl tySymbol) p1] [] = r_f33 p0 p1 := by kernel_rfl
theorem ok_f33 : Option.map (trC Try.prog) Try.f33.body = some tc_f33.er := by kernel_rfl
theorem rok_f33 : trVs Try.prog Try.f33.results.toList = some (rv_f33.map Prod.fst) := by kernel_rfl
theorem en_f33 : Entered Try.prog 33 := .inr ⟨by decide, _, Try.func33, by kernel_rfl, by kernel_rfl⟩
theorem gk_f33 : GOk Try.prog g_f33 := gok_of _ (fun p hp => by cases hp)
theorem l_f33_0 (x0 : (List Symbol)) (x1 : (List Symbol)) (x12 : Int) (x13 : Int) (h : (rngOk x0 x12 x13 && decide (x0.length = x1.length)) = true) : lp_f33_0 x0 x1 x12 x13 = la_f33_0 x0 x1 x12 x13 := by
  simp only [Bool.and_eq_true, decide_eq_true_eq] at h
  obtain ⟨h0, h5⟩ := h
  obtain ⟨rfl, h3, k, rfl, hk⟩ := rng_k h0
  clear h0
  refine range_ind x0 (fun k => lp_f33_0 x0 x1 (x0.length : Int) (k : Int) = la_f33_0 x0 x1 (x0.length : Int) (k : Int)) ?_ ?_ k hk
  · rw [ln_f33_0]
    have e2 : x1.drop x0.length = [] := List.drop_eq_nil_of_le (by omega)
    simp [n_f33_0, la_f33_0, ilt_nat, br_false, e2, zipA]
  · intro k hk ih
    have hk1 : k < x1.length := by omega
    rw [ln_f33_0]
    simp only [n_f33_0, ilt_nat, cIx_nat, hk, hk1, decide_true, br_true, Int.toNat_natCast, lgt_get (y := tySymbol) hk, lgt_get (y := tySymbol) hk1, add1 (show k < 4611686018427387904 by omega), ih, la_f33_0, zipA_drop hk hk1]
    show br (!eqSym x0[k] x1[k]) _ _ = _
    cases eqSym x0[k] x1[k] <;> rfl
theorem lo_f33_0 : ∀ S l p, g_f33.L 0 (fgt fg_f33_0 S) = some (true, l) → pickA l = some p → loopF (roundF g_f33 fg_f33_0 tb_f33_0) S = some p :=
  lok_of (s := sh_f33_0) ⟨by decide, by decide⟩ (by kernel_rfl) fun x y hok p hp => by
  simp only [pickA_br, pickA_one] at hp
  exact (l_f33_0 x.1 x.2.1 x.2.2.1 x.2.2.2.1 (by simpa using hok)).trans hp
theorem lk_f33 : tc_f33.lok g_f33 := by
  repeat (first | exact trivial | exact lo_f33_0 | refine ⟨?_, ?_⟩)
theorem s_f33 (a b : List Symbol) (h : eqSymsOk a b = true) : r_f33 a b = some (.t .bool (eqSyms a b), []) :=
  eqL_of (of_decide_eq_true h)
def sp_f33 : Ent := spec (.pr (.sl tySymbol) (.pr (.sl tySymbol) .nil)) (fun x => (eqSymsOk x.1 x.2.1)) (fun x => (.t .bool (eqSyms x.1 x.2.1)))
theorem ms_f33 : Meets Try.prog 33 (strip sp_f33) := by
  obtain ⟨c, hc, hi⟩ := Option.map_eq_some_iff.1 ok_f33
  exact meets_spec (R := runF g_f33 tc_f33 rv_f33 false) (meets_of (by decide) Try.func33 hc hi Try.ntmps33 rok_f33 gk_f33 lk_f33 mixed) fun x hok => (e_f33 x.1 x.2.1).trans (s_f33 x.1 x.2.1 hok)
def sameX (a b : Image) : Bool := eqSecs a.1 b.1 && eqSyms a.2.1 b.2.1
def sameXOk (a _b : Image) : Bool := imgOk a
/-- cipherplan/executable.Same -/
def tc_f16 : TC := (.sq (.reg [(oM 2 (.box (.t 0))), (oM 3 (.box (.t 1))), (oP 4 (.mv (cB false)))]) (.sq (.reg [(oP 5 (.mv (.c (.v (.func (.func 30) #[] #[])))))]) (.sq (.reg [(oP 6 (.fa 0 (.t 2))), (oL 7 6), (oP 8 (.fa 0 (.t 3))), (oL 9 8), (oV 10 5), (oC 11 32 [(.t 7), (.t 9), (.t 10)]), (oV 12 11), (oQ 13 12 true (.fa 1 (.t 2))), (oG 14 12 true (.m (.ld false 1 (.t 13)))), (oQ 15 12 true (.fa 1 (.t 3))), (oG 16 12 true (.m (.ld false 1 (.t 15)))), (oG 17 12 true (.call 33 [(.t 14), (.t 16)])), (oP 18 (.pick (.t 12) (.t 17) (cB false))), (oV 4 18)]) .rt)))
def rv_f16 : List (RV × Option Ty) := [((.t 4), some .bool)]
def g_f16 : G := ⟨TYs, [], 19, EL [(32, sp_f32c30), (33, sp_f33)], keeps, (fun _ _ => none), IL [], RL []⟩
def r_f16 (p0 : Image) (p1 : Image) : Option (V × List VO) :=
  br ((eqSecsOk p0.1 p1.1))
    (br ((eqSecs p0.1 p1.1))
      (br ((eqSymsOk p0.2.1 p1.2.1))
        (some (.t .bool (eqSyms p0.2.1 p1.2.1), []))
        (none))
      (some (.t .bool false, [])))
    (none)
theorem e_f16 (p0 : Image) (p1 : Image) : runF g_f16 tc_f16 rv_f16 false [.t tyImage p0, .t tyImage p1] [] = r_f16 p0 p1 := by kernel_rfl
theorem ok_f16 : Option.map (trC Try.prog) Try.f16.body = some tc_f16.er := by kernel_rfl
theorem rok_f16 : trVs Try.prog Try.f16.results.toList = some (rv_f16.map Prod.fst) := by kernel_rfl
theorem en_f16 : Entered Try.prog 16 := .inr ⟨by decide, _, Try.func16, by kernel_rfl, by kernel_rfl⟩
theorem gk_f16 : GOk Try.prog g_f16 := gok_of _ (by
  intro p hp
  simp only [List.mem_cons, List.not_mem_nil, or_false] at hp
  rcases hp with rfl | rfl
  · exact ⟨en_f32c30, ms_f32c30⟩
  · exact ⟨en_f33, ms_f33⟩)
theorem lk_f16 : tc_f16.lok g_f16 := by repeat (first | exact trivial | refine ⟨?_, ?_⟩)
theorem s_f16 (a b : Image) (h : sameXOk a b = true) : r_f16 a b = some (.t .bool (sameX a b), []) := by
  have h : imgOk a = true := h
  simp only [imgOk, decide_eq_true_eq] at h
  simp only [r_f16, eqSecsOk, eqSymsOk, h.1, h.2, decide_true, br_true, sameX]
  cases eqSecs a.1 b.1 <;> rfl
def sp_f16 : Ent := spec (.pr tyImage (.pr tyImage .nil)) (fun x => (sameXOk x.1 x.2.1)) (fun x => (.t .bool (sameX x.1 x.2.1)))
theorem ms_f16 : Meets Try.prog 16 (strip sp_f16) := by
  obtain ⟨c, hc, hi⟩ := Option.map_eq_some_iff.1 ok_f16
  exact meets_spec (R := runF g_f16 tc_f16 rv_f16 false) (meets_of (by decide) Try.func16 hc hi Try.ntmps16 rok_f16 gk_f16 lk_f16 mixed) fun x hok => (e_f16 x.1 x.2.1).trans (s_f16 x.1 x.2.1 hok)
/-! lists of numbers -/
def sameI (a b : List Int) : Bool := a == b
def sameIOk (a _b : List Int) : Bool := decide (a.length ≤ 100000)
theorem drop_neI {a b : List Int} {k : Nat} (h1 : k < a.length) (h2 : k < b.length) : (!(a.drop k == b.drop k)) = (!(a[k] == b[k]) || !(a.drop (k + 1) == b.drop (k + 1))) := by
  rw [List.drop_eq_getElem_cons h1, List.drop_eq_getElem_cons h2]
  show (!(a[k] == b[k] && _)) = _
  rw [Bool.not_and]
  rfl
def dr_f17_0 : List DO := [(.mk (oV 17 0) []), (.mk (oV 18 5) []), (.mk (oP 19 (.ix 1 (.t 17) (.t 18))) [0, 1]), (.mk (oL 20 19) [2]), (.mk (oV 21 1) []), (.mk (oV 22 5) []), (.mk (oP 23 (.ix 1 (.t 21) (.t 22))) [4, 5]), (.mk (oL 24 23) [6]), (.mk (oP 25 (.bin false .neq (.t 20) (.t 24))) [3, 7])]
def fg_f17_0 : Fg := ⟨[(0, some (.sl tI)), (1, some (.sl tI)), (5, some tI)], []⟩
def tb_f17_0 : TC := (.sq (.sq (.reg [(oV 11 5), (oV 12 0), (oP 13 (.len false (.t 12))), (oP 14 (.bin false .lss (.t 11) (.t 13)))]) (.cd (.t 14) .sk (.fg ⟨[], []⟩ (.ex 0)))) (.sq (.bk 1 (.sq (.dr dr_f17_0 [(0, []), (1, []), (2, []), (3, []), (4, []), (5, []), (6, []), (7, []), (8, [])] (.of [0, 1, 2, 3, 4, 5, 6, 7, 8])) (.cd (.t 25) (.sq (.reg [(oP 4 (.mv (cB false)))]) (.fg ⟨[(4, some .bool)], []⟩ .rt)) .sk))) (.reg [(oV 15 5), (oP 16 (.bin false .add (.t 15) (cI 1))), (oV 5 16)])))
/-- cipherplan/cipherplanref02.SameInts -/
def tc_f17 : TC := (.sq (.reg [(oP 4 (.mv (cB false)))]) (.sq (.sq (.reg [(oV 6 0), (oP 7 (.len false (.t 6))), (oV 8 1), (oP 9 (.len false (.t 8))), (oP 10 (.bin false .neq (.t 7) (.t 9)))]) (.cd (.t 10) (.sq (.reg [(oP 4 (.mv (cB false)))]) .rt) .sk)) (.sq (.sq (.reg [(oP 5 (.mv (cI 0)))]) (.bk 0 (.lp 0 fg_f17_0 tb_f17_0))) (.sq (.reg [(oP 4 (.mv (cB true)))]) .rt))))
def rv_f17 : List (RV × Option Ty) := [((.t 4), some .bool)]
abbrev sh_f17_0 : Sh := ⟨[(0, .ty (.sl tI)), (1, .ty (.sl tI)), (5, .ty tI)], []⟩
def st_f17_0 (x0 : (List Int)) (x1 : (List Int)) (x5 : Int) : VS := sh_f17_0.st (x0, x1, x5, ()) ()
abbrev sh_f17_0_ret : Sh := ⟨[(4, .ty .bool)], []⟩
def st_f17_0_ret (x4 : Bool) : VS := sh_f17_0_ret.st (x4, ()) ()
abbrev sh_f17_0_e0 : Sh := ⟨[], []⟩
def st_f17_0_e0  : VS := sh_f17_0_e0.st () ()
-- loop 0: (x0 : (List Int)) (x1 : (List Int)) (x5 : Int); out: ('ret',) (x4 : Bool); ('exit', 0) 
def L_f17_0 : VS → Option (Bool × List (Bool × Exit × VS)) := mkL sh_f17_0 (fun x y => (decide (x.1.length = x.2.1.length ∧ x.1.length ≤ 100000 ∧ 0 ≤ x.2.2.1 ∧ x.2.2.1 ≤ x.1.length))) (fun x y => [((!(x.1.drop x.2.2.1.toNat == x.2.1.drop x.2.2.1.toNat)), .ret, st_f17_0_ret (false)), (true, .exit 0, st_f17_0_e0)])
def g_f17 : G := ⟨TYs, [], 26, EL [], keeps, (Ls [L_f17_0]), IL [], RL []⟩
def b_f17_0 (x0 : (List Int)) (x1 : (List Int)) (x5 : Int) : Option (Exit × VS) :=
  br ((ilt x5 (llen x0)))
    (br (cIx x0 x5)
      (br (cIx x1 x5)
        (br ((ine (lgt tI x0 (Int.toNat x5)) (lgt tI x1 (Int.toNat x5))))
          (some (.ret, st_f17_0_ret false))
          (some (.normal, st_f17_0 x0 x1 (iadd .i64 x5 1))))
        (none))
      (none))
    (some (.exit 0, st_f17_0_e0))
noncomputable def lp_f17_0 (x0 : (List Int)) (x1 : (List Int)) (x5 : Int) : Option (Exit × VS) := loopF (roundF g_f17 fg_f17_0 tb_f17_0) (st_f17_0 x0 x1 x5)
noncomputable def n_f17_0 (x0 : (List Int)) (x1 : (List Int)) (x5 : Int) : Option (Exit × VS) :=
  br ((ilt x5 (llen x0)))
    (br (cIx x0 x5)
      (br (cIx x1 x5)
        (br ((ine (lgt tI x0 (Int.toNat x5)) (lgt tI x1 (Int.toNat x5))))
          (some (.ret, st_f17_0_ret false))
          (lp_f17_0 x0 x1 (iadd .i64 x5 1)))
        (none))
      (none))
    (some (.exit 0, st_f17_0_e0))
def la_f17_0 (x0 : (List Int)) (x1 : (List Int)) (x5 : Int) : Option (Exit × VS) := br (!(x0.drop x5.toNat == x1.drop x5.toNat)) (some (.ret, st_f17_0_ret (false))) <| some (.exit 0, st_f17_0_e0)
theorem be_f17_0 (x0 : (List Int)) (x1 : (List Int)) (x5 : Int) : roundF g_f17 fg_f17_0 tb_f17_0 (st_f17_0 x0 x1 x5) = b_f17_0 x0 x1 x5 := by kernel_rfl
theorem ln_f17_0 (x0 : (List Int)) (x1 : (List Int)) (x5 : Int) : lp_f17_0 x0 x1 x5 = n_f17_0 x0 x1 x5 := (loopF_nxt _ _).trans (by
  rw [be_f17_0]
  simp only [b_f17_0, n_f17_0, nxt_br, nxt_n, nxt_r, nxt_e, nxt_0]
  rfl)
def r_f17 (p0 : (List Int)) (p1 : (List Int)) : Option (V × List VO) :=
  br ((ine (llen p0) (llen p1)))
    (some (.t .bool false, []))
    (br ((decide (p0.length = p1.length ∧ p0.length ≤ 100000 ∧ 0 ≤ (0 : Int) ∧ (0 : Int) ≤ p0.length)))
      (br ((!(p0.drop (0 : Int).toNat == p1.drop (0 : Int).toNat)))
        (some (.t .bool (false), []))
        (some (.t .bool true, [])))
      (none))
theorem e_f17 (p0 : (List Int)) (p1 : (List Int)) : runF g_f17 tc_f17 rv_f17 false [.t (.sl tI) p0, .t (.sl tI) p1] [] = r_f17 p0 p1 := by kernel_rfl
theorem ok_f17 : Option.map (trC Try.prog) Try.f17.body = some tc_f17.er := by kernel_rfl
theorem rok_f17 : trVs Try.prog Try.f17.results.toList = some (rv_f17.map Prod.fst) := by kernel_rfl
theorem en_f17 : Entered Try.prog 17 := .inr ⟨by decide, _, Try.func17, by kernel_rfl, by kernel_rfl⟩
theorem gk_f17 : GOk Try.prog g_f17 := gok_of _ (fun p hp => by cases hp)
theorem l_f17_0 (x0 : (List Int)) (x1 : (List Int)) (x5 : Int) (h : (decide (x0.length = x1.length ∧ x0.length ≤ 100000 ∧ 0 ≤ x5 ∧ x5 ≤ x0.length)) = true) : lp_f17_0 x0 x1 x5 = la_f17_0 x0 x1 x5 := by
  simp only [decide_eq_true_eq] at h
  obtain ⟨h1, h2, h3, h4⟩ := h
  obtain ⟨k, rfl⟩ := Int.eq_ofNat_of_zero_le h3
  refine range_ind x0 (fun k => lp_f17_0 x0 x1 (k : Int) = la_f17_0 x0 x1 (k : Int)) ?_ ?_ k (by omega)
  · rw [ln_f17_0]
    have e2 : x1.drop x0.length = [] := List.drop_eq_nil_of_le (by omega)
    simp [n_f17_0, la_f17_0, ilt_nat, llen, br_false, e2]
  · intro k hk ih
    rw [ln_f17_0]
    have hk2 : k < x1.length := by omega
    simp only [n_f17_0, ilt_nat, llen, cIx_nat, hk, hk2, decide_true, br_true, Int.toNat_natCast, add1 (show k < 4611686018427387904 by omega), ih, lgt_get (y := tI) hk, lgt_get (y := tI) hk2]
    simp only [la_f17_0, Int.toNat_natCast, drop_neI hk hk2, ine, bne]
    cases x0[k] == x1[k] <;> rfl
theorem lo_f17_0 : ∀ S l p, g_f17.L 0 (fgt fg_f17_0 S) = some (true, l) → pickA l = some p → loopF (roundF g_f17 fg_f17_0 tb_f17_0) S = some p :=
  lok_of (s := sh_f17_0) ⟨by decide, by decide⟩ (by kernel_rfl) fun x y hok p hp => by
  simp only [pickA_br, pickA_one] at hp
  exact (l_f17_0 x.1 x.2.1 x.2.2.1 (by simpa using hok)).trans hp
theorem lk_f17 : tc_f17.lok g_f17 := by
  repeat (first | exact trivial | exact lo_f17_0 | refine ⟨?_, ?_⟩)
theorem s_f17 (a b : List Int) (h : sameIOk a b = true) : r_f17 a b = some (.t .bool (sameI a b), []) := by
  simp only [sameIOk, decide_eq_true_eq] at h
  simp only [r_f17, Int.toNat_zero, List.drop_zero]
  by_cases q : a.length = b.length
  · have e1 : ine (llen a) (llen b) = false := by simp [ine, llen, q]
    rw [e1, br_false, decide_eq_true (show a.length = b.length ∧ a.length ≤ 100000 ∧ (0 : Int) ≤ 0 ∧ (0 : Int) ≤ a.length from ⟨q, h, Int.le_refl 0, by omega⟩), br_true]
    unfold sameI
    cases a == b <;> rfl
  · have e1 : ine (llen a) (llen b) = true := by simp [ine, llen]; omega
    have e2 : (a == b) = false := by
      rw [beq_eq_false_iff_ne]
      rintro rfl
      exact q rfl
    rw [e1, br_true, sameI, e2]
def sp_f17 : Ent := spec (.pr (.sl tI) (.pr (.sl tI) .nil)) (fun x => (sameIOk x.1 x.2.1)) (fun x => (.t .bool (sameI x.1 x.2.1)))
theorem ms_f17 : Meets Try.prog 17 (strip sp_f17) := by
  obtain ⟨c, hc, hi⟩ := Option.map_eq_some_iff.1 ok_f17
  exact meets_spec (R := runF g_f17 tc_f17 rv_f17 false) (meets_of (by decide) Try.func17 hc hi Try.ntmps17 rok_f17 gk_f17 lk_f17 mixed) fun x hok => (e_f17 x.1 x.2.1).trans (s_f17 x.1 x.2.1 hok)
/-! a text up to a letter -/
def idxO (s p : ByteArray) : Int := Lib.indexByte s.data.toList (p.data.toList.headD 0)
def idxOOk (_s p : ByteArray) : Bool := decide (p.size = 1)
def sp_f49 : Ent := spec (.pr .str (.pr .str .nil)) (fun x => (idxOOk x.1 x.2.1)) (fun x => (.t tI (idxO x.1 x.2.1)))
theorem en_f49 : Entered Try.prog 49 := .inr ⟨by decide, _, Try.func49, by kernel_rfl, by kernel_rfl⟩
theorem ms_f49 : Meets Try.prog 49 (strip sp_f49) := meets_calls fun x hok X w σ vs hfin hc => by
  obtain ⟨s, ⟨d⟩, u⟩ := x
  have hok : d.size = 1 := of_decide_eq_true hok
  obtain ⟨c, rfl⟩ : ∃ c, d = #[c] := by
    match d, hok with
    | ⟨[c]⟩, _ => exact ⟨c, rfl⟩
  simp only [Ty.canon, V.ds, V.d, Ty.d, Cs, C] at hc
  obtain ⟨v1, r1, rfl, ⟨rfl, _⟩, v2, r2, rfl, ⟨rfl, _⟩, rfl⟩ := hc
  refine (Any.stringslite_Index_one Try.lays219 s c w).mono ?_
  rintro e w' ⟨rfl, rfl⟩
  refine ⟨_, rfl, ?_, Below.refl _ _⟩
  simp only [V.d, Ty.d, C]
  exact ⟨rfl, rfl⟩
end
end Go.Proofs.Ytdbaaejiolibfaa.K
