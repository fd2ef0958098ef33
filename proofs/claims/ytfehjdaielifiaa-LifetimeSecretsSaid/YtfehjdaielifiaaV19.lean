/-
  lifetime: names, links, what an item is.
-/
import Derived.Test.YtfehjdaielifiaaV8
import Derived.Test.YtfehjdaielifiaaKD
set_option linter.unusedSimpArgs false
set_option linter.unusedVariables false
namespace Go.Proofs.Ytfehjdaielifiaa.K
open Go.RowKit
/-! names -/
def charB (c : Int) : Bool := decide (32 < c ∧ c ≤ 126)
def namedF (s : ByteArray) : Bool := (bytesL s).all charB && decide (1 ≤ s.size ∧ s.size ≤ 32)
def nameOk (s : ByteArray) : Bool := decide (s.size ≤ 100000)
theorem bytesL_len (s : ByteArray) : (bytesL s).length = s.size := by simp [bytesL]
def fg_catalog_Named_0 : Fg := ⟨[(0, some .str), (6, some (.sl (.int .u8))), (7, some tI), (8, some tI)], []⟩
def tb_catalog_Named_0 : TC := (.sq (.reg [(.mk (some 9) none (.m (.pu (.bin false .lss (.t 8) (.t 7)))))]) (.sq (.cd (.t 9) .sk (.fg ⟨[(0, some .str)], []⟩ (.ex 0))) (.sq (.bk 1 (.sq (.reg [(.mk (some 10) none (.m (.pu (.ix 1 (.t 6) (.t 8))))), (.mk (some 11) none (.m (.ld false 1 (.t 10)))), (.mk (some 4) none (.m (.pu (.mv (.t 11)))))]) (.sq (.reg [(.mk (some 12) none (.m (.pu (.mv (.t 4))))), (.mk (some 13) none (.m (.pu (.bin false .leq (.t 12) (.c (.v (.int .u8 32))))))), (.mk (some 14) none (.m (.pu (.mv (.t 13))))), (.mk (some 15) (some (14, false)) (.m (.pu (.mv (.t 4))))), (.mk (some 16) (some (14, false)) (.m (.pu (.bin false .gtr (.t 15) (.c (.v (.int .u8 126))))))), (.mk (some 17) none (.m (.pu (.pick (.t 14) (.c (.v (.bool true))) (.t 16)))))]) (.cd (.t 17) (.sq (.reg [(.mk (some 2) none (.m (.pu (.mv (.c (.v (.bool false)))))))]) (.fg ⟨[(2, some .bool)], []⟩ .rt)) .sk)))) (.reg [(.mk (some 18) none (.m (.pu (.bin false .add (.t 8) (.c (.v (.int .i64 1))))))), (.mk (some 8) none (.m (.pu (.mv (.t 18)))))]))))
/-- cipherplan/catalog.Named -/
def tc_catalog_Named : TC := (.sq (.reg [(.mk (some 2) none (.m (.pu (.mv (.c (.v (.bool false)))))))]) (.sq (.sq (.reg [(.mk (some 5) none (.m (.pu (.mv (.t 0))))), (.mk (some 6) none (.call 18920144 [(.t 5)])), (.mk (some 7) none (.m (.pu (.len false (.t 6))))), (.mk (some 8) none (.m (.pu (.mv (.c (.v (.int .i64 0)))))))]) (.bk 0 (.lp 0 fg_catalog_Named_0 tb_catalog_Named_0))) (.sq (.reg [(.mk (some 19) none (.m (.pu (.mv (.t 0))))), (.mk (some 20) none (.m (.pu (.len true (.t 19))))), (.mk (some 21) none (.m (.pu (.bin false .geq (.t 20) (.c (.v (.int .i64 1))))))), (.mk (some 22) none (.m (.pu (.mv (.t 21))))), (.mk (some 23) (some (22, true)) (.m (.pu (.mv (.t 0))))), (.mk (some 24) (some (22, true)) (.m (.pu (.len true (.t 23))))), (.mk (some 25) (some (22, true)) (.m (.pu (.bin false .leq (.t 24) (.c (.v (.int .i64 32))))))), (.mk (some 26) none (.m (.pu (.pick (.t 22) (.t 25) (.c (.v (.bool false))))))), (.mk (some 2) none (.m (.pu (.mv (.t 26)))))]) .rt)))
def rv_catalog_Named : List (RV × Option Ty) := [((.t 2), some .bool)]
abbrev sh_catalog_Named_0 : Sh := ⟨[(0, .ty .str), (6, .ty (.sl (.int .u8))), (7, .ty tI), (8, .ty tI)], []⟩
def st_catalog_Named_0 (x0 : ByteArray) (x6 : (List Int)) (x7 : Int) (x8 : Int) : VS := sh_catalog_Named_0.st (x0, x6, x7, x8, ()) ()
abbrev sh_catalog_Named_0_ret : Sh := ⟨[(2, .ty .bool)], []⟩
def st_catalog_Named_0_ret (x2 : Bool) : VS := sh_catalog_Named_0_ret.st (x2, ()) ()
abbrev sh_catalog_Named_0_e0 : Sh := ⟨[(0, .ty .str)], []⟩
def st_catalog_Named_0_e0 (x0 : ByteArray) : VS := sh_catalog_Named_0_e0.st (x0, ()) ()
-- loop 0: (x0 : ByteArray) (x6 : (List Int)) (x7 : Int) (x8 : Int); out: ('ret',) (x2 : Bool); ('exit', 0) (x0 : ByteArray)
def L_catalog_Named_0 : VS → Option (Bool × List (Bool × Exit × VS)) := mkL sh_catalog_Named_0 (fun x y => (rngOk x.2.1 x.2.2.1 x.2.2.2.1)) (fun x y => [((!((x.2.1.drop x.2.2.2.1.toNat).all charB)), .ret, st_catalog_Named_0_ret (false)), (true, .exit 0, st_catalog_Named_0_e0 (x.1))])
def g_catalog_Named : G := ⟨TYs, [], 27, EL [(18920144, sp_op_convert_9_112)], keeps, (Ls [L_catalog_Named_0]), IL [], RL []⟩
def b_catalog_Named_0 (x0 : ByteArray) (x6 : (List Int)) (x7 : Int) (x8 : Int) : Option (Exit × VS) :=
  br ((ilt x8 x7))
    (br (cIx x6 x8)
      (br ((ile (lgt (.int .u8) x6 (Int.toNat x8)) 32))
        (some (.ret, st_catalog_Named_0_ret false))
        (br ((igt (lgt (.int .u8) x6 (Int.toNat x8)) 126))
          (some (.ret, st_catalog_Named_0_ret false))
          (some (.normal, st_catalog_Named_0 x0 x6 x7 (iadd .i64 x8 1)))))
      (none))
    (some (.exit 0, st_catalog_Named_0_e0 x0))
noncomputable def lp_catalog_Named_0 (x0 : ByteArray) (x6 : (List Int)) (x7 : Int) (x8 : Int) : Option (Exit × VS) := loopF (roundF g_catalog_Named fg_catalog_Named_0 tb_catalog_Named_0) (st_catalog_Named_0 x0 x6 x7 x8)
noncomputable def n_catalog_Named_0 (x0 : ByteArray) (x6 : (List Int)) (x7 : Int) (x8 : Int) : Option (Exit × VS) :=
  br ((ilt x8 x7))
    (br (cIx x6 x8)
      (br ((ile (lgt (.int .u8) x6 (Int.toNat x8)) 32))
        (some (.ret, st_catalog_Named_0_ret false))
        (br ((igt (lgt (.int .u8) x6 (Int.toNat x8)) 126))
          (some (.ret, st_catalog_Named_0_ret false))
          (lp_catalog_Named_0 x0 x6 x7 (iadd .i64 x8 1))))
      (none))
    (some (.exit 0, st_catalog_Named_0_e0 x0))
def la_catalog_Named_0 (x0 : ByteArray) (x6 : (List Int)) (x7 : Int) (x8 : Int) : Option (Exit × VS) := br (!((x6.drop x8.toNat).all charB)) (some (.ret, st_catalog_Named_0_ret (false))) <| some (.exit 0, st_catalog_Named_0_e0 (x0))
theorem be_catalog_Named_0 (x0 : ByteArray) (x6 : (List Int)) (x7 : Int) (x8 : Int) : roundF g_catalog_Named fg_catalog_Named_0 tb_catalog_Named_0 (st_catalog_Named_0 x0 x6 x7 x8) = b_catalog_Named_0 x0 x6 x7 x8 := by kernel_rfl
theorem ln_catalog_Named_0 (x0 : ByteArray) (x6 : (List Int)) (x7 : Int) (x8 : Int) : lp_catalog_Named_0 x0 x6 x7 x8 = n_catalog_Named_0 x0 x6 x7 x8 := (loopF_nxt _ _).trans (by
  rw [be_catalog_Named_0]
  simp only [b_catalog_Named_0, n_catalog_Named_0, nxt_br, nxt_n, nxt_r, nxt_e, nxt_0]
  rfl)
def r_catalog_Named (p0 : ByteArray) : Option (V × List VO) :=
  br ((bytesOk p0))
    (br ((rngOk (bytesL p0) (llen (bytesL p0)) (0 : Int)))
      (br ((!(((bytesL p0).drop (0 : Int).toNat).all charB)))
        (some (.t .bool (false), []))
        (br ((ige (slen (p0)) 1))
          (some (.t .bool (ile (slen (p0)) 32), []))
          (some (.t .bool false, []))))
      (none))
    (none)
theorem e_catalog_Named (p0 : ByteArray) : runF g_catalog_Named tc_catalog_Named rv_catalog_Named false [.t .str p0] [] = r_catalog_Named p0 := by kernel_rfl
theorem ok_catalog_Named : Option.map (trC Try.prog) Try.f49.body = some tc_catalog_Named.er := by kernel_rfl
theorem rok_catalog_Named : trVs Try.prog Try.f49.results.toList = some (rv_catalog_Named.map Prod.fst) := by kernel_rfl
theorem en_catalog_Named : Entered Try.prog 49 := .inr ⟨by decide, _, Try.func49, by kernel_rfl, by kernel_rfl⟩
theorem gk_catalog_Named : GOk Try.prog g_catalog_Named := gok_of _ (by
  intro p hp
  simp only [List.mem_cons, List.not_mem_nil, or_false] at hp
  rcases hp with rfl
  · exact ⟨en_op_convert_9_112, ms_op_convert_9_112⟩)
theorem l_catalog_Named_0 (x0 : ByteArray) (x6 : (List Int)) (x7 : Int) (x8 : Int) (h : (rngOk x6 x7 x8) = true) : lp_catalog_Named_0 x0 x6 x7 x8 = la_catalog_Named_0 x0 x6 x7 x8 := by
  obtain ⟨rfl, h3, k, rfl, hk⟩ := rng_k h
  clear h
  refine range_ind x6 (fun k => lp_catalog_Named_0 x0 x6 (x6.length : Int) (k : Int) = la_catalog_Named_0 x0 x6 (x6.length : Int) (k : Int)) ?_ ?_ k hk
  · rw [ln_catalog_Named_0]
    simp [n_catalog_Named_0, la_catalog_Named_0, ilt_nat, br_false]
  · intro k hk ih
    rw [ln_catalog_Named_0]
    simp only [n_catalog_Named_0, ilt_nat, cIx_nat, hk, decide_true, br_true, Int.toNat_natCast, add1 (show k < 4611686018427387904 by omega), lgt_get (y := .int .u8) hk, ih]
    simp only [la_catalog_Named_0, Int.toNat_natCast, List.drop_eq_getElem_cons hk, List.all_cons, charB]
    by_cases c1 : x6[k] ≤ 32
    · rw [show ile x6[k] 32 = true from decide_eq_true c1, br_true, decide_eq_false (show ¬ (32 < x6[k] ∧ x6[k] ≤ 126) by omega)]
      rfl
    · rw [show ile x6[k] 32 = false from decide_eq_false c1, br_false]
      by_cases c2 : 126 < x6[k]
      · rw [show igt x6[k] 126 = true from decide_eq_true (by omega), br_true, decide_eq_false (show ¬ (32 < x6[k] ∧ x6[k] ≤ 126) by omega)]
        rfl
      · rw [show igt x6[k] 126 = false from decide_eq_false (by omega), br_false, decide_eq_true (show 32 < x6[k] ∧ x6[k] ≤ 126 by omega), Bool.true_and]
theorem lo_catalog_Named_0 : ∀ S l p, g_catalog_Named.L 0 (fgt fg_catalog_Named_0 S) = some (true, l) → pickA l = some p → loopF (roundF g_catalog_Named fg_catalog_Named_0 tb_catalog_Named_0) S = some p :=
  lok_of (s := sh_catalog_Named_0) ⟨by decide, by decide⟩ (by kernel_rfl) fun x y hok p hp => by
  simp only [pickA_br, pickA_one] at hp
  exact (l_catalog_Named_0 x.1 x.2.1 x.2.2.1 x.2.2.2.1 (by simpa using hok)).trans hp
theorem lk_catalog_Named : tc_catalog_Named.lok g_catalog_Named := by
  repeat (first | exact trivial | exact lo_catalog_Named_0 | refine ⟨?_, ?_⟩)
theorem s_catalog_Named (s : ByteArray) (h : nameOk s = true) : r_catalog_Named s = some (.t .bool (namedF s), []) := by
  simp only [nameOk, decide_eq_true_eq] at h
  have hl := bytesL_len s
  simp only [r_catalog_Named, show bytesOk s = true from decide_eq_true (by omega), rng_0 (show (bytesL s).length ≤ 100000 by omega), br_true, Int.toNat_zero, List.drop_zero, namedF]
  cases (bytesL s).all charB with
  | false => rfl
  | true =>
    simp only [Bool.not_true, br_false, Bool.true_and]
    refine br_intro (fun g => ?_) (fun g => ?_)
    · simp only [ige, slen, decide_eq_true_eq] at g
      apply some_b
      rw [Bool.eq_iff_iff]
      simp only [ile, slen, decide_eq_true_eq]
      omega
    · simp only [ige, slen, decide_eq_false_iff_not] at g
      apply some_b
      rw [eq_comm, decide_eq_false_iff_not]
      omega
def sp_catalog_Named : Ent := spec (.pr .str .nil) (fun x => (nameOk x.1)) (fun x => (.t .bool (namedF x.1)))
theorem ms_catalog_Named : Meets Try.prog 49 (strip sp_catalog_Named) := by
  obtain ⟨c, hc, hi⟩ := Option.map_eq_some_iff.1 ok_catalog_Named
  exact meets_spec (R := runF g_catalog_Named tc_catalog_Named rv_catalog_Named false) (meets_of (by decide) Try.func49 hc hi Try.ntmps49 rok_catalog_Named gk_catalog_Named lk_catalog_Named mixed) fun x hok => (e_catalog_Named x.1).trans (s_catalog_Named x.1 hok)

/-! links -/
def goneV (x : LinkX) : Int × Bool := (imx x.1 x.2.1, x.2.2.1)
def dr_lifetime_link_gone_0 : List DO := [(.mk (.mk (some 4) none (.m (.pu (.fa 0 (.t 1))))) []), (.mk (.mk (some 5) none (.m (.ld false 1 (.t 4)))) [0]), (.mk (.mk (some 6) none (.m (.pu (.fa 1 (.t 1))))) []), (.mk (.mk (some 7) none (.m (.ld false 1 (.t 6)))) [2]), (.mk (.mk (some 8) none (.m (.pu (.mx (.t 5) (.t 7))))) [1, 3]), (.mk (.mk (some 9) none (.m (.pu (.fa 2 (.t 1))))) []), (.mk (.mk (some 10) none (.m (.ld false 1 (.t 9)))) [5]), (.mk (.mk (some 2) none (.m (.pu (.mv (.t 8))))) [4, 0, 1, 2, 3, 4]), (.mk (.mk (some 3) none (.m (.pu (.mv (.t 10))))) [6, 7, 0, 1, 2, 3, 4, 5, 6, 7])]
/-- (cipherplan/lifetime.link).gone -/
def tc_lifetime_link_gone : TC := (.sq (.reg [(.mk (some 1) none (.m (.box (.t 0)))), (.mk (some 2) none (.m (.pu (.mv (.c (.v (.int .i64 0))))))), (.mk (some 3) none (.m (.pu (.mv (.c (.v (.bool false)))))))]) (.sq (.dr dr_lifetime_link_gone_0 [(0, [1]), (1, [1]), (2, [1]), (3, [1]), (4, []), (5, [1]), (6, [1]), (7, []), (8, [])] (.of [0, 1, 2, 3, 4, 5, 6, 7, 8])) .rt))
def rv_lifetime_link_gone : List (RV × Option Ty) := [((.t 2), some tI), ((.t 3), some .bool)]
def g_lifetime_link_gone : G := ⟨TYs, [], 11, EL [], keeps, (fun _ _ => none), IL [], RL []⟩
def r_lifetime_link_gone (p0 : LinkX) : Option (V × List VO) :=
  some (.tu [(.t tI (imx p0.1 p0.2.1)), (.t .bool p0.2.2.1)], [])
theorem e_lifetime_link_gone (p0 : LinkX) : runF g_lifetime_link_gone tc_lifetime_link_gone rv_lifetime_link_gone false [.t tyLinkX p0] [] = r_lifetime_link_gone p0 := by kernel_rfl
theorem ok_lifetime_link_gone : Option.map (trC Try.prog) Try.f110.body = some tc_lifetime_link_gone.er := by kernel_rfl
theorem rok_lifetime_link_gone : trVs Try.prog Try.f110.results.toList = some (rv_lifetime_link_gone.map Prod.fst) := by kernel_rfl
theorem en_lifetime_link_gone : Entered Try.prog 110 := .inr ⟨by decide, _, Try.func110, by kernel_rfl, by kernel_rfl⟩
theorem gk_lifetime_link_gone : GOk Try.prog g_lifetime_link_gone := gok_of _ (fun p hp => by cases hp)
theorem lk_lifetime_link_gone : tc_lifetime_link_gone.lok g_lifetime_link_gone := by repeat (first | exact trivial | refine ⟨?_, ?_⟩)
theorem s_lifetime_link_gone (x : LinkX) : r_lifetime_link_gone x = some (.tu [.t tI (goneV x).1, .t .bool (goneV x).2], []) := rfl
def sp_lifetime_link_gone : Ent := spec (.pr tyLinkX .nil) (fun x => true) (fun x => (.tu [(.t tI ((goneV x.1).1)), (.t .bool ((goneV x.1).2))]))
theorem ms_lifetime_link_gone : Meets Try.prog 110 (strip sp_lifetime_link_gone) := by
  obtain ⟨c, hc, hi⟩ := Option.map_eq_some_iff.1 ok_lifetime_link_gone
  exact meets_spec (R := runF g_lifetime_link_gone tc_lifetime_link_gone rv_lifetime_link_gone false) (meets_of (by decide) Try.func110 hc hi Try.ntmps110 rok_lifetime_link_gone gk_lifetime_link_gone lk_lifetime_link_gone mixed) fun x _ => (e_lifetime_link_gone x.1).trans (s_lifetime_link_gone x.1)
def scCount (l : List LinkX) : Int := (l.length : Int)
/-- (cipherplan/lifetime.secret).count -/
def tc_lifetime_secret_count : TC := (.sq (.reg [(.mk (some 2) none (.m (.pu (.mv (.c (.v (.int .i64 0)))))))]) (.sq (.reg [(.mk (some 3) none (.m (.pu (.mv (.t 0))))), (.mk (some 4) none (.m (.pu (.len false (.t 3))))), (.mk (some 2) none (.m (.pu (.mv (.t 4)))))]) .rt))
def rv_lifetime_secret_count : List (RV × Option Ty) := [((.t 2), some tI)]
def g_lifetime_secret_count : G := ⟨TYs, [], 5, EL [], keeps, (fun _ _ => none), IL [], RL []⟩
def r_lifetime_secret_count (p0 : (List LinkX)) : Option (V × List VO) :=
  some (.t tI (llen p0), [])
theorem e_lifetime_secret_count (p0 : (List LinkX)) : runF g_lifetime_secret_count tc_lifetime_secret_count rv_lifetime_secret_count false [.t (.sl tyLinkX) p0] [] = r_lifetime_secret_count p0 := by kernel_rfl
theorem ok_lifetime_secret_count : Option.map (trC Try.prog) Try.f111.body = some tc_lifetime_secret_count.er := by kernel_rfl
theorem rok_lifetime_secret_count : trVs Try.prog Try.f111.results.toList = some (rv_lifetime_secret_count.map Prod.fst) := by kernel_rfl
theorem gk_lifetime_secret_count : GOk Try.prog g_lifetime_secret_count := gok_of _ (fun p hp => by cases hp)
theorem lk_lifetime_secret_count : tc_lifetime_secret_count.lok g_lifetime_secret_count := by repeat (first | exact trivial | refine ⟨?_, ?_⟩)
theorem s_lifetime_secret_count (l : List LinkX) : r_lifetime_secret_count l = some (.t tI (scCount l), []) := rfl
def sp_lifetime_secret_count : Ent := spec (.pr (.sl tyLinkX) .nil) (fun x => true) (fun x => (.t tI (scCount x.1)))
theorem ms_lifetime_secret_count : Meets Try.prog 111 (strip sp_lifetime_secret_count) := by
  obtain ⟨c, hc, hi⟩ := Option.map_eq_some_iff.1 ok_lifetime_secret_count
  exact meets_spec (R := runF g_lifetime_secret_count tc_lifetime_secret_count rv_lifetime_secret_count false) (meets_of (by decide) Try.func111 hc hi Try.ntmps111 rok_lifetime_secret_count gk_lifetime_secret_count lk_lifetime_secret_count mixed) fun x _ => (e_lifetime_secret_count x.1).trans (s_lifetime_secret_count x.1)
def secStep (s : Int × Bool) (x : LinkX) : Int × Bool := if (goneV x).2 && (!s.2 || ilt (goneV x).1 s.1) then ((goneV x).1, true) else s
def secFails (l : List LinkX) : Int × Bool := l.foldl secStep (0, false)
def fg_lifetime_secret_fails_0 : Fg := ⟨[(4, some tI), (5, some .bool), (10, some (.sl tyLinkX)), (11, some tI), (12, some tI)], []⟩
def tb_lifetime_secret_fails_0 : TC := (.sq (.reg [(.mk (some 13) none (.m (.pu (.bin false .lss (.t 12) (.t 11)))))]) (.sq (.cd (.t 13) .sk (.fg ⟨[(4, some tI), (5, some .bool)], []⟩ (.ex 0))) (.sq (.bk 1 (.sq (.reg [(.mk (some 14) none (.m (.pu (.ix 3 (.t 10) (.t 12))))), (.mk (some 15) none (.m (.ld true 3 (.t 14)))), (.mk (some 7) none (.m (.new [(.v (.int .i64 0)), (.v (.int .i64 0)), (.v (.bool false))]))), (.mk none none (.m (.st 3 (.t 7) (.t 15))))]) (.sq (.reg [(.mk (some 17) none (.m (.ld true 3 (.t 7)))), (.mk (some 18) none (.call 110 [(.t 17)])), (.mk (some 16) none (.m (.pu (.mv (.t 18))))), (.mk (some 19) none (.m (.pu (.ext 0 (.t 16))))), (.mk (some 20) none (.m (.pu (.ext 1 (.t 16))))), (.mk (some 8) none (.m (.pu (.mv (.t 19))))), (.mk (some 9) none (.m (.pu (.mv (.t 20)))))]) (.sq (.reg [(.mk (some 21) none (.m (.pu (.mv (.t 9))))), (.mk (some 22) none (.m (.pu (.mv (.t 21))))), (.mk (some 23) (some (22, true)) (.m (.pu (.mv (.t 5))))), (.mk (some 24) (some (22, true)) (.m (.pu (.nt (.t 23))))), (.mk (some 25) (some (22, true)) (.m (.pu (.mv (.t 24))))), (.mk (some 26) (some (25, false)) (.m (.pu (.mv (.t 8))))), (.mk (some 27) (some (25, false)) (.m (.pu (.mv (.t 4))))), (.mk (some 28) (some (25, false)) (.m (.pu (.bin false .lss (.t 26) (.t 27))))), (.mk (some 29) (some (22, true)) (.m (.pu (.pick (.t 25) (.c (.v (.bool true))) (.t 28))))), (.mk (some 30) none (.m (.pu (.pick (.t 22) (.t 29) (.c (.v (.bool false)))))))]) (.cd (.t 30) (.reg [(.mk (some 31) none (.m (.pu (.mv (.t 8))))), (.mk (some 4) none (.m (.pu (.mv (.t 31))))), (.mk (some 5) none (.m (.pu (.mv (.c (.v (.bool true)))))))]) .sk))))) (.reg [(.mk (some 32) none (.m (.pu (.bin false .add (.t 12) (.c (.v (.int .i64 1))))))), (.mk (some 12) none (.m (.pu (.mv (.t 32)))))]))))
/-- (cipherplan/lifetime.secret).fails -/
def tc_lifetime_secret_fails : TC := (.sq (.reg [(.mk (some 2) none (.m (.pu (.mv (.c (.v (.int .i64 0))))))), (.mk (some 3) none (.m (.pu (.mv (.c (.v (.bool false)))))))]) (.sq (.reg [(.mk (some 4) none (.m (.pu (.mv (.c (.v (.int .i64 0))))))), (.mk (some 5) none (.m (.pu (.mv (.c (.v (.bool false)))))))]) (.sq (.sq (.reg [(.mk (some 10) none (.m (.pu (.mv (.t 0))))), (.mk (some 11) none (.m (.pu (.len false (.t 10))))), (.mk (some 12) none (.m (.pu (.mv (.c (.v (.int .i64 0)))))))]) (.bk 0 (.lp 0 fg_lifetime_secret_fails_0 tb_lifetime_secret_fails_0))) (.sq (.reg [(.mk (some 33) none (.m (.pu (.mv (.t 4))))), (.mk (some 34) none (.m (.pu (.mv (.t 5))))), (.mk (some 2) none (.m (.pu (.mv (.t 33))))), (.mk (some 3) none (.m (.pu (.mv (.t 34)))))]) .rt))))
def rv_lifetime_secret_fails : List (RV × Option Ty) := [((.t 2), some tI), ((.t 3), some .bool)]
abbrev sh_lifetime_secret_fails_0 : Sh := ⟨[(4, .ty tI), (5, .ty .bool), (10, .ty (.sl tyLinkX)), (11, .ty tI), (12, .ty tI)], []⟩
def st_lifetime_secret_fails_0 (x4 : Int) (x5 : Bool) (x10 : (List LinkX)) (x11 : Int) (x12 : Int) : VS := sh_lifetime_secret_fails_0.st (x4, x5, x10, x11, x12, ()) ()
abbrev sh_lifetime_secret_fails_0_e0 : Sh := ⟨[(4, .ty tI), (5, .ty .bool)], []⟩
def st_lifetime_secret_fails_0_e0 (x4 : Int) (x5 : Bool) : VS := sh_lifetime_secret_fails_0_e0.st (x4, x5, ()) ()
-- loop 0: (x4 : Int) (x5 : Bool) (x10 : (List LinkX)) (x11 : Int) (x12 : Int); out: ('exit', 0) (x4 : Int) (x5 : Bool)
def L_lifetime_secret_fails_0 : VS → Option (Bool × List (Bool × Exit × VS)) := mkL sh_lifetime_secret_fails_0 (fun x y => (rngOk x.2.2.1 x.2.2.2.1 x.2.2.2.2.1)) (fun x y => [(true, .exit 0, st_lifetime_secret_fails_0_e0 (((x.2.2.1.drop x.2.2.2.2.1.toNat).foldl secStep (x.1, x.2.1)).1) (((x.2.2.1.drop x.2.2.2.2.1.toNat).foldl secStep (x.1, x.2.1)).2))])
def g_lifetime_secret_fails : G := ⟨TYs, [], 35, EL [(110, sp_lifetime_link_gone)], keeps, (Ls [L_lifetime_secret_fails_0]), IL [], RL []⟩
def b_lifetime_secret_fails_0 (x4 : Int) (x5 : Bool) (x10 : (List LinkX)) (x11 : Int) (x12 : Int) : Option (Exit × VS) :=
  br ((ilt x12 x11))
    (br (cIx x10 x12)
      (br ((goneV (lgt tyLinkX x10 (Int.toNat x12))).2)
        (br ((!x5))
          (some (.normal, st_lifetime_secret_fails_0 ((goneV (lgt tyLinkX x10 (Int.toNat x12))).1) true x10 x11 (iadd .i64 x12 1)))
          (br ((ilt ((goneV (lgt tyLinkX x10 (Int.toNat x12))).1) x4))
            (some (.normal, st_lifetime_secret_fails_0 ((goneV (lgt tyLinkX x10 (Int.toNat x12))).1) true x10 x11 (iadd .i64 x12 1)))
            (some (.normal, st_lifetime_secret_fails_0 x4 x5 x10 x11 (iadd .i64 x12 1)))))
        (some (.normal, st_lifetime_secret_fails_0 x4 x5 x10 x11 (iadd .i64 x12 1))))
      (none))
    (some (.exit 0, st_lifetime_secret_fails_0_e0 x4 x5))
noncomputable def lp_lifetime_secret_fails_0 (x4 : Int) (x5 : Bool) (x10 : (List LinkX)) (x11 : Int) (x12 : Int) : Option (Exit × VS) := loopF (roundF g_lifetime_secret_fails fg_lifetime_secret_fails_0 tb_lifetime_secret_fails_0) (st_lifetime_secret_fails_0 x4 x5 x10 x11 x12)
noncomputable def n_lifetime_secret_fails_0 (x4 : Int) (x5 : Bool) (x10 : (List LinkX)) (x11 : Int) (x12 : Int) : Option (Exit × VS) :=
  br ((ilt x12 x11))
    (br (cIx x10 x12)
      (br ((goneV (lgt tyLinkX x10 (Int.toNat x12))).2)
        (br ((!x5))
          (lp_lifetime_secret_fails_0 ((goneV (lgt tyLinkX x10 (Int.toNat x12))).1) true x10 x11 (iadd .i64 x12 1))
          (br ((ilt ((goneV (lgt tyLinkX x10 (Int.toNat x12))).1) x4))
            (lp_lifetime_secret_fails_0 ((goneV (lgt tyLinkX x10 (Int.toNat x12))).1) true x10 x11 (iadd .i64 x12 1))
            (lp_lifetime_secret_fails_0 x4 x5 x10 x11 (iadd .i64 x12 1))))
        (lp_lifetime_secret_fails_0 x4 x5 x10 x11 (iadd .i64 x12 1)))
      (none))
    (some (.exit 0, st_lifetime_secret_fails_0_e0 x4 x5))
def la_lifetime_secret_fails_0 (x4 : Int) (x5 : Bool) (x10 : (List LinkX)) (x11 : Int) (x12 : Int) : Option (Exit × VS) := some (.exit 0, st_lifetime_secret_fails_0_e0 (((x10.drop x12.toNat).foldl secStep (x4, x5)).1) (((x10.drop x12.toNat).foldl secStep (x4, x5)).2))
theorem be_lifetime_secret_fails_0 (x4 : Int) (x5 : Bool) (x10 : (List LinkX)) (x11 : Int) (x12 : Int) : roundF g_lifetime_secret_fails fg_lifetime_secret_fails_0 tb_lifetime_secret_fails_0 (st_lifetime_secret_fails_0 x4 x5 x10 x11 x12) = b_lifetime_secret_fails_0 x4 x5 x10 x11 x12 := by kernel_rfl
theorem ln_lifetime_secret_fails_0 (x4 : Int) (x5 : Bool) (x10 : (List LinkX)) (x11 : Int) (x12 : Int) : lp_lifetime_secret_fails_0 x4 x5 x10 x11 x12 = n_lifetime_secret_fails_0 x4 x5 x10 x11 x12 := (loopF_nxt _ _).trans (by
  rw [be_lifetime_secret_fails_0]
  simp only [b_lifetime_secret_fails_0, n_lifetime_secret_fails_0, nxt_br, nxt_n, nxt_r, nxt_e, nxt_0]
  rfl)
def r_lifetime_secret_fails (p0 : (List LinkX)) : Option (V × List VO) :=
  br ((rngOk p0 (llen p0) (0 : Int)))
    (some (.tu [(.t tI (((p0.drop (0 : Int).toNat).foldl secStep ((0 : Int), false)).1)), (.t .bool (((p0.drop (0 : Int).toNat).foldl secStep ((0 : Int), false)).2))], []))
    (none)
theorem e_lifetime_secret_fails (p0 : (List LinkX)) : runF g_lifetime_secret_fails tc_lifetime_secret_fails rv_lifetime_secret_fails false [.t (.sl tyLinkX) p0] [] = r_lifetime_secret_fails p0 := by kernel_rfl
theorem ok_lifetime_secret_fails : Option.map (trC Try.prog) Try.f112.body = some tc_lifetime_secret_fails.er := by kernel_rfl
theorem rok_lifetime_secret_fails : trVs Try.prog Try.f112.results.toList = some (rv_lifetime_secret_fails.map Prod.fst) := by kernel_rfl
theorem gk_lifetime_secret_fails : GOk Try.prog g_lifetime_secret_fails := gok_of _ (by
  intro p hp
  simp only [List.mem_cons, List.not_mem_nil, or_false] at hp
  rcases hp with rfl
  · exact ⟨en_lifetime_link_gone, ms_lifetime_link_gone⟩)
theorem l_lifetime_secret_fails_0 (x4 : Int) (x5 : Bool) (x10 : (List LinkX)) (x11 : Int) (x12 : Int) (h : (rngOk x10 x11 x12) = true) : lp_lifetime_secret_fails_0 x4 x5 x10 x11 x12 = la_lifetime_secret_fails_0 x4 x5 x10 x11 x12 := by
  obtain ⟨rfl, h3, k, rfl, hk⟩ := rng_k h
  clear h
  revert x4 x5
  refine range_ind x10 (fun k => ∀ (x4 : Int) (x5 : Bool), lp_lifetime_secret_fails_0 x4 x5 x10 (x10.length : Int) (k : Int) = la_lifetime_secret_fails_0 x4 x5 x10 (x10.length : Int) (k : Int)) ?_ ?_ k hk
  · intro x4 x5
    rw [ln_lifetime_secret_fails_0]
    simp [n_lifetime_secret_fails_0, la_lifetime_secret_fails_0, ilt_nat, br_false]
  · intro k hk ih x4 x5
    rw [ln_lifetime_secret_fails_0]
    simp only [n_lifetime_secret_fails_0, ilt_nat, cIx_nat, hk, decide_true, br_true, Int.toNat_natCast, add1 (show k < 4611686018427387904 by omega), lgt_get (y := tyLinkX) hk, ih]
    have el : la_lifetime_secret_fails_0 x4 x5 x10 (x10.length : Int) (k : Int) = la_lifetime_secret_fails_0 (secStep (x4, x5) x10[k]).1 (secStep (x4, x5) x10[k]).2 x10 (x10.length : Int) ((k + 1 : Nat) : Int) := by
      simp only [la_lifetime_secret_fails_0, Int.toNat_natCast, List.drop_eq_getElem_cons hk, List.foldl_cons]
    rw [el]
    unfold secStep
    cases hg : (goneV x10[k]).2 <;> cases x5 <;> cases hi : ilt (goneV x10[k]).1 x4 <;> rfl
theorem lo_lifetime_secret_fails_0 : ∀ S l p, g_lifetime_secret_fails.L 0 (fgt fg_lifetime_secret_fails_0 S) = some (true, l) → pickA l = some p → loopF (roundF g_lifetime_secret_fails fg_lifetime_secret_fails_0 tb_lifetime_secret_fails_0) S = some p :=
  lok_of (s := sh_lifetime_secret_fails_0) ⟨by decide, by decide⟩ (by kernel_rfl) fun x y hok p hp => by
  simp only [pickA_br, pickA_one] at hp
  exact (l_lifetime_secret_fails_0 x.1 x.2.1 x.2.2.1 x.2.2.2.1 x.2.2.2.2.1 (by simpa using hok)).trans hp
theorem lk_lifetime_secret_fails : tc_lifetime_secret_fails.lok g_lifetime_secret_fails := by
  repeat (first | exact trivial | exact lo_lifetime_secret_fails_0 | refine ⟨?_, ?_⟩)
theorem s_lifetime_secret_fails (l : List LinkX) (h : lenOk5 l = true) : r_lifetime_secret_fails l = some (.tu [.t tI (secFails l).1, .t .bool (secFails l).2], []) := by
  simp only [lenOk5, decide_eq_true_eq] at h
  simp only [r_lifetime_secret_fails, rng_0 h, br_true, Int.toNat_zero, List.drop_zero]
  rfl
def sp_lifetime_secret_fails : Ent := spec (.pr (.sl tyLinkX) .nil) (fun x => (lenOk5 x.1)) (fun x => (.tu [(.t tI ((secFails x.1).1)), (.t .bool ((secFails x.1).2))]))
theorem ms_lifetime_secret_fails : Meets Try.prog 112 (strip sp_lifetime_secret_fails) := by
  obtain ⟨c, hc, hi⟩ := Option.map_eq_some_iff.1 ok_lifetime_secret_fails
  exact meets_spec (R := runF g_lifetime_secret_fails tc_lifetime_secret_fails rv_lifetime_secret_fails false) (meets_of (by decide) Try.func112 hc hi Try.ntmps112 rok_lifetime_secret_fails gk_lifetime_secret_fails lk_lifetime_secret_fails mixed) fun x hok => (e_lifetime_secret_fails x.1).trans (s_lifetime_secret_fails x.1 hok)
def scOpen (_ : List LinkX) : Bool := false
/-- (cipherplan/lifetime.secret).open -/
def tc_lifetime_secret_open : TC := (.sq (.reg [(.mk (some 2) none (.m (.pu (.mv (.c (.v (.bool false)))))))]) (.sq (.reg [(.mk (some 2) none (.m (.pu (.mv (.c (.v (.bool false)))))))]) .rt))
def rv_lifetime_secret_open : List (RV × Option Ty) := [((.t 2), some .bool)]
def g_lifetime_secret_open : G := ⟨TYs, [], 3, EL [], keeps, (fun _ _ => none), IL [], RL []⟩
def r_lifetime_secret_open (p0 : (List LinkX)) : Option (V × List VO) :=
  some (.t .bool false, [])
theorem e_lifetime_secret_open (p0 : (List LinkX)) : runF g_lifetime_secret_open tc_lifetime_secret_open rv_lifetime_secret_open false [.t (.sl tyLinkX) p0] [] = r_lifetime_secret_open p0 := by kernel_rfl
theorem ok_lifetime_secret_open : Option.map (trC Try.prog) Try.f113.body = some tc_lifetime_secret_open.er := by kernel_rfl
theorem rok_lifetime_secret_open : trVs Try.prog Try.f113.results.toList = some (rv_lifetime_secret_open.map Prod.fst) := by kernel_rfl
theorem gk_lifetime_secret_open : GOk Try.prog g_lifetime_secret_open := gok_of _ (fun p hp => by cases hp)
theorem lk_lifetime_secret_open : tc_lifetime_secret_open.lok g_lifetime_secret_open := by repeat (first | exact trivial | refine ⟨?_, ?_⟩)
theorem s_lifetime_secret_open (l : List LinkX) : r_lifetime_secret_open l = some (.t .bool (scOpen l), []) := rfl
def sp_lifetime_secret_open : Ent := spec (.pr (.sl tyLinkX) .nil) (fun x => true) (fun x => (.t .bool (scOpen x.1)))
theorem ms_lifetime_secret_open : Meets Try.prog 113 (strip sp_lifetime_secret_open) := by
  obtain ⟨c, hc, hi⟩ := Option.map_eq_some_iff.1 ok_lifetime_secret_open
  exact meets_spec (R := runF g_lifetime_secret_open tc_lifetime_secret_open rv_lifetime_secret_open false) (meets_of (by decide) Try.func113 hc hi Try.ntmps113 rok_lifetime_secret_open gk_lifetime_secret_open lk_lifetime_secret_open mixed) fun x _ => (e_lifetime_secret_open x.1).trans (s_lifetime_secret_open x.1)
/-- how many of the links behind one were made in time -/
def cntL (a : LinkX) : List LinkX → Nat
  | [] => 0
  | x :: r => if !a.2.2.1 || ilt x.1 a.2.1 then cntL x r + 1 else 0
def cntD : List LinkX → Nat
  | [] => 0
  | a :: r => cntL a r
def sgCount (l : List LinkX) : Int := 1 + (cntD l : Int)
def dr_lifetime_signed_count_0 : List DO := [(.mk (.mk (some 4) none (.m (.pu (.mv (.t 3))))) []), (.mk (.mk (some 5) none (.m (.pu (.mv (.t 0))))) []), (.mk (.mk (some 6) none (.m (.pu (.len false (.t 5))))) [1]), (.mk (.mk (some 7) none (.m (.pu (.bin false .lss (.t 4) (.t 6))))) [0, 2]), (.mk (.mk (some 8) none (.m (.pu (.mv (.t 7))))) [3]), (.mk (.mk (some 9) (some (8, true)) (.m (.pu (.mv (.t 0))))) [4]), (.mk (.mk (some 10) (some (8, true)) (.m (.pu (.mv (.t 3))))) [4]), (.mk (.mk (some 11) (some (8, true)) (.m (.pu (.bin false .sub (.t 10) (.c (.v (.int .i64 1))))))) [6, 4]), (.mk (.mk (some 12) (some (8, true)) (.m (.pu (.ix 3 (.t 9) (.t 11))))) [5, 7, 4]), (.mk (.mk (some 13) (some (8, true)) (.m (.pu (.fa 2 (.t 12))))) [8, 4]), (.mk (.mk (some 14) (some (8, true)) (.m (.ld false 1 (.t 13)))) [9, 4]), (.mk (.mk (some 15) (some (8, true)) (.m (.pu (.nt (.t 14))))) [10, 4]), (.mk (.mk (some 16) (some (8, true)) (.m (.pu (.mv (.t 15))))) [11, 4, 4]), (.mk (.mk (some 17) (some (16, false)) (.m (.pu (.mv (.t 0))))) [12]), (.mk (.mk (some 18) (some (16, false)) (.m (.pu (.mv (.t 3))))) [12]), (.mk (.mk (some 19) (some (16, false)) (.m (.pu (.ix 3 (.t 17) (.t 18))))) [13, 14, 12]), (.mk (.mk (some 20) (some (16, false)) (.m (.pu (.fa 0 (.t 19))))) [15, 12]), (.mk (.mk (some 21) (some (16, false)) (.m (.ld false 1 (.t 20)))) [16, 12]), (.mk (.mk (some 22) (some (16, false)) (.m (.pu (.mv (.t 0))))) [12]), (.mk (.mk (some 23) (some (16, false)) (.m (.pu (.mv (.t 3))))) [12]), (.mk (.mk (some 24) (some (16, false)) (.m (.pu (.bin false .sub (.t 23) (.c (.v (.int .i64 1))))))) [19, 12]), (.mk (.mk (some 25) (some (16, false)) (.m (.pu (.ix 3 (.t 22) (.t 24))))) [18, 20, 12]), (.mk (.mk (some 26) (some (16, false)) (.m (.pu (.fa 1 (.t 25))))) [21, 12]), (.mk (.mk (some 27) (some (16, false)) (.m (.ld false 1 (.t 26)))) [22, 12]), (.mk (.mk (some 28) (some (16, false)) (.m (.pu (.bin false .lss (.t 21) (.t 27))))) [17, 23, 12]), (.mk (.mk (some 29) (some (8, true)) (.m (.pu (.pick (.t 16) (.c (.v (.bool true))) (.t 28))))) [12, 24, 4]), (.mk (.mk (some 30) none (.m (.pu (.pick (.t 8) (.t 29) (.c (.v (.bool false))))))) [4, 25])]
def fg_lifetime_signed_count_0 : Fg := ⟨[(0, some (.sl tyLinkX)), (3, some tI)], []⟩
def tb_lifetime_signed_count_0 : TC := (.sq (.sq (.dr dr_lifetime_signed_count_0 [(0, []), (1, []), (2, []), (3, []), (4, []), (5, []), (6, []), (7, []), (8, []), (9, []), (10, []), (11, []), (12, []), (13, []), (14, []), (15, []), (16, []), (17, []), (18, []), (19, []), (20, []), (21, []), (22, []), (23, []), (24, []), (25, []), (26, [])] (.of [0, 1, 2, 3, 4, 5, 6, 7, 8, 9, 10, 11, 12, 13, 14, 15, 16, 17, 18, 19, 20, 21, 22, 23, 24, 25, 26])) (.cd (.t 30) .sk (.fg ⟨[(3, some tI)], []⟩ (.ex 0)))) (.bk 1 (.reg [(.mk (some 31) none (.m (.pu (.mv (.t 3))))), (.mk (some 32) none (.m (.pu (.bin false .add (.t 31) (.c (.v (.int .i64 1))))))), (.mk (some 3) none (.m (.pu (.mv (.t 32)))))])))
/-- (cipherplan/lifetime.signed).count -/
def tc_lifetime_signed_count : TC := (.sq (.reg [(.mk (some 2) none (.m (.pu (.mv (.c (.v (.int .i64 0)))))))]) (.sq (.reg [(.mk (some 3) none (.m (.pu (.mv (.c (.v (.int .i64 1)))))))]) (.sq (.bk 0 (.lp 0 fg_lifetime_signed_count_0 tb_lifetime_signed_count_0)) (.sq (.reg [(.mk (some 33) none (.m (.pu (.mv (.t 3))))), (.mk (some 2) none (.m (.pu (.mv (.t 33)))))]) .rt))))
def rv_lifetime_signed_count : List (RV × Option Ty) := [((.t 2), some tI)]
abbrev sh_lifetime_signed_count_0 : Sh := ⟨[(0, .ty (.sl tyLinkX)), (3, .ty tI)], []⟩
def st_lifetime_signed_count_0 (x0 : (List LinkX)) (x3 : Int) : VS := sh_lifetime_signed_count_0.st (x0, x3, ()) ()
abbrev sh_lifetime_signed_count_0_e0 : Sh := ⟨[(3, .ty tI)], []⟩
def st_lifetime_signed_count_0_e0 (x3 : Int) : VS := sh_lifetime_signed_count_0_e0.st (x3, ()) ()
-- loop 0: (x0 : (List LinkX)) (x3 : Int); out: ('exit', 0) (x3 : Int)
def L_lifetime_signed_count_0 : VS → Option (Bool × List (Bool × Exit × VS)) := mkL sh_lifetime_signed_count_0 (fun x y => (decide (1 ≤ x.2.1 ∧ x.2.1 ≤ x.1.length + 1 ∧ x.1.length ≤ 100000))) (fun x y => [(true, .exit 0, st_lifetime_signed_count_0_e0 (x.2.1 + (cntD (x.1.drop (x.2.1 - 1).toNat) : Int)))])
def g_lifetime_signed_count : G := ⟨TYs, [], 34, EL [], keeps, (Ls [L_lifetime_signed_count_0]), IL [], RL []⟩
def b_lifetime_signed_count_0 (x0 : (List LinkX)) (x3 : Int) : Option (Exit × VS) :=
  br ((ilt x3 (llen x0)))
    (br (cIx x0 (isub .i64 x3 1))
      (br ((!((((lgt tyLinkX x0 (Int.toNat (isub .i64 x3 1))).2).2).1)))
        (some (.normal, st_lifetime_signed_count_0 x0 (iadd .i64 x3 1)))
        (br (cIx x0 x3)
          (br (cIx x0 (isub .i64 x3 1))
            (br ((ilt ((lgt tyLinkX x0 (Int.toNat x3)).1) (((lgt tyLinkX x0 (Int.toNat (isub .i64 x3 1))).2).1)))
              (some (.normal, st_lifetime_signed_count_0 x0 (iadd .i64 x3 1)))
              (some (.exit 0, st_lifetime_signed_count_0_e0 x3)))
            (none))
          (none)))
      (none))
    (some (.exit 0, st_lifetime_signed_count_0_e0 x3))
noncomputable def lp_lifetime_signed_count_0 (x0 : (List LinkX)) (x3 : Int) : Option (Exit × VS) := loopF (roundF g_lifetime_signed_count fg_lifetime_signed_count_0 tb_lifetime_signed_count_0) (st_lifetime_signed_count_0 x0 x3)
noncomputable def n_lifetime_signed_count_0 (x0 : (List LinkX)) (x3 : Int) : Option (Exit × VS) :=
  br ((ilt x3 (llen x0)))
    (br (cIx x0 (isub .i64 x3 1))
      (br ((!((((lgt tyLinkX x0 (Int.toNat (isub .i64 x3 1))).2).2).1)))
        (lp_lifetime_signed_count_0 x0 (iadd .i64 x3 1))
        (br (cIx x0 x3)
          (br (cIx x0 (isub .i64 x3 1))
            (br ((ilt ((lgt tyLinkX x0 (Int.toNat x3)).1) (((lgt tyLinkX x0 (Int.toNat (isub .i64 x3 1))).2).1)))
              (lp_lifetime_signed_count_0 x0 (iadd .i64 x3 1))
              (some (.exit 0, st_lifetime_signed_count_0_e0 x3)))
            (none))
          (none)))
      (none))
    (some (.exit 0, st_lifetime_signed_count_0_e0 x3))
def la_lifetime_signed_count_0 (x0 : (List LinkX)) (x3 : Int) : Option (Exit × VS) := some (.exit 0, st_lifetime_signed_count_0_e0 (x3 + (cntD (x0.drop (x3 - 1).toNat) : Int)))
theorem be_lifetime_signed_count_0 (x0 : (List LinkX)) (x3 : Int) : roundF g_lifetime_signed_count fg_lifetime_signed_count_0 tb_lifetime_signed_count_0 (st_lifetime_signed_count_0 x0 x3) = b_lifetime_signed_count_0 x0 x3 := by kernel_rfl
theorem ln_lifetime_signed_count_0 (x0 : (List LinkX)) (x3 : Int) : lp_lifetime_signed_count_0 x0 x3 = n_lifetime_signed_count_0 x0 x3 := (loopF_nxt _ _).trans (by
  rw [be_lifetime_signed_count_0]
  simp only [b_lifetime_signed_count_0, n_lifetime_signed_count_0, nxt_br, nxt_n, nxt_r, nxt_e, nxt_0]
  rfl)
def r_lifetime_signed_count (p0 : (List LinkX)) : Option (V × List VO) :=
  br ((decide (1 ≤ (1 : Int) ∧ (1 : Int) ≤ p0.length + 1 ∧ p0.length ≤ 100000)))
    (some (.t tI ((1 : Int) + (cntD (p0.drop ((1 : Int) - 1).toNat) : Int)), []))
    (none)
theorem e_lifetime_signed_count (p0 : (List LinkX)) : runF g_lifetime_signed_count tc_lifetime_signed_count rv_lifetime_signed_count false [.t (.sl tyLinkX) p0] [] = r_lifetime_signed_count p0 := by kernel_rfl
theorem ok_lifetime_signed_count : Option.map (trC Try.prog) Try.f114.body = some tc_lifetime_signed_count.er := by kernel_rfl
theorem rok_lifetime_signed_count : trVs Try.prog Try.f114.results.toList = some (rv_lifetime_signed_count.map Prod.fst) := by kernel_rfl
theorem en_lifetime_signed_count : Entered Try.prog 114 := .inr ⟨by decide, _, Try.func114, by kernel_rfl, by kernel_rfl⟩
theorem gk_lifetime_signed_count : GOk Try.prog g_lifetime_signed_count := gok_of _ (fun p hp => by cases hp)
theorem l_lifetime_signed_count_0 (x0 : (List LinkX)) (x3 : Int) (h : (decide (1 ≤ x3 ∧ x3 ≤ x0.length + 1 ∧ x0.length ≤ 100000)) = true) : lp_lifetime_signed_count_0 x0 x3 = la_lifetime_signed_count_0 x0 x3 := by
  simp only [decide_eq_true_eq] at h
  obtain ⟨h1, h2, h3⟩ := h
  obtain ⟨k, hk⟩ : ∃ k : Nat, x3 = (k : Int) + 1 := ⟨(x3 - 1).toNat, by omega⟩
  subst hk
  refine up_ind x0.length (fun k => lp_lifetime_signed_count_0 x0 ((k : Int) + 1) = la_lifetime_signed_count_0 x0 ((k : Int) + 1)) ?_ ?_ k (by omega)
  · rw [ln_lifetime_signed_count_0]
    have e1 : ilt ((x0.length : Int) + 1) (llen x0) = false := by simp only [ilt, llen, decide_eq_false_iff_not]; omega
    have e2 : ((x0.length : Int) + 1 - 1).toNat = x0.length := by omega
    simp [n_lifetime_signed_count_0, la_lifetime_signed_count_0, e1, br_false, cntD]
  · intro k hk ih
    rw [ln_lifetime_signed_count_0]
    have e2 : ((k : Int) + 1 - 1).toNat = k := by omega
    have e3 : isub .i64 ((k : Int) + 1) 1 = (k : Int) := by rw [isub_in (by omega)]; omega
    have e4 : iadd .i64 ((k : Int) + 1) 1 = ((k + 1 : Nat) : Int) + 1 := by rw [iadd_in (by omega)]; omega
    have e5 : ((((k + 1 : Nat) : Int)) + 1 - 1).toNat = k + 1 := by omega
    have e6 : (k : Int) + 1 = ((k + 1 : Nat) : Int) := by omega
    by_cases hk2 : k + 1 < x0.length
    · have e1 : ilt ((k : Int) + 1) (llen x0) = true := by simp only [ilt, llen, decide_eq_true_eq]; omega
      simp only [n_lifetime_signed_count_0, e1, e3, e4, br_true, cIx_nat, hk, decide_true, Int.toNat_natCast, lgt_get (y := tyLinkX) hk, ih]
      rw [e6]
      simp only [cIx_nat, hk2, decide_true, br_true, Int.toNat_natCast, lgt_get (y := tyLinkX) hk2]
      have el : la_lifetime_signed_count_0 x0 ((k + 1 : Nat) : Int) = if !x0[k].2.2.1 || ilt x0[k + 1].1 x0[k].2.1 then la_lifetime_signed_count_0 x0 (((k + 1 : Nat) : Int) + 1) else some (.exit 0, st_lifetime_signed_count_0_e0 ((k + 1 : Nat) : Int)) := by
        have e7 : (((k + 1 : Nat) : Int) - 1).toNat = k := by omega
        simp only [la_lifetime_signed_count_0, e5, e7, List.drop_eq_getElem_cons hk, List.drop_eq_getElem_cons hk2, cntD, cntL]
        split
        · congr 3
          omega
        · simp
      rw [el]
      cases x0[k].2.2.1 <;> cases ilt x0[k + 1].1 x0[k].2.1 <;> rfl
    · have e1 : ilt ((k : Int) + 1) (llen x0) = false := by simp only [ilt, llen, decide_eq_false_iff_not]; omega
      have e7 : x0.drop (k + 1) = [] := List.drop_eq_nil_of_le (by omega)
      simp only [n_lifetime_signed_count_0, e1, br_false, la_lifetime_signed_count_0, e2, List.drop_eq_getElem_cons hk, e7, cntD, cntL]
      simp
theorem lo_lifetime_signed_count_0 : ∀ S l p, g_lifetime_signed_count.L 0 (fgt fg_lifetime_signed_count_0 S) = some (true, l) → pickA l = some p → loopF (roundF g_lifetime_signed_count fg_lifetime_signed_count_0 tb_lifetime_signed_count_0) S = some p :=
  lok_of (s := sh_lifetime_signed_count_0) ⟨by decide, by decide⟩ (by kernel_rfl) fun x y hok p hp => by
  simp only [pickA_br, pickA_one] at hp
  exact (l_lifetime_signed_count_0 x.1 x.2.1 (by simpa using hok)).trans hp
theorem lk_lifetime_signed_count : tc_lifetime_signed_count.lok g_lifetime_signed_count := by
  repeat (first | exact trivial | exact lo_lifetime_signed_count_0 | refine ⟨?_, ?_⟩)
theorem s_lifetime_signed_count (l : List LinkX) (h : lenOk5 l = true) : r_lifetime_signed_count l = some (.t tI (sgCount l), []) := by
  simp only [lenOk5, decide_eq_true_eq] at h
  simp only [r_lifetime_signed_count]
  rw [dec_true ⟨Int.le_refl 1, by omega, h⟩, br_true]
  rfl
def sp_lifetime_signed_count : Ent := spec (.pr (.sl tyLinkX) .nil) (fun x => (lenOk5 x.1)) (fun x => (.t tI (sgCount x.1)))
theorem ms_lifetime_signed_count : Meets Try.prog 114 (strip sp_lifetime_signed_count) := by
  obtain ⟨c, hc, hi⟩ := Option.map_eq_some_iff.1 ok_lifetime_signed_count
  exact meets_spec (R := runF g_lifetime_signed_count tc_lifetime_signed_count rv_lifetime_signed_count false) (meets_of (by decide) Try.func114 hc hi Try.ntmps114 rok_lifetime_signed_count gk_lifetime_signed_count lk_lifetime_signed_count mixed) fun x hok => (e_lifetime_signed_count x.1).trans (s_lifetime_signed_count x.1 hok)
theorem cntL_le (a : LinkX) : ∀ l : List LinkX, cntL a l ≤ l.length
  | [] => by simp [cntL]
  | x :: r => by
    have := cntL_le x r
    unfold cntL
    split <;> simp <;> omega
theorem sgCount_le {l : List LinkX} (h : l ≠ []) : 1 ≤ sgCount l ∧ sgCount l ≤ l.length := by
  cases l with
  | nil => exact absurd rfl h
  | cons a l =>
    have := cntL_le a l
    simp only [sgCount, cntD, List.length_cons]
    omega
def sgLast (l : List LinkX) : LinkX := l.getD (sgCount l - 1).toNat tyLinkX.zero
def sgFails (l : List LinkX) : Int × Bool := if (goneV (sgLast l)).2 then ((goneV (sgLast l)).1, true) else (0, false)
def sgOk (l : List LinkX) : Bool := lenOk5 l && !l.isEmpty
/-- (cipherplan/lifetime.signed).fails -/
def tc_lifetime_signed_fails : TC := (.sq (.reg [(.mk (some 2) none (.m (.pu (.mv (.c (.v (.int .i64 0))))))), (.mk (some 3) none (.m (.pu (.mv (.c (.v (.bool false)))))))]) (.sq (.reg [(.mk (some 7) none (.m (.pu (.mv (.t 0))))), (.mk (some 8) none (.m (.pu (.mv (.t 0))))), (.mk (some 9) none (.call 114 [(.t 8)])), (.mk (some 10) none (.m (.pu (.bin false .sub (.t 9) (.c (.v (.int .i64 1))))))), (.mk (some 11) none (.m (.pu (.ix 3 (.t 7) (.t 10))))), (.mk (some 12) none (.m (.ld true 3 (.t 11)))), (.mk (some 13) none (.call 110 [(.t 12)])), (.mk (some 6) none (.m (.pu (.mv (.t 13))))), (.mk (some 14) none (.m (.pu (.ext 0 (.t 6))))), (.mk (some 15) none (.m (.pu (.ext 1 (.t 6))))), (.mk (some 4) none (.m (.pu (.mv (.t 14))))), (.mk (some 5) none (.m (.pu (.mv (.t 15)))))]) (.sq (.sq (.reg [(.mk (some 16) none (.m (.pu (.mv (.t 5))))), (.mk (some 17) none (.m (.pu (.nt (.t 16)))))]) (.cd (.t 17) (.sq (.reg [(.mk (some 2) none (.m (.pu (.mv (.c (.v (.int .i64 0))))))), (.mk (some 3) none (.m (.pu (.mv (.c (.v (.bool false)))))))]) .rt) .sk)) (.sq (.reg [(.mk (some 18) none (.m (.pu (.mv (.t 4))))), (.mk (some 2) none (.m (.pu (.mv (.t 18))))), (.mk (some 3) none (.m (.pu (.mv (.c (.v (.bool true)))))))]) .rt))))
def rv_lifetime_signed_fails : List (RV × Option Ty) := [((.t 2), some tI), ((.t 3), some .bool)]
def g_lifetime_signed_fails : G := ⟨TYs, [], 19, EL [(110, sp_lifetime_link_gone), (114, sp_lifetime_signed_count)], keeps, (fun _ _ => none), IL [], RL []⟩
def r_lifetime_signed_fails (p0 : (List LinkX)) : Option (V × List VO) :=
  br ((lenOk5 p0))
    (br (cIx p0 (isub .i64 (sgCount p0) 1))
      (br ((!((goneV (lgt tyLinkX p0 (Int.toNat (isub .i64 (sgCount p0) 1)))).2)))
        (some (.tu [(.t tI 0), (.t .bool false)], []))
        (some (.tu [(.t tI ((goneV (lgt tyLinkX p0 (Int.toNat (isub .i64 (sgCount p0) 1)))).1)), (.t .bool true)], [])))
      (none))
    (none)
theorem e_lifetime_signed_fails (p0 : (List LinkX)) : runF g_lifetime_signed_fails tc_lifetime_signed_fails rv_lifetime_signed_fails false [.t (.sl tyLinkX) p0] [] = r_lifetime_signed_fails p0 := by kernel_rfl
theorem ok_lifetime_signed_fails : Option.map (trC Try.prog) Try.f115.body = some tc_lifetime_signed_fails.er := by kernel_rfl
theorem rok_lifetime_signed_fails : trVs Try.prog Try.f115.results.toList = some (rv_lifetime_signed_fails.map Prod.fst) := by kernel_rfl
theorem gk_lifetime_signed_fails : GOk Try.prog g_lifetime_signed_fails := gok_of _ (by
  intro p hp
  simp only [List.mem_cons, List.not_mem_nil, or_false] at hp
  rcases hp with rfl | rfl
  · exact ⟨en_lifetime_link_gone, ms_lifetime_link_gone⟩
  · exact ⟨en_lifetime_signed_count, ms_lifetime_signed_count⟩)
theorem lk_lifetime_signed_fails : tc_lifetime_signed_fails.lok g_lifetime_signed_fails := by repeat (first | exact trivial | refine ⟨?_, ?_⟩)
theorem s_lifetime_signed_fails (l : List LinkX) (h : sgOk l = true) : r_lifetime_signed_fails l = some (.tu [.t tI (sgFails l).1, .t .bool (sgFails l).2], []) := by
  simp only [sgOk, Bool.and_eq_true] at h
  have hn : l ≠ [] := by
    intro e
    rw [e] at h
    simp at h
  have hc := sgCount_le hn
  have hl := h.1
  simp only [lenOk5, decide_eq_true_eq] at hl
  have e1 : isub .i64 (sgCount l) 1 = sgCount l - 1 := isub_in (by omega)
  have e2 : cIx l (sgCount l - 1) = true := by simp only [cIx, decide_eq_true_eq]; omega
  simp only [r_lifetime_signed_fails, h.1, e1, e2, br_true, lgt]
  show br (!(goneV (sgLast l)).2) (some (V.tu [.t tI 0, .t .bool false], [])) (some (V.tu [.t tI (goneV (sgLast l)).1, .t .bool true], [])) = _
  unfold sgFails
  by_cases hg : (goneV (sgLast l)).2 = true
  · rw [if_pos hg, hg]
    rfl
  · rw [if_neg hg, show (goneV (sgLast l)).2 = false by simpa using hg]
    rfl
def sp_lifetime_signed_fails : Ent := spec (.pr (.sl tyLinkX) .nil) (fun x => (sgOk x.1)) (fun x => (.tu [(.t tI ((sgFails x.1).1)), (.t .bool ((sgFails x.1).2))]))
theorem ms_lifetime_signed_fails : Meets Try.prog 115 (strip sp_lifetime_signed_fails) := by
  obtain ⟨c, hc, hi⟩ := Option.map_eq_some_iff.1 ok_lifetime_signed_fails
  exact meets_spec (R := runF g_lifetime_signed_fails tc_lifetime_signed_fails rv_lifetime_signed_fails false) (meets_of (by decide) Try.func115 hc hi Try.ntmps115 rok_lifetime_signed_fails gk_lifetime_signed_fails lk_lifetime_signed_fails mixed) fun x hok => (e_lifetime_signed_fails x.1).trans (s_lifetime_signed_fails x.1 hok)
def sgOpen (l : List LinkX) : Bool := ieq (sgCount l) (llen l)
/-- (cipherplan/lifetime.signed).open -/
def tc_lifetime_signed_open : TC := (.sq (.reg [(.mk (some 2) none (.m (.pu (.mv (.c (.v (.bool false)))))))]) (.sq (.reg [(.mk (some 3) none (.m (.pu (.mv (.t 0))))), (.mk (some 4) none (.call 114 [(.t 3)])), (.mk (some 5) none (.m (.pu (.mv (.t 0))))), (.mk (some 6) none (.m (.pu (.len false (.t 5))))), (.mk (some 7) none (.m (.pu (.bin false .eql (.t 4) (.t 6))))), (.mk (some 2) none (.m (.pu (.mv (.t 7)))))]) .rt))
def rv_lifetime_signed_open : List (RV × Option Ty) := [((.t 2), some .bool)]
def g_lifetime_signed_open : G := ⟨TYs, [], 8, EL [(114, sp_lifetime_signed_count)], keeps, (fun _ _ => none), IL [], RL []⟩
def r_lifetime_signed_open (p0 : (List LinkX)) : Option (V × List VO) :=
  br ((lenOk5 p0))
    (some (.t .bool (ieq (sgCount p0) (llen p0)), []))
    (none)
theorem e_lifetime_signed_open (p0 : (List LinkX)) : runF g_lifetime_signed_open tc_lifetime_signed_open rv_lifetime_signed_open false [.t (.sl tyLinkX) p0] [] = r_lifetime_signed_open p0 := by kernel_rfl
theorem ok_lifetime_signed_open : Option.map (trC Try.prog) Try.f116.body = some tc_lifetime_signed_open.er := by kernel_rfl
theorem rok_lifetime_signed_open : trVs Try.prog Try.f116.results.toList = some (rv_lifetime_signed_open.map Prod.fst) := by kernel_rfl
theorem gk_lifetime_signed_open : GOk Try.prog g_lifetime_signed_open := gok_of _ (by
  intro p hp
  simp only [List.mem_cons, List.not_mem_nil, or_false] at hp
  rcases hp with rfl
  · exact ⟨en_lifetime_signed_count, ms_lifetime_signed_count⟩)
theorem lk_lifetime_signed_open : tc_lifetime_signed_open.lok g_lifetime_signed_open := by repeat (first | exact trivial | refine ⟨?_, ?_⟩)
theorem s_lifetime_signed_open (l : List LinkX) (h : lenOk5 l = true) : r_lifetime_signed_open l = some (.t .bool (sgOpen l), []) := by
  simp only [r_lifetime_signed_open, h, br_true, sgOpen]
def sp_lifetime_signed_open : Ent := spec (.pr (.sl tyLinkX) .nil) (fun x => (lenOk5 x.1)) (fun x => (.t .bool (sgOpen x.1)))
theorem ms_lifetime_signed_open : Meets Try.prog 116 (strip sp_lifetime_signed_open) := by
  obtain ⟨c, hc, hi⟩ := Option.map_eq_some_iff.1 ok_lifetime_signed_open
  exact meets_spec (R := runF g_lifetime_signed_open tc_lifetime_signed_open rv_lifetime_signed_open false) (meets_of (by decide) Try.func116 hc hi Try.ntmps116 rok_lifetime_signed_open gk_lifetime_signed_open lk_lifetime_signed_open mixed) fun x hok => (e_lifetime_signed_open x.1).trans (s_lifetime_signed_open x.1 hok)
def sp_op_iface_85 : Ent := spI 85
theorem en_op_iface_85 : Entered Try.prog 1001363 := .inl (by kernel_rfl)
theorem ms_op_iface_85 : Meets Try.prog 1001363 (strip sp_op_iface_85) := meets_iface (t := 85) (e := 84) (by kernel_rfl) (by decide)
def sp_op_iface_86 : Ent := spI 86
theorem en_op_iface_86 : Entered Try.prog 1001379 := .inl (by kernel_rfl)
theorem ms_op_iface_86 : Meets Try.prog 1001379 (strip sp_op_iface_86) := meets_iface (t := 86) (e := 84) (by kernel_rfl) (by decide)
def sp_op_method_0_85 : Ent := spM 85 sp_lifetime_secret_count
theorem en_op_method_0_85 : Entered Try.prog 1000015 := .inl (by kernel_rfl)
theorem ms_op_method_0_85 : Meets Try.prog 1000015 (strip sp_op_method_0_85) := meets_method (t := 85) (i := 0) (fn := 111) (name := mNames.getD 0 "") (by kernel_rfl) (fun v w => by kernel_rfl) ⟨_, Try.func111, by kernel_rfl, by kernel_rfl⟩ (by decide) ms_lifetime_secret_count
def sp_op_method_1_85 : Ent := spM 85 sp_lifetime_secret_fails
theorem en_op_method_1_85 : Entered Try.prog 1000031 := .inl (by kernel_rfl)
theorem ms_op_method_1_85 : Meets Try.prog 1000031 (strip sp_op_method_1_85) := meets_method (t := 85) (i := 1) (fn := 112) (name := mNames.getD 1 "") (by kernel_rfl) (fun v w => by kernel_rfl) ⟨_, Try.func112, by kernel_rfl, by kernel_rfl⟩ (by decide) ms_lifetime_secret_fails
def sp_op_method_2_85 : Ent := spM 85 sp_lifetime_secret_open
theorem en_op_method_2_85 : Entered Try.prog 1000047 := .inl (by kernel_rfl)
theorem ms_op_method_2_85 : Meets Try.prog 1000047 (strip sp_op_method_2_85) := meets_method (t := 85) (i := 2) (fn := 113) (name := mNames.getD 2 "") (by kernel_rfl) (fun v w => by kernel_rfl) ⟨_, Try.func113, by kernel_rfl, by kernel_rfl⟩ (by decide) ms_lifetime_secret_open
def sp_op_method_0_86 : Ent := spM 86 sp_lifetime_signed_count
theorem en_op_method_0_86 : Entered Try.prog 1000015 := .inl (by kernel_rfl)
theorem ms_op_method_0_86 : Meets Try.prog 1000015 (strip sp_op_method_0_86) := meets_method (t := 86) (i := 0) (fn := 114) (name := mNames.getD 0 "") (by kernel_rfl) (fun v w => by kernel_rfl) ⟨_, Try.func114, by kernel_rfl, by kernel_rfl⟩ (by decide) ms_lifetime_signed_count
def sp_op_method_1_86 : Ent := spM 86 sp_lifetime_signed_fails
theorem en_op_method_1_86 : Entered Try.prog 1000031 := .inl (by kernel_rfl)
theorem ms_op_method_1_86 : Meets Try.prog 1000031 (strip sp_op_method_1_86) := meets_method (t := 86) (i := 1) (fn := 115) (name := mNames.getD 1 "") (by kernel_rfl) (fun v w => by kernel_rfl) ⟨_, Try.func115, by kernel_rfl, by kernel_rfl⟩ (by decide) ms_lifetime_signed_fails
def sp_op_method_2_86 : Ent := spM 86 sp_lifetime_signed_open
theorem en_op_method_2_86 : Entered Try.prog 1000047 := .inl (by kernel_rfl)
theorem ms_op_method_2_86 : Meets Try.prog 1000047 (strip sp_op_method_2_86) := meets_method (t := 86) (i := 2) (fn := 116) (name := mNames.getD 2 "") (by kernel_rfl) (fun v w => by kernel_rfl) ⟨_, Try.func116, by kernel_rfl, by kernel_rfl⟩ (by decide) ms_lifetime_signed_open
end Go.Proofs.Ytfehjdaielifiaa.K
