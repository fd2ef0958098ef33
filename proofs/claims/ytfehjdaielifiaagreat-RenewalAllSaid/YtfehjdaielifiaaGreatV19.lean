/-
 lifetime: names, links, what an item is.
-/
import Derived.Test.YtfehjdaielifiaaGreatV8
import Derived.Test.YtfehjdaielifiaaGreatKD
set_option linter.unusedSimpArgs false
set_option linter.unusedVariables false
namespace Go.Proofs.YtfehjdaielifiaaGreat.K
open Go.RowKit
def charB (c : Int) : Bool := decide (32 < c ∧ c ≤ 126)
def namedF (s : ByteArray) : Bool := (bytesL s).all charB && decide (1 ≤ s.size ∧ s.size ≤ 32)
def nameOk (s : ByteArray) : Bool := decide (s.size ≤ 9223372036854775807)
def rngW {α : Type} (l : List α) (n i : Int) : Bool := decide (n = l.length ∧ 0 ≤ i ∧ i ≤ n ∧ l.length ≤ 9223372036854775807)
theorem rngW_k {α : Type} {l : List α} {n i : Int} (h : rngW l n i = true) : n = l.length ∧ l.length ≤ 9223372036854775807 ∧ ∃ k : Nat, i = k ∧ k ≤ l.length := by
 simp only [rngW, decide_eq_true_eq] at h
 obtain ⟨h1, h2, h3, h4⟩ := h
 exact ⟨h1, h4, i.toNat, by omega, by omega⟩
theorem rngW_0 {α : Type} {l : List α} (h : l.length ≤ 9223372036854775807) : rngW l (llen l) 0 = true := by
 simp only [rngW, decide_eq_true_eq, llen]
 exact ⟨trivial, by omega, by omega, h⟩
theorem bytesL_len (s : ByteArray) : (bytesL s).length = s.size := by simp [bytesL]
def fg_f55_0 : Fg := ⟨[(0, some .str), (6, some (.sl (.int .u8))), (7, some tI), (8, some tI)], []⟩
def tb_f55_0 : TC := (.sq (.reg [(oP 9 (.bin false .lss (.t 8) (.t 7)))]) (.sq (.cd (.t 9) .sk (.fg ⟨[(0, some .str)], []⟩ (.ex 0))) (.sq (.bk 1 (.sq (.reg [(oP 10 (.ix 1 (.t 6) (.t 8))), (oL 11 10), (oV 4 11)]) (.sq (.reg [(oV 12 4), (oP 13 (.bin false .leq (.t 12) (.c (.v (.int .u8 32))))), (oV 14 13), (oQ 15 14 false (.mv (.t 4))), (oQ 16 14 false (.bin false .gtr (.t 15) (.c (.v (.int .u8 126))))), (oP 17 (.pick (.t 14) (cB true) (.t 16)))]) (.cd (.t 17) (.sq (.reg [(oP 2 (.mv (cB false)))]) (.fg ⟨[(2, some .bool)], []⟩ .rt)) .sk)))) (.reg [(oP 18 (.bin false .add (.t 8) (cI 1))), (oV 8 18)]))))
def tc_f55 : TC := (.sq (.reg [(oP 2 (.mv (cB false)))]) (.sq (.sq (.reg [(oV 5 0), (oC 6 19880144 [(.t 5)]), (oP 7 (.len false (.t 6))), (oP 8 (.mv (cI 0)))]) (.bk 0 (.lp 0 fg_f55_0 tb_f55_0))) (.sq (.reg [(oV 19 0), (oP 20 (.len true (.t 19))), (oP 21 (.bin false .geq (.t 20) (cI 1))), (oV 22 21), (oQ 23 22 true (.mv (.t 0))), (oQ 24 22 true (.len true (.t 23))), (oQ 25 22 true (.bin false .leq (.t 24) (cI 32))), (oP 26 (.pick (.t 22) (.t 25) (cB false))), (oV 2 26)]) .rt)))
def rv_f55 : List (RV × Option Ty) := [((.t 2), some .bool)]
abbrev sh_f55_0 : Sh := ⟨[(0, .ty .str), (6, .ty (.sl (.int .u8))), (7, .ty tI), (8, .ty tI)], []⟩
def st_f55_0 (x0 : ByteArray) (x6 : (List Int)) (x7 : Int) (x8 : Int) : VS := sh_f55_0.st (x0, x6, x7, x8, ()) ()
abbrev sh_f55_0_ret : Sh := ⟨[(2, .ty .bool)], []⟩
def st_f55_0_ret (x2 : Bool) : VS := sh_f55_0_ret.st (x2, ()) ()
abbrev sh_f55_0_e0 : Sh := ⟨[(0, .ty .str)], []⟩
def st_f55_0_e0 (x0 : ByteArray) : VS := sh_f55_0_e0.st (x0, ()) ()
-- loop 0: (x0 : ByteArray) (x6 : (List Int)) (x7 : Int) (x8 : Int); out: ('ret',) (x2 : Bool); ('exit', 0) (x0 : ByteArray)
def L_f55_0 : VS → Option (Bool × List (Bool × Exit × VS)) := mkL sh_f55_0 (fun x y => (rngW x.2.1 x.2.2.1 x.2.2.2.1)) (fun x y => [((!((x.2.1.drop x.2.2.2.1.toNat).all charB)), .ret, st_f55_0_ret (false)), (true, .exit 0, st_f55_0_e0 (x.1))])
def g_f55 : G := ⟨TYs, [], 27, EL [(19880144, sp_op_convert_9_118)], keeps, (Ls [L_f55_0]), IL [], RL []⟩
def b_f55_0 (x0 : ByteArray) (x6 : (List Int)) (x7 : Int) (x8 : Int) : Option (Exit × VS) :=
 br ((ilt x8 x7))
  (br (cIx x6 x8)
   (br ((ile (lgt (.int .u8) x6 (Int.toNat x8)) 32))
    (some (.ret, st_f55_0_ret false))
    (br ((igt (lgt (.int .u8) x6 (Int.toNat x8)) 126))
     (some (.ret, st_f55_0_ret false))
     (some (.normal, st_f55_0 x0 x6 x7 (iadd .i64 x8 1)))))
   (none))
  (some (.exit 0, st_f55_0_e0 x0))
noncomputable def lp_f55_0 (x0 : ByteArray) (x6 : (List Int)) (x7 : Int) (x8 : Int) : Option (Exit × VS) := loopF (roundF g_f55 fg_f55_0 tb_f55_0) (st_f55_0 x0 x6 x7 x8)
noncomputable def n_f55_0 (x0 : ByteArray) (x6 : (List Int)) (x7 : Int) (x8 : Int) : Option (Exit × VS) :=
 br ((ilt x8 x7))
  (br (cIx x6 x8)
   (br ((ile (lgt (.int .u8) x6 (Int.toNat x8)) 32))
    (some (.ret, st_f55_0_ret false))
    (br ((igt (lgt (.int .u8) x6 (Int.toNat x8)) 126))
     (some (.ret, st_f55_0_ret false))
     (lp_f55_0 x0 x6 x7 (iadd .i64 x8 1))))
   (none))
  (some (.exit 0, st_f55_0_e0 x0))
def la_f55_0 (x0 : ByteArray) (x6 : (List Int)) (x7 : Int) (x8 : Int) : Option (Exit × VS) := br (!((x6.drop x8.toNat).all charB)) (some (.ret, st_f55_0_ret (false))) <| some (.exit 0, st_f55_0_e0 (x0))
theorem be_f55_0 (x0 : ByteArray) (x6 : (List Int)) (x7 : Int) (x8 : Int) : roundF g_f55 fg_f55_0 tb_f55_0 (st_f55_0 x0 x6 x7 x8) = b_f55_0 x0 x6 x7 x8 := by kernel_rfl
theorem ln_f55_0 (x0 : ByteArray) (x6 : (List Int)) (x7 : Int) (x8 : Int) : lp_f55_0 x0 x6 x7 x8 = n_f55_0 x0 x6 x7 x8 := (loopF_nxt _ _).trans (by
 rw [be_f55_0]
 simp only [b_f55_0, n_f55_0, nxt_br, nxt_n, nxt_r, nxt_e, nxt_0]
 rfl)
def r_f55 (p0 : ByteArray) : Option (V × List VO) :=
 br ((bytesOk p0))
  (br ((rngW (bytesL p0) (llen (bytesL p0)) (0 : Int)))
   (br ((!(((bytesL p0).drop (0 : Int).toNat).all charB)))
    (some (.t .bool (false), []))
    (br ((ige (slen (p0)) 1))
     (some (.t .bool (ile (slen (p0)) 32), []))
     (some (.t .bool false, []))))
   (none))
  (none)
theorem e_f55 (p0 : ByteArray) : runF g_f55 tc_f55 rv_f55 false [.t .str p0] [] = r_f55 p0 := by kernel_rfl
theorem ok_f55 : Option.map (trC Tryz.prog) Tryz.f55.body = some tc_f55.er := by kernel_rfl
theorem rok_f55 : trVs Tryz.prog Tryz.f55.results.toList = some (rv_f55.map Prod.fst) := by kernel_rfl
theorem en_f55 : Entered Tryz.prog 55 := .inr ⟨by decide, _, Tryz.func55, by kernel_rfl, by kernel_rfl⟩
theorem gk_f55 : GOk Tryz.prog g_f55 := gok_of _ (by
 intro p hp
 simp only [List.mem_cons, List.not_mem_nil, or_false] at hp
 rcases hp with rfl
 ·exact ⟨en_op_convert_9_118, ms_op_convert_9_118⟩)
theorem l_f55_0 (x0 : ByteArray) (x6 : (List Int)) (x7 : Int) (x8 : Int) (h : (rngW x6 x7 x8) = true) : lp_f55_0 x0 x6 x7 x8 = la_f55_0 x0 x6 x7 x8 := by
 obtain ⟨rfl, h3, k, rfl, hk⟩ := rngW_k h
 clear h
 refine range_ind x6 (fun k => lp_f55_0 x0 x6 (x6.length : Int) (k : Int) = la_f55_0 x0 x6 (x6.length : Int) (k : Int)) ?_ ?_ k hk
 ·rw [ln_f55_0]
  simp [n_f55_0, la_f55_0, ilt_nat, br_false]
 ·intro k hk ih
  rw [ln_f55_0]
  simp only [n_f55_0, ilt_nat, cIx_nat, hk, decide_true, br_true, Int.toNat_natCast, show iadd .i64 (k : Int) 1 = ((k + 1 : Nat) : Int) from by rw [iadd_in (by omega)]; omega, lgt_get (y := .int .u8) hk, ih]
  simp only [la_f55_0, Int.toNat_natCast, List.drop_eq_getElem_cons hk, List.all_cons, charB]
  by_cases c1 : x6[k] ≤ 32
  ·rw [show ile x6[k] 32 = true from decide_eq_true c1, br_true, decide_eq_false (show ¬ (32 < x6[k] ∧ x6[k] ≤ 126) by omega)]
   rfl
  ·rw [show ile x6[k] 32 = false from decide_eq_false c1, br_false]
   by_cases c2 : 126 < x6[k]
   ·rw [show igt x6[k] 126 = true from decide_eq_true (by omega), br_true, decide_eq_false (show ¬ (32 < x6[k] ∧ x6[k] ≤ 126) by omega)]
    rfl
   ·rw [show igt x6[k] 126 = false from decide_eq_false (by omega), br_false, decide_eq_true (show 32 < x6[k] ∧ x6[k] ≤ 126 by omega), Bool.true_and]
theorem lo_f55_0 : ∀ S l p, g_f55.L 0 (fgt fg_f55_0 S) = some (true, l) → pickA l = some p → loopF (roundF g_f55 fg_f55_0 tb_f55_0) S = some p :=
 lok_of (s := sh_f55_0) ⟨by decide, by decide⟩ (by kernel_rfl) fun x y hok p hp => by
 simp only [pickA_br, pickA_one] at hp
 exact (l_f55_0 x.1 x.2.1 x.2.2.1 x.2.2.2.1 (by simpa using hok)).trans hp
theorem lk_f55 : tc_f55.lok g_f55 := by
 repeat (first | exact trivial | exact lo_f55_0 | refine ⟨?_, ?_⟩)
theorem s_f55 (s : ByteArray) (h : nameOk s = true) : r_f55 s = some (.t .bool (namedF s), []) := by
 simp only [nameOk, decide_eq_true_eq] at h
 have hl := bytesL_len s
 simp only [r_f55, show bytesOk s = true from decide_eq_true (by omega), rngW_0 (show (bytesL s).length ≤ 9223372036854775807 by omega), br_true, Int.toNat_zero, List.drop_zero, namedF]
 cases (bytesL s).all charB with
 | false => rfl
 | true =>
  simp only [Bool.not_true, br_false, Bool.true_and]
  refine br_intro (fun g => ?_) (fun g => ?_)
  ·simp only [ige, slen, decide_eq_true_eq] at g
   apply some_b
   rw [Bool.eq_iff_iff]
   simp only [ile, slen, decide_eq_true_eq]
   omega
  ·simp only [ige, slen, decide_eq_false_iff_not] at g
   apply some_b
   rw [eq_comm, decide_eq_false_iff_not]
   omega
def sp_f55 : Ent := spec (.pr .str .nil) (fun x => (nameOk x.1)) (fun x => (.t .bool (namedF x.1)))
theorem ms_f55 : Meets Tryz.prog 55 (strip sp_f55) := by
 obtain ⟨c, hc, hi⟩ := Option.map_eq_some_iff.1 ok_f55
 exact meets_spec (R := runF g_f55 tc_f55 rv_f55 false) (meets_of (by decide) Tryz.func55 hc hi Tryz.ntmps55 rok_f55 gk_f55 lk_f55 mixed) fun x hok => (e_f55 x.1).trans (s_f55 x.1 hok)
def goneV (x : LinkX) : Int × Bool := (imx x.1 x.2.1, x.2.2.1)
def dr_f154_0 : List DO := [(.mk (oP 4 (.fa 0 (.t 1))) []), (.mk (oL 5 4) [0]), (.mk (oP 6 (.fa 1 (.t 1))) []), (.mk (oL 7 6) [2]), (.mk (oP 8 (.mx (.t 5) (.t 7))) [1, 3]), (.mk (oP 9 (.fa 2 (.t 1))) []), (.mk (oL 10 9) [5]), (.mk (oV 2 8) [4, 0, 1, 2, 3, 4]), (.mk (oV 3 10) [6, 7, 0, 1, 2, 3, 4, 5, 6, 7])]
def tc_f154 : TC := (.sq (.reg [(oM 1 (.box (.t 0))), (oP 2 (.mv (cI 0))), (oP 3 (.mv (cB false)))]) (.sq (.dr dr_f154_0 [(0, [1]), (1, [1]), (2, [1]), (3, [1]), (4, []), (5, [1]), (6, [1]), (7, []), (8, [])] (.of [0, 1, 2, 3, 4, 5, 6, 7, 8])) .rt))
def rv_f154 : List (RV × Option Ty) := [((.t 2), some tI), ((.t 3), some .bool)]
def g_f154 : G := ⟨TYs, [], 11, EL [], keeps, (fun _ _ => none), IL [], RL []⟩
def r_f154 (p0 : LinkX) : Option (V × List VO) :=
 some (.tu [(.t tI (imx p0.1 p0.2.1)), (.t .bool p0.2.2.1)], [])
theorem e_f154 (p0 : LinkX) : runF g_f154 tc_f154 rv_f154 false [.t tyLinkX p0] [] = r_f154 p0 := by kernel_rfl
theorem ok_f154 : Option.map (trC Tryz.prog) Tryz.f154.body = some tc_f154.er := by kernel_rfl
theorem rok_f154 : trVs Tryz.prog Tryz.f154.results.toList = some (rv_f154.map Prod.fst) := by kernel_rfl
theorem en_f154 : Entered Tryz.prog 154 := .inr ⟨by decide, _, Tryz.func154, by kernel_rfl, by kernel_rfl⟩
theorem gk_f154 : GOk Tryz.prog g_f154 := gok_of _ (fun p hp => by cases hp)
theorem lk_f154 : tc_f154.lok g_f154 := by repeat (first | exact trivial | refine ⟨?_, ?_⟩)
theorem s_f154 (x : LinkX) : r_f154 x = some (.tu [.t tI (goneV x).1, .t .bool (goneV x).2], []) := rfl
def sp_f154 : Ent := spec (.pr tyLinkX .nil) (fun x => true) (fun x => (.tu [(.t tI ((goneV x.1).1)), (.t .bool ((goneV x.1).2))]))
theorem ms_f154 : Meets Tryz.prog 154 (strip sp_f154) := by
 obtain ⟨c, hc, hi⟩ := Option.map_eq_some_iff.1 ok_f154
 exact meets_spec (R := runF g_f154 tc_f154 rv_f154 false) (meets_of (by decide) Tryz.func154 hc hi Tryz.ntmps154 rok_f154 gk_f154 lk_f154 mixed) fun x _ => (e_f154 x.1).trans (s_f154 x.1)
def scCount (l : List LinkX) : Int := (l.length : Int)
def tc_f155 : TC := (.sq (.reg [(oP 2 (.mv (cI 0)))]) (.sq (.reg [(oV 3 0), (oP 4 (.len false (.t 3))), (oV 2 4)]) .rt))
def rv_f155 : List (RV × Option Ty) := [((.t 2), some tI)]
def g_f155 : G := ⟨TYs, [], 5, EL [], keeps, (fun _ _ => none), IL [], RL []⟩
def r_f155 (p0 : (List LinkX)) : Option (V × List VO) :=
 some (.t tI (llen p0), [])
theorem e_f155 (p0 : (List LinkX)) : runF g_f155 tc_f155 rv_f155 false [.t (.sl tyLinkX) p0] [] = r_f155 p0 := by kernel_rfl
theorem ok_f155 : Option.map (trC Tryz.prog) Tryz.f155.body = some tc_f155.er := by kernel_rfl
theorem rok_f155 : trVs Tryz.prog Tryz.f155.results.toList = some (rv_f155.map Prod.fst) := by kernel_rfl
theorem gk_f155 : GOk Tryz.prog g_f155 := gok_of _ (fun p hp => by cases hp)
theorem lk_f155 : tc_f155.lok g_f155 := by repeat (first | exact trivial | refine ⟨?_, ?_⟩)
theorem s_f155 (l : List LinkX) : r_f155 l = some (.t tI (scCount l), []) := rfl
def sp_f155 : Ent := spec (.pr (.sl tyLinkX) .nil) (fun x => true) (fun x => (.t tI (scCount x.1)))
theorem ms_f155 : Meets Tryz.prog 155 (strip sp_f155) := by
 obtain ⟨c, hc, hi⟩ := Option.map_eq_some_iff.1 ok_f155
 exact meets_spec (R := runF g_f155 tc_f155 rv_f155 false) (meets_of (by decide) Tryz.func155 hc hi Tryz.ntmps155 rok_f155 gk_f155 lk_f155 mixed) fun x _ => (e_f155 x.1).trans (s_f155 x.1)
def secStep (s : Int × Bool) (x : LinkX) : Int × Bool := if (goneV x).2 && (!s.2 || ilt (goneV x).1 s.1) then ((goneV x).1, true) else s
def secFails (l : List LinkX) : Int × Bool := l.foldl secStep (0, false)
def fg_f156_0 : Fg := ⟨[(4, some tI), (5, some .bool), (10, some (.sl tyLinkX)), (11, some tI), (12, some tI)], []⟩
def tb_f156_0 : TC := (.sq (.reg [(oP 13 (.bin false .lss (.t 12) (.t 11)))]) (.sq (.cd (.t 13) .sk (.fg ⟨[(4, some tI), (5, some .bool)], []⟩ (.ex 0))) (.sq (.bk 1 (.sq (.reg [(oP 14 (.ix 3 (.t 10) (.t 12))), (oM 15 (.ld true 3 (.t 14))), (oM 7 (.new [(.v (.int .i64 0)), (.v (.int .i64 0)), (.v (.bool false))])), (.mk none none (.m (.st 3 (.t 7) (.t 15))))]) (.sq (.reg [(oM 17 (.ld true 3 (.t 7))), (oC 18 154 [(.t 17)]), (oV 16 18), (oP 19 (.ext 0 (.t 16))), (oP 20 (.ext 1 (.t 16))), (oV 8 19), (oV 9 20)]) (.sq (.reg [(oV 21 9), (oV 22 21), (oQ 23 22 true (.mv (.t 5))), (oQ 24 22 true (.nt (.t 23))), (oQ 25 22 true (.mv (.t 24))), (oQ 26 25 false (.mv (.t 8))), (oQ 27 25 false (.mv (.t 4))), (oQ 28 25 false (.bin false .lss (.t 26) (.t 27))), (oQ 29 22 true (.pick (.t 25) (cB true) (.t 28))), (oP 30 (.pick (.t 22) (.t 29) (cB false)))]) (.cd (.t 30) (.reg [(oV 31 8), (oV 4 31), (oP 5 (.mv (cB true)))]) .sk))))) (.reg [(oP 32 (.bin false .add (.t 12) (cI 1))), (oV 12 32)]))))
def tc_f156 : TC := (.sq (.reg [(oP 2 (.mv (cI 0))), (oP 3 (.mv (cB false)))]) (.sq (.reg [(oP 4 (.mv (cI 0))), (oP 5 (.mv (cB false)))]) (.sq (.sq (.reg [(oV 10 0), (oP 11 (.len false (.t 10))), (oP 12 (.mv (cI 0)))]) (.bk 0 (.lp 0 fg_f156_0 tb_f156_0))) (.sq (.reg [(oV 33 4), (oV 34 5), (oV 2 33), (oV 3 34)]) .rt))))
def rv_f156 : List (RV × Option Ty) := [((.t 2), some tI), ((.t 3), some .bool)]
abbrev sh_f156_0 : Sh := ⟨[(4, .ty tI), (5, .ty .bool), (10, .ty (.sl tyLinkX)), (11, .ty tI), (12, .ty tI)], []⟩
def st_f156_0 (x4 : Int) (x5 : Bool) (x10 : (List LinkX)) (x11 : Int) (x12 : Int) : VS := sh_f156_0.st (x4, x5, x10, x11, x12, ()) ()
abbrev sh_f156_0_e0 : Sh := ⟨[(4, .ty tI), (5, .ty .bool)], []⟩
def st_f156_0_e0 (x4 : Int) (x5 : Bool) : VS := sh_f156_0_e0.st (x4, x5, ()) ()
-- loop 0: (x4 : Int) (x5 : Bool) (x10 : (List LinkX)) (x11 : Int) (x12 : Int); out: ('exit', 0) (x4 : Int) (x5 : Bool)
def L_f156_0 : VS → Option (Bool × List (Bool × Exit × VS)) := mkL sh_f156_0 (fun x y => (rngOk x.2.2.1 x.2.2.2.1 x.2.2.2.2.1)) (fun x y => [(true, .exit 0, st_f156_0_e0 (((x.2.2.1.drop x.2.2.2.2.1.toNat).foldl secStep (x.1, x.2.1)).1) (((x.2.2.1.drop x.2.2.2.2.1.toNat).foldl secStep (x.1, x.2.1)).2))])
def g_f156 : G := ⟨TYs, [], 35, EL [(154, sp_f154)], keeps, (Ls [L_f156_0]), IL [], RL []⟩
def b_f156_0 (x4 : Int) (x5 : Bool) (x10 : (List LinkX)) (x11 : Int) (x12 : Int) : Option (Exit × VS) :=
 br ((ilt x12 x11))
  (br (cIx x10 x12)
   (br ((goneV (lgt tyLinkX x10 (Int.toNat x12))).2)
    (br ((!x5))
     (some (.normal, st_f156_0 ((goneV (lgt tyLinkX x10 (Int.toNat x12))).1) true x10 x11 (iadd .i64 x12 1)))
     (br ((ilt ((goneV (lgt tyLinkX x10 (Int.toNat x12))).1) x4))
      (some (.normal, st_f156_0 ((goneV (lgt tyLinkX x10 (Int.toNat x12))).1) true x10 x11 (iadd .i64 x12 1)))
      (some (.normal, st_f156_0 x4 x5 x10 x11 (iadd .i64 x12 1)))))
    (some (.normal, st_f156_0 x4 x5 x10 x11 (iadd .i64 x12 1))))
   (none))
  (some (.exit 0, st_f156_0_e0 x4 x5))
noncomputable def lp_f156_0 (x4 : Int) (x5 : Bool) (x10 : (List LinkX)) (x11 : Int) (x12 : Int) : Option (Exit × VS) := loopF (roundF g_f156 fg_f156_0 tb_f156_0) (st_f156_0 x4 x5 x10 x11 x12)
noncomputable def n_f156_0 (x4 : Int) (x5 : Bool) (x10 : (List LinkX)) (x11 : Int) (x12 : Int) : Option (Exit × VS) :=
 br ((ilt x12 x11))
  (br (cIx x10 x12)
   (br ((goneV (lgt tyLinkX x10 (Int.toNat x12))).2)
    (br ((!x5))
     (lp_f156_0 ((goneV (lgt tyLinkX x10 (Int.toNat x12))).1) true x10 x11 (iadd .i64 x12 1))
     (br ((ilt ((goneV (lgt tyLinkX x10 (Int.toNat x12))).1) x4))
      (lp_f156_0 ((goneV (lgt tyLinkX x10 (Int.toNat x12))).1) true x10 x11 (iadd .i64 x12 1))
      (lp_f156_0 x4 x5 x10 x11 (iadd .i64 x12 1))))
    (lp_f156_0 x4 x5 x10 x11 (iadd .i64 x12 1)))
   (none))
  (some (.exit 0, st_f156_0_e0 x4 x5))
def la_f156_0 (x4 : Int) (x5 : Bool) (x10 : (List LinkX)) (x11 : Int) (x12 : Int) : Option (Exit × VS) := some (.exit 0, st_f156_0_e0 (((x10.drop x12.toNat).foldl secStep (x4, x5)).1) (((x10.drop x12.toNat).foldl secStep (x4, x5)).2))
theorem be_f156_0 (x4 : Int) (x5 : Bool) (x10 : (List LinkX)) (x11 : Int) (x12 : Int) : roundF g_f156 fg_f156_0 tb_f156_0 (st_f156_0 x4 x5 x10 x11 x12) = b_f156_0 x4 x5 x10 x11 x12 := by kernel_rfl
theorem ln_f156_0 (x4 : Int) (x5 : Bool) (x10 : (List LinkX)) (x11 : Int) (x12 : Int) : lp_f156_0 x4 x5 x10 x11 x12 = n_f156_0 x4 x5 x10 x11 x12 := (loopF_nxt _ _).trans (by
 rw [be_f156_0]
 simp only [b_f156_0, n_f156_0, nxt_br, nxt_n, nxt_r, nxt_e, nxt_0]
 rfl)
def r_f156 (p0 : (List LinkX)) : Option (V × List VO) :=
 br ((rngOk p0 (llen p0) (0 : Int)))
  (some (.tu [(.t tI (((p0.drop (0 : Int).toNat).foldl secStep ((0 : Int), false)).1)), (.t .bool (((p0.drop (0 : Int).toNat).foldl secStep ((0 : Int), false)).2))], []))
  (none)
theorem e_f156 (p0 : (List LinkX)) : runF g_f156 tc_f156 rv_f156 false [.t (.sl tyLinkX) p0] [] = r_f156 p0 := by kernel_rfl
theorem ok_f156 : Option.map (trC Tryz.prog) Tryz.f156.body = some tc_f156.er := by kernel_rfl
theorem rok_f156 : trVs Tryz.prog Tryz.f156.results.toList = some (rv_f156.map Prod.fst) := by kernel_rfl
theorem gk_f156 : GOk Tryz.prog g_f156 := gok_of _ (by
 intro p hp
 simp only [List.mem_cons, List.not_mem_nil, or_false] at hp
 rcases hp with rfl
 ·exact ⟨en_f154, ms_f154⟩)
theorem l_f156_0 (x4 : Int) (x5 : Bool) (x10 : (List LinkX)) (x11 : Int) (x12 : Int) (h : (rngOk x10 x11 x12) = true) : lp_f156_0 x4 x5 x10 x11 x12 = la_f156_0 x4 x5 x10 x11 x12 := by
 obtain ⟨rfl, h3, k, rfl, hk⟩ := rng_k h
 clear h
 revert x4 x5
 refine range_ind x10 (fun k => ∀ (x4 : Int) (x5 : Bool), lp_f156_0 x4 x5 x10 (x10.length : Int) (k : Int) = la_f156_0 x4 x5 x10 (x10.length : Int) (k : Int)) ?_ ?_ k hk
 ·intro x4 x5
  rw [ln_f156_0]
  simp [n_f156_0, la_f156_0, ilt_nat, br_false]
 ·intro k hk ih x4 x5
  rw [ln_f156_0]
  simp only [n_f156_0, ilt_nat, cIx_nat, hk, decide_true, br_true, Int.toNat_natCast, add1 (show k < 4611686018427387904 by omega), lgt_get (y := tyLinkX) hk, ih]
  have el : la_f156_0 x4 x5 x10 (x10.length : Int) (k : Int) = la_f156_0 (secStep (x4, x5) x10[k]).1 (secStep (x4, x5) x10[k]).2 x10 (x10.length : Int) ((k + 1 : Nat) : Int) := by
   simp only [la_f156_0, Int.toNat_natCast, List.drop_eq_getElem_cons hk, List.foldl_cons]
  rw [el]
  unfold secStep
  cases hg : (goneV x10[k]).2 <;> cases x5 <;> cases hi : ilt (goneV x10[k]).1 x4 <;> rfl
theorem lo_f156_0 : ∀ S l p, g_f156.L 0 (fgt fg_f156_0 S) = some (true, l) → pickA l = some p → loopF (roundF g_f156 fg_f156_0 tb_f156_0) S = some p :=
 lok_of (s := sh_f156_0) ⟨by decide, by decide⟩ (by kernel_rfl) fun x y hok p hp => by
 simp only [pickA_br, pickA_one] at hp
 exact (l_f156_0 x.1 x.2.1 x.2.2.1 x.2.2.2.1 x.2.2.2.2.1 (by simpa using hok)).trans hp
theorem lk_f156 : tc_f156.lok g_f156 := by
 repeat (first | exact trivial | exact lo_f156_0 | refine ⟨?_, ?_⟩)
theorem s_f156 (l : List LinkX) (h : lenOk5 l = true) : r_f156 l = some (.tu [.t tI (secFails l).1, .t .bool (secFails l).2], []) := by
 simp only [lenOk5, decide_eq_true_eq] at h
 simp only [r_f156, rng_0 h, br_true, Int.toNat_zero, List.drop_zero]
 rfl
def sp_f156 : Ent := spec (.pr (.sl tyLinkX) .nil) (fun x => (lenOk5 x.1)) (fun x => (.tu [(.t tI ((secFails x.1).1)), (.t .bool ((secFails x.1).2))]))
theorem ms_f156 : Meets Tryz.prog 156 (strip sp_f156) := by
 obtain ⟨c, hc, hi⟩ := Option.map_eq_some_iff.1 ok_f156
 exact meets_spec (R := runF g_f156 tc_f156 rv_f156 false) (meets_of (by decide) Tryz.func156 hc hi Tryz.ntmps156 rok_f156 gk_f156 lk_f156 mixed) fun x hok => (e_f156 x.1).trans (s_f156 x.1 hok)
def scOpen (_ : List LinkX) : Bool := false
def tc_f157 : TC := (.sq (.reg [(oP 2 (.mv (cB false)))]) (.sq (.reg [(oP 2 (.mv (cB false)))]) .rt))
def rv_f157 : List (RV × Option Ty) := [((.t 2), some .bool)]
def g_f157 : G := ⟨TYs, [], 3, EL [], keeps, (fun _ _ => none), IL [], RL []⟩
def r_f157 (p0 : (List LinkX)) : Option (V × List VO) :=
 some (.t .bool false, [])
theorem e_f157 (p0 : (List LinkX)) : runF g_f157 tc_f157 rv_f157 false [.t (.sl tyLinkX) p0] [] = r_f157 p0 := by kernel_rfl
theorem ok_f157 : Option.map (trC Tryz.prog) Tryz.f157.body = some tc_f157.er := by kernel_rfl
theorem rok_f157 : trVs Tryz.prog Tryz.f157.results.toList = some (rv_f157.map Prod.fst) := by kernel_rfl
theorem gk_f157 : GOk Tryz.prog g_f157 := gok_of _ (fun p hp => by cases hp)
theorem lk_f157 : tc_f157.lok g_f157 := by repeat (first | exact trivial | refine ⟨?_, ?_⟩)
theorem s_f157 (l : List LinkX) : r_f157 l = some (.t .bool (scOpen l), []) := rfl
def sp_f157 : Ent := spec (.pr (.sl tyLinkX) .nil) (fun x => true) (fun x => (.t .bool (scOpen x.1)))
theorem ms_f157 : Meets Tryz.prog 157 (strip sp_f157) := by
 obtain ⟨c, hc, hi⟩ := Option.map_eq_some_iff.1 ok_f157
 exact meets_spec (R := runF g_f157 tc_f157 rv_f157 false) (meets_of (by decide) Tryz.func157 hc hi Tryz.ntmps157 rok_f157 gk_f157 lk_f157 mixed) fun x _ => (e_f157 x.1).trans (s_f157 x.1)
def cntL (a : LinkX) : List LinkX → Nat
 | [] => 0
 | x :: r => if !a.2.2.1 || ilt x.1 a.2.1 then cntL x r + 1 else 0
def cntD : List LinkX → Nat
 | [] => 0
 | a :: r => cntL a r
def sgCount (l : List LinkX) : Int := 1 + (cntD l : Int)
def dr_f158_0 : List DO := [(.mk (oV 4 3) []), (.mk (oV 5 0) []), (.mk (oP 6 (.len false (.t 5))) [1]), (.mk (oP 7 (.bin false .lss (.t 4) (.t 6))) [0, 2]), (.mk (oV 8 7) [3]), (.mk (oQ 9 8 true (.mv (.t 0))) [4]), (.mk (oQ 10 8 true (.mv (.t 3))) [4]), (.mk (oQ 11 8 true (.bin false .sub (.t 10) (cI 1))) [6, 4]), (.mk (oQ 12 8 true (.ix 3 (.t 9) (.t 11))) [5, 7, 4]), (.mk (oQ 13 8 true (.fa 2 (.t 12))) [8, 4]), (.mk (oG 14 8 true (.m (.ld false 1 (.t 13)))) [9, 4]), (.mk (oQ 15 8 true (.nt (.t 14))) [10, 4]), (.mk (oQ 16 8 true (.mv (.t 15))) [11, 4, 4]), (.mk (oQ 17 16 false (.mv (.t 0))) [12]), (.mk (oQ 18 16 false (.mv (.t 3))) [12]), (.mk (oQ 19 16 false (.ix 3 (.t 17) (.t 18))) [13, 14, 12]), (.mk (oQ 20 16 false (.fa 0 (.t 19))) [15, 12]), (.mk (oG 21 16 false (.m (.ld false 1 (.t 20)))) [16, 12]), (.mk (oQ 22 16 false (.mv (.t 0))) [12]), (.mk (oQ 23 16 false (.mv (.t 3))) [12]), (.mk (oQ 24 16 false (.bin false .sub (.t 23) (cI 1))) [19, 12]), (.mk (oQ 25 16 false (.ix 3 (.t 22) (.t 24))) [18, 20, 12]), (.mk (oQ 26 16 false (.fa 1 (.t 25))) [21, 12]), (.mk (oG 27 16 false (.m (.ld false 1 (.t 26)))) [22, 12]), (.mk (oQ 28 16 false (.bin false .lss (.t 21) (.t 27))) [17, 23, 12]), (.mk (oQ 29 8 true (.pick (.t 16) (cB true) (.t 28))) [12, 24, 4]), (.mk (oP 30 (.pick (.t 8) (.t 29) (cB false))) [4, 25])]
def fg_f158_0 : Fg := ⟨[(0, some (.sl tyLinkX)), (3, some tI)], []⟩
def tb_f158_0 : TC := (.sq (.sq (.dr dr_f158_0 [(0, []), (1, []), (2, []), (3, []), (4, []), (5, []), (6, []), (7, []), (8, []), (9, []), (10, []), (11, []), (12, []), (13, []), (14, []), (15, []), (16, []), (17, []), (18, []), (19, []), (20, []), (21, []), (22, []), (23, []), (24, []), (25, []), (26, [])] (.of [0, 1, 2, 3, 4, 5, 6, 7, 8, 9, 10, 11, 12, 13, 14, 15, 16, 17, 18, 19, 20, 21, 22, 23, 24, 25, 26])) (.cd (.t 30) .sk (.fg ⟨[(3, some tI)], []⟩ (.ex 0)))) (.bk 1 (.reg [(oV 31 3), (oP 32 (.bin false .add (.t 31) (cI 1))), (oV 3 32)])))
def tc_f158 : TC := (.sq (.reg [(oP 2 (.mv (cI 0)))]) (.sq (.reg [(oP 3 (.mv (cI 1)))]) (.sq (.bk 0 (.lp 0 fg_f158_0 tb_f158_0)) (.sq (.reg [(oV 33 3), (oV 2 33)]) .rt))))
def rv_f158 : List (RV × Option Ty) := [((.t 2), some tI)]
abbrev sh_f158_0 : Sh := ⟨[(0, .ty (.sl tyLinkX)), (3, .ty tI)], []⟩
def st_f158_0 (x0 : (List LinkX)) (x3 : Int) : VS := sh_f158_0.st (x0, x3, ()) ()
abbrev sh_f158_0_e0 : Sh := ⟨[(3, .ty tI)], []⟩
def st_f158_0_e0 (x3 : Int) : VS := sh_f158_0_e0.st (x3, ()) ()
-- loop 0: (x0 : (List LinkX)) (x3 : Int); out: ('exit', 0) (x3 : Int)
def L_f158_0 : VS → Option (Bool × List (Bool × Exit × VS)) := mkL sh_f158_0 (fun x y => (decide (1 ≤ x.2.1 ∧ x.2.1 ≤ x.1.length + 1 ∧ x.1.length ≤ 100000))) (fun x y => [(true, .exit 0, st_f158_0_e0 (x.2.1 + (cntD (x.1.drop (x.2.1 - 1).toNat) : Int)))])
def g_f158 : G := ⟨TYs, [], 34, EL [], keeps, (Ls [L_f158_0]), IL [], RL []⟩
def b_f158_0 (x0 : (List LinkX)) (x3 : Int) : Option (Exit × VS) :=
 br ((ilt x3 (llen x0)))
  (br (cIx x0 (isub .i64 x3 1))
   (br ((!((((lgt tyLinkX x0 (Int.toNat (isub .i64 x3 1))).2).2).1)))
    (some (.normal, st_f158_0 x0 (iadd .i64 x3 1)))
    (br (cIx x0 x3)
     (br (cIx x0 (isub .i64 x3 1))
      (br ((ilt ((lgt tyLinkX x0 (Int.toNat x3)).1) (((lgt tyLinkX x0 (Int.toNat (isub .i64 x3 1))).2).1)))
       (some (.normal, st_f158_0 x0 (iadd .i64 x3 1)))
       (some (.exit 0, st_f158_0_e0 x3)))
      (none))
     (none)))
   (none))
  (some (.exit 0, st_f158_0_e0 x3))
noncomputable def lp_f158_0 (x0 : (List LinkX)) (x3 : Int) : Option (Exit × VS) := loopF (roundF g_f158 fg_f158_0 tb_f158_0) (st_f158_0 x0 x3)
noncomputable def n_f158_0 (x0 : (List LinkX)) (x3 : Int) : Option (Exit × VS) :=
 br ((ilt x3 (llen x0)))
  (br (cIx x0 (isub .i64 x3 1))
   (br ((!((((lgt tyLinkX x0 (Int.toNat (isub .i64 x3 1))).2).2).1)))
    (lp_f158_0 x0 (iadd .i64 x3 1))
    (br (cIx x0 x3)
     (br (cIx x0 (isub .i64 x3 1))
      (br ((ilt ((lgt tyLinkX x0 (Int.toNat x3)).1) (((lgt tyLinkX x0 (Int.toNat (isub .i64 x3 1))).2).1)))
       (lp_f158_0 x0 (iadd .i64 x3 1))
       (some (.exit 0, st_f158_0_e0 x3)))
      (none))
     (none)))
   (none))
  (some (.exit 0, st_f158_0_e0 x3))
def la_f158_0 (x0 : (List LinkX)) (x3 : Int) : Option (Exit × VS) := some (.exit 0, st_f158_0_e0 (x3 + (cntD (x0.drop (x3 - 1).toNat) : Int)))
theorem be_f158_0 (x0 : (List LinkX)) (x3 : Int) : roundF g_f158 fg_f158_0 tb_f158_0 (st_f158_0 x0 x3) = b_f158_0 x0 x3 := by kernel_rfl
theorem ln_f158_0 (x0 : (List LinkX)) (x3 : Int) : lp_f158_0 x0 x3 = n_f158_0 x0 x3 := (loopF_nxt _ _).trans (by
 rw [be_f158_0]
 simp only [b_f158_0, n_f158_0, nxt_br, nxt_n, nxt_r, nxt_e, nxt_0]
 rfl)
def r_f158 (p0 : (List LinkX)) : Option (V × List VO) :=
 br ((decide (1 ≤ (1 : Int) ∧ (1 : Int) ≤ p0.length + 1 ∧ p0.length ≤ 100000)))
  (some (.t tI ((1 : Int) + (cntD (p0.drop ((1 : Int) - 1).toNat) : Int)), []))
  (none)
theorem e_f158 (p0 : (List LinkX)) : runF g_f158 tc_f158 rv_f158 false [.t (.sl tyLinkX) p0] [] = r_f158 p0 := by kernel_rfl
theorem ok_f158 : Option.map (trC Tryz.prog) Tryz.f158.body = some tc_f158.er := by kernel_rfl
theorem rok_f158 : trVs Tryz.prog Tryz.f158.results.toList = some (rv_f158.map Prod.fst) := by kernel_rfl
theorem en_f158 : Entered Tryz.prog 158 := .inr ⟨by decide, _, Tryz.func158, by kernel_rfl, by kernel_rfl⟩
theorem gk_f158 : GOk Tryz.prog g_f158 := gok_of _ (fun p hp => by cases hp)
theorem l_f158_0 (x0 : (List LinkX)) (x3 : Int) (h : (decide (1 ≤ x3 ∧ x3 ≤ x0.length + 1 ∧ x0.length ≤ 100000)) = true) : lp_f158_0 x0 x3 = la_f158_0 x0 x3 := by
 simp only [decide_eq_true_eq] at h
 obtain ⟨h1, h2, h3⟩ := h
 obtain ⟨k, hk⟩ : ∃ k : Nat, x3 = (k : Int) + 1 := ⟨(x3 - 1).toNat, by omega⟩
 subst hk
 refine up_ind x0.length (fun k => lp_f158_0 x0 ((k : Int) + 1) = la_f158_0 x0 ((k : Int) + 1)) ?_ ?_ k (by omega)
 ·rw [ln_f158_0]
  have e1 : ilt ((x0.length : Int) + 1) (llen x0) = false := by simp only [ilt, llen, decide_eq_false_iff_not]; omega
  have e2 : ((x0.length : Int) + 1 - 1).toNat = x0.length := by omega
  simp [n_f158_0, la_f158_0, e1, br_false, cntD]
 ·intro k hk ih
  rw [ln_f158_0]
  have e2 : ((k : Int) + 1 - 1).toNat = k := by omega
  have e3 : isub .i64 ((k : Int) + 1) 1 = (k : Int) := by rw [isub_in (by omega)]; omega
  have e4 : iadd .i64 ((k : Int) + 1) 1 = ((k + 1 : Nat) : Int) + 1 := by rw [iadd_in (by omega)]; omega
  have e5 : ((((k + 1 : Nat) : Int)) + 1 - 1).toNat = k + 1 := by omega
  have e6 : (k : Int) + 1 = ((k + 1 : Nat) : Int) := by omega
  by_cases hk2 : k + 1 < x0.length
  ·have e1 : ilt ((k : Int) + 1) (llen x0) = true := by simp only [ilt, llen, decide_eq_true_eq]; omega
   simp only [n_f158_0, e1, e3, e4, br_true, cIx_nat, hk, decide_true, Int.toNat_natCast, lgt_get (y := tyLinkX) hk, ih]
   rw [e6]
   simp only [cIx_nat, hk2, decide_true, br_true, Int.toNat_natCast, lgt_get (y := tyLinkX) hk2]
   have el : la_f158_0 x0 ((k + 1 : Nat) : Int) = if !x0[k].2.2.1 || ilt x0[k + 1].1 x0[k].2.1 then la_f158_0 x0 (((k + 1 : Nat) : Int) + 1) else some (.exit 0, st_f158_0_e0 ((k + 1 : Nat) : Int)) := by
    have e7 : (((k + 1 : Nat) : Int) - 1).toNat = k := by omega
    simp only [la_f158_0, e5, e7, List.drop_eq_getElem_cons hk, List.drop_eq_getElem_cons hk2, cntD, cntL]
    split
    ·congr 3
     omega
    ·simp
   rw [el]
   cases x0[k].2.2.1 <;> cases ilt x0[k + 1].1 x0[k].2.1 <;> rfl
  ·have e1 : ilt ((k : Int) + 1) (llen x0) = false := by simp only [ilt, llen, decide_eq_false_iff_not]; omega
   have e7 : x0.drop (k + 1) = [] := List.drop_eq_nil_of_le (by omega)
   simp only [n_f158_0, e1, br_false, la_f158_0, e2, List.drop_eq_getElem_cons hk, e7, cntD, cntL]
   simp
theorem lo_f158_0 : ∀ S l p, g_f158.L 0 (fgt fg_f158_0 S) = some (true, l) → pickA l = some p → loopF (roundF g_f158 fg_f158_0 tb_f158_0) S = some p :=
 lok_of (s := sh_f158_0) ⟨by decide, by decide⟩ (by kernel_rfl) fun x y hok p hp => by
 simp only [pickA_br, pickA_one] at hp
 exact (l_f158_0 x.1 x.2.1 (by simpa using hok)).trans hp
theorem lk_f158 : tc_f158.lok g_f158 := by
 repeat (first | exact trivial | exact lo_f158_0 | refine ⟨?_, ?_⟩)
theorem s_f158 (l : List LinkX) (h : lenOk5 l = true) : r_f158 l = some (.t tI (sgCount l), []) := by
 simp only [lenOk5, decide_eq_true_eq] at h
 simp only [r_f158]
 rw [dec_true ⟨Int.le_refl 1, by omega, h⟩, br_true]
 rfl
def sp_f158 : Ent := spec (.pr (.sl tyLinkX) .nil) (fun x => (lenOk5 x.1)) (fun x => (.t tI (sgCount x.1)))
theorem ms_f158 : Meets Tryz.prog 158 (strip sp_f158) := by
 obtain ⟨c, hc, hi⟩ := Option.map_eq_some_iff.1 ok_f158
 exact meets_spec (R := runF g_f158 tc_f158 rv_f158 false) (meets_of (by decide) Tryz.func158 hc hi Tryz.ntmps158 rok_f158 gk_f158 lk_f158 mixed) fun x hok => (e_f158 x.1).trans (s_f158 x.1 hok)
theorem cntL_le (a : LinkX) : ∀ l : List LinkX, cntL a l ≤ l.length
 | [] => by simp [cntL]
 | x :: r => by
  have := cntL_le x r
  unfold cntL
  split <;> simp <;> omega
theorem sgCount_le {l : List LinkX} (h : l ≠ []) : 1 ≤ sgCount l ∧ sgCount l ≤ l.length := by
 cases l with
 | nil => exact absurd rfl h
 | cons a l =>
  have := cntL_le a l
  simp only [sgCount, cntD, List.length_cons]
  omega
def sgLast (l : List LinkX) : LinkX := l.getD (sgCount l - 1).toNat tyLinkX.zero
def sgFails (l : List LinkX) : Int × Bool := if (goneV (sgLast l)).2 then ((goneV (sgLast l)).1, true) else (0, false)
def sgOk (l : List LinkX) : Bool := lenOk5 l && !l.isEmpty
def tc_f159 : TC := (.sq (.reg [(oP 2 (.mv (cI 0))), (oP 3 (.mv (cB false)))]) (.sq (.reg [(oV 7 0), (oV 8 0), (oC 9 158 [(.t 8)]), (oP 10 (.bin false .sub (.t 9) (cI 1))), (oP 11 (.ix 3 (.t 7) (.t 10))), (oM 12 (.ld true 3 (.t 11))), (oC 13 154 [(.t 12)]), (oV 6 13), (oP 14 (.ext 0 (.t 6))), (oP 15 (.ext 1 (.t 6))), (oV 4 14), (oV 5 15)]) (.sq (.sq (.reg [(oV 16 5), (oP 17 (.nt (.t 16)))]) (.cd (.t 17) (.sq (.reg [(oP 2 (.mv (cI 0))), (oP 3 (.mv (cB false)))]) .rt) .sk)) (.sq (.reg [(oV 18 4), (oV 2 18), (oP 3 (.mv (cB true)))]) .rt))))
def rv_f159 : List (RV × Option Ty) := [((.t 2), some tI), ((.t 3), some .bool)]
def g_f159 : G := ⟨TYs, [], 19, EL [(154, sp_f154), (158, sp_f158)], keeps, (fun _ _ => none), IL [], RL []⟩
def r_f159 (p0 : (List LinkX)) : Option (V × List VO) :=
 br ((lenOk5 p0))
  (br (cIx p0 (isub .i64 (sgCount p0) 1))
   (br ((!((goneV (lgt tyLinkX p0 (Int.toNat (isub .i64 (sgCount p0) 1)))).2)))
    (some (.tu [(.t tI 0), (.t .bool false)], []))
    (some (.tu [(.t tI ((goneV (lgt tyLinkX p0 (Int.toNat (isub .i64 (sgCount p0) 1)))).1)), (.t .bool true)], [])))
   (none))
  (none)
theorem e_f159 (p0 : (List LinkX)) : runF g_f159 tc_f159 rv_f159 false [.t (.sl tyLinkX) p0] [] = r_f159 p0 := by kernel_rfl
theorem ok_f159 : Option.map (trC Tryz.prog) Tryz.f159.body = some tc_f159.er := by kernel_rfl
theorem rok_f159 : trVs Tryz.prog Tryz.f159.results.toList = some (rv_f159.map Prod.fst) := by kernel_rfl
theorem gk_f159 : GOk Tryz.prog g_f159 := gok_of _ (by
 intro p hp
 simp only [List.mem_cons, List.not_mem_nil, or_false] at hp
 rcases hp with rfl | rfl
 ·exact ⟨en_f154, ms_f154⟩
 ·exact ⟨en_f158, ms_f158⟩)
theorem lk_f159 : tc_f159.lok g_f159 := by repeat (first | exact trivial | refine ⟨?_, ?_⟩)
theorem s_f159 (l : List LinkX) (h : sgOk l = true) : r_f159 l = some (.tu [.t tI (sgFails l).1, .t .bool (sgFails l).2], []) := by
 simp only [sgOk, Bool.and_eq_true] at h
 have hn : l ≠ [] := by
  intro e
  rw [e] at h
  simp at h
 have hc := sgCount_le hn
 have hl := h.1
 simp only [lenOk5, decide_eq_true_eq] at hl
 have e1 : isub .i64 (sgCount l) 1 = sgCount l - 1 := isub_in (by omega)
 have e2 : cIx l (sgCount l - 1) = true := by simp only [cIx, decide_eq_true_eq]; omega
 simp only [r_f159, h.1, e1, e2, br_true, lgt]
 show br (!(goneV (sgLast l)).2) (some (V.tu [.t tI 0, .t .bool false], [])) (some (V.tu [.t tI (goneV (sgLast l)).1, .t .bool true], [])) = _
 unfold sgFails
 by_cases hg : (goneV (sgLast l)).2 = true
 ·rw [if_pos hg, hg]
  rfl
 ·rw [if_neg hg, show (goneV (sgLast l)).2 = false by simpa using hg]
  rfl
def sp_f159 : Ent := spec (.pr (.sl tyLinkX) .nil) (fun x => (sgOk x.1)) (fun x => (.tu [(.t tI ((sgFails x.1).1)), (.t .bool ((sgFails x.1).2))]))
theorem ms_f159 : Meets Tryz.prog 159 (strip sp_f159) := by
 obtain ⟨c, hc, hi⟩ := Option.map_eq_some_iff.1 ok_f159
 exact meets_spec (R := runF g_f159 tc_f159 rv_f159 false) (meets_of (by decide) Tryz.func159 hc hi Tryz.ntmps159 rok_f159 gk_f159 lk_f159 mixed) fun x hok => (e_f159 x.1).trans (s_f159 x.1 hok)
def sgOpen (l : List LinkX) : Bool := ieq (sgCount l) (llen l)
def tc_f160 : TC := (.sq (.reg [(oP 2 (.mv (cB false)))]) (.sq (.reg [(oV 3 0), (oC 4 158 [(.t 3)]), (oV 5 0), (oP 6 (.len false (.t 5))), (oP 7 (.bin false .eql (.t 4) (.t 6))), (oV 2 7)]) .rt))
def rv_f160 : List (RV × Option Ty) := [((.t 2), some .bool)]
def g_f160 : G := ⟨TYs, [], 8, EL [(158, sp_f158)], keeps, (fun _ _ => none), IL [], RL []⟩
def r_f160 (p0 : (List LinkX)) : Option (V × List VO) :=
 br ((lenOk5 p0))
  (some (.t .bool (ieq (sgCount p0) (llen p0)), []))
  (none)
theorem e_f160 (p0 : (List LinkX)) : runF g_f160 tc_f160 rv_f160 false [.t (.sl tyLinkX) p0] [] = r_f160 p0 := by kernel_rfl
theorem ok_f160 : Option.map (trC Tryz.prog) Tryz.f160.body = some tc_f160.er := by kernel_rfl
theorem rok_f160 : trVs Tryz.prog Tryz.f160.results.toList = some (rv_f160.map Prod.fst) := by kernel_rfl
theorem gk_f160 : GOk Tryz.prog g_f160 := gok_of _ (by
 intro p hp
 simp only [List.mem_cons, List.not_mem_nil, or_false] at hp
 rcases hp with rfl
 ·exact ⟨en_f158, ms_f158⟩)
theorem lk_f160 : tc_f160.lok g_f160 := by repeat (first | exact trivial | refine ⟨?_, ?_⟩)
theorem s_f160 (l : List LinkX) (h : lenOk5 l = true) : r_f160 l = some (.t .bool (sgOpen l), []) := by
 simp only [r_f160, h, br_true, sgOpen]
def sp_f160 : Ent := spec (.pr (.sl tyLinkX) .nil) (fun x => (lenOk5 x.1)) (fun x => (.t .bool (sgOpen x.1)))
theorem ms_f160 : Meets Tryz.prog 160 (strip sp_f160) := by
 obtain ⟨c, hc, hi⟩ := Option.map_eq_some_iff.1 ok_f160
 exact meets_spec (R := runF g_f160 tc_f160 rv_f160 false) (meets_of (by decide) Tryz.func160 hc hi Tryz.ntmps160 rok_f160 gk_f160 lk_f160 mixed) fun x hok => (e_f160 x.1).trans (s_f160 x.1 hok)
def sp_op_iface_115 : Ent := spI 115
theorem en_op_iface_115 : Entered Tryz.prog 1001843 := .inl (by kernel_rfl)
theorem ms_op_iface_115 : Meets Tryz.prog 1001843 (strip sp_op_iface_115) := meets_iface (t := 115) (e := 114) (by kernel_rfl) (by decide)
def sp_op_iface_116 : Ent := spI 116
theorem en_op_iface_116 : Entered Tryz.prog 1001859 := .inl (by kernel_rfl)
theorem ms_op_iface_116 : Meets Tryz.prog 1001859 (strip sp_op_iface_116) := meets_iface (t := 116) (e := 114) (by kernel_rfl) (by decide)
def sp_op_method_0_115 : Ent := spM 115 sp_f155
theorem en_op_method_0_115 : Entered Tryz.prog 1000015 := .inl (by kernel_rfl)
theorem ms_op_method_0_115 : Meets Tryz.prog 1000015 (strip sp_op_method_0_115) := meets_method (t := 115) (i := 0) (fn := 155) (name := mNames.getD 0 "") (by kernel_rfl) (fun v w => by kernel_rfl) ⟨_, Tryz.func155, by kernel_rfl, by kernel_rfl⟩ (by decide) ms_f155
def sp_op_method_1_115 : Ent := spM 115 sp_f156
theorem en_op_method_1_115 : Entered Tryz.prog 1000031 := .inl (by kernel_rfl)
theorem ms_op_method_1_115 : Meets Tryz.prog 1000031 (strip sp_op_method_1_115) := meets_method (t := 115) (i := 1) (fn := 156) (name := mNames.getD 1 "") (by kernel_rfl) (fun v w => by kernel_rfl) ⟨_, Tryz.func156, by kernel_rfl, by kernel_rfl⟩ (by decide) ms_f156
def sp_op_method_2_115 : Ent := spM 115 sp_f157
theorem en_op_method_2_115 : Entered Tryz.prog 1000047 := .inl (by kernel_rfl)
theorem ms_op_method_2_115 : Meets Tryz.prog 1000047 (strip sp_op_method_2_115) := meets_method (t := 115) (i := 2) (fn := 157) (name := mNames.getD 2 "") (by kernel_rfl) (fun v w => by kernel_rfl) ⟨_, Tryz.func157, by kernel_rfl, by kernel_rfl⟩ (by decide) ms_f157
def sp_op_method_1_116 : Ent := spM 116 sp_f159
theorem en_op_method_1_116 : Entered Tryz.prog 1000031 := .inl (by kernel_rfl)
theorem ms_op_method_1_116 : Meets Tryz.prog 1000031 (strip sp_op_method_1_116) := meets_method (t := 116) (i := 1) (fn := 159) (name := mNames.getD 1 "") (by kernel_rfl) (fun v w => by kernel_rfl) ⟨_, Tryz.func159, by kernel_rfl, by kernel_rfl⟩ (by decide) ms_f159
def sp_op_method_2_116 : Ent := spM 116 sp_f160
theorem en_op_method_2_116 : Entered Tryz.prog 1000047 := .inl (by kernel_rfl)
theorem ms_op_method_2_116 : Meets Tryz.prog 1000047 (strip sp_op_method_2_116) := meets_method (t := 116) (i := 2) (fn := 160) (name := mNames.getD 2 "") (by kernel_rfl) (fun v w => by kernel_rfl) ⟨_, Tryz.func160, by kernel_rfl, by kernel_rfl⟩ (by decide) ms_f160
end Go.Proofs.YtfehjdaielifiaaGreat.K
