/-
  executable: which executables are right, by the program and by its answer; their bytes.
-/
import Derived.Test.YtdbaaejiolibfaaG1
set_option linter.unusedSimpArgs false
set_option linter.unusedVariables false
namespace Go.Proofs.Ytdbaaejiolibfaa.K
open Go.RowKit
noncomputable section
def badV (z : Symbol) : Bool := ilt z.2.1 0 || ige z.2.1 4294967296
def badX (x : Image) : Bool := decide (16 < x.1.length) || decide (64 < x.2.1.length) || wrongF (namesF x).1 || wrongF (namesF x).2 || x.2.1.any badV || decide (4096 < (writtenF x).length)
def checkX (x : Image) : Int := bif badX x then 20 else 0
def chkOk (x : Image) : Bool := wrOk x
theorem written_len (x : Image) : (writtenF x).length = 5 + (x.1.flatMap secB).length + (x.2.1.flatMap symB).length := by
  simp only [writtenF, List.length_append, numL_len]
  simp only [List.length_cons, List.length_nil]
  omega
theorem flat_le {α β : Type} (f : α → List β) : ∀ (l : List α) (x : α), x ∈ l → (f x).length ≤ (l.flatMap f).length
  | [], x, h => by cases h
  | a :: l, x, h => by
    rw [List.flatMap_cons, List.length_append]
    rcases List.mem_cons.1 h with rfl | h
    · omega
    · have := flat_le f l x h
      omega
theorem wr_names {x : Image} (h : wrOk x = true) : lenS (namesF x).1 = true ∧ lenS (namesF x).2 = true := by
  simp only [wrOk, imgOk, Bool.and_eq_true, decide_eq_true_eq] at h
  obtain ⟨⟨h1, h2⟩, h3⟩ := h
  constructor
  · simp only [lenS, namesF, Bool.and_eq_true, decide_eq_true_eq, List.length_map, List.all_eq_true, List.mem_map, nameG]
    refine ⟨h1, ?_⟩
    rintro s ⟨z, hz, rfl⟩
    have := flat_le secB x.1 z hz
    rw [secB_len] at this
    omega
  · simp only [lenS, namesF, Bool.and_eq_true, decide_eq_true_eq, List.length_map, List.all_eq_true, List.mem_map, nameG]
    refine ⟨h2, ?_⟩
    rintro s ⟨z, hz, rfl⟩
    have := flat_le symB x.2.1 z hz
    rw [symB_len] at this
    omega
def fg_f26_0 : Fg := ⟨[(1, none), (29, some (.sl tySymbol)), (30, some tI), (31, some tI)], [(1, some tyImage)]⟩
def tb_f26_0 : TC := (.sq (.reg [(oP 32 (.bin false .lss (.t 31) (.t 30)))]) (.sq (.cd (.t 32) .sk (.fg ⟨[(1, none)], [(1, some tyImage)]⟩ (.ex 0))) (.sq (.bk 1 (.sq (.reg [(oP 33 (.ix 2 (.t 29) (.t 31))), (oM 34 (.ld true 2 (.t 33))), (oM 6 (.new [(.v (.string (ByteArray.mk #[]))), (.v (.int .i64 0))])), (.mk none none (.m (.st 2 (.t 6) (.t 34))))]) (.sq (.reg [(oP 35 (.fa 1 (.t 6))), (oL 36 35), (oP 37 (.bin false .lss (.t 36) (cI 0))), (oV 38 37), (oQ 39 38 false (.fa 1 (.t 6))), (oG 40 38 false (.m (.ld false 1 (.t 39)))), (oQ 41 38 false (.bin false .geq (.t 40) (cI 4294967296))), (oP 42 (.pick (.t 38) (cB true) (.t 41)))]) (.cd (.t 42) (.sq (.reg [(oP 2 (.mv (cI 20)))]) (.fg ⟨[(2, some tI)], []⟩ .rt)) .sk)))) (.reg [(oP 43 (.bin false .add (.t 31) (cI 1))), (oV 31 43)]))))
/-- cipherplan/executable.Check -/
def tc_f26 : TC := (.sq (.reg [(oM 1 (.box (.t 0))), (oP 2 (.mv (cI 0)))]) (.sq (.reg [(oM 8 (.ld true 2 (.t 1))), (oC 9 39 [(.t 8)]), (oV 7 9), (oP 10 (.ext 0 (.t 7))), (oP 11 (.ext 1 (.t 7))), (oV 3 10), (oV 4 11)]) (.sq (.sq (.reg [(oV 12 3), (oP 13 (.len false (.t 12))), (oP 14 (.bin false .gtr (.t 13) (cI 16))), (oV 15 14), (oQ 16 15 false (.mv (.t 4))), (oQ 17 15 false (.len false (.t 16))), (oQ 18 15 false (.bin false .gtr (.t 17) (cI 64))), (oP 19 (.pick (.t 15) (cB true) (.t 18))), (oV 20 19), (oQ 21 20 false (.mv (.t 3))), (oG 22 20 false (.call 40 [(.t 21)])), (oP 23 (.pick (.t 20) (cB true) (.t 22))), (oV 24 23), (oQ 25 24 false (.mv (.t 4))), (oG 26 24 false (.call 40 [(.t 25)])), (oP 27 (.pick (.t 24) (cB true) (.t 26)))]) (.cd (.t 27) (.sq (.reg [(oP 2 (.mv (cI 20)))]) .rt) .sk)) (.sq (.sq (.reg [(oP 28 (.fa 1 (.t 1))), (oL 29 28), (oP 30 (.len false (.t 29))), (oP 31 (.mv (cI 0)))]) (.bk 0 (.lp 0 fg_f26_0 tb_f26_0))) (.sq (.sq (.reg [(oM 44 (.ld true 2 (.t 1))), (oC 45 29 [(.t 44)]), (oP 46 (.len false (.t 45))), (oP 47 (.bin false .gtr (.t 46) (cI 4096)))]) (.cd (.t 47) (.sq (.reg [(oP 2 (.mv (cI 20)))]) .rt) .sk)) (.sq (.reg [(oP 2 (.mv (cI 0)))]) .rt))))))
def rv_f26 : List (RV × Option Ty) := [((.t 2), some tI)]
abbrev sh_f26_0 : Sh := ⟨[(1, .ptr 1 0), (29, .ty (.sl tySymbol)), (30, .ty tI), (31, .ty tI)], [(1, .box tyImage)]⟩
def st_f26_0 (x29 : (List Symbol)) (x30 : Int) (x31 : Int) (y1 : Image) : VS := sh_f26_0.st ((), x29, x30, x31, ()) (y1, ())
abbrev sh_f26_0_ret : Sh := ⟨[(2, .ty tI)], []⟩
def st_f26_0_ret (x2 : Int) : VS := sh_f26_0_ret.st (x2, ()) ()
abbrev sh_f26_0_e0 : Sh := ⟨[(1, .ptr 1 0)], [(1, .box tyImage)]⟩
def st_f26_0_e0 (y1 : Image) : VS := sh_f26_0_e0.st ((), ()) (y1, ())
-- loop 0: (x29 : (List Symbol)) (x30 : Int) (x31 : Int) (y1 : Image); out: ('ret',) (x2 : Int); ('exit', 0) (y1 : Image)
def L_f26_0 : VS → Option (Bool × List (Bool × Exit × VS)) := mkL sh_f26_0 (fun x y => (rngOk x.2.1 x.2.2.1 x.2.2.2.1)) (fun x y => [(((x.2.1.drop x.2.2.2.1.toNat).any badV), .ret, st_f26_0_ret (20)), (true, .exit 0, st_f26_0_e0 (y.1))])
def g_f26 : G := ⟨TYs, [], 48, EL [(29, sp_f29), (39, sp_f39), (40, sp_f40)], keeps, (Ls [L_f26_0]), IL [], RL []⟩
def b_f26_0 (x29 : (List Symbol)) (x30 : Int) (x31 : Int) (y1 : Image) : Option (Exit × VS) :=
  br ((ilt x31 x30))
    (br (cIx x29 x31)
      (br ((ilt (((lgt tySymbol x29 (Int.toNat x31)).2).1) 0))
        (some (.ret, st_f26_0_ret 20))
        (br ((ige (((lgt tySymbol x29 (Int.toNat x31)).2).1) 4294967296))
          (some (.ret, st_f26_0_ret 20))
          (some (.normal, st_f26_0 x29 x30 (iadd .i64 x31 1) y1))))
      (none))
    (some (.exit 0, st_f26_0_e0 y1))
noncomputable def lp_f26_0 (x29 : (List Symbol)) (x30 : Int) (x31 : Int) (y1 : Image) : Option (Exit × VS) := loopF (roundF g_f26 fg_f26_0 tb_f26_0) (st_f26_0 x29 x30 x31 y1)
noncomputable def n_f26_0 (x29 : (List Symbol)) (x30 : Int) (x31 : Int) (y1 : Image) : Option (Exit × VS) :=
  br ((ilt x31 x30))
    (br (cIx x29 x31)
      (br ((ilt (((lgt tySymbol x29 (Int.toNat x31)).2).1) 0))
        (some (.ret, st_f26_0_ret 20))
        (br ((ige (((lgt tySymbol x29 (Int.toNat x31)).2).1) 4294967296))
          (some (.ret, st_f26_0_ret 20))
          (lp_f26_0 x29 x30 (iadd .i64 x31 1) y1)))
      (none))
    (some (.exit 0, st_f26_0_e0 y1))
def la_f26_0 (x29 : (List Symbol)) (x30 : Int) (x31 : Int) (y1 : Image) : Option (Exit × VS) := br ((x29.drop x31.toNat).any badV) (some (.ret, st_f26_0_ret (20))) <| some (.exit 0, st_f26_0_e0 (y1))
theorem be_f26_0 (x29 : (List Symbol)) (x30 : Int) (x31 : Int) (y1 : Image) : roundF g_f26 fg_f26_0 tb_f26_0 (st_f26_0 x29 x30 x31 y1) = b_f26_0 x29 x30 x31 y1 := by kernel_rfl
theorem ln_f26_0 (x29 : (List Symbol)) (x30 : Int) (x31 : Int) (y1 : Image) : lp_f26_0 x29 x30 x31 y1 = n_f26_0 x29 x30 x31 y1 := (loopF_nxt _ _).trans (by
  rw [be_f26_0]
  simp only [b_f26_0, n_f26_0, nxt_br, nxt_n, nxt_r, nxt_e, nxt_0]
  rfl)
def r_f26 (p0 : Image) : Option (V × List VO) :=
  br ((imgOk p0))
    (br ((igt (llen ((namesF p0).1)) 16))
      (some (.t tI 20, []))
      (br ((igt (llen ((namesF p0).2)) 64))
        (some (.t tI 20, []))
        (br ((lenS ((namesF p0).1)))
          (br ((wrongF ((namesF p0).1)))
            (some (.t tI 20, []))
            (br ((lenS ((namesF p0).2)))
              (br ((wrongF ((namesF p0).2)))
                (some (.t tI 20, []))
                (br ((rngOk p0.2.1 (llen p0.2.1) (0 : Int)))
                  (br (((p0.2.1.drop (0 : Int).toNat).any badV))
                    (some (.t tI (20), []))
                    (br ((wrOk (p0)))
                      (br ((igt (llen (writtenF (p0))) 4096))
                        (some (.t tI 20, []))
                        (some (.t tI 0, [])))
                      (none)))
                  (none)))
              (none)))
          (none))))
    (none)
theorem e_f26 (p0 : Image) : runF g_f26 tc_f26 rv_f26 false [.t tyImage p0] [] = r_f26 p0 := by kernel_rfl
theorem ok_f26 : Option.map (trC Try.prog) Try.f26.body = some tc_f26.er := by kernel_rfl
theorem rok_f26 : trVs Try.prog Try.f26.results.toList = some (rv_f26.map Prod.fst) := by kernel_rfl
theorem en_f26 : Entered Try.prog 26 := .inr ⟨by decide, _, Try.func26, by kernel_rfl, by kernel_rfl⟩
theorem gk_f26 : GOk Try.prog g_f26 := gok_of _ (by
  intro p hp
  simp only [List.mem_cons, List.not_mem_nil, or_false] at hp
  rcases hp with rfl | rfl | rfl
  · exact ⟨en_f29, ms_f29⟩
  · exact ⟨en_f39, ms_f39⟩
  · exact ⟨en_f40, ms_f40⟩)
theorem l_f26_0 (x29 : (List Symbol)) (x30 : Int) (x31 : Int) (y1 : Image) (h : (rngOk x29 x30 x31) = true) : lp_f26_0 x29 x30 x31 y1 = la_f26_0 x29 x30 x31 y1 := by
  obtain ⟨rfl, h3, k, rfl, hk⟩ := rng_k h
  clear h
  refine range_ind x29 (fun k => lp_f26_0 x29 (x29.length : Int) (k : Int) y1 = la_f26_0 x29 (x29.length : Int) (k : Int) y1) ?_ ?_ k hk
  · rw [ln_f26_0]
    simp [n_f26_0, la_f26_0, ilt_nat, br_false]
  · intro k hk ih
    rw [ln_f26_0]
    simp only [n_f26_0, ilt_nat, cIx_nat, hk, decide_true, br_true, Int.toNat_natCast, add1 (show k < 4611686018427387904 by omega), lgt_get (y := tySymbol) hk, ih]
    simp only [la_f26_0, Int.toNat_natCast, List.drop_eq_getElem_cons hk, List.any_cons, badV]
    cases ilt x29[k].2.1 0 <;> cases ige x29[k].2.1 4294967296 <;> simp [br_true, br_false] <;> rfl
theorem lo_f26_0 : ∀ S l p, g_f26.L 0 (fgt fg_f26_0 S) = some (true, l) → pickA l = some p → loopF (roundF g_f26 fg_f26_0 tb_f26_0) S = some p :=
  lok_of (s := sh_f26_0) ⟨by decide, by decide⟩ (by kernel_rfl) fun x y hok p hp => by
  simp only [pickA_br, pickA_one] at hp
  exact (l_f26_0 x.2.1 x.2.2.1 x.2.2.2.1 y.1 (by simpa using hok)).trans hp
theorem lk_f26 : tc_f26.lok g_f26 := by
  repeat (first | exact trivial | exact lo_f26_0 | refine ⟨?_, ?_⟩)
theorem s_f26 (x : Image) (h : chkOk x = true) : r_f26 x = some (.t tI (checkX x), []) := by
  have hw : wrOk x = true := h
  obtain ⟨n1, n2⟩ := wr_names hw
  have hi : imgOk x = true := by simp only [wrOk, Bool.and_eq_true] at hw; exact hw.1
  have hl : x.2.1.length ≤ 100000 := by simp only [imgOk, decide_eq_true_eq] at hi; exact hi.2
  have e1 : igt (llen (namesF x).1) 16 = decide (16 < x.1.length) := by simp [igt, llen, namesF]; omega
  have e2 : igt (llen (namesF x).2) 64 = decide (64 < x.2.1.length) := by simp [igt, llen, namesF]; omega
  have e3 : igt (llen (writtenF x)) 4096 = decide (4096 < (writtenF x).length) := by simp [igt, llen]; omega
  simp only [r_f26, hi, n1, n2, hw, br_true, e1, e2, e3, rng_0 hl, Int.toNat_zero, List.drop_zero]
  unfold checkX badX
  cases decide (16 < x.1.length) <;> cases decide (64 < x.2.1.length) <;> cases wrongF (namesF x).1 <;> cases wrongF (namesF x).2 <;> cases x.2.1.any badV <;> cases decide (4096 < (writtenF x).length) <;> rfl
def sp_f26 : Ent := spec (.pr tyImage .nil) (fun x => (chkOk x.1)) (fun x => (.t tI (checkX x.1)))
theorem ms_f26 : Meets Try.prog 26 (strip sp_f26) := by
  obtain ⟨c, hc, hi⟩ := Option.map_eq_some_iff.1 ok_f26
  exact meets_spec (R := runF g_f26 tc_f26 rv_f26 false) (meets_of (by decide) Try.func26 hc hi Try.ntmps26 rok_f26 gk_f26 lk_f26 mixed) fun x hok => (e_f26 x.1).trans (s_f26 x.1 hok)
def encX (x : Image) : List Int × Int := bif badX x then ([], 20) else (writtenF x, 0)
/-- cipherplan/executable.Encode -/
def tc_f15 : TC := (.sq (.reg [(oM 1 (.box (.t 0))), (oP 2 (.mv (.c (.v (.slice none 0 0))))), (oP 3 (.mv (cI 0)))]) (.sq (.sq (.reg [(oM 4 (.ld true 2 (.t 1))), (oC 5 26 [(.t 4)]), (oP 6 (.bin false .neq (.t 5) (cI 0)))]) (.cd (.t 6) (.sq (.reg [(oP 2 (.mv (.c (.v (.slice none 0 0))))), (oP 3 (.mv (cI 20)))]) .rt) .sk)) (.sq (.reg [(oM 7 (.ld true 2 (.t 1))), (oC 8 29 [(.t 7)]), (oV 2 8), (oP 3 (.mv (cI 0)))]) .rt)))
def rv_f15 : List (RV × Option Ty) := [((.t 2), some (.sl (.int .u8))), ((.t 3), some tI)]
def g_f15 : G := ⟨TYs, [], 9, EL [(26, sp_f26), (29, sp_f29)], keeps, (fun _ _ => none), IL [], RL []⟩
def r_f15 (p0 : Image) : Option (V × List VO) :=
  br ((chkOk p0))
    (br ((ine (checkX p0) 0))
      (some (.tu [(.t (.sl (.int .u8)) ([] : List Int)), (.t tI 20)], []))
      (br ((wrOk p0))
        (some (.tu [(.t (.sl (.int .u8)) (writtenF p0)), (.t tI 0)], []))
        (none)))
    (none)
theorem e_f15 (p0 : Image) : runF g_f15 tc_f15 rv_f15 false [.t tyImage p0] [] = r_f15 p0 := by kernel_rfl
theorem ok_f15 : Option.map (trC Try.prog) Try.f15.body = some tc_f15.er := by kernel_rfl
theorem rok_f15 : trVs Try.prog Try.f15.results.toList = some (rv_f15.map Prod.fst) := by kernel_rfl
theorem en_f15 : Entered Try.prog 15 := .inr ⟨by decide, _, Try.func15, by kernel_rfl, by kernel_rfl⟩
theorem gk_f15 : GOk Try.prog g_f15 := gok_of _ (by
  intro p hp
  simp only [List.mem_cons, List.not_mem_nil, or_false] at hp
  rcases hp with rfl | rfl
  · exact ⟨en_f26, ms_f26⟩
  · exact ⟨en_f29, ms_f29⟩)
theorem lk_f15 : tc_f15.lok g_f15 := by repeat (first | exact trivial | refine ⟨?_, ?_⟩)
theorem s_f15 (x : Image) (h : chkOk x = true) : r_f15 x = some (.tu [.t (.sl (.int .u8)) (encX x).1, .t tI (encX x).2], []) := by
  simp only [r_f15, h, show wrOk x = true from h, br_true, checkX, encX]
  cases badX x <;> rfl
def sp_f15 : Ent := spec (.pr tyImage .nil) (fun x => (chkOk x.1)) (fun x => (.tu [(.t (.sl (.int .u8)) ((encX x.1).1)), (.t tI ((encX x.1).2))]))
theorem ms_f15 : Meets Try.prog 15 (strip sp_f15) := by
  obtain ⟨c, hc, hi⟩ := Option.map_eq_some_iff.1 ok_f15
  exact meets_spec (R := runF g_f15 tc_f15 rv_f15 false) (meets_of (by decide) Try.func15 hc hi Try.ntmps15 rok_f15 gk_f15 lk_f15 mixed) fun x hok => (e_f15 x.1).trans (s_f15 x.1 hok)
/-! the answer's -/
theorem ishr_0 (n : Int) : ishr .i64 n 0 = n := by simp [ishr]
theorem numL_1 (n : Int) : numL n 1 = [icv .u8 n] := by
  show [icv .u8 (ishr .i64 n ((8 * 0 : Nat) : Int))] = _
  rw [show ((8 * 0 : Nat) : Int) = 0 from rfl, ishr_0]
theorem numL_2 (n : Int) : numL n 2 = [icv .u8 (ishr .i64 n 8), icv .u8 n] := by
  show icv .u8 (ishr .i64 n ((8 * 1 : Nat) : Int)) :: numL n 1 = _
  rw [numL_1]
  rfl
theorem numL_4 (n : Int) : numL n 4 = [icv .u8 (ishr .i64 n 24), icv .u8 (ishr .i64 n 16), icv .u8 (ishr .i64 n 8), icv .u8 n] := by
  show icv .u8 (ishr .i64 n ((8 * 3 : Nat) : Int)) :: icv .u8 (ishr .i64 n ((8 * 2 : Nat) : Int)) :: numL n 2 = _
  rw [numL_2]
  rfl
def dr_f20_0 : List DO := [(.mk (oV 25 3) []), (.mk (oP 26 (.fa 0 (.t 5))) []), (.mk (oL 27 26) [1]), (.mk (oP 28 (.len true (.t 27))) [2]), (.mk (oP 29 (.cv .u8 (.t 28))) [3]), (.mk (oM 30 (.bs 5 1 1 [(.v (.int .u8 0))] [(0, 1, (.t 29))])) [4]), (.mk (oM 31 (.app 5 1 1 (.t 25) (.t 30))) [0, 5]), (.mk (oP 32 (.fa 0 (.t 5))) []), (.mk (oL 33 32) [7]), (.mk (oM 34 (.app 5 1 1 (.t 31) (.t 33))) [6, 8, 6]), (.mk (oV 3 34) [9, 9, 0, 1, 2, 3, 4, 5, 6, 7, 8, 9])]
def dr_f20_1 : List DO := [(.mk (oV 35 3) []), (.mk (oP 36 (.fa 1 (.t 5))) []), (.mk (oL 37 36) [1]), (.mk (oP 38 (.len false (.t 37))) [2]), (.mk (oP 39 (.bin false .shr (.t 38) (.c (.v (.int .u64 8))))) [3]), (.mk (oP 40 (.cv .u8 (.t 39))) [4]), (.mk (oP 41 (.fa 1 (.t 5))) []), (.mk (oL 42 41) [6]), (.mk (oP 43 (.len false (.t 42))) [7]), (.mk (oP 44 (.cv .u8 (.t 43))) [8]), (.mk (oM 45 (.bs 5 1 2 [(.v (.int .u8 0)), (.v (.int .u8 0))] [(0, 1, (.t 40)), (1, 1, (.t 44))])) [5, 9]), (.mk (oM 46 (.app 5 1 1 (.t 35) (.t 45))) [0, 10]), (.mk (oP 47 (.fa 1 (.t 5))) []), (.mk (oL 48 47) [12]), (.mk (oM 49 (.app 5 1 1 (.t 46) (.t 48))) [11, 13, 11]), (.mk (oV 3 49) [14, 14, 0, 1, 2, 3, 4, 5, 6, 7, 8, 9, 10, 11, 12, 13, 14])]
def dr_f20_2 : List DO := [(.mk (oV 69 3) []), (.mk (oP 70 (.fa 0 (.t 7))) []), (.mk (oL 71 70) [1]), (.mk (oP 72 (.len true (.t 71))) [2]), (.mk (oP 73 (.cv .u8 (.t 72))) [3]), (.mk (oM 74 (.bs 5 1 1 [(.v (.int .u8 0))] [(0, 1, (.t 73))])) [4]), (.mk (oM 75 (.app 5 1 1 (.t 69) (.t 74))) [0, 5]), (.mk (oP 76 (.fa 0 (.t 7))) []), (.mk (oL 77 76) [7]), (.mk (oM 78 (.app 5 1 1 (.t 75) (.t 77))) [6, 8, 6]), (.mk (oV 3 78) [9, 9, 0, 1, 2, 3, 4, 5, 6, 7, 8, 9])]
def fg_f20_0 : Fg := ⟨[(1, none), (3, none), (4, some tI)], [(1, some tyImage), (3, none), (12, none), (31, none), (34, none), (46, none), (49, none), (56, none), (75, none), (78, none), (96, none)]⟩
def tb_f20_0 : TC := (.sq (.sq (.reg [(oV 13 4), (oP 14 (.fa 0 (.t 1))), (oL 15 14), (oP 16 (.len false (.t 15))), (oP 17 (.bin false .lss (.t 13) (.t 16)))]) (.cd (.t 17) .sk (.fg ⟨[(1, none), (3, none)], [(1, some tyImage), (3, none), (12, none), (31, none), (34, none), (46, none), (49, none), (56, none), (75, none), (78, none), (96, none)]⟩ (.ex 0)))) (.sq (.bk 1 (.sq (.reg [(oP 20 (.fa 0 (.t 1))), (oL 21 20), (oV 22 4), (oP 23 (.ix 2 (.t 21) (.t 22))), (oM 24 (.ld true 2 (.t 23))), (oM 5 (.new [(.v (.string (ByteArray.mk #[]))), (.v (.slice none 0 0))])), (.mk none none (.m (.st 2 (.t 5) (.t 24))))]) (.sq (.dr dr_f20_0 [(0, [3, 12, 31, 34, 46, 49, 56, 75, 78, 96]), (1, [5]), (2, [5]), (3, []), (4, []), (5, []), (6, [3, 12, 31, 34, 46, 49, 56, 75, 78, 96, 5031, 10031, 15031]), (7, [5]), (8, [5]), (9, [3, 12, 31, 34, 46, 49, 56, 75, 78, 96, 5034, 10034, 15034]), (10, [3, 12, 31, 34, 46, 49, 56, 75, 78, 96])] (.of [0, 1, 2, 3, 4, 5, 7, 8, 6, 9, 10])) (.dr dr_f20_1 [(0, [3, 12, 31, 34, 46, 49, 56, 75, 78, 96]), (1, [5]), (2, [5]), (3, []), (4, []), (5, []), (6, [5]), (7, [5]), (8, []), (9, []), (10, []), (11, [3, 12, 31, 34, 46, 49, 56, 75, 78, 96, 5046, 10046, 15046]), (12, [5]), (13, [5]), (14, [3, 12, 31, 34, 46, 49, 56, 75, 78, 96, 5049, 10049, 15049]), (15, [3, 12, 31, 34, 46, 49, 56, 75, 78, 96])] (.of [0, 1, 2, 3, 4, 5, 6, 7, 8, 9, 10, 12, 13, 11, 14, 15]))))) (.reg [(oV 18 4), (oP 19 (.bin false .add (.t 18) (cI 1))), (oV 4 19)])))
def fg_f20_1 : Fg := ⟨[(1, none), (3, none), (6, some tI)], [(1, some tyImage), (3, none), (12, none), (31, none), (34, none), (46, none), (49, none), (56, none), (75, none), (78, none), (96, none)]⟩
def tb_f20_1 : TC := (.sq (.sq (.reg [(oV 57 6), (oP 58 (.fa 1 (.t 1))), (oL 59 58), (oP 60 (.len false (.t 59))), (oP 61 (.bin false .lss (.t 57) (.t 60)))]) (.cd (.t 61) .sk (.fg ⟨[(3, none)], [(3, none), (12, none), (31, none), (34, none), (46, none), (49, none), (56, none), (75, none), (78, none), (96, none)]⟩ (.ex 2)))) (.sq (.bk 3 (.sq (.reg [(oP 64 (.fa 1 (.t 1))), (oL 65 64), (oV 66 6), (oP 67 (.ix 2 (.t 65) (.t 66))), (oM 68 (.ld true 2 (.t 67))), (oM 7 (.new [(.v (.string (ByteArray.mk #[]))), (.v (.int .i64 0))])), (.mk none none (.m (.st 2 (.t 7) (.t 68))))]) (.sq (.dr dr_f20_2 [(0, [3, 12, 31, 34, 46, 49, 56, 75, 78, 96]), (1, [7]), (2, [7]), (3, []), (4, []), (5, []), (6, [3, 12, 31, 34, 46, 49, 56, 75, 78, 96, 5075, 10075, 15075]), (7, [7]), (8, [7]), (9, [3, 12, 31, 34, 46, 49, 56, 75, 78, 96, 5078, 10078, 15078]), (10, [3, 12, 31, 34, 46, 49, 56, 75, 78, 96])] (.of [0, 1, 2, 3, 4, 5, 7, 8, 6, 9, 10])) (.reg [(oV 79 3), (oP 80 (.fa 1 (.t 7))), (oL 81 80), (oP 82 (.bin false .shr (.t 81) (.c (.v (.int .u64 24))))), (oP 83 (.cv .u8 (.t 82))), (oP 84 (.fa 1 (.t 7))), (oL 85 84), (oP 86 (.bin false .shr (.t 85) (.c (.v (.int .u64 16))))), (oP 87 (.cv .u8 (.t 86))), (oP 88 (.fa 1 (.t 7))), (oL 89 88), (oP 90 (.bin false .shr (.t 89) (.c (.v (.int .u64 8))))), (oP 91 (.cv .u8 (.t 90))), (oP 92 (.fa 1 (.t 7))), (oL 93 92), (oP 94 (.cv .u8 (.t 93))), (oM 95 (.bs 5 1 4 [(.v (.int .u8 0)), (.v (.int .u8 0)), (.v (.int .u8 0)), (.v (.int .u8 0))] [(0, 1, (.t 83)), (1, 1, (.t 87)), (2, 1, (.t 91)), (3, 1, (.t 94))])), (oM 96 (.app 5 1 1 (.t 79) (.t 95))), (oV 3 96)])))) (.reg [(oV 62 6), (oP 63 (.bin false .add (.t 62) (cI 1))), (oV 6 63)])))
/-- cipherplan/cipherplanref10.put -/
def tc_f20 : TC := (.sq (.reg [(oM 1 (.box (.t 0))), (oP 2 (.mv (.c (.v (.slice none 0 0)))))]) (.sq (.reg [(oP 8 (.fa 0 (.t 1))), (oL 9 8), (oP 10 (.len false (.t 9))), (oP 11 (.cv .u8 (.t 10))), (oM 12 (.bs 5 1 4 [(.v (.int .u8 0)), (.v (.int .u8 0)), (.v (.int .u8 0)), (.v (.int .u8 0))] [(0, 1, (.c (.v (.int .u8 88)))), (1, 1, (.c (.v (.int .u8 69)))), (2, 1, (.c (.v (.int .u8 1)))), (3, 1, (.t 11))])), (oV 3 12)]) (.sq (.sq (.reg [(oP 4 (.mv (cI 0)))]) (.bk 0 (.nw 3 5 (.lp 0 fg_f20_0 tb_f20_0)))) (.sq (.reg [(oV 50 3), (oP 51 (.fa 1 (.t 1))), (oL 52 51), (oP 53 (.len false (.t 52))), (oP 54 (.cv .u8 (.t 53))), (oM 55 (.bs 5 1 1 [(.v (.int .u8 0))] [(0, 1, (.t 54))])), (oM 56 (.app 5 1 1 (.t 50) (.t 55))), (oV 3 56)]) (.sq (.sq (.reg [(oP 6 (.mv (cI 0)))]) (.bk 2 (.nw 3 5 (.lp 1 fg_f20_1 tb_f20_1)))) (.sq (.reg [(oV 97 3), (oV 2 97)]) .rt))))))
def rv_f20 : List (RV × Option Ty) := [((.t 2), none)]
abbrev sh_f20_0 : Sh := ⟨[(1, .ptr 1 0), (3, .ms 12), (4, .ty tI)], [(1, .box tyImage), (3, .no), (12, .arr 5 (.int .u8)), (31, .no), (34, .no), (46, .no), (49, .no), (56, .no), (75, .no), (78, .no), (96, .no)]⟩
def st_f20_0 (x4 : Int) (y1 : Image) (y12 : (List Int)) : VS := sh_f20_0.st ((), (), x4, ()) (y1, (), y12, (), (), (), (), (), (), (), (), ())
abbrev sh_f20_0_e0 : Sh := ⟨[(1, .ptr 1 0), (3, .ms 12)], [(1, .box tyImage), (3, .no), (12, .arr 5 (.int .u8)), (31, .no), (34, .no), (46, .no), (49, .no), (56, .no), (75, .no), (78, .no), (96, .no)]⟩
def st_f20_0_e0 (y1 : Image) (y12 : (List Int)) : VS := sh_f20_0_e0.st ((), (), ()) (y1, (), y12, (), (), (), (), (), (), (), (), ())
-- loop 0: (x4 : Int) (y1 : Image) (y12 : (List Int)); out: ('exit', 0) (y1 : Image) (y12 : (List Int))
abbrev sh_f20_1 : Sh := ⟨[(1, .ptr 1 0), (3, .ms 12), (6, .ty tI)], [(1, .box tyImage), (3, .no), (12, .arr 5 (.int .u8)), (31, .no), (34, .no), (46, .no), (49, .no), (56, .no), (75, .no), (78, .no), (96, .no)]⟩
def st_f20_1 (x6 : Int) (y1 : Image) (y12 : (List Int)) : VS := sh_f20_1.st ((), (), x6, ()) (y1, (), y12, (), (), (), (), (), (), (), (), ())
abbrev sh_f20_1_e2 : Sh := ⟨[(3, .ms 12)], [(3, .no), (12, .arr 5 (.int .u8)), (31, .no), (34, .no), (46, .no), (49, .no), (56, .no), (75, .no), (78, .no), (96, .no)]⟩
def st_f20_1_e2 (y12 : (List Int)) : VS := sh_f20_1_e2.st ((), ()) ((), y12, (), (), (), (), (), (), (), (), ())
-- loop 1: (x6 : Int) (y1 : Image) (y12 : (List Int)); out: ('exit', 2) (y12 : (List Int))
def L_f20_0 : VS → Option (Bool × List (Bool × Exit × VS)) := mkL sh_f20_0 (fun x y => (decide (0 ≤ x.2.2.1 ∧ x.2.2.1 ≤ y.1.1.length ∧ y.1.1.length ≤ 100000 ∧ y.2.2.1.length + ((y.1.1.drop x.2.2.1.toNat).flatMap secB).length ≤ 17592186044416))) (fun x y => [(true, .exit 0, st_f20_0_e0 (y.1) (y.2.2.1 ++ (y.1.1.drop x.2.2.1.toNat).flatMap secB))])
def L_f20_1 : VS → Option (Bool × List (Bool × Exit × VS)) := mkL sh_f20_1 (fun x y => (decide (0 ≤ x.2.2.1 ∧ x.2.2.1 ≤ y.1.2.1.length ∧ y.1.2.1.length ≤ 100000 ∧ y.2.2.1.length + ((y.1.2.1.drop x.2.2.1.toNat).flatMap symB).length ≤ 17592186044416))) (fun x y => [(true, .exit 2, st_f20_1_e2 (y.2.2.1 ++ (y.1.2.1.drop x.2.2.1.toNat).flatMap symB))])
def g_f20 : G := ⟨TYs, [12], 98, EL [], keeps, (Ls [L_f20_0, L_f20_1]), IL [], RL []⟩
def b_f20_0 (x4 : Int) (y1 : Image) (y12 : (List Int)) : Option (Exit × VS) :=
  br ((ilt x4 (llen y1.1)))
    (br (cIx y1.1 x4)
      (br (cApp y12 ([(icv .u8 (slen ((lgt tySection y1.1 (Int.toNat x4)).1)))]) 1)
        (br (cApp (y12 ++ ([(icv .u8 (slen ((lgt tySection y1.1 (Int.toNat x4)).1)))])) (bytesL ((lgt tySection y1.1 (Int.toNat x4)).1)) 1)
          (br ((decide ((0 : Int) ≤ 8)))
            (br (cApp ((y12 ++ ([(icv .u8 (slen ((lgt tySection y1.1 (Int.toNat x4)).1)))])) ++ (bytesL ((lgt tySection y1.1 (Int.toNat x4)).1))) ([(icv .u8 (ishr .i64 (llen (((lgt tySection y1.1 (Int.toNat x4)).2).1)) 8)), (icv .u8 (llen (((lgt tySection y1.1 (Int.toNat x4)).2).1)))]) 1)
              (br (cApp (((y12 ++ ([(icv .u8 (slen ((lgt tySection y1.1 (Int.toNat x4)).1)))])) ++ (bytesL ((lgt tySection y1.1 (Int.toNat x4)).1))) ++ ([(icv .u8 (ishr .i64 (llen (((lgt tySection y1.1 (Int.toNat x4)).2).1)) 8)), (icv .u8 (llen (((lgt tySection y1.1 (Int.toNat x4)).2).1)))])) (((lgt tySection y1.1 (Int.toNat x4)).2).1) 1)
                (some (.normal, st_f20_0 (iadd .i64 x4 1) y1 ((((y12 ++ ([(icv .u8 (slen ((lgt tySection y1.1 (Int.toNat x4)).1)))])) ++ (bytesL ((lgt tySection y1.1 (Int.toNat x4)).1))) ++ ([(icv .u8 (ishr .i64 (llen (((lgt tySection y1.1 (Int.toNat x4)).2).1)) 8)), (icv .u8 (llen (((lgt tySection y1.1 (Int.toNat x4)).2).1)))])) ++ (((lgt tySection y1.1 (Int.toNat x4)).2).1))))
                (none))
              (none))
            (none))
          (none))
        (none))
      (none))
    (some (.exit 0, st_f20_0_e0 y1 y12))
noncomputable def lp_f20_0 (x4 : Int) (y1 : Image) (y12 : (List Int)) : Option (Exit × VS) := loopF (roundF g_f20 fg_f20_0 tb_f20_0) (st_f20_0 x4 y1 y12)
noncomputable def n_f20_0 (x4 : Int) (y1 : Image) (y12 : (List Int)) : Option (Exit × VS) :=
  br ((ilt x4 (llen y1.1)))
    (br (cIx y1.1 x4)
      (br (cApp y12 ([(icv .u8 (slen ((lgt tySection y1.1 (Int.toNat x4)).1)))]) 1)
        (br (cApp (y12 ++ ([(icv .u8 (slen ((lgt tySection y1.1 (Int.toNat x4)).1)))])) (bytesL ((lgt tySection y1.1 (Int.toNat x4)).1)) 1)
          (br ((decide ((0 : Int) ≤ 8)))
            (br (cApp ((y12 ++ ([(icv .u8 (slen ((lgt tySection y1.1 (Int.toNat x4)).1)))])) ++ (bytesL ((lgt tySection y1.1 (Int.toNat x4)).1))) ([(icv .u8 (ishr .i64 (llen (((lgt tySection y1.1 (Int.toNat x4)).2).1)) 8)), (icv .u8 (llen (((lgt tySection y1.1 (Int.toNat x4)).2).1)))]) 1)
              (br (cApp (((y12 ++ ([(icv .u8 (slen ((lgt tySection y1.1 (Int.toNat x4)).1)))])) ++ (bytesL ((lgt tySection y1.1 (Int.toNat x4)).1))) ++ ([(icv .u8 (ishr .i64 (llen (((lgt tySection y1.1 (Int.toNat x4)).2).1)) 8)), (icv .u8 (llen (((lgt tySection y1.1 (Int.toNat x4)).2).1)))])) (((lgt tySection y1.1 (Int.toNat x4)).2).1) 1)
                (lp_f20_0 (iadd .i64 x4 1) y1 ((((y12 ++ ([(icv .u8 (slen ((lgt tySection y1.1 (Int.toNat x4)).1)))])) ++ (bytesL ((lgt tySection y1.1 (Int.toNat x4)).1))) ++ ([(icv .u8 (ishr .i64 (llen (((lgt tySection y1.1 (Int.toNat x4)).2).1)) 8)), (icv .u8 (llen (((lgt tySection y1.1 (Int.toNat x4)).2).1)))])) ++ (((lgt tySection y1.1 (Int.toNat x4)).2).1)))
                (none))
              (none))
            (none))
          (none))
        (none))
      (none))
    (some (.exit 0, st_f20_0_e0 y1 y12))
def la_f20_0 (x4 : Int) (y1 : Image) (y12 : (List Int)) : Option (Exit × VS) := some (.exit 0, st_f20_0_e0 (y1) (y12 ++ (y1.1.drop x4.toNat).flatMap secB))
theorem be_f20_0 (x4 : Int) (y1 : Image) (y12 : (List Int)) : roundF g_f20 fg_f20_0 tb_f20_0 (st_f20_0 x4 y1 y12) = b_f20_0 x4 y1 y12 := by kernel_rfl
theorem ln_f20_0 (x4 : Int) (y1 : Image) (y12 : (List Int)) : lp_f20_0 x4 y1 y12 = n_f20_0 x4 y1 y12 := (loopF_nxt _ _).trans (by
  rw [be_f20_0]
  simp only [b_f20_0, n_f20_0, nxt_br, nxt_n, nxt_r, nxt_e, nxt_0]
  rfl)
def b_f20_1 (x6 : Int) (y1 : Image) (y12 : (List Int)) : Option (Exit × VS) :=
  br ((ilt x6 (llen y1.2.1)))
    (br (cIx y1.2.1 x6)
      (br (cApp y12 ([(icv .u8 (slen ((lgt tySymbol y1.2.1 (Int.toNat x6)).1)))]) 1)
        (br (cApp (y12 ++ ([(icv .u8 (slen ((lgt tySymbol y1.2.1 (Int.toNat x6)).1)))])) (bytesL ((lgt tySymbol y1.2.1 (Int.toNat x6)).1)) 1)
          (br ((decide ((0 : Int) ≤ 24)))
            (br ((decide ((0 : Int) ≤ 16)))
              (br ((decide ((0 : Int) ≤ 8)))
                (br (cApp ((y12 ++ ([(icv .u8 (slen ((lgt tySymbol y1.2.1 (Int.toNat x6)).1)))])) ++ (bytesL ((lgt tySymbol y1.2.1 (Int.toNat x6)).1))) ([(icv .u8 (ishr .i64 (((lgt tySymbol y1.2.1 (Int.toNat x6)).2).1) 24)), (icv .u8 (ishr .i64 (((lgt tySymbol y1.2.1 (Int.toNat x6)).2).1) 16)), (icv .u8 (ishr .i64 (((lgt tySymbol y1.2.1 (Int.toNat x6)).2).1) 8)), (icv .u8 (((lgt tySymbol y1.2.1 (Int.toNat x6)).2).1))]) 1)
                  (some (.normal, st_f20_1 (iadd .i64 x6 1) y1 (((y12 ++ ([(icv .u8 (slen ((lgt tySymbol y1.2.1 (Int.toNat x6)).1)))])) ++ (bytesL ((lgt tySymbol y1.2.1 (Int.toNat x6)).1))) ++ ([(icv .u8 (ishr .i64 (((lgt tySymbol y1.2.1 (Int.toNat x6)).2).1) 24)), (icv .u8 (ishr .i64 (((lgt tySymbol y1.2.1 (Int.toNat x6)).2).1) 16)), (icv .u8 (ishr .i64 (((lgt tySymbol y1.2.1 (Int.toNat x6)).2).1) 8)), (icv .u8 (((lgt tySymbol y1.2.1 (Int.toNat x6)).2).1))]))))
                  (none))
                (none))
              (none))
            (none))
          (none))
        (none))
      (none))
    (some (.exit 2, st_f20_1_e2 y12))
noncomputable def lp_f20_1 (x6 : Int) (y1 : Image) (y12 : (List Int)) : Option (Exit × VS) := loopF (roundF g_f20 fg_f20_1 tb_f20_1) (st_f20_1 x6 y1 y12)
noncomputable def n_f20_1 (x6 : Int) (y1 : Image) (y12 : (List Int)) : Option (Exit × VS) :=
  br ((ilt x6 (llen y1.2.1)))
    (br (cIx y1.2.1 x6)
      (br (cApp y12 ([(icv .u8 (slen ((lgt tySymbol y1.2.1 (Int.toNat x6)).1)))]) 1)
        (br (cApp (y12 ++ ([(icv .u8 (slen ((lgt tySymbol y1.2.1 (Int.toNat x6)).1)))])) (bytesL ((lgt tySymbol y1.2.1 (Int.toNat x6)).1)) 1)
          (br ((decide ((0 : Int) ≤ 24)))
            (br ((decide ((0 : Int) ≤ 16)))
              (br ((decide ((0 : Int) ≤ 8)))
                (br (cApp ((y12 ++ ([(icv .u8 (slen ((lgt tySymbol y1.2.1 (Int.toNat x6)).1)))])) ++ (bytesL ((lgt tySymbol y1.2.1 (Int.toNat x6)).1))) ([(icv .u8 (ishr .i64 (((lgt tySymbol y1.2.1 (Int.toNat x6)).2).1) 24)), (icv .u8 (ishr .i64 (((lgt tySymbol y1.2.1 (Int.toNat x6)).2).1) 16)), (icv .u8 (ishr .i64 (((lgt tySymbol y1.2.1 (Int.toNat x6)).2).1) 8)), (icv .u8 (((lgt tySymbol y1.2.1 (Int.toNat x6)).2).1))]) 1)
                  (lp_f20_1 (iadd .i64 x6 1) y1 (((y12 ++ ([(icv .u8 (slen ((lgt tySymbol y1.2.1 (Int.toNat x6)).1)))])) ++ (bytesL ((lgt tySymbol y1.2.1 (Int.toNat x6)).1))) ++ ([(icv .u8 (ishr .i64 (((lgt tySymbol y1.2.1 (Int.toNat x6)).2).1) 24)), (icv .u8 (ishr .i64 (((lgt tySymbol y1.2.1 (Int.toNat x6)).2).1) 16)), (icv .u8 (ishr .i64 (((lgt tySymbol y1.2.1 (Int.toNat x6)).2).1) 8)), (icv .u8 (((lgt tySymbol y1.2.1 (Int.toNat x6)).2).1))])))
                  (none))
                (none))
              (none))
            (none))
          (none))
        (none))
      (none))
    (some (.exit 2, st_f20_1_e2 y12))
def la_f20_1 (x6 : Int) (y1 : Image) (y12 : (List Int)) : Option (Exit × VS) := some (.exit 2, st_f20_1_e2 (y12 ++ (y1.2.1.drop x6.toNat).flatMap symB))
theorem be_f20_1 (x6 : Int) (y1 : Image) (y12 : (List Int)) : roundF g_f20 fg_f20_1 tb_f20_1 (st_f20_1 x6 y1 y12) = b_f20_1 x6 y1 y12 := by kernel_rfl
theorem ln_f20_1 (x6 : Int) (y1 : Image) (y12 : (List Int)) : lp_f20_1 x6 y1 y12 = n_f20_1 x6 y1 y12 := (loopF_nxt _ _).trans (by
  rw [be_f20_1]
  simp only [b_f20_1, n_f20_1, nxt_br, nxt_n, nxt_r, nxt_e, nxt_0]
  rfl)
def r_f20 (p0 : Image) : Option (V × List VO) :=
  br ((decide (0 ≤ (0 : Int) ∧ (0 : Int) ≤ p0.1.length ∧ p0.1.length ≤ 100000 ∧ ([88, 69, 1, (icv .u8 (llen p0.1))]).length + ((p0.1.drop (0 : Int).toNat).flatMap secB).length ≤ 17592186044416)))
    (br (cApp (([88, 69, 1, (icv .u8 (llen p0.1))]) ++ (p0.1.drop (0 : Int).toNat).flatMap secB) ([(icv .u8 (llen (((p0).2).1)))]) 1)
      (br ((decide (0 ≤ (0 : Int) ∧ (0 : Int) ≤ (p0).2.1.length ∧ (p0).2.1.length ≤ 100000 ∧ ((([88, 69, 1, (icv .u8 (llen p0.1))]) ++ (p0.1.drop (0 : Int).toNat).flatMap secB) ++ ([(icv .u8 (llen (((p0).2).1)))])).length + (((p0).2.1.drop (0 : Int).toNat).flatMap symB).length ≤ 17592186044416)))
        (some (.ms 50000, [.arr 5 (.int .u8) (((([88, 69, 1, (icv .u8 (llen p0.1))]) ++ (p0.1.drop (0 : Int).toNat).flatMap secB) ++ ([(icv .u8 (llen (((p0).2).1)))])) ++ ((p0).2.1.drop (0 : Int).toNat).flatMap symB)]))
        (none))
      (none))
    (none)
theorem e_f20 (p0 : Image) : runF g_f20 tc_f20 rv_f20 true [.t tyImage p0] [] = r_f20 p0 := by kernel_rfl
theorem ok_f20 : Option.map (trC Try.prog) Try.f20.body = some tc_f20.er := by kernel_rfl
theorem rok_f20 : trVs Try.prog Try.f20.results.toList = some (rv_f20.map Prod.fst) := by kernel_rfl
theorem en_f20 : Entered Try.prog 20 := .inr ⟨by decide, _, Try.func20, by kernel_rfl, by kernel_rfl⟩
theorem gk_f20 : GOk Try.prog g_f20 := gok_of _ (fun p hp => by cases hp)
theorem ilt_llen {α : Type} {l : List α} {k : Nat} : ilt (k : Int) (llen l) = decide (k < l.length) := ilt_nat
theorem l_f20_0 (x4 : Int) (y1 : Image) (y12 : (List Int)) (h : (decide (0 ≤ x4 ∧ x4 ≤ y1.1.length ∧ y1.1.length ≤ 100000 ∧ y12.length + ((y1.1.drop x4.toNat).flatMap secB).length ≤ 17592186044416)) = true) : lp_f20_0 x4 y1 y12 = la_f20_0 x4 y1 y12 := by
  simp only [decide_eq_true_eq] at h
  obtain ⟨h1, h2, h3, h4⟩ := h
  obtain ⟨k, rfl⟩ := Int.eq_ofNat_of_zero_le h1
  rw [Int.toNat_natCast] at h4
  revert y12
  refine range_ind y1.1 (fun k => ∀ y12 : List Int, y12.length + ((y1.1.drop k).flatMap secB).length ≤ 17592186044416 → lp_f20_0 (k : Int) y1 y12 = la_f20_0 (k : Int) y1 y12) ?_ ?_ k (by omega)
  · intro y12 _
    rw [ln_f20_0]
    simp [n_f20_0, la_f20_0, ilt_llen, br_false]
  · intro k hk ih y12 hy
    rw [ln_f20_0]
    rw [List.drop_eq_getElem_cons hk, List.flatMap_cons, List.length_append, secB_len] at hy
    have e5 : (((y12 ++ [icv .u8 (slen y1.1[k].1)]) ++ bytesL y1.1[k].1) ++ [icv .u8 (ishr .i64 (llen y1.1[k].2.1) 8), icv .u8 (llen y1.1[k].2.1)]) ++ y1.1[k].2.1 = y12 ++ secB y1.1[k] := by
      simp only [secB, numL_1, numL_2, List.append_assoc]
    simp only [n_f20_0, ilt_llen, cIx_nat, hk, decide_true, br_true, Int.toNat_natCast, add1 (show k < 4611686018427387904 by omega), lgt_get (y := tySection) hk]
    rw [cAppG (by simp only [List.length_singleton]; omega), br_true, cAppG (by simp only [List.length_append, List.length_singleton, bytesG_len]; omega), br_true, show decide ((0 : Int) ≤ 8) = true from rfl, br_true, cAppG (by simp only [List.length_append, List.length_cons, List.length_nil, bytesG_len]; omega), br_true, cAppG (by simp only [List.length_append, List.length_cons, List.length_nil, bytesG_len]; omega), br_true, e5]
    rw [ih _ (by rw [List.length_append, secB_len]; omega)]
    simp only [la_f20_0, Int.toNat_natCast, List.drop_eq_getElem_cons hk, List.flatMap_cons, List.append_assoc]
theorem l_f20_1 (x6 : Int) (y1 : Image) (y12 : (List Int)) (h : (decide (0 ≤ x6 ∧ x6 ≤ y1.2.1.length ∧ y1.2.1.length ≤ 100000 ∧ y12.length + ((y1.2.1.drop x6.toNat).flatMap symB).length ≤ 17592186044416)) = true) : lp_f20_1 x6 y1 y12 = la_f20_1 x6 y1 y12 := by
  simp only [decide_eq_true_eq] at h
  obtain ⟨h1, h2, h3, h4⟩ := h
  obtain ⟨k, rfl⟩ := Int.eq_ofNat_of_zero_le h1
  rw [Int.toNat_natCast] at h4
  revert y12
  refine range_ind y1.2.1 (fun k => ∀ y12 : List Int, y12.length + ((y1.2.1.drop k).flatMap symB).length ≤ 17592186044416 → lp_f20_1 (k : Int) y1 y12 = la_f20_1 (k : Int) y1 y12) ?_ ?_ k (by omega)
  · intro y12 _
    rw [ln_f20_1]
    simp [n_f20_1, la_f20_1, ilt_llen, br_false]
  · intro k hk ih y12 hy
    rw [ln_f20_1]
    rw [List.drop_eq_getElem_cons hk, List.flatMap_cons, List.length_append, symB_len] at hy
    have e5 : ((y12 ++ [icv .u8 (slen y1.2.1[k].1)]) ++ bytesL y1.2.1[k].1) ++ [icv .u8 (ishr .i64 y1.2.1[k].2.1 24), icv .u8 (ishr .i64 y1.2.1[k].2.1 16), icv .u8 (ishr .i64 y1.2.1[k].2.1 8), icv .u8 y1.2.1[k].2.1] = y12 ++ symB y1.2.1[k] := by
      simp only [symB, numL_1, numL_4, List.append_assoc]
    simp only [n_f20_1, ilt_llen, cIx_nat, hk, decide_true, br_true, Int.toNat_natCast, add1 (show k < 4611686018427387904 by omega), lgt_get (y := tySymbol) hk, show decide ((0 : Int) ≤ 24) = true from rfl, show decide ((0 : Int) ≤ 16) = true from rfl, show decide ((0 : Int) ≤ 8) = true from rfl]
    rw [cAppG (by simp only [List.length_singleton]; omega), br_true, cAppG (by simp only [List.length_append, List.length_singleton, bytesG_len]; omega), br_true, cAppG (by simp only [List.length_append, List.length_cons, List.length_nil, bytesG_len]; omega), br_true, e5]
    rw [ih _ (by rw [List.length_append, symB_len]; omega)]
    simp only [la_f20_1, Int.toNat_natCast, List.drop_eq_getElem_cons hk, List.flatMap_cons, List.append_assoc]
theorem lo_f20_0 : ∀ S l p, g_f20.L 0 (fgt fg_f20_0 S) = some (true, l) → pickA l = some p → loopF (roundF g_f20 fg_f20_0 tb_f20_0) S = some p :=
  lok_of (s := sh_f20_0) ⟨by decide, by decide⟩ (by kernel_rfl) fun x y hok p hp => by
  simp only [pickA_br, pickA_one] at hp
  exact (l_f20_0 x.2.2.1 y.1 y.2.2.1 (by simpa using hok)).trans hp
theorem lo_f20_1 : ∀ S l p, g_f20.L 1 (fgt fg_f20_1 S) = some (true, l) → pickA l = some p → loopF (roundF g_f20 fg_f20_1 tb_f20_1) S = some p :=
  lok_of (s := sh_f20_1) ⟨by decide, by decide⟩ (by kernel_rfl) fun x y hok p hp => by
  simp only [pickA_br, pickA_one] at hp
  exact (l_f20_1 x.2.2.1 y.1 y.2.2.1 (by simpa using hok)).trans hp
theorem lk_f20 : tc_f20.lok g_f20 := by
  repeat (first | exact trivial | exact lo_f20_0 | exact lo_f20_1 | refine ⟨?_, ?_⟩)
theorem s_f20 (x : Image) (h : wrOk x = true) : r_f20 x = some (.ms 50000, [.arr 5 (.int .u8) (writtenF x)]) := by
  simp only [wrOk, imgOk, Bool.and_eq_true, decide_eq_true_eq] at h
  obtain ⟨⟨h1, h2⟩, h3⟩ := h
  simp only [r_f20, Int.toNat_zero, List.drop_zero]
  rw [decide_eq_true ⟨by omega, by omega, h1, by simp only [List.length_cons, List.length_nil]; omega⟩, br_true, cAppG (by simp only [List.length_append, List.length_cons, List.length_nil]; omega), br_true, decide_eq_true ⟨by omega, by omega, h2, by simp only [List.length_append, List.length_cons, List.length_nil]; omega⟩, br_true]
  have e : ([88, 69, 1, icv .u8 (llen x.1)] : List Int) ++ x.1.flatMap secB ++ [icv .u8 (llen x.2.1)] ++ x.2.1.flatMap symB = writtenF x := by
    simp only [writtenF, numL_1, List.append_assoc]
    rfl
  rw [e]
def sp_f20 : Ent := specO (.pr tyImage .nil) (fun x => (wrOk x.1)) (fun x => (.ms 50000)) (fun x => [.arr 5 (.int .u8) (writtenF x.1)])
theorem ms_f20 : Meets Try.prog 20 (strip sp_f20) := by
  obtain ⟨c, hc, hi⟩ := Option.map_eq_some_iff.1 ok_f20
  exact meets_specO (R := runF g_f20 tc_f20 rv_f20 true) (meets_of (by decide) Try.func20 hc hi Try.ntmps20 rok_f20 gk_f20 lk_f20 mixed) fun x hok => (e_f20 x.1).trans (s_f20 x.1 hok)
def noSec : Section := (ByteArray.empty, (([] : List Int), ()))
def noSym : Symbol := (ByteArray.empty, ((0 : Int), ()))
def secsBad (l : List Section) (k : Nat) : Bool := (List.range' k (l.length - k)).any fun j => !namedG (l.getD j noSec).1 || decide (4096 < (l.getD j noSec).2.1.length) || (l.take j).any fun z => seq z.1 (l.getD j noSec).1
def symsBad (l : List Symbol) (k : Nat) : Bool := (List.range' k (l.length - k)).any fun j => !namedG (l.getD j noSym).1 || badV (l.getD j noSym) || (l.take j).any fun z => seq z.1 (l.getD j noSym).1
theorem secsBad_step {l : List Section} {k : Nat} (hk : k < l.length) : secsBad l k = ((!namedG l[k].1 || decide (4096 < l[k].2.1.length) || (l.take k).any fun z => seq z.1 l[k].1) || secsBad l (k + 1)) := by
  have : l.length - k = (l.length - (k + 1)) + 1 := by omega
  unfold secsBad
  rw [this, List.range'_succ, List.any_cons]
  simp only [List.getD_eq_getElem?_getD, List.getElem?_eq_getElem hk, Option.getD_some]
theorem symsBad_step {l : List Symbol} {k : Nat} (hk : k < l.length) : symsBad l k = ((!namedG l[k].1 || badV l[k] || (l.take k).any fun z => seq z.1 l[k].1) || symsBad l (k + 1)) := by
  have : l.length - k = (l.length - (k + 1)) + 1 := by omega
  unfold symsBad
  rw [this, List.range'_succ, List.any_cons]
  simp only [List.getD_eq_getElem?_getD, List.getElem?_eq_getElem hk, Option.getD_some]
def dr_f19_0 : List DO := [(.mk (oP 48 (.fa 0 (.t 1))) []), (.mk (oL 49 48) [0]), (.mk (oV 50 5) []), (.mk (oP 51 (.ix 2 (.t 49) (.t 50))) [1, 2]), (.mk (oP 52 (.fa 0 (.t 51))) [3]), (.mk (oL 53 52) [4]), (.mk (oP 54 (.fa 0 (.t 1))) []), (.mk (oL 55 54) [6]), (.mk (oV 56 4) []), (.mk (oP 57 (.ix 2 (.t 55) (.t 56))) [7, 8]), (.mk (oP 58 (.fa 0 (.t 57))) [9]), (.mk (oL 59 58) [10]), (.mk (oP 60 (.bin false .eql (.t 53) (.t 59))) [5, 11])]
def dr_f19_1 : List DO := [(.mk (oV 61 3) []), (.mk (oP 62 (.bin false .add (.t 61) (cI 3))) [0]), (.mk (oP 63 (.fa 0 (.t 1))) []), (.mk (oL 64 63) [2]), (.mk (oV 65 4) []), (.mk (oP 66 (.ix 2 (.t 64) (.t 65))) [3, 4]), (.mk (oP 67 (.fa 0 (.t 66))) [5]), (.mk (oL 68 67) [6]), (.mk (oP 69 (.len true (.t 68))) [7]), (.mk (oP 70 (.bin false .add (.t 62) (.t 69))) [1, 8]), (.mk (oP 71 (.fa 0 (.t 1))) []), (.mk (oL 72 71) [10]), (.mk (oV 73 4) []), (.mk (oP 74 (.ix 2 (.t 72) (.t 73))) [11, 12]), (.mk (oP 75 (.fa 1 (.t 74))) [13]), (.mk (oL 76 75) [14]), (.mk (oP 77 (.len false (.t 76))) [15]), (.mk (oP 78 (.bin false .add (.t 70) (.t 77))) [9, 16]), (.mk (oV 3 78) [17, 0, 1, 2, 3, 4, 5, 6, 7, 8, 9, 10, 11, 12, 13, 14, 15, 16, 17])]
def dr_f19_2 : List DO := [(.mk (oP 117 (.fa 1 (.t 1))) []), (.mk (oL 118 117) [0]), (.mk (oV 119 7) []), (.mk (oP 120 (.ix 2 (.t 118) (.t 119))) [1, 2]), (.mk (oP 121 (.fa 0 (.t 120))) [3]), (.mk (oL 122 121) [4]), (.mk (oP 123 (.fa 1 (.t 1))) []), (.mk (oL 124 123) [6]), (.mk (oV 125 6) []), (.mk (oP 126 (.ix 2 (.t 124) (.t 125))) [7, 8]), (.mk (oP 127 (.fa 0 (.t 126))) [9]), (.mk (oL 128 127) [10]), (.mk (oP 129 (.bin false .eql (.t 122) (.t 128))) [5, 11])]
def fg_f19_0 : Fg := ⟨[(1, none), (3, some tI), (4, some tI), (5, some tI)], [(1, some tyImage)]⟩
def tb_f19_0 : TC := (.sq (.sq (.reg [(oV 43 5), (oV 44 4), (oP 45 (.bin false .lss (.t 43) (.t 44)))]) (.cd (.t 45) .sk (.fg ⟨[(1, none), (3, some tI), (4, some tI)], [(1, some tyImage)]⟩ (.ex 2)))) (.sq (.bk 3 (.sq (.dr dr_f19_0 [(0, [1]), (1, [1]), (2, []), (3, []), (4, []), (5, []), (6, [1]), (7, [1]), (8, []), (9, []), (10, []), (11, []), (12, [])] (.of [0, 1, 2, 3, 4, 5, 6, 7, 8, 9, 10, 11, 12])) (.cd (.t 60) (.sq (.reg [(oP 2 (.mv (cI 20)))]) (.fg ⟨[(2, some tI)], []⟩ .rt)) .sk))) (.reg [(oV 46 5), (oP 47 (.bin false .add (.t 46) (cI 1))), (oV 5 47)])))
def fg_f19_1 : Fg := ⟨[(1, none), (3, some tI), (4, some tI)], [(1, some tyImage)]⟩
def tb_f19_1 : TC := (.sq (.sq (.reg [(oV 18 4), (oP 19 (.fa 0 (.t 1))), (oL 20 19), (oP 21 (.len false (.t 20))), (oP 22 (.bin false .lss (.t 18) (.t 21)))]) (.cd (.t 22) .sk (.fg ⟨[(1, none), (3, some tI)], [(1, some tyImage)]⟩ (.ex 0)))) (.sq (.bk 1 (.sq (.sq (.reg [(oP 25 (.fa 0 (.t 1))), (oL 26 25), (oV 27 4), (oP 28 (.ix 2 (.t 26) (.t 27))), (oP 29 (.fa 0 (.t 28))), (oL 30 29), (oC 31 38 [(.t 30)]), (oP 32 (.nt (.t 31))), (oV 33 32), (oQ 34 33 false (.fa 0 (.t 1))), (oG 35 33 false (.m (.ld false 1 (.t 34)))), (oQ 36 33 false (.mv (.t 4))), (oQ 37 33 false (.ix 2 (.t 35) (.t 36))), (oQ 38 33 false (.fa 1 (.t 37))), (oG 39 33 false (.m (.ld false 1 (.t 38)))), (oQ 40 33 false (.len false (.t 39))), (oQ 41 33 false (.bin false .gtr (.t 40) (cI 4096))), (oP 42 (.pick (.t 33) (cB true) (.t 41)))]) (.cd (.t 42) (.sq (.reg [(oP 2 (.mv (cI 20)))]) (.fg ⟨[(2, some tI)], []⟩ .rt)) .sk)) (.sq (.sq (.reg [(oP 5 (.mv (cI 0)))]) (.bk 2 (.lp 0 fg_f19_0 tb_f19_0))) (.dr dr_f19_1 [(0, []), (1, []), (2, [1]), (3, [1]), (4, []), (5, []), (6, []), (7, []), (8, []), (9, []), (10, [1]), (11, [1]), (12, []), (13, []), (14, []), (15, []), (16, []), (17, []), (18, [])] (.of [0, 1, 2, 3, 4, 5, 6, 7, 8, 9, 10, 11, 12, 13, 14, 15, 16, 17, 18]))))) (.reg [(oV 23 4), (oP 24 (.bin false .add (.t 23) (cI 1))), (oV 4 24)])))
def fg_f19_2 : Fg := ⟨[(1, none), (3, some tI), (6, some tI), (7, some tI)], [(1, some tyImage)]⟩
def tb_f19_2 : TC := (.sq (.sq (.reg [(oV 112 7), (oV 113 6), (oP 114 (.bin false .lss (.t 112) (.t 113)))]) (.cd (.t 114) .sk (.fg ⟨[(1, none), (3, some tI), (6, some tI)], [(1, some tyImage)]⟩ (.ex 6)))) (.sq (.bk 7 (.sq (.dr dr_f19_2 [(0, [1]), (1, [1]), (2, []), (3, []), (4, []), (5, []), (6, [1]), (7, [1]), (8, []), (9, []), (10, []), (11, []), (12, [])] (.of [0, 1, 2, 3, 4, 5, 6, 7, 8, 9, 10, 11, 12])) (.cd (.t 129) (.sq (.reg [(oP 2 (.mv (cI 20)))]) (.fg ⟨[(2, some tI)], []⟩ .rt)) .sk))) (.reg [(oV 115 7), (oP 116 (.bin false .add (.t 115) (cI 1))), (oV 7 116)])))
def fg_f19_3 : Fg := ⟨[(1, none), (3, some tI), (6, some tI)], [(1, some tyImage)]⟩
def tb_f19_3 : TC := (.sq (.sq (.reg [(oV 79 6), (oP 80 (.fa 1 (.t 1))), (oL 81 80), (oP 82 (.len false (.t 81))), (oP 83 (.bin false .lss (.t 79) (.t 82)))]) (.cd (.t 83) .sk (.fg ⟨[(3, some tI)], []⟩ (.ex 4)))) (.sq (.bk 5 (.sq (.sq (.reg [(oP 86 (.fa 1 (.t 1))), (oL 87 86), (oV 88 6), (oP 89 (.ix 2 (.t 87) (.t 88))), (oP 90 (.fa 0 (.t 89))), (oL 91 90), (oC 92 38 [(.t 91)]), (oP 93 (.nt (.t 92))), (oV 94 93), (oQ 95 94 false (.fa 1 (.t 1))), (oG 96 94 false (.m (.ld false 1 (.t 95)))), (oQ 97 94 false (.mv (.t 6))), (oQ 98 94 false (.ix 2 (.t 96) (.t 97))), (oQ 99 94 false (.fa 1 (.t 98))), (oG 100 94 false (.m (.ld false 1 (.t 99)))), (oQ 101 94 false (.bin false .lss (.t 100) (cI 0))), (oP 102 (.pick (.t 94) (cB true) (.t 101))), (oV 103 102), (oQ 104 103 false (.fa 1 (.t 1))), (oG 105 103 false (.m (.ld false 1 (.t 104)))), (oQ 106 103 false (.mv (.t 6))), (oQ 107 103 false (.ix 2 (.t 105) (.t 106))), (oQ 108 103 false (.fa 1 (.t 107))), (oG 109 103 false (.m (.ld false 1 (.t 108)))), (oQ 110 103 false (.bin false .geq (.t 109) (cI 4294967296))), (oP 111 (.pick (.t 103) (cB true) (.t 110)))]) (.cd (.t 111) (.sq (.reg [(oP 2 (.mv (cI 20)))]) (.fg ⟨[(2, some tI)], []⟩ .rt)) .sk)) (.sq (.sq (.reg [(oP 7 (.mv (cI 0)))]) (.bk 6 (.lp 2 fg_f19_2 tb_f19_2))) (.reg [(oV 130 3), (oP 131 (.bin false .add (.t 130) (cI 5))), (oP 132 (.fa 1 (.t 1))), (oL 133 132), (oV 134 6), (oP 135 (.ix 2 (.t 133) (.t 134))), (oP 136 (.fa 0 (.t 135))), (oL 137 136), (oP 138 (.len true (.t 137))), (oP 139 (.bin false .add (.t 131) (.t 138))), (oV 3 139)])))) (.reg [(oV 84 6), (oP 85 (.bin false .add (.t 84) (cI 1))), (oV 6 85)])))
/-- cipherplan/cipherplanref10.Check -/
def tc_f19 : TC := (.sq (.reg [(oM 1 (.box (.t 0))), (oP 2 (.mv (cI 0)))]) (.sq (.sq (.reg [(oP 8 (.fa 0 (.t 1))), (oL 9 8), (oP 10 (.len false (.t 9))), (oP 11 (.bin false .gtr (.t 10) (cI 16))), (oV 12 11), (oQ 13 12 false (.fa 1 (.t 1))), (oG 14 12 false (.m (.ld false 1 (.t 13)))), (oQ 15 12 false (.len false (.t 14))), (oQ 16 12 false (.bin false .gtr (.t 15) (cI 64))), (oP 17 (.pick (.t 12) (cB true) (.t 16)))]) (.cd (.t 17) (.sq (.reg [(oP 2 (.mv (cI 20)))]) .rt) .sk)) (.sq (.reg [(oP 3 (.mv (cI 5)))]) (.sq (.sq (.reg [(oP 4 (.mv (cI 0)))]) (.bk 0 (.lp 1 fg_f19_1 tb_f19_1))) (.sq (.sq (.reg [(oP 6 (.mv (cI 0)))]) (.bk 4 (.lp 3 fg_f19_3 tb_f19_3))) (.sq (.sq (.reg [(oV 140 3), (oP 141 (.bin false .gtr (.t 140) (cI 4096)))]) (.cd (.t 141) (.sq (.reg [(oP 2 (.mv (cI 20)))]) .rt) .sk)) (.sq (.reg [(oP 2 (.mv (cI 0)))]) .rt)))))))
def rv_f19 : List (RV × Option Ty) := [((.t 2), some tI)]
abbrev sh_f19_0 : Sh := ⟨[(1, .ptr 1 0), (3, .ty tI), (4, .ty tI), (5, .ty tI)], [(1, .box tyImage)]⟩
def st_f19_0 (x3 : Int) (x4 : Int) (x5 : Int) (y1 : Image) : VS := sh_f19_0.st ((), x3, x4, x5, ()) (y1, ())
abbrev sh_f19_0_ret : Sh := ⟨[(2, .ty tI)], []⟩
def st_f19_0_ret (x2 : Int) : VS := sh_f19_0_ret.st (x2, ()) ()
abbrev sh_f19_0_e2 : Sh := ⟨[(1, .ptr 1 0), (3, .ty tI), (4, .ty tI)], [(1, .box tyImage)]⟩
def st_f19_0_e2 (x3 : Int) (x4 : Int) (y1 : Image) : VS := sh_f19_0_e2.st ((), x3, x4, ()) (y1, ())
-- loop 0: (x3 : Int) (x4 : Int) (x5 : Int) (y1 : Image); out: ('ret',) (x2 : Int); ('exit', 2) (x3 : Int) (x4 : Int) (y1 : Image)
abbrev sh_f19_1 : Sh := ⟨[(1, .ptr 1 0), (3, .ty tI), (4, .ty tI)], [(1, .box tyImage)]⟩
def st_f19_1 (x3 : Int) (x4 : Int) (y1 : Image) : VS := sh_f19_1.st ((), x3, x4, ()) (y1, ())
abbrev sh_f19_1_ret : Sh := ⟨[(2, .ty tI)], []⟩
def st_f19_1_ret (x2 : Int) : VS := sh_f19_1_ret.st (x2, ()) ()
abbrev sh_f19_1_e0 : Sh := ⟨[(1, .ptr 1 0), (3, .ty tI)], [(1, .box tyImage)]⟩
def st_f19_1_e0 (x3 : Int) (y1 : Image) : VS := sh_f19_1_e0.st ((), x3, ()) (y1, ())
-- loop 1: (x3 : Int) (x4 : Int) (y1 : Image); out: ('ret',) (x2 : Int); ('exit', 0) (x3 : Int) (y1 : Image)
abbrev sh_f19_2 : Sh := ⟨[(1, .ptr 1 0), (3, .ty tI), (6, .ty tI), (7, .ty tI)], [(1, .box tyImage)]⟩
def st_f19_2 (x3 : Int) (x6 : Int) (x7 : Int) (y1 : Image) : VS := sh_f19_2.st ((), x3, x6, x7, ()) (y1, ())
abbrev sh_f19_2_ret : Sh := ⟨[(2, .ty tI)], []⟩
def st_f19_2_ret (x2 : Int) : VS := sh_f19_2_ret.st (x2, ()) ()
abbrev sh_f19_2_e6 : Sh := ⟨[(1, .ptr 1 0), (3, .ty tI), (6, .ty tI)], [(1, .box tyImage)]⟩
def st_f19_2_e6 (x3 : Int) (x6 : Int) (y1 : Image) : VS := sh_f19_2_e6.st ((), x3, x6, ()) (y1, ())
-- loop 2: (x3 : Int) (x6 : Int) (x7 : Int) (y1 : Image); out: ('ret',) (x2 : Int); ('exit', 6) (x3 : Int) (x6 : Int) (y1 : Image)
abbrev sh_f19_3 : Sh := ⟨[(1, .ptr 1 0), (3, .ty tI), (6, .ty tI)], [(1, .box tyImage)]⟩
def st_f19_3 (x3 : Int) (x6 : Int) (y1 : Image) : VS := sh_f19_3.st ((), x3, x6, ()) (y1, ())
abbrev sh_f19_3_ret : Sh := ⟨[(2, .ty tI)], []⟩
def st_f19_3_ret (x2 : Int) : VS := sh_f19_3_ret.st (x2, ()) ()
abbrev sh_f19_3_e4 : Sh := ⟨[(3, .ty tI)], []⟩
def st_f19_3_e4 (x3 : Int) : VS := sh_f19_3_e4.st (x3, ()) ()
-- loop 3: (x3 : Int) (x6 : Int) (y1 : Image); out: ('ret',) (x2 : Int); ('exit', 4) (x3 : Int)
def L_f19_0 : VS → Option (Bool × List (Bool × Exit × VS)) := mkL sh_f19_0 (fun x y => (decide (0 ≤ x.2.2.2.1 ∧ x.2.2.2.1 ≤ x.2.2.1 ∧ x.2.2.1 < y.1.1.length ∧ y.1.1.length ≤ 100000))) (fun x y => [((((y.1.1.take x.2.2.1.toNat).drop x.2.2.2.1.toNat).any fun z => seq z.1 (lgt tySection y.1.1 x.2.2.1.toNat).1), .ret, st_f19_0_ret (20)), (true, .exit 2, st_f19_0_e2 (x.2.1) (x.2.2.1) (y.1))])
def L_f19_1 : VS → Option (Bool × List (Bool × Exit × VS)) := mkL sh_f19_1 (fun x y => (chkOk y.1 && decide (0 ≤ x.2.2.1 ∧ x.2.2.1 ≤ y.1.1.length ∧ 0 ≤ x.2.1 ∧ x.2.1 + ((y.1.1.drop x.2.2.1.toNat).flatMap secB).length ≤ 17592186044416))) (fun x y => [((secsBad y.1.1 x.2.2.1.toNat), .ret, st_f19_1_ret (20)), (true, .exit 0, st_f19_1_e0 (x.2.1 + ((y.1.1.drop x.2.2.1.toNat).flatMap secB).length) (y.1))])
def L_f19_2 : VS → Option (Bool × List (Bool × Exit × VS)) := mkL sh_f19_2 (fun x y => (decide (0 ≤ x.2.2.2.1 ∧ x.2.2.2.1 ≤ x.2.2.1 ∧ x.2.2.1 < y.1.2.1.length ∧ y.1.2.1.length ≤ 100000))) (fun x y => [((((y.1.2.1.take x.2.2.1.toNat).drop x.2.2.2.1.toNat).any fun z => seq z.1 (lgt tySymbol y.1.2.1 x.2.2.1.toNat).1), .ret, st_f19_2_ret (20)), (true, .exit 6, st_f19_2_e6 (x.2.1) (x.2.2.1) (y.1))])
def L_f19_3 : VS → Option (Bool × List (Bool × Exit × VS)) := mkL sh_f19_3 (fun x y => (chkOk y.1 && decide (0 ≤ x.2.2.1 ∧ x.2.2.1 ≤ y.1.2.1.length ∧ 0 ≤ x.2.1 ∧ x.2.1 + ((y.1.2.1.drop x.2.2.1.toNat).flatMap symB).length ≤ 17592186044416))) (fun x y => [((symsBad y.1.2.1 x.2.2.1.toNat), .ret, st_f19_3_ret (20)), (true, .exit 4, st_f19_3_e4 (x.2.1 + ((y.1.2.1.drop x.2.2.1.toNat).flatMap symB).length))])
def g_f19 : G := ⟨TYs, [], 142, EL [(38, sp_f38)], keeps, (Ls [L_f19_0, L_f19_1, L_f19_2, L_f19_3]), IL [], RL []⟩
def b_f19_0 (x3 : Int) (x4 : Int) (x5 : Int) (y1 : Image) : Option (Exit × VS) :=
  br ((ilt x5 x4))
    (br (cIx y1.1 x5)
      (br (cIx y1.1 x4)
        (br ((seq ((lgt tySection y1.1 (Int.toNat x5)).1) ((lgt tySection y1.1 (Int.toNat x4)).1)))
          (some (.ret, st_f19_0_ret 20))
          (some (.normal, st_f19_0 x3 x4 (iadd .i64 x5 1) y1)))
        (none))
      (none))
    (some (.exit 2, st_f19_0_e2 x3 x4 y1))
noncomputable def lp_f19_0 (x3 : Int) (x4 : Int) (x5 : Int) (y1 : Image) : Option (Exit × VS) := loopF (roundF g_f19 fg_f19_0 tb_f19_0) (st_f19_0 x3 x4 x5 y1)
noncomputable def n_f19_0 (x3 : Int) (x4 : Int) (x5 : Int) (y1 : Image) : Option (Exit × VS) :=
  br ((ilt x5 x4))
    (br (cIx y1.1 x5)
      (br (cIx y1.1 x4)
        (br ((seq ((lgt tySection y1.1 (Int.toNat x5)).1) ((lgt tySection y1.1 (Int.toNat x4)).1)))
          (some (.ret, st_f19_0_ret 20))
          (lp_f19_0 x3 x4 (iadd .i64 x5 1) y1))
        (none))
      (none))
    (some (.exit 2, st_f19_0_e2 x3 x4 y1))
def la_f19_0 (x3 : Int) (x4 : Int) (x5 : Int) (y1 : Image) : Option (Exit × VS) := br (((y1.1.take x4.toNat).drop x5.toNat).any fun z => seq z.1 (lgt tySection y1.1 x4.toNat).1) (some (.ret, st_f19_0_ret (20))) <| some (.exit 2, st_f19_0_e2 (x3) (x4) (y1))
theorem be_f19_0 (x3 : Int) (x4 : Int) (x5 : Int) (y1 : Image) : roundF g_f19 fg_f19_0 tb_f19_0 (st_f19_0 x3 x4 x5 y1) = b_f19_0 x3 x4 x5 y1 := by kernel_rfl
theorem ln_f19_0 (x3 : Int) (x4 : Int) (x5 : Int) (y1 : Image) : lp_f19_0 x3 x4 x5 y1 = n_f19_0 x3 x4 x5 y1 := (loopF_nxt _ _).trans (by
  rw [be_f19_0]
  simp only [b_f19_0, n_f19_0, nxt_br, nxt_n, nxt_r, nxt_e, nxt_0]
  rfl)
def b_f19_1 (x3 : Int) (x4 : Int) (y1 : Image) : Option (Exit × VS) :=
  br ((ilt x4 (llen y1.1)))
    (br (cIx y1.1 x4)
      (br ((nameG ((lgt tySection y1.1 (Int.toNat x4)).1)))
        (br ((!(namedG ((lgt tySection y1.1 (Int.toNat x4)).1))))
          (some (.ret, st_f19_1_ret 20))
          (br (cIx y1.1 x4)
            (br ((igt (llen (((lgt tySection y1.1 (Int.toNat x4)).2).1)) 4096))
              (some (.ret, st_f19_1_ret 20))
              (br ((decide (0 ≤ (0 : Int) ∧ (0 : Int) ≤ x4 ∧ x4 < y1.1.length ∧ y1.1.length ≤ 100000)))
                (br ((((y1.1.take x4.toNat).drop (0 : Int).toNat).any fun z => seq z.1 (lgt tySection y1.1 x4.toNat).1))
                  (some (.ret, st_f19_1_ret (20)))
                  (br (cIx ((y1).1) (x4))
                    (br (cIx ((y1).1) (x4))
                      (some (.normal, st_f19_1 (iadd .i64 (iadd .i64 (iadd .i64 (x3) 3) (slen ((lgt tySection ((y1).1) (Int.toNat (x4))).1))) (llen (((lgt tySection ((y1).1) (Int.toNat (x4))).2).1))) (iadd .i64 (x4) 1) (y1)))
                      (none))
                    (none)))
                (none)))
            (none)))
        (none))
      (none))
    (some (.exit 0, st_f19_1_e0 x3 y1))
noncomputable def lp_f19_1 (x3 : Int) (x4 : Int) (y1 : Image) : Option (Exit × VS) := loopF (roundF g_f19 fg_f19_1 tb_f19_1) (st_f19_1 x3 x4 y1)
noncomputable def n_f19_1 (x3 : Int) (x4 : Int) (y1 : Image) : Option (Exit × VS) :=
  br ((ilt x4 (llen y1.1)))
    (br (cIx y1.1 x4)
      (br ((nameG ((lgt tySection y1.1 (Int.toNat x4)).1)))
        (br ((!(namedG ((lgt tySection y1.1 (Int.toNat x4)).1))))
          (some (.ret, st_f19_1_ret 20))
          (br (cIx y1.1 x4)
            (br ((igt (llen (((lgt tySection y1.1 (Int.toNat x4)).2).1)) 4096))
              (some (.ret, st_f19_1_ret 20))
              (br ((decide (0 ≤ (0 : Int) ∧ (0 : Int) ≤ x4 ∧ x4 < y1.1.length ∧ y1.1.length ≤ 100000)))
                (br ((((y1.1.take x4.toNat).drop (0 : Int).toNat).any fun z => seq z.1 (lgt tySection y1.1 x4.toNat).1))
                  (some (.ret, st_f19_1_ret (20)))
                  (br (cIx ((y1).1) (x4))
                    (br (cIx ((y1).1) (x4))
                      (lp_f19_1 (iadd .i64 (iadd .i64 (iadd .i64 (x3) 3) (slen ((lgt tySection ((y1).1) (Int.toNat (x4))).1))) (llen (((lgt tySection ((y1).1) (Int.toNat (x4))).2).1))) (iadd .i64 (x4) 1) (y1))
                      (none))
                    (none)))
                (none)))
            (none)))
        (none))
      (none))
    (some (.exit 0, st_f19_1_e0 x3 y1))
def la_f19_1 (x3 : Int) (x4 : Int) (y1 : Image) : Option (Exit × VS) := br (secsBad y1.1 x4.toNat) (some (.ret, st_f19_1_ret (20))) <| some (.exit 0, st_f19_1_e0 (x3 + ((y1.1.drop x4.toNat).flatMap secB).length) (y1))
theorem be_f19_1 (x3 : Int) (x4 : Int) (y1 : Image) : roundF g_f19 fg_f19_1 tb_f19_1 (st_f19_1 x3 x4 y1) = b_f19_1 x3 x4 y1 := by kernel_rfl
theorem ln_f19_1 (x3 : Int) (x4 : Int) (y1 : Image) : lp_f19_1 x3 x4 y1 = n_f19_1 x3 x4 y1 := (loopF_nxt _ _).trans (by
  rw [be_f19_1]
  simp only [b_f19_1, n_f19_1, nxt_br, nxt_n, nxt_r, nxt_e, nxt_0]
  rfl)
def b_f19_2 (x3 : Int) (x6 : Int) (x7 : Int) (y1 : Image) : Option (Exit × VS) :=
  br ((ilt x7 x6))
    (br (cIx y1.2.1 x7)
      (br (cIx y1.2.1 x6)
        (br ((seq ((lgt tySymbol y1.2.1 (Int.toNat x7)).1) ((lgt tySymbol y1.2.1 (Int.toNat x6)).1)))
          (some (.ret, st_f19_2_ret 20))
          (some (.normal, st_f19_2 x3 x6 (iadd .i64 x7 1) y1)))
        (none))
      (none))
    (some (.exit 6, st_f19_2_e6 x3 x6 y1))
noncomputable def lp_f19_2 (x3 : Int) (x6 : Int) (x7 : Int) (y1 : Image) : Option (Exit × VS) := loopF (roundF g_f19 fg_f19_2 tb_f19_2) (st_f19_2 x3 x6 x7 y1)
noncomputable def n_f19_2 (x3 : Int) (x6 : Int) (x7 : Int) (y1 : Image) : Option (Exit × VS) :=
  br ((ilt x7 x6))
    (br (cIx y1.2.1 x7)
      (br (cIx y1.2.1 x6)
        (br ((seq ((lgt tySymbol y1.2.1 (Int.toNat x7)).1) ((lgt tySymbol y1.2.1 (Int.toNat x6)).1)))
          (some (.ret, st_f19_2_ret 20))
          (lp_f19_2 x3 x6 (iadd .i64 x7 1) y1))
        (none))
      (none))
    (some (.exit 6, st_f19_2_e6 x3 x6 y1))
def la_f19_2 (x3 : Int) (x6 : Int) (x7 : Int) (y1 : Image) : Option (Exit × VS) := br (((y1.2.1.take x6.toNat).drop x7.toNat).any fun z => seq z.1 (lgt tySymbol y1.2.1 x6.toNat).1) (some (.ret, st_f19_2_ret (20))) <| some (.exit 6, st_f19_2_e6 (x3) (x6) (y1))
theorem be_f19_2 (x3 : Int) (x6 : Int) (x7 : Int) (y1 : Image) : roundF g_f19 fg_f19_2 tb_f19_2 (st_f19_2 x3 x6 x7 y1) = b_f19_2 x3 x6 x7 y1 := by kernel_rfl
theorem ln_f19_2 (x3 : Int) (x6 : Int) (x7 : Int) (y1 : Image) : lp_f19_2 x3 x6 x7 y1 = n_f19_2 x3 x6 x7 y1 := (loopF_nxt _ _).trans (by
  rw [be_f19_2]
  simp only [b_f19_2, n_f19_2, nxt_br, nxt_n, nxt_r, nxt_e, nxt_0]
  rfl)
def b_f19_3 (x3 : Int) (x6 : Int) (y1 : Image) : Option (Exit × VS) :=
  br ((ilt x6 (llen y1.2.1)))
    (br (cIx y1.2.1 x6)
      (br ((nameG ((lgt tySymbol y1.2.1 (Int.toNat x6)).1)))
        (br ((!(namedG ((lgt tySymbol y1.2.1 (Int.toNat x6)).1))))
          (some (.ret, st_f19_3_ret 20))
          (br (cIx y1.2.1 x6)
            (br ((ilt (((lgt tySymbol y1.2.1 (Int.toNat x6)).2).1) 0))
              (some (.ret, st_f19_3_ret 20))
              (br (cIx y1.2.1 x6)
                (br ((ige (((lgt tySymbol y1.2.1 (Int.toNat x6)).2).1) 4294967296))
                  (some (.ret, st_f19_3_ret 20))
                  (br ((decide (0 ≤ (0 : Int) ∧ (0 : Int) ≤ x6 ∧ x6 < y1.2.1.length ∧ y1.2.1.length ≤ 100000)))
                    (br ((((y1.2.1.take x6.toNat).drop (0 : Int).toNat).any fun z => seq z.1 (lgt tySymbol y1.2.1 x6.toNat).1))
                      (some (.ret, st_f19_3_ret (20)))
                      (br (cIx (((y1).2).1) (x6))
                        (some (.normal, st_f19_3 (iadd .i64 (iadd .i64 (x3) 5) (slen ((lgt tySymbol (((y1).2).1) (Int.toNat (x6))).1))) (iadd .i64 (x6) 1) (y1)))
                        (none)))
                    (none)))
                (none)))
            (none)))
        (none))
      (none))
    (some (.exit 4, st_f19_3_e4 x3))
noncomputable def lp_f19_3 (x3 : Int) (x6 : Int) (y1 : Image) : Option (Exit × VS) := loopF (roundF g_f19 fg_f19_3 tb_f19_3) (st_f19_3 x3 x6 y1)
noncomputable def n_f19_3 (x3 : Int) (x6 : Int) (y1 : Image) : Option (Exit × VS) :=
  br ((ilt x6 (llen y1.2.1)))
    (br (cIx y1.2.1 x6)
      (br ((nameG ((lgt tySymbol y1.2.1 (Int.toNat x6)).1)))
        (br ((!(namedG ((lgt tySymbol y1.2.1 (Int.toNat x6)).1))))
          (some (.ret, st_f19_3_ret 20))
          (br (cIx y1.2.1 x6)
            (br ((ilt (((lgt tySymbol y1.2.1 (Int.toNat x6)).2).1) 0))
              (some (.ret, st_f19_3_ret 20))
              (br (cIx y1.2.1 x6)
                (br ((ige (((lgt tySymbol y1.2.1 (Int.toNat x6)).2).1) 4294967296))
                  (some (.ret, st_f19_3_ret 20))
                  (br ((decide (0 ≤ (0 : Int) ∧ (0 : Int) ≤ x6 ∧ x6 < y1.2.1.length ∧ y1.2.1.length ≤ 100000)))
                    (br ((((y1.2.1.take x6.toNat).drop (0 : Int).toNat).any fun z => seq z.1 (lgt tySymbol y1.2.1 x6.toNat).1))
                      (some (.ret, st_f19_3_ret (20)))
                      (br (cIx (((y1).2).1) (x6))
                        (lp_f19_3 (iadd .i64 (iadd .i64 (x3) 5) (slen ((lgt tySymbol (((y1).2).1) (Int.toNat (x6))).1))) (iadd .i64 (x6) 1) (y1))
                        (none)))
                    (none)))
                (none)))
            (none)))
        (none))
      (none))
    (some (.exit 4, st_f19_3_e4 x3))
def la_f19_3 (x3 : Int) (x6 : Int) (y1 : Image) : Option (Exit × VS) := br (symsBad y1.2.1 x6.toNat) (some (.ret, st_f19_3_ret (20))) <| some (.exit 4, st_f19_3_e4 (x3 + ((y1.2.1.drop x6.toNat).flatMap symB).length))
theorem be_f19_3 (x3 : Int) (x6 : Int) (y1 : Image) : roundF g_f19 fg_f19_3 tb_f19_3 (st_f19_3 x3 x6 y1) = b_f19_3 x3 x6 y1 := by kernel_rfl
theorem ln_f19_3 (x3 : Int) (x6 : Int) (y1 : Image) : lp_f19_3 x3 x6 y1 = n_f19_3 x3 x6 y1 := (loopF_nxt _ _).trans (by
  rw [be_f19_3]
  simp only [b_f19_3, n_f19_3, nxt_br, nxt_n, nxt_r, nxt_e, nxt_0]
  rfl)
def r_f19 (p0 : Image) : Option (V × List VO) :=
  br ((igt (llen p0.1) 16))
    (some (.t tI 20, []))
    (br ((igt (llen p0.2.1) 64))
      (some (.t tI 20, []))
      (br ((chkOk p0 && decide (0 ≤ (0 : Int) ∧ (0 : Int) ≤ p0.1.length ∧ 0 ≤ (5 : Int) ∧ (5 : Int) + ((p0.1.drop (0 : Int).toNat).flatMap secB).length ≤ 17592186044416)))
        (br ((secsBad p0.1 (0 : Int).toNat))
          (some (.t tI (20), []))
          (br ((chkOk (p0) && decide (0 ≤ (0 : Int) ∧ (0 : Int) ≤ (p0).2.1.length ∧ 0 ≤ ((5 : Int) + ((p0.1.drop (0 : Int).toNat).flatMap secB).length) ∧ ((5 : Int) + ((p0.1.drop (0 : Int).toNat).flatMap secB).length) + (((p0).2.1.drop (0 : Int).toNat).flatMap symB).length ≤ 17592186044416)))
            (br ((symsBad (p0).2.1 (0 : Int).toNat))
              (some (.t tI (20), []))
              (br ((igt (((5 : Int) + ((p0.1.drop (0 : Int).toNat).flatMap secB).length) + (((p0).2.1.drop (0 : Int).toNat).flatMap symB).length) 4096))
                (some (.t tI 20, []))
                (some (.t tI 0, []))))
            (none)))
        (none)))
theorem e_f19 (p0 : Image) : runF g_f19 tc_f19 rv_f19 false [.t tyImage p0] [] = r_f19 p0 := by kernel_rfl
theorem ok_f19 : Option.map (trC Try.prog) Try.f19.body = some tc_f19.er := by kernel_rfl
theorem rok_f19 : trVs Try.prog Try.f19.results.toList = some (rv_f19.map Prod.fst) := by kernel_rfl
theorem en_f19 : Entered Try.prog 19 := .inr ⟨by decide, _, Try.func19, by kernel_rfl, by kernel_rfl⟩
theorem gk_f19 : GOk Try.prog g_f19 := gok_of _ (by
  intro p hp
  simp only [List.mem_cons, List.not_mem_nil, or_false] at hp
  rcases hp with rfl
  · exact ⟨en_f38, ms_f38⟩)
theorem l_f19_0 (x3 : Int) (x4 : Int) (x5 : Int) (y1 : Image) (h : (decide (0 ≤ x5 ∧ x5 ≤ x4 ∧ x4 < y1.1.length ∧ y1.1.length ≤ 100000)) = true) : lp_f19_0 x3 x4 x5 y1 = la_f19_0 x3 x4 x5 y1 := by
  simp only [decide_eq_true_eq] at h
  obtain ⟨h1, h2, h3, h4⟩ := h
  obtain ⟨k, rfl⟩ := Int.eq_ofNat_of_zero_le h1
  obtain ⟨m, rfl⟩ : ∃ m : Nat, x4 = m := ⟨x4.toNat, by omega⟩
  have hm : m < y1.1.length := by omega
  refine up_ind m (fun k => lp_f19_0 x3 (m : Int) (k : Int) y1 = la_f19_0 x3 (m : Int) (k : Int) y1) ?_ ?_ k (by omega)
  · rw [ln_f19_0]
    simp [n_f19_0, la_f19_0, ilt_nat, br_false]
  · intro k hk ih
    rw [ln_f19_0]
    have hk1 : k < y1.1.length := by omega
    have hk2 : k < (y1.1.take m).length := by rw [List.length_take]; omega
    simp only [n_f19_0, ilt_nat, cIx_nat, hk, hk1, hm, decide_true, br_true, Int.toNat_natCast, add1 (show k < 4611686018427387904 by omega), lgt_get (y := tySection) hk1, lgt_get (y := tySection) hm, ih]
    simp only [la_f19_0, Int.toNat_natCast, lgt_get (y := tySection) hm, List.drop_eq_getElem_cons hk2, List.any_cons, List.getElem_take]
    cases seq y1.1[k].1 y1.1[m].1 <;> simp [br_true, br_false]
theorem l_f19_1 (x3 : Int) (x4 : Int) (y1 : Image) (h : (chkOk y1 && decide (0 ≤ x4 ∧ x4 ≤ y1.1.length ∧ 0 ≤ x3 ∧ x3 + ((y1.1.drop x4.toNat).flatMap secB).length ≤ 17592186044416)) = true) : lp_f19_1 x3 x4 y1 = la_f19_1 x3 x4 y1 := by
  simp only [Bool.and_eq_true, decide_eq_true_eq] at h
  obtain ⟨h0, h1, h2, h3, h4⟩ := h
  obtain ⟨k, rfl⟩ := Int.eq_ofNat_of_zero_le h1
  rw [Int.toNat_natCast] at h4
  have hlen : y1.1.length ≤ 100000 := by simp only [chkOk, wrOk, imgOk, Bool.and_eq_true, decide_eq_true_eq] at h0; exact h0.1.1
  have hnm := (wr_names h0).1
  simp only [lenS, namesF, Bool.and_eq_true, List.all_eq_true] at hnm
  revert x3
  refine range_ind y1.1 (fun k => ∀ x3 : Int, 0 ≤ x3 → x3 + ((y1.1.drop k).flatMap secB).length ≤ 17592186044416 → lp_f19_1 x3 (k : Int) y1 = la_f19_1 x3 (k : Int) y1) ?_ ?_ k (by omega)
  · intro x3 _ _
    rw [ln_f19_1]
    simp [n_f19_1, la_f19_1, ilt_llen, br_false, secsBad]
  · intro k hk ih x3 g1 g2
    rw [ln_f19_1]
    rw [List.drop_eq_getElem_cons hk, List.flatMap_cons, List.length_append, secB_len] at g2
    have hn : nameG y1.1[k].1 = true := hnm.2 _ (List.mem_map.2 ⟨_, List.getElem_mem hk, rfl⟩)
    have e1 : igt (llen y1.1[k].2.1) 4096 = decide (4096 < y1.1[k].2.1.length) := by simp [igt, llen]; omega
    have e2 : iadd .i64 (iadd .i64 (iadd .i64 x3 3) (slen y1.1[k].1)) (llen y1.1[k].2.1) = x3 + ((secB y1.1[k]).length : Int) := by
      rw [iadd_in (a := x3) (b := 3) (by omega), iadd_in (a := x3 + 3) (by simp only [slen]; omega), iadd_in (by simp only [slen, llen]; omega), secB_len]
      simp only [slen, llen]
      omega
    simp only [n_f19_1, ilt_llen, cIx_nat, hk, decide_true, br_true, Int.toNat_natCast, Int.toNat_zero, List.drop_zero, add1 (show k < 4611686018427387904 by omega), lgt_get (y := tySection) hk, hn, e1, e2]
    rw [decide_eq_true (show (0 : Int) ≤ 0 ∧ (0 : Int) ≤ (k : Int) ∧ (k : Int) < y1.1.length ∧ y1.1.length ≤ 100000 by omega)]
    rw [ih (x3 + ((secB y1.1[k]).length : Int)) (by omega) (by rw [secB_len]; omega)]
    simp only [la_f19_1, Int.toNat_natCast, secsBad_step hk, br_true, List.drop_eq_getElem_cons hk, List.flatMap_cons, List.length_append]
    cases namedG y1.1[k].1 <;> cases decide (4096 < y1.1[k].2.1.length) <;> cases ((y1.1.take k).any fun z => seq z.1 y1.1[k].1) <;> cases secsBad y1.1 (k + 1) <;> simp [br_true, br_false] <;> first | rfl | (rw [Int.add_assoc]; done) | skip
theorem l_f19_2 (x3 : Int) (x6 : Int) (x7 : Int) (y1 : Image) (h : (decide (0 ≤ x7 ∧ x7 ≤ x6 ∧ x6 < y1.2.1.length ∧ y1.2.1.length ≤ 100000)) = true) : lp_f19_2 x3 x6 x7 y1 = la_f19_2 x3 x6 x7 y1 := by
  simp only [decide_eq_true_eq] at h
  obtain ⟨h1, h2, h3, h4⟩ := h
  obtain ⟨k, rfl⟩ := Int.eq_ofNat_of_zero_le h1
  obtain ⟨m, rfl⟩ : ∃ m : Nat, x6 = m := ⟨x6.toNat, by omega⟩
  have hm : m < y1.2.1.length := by omega
  refine up_ind m (fun k => lp_f19_2 x3 (m : Int) (k : Int) y1 = la_f19_2 x3 (m : Int) (k : Int) y1) ?_ ?_ k (by omega)
  · rw [ln_f19_2]
    simp [n_f19_2, la_f19_2, ilt_nat, br_false]
  · intro k hk ih
    rw [ln_f19_2]
    have hk1 : k < y1.2.1.length := by omega
    have hk2 : k < (y1.2.1.take m).length := by rw [List.length_take]; omega
    simp only [n_f19_2, ilt_nat, cIx_nat, hk, hk1, hm, decide_true, br_true, Int.toNat_natCast, add1 (show k < 4611686018427387904 by omega), lgt_get (y := tySymbol) hk1, lgt_get (y := tySymbol) hm, ih]
    simp only [la_f19_2, Int.toNat_natCast, lgt_get (y := tySymbol) hm, List.drop_eq_getElem_cons hk2, List.any_cons, List.getElem_take]
    cases seq y1.2.1[k].1 y1.2.1[m].1 <;> simp [br_true, br_false]
theorem l_f19_3 (x3 : Int) (x6 : Int) (y1 : Image) (h : (chkOk y1 && decide (0 ≤ x6 ∧ x6 ≤ y1.2.1.length ∧ 0 ≤ x3 ∧ x3 + ((y1.2.1.drop x6.toNat).flatMap symB).length ≤ 17592186044416)) = true) : lp_f19_3 x3 x6 y1 = la_f19_3 x3 x6 y1 := by
  simp only [Bool.and_eq_true, decide_eq_true_eq] at h
  obtain ⟨h0, h1, h2, h3, h4⟩ := h
  obtain ⟨k, rfl⟩ := Int.eq_ofNat_of_zero_le h1
  rw [Int.toNat_natCast] at h4
  have hlen : y1.2.1.length ≤ 100000 := by simp only [chkOk, wrOk, imgOk, Bool.and_eq_true, decide_eq_true_eq] at h0; exact h0.1.2
  have hnm := (wr_names h0).2
  simp only [lenS, namesF, Bool.and_eq_true, List.all_eq_true] at hnm
  revert x3
  refine range_ind y1.2.1 (fun k => ∀ x3 : Int, 0 ≤ x3 → x3 + ((y1.2.1.drop k).flatMap symB).length ≤ 17592186044416 → lp_f19_3 x3 (k : Int) y1 = la_f19_3 x3 (k : Int) y1) ?_ ?_ k (by omega)
  · intro x3 _ _
    rw [ln_f19_3]
    simp [n_f19_3, la_f19_3, ilt_llen, br_false, symsBad]
  · intro k hk ih x3 g1 g2
    rw [ln_f19_3]
    rw [List.drop_eq_getElem_cons hk, List.flatMap_cons, List.length_append, symB_len] at g2
    have hn : nameG y1.2.1[k].1 = true := hnm.2 _ (List.mem_map.2 ⟨_, List.getElem_mem hk, rfl⟩)
    have e2 : iadd .i64 (iadd .i64 x3 5) (slen y1.2.1[k].1) = x3 + ((symB y1.2.1[k]).length : Int) := by
      rw [iadd_in (a := x3) (b := 5) (by omega), iadd_in (a := x3 + 5) (by simp only [slen]; omega), symB_len]
      simp only [slen]
      omega
    simp only [n_f19_3, ilt_llen, cIx_nat, hk, decide_true, br_true, Int.toNat_natCast, Int.toNat_zero, List.drop_zero, add1 (show k < 4611686018427387904 by omega), lgt_get (y := tySymbol) hk, hn, e2]
    rw [decide_eq_true (show (0 : Int) ≤ 0 ∧ (0 : Int) ≤ (k : Int) ∧ (k : Int) < y1.2.1.length ∧ y1.2.1.length ≤ 100000 by omega)]
    rw [ih (x3 + ((symB y1.2.1[k]).length : Int)) (by omega) (by rw [symB_len]; omega)]
    simp only [la_f19_3, Int.toNat_natCast, symsBad_step hk, br_true, List.drop_eq_getElem_cons hk, List.flatMap_cons, List.length_append, badV]
    cases namedG y1.2.1[k].1 <;> cases ilt y1.2.1[k].2.1 0 <;> cases ige y1.2.1[k].2.1 4294967296 <;> cases ((y1.2.1.take k).any fun z => seq z.1 y1.2.1[k].1) <;> cases symsBad y1.2.1 (k + 1) <;> simp [br_true, br_false] <;> first | rfl | (rw [Int.add_assoc]; done) | skip
theorem lo_f19_0 : ∀ S l p, g_f19.L 0 (fgt fg_f19_0 S) = some (true, l) → pickA l = some p → loopF (roundF g_f19 fg_f19_0 tb_f19_0) S = some p :=
  lok_of (s := sh_f19_0) ⟨by decide, by decide⟩ (by kernel_rfl) fun x y hok p hp => by
  simp only [pickA_br, pickA_one] at hp
  exact (l_f19_0 x.2.1 x.2.2.1 x.2.2.2.1 y.1 (by simpa using hok)).trans hp
theorem lo_f19_1 : ∀ S l p, g_f19.L 1 (fgt fg_f19_1 S) = some (true, l) → pickA l = some p → loopF (roundF g_f19 fg_f19_1 tb_f19_1) S = some p :=
  lok_of (s := sh_f19_1) ⟨by decide, by decide⟩ (by kernel_rfl) fun x y hok p hp => by
  simp only [pickA_br, pickA_one] at hp
  exact (l_f19_1 x.2.1 x.2.2.1 y.1 (by simpa using hok)).trans hp
theorem lo_f19_2 : ∀ S l p, g_f19.L 2 (fgt fg_f19_2 S) = some (true, l) → pickA l = some p → loopF (roundF g_f19 fg_f19_2 tb_f19_2) S = some p :=
  lok_of (s := sh_f19_2) ⟨by decide, by decide⟩ (by kernel_rfl) fun x y hok p hp => by
  simp only [pickA_br, pickA_one] at hp
  exact (l_f19_2 x.2.1 x.2.2.1 x.2.2.2.1 y.1 (by simpa using hok)).trans hp
theorem lo_f19_3 : ∀ S l p, g_f19.L 3 (fgt fg_f19_3 S) = some (true, l) → pickA l = some p → loopF (roundF g_f19 fg_f19_3 tb_f19_3) S = some p :=
  lok_of (s := sh_f19_3) ⟨by decide, by decide⟩ (by kernel_rfl) fun x y hok p hp => by
  simp only [pickA_br, pickA_one] at hp
  exact (l_f19_3 x.2.1 x.2.2.1 y.1 (by simpa using hok)).trans hp
theorem lk_f19 : tc_f19.lok g_f19 := by
  repeat (first | exact trivial | exact lo_f19_0 | exact lo_f19_1 | exact lo_f19_2 | exact lo_f19_3 | refine ⟨?_, ?_⟩)
theorem anyG_congr {α : Type} {f g : α → Bool} : ∀ {l : List α}, (∀ x ∈ l, f x = g x) → l.any f = l.any g
  | [], _ => rfl
  | x :: l, h => by rw [List.any_cons, List.any_cons, h x (by simp), anyG_congr fun y hy => h y (by simp [hy])]
theorem any_orG {α : Type} {f g : α → Bool} : ∀ {l : List α}, l.any (fun x => f x || g x) = (l.any f || l.any g)
  | [] => rfl
  | x :: l => by
    rw [List.any_cons, List.any_cons, List.any_cons, any_orG]
    cases f x <;> cases g x <;> cases l.any f <;> rfl
theorem any_range {α : Type} {p : α → Bool} (d : α) (l : List α) : ((List.range' 0 l.length).any fun j => p (l.getD j d)) = l.any p := by
  rw [Bool.eq_iff_iff, List.any_eq_true, List.any_eq_true]
  constructor
  · rintro ⟨j, hj, hp⟩
    have hj : j < l.length := by simpa using hj
    rw [List.getD_eq_getElem?_getD, List.getElem?_eq_getElem hj] at hp
    exact ⟨_, List.getElem_mem hj, hp⟩
  · rintro ⟨x, hx, hp⟩
    obtain ⟨j, hj, rfl⟩ := List.getElem_of_mem hx
    exact ⟨j, by simpa using hj, by rw [List.getD_eq_getElem?_getD, List.getElem?_eq_getElem hj]; exact hp⟩
theorem seq_comm (a b : ByteArray) : seq a b = seq b a := by
  simp only [seq]
  exact Bool.beq_comm
theorem dup_map {α : Type} (f : α → ByteArray) (l : List α) (j : Nat) (v : ByteArray) : hasS ((l.map f).take j) v = (l.take j).any fun z => seq (f z) v := by
  unfold hasS
  rw [← List.map_take, List.any_map]
  exact anyG_congr fun x _ => seq_comm _ _
theorem getD_mapG {α : Type} (f : α → ByteArray) (d : α) (hd : f d = ByteArray.empty) (l : List α) (j : Nat) : (l.map f).getD j ByteArray.empty = f (l.getD j d) := by
  rw [List.getD_eq_getElem?_getD, List.getD_eq_getElem?_getD, List.getElem?_map]
  cases l[j]? <;> simp [hd]
theorem secsBad_eq (l : List Section) : secsBad l 0 = (wrongF (l.map (·.1)) || l.any fun z => decide (4096 < z.2.1.length)) := by
  unfold secsBad wrongF wrongZ
  rw [Nat.sub_zero, Nat.sub_zero, List.length_map, ← any_range noSec l, ← any_orG]
  refine anyG_congr fun j _ => ?_
  simp only [getD_mapG (·.1) noSec rfl, dup_map]
  cases namedG (l.getD j noSec).1 <;> cases decide (4096 < (l.getD j noSec).2.1.length) <;> cases ((l.take j).any fun z => seq z.1 (l.getD j noSec).1) <;> rfl
theorem symsBad_eq (l : List Symbol) : symsBad l 0 = (wrongF (l.map (·.1)) || l.any badV) := by
  unfold symsBad wrongF wrongZ
  rw [Nat.sub_zero, Nat.sub_zero, List.length_map, ← any_range noSym l, ← any_orG]
  refine anyG_congr fun j _ => ?_
  simp only [getD_mapG (·.1) noSym rfl, dup_map]
  cases namedG (l.getD j noSym).1 <;> cases badV (l.getD j noSym) <;> cases ((l.take j).any fun z => seq z.1 (l.getD j noSym).1) <;> rfl
theorem s_f19 (x : Image) (h : chkOk x = true) : r_f19 x = some (.t tI (checkX x), []) := by
  have hw := h
  simp only [chkOk, wrOk, imgOk, Bool.and_eq_true, decide_eq_true_eq] at hw
  obtain ⟨⟨w1, w2⟩, w3⟩ := hw
  have e1 : igt (llen x.1) 16 = decide (16 < x.1.length) := by simp [igt, llen]; omega
  have e2 : igt (llen x.2.1) 64 = decide (64 < x.2.1.length) := by simp [igt, llen]; omega
  have e3 : igt (5 + ((x.1.flatMap secB).length : Int) + ((x.2.1.flatMap symB).length : Int)) 4096 = decide (4096 < (writtenF x).length) := by
    rw [written_len]
    simp only [igt]
    congr 1
    simp
    omega
  simp only [r_f19, e1, e2, h, Bool.true_and, Int.toNat_zero, List.drop_zero]
  rw [decide_eq_true (show (0 : Int) ≤ 0 ∧ (0 : Int) ≤ x.1.length ∧ (0 : Int) ≤ 5 ∧ (5 : Int) + ((x.1.flatMap secB).length : Int) ≤ 17592186044416 by omega), br_true,
    decide_eq_true (show (0 : Int) ≤ 0 ∧ (0 : Int) ≤ x.2.1.length ∧ (0 : Int) ≤ 5 + ((x.1.flatMap secB).length : Int) ∧ (5 : Int) + ((x.1.flatMap secB).length : Int) + ((x.2.1.flatMap symB).length : Int) ≤ 17592186044416 by omega), br_true, e3, secsBad_eq, symsBad_eq]
  have hbig : (x.1.any fun z => decide (4096 < z.2.1.length)) = true → decide (4096 < (writtenF x).length) = true := by
    intro hq
    obtain ⟨z, hz, hp⟩ := List.any_eq_true.1 hq
    have := flat_le secB x.1 z hz
    rw [secB_len] at this
    have hp := of_decide_eq_true hp
    rw [decide_eq_true_eq, written_len]
    omega
  unfold checkX badX namesF
  generalize (x.1.any fun z => decide (4096 < z.2.1.length)) = A at hbig
  generalize decide (4096 < (writtenF x).length) = B at hbig
  cases decide (16 < x.1.length) <;> cases decide (64 < x.2.1.length) <;> cases wrongF (x.1.map (·.1)) <;> cases wrongF (x.2.1.map (·.1)) <;> cases x.2.1.any badV <;> cases A <;> cases B <;> first | rfl | (cases hbig rfl)
def sp_f19 : Ent := spec (.pr tyImage .nil) (fun x => (chkOk x.1)) (fun x => (.t tI (checkX x.1)))
theorem ms_f19 : Meets Try.prog 19 (strip sp_f19) := by
  obtain ⟨c, hc, hi⟩ := Option.map_eq_some_iff.1 ok_f19
  exact meets_spec (R := runF g_f19 tc_f19 rv_f19 false) (meets_of (by decide) Try.func19 hc hi Try.ntmps19 rok_f19 gk_f19 lk_f19 mixed) fun x hok => (e_f19 x.1).trans (s_f19 x.1 hok)
/-- cipherplan/cipherplanref10.Encode -/
def tc_f7 : TC := (.sq (.reg [(oM 1 (.box (.t 0))), (oP 2 (.mv (.c (.v (.slice none 0 0))))), (oP 3 (.mv (cI 0)))]) (.sq (.sq (.reg [(oM 5 (.ld true 2 (.t 1))), (oC 6 19 [(.t 5)]), (oV 4 6)]) (.sq (.reg [(oV 7 4), (oP 8 (.bin false .neq (.t 7) (cI 0)))]) (.cd (.t 8) (.sq (.reg [(oV 9 4), (oP 2 (.mv (.c (.v (.slice none 0 0))))), (oV 3 9)]) .rt) .sk))) (.sq (.reg [(oM 10 (.ld true 2 (.t 1))), (oC 11 20 [(.t 10)]), (oV 2 11), (oP 3 (.mv (cI 0)))]) .rt)))
def rv_f7 : List (RV × Option Ty) := [((.t 2), some (.sl (.int .u8))), ((.t 3), some tI)]
def g_f7 : G := ⟨TYs, [], 12, EL [(19, sp_f19), (20, sp_f20)], keeps, (fun _ _ => none), IL [], RL []⟩
def r_f7 (p0 : Image) : Option (V × List VO) :=
  br ((chkOk p0))
    (br ((ine (checkX p0) 0))
      (some (.tu [(.t (.sl (.int .u8)) ([] : List Int)), (.t tI (checkX p0))], []))
      (br ((wrOk p0))
        (some (.tu [(.t (.sl (.int .u8)) (writtenF p0)), (.t tI 0)], []))
        (none)))
    (none)
theorem e_f7 (p0 : Image) : runF g_f7 tc_f7 rv_f7 false [.t tyImage p0] [] = r_f7 p0 := by kernel_rfl
theorem ok_f7 : Option.map (trC Try.prog) Try.f7.body = some tc_f7.er := by kernel_rfl
theorem rok_f7 : trVs Try.prog Try.f7.results.toList = some (rv_f7.map Prod.fst) := by kernel_rfl
theorem en_f7 : Entered Try.prog 7 := .inr ⟨by decide, _, Try.func7, by kernel_rfl, by kernel_rfl⟩
theorem gk_f7 : GOk Try.prog g_f7 := gok_of _ (by
  intro p hp
  simp only [List.mem_cons, List.not_mem_nil, or_false] at hp
  rcases hp with rfl | rfl
  · exact ⟨en_f19, ms_f19⟩
  · exact ⟨en_f20, ms_f20⟩)
theorem lk_f7 : tc_f7.lok g_f7 := by repeat (first | exact trivial | refine ⟨?_, ?_⟩)
theorem s_f7 (x : Image) (h : chkOk x = true) : r_f7 x = some (.tu [.t (.sl (.int .u8)) (encX x).1, .t tI (encX x).2], []) := by
  simp only [r_f7, h, show wrOk x = true from h, br_true, checkX, encX]
  cases badX x <;> rfl
def sp_f7 : Ent := spec (.pr tyImage .nil) (fun x => (chkOk x.1)) (fun x => (.tu [(.t (.sl (.int .u8)) ((encX x.1).1)), (.t tI ((encX x.1).2))]))
theorem ms_f7 : Meets Try.prog 7 (strip sp_f7) := by
  obtain ⟨c, hc, hi⟩ := Option.map_eq_some_iff.1 ok_f7
  exact meets_spec (R := runF g_f7 tc_f7 rv_f7 false) (meets_of (by decide) Try.func7 hc hi Try.ntmps7 rok_f7 gk_f7 lk_f7 mixed) fun x hok => (e_f7 x.1).trans (s_f7 x.1 hok)
end
end Go.Proofs.Ytdbaaejiolibfaa.K
