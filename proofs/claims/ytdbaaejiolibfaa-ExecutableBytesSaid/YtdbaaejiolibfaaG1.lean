/-
  executable: bytes of executables, and which ones are right.
-/
import Derived.Test.YtdbaaejiolibfaaG0
set_option linter.unusedSimpArgs false
set_option linter.unusedVariables false
namespace Go.Proofs.Ytdbaaejiolibfaa.K
open Go.RowKit
noncomputable section
theorem cAppG {α : Type} {l l2 : List α} (h : l.length + l2.length ≤ 70368744177664) : cApp l l2 1 = true := by
  simp only [cApp, decide_eq_true_eq]
  omega
/-! numbers and names -/
def byG (n : Int) (k : Nat) : Int := icv .u8 (ishr .i64 n ((8 * k : Nat) : Int))
def numL (n : Int) : Nat → List Int
  | 0 => []
  | k + 1 => byG n k :: numL n k
theorem numL_len (n : Int) : ∀ k, (numL n k).length = k
  | 0 => rfl
  | k + 1 => by rw [numL, List.length_cons, numL_len n k]
def numF (b : List Int) (n count : Int) : List Int := b ++ numL n count.toNat
def numOk (b : List Int) (_n count : Int) : Bool := decide (b.length ≤ 35184372088832 ∧ 0 ≤ count ∧ count ≤ 8)
def numZ (b : List Int) (_n i : Int) : Bool := decide ((b.length : Int) + i ≤ 35184372088840 ∧ -1 ≤ i ∧ i ≤ 7)
def fg_f41_0 : Fg := ⟨[(0, none), (1, some tI), (7, some tI)], [(0, none), (21, none), (49000, none), (50000, none)]⟩
def tb_f41_0 : TC := (.sq (.sq (.reg [(oV 10 7), (oP 11 (.bin false .geq (.t 10) (cI 0)))]) (.cd (.t 11) .sk (.fg ⟨[(0, none)], [(0, none), (21, none), (49000, none), (50000, none)]⟩ (.ex 0)))) (.sq (.bk 1 (.reg [(oV 14 0), (oV 15 1), (oV 16 7), (oP 17 (.bin false .mul (cI 8) (.t 16))), (oP 18 (.bin false .shr (.t 15) (.t 17))), (oP 19 (.cv .u8 (.t 18))), (oM 20 (.bs 5 1 1 [(.v (.int .u8 0))] [(0, 1, (.t 19))])), (oM 21 (.app 5 1 1 (.t 14) (.t 20))), (oV 0 21)])) (.reg [(oV 12 7), (oP 13 (.bin false .sub (.t 12) (cI 1))), (oV 7 13)])))
/-- cipherplan/executable.number -/
def tc_f41 : TC := (.ad [(50000, 49000)] (.sq (.reg [(oP 6 (.mv (.c (.v (.slice none 0 0)))))]) (.sq (.sq (.reg [(oV 8 2), (oP 9 (.bin false .sub (.t 8) (cI 1))), (oV 7 9)]) (.bk 0 (.nw 0 5 (.lp 0 fg_f41_0 tb_f41_0)))) (.sq (.reg [(oV 22 0), (oV 6 22)]) .rt))))
def rv_f41 : List (RV × Option Ty) := [((.t 6), none)]
abbrev sh_f41_0 : Sh := ⟨[(0, .ms 49000), (1, .ty tI), (7, .ty tI)], [(0, .no), (21, .no), (49000, .arr 1000005 (.int .u8)), (50000, .no)]⟩
def st_f41_0 (x1 : Int) (x7 : Int) (y49000 : (List Int)) : VS := sh_f41_0.st ((), x1, x7, ()) ((), (), y49000, (), ())
abbrev sh_f41_0_e0 : Sh := ⟨[(0, .ms 49000)], [(0, .no), (21, .no), (49000, .arr 1000005 (.int .u8)), (50000, .no)]⟩
def st_f41_0_e0 (y49000 : (List Int)) : VS := sh_f41_0_e0.st ((), ()) ((), (), y49000, (), ())
-- loop 0: (x1 : Int) (x7 : Int) (y49000 : (List Int)); out: ('exit', 0) (y49000 : (List Int))
def L_f41_0 : VS → Option (Bool × List (Bool × Exit × VS)) := mkL sh_f41_0 (fun x y => (numZ y.2.2.1 x.2.1 x.2.2.1)) (fun x y => [(true, .exit 0, st_f41_0_e0 (y.2.2.1 ++ numL x.2.1 (x.2.2.1 + 1).toNat))])
def g_f41 : G := ⟨TYs, [], 23, EL [], keeps, (Ls [L_f41_0]), IL [], RL []⟩
def b_f41_0 (x1 : Int) (x7 : Int) (y49000 : (List Int)) : Option (Exit × VS) :=
  br ((ige x7 0))
    (br ((decide ((0 : Int) ≤ (imul .i64 8 x7))))
      (br (cApp y49000 ([(icv .u8 (ishr .i64 x1 (imul .i64 8 x7)))]) 1)
        (some (.normal, st_f41_0 x1 (isub .i64 x7 1) (y49000 ++ ([(icv .u8 (ishr .i64 x1 (imul .i64 8 x7)))]))))
        (none))
      (none))
    (some (.exit 0, st_f41_0_e0 y49000))
noncomputable def lp_f41_0 (x1 : Int) (x7 : Int) (y49000 : (List Int)) : Option (Exit × VS) := loopF (roundF g_f41 fg_f41_0 tb_f41_0) (st_f41_0 x1 x7 y49000)
noncomputable def n_f41_0 (x1 : Int) (x7 : Int) (y49000 : (List Int)) : Option (Exit × VS) :=
  br ((ige x7 0))
    (br ((decide ((0 : Int) ≤ (imul .i64 8 x7))))
      (br (cApp y49000 ([(icv .u8 (ishr .i64 x1 (imul .i64 8 x7)))]) 1)
        (lp_f41_0 x1 (isub .i64 x7 1) (y49000 ++ ([(icv .u8 (ishr .i64 x1 (imul .i64 8 x7)))])))
        (none))
      (none))
    (some (.exit 0, st_f41_0_e0 y49000))
def la_f41_0 (x1 : Int) (x7 : Int) (y49000 : (List Int)) : Option (Exit × VS) := some (.exit 0, st_f41_0_e0 (y49000 ++ numL x1 (x7 + 1).toNat))
theorem be_f41_0 (x1 : Int) (x7 : Int) (y49000 : (List Int)) : roundF g_f41 fg_f41_0 tb_f41_0 (st_f41_0 x1 x7 y49000) = b_f41_0 x1 x7 y49000 := by kernel_rfl
theorem ln_f41_0 (x1 : Int) (x7 : Int) (y49000 : (List Int)) : lp_f41_0 x1 x7 y49000 = n_f41_0 x1 x7 y49000 := (loopF_nxt _ _).trans (by
  rw [be_f41_0]
  simp only [b_f41_0, n_f41_0, nxt_br, nxt_n, nxt_r, nxt_e, nxt_0]
  rfl)
def r_f41 (p0 : (List Int)) (p1 : Int) (p2 : Int) : Option (V × List VO) :=
  br ((numZ p0 p1 (isub .i64 p2 1)))
    (some (.ms 50001, [.no, .arr 1000005 (.int .u8) (p0 ++ numL p1 ((isub .i64 p2 1) + 1).toNat)]))
    (none)
theorem e_f41 (p0 : (List Int)) (p1 : Int) (p2 : Int) : runF g_f41 tc_f41 rv_f41 true [.ms 50000, .t tI p1, .t tI p2] [.arr 1000005 (.int .u8) p0] = r_f41 p0 p1 p2 := by kernel_rfl
theorem ok_f41 : Option.map (trC Try.prog) Try.f41.body = some tc_f41.er := by kernel_rfl
theorem rok_f41 : trVs Try.prog Try.f41.results.toList = some (rv_f41.map Prod.fst) := by kernel_rfl
theorem en_f41 : Entered Try.prog 41 := .inr ⟨by decide, _, Try.func41, by kernel_rfl, by kernel_rfl⟩
theorem gk_f41 : GOk Try.prog g_f41 := gok_of _ (fun p hp => by cases hp)
theorem l_f41_0 (x1 : Int) (x7 : Int) (y49000 : (List Int)) (h : (numZ y49000 x1 x7) = true) : lp_f41_0 x1 x7 y49000 = la_f41_0 x1 x7 y49000 := by
  simp only [numZ, decide_eq_true_eq] at h
  obtain ⟨h1, h2, h3⟩ := h
  obtain ⟨k, rfl⟩ : ∃ k : Nat, x7 = (k : Int) - 1 := ⟨(x7 + 1).toNat, by omega⟩
  induction k generalizing y49000 with
  | zero =>
    rw [ln_f41_0]
    simp [n_f41_0, la_f41_0, ige, br_false, numL]
  | succ k ih =>
    rw [ln_f41_0]
    have e0 : ((k + 1 : Nat) : Int) - 1 = (k : Int) := by omega
    rw [e0] at h1 h2 h3 ⊢
    have e1 : ige (k : Int) 0 = true := by simp only [ige, decide_eq_true_eq]; omega
    have e2 : imul .i64 8 (k : Int) = ((8 * k : Nat) : Int) := by rw [imul_in (by omega)]; omega
    have e3 : isub .i64 (k : Int) 1 = (k : Int) - 1 := isub_in (by omega)
    have e4 : la_f41_0 x1 (k : Int) y49000 = la_f41_0 x1 ((k : Int) - 1) (y49000 ++ [byG x1 k]) := by
      simp only [la_f41_0, show ((k : Int) + 1).toNat = k + 1 by omega, show ((k : Int) - 1 + 1).toNat = k by omega, numL, List.append_assoc, List.singleton_append]
    rw [e4, ← ih (y49000 ++ [byG x1 k]) (by rw [List.length_append]; simp only [List.length_singleton]; omega) (by omega) (by omega)]
    simp only [n_f41_0, e1, e2, e3, br_true, show decide ((0 : Int) ≤ ((8 * k : Nat) : Int)) = true from decide_eq_true (by omega), cAppG (show y49000.length + [icv .u8 (ishr .i64 x1 ((8 * k : Nat) : Int))].length ≤ 70368744177664 by simp only [List.length_singleton]; omega)]
    rfl
theorem lo_f41_0 : ∀ S l p, g_f41.L 0 (fgt fg_f41_0 S) = some (true, l) → pickA l = some p → loopF (roundF g_f41 fg_f41_0 tb_f41_0) S = some p :=
  lok_of (s := sh_f41_0) ⟨by decide, by decide⟩ (by kernel_rfl) fun x y hok p hp => by
  simp only [pickA_br, pickA_one] at hp
  exact (l_f41_0 x.2.1 x.2.2.1 y.2.2.1 (by simpa using hok)).trans hp
theorem lk_f41 : tc_f41.lok g_f41 := by
  repeat (first | exact trivial | exact lo_f41_0 | refine ⟨?_, ?_⟩)
theorem s_f41 (b : List Int) (n c : Int) (h : numOk b n c = true) : r_f41 b n c = some (.ms 50001, [.no, .arr 1000005 (.int .u8) (numF b n c)]) := by
  simp only [numOk, decide_eq_true_eq] at h
  simp only [r_f41]
  have e1 : isub .i64 c 1 = c - 1 := isub_in (by omega)
  rw [e1, show numZ b n (c - 1) = true from by simp only [numZ, decide_eq_true_eq]; omega, br_true, show (c - 1 + 1) = c by omega]
  rfl
def sp_f41 : Ent := specS [.ms 50000, .ty tI, .ty tI] [.arr 1000005 (.int .u8)] (fun x y => (numOk y.1 x.2.1 x.2.2.1)) (fun x y => (.ms 50001)) (fun x y => [.no, .arr 1000005 (.int .u8) (numF y.1 x.2.1 x.2.2.1)])
theorem ms_f41 : Meets Try.prog 41 (strip sp_f41) := by
  obtain ⟨c, hc, hi⟩ := Option.map_eq_some_iff.1 ok_f41
  exact meets_specS (R := runF g_f41 tc_f41 rv_f41 true) (meets_of (by decide) Try.func41 hc hi Try.ntmps41 rok_f41 gk_f41 lk_f41 mixed) fun x y hok => (e_f41 y.1 x.2.1 x.2.2.1).trans (s_f41 y.1 x.2.1 x.2.2.1 hok)
def nameF (b : List Int) (s : ByteArray) : List Int := b ++ numL (slen s) 1 ++ bytesL s
def nameOk1 (b : List Int) (s : ByteArray) : Bool := decide (b.length ≤ 35184372088832 ∧ s.size ≤ 17592186044416)
/-- cipherplan/executable.name -/
def tc_f42 : TC := (.ad [(50000, 49000)] (.sq (.reg [(oP 4 (.mv (.c (.v (.slice none 0 0)))))]) (.sq (.reg [(oV 5 0), (oV 6 1), (oP 7 (.len true (.t 6))), (oC 8 41 [(.t 5), (.t 7), (cI 1)]), (oV 9 1), (oM 10 (.app 5 1 1 (.t 8) (.t 9))), (oV 4 10)]) .rt)))
def rv_f42 : List (RV × Option Ty) := [((.t 4), none)]
def g_f42 : G := ⟨TYs, [], 11, EL [(41, sp_f41)], (41 :: keeps), (fun _ _ => none), IL [], RL []⟩
def r_f42 (p0 : (List Int)) (p1 : ByteArray) : Option (V × List VO) :=
  br ((numOk p0 (slen p1) 1))
    (br (cApp (numF p0 (slen p1) 1) (bytesL p1) 1)
      (some (.ms 50001, [.no, .arr 1000005 (.int .u8) ((numF p0 (slen p1) 1) ++ (bytesL p1))]))
      (none))
    (none)
theorem e_f42 (p0 : (List Int)) (p1 : ByteArray) : runF g_f42 tc_f42 rv_f42 true [.ms 50000, .t .str p1] [.arr 1000005 (.int .u8) p0] = r_f42 p0 p1 := by kernel_rfl
theorem ok_f42 : Option.map (trC Try.prog) Try.f42.body = some tc_f42.er := by kernel_rfl
theorem rok_f42 : trVs Try.prog Try.f42.results.toList = some (rv_f42.map Prod.fst) := by kernel_rfl
theorem en_f42 : Entered Try.prog 42 := .inr ⟨by decide, _, Try.func42, by kernel_rfl, by kernel_rfl⟩
theorem gk_f42 : GOk Try.prog g_f42 := gok_of _ (by
  intro p hp
  simp only [List.mem_cons, List.not_mem_nil, or_false] at hp
  rcases hp with rfl
  · exact ⟨en_f41, ms_f41⟩)
theorem lk_f42 : tc_f42.lok g_f42 := by repeat (first | exact trivial | refine ⟨?_, ?_⟩)
theorem s_f42 (b : List Int) (s : ByteArray) (h : nameOk1 b s = true) : r_f42 b s = some (.ms 50001, [.no, .arr 1000005 (.int .u8) (nameF b s)]) := by
  simp only [nameOk1, decide_eq_true_eq] at h
  have hl := bytesG_len s
  have e2 : (numF b (slen s) 1).length = b.length + 1 := by simp [numF, numL_len]
  simp only [r_f42, show numOk b (slen s) 1 = true from by simp only [numOk, decide_eq_true_eq]; omega, br_true, cAppG (show (numF b (slen s) 1).length + (bytesL s).length ≤ 70368744177664 by omega)]
  rfl
def sp_f42 : Ent := specS [.ms 50000, .ty .str] [.arr 1000005 (.int .u8)] (fun x y => (nameOk1 y.1 x.2.1)) (fun x y => (.ms 50001)) (fun x y => [.no, .arr 1000005 (.int .u8) (nameF y.1 x.2.1)])
theorem ms_f42 : Meets Try.prog 42 (strip sp_f42) := by
  obtain ⟨c, hc, hi⟩ := Option.map_eq_some_iff.1 ok_f42
  exact meets_specS (R := runF g_f42 tc_f42 rv_f42 true) (meets_of (by decide) Try.func42 hc hi Try.ntmps42 rok_f42 gk_f42 lk_f42 mixed) fun x y hok => (e_f42 y.1 x.2.1).trans (s_f42 y.1 x.2.1 hok)
def imgOk (x : Image) : Bool := decide (x.1.length ≤ 100000 ∧ x.2.1.length ≤ 100000)
def namesF (x : Image) : List ByteArray × List ByteArray := (x.1.map (·.1), x.2.1.map (·.1))
def fg_f39_0 : Fg := ⟨[(1, none), (2, none), (3, none), (9, some (.sl tySection)), (10, some tI), (11, some tI)], [(1, some tyImage), (2, none), (3, none), (19, none), (32, none)]⟩
def tb_f39_0 : TC := (.sq (.reg [(oP 12 (.bin false .lss (.t 11) (.t 10)))]) (.sq (.cd (.t 12) .sk (.fg ⟨[(1, none), (2, none), (3, none)], [(1, some tyImage), (2, none), (3, none), (19, none), (32, none)]⟩ (.ex 0))) (.sq (.bk 1 (.sq (.reg [(oP 13 (.ix 2 (.t 9) (.t 11))), (oM 14 (.ld true 2 (.t 13))), (oM 5 (.new [(.v (.string (ByteArray.mk #[]))), (.v (.slice none 0 0))])), (.mk none none (.m (.st 2 (.t 5) (.t 14))))]) (.reg [(oV 15 2), (oP 16 (.fa 0 (.t 5))), (oL 17 16), (oM 18 (.bs 9 1 1 [(.v (.string (ByteArray.mk #[])))] [(0, 1, (.t 17))])), (oM 19 (.app 9 1 16 (.t 15) (.t 18))), (oV 2 19)]))) (.reg [(oP 20 (.bin false .add (.t 11) (cI 1))), (oV 11 20)]))))
def fg_f39_1 : Fg := ⟨[(2, none), (3, none), (22, some (.sl tySymbol)), (23, some tI), (24, some tI)], [(2, none), (3, none), (19, none), (32, none)]⟩
def tb_f39_1 : TC := (.sq (.reg [(oP 25 (.bin false .lss (.t 24) (.t 23)))]) (.sq (.cd (.t 25) .sk (.fg ⟨[(2, none), (3, none)], [(2, none), (3, none), (19, none), (32, none)]⟩ (.ex 2))) (.sq (.bk 3 (.sq (.reg [(oP 26 (.ix 2 (.t 22) (.t 24))), (oM 27 (.ld true 2 (.t 26))), (oM 7 (.new [(.v (.string (ByteArray.mk #[]))), (.v (.int .i64 0))])), (.mk none none (.m (.st 2 (.t 7) (.t 27))))]) (.reg [(oV 28 3), (oP 29 (.fa 0 (.t 7))), (oL 30 29), (oM 31 (.bs 9 1 1 [(.v (.string (ByteArray.mk #[])))] [(0, 1, (.t 30))])), (oM 32 (.app 9 1 16 (.t 28) (.t 31))), (oV 3 32)]))) (.reg [(oP 33 (.bin false .add (.t 24) (cI 1))), (oV 24 33)]))))
/-- cipherplan/executable.names -/
def tc_f39 : TC := (.sq (.reg [(oM 1 (.box (.t 0))), (oP 2 (.mv (.c (.v (.slice none 0 0))))), (oP 3 (.mv (.c (.v (.slice none 0 0)))))]) (.sq (.sq (.reg [(oP 8 (.fa 0 (.t 1))), (oL 9 8), (oP 10 (.len false (.t 9))), (oP 11 (.mv (cI 0)))]) (.bk 0 (.nw 2 9 (.lp 0 fg_f39_0 tb_f39_0)))) (.sq (.sq (.reg [(oP 21 (.fa 1 (.t 1))), (oL 22 21), (oP 23 (.len false (.t 22))), (oP 24 (.mv (cI 0)))]) (.bk 2 (.nw 3 9 (.lp 1 fg_f39_1 tb_f39_1)))) (.sq (.reg [(oV 34 2), (oV 35 3), (oV 2 34), (oV 3 35)]) .rt))))
def rv_f39 : List (RV × Option Ty) := [((.t 2), some (.sl .str)), ((.t 3), some (.sl .str))]
abbrev sh_f39_0 : Sh := ⟨[(1, .ptr 1 0), (2, .ms 2), (3, .nl), (9, .ty (.sl tySection)), (10, .ty tI), (11, .ty tI)], [(1, .box tyImage), (2, .arr 9 .str), (3, .no), (19, .no), (32, .no)]⟩
def st_f39_0 (x9 : (List Section)) (x10 : Int) (x11 : Int) (y1 : Image) (y2 : (List ByteArray)) : VS := sh_f39_0.st ((), (), (), x9, x10, x11, ()) (y1, y2, (), (), (), ())
abbrev sh_f39_0_e0 : Sh := ⟨[(1, .ptr 1 0), (2, .ms 2), (3, .nl)], [(1, .box tyImage), (2, .arr 9 .str), (3, .no), (19, .no), (32, .no)]⟩
def st_f39_0_e0 (y1 : Image) (y2 : (List ByteArray)) : VS := sh_f39_0_e0.st ((), (), (), ()) (y1, y2, (), (), (), ())
-- loop 0: (x9 : (List Section)) (x10 : Int) (x11 : Int) (y1 : Image) (y2 : (List ByteArray)); out: ('exit', 0) (y1 : Image) (y2 : (List ByteArray))
abbrev sh_f39_1 : Sh := ⟨[(2, .ms 2), (3, .ms 3), (22, .ty (.sl tySymbol)), (23, .ty tI), (24, .ty tI)], [(2, .arr 9 .str), (3, .arr 9 .str), (19, .no), (32, .no)]⟩
def st_f39_1 (x22 : (List Symbol)) (x23 : Int) (x24 : Int) (y2 : (List ByteArray)) (y3 : (List ByteArray)) : VS := sh_f39_1.st ((), (), x22, x23, x24, ()) (y2, y3, (), (), ())
abbrev sh_f39_1_e2 : Sh := ⟨[(2, .ms 2), (3, .ms 3)], [(2, .arr 9 .str), (3, .arr 9 .str), (19, .no), (32, .no)]⟩
def st_f39_1_e2 (y2 : (List ByteArray)) (y3 : (List ByteArray)) : VS := sh_f39_1_e2.st ((), (), ()) (y2, y3, (), (), ())
-- loop 1: (x22 : (List Symbol)) (x23 : Int) (x24 : Int) (y2 : (List ByteArray)) (y3 : (List ByteArray)); out: ('exit', 2) (y2 : (List ByteArray)) (y3 : (List ByteArray))
def L_f39_0 : VS → Option (Bool × List (Bool × Exit × VS)) := mkL sh_f39_0 (fun x y => (rngOk x.2.2.2.1 x.2.2.2.2.1 x.2.2.2.2.2.1 && decide (y.2.1.length + x.2.2.2.1.length ≤ 100000 + x.2.2.2.2.2.1.toNat))) (fun x y => [(true, .exit 0, st_f39_0_e0 (y.1) (y.2.1 ++ (x.2.2.2.1.drop x.2.2.2.2.2.1.toNat).map (·.1)))])
def L_f39_1 : VS → Option (Bool × List (Bool × Exit × VS)) := mkL sh_f39_1 (fun x y => (rngOk x.2.2.1 x.2.2.2.1 x.2.2.2.2.1 && decide (y.2.1.length + x.2.2.1.length ≤ 100000 + x.2.2.2.2.1.toNat))) (fun x y => [(true, .exit 2, st_f39_1_e2 (y.1) (y.2.1 ++ (x.2.2.1.drop x.2.2.2.2.1.toNat).map (·.1)))])
def g_f39 : G := ⟨TYs, [], 36, EL [], keeps, (Ls [L_f39_0, L_f39_1]), IL [], RL []⟩
def b_f39_0 (x9 : (List Section)) (x10 : Int) (x11 : Int) (y1 : Image) (y2 : (List ByteArray)) : Option (Exit × VS) :=
  br ((ilt x11 x10))
    (br (cIx x9 x11)
      (br (cApp y2 ([(lgt tySection x9 (Int.toNat x11)).1]) 16)
        (some (.normal, st_f39_0 x9 x10 (iadd .i64 x11 1) y1 (y2 ++ ([(lgt tySection x9 (Int.toNat x11)).1]))))
        (none))
      (none))
    (some (.exit 0, st_f39_0_e0 y1 y2))
noncomputable def lp_f39_0 (x9 : (List Section)) (x10 : Int) (x11 : Int) (y1 : Image) (y2 : (List ByteArray)) : Option (Exit × VS) := loopF (roundF g_f39 fg_f39_0 tb_f39_0) (st_f39_0 x9 x10 x11 y1 y2)
noncomputable def n_f39_0 (x9 : (List Section)) (x10 : Int) (x11 : Int) (y1 : Image) (y2 : (List ByteArray)) : Option (Exit × VS) :=
  br ((ilt x11 x10))
    (br (cIx x9 x11)
      (br (cApp y2 ([(lgt tySection x9 (Int.toNat x11)).1]) 16)
        (lp_f39_0 x9 x10 (iadd .i64 x11 1) y1 (y2 ++ ([(lgt tySection x9 (Int.toNat x11)).1])))
        (none))
      (none))
    (some (.exit 0, st_f39_0_e0 y1 y2))
def la_f39_0 (x9 : (List Section)) (x10 : Int) (x11 : Int) (y1 : Image) (y2 : (List ByteArray)) : Option (Exit × VS) := some (.exit 0, st_f39_0_e0 (y1) (y2 ++ (x9.drop x11.toNat).map (·.1)))
theorem be_f39_0 (x9 : (List Section)) (x10 : Int) (x11 : Int) (y1 : Image) (y2 : (List ByteArray)) : roundF g_f39 fg_f39_0 tb_f39_0 (st_f39_0 x9 x10 x11 y1 y2) = b_f39_0 x9 x10 x11 y1 y2 := by kernel_rfl
theorem ln_f39_0 (x9 : (List Section)) (x10 : Int) (x11 : Int) (y1 : Image) (y2 : (List ByteArray)) : lp_f39_0 x9 x10 x11 y1 y2 = n_f39_0 x9 x10 x11 y1 y2 := (loopF_nxt _ _).trans (by
  rw [be_f39_0]
  simp only [b_f39_0, n_f39_0, nxt_br, nxt_n, nxt_r, nxt_e, nxt_0]
  rfl)
def b_f39_1 (x22 : (List Symbol)) (x23 : Int) (x24 : Int) (y2 : (List ByteArray)) (y3 : (List ByteArray)) : Option (Exit × VS) :=
  br ((ilt x24 x23))
    (br (cIx x22 x24)
      (br (cApp y3 ([(lgt tySymbol x22 (Int.toNat x24)).1]) 16)
        (some (.normal, st_f39_1 x22 x23 (iadd .i64 x24 1) y2 (y3 ++ ([(lgt tySymbol x22 (Int.toNat x24)).1]))))
        (none))
      (none))
    (some (.exit 2, st_f39_1_e2 y2 y3))
noncomputable def lp_f39_1 (x22 : (List Symbol)) (x23 : Int) (x24 : Int) (y2 : (List ByteArray)) (y3 : (List ByteArray)) : Option (Exit × VS) := loopF (roundF g_f39 fg_f39_1 tb_f39_1) (st_f39_1 x22 x23 x24 y2 y3)
noncomputable def n_f39_1 (x22 : (List Symbol)) (x23 : Int) (x24 : Int) (y2 : (List ByteArray)) (y3 : (List ByteArray)) : Option (Exit × VS) :=
  br ((ilt x24 x23))
    (br (cIx x22 x24)
      (br (cApp y3 ([(lgt tySymbol x22 (Int.toNat x24)).1]) 16)
        (lp_f39_1 x22 x23 (iadd .i64 x24 1) y2 (y3 ++ ([(lgt tySymbol x22 (Int.toNat x24)).1])))
        (none))
      (none))
    (some (.exit 2, st_f39_1_e2 y2 y3))
def la_f39_1 (x22 : (List Symbol)) (x23 : Int) (x24 : Int) (y2 : (List ByteArray)) (y3 : (List ByteArray)) : Option (Exit × VS) := some (.exit 2, st_f39_1_e2 (y2) (y3 ++ (x22.drop x24.toNat).map (·.1)))
theorem be_f39_1 (x22 : (List Symbol)) (x23 : Int) (x24 : Int) (y2 : (List ByteArray)) (y3 : (List ByteArray)) : roundF g_f39 fg_f39_1 tb_f39_1 (st_f39_1 x22 x23 x24 y2 y3) = b_f39_1 x22 x23 x24 y2 y3 := by kernel_rfl
theorem ln_f39_1 (x22 : (List Symbol)) (x23 : Int) (x24 : Int) (y2 : (List ByteArray)) (y3 : (List ByteArray)) : lp_f39_1 x22 x23 x24 y2 y3 = n_f39_1 x22 x23 x24 y2 y3 := (loopF_nxt _ _).trans (by
  rw [be_f39_1]
  simp only [b_f39_1, n_f39_1, nxt_br, nxt_n, nxt_r, nxt_e, nxt_0]
  rfl)
def r_f39 (p0 : Image) : Option (V × List VO) :=
  br ((rngOk p0.1 (llen p0.1) (0 : Int) && decide (([] : List ByteArray).length + p0.1.length ≤ 100000 + (0 : Int).toNat)))
    (br ((rngOk (((p0).2).1) (llen (((p0).2).1)) (0 : Int) && decide (([] : List ByteArray).length + (((p0).2).1).length ≤ 100000 + (0 : Int).toNat)))
      (some (.tu [(.t (.sl .str) ((([] : List ByteArray) ++ (p0.1.drop (0 : Int).toNat).map (·.1)))), (.t (.sl .str) (([] : List ByteArray) ++ ((((p0).2).1).drop (0 : Int).toNat).map (·.1)))], []))
      (none))
    (none)
theorem e_f39 (p0 : Image) : runF g_f39 tc_f39 rv_f39 false [.t tyImage p0] [] = r_f39 p0 := by kernel_rfl
theorem ok_f39 : Option.map (trC Try.prog) Try.f39.body = some tc_f39.er := by kernel_rfl
theorem rok_f39 : trVs Try.prog Try.f39.results.toList = some (rv_f39.map Prod.fst) := by kernel_rfl
theorem en_f39 : Entered Try.prog 39 := .inr ⟨by decide, _, Try.func39, by kernel_rfl, by kernel_rfl⟩
theorem gk_f39 : GOk Try.prog g_f39 := gok_of _ (fun p hp => by cases hp)
theorem l_f39_0 (x9 : (List Section)) (x10 : Int) (x11 : Int) (y1 : Image) (y2 : (List ByteArray)) (h : (rngOk x9 x10 x11 && decide (y2.length + x9.length ≤ 100000 + x11.toNat)) = true) : lp_f39_0 x9 x10 x11 y1 y2 = la_f39_0 x9 x10 x11 y1 y2 := by
  simp only [Bool.and_eq_true, decide_eq_true_eq] at h
  obtain ⟨h, hl⟩ := h
  obtain ⟨rfl, h3, k, rfl, hk⟩ := rng_k h
  clear h
  rw [Int.toNat_natCast] at hl
  revert y2
  refine range_ind x9 (fun k => ∀ y2 : List ByteArray, y2.length + x9.length ≤ 100000 + k → lp_f39_0 x9 (x9.length : Int) (k : Int) y1 y2 = la_f39_0 x9 (x9.length : Int) (k : Int) y1 y2) ?_ ?_ k hk
  · intro y2 _
    rw [ln_f39_0]
    simp [n_f39_0, la_f39_0, ilt_nat, br_false]
  · intro k hk ih y2 hy
    rw [ln_f39_0]
    simp only [n_f39_0, ilt_nat, cIx_nat, hk, decide_true, br_true, Int.toNat_natCast, add1 (show k < 4611686018427387904 by omega), lgt_get (y := tySection) hk, cApp_ok (show y2.length + [x9[k].1].length ≤ 1000000 by simp only [List.length_singleton]; omega) (show 16 ≤ 1000 by omega)]
    rw [ih _ (by rw [List.length_append]; simp only [List.length_singleton]; omega)]
    simp only [la_f39_0, Int.toNat_natCast, List.drop_eq_getElem_cons hk, List.map_cons, List.append_assoc, List.singleton_append]
theorem l_f39_1 (x22 : (List Symbol)) (x23 : Int) (x24 : Int) (y2 : (List ByteArray)) (y3 : (List ByteArray)) (h : (rngOk x22 x23 x24 && decide (y3.length + x22.length ≤ 100000 + x24.toNat)) = true) : lp_f39_1 x22 x23 x24 y2 y3 = la_f39_1 x22 x23 x24 y2 y3 := by
  simp only [Bool.and_eq_true, decide_eq_true_eq] at h
  obtain ⟨h, hl⟩ := h
  obtain ⟨rfl, h3, k, rfl, hk⟩ := rng_k h
  clear h
  rw [Int.toNat_natCast] at hl
  revert y3
  refine range_ind x22 (fun k => ∀ y3 : List ByteArray, y3.length + x22.length ≤ 100000 + k → lp_f39_1 x22 (x22.length : Int) (k : Int) y2 y3 = la_f39_1 x22 (x22.length : Int) (k : Int) y2 y3) ?_ ?_ k hk
  · intro y3 _
    rw [ln_f39_1]
    simp [n_f39_1, la_f39_1, ilt_nat, br_false]
  · intro k hk ih y3 hy
    rw [ln_f39_1]
    simp only [n_f39_1, ilt_nat, cIx_nat, hk, decide_true, br_true, Int.toNat_natCast, add1 (show k < 4611686018427387904 by omega), lgt_get (y := tySymbol) hk, cApp_ok (show y3.length + [x22[k].1].length ≤ 1000000 by simp only [List.length_singleton]; omega) (show 16 ≤ 1000 by omega)]
    rw [ih _ (by rw [List.length_append]; simp only [List.length_singleton]; omega)]
    simp only [la_f39_1, Int.toNat_natCast, List.drop_eq_getElem_cons hk, List.map_cons, List.append_assoc, List.singleton_append]
theorem lo_f39_0 : ∀ S l p, g_f39.L 0 (fgt fg_f39_0 S) = some (true, l) → pickA l = some p → loopF (roundF g_f39 fg_f39_0 tb_f39_0) S = some p :=
  lok_of (s := sh_f39_0) ⟨by decide, by decide⟩ (by kernel_rfl) fun x y hok p hp => by
  simp only [pickA_br, pickA_one] at hp
  exact (l_f39_0 x.2.2.2.1 x.2.2.2.2.1 x.2.2.2.2.2.1 y.1 y.2.1 (by simpa using hok)).trans hp
theorem lo_f39_1 : ∀ S l p, g_f39.L 1 (fgt fg_f39_1 S) = some (true, l) → pickA l = some p → loopF (roundF g_f39 fg_f39_1 tb_f39_1) S = some p :=
  lok_of (s := sh_f39_1) ⟨by decide, by decide⟩ (by kernel_rfl) fun x y hok p hp => by
  simp only [pickA_br, pickA_one] at hp
  exact (l_f39_1 x.2.2.1 x.2.2.2.1 x.2.2.2.2.1 y.1 y.2.1 (by simpa using hok)).trans hp
theorem lk_f39 : tc_f39.lok g_f39 := by
  repeat (first | exact trivial | exact lo_f39_0 | exact lo_f39_1 | refine ⟨?_, ?_⟩)
theorem s_f39 (x : Image) (h : imgOk x = true) : r_f39 x = some (.tu [.t (.sl .str) (namesF x).1, .t (.sl .str) (namesF x).2], []) := by
  simp only [imgOk, decide_eq_true_eq] at h
  simp only [r_f39, rng_0 h.1, rng_0 h.2, Bool.true_and, Int.toNat_zero, List.drop_zero, List.nil_append]
  rw [decide_eq_true (by simp only [List.length_nil]; omega), decide_eq_true (by simp only [List.length_nil]; omega), br_true, br_true]
  rfl
def sp_f39 : Ent := spec (.pr tyImage .nil) (fun x => (imgOk x.1)) (fun x => (.tu [(.t (.sl .str) ((namesF x.1).1)), (.t (.sl .str) ((namesF x.1).2))]))
theorem ms_f39 : Meets Try.prog 39 (strip sp_f39) := by
  obtain ⟨c, hc, hi⟩ := Option.map_eq_some_iff.1 ok_f39
  exact meets_spec (R := runF g_f39 tc_f39 rv_f39 false) (meets_of (by decide) Try.func39 hc hi Try.ntmps39 rok_f39 gk_f39 lk_f39 mixed) fun x hok => (e_f39 x.1).trans (s_f39 x.1 hok)
def wrongZ (a l : List ByteArray) (k : Nat) : Bool := (List.range' k (l.length - k)).any fun j => !namedG (l.getD j ByteArray.empty) || hasS (a.take j) (l.getD j ByteArray.empty)
def wrongF (l : List ByteArray) : Bool := wrongZ l l 0
def lenS (l : List ByteArray) : Bool := decide (l.length ≤ 100000) && l.all nameG
def fg_f40_0 : Fg := ⟨[(0, some (.sl .str)), (5, some (.sl .str)), (6, some tI), (7, some tI)], []⟩
def tb_f40_0 : TC := (.sq (.reg [(oP 8 (.bin false .lss (.t 7) (.t 6)))]) (.sq (.cd (.t 8) .sk (.fg ⟨[], []⟩ (.ex 0))) (.sq (.bk 1 (.sq (.reg [(oV 9 7), (oP 10 (.ix 1 (.t 5) (.t 7))), (oL 11 10), (oV 3 9), (oV 4 11)]) (.sq (.reg [(oV 12 4), (oC 13 47 [(.t 12)]), (oP 14 (.nt (.t 13))), (oV 15 14), (oQ 16 15 false (.mv (.t 0))), (oQ 17 15 false (.mv (.t 3))), (oQ 18 15 false (.slc 1 (.t 16) none (some (.t 17)) none)), (oQ 19 15 false (.mv (.t 4))), (oG 20 15 false (.call 48 [(.t 18), (.t 19)])), (oP 21 (.pick (.t 15) (cB true) (.t 20)))]) (.cd (.t 21) (.sq (.reg [(oP 2 (.mv (cB true)))]) (.fg ⟨[(2, some .bool)], []⟩ .rt)) .sk)))) (.reg [(oP 22 (.bin false .add (.t 7) (cI 1))), (oV 7 22)]))))
/-- cipherplan/executable.wrong -/
def tc_f40 : TC := (.sq (.reg [(oP 2 (.mv (cB false)))]) (.sq (.sq (.reg [(oV 5 0), (oP 6 (.len false (.t 5))), (oP 7 (.mv (cI 0)))]) (.bk 0 (.lp 0 fg_f40_0 tb_f40_0))) (.sq (.reg [(oP 2 (.mv (cB false)))]) .rt)))
def rv_f40 : List (RV × Option Ty) := [((.t 2), some .bool)]
abbrev sh_f40_0 : Sh := ⟨[(0, .ty (.sl .str)), (5, .ty (.sl .str)), (6, .ty tI), (7, .ty tI)], []⟩
def st_f40_0 (x0 : (List ByteArray)) (x5 : (List ByteArray)) (x6 : Int) (x7 : Int) : VS := sh_f40_0.st (x0, x5, x6, x7, ()) ()
abbrev sh_f40_0_ret : Sh := ⟨[(2, .ty .bool)], []⟩
def st_f40_0_ret (x2 : Bool) : VS := sh_f40_0_ret.st (x2, ()) ()
abbrev sh_f40_0_e0 : Sh := ⟨[], []⟩
def st_f40_0_e0  : VS := sh_f40_0_e0.st () ()
-- loop 0: (x0 : (List ByteArray)) (x5 : (List ByteArray)) (x6 : Int) (x7 : Int); out: ('ret',) (x2 : Bool); ('exit', 0) 
def L_f40_0 : VS → Option (Bool × List (Bool × Exit × VS)) := mkL sh_f40_0 (fun x y => (rngOk x.2.1 x.2.2.1 x.2.2.2.1 && decide (x.1.length = x.2.1.length) && x.2.1.all nameG)) (fun x y => [((wrongZ x.1 x.2.1 x.2.2.2.1.toNat), .ret, st_f40_0_ret (true)), (true, .exit 0, st_f40_0_e0)])
def g_f40 : G := ⟨TYs, [], 23, EL [(47, sp_f47), (48, sp_f48)], keeps, (Ls [L_f40_0]), IL [], RL []⟩
def b_f40_0 (x0 : (List ByteArray)) (x5 : (List ByteArray)) (x6 : Int) (x7 : Int) : Option (Exit × VS) :=
  br ((ilt x7 x6))
    (br (cIx x5 x7)
      (br ((nameG (lgt .str x5 (Int.toNat x7))))
        (br ((!(namedG (lgt .str x5 (Int.toNat x7)))))
          (some (.ret, st_f40_0_ret true))
          (br (cSl x0 0 x7 ((List.length x0 : Nat) : Int))
            (br ((idxSOk (lsl x0 0 x7) (lgt .str x5 (Int.toNat x7))))
              (br ((hasS (lsl x0 0 x7) (lgt .str x5 (Int.toNat x7))))
                (some (.ret, st_f40_0_ret true))
                (some (.normal, st_f40_0 x0 x5 x6 (iadd .i64 x7 1))))
              (none))
            (none)))
        (none))
      (none))
    (some (.exit 0, st_f40_0_e0))
noncomputable def lp_f40_0 (x0 : (List ByteArray)) (x5 : (List ByteArray)) (x6 : Int) (x7 : Int) : Option (Exit × VS) := loopF (roundF g_f40 fg_f40_0 tb_f40_0) (st_f40_0 x0 x5 x6 x7)
noncomputable def n_f40_0 (x0 : (List ByteArray)) (x5 : (List ByteArray)) (x6 : Int) (x7 : Int) : Option (Exit × VS) :=
  br ((ilt x7 x6))
    (br (cIx x5 x7)
      (br ((nameG (lgt .str x5 (Int.toNat x7))))
        (br ((!(namedG (lgt .str x5 (Int.toNat x7)))))
          (some (.ret, st_f40_0_ret true))
          (br (cSl x0 0 x7 ((List.length x0 : Nat) : Int))
            (br ((idxSOk (lsl x0 0 x7) (lgt .str x5 (Int.toNat x7))))
              (br ((hasS (lsl x0 0 x7) (lgt .str x5 (Int.toNat x7))))
                (some (.ret, st_f40_0_ret true))
                (lp_f40_0 x0 x5 x6 (iadd .i64 x7 1)))
              (none))
            (none)))
        (none))
      (none))
    (some (.exit 0, st_f40_0_e0))
def la_f40_0 (x0 : (List ByteArray)) (x5 : (List ByteArray)) (x6 : Int) (x7 : Int) : Option (Exit × VS) := br (wrongZ x0 x5 x7.toNat) (some (.ret, st_f40_0_ret (true))) <| some (.exit 0, st_f40_0_e0)
theorem be_f40_0 (x0 : (List ByteArray)) (x5 : (List ByteArray)) (x6 : Int) (x7 : Int) : roundF g_f40 fg_f40_0 tb_f40_0 (st_f40_0 x0 x5 x6 x7) = b_f40_0 x0 x5 x6 x7 := by kernel_rfl
theorem ln_f40_0 (x0 : (List ByteArray)) (x5 : (List ByteArray)) (x6 : Int) (x7 : Int) : lp_f40_0 x0 x5 x6 x7 = n_f40_0 x0 x5 x6 x7 := (loopF_nxt _ _).trans (by
  rw [be_f40_0]
  simp only [b_f40_0, n_f40_0, nxt_br, nxt_n, nxt_r, nxt_e, nxt_0]
  rfl)
def r_f40 (p0 : (List ByteArray)) : Option (V × List VO) :=
  br ((rngOk p0 (llen p0) (0 : Int) && decide (p0.length = p0.length) && p0.all nameG))
    (br ((wrongZ p0 p0 (0 : Int).toNat))
      (some (.t .bool (true), []))
      (some (.t .bool false, [])))
    (none)
theorem e_f40 (p0 : (List ByteArray)) : runF g_f40 tc_f40 rv_f40 false [.t (.sl .str) p0] [] = r_f40 p0 := by kernel_rfl
theorem ok_f40 : Option.map (trC Try.prog) Try.f40.body = some tc_f40.er := by kernel_rfl
theorem rok_f40 : trVs Try.prog Try.f40.results.toList = some (rv_f40.map Prod.fst) := by kernel_rfl
theorem en_f40 : Entered Try.prog 40 := .inr ⟨by decide, _, Try.func40, by kernel_rfl, by kernel_rfl⟩
theorem gk_f40 : GOk Try.prog g_f40 := gok_of _ (by
  intro p hp
  simp only [List.mem_cons, List.not_mem_nil, or_false] at hp
  rcases hp with rfl | rfl
  · exact ⟨en_f47, ms_f47⟩
  · exact ⟨en_f48, ms_f48⟩)
theorem l_f40_0 (x0 : (List ByteArray)) (x5 : (List ByteArray)) (x6 : Int) (x7 : Int) (h : (rngOk x5 x6 x7 && decide (x0.length = x5.length) && x5.all nameG) = true) : lp_f40_0 x0 x5 x6 x7 = la_f40_0 x0 x5 x6 x7 := by
  simp only [Bool.and_eq_true, decide_eq_true_eq] at h
  obtain ⟨⟨h, hl⟩, ha⟩ := h
  obtain ⟨rfl, h3, k, rfl, hk⟩ := rng_k h
  clear h
  refine range_ind x5 (fun k => lp_f40_0 x0 x5 (x5.length : Int) (k : Int) = la_f40_0 x0 x5 (x5.length : Int) (k : Int)) ?_ ?_ k hk
  · rw [ln_f40_0]
    simp [n_f40_0, la_f40_0, ilt_nat, br_false, wrongZ]
  · intro k hk ih
    rw [ln_f40_0]
    have hn : nameG x5[k] = true := List.all_eq_true.1 ha _ (List.getElem_mem hk)
    have hs : cSl x0 0 (k : Int) ((List.length x0 : Nat) : Int) = true := by simp only [cSl, decide_eq_true_eq]; omega
    have hs2 : lsl x0 0 (k : Int) = x0.take k := by simp [lsl]
    have hi : idxSOk (x0.take k) x5[k] = true := by simp only [idxSOk, lenG, decide_eq_true_eq, List.length_take]; omega
    have hw : wrongZ x0 x5 k = (!namedG x5[k] || hasS (x0.take k) x5[k] || wrongZ x0 x5 (k + 1)) := by
      have : x5.length - k = (x5.length - (k + 1)) + 1 := by omega
      unfold wrongZ
      rw [this, List.range'_succ, List.any_cons]
      simp only [List.getD_eq_getElem?_getD, List.getElem?_eq_getElem hk, Option.getD_some]
    simp only [n_f40_0, ilt_nat, cIx_nat, hk, decide_true, br_true, Int.toNat_natCast, add1 (show k < 4611686018427387904 by omega), lgt_get (y := .str) hk, hn, hs, hs2, hi, ih]
    simp only [la_f40_0, Int.toNat_natCast, hw]
    cases namedG x5[k] <;> cases hasS (x0.take k) x5[k] <;> simp [br_true, br_false]
theorem lo_f40_0 : ∀ S l p, g_f40.L 0 (fgt fg_f40_0 S) = some (true, l) → pickA l = some p → loopF (roundF g_f40 fg_f40_0 tb_f40_0) S = some p :=
  lok_of (s := sh_f40_0) ⟨by decide, by decide⟩ (by kernel_rfl) fun x y hok p hp => by
  simp only [pickA_br, pickA_one] at hp
  exact (l_f40_0 x.1 x.2.1 x.2.2.1 x.2.2.2.1 (by simpa using hok)).trans hp
theorem lk_f40 : tc_f40.lok g_f40 := by
  repeat (first | exact trivial | exact lo_f40_0 | refine ⟨?_, ?_⟩)
theorem s_f40 (l : List ByteArray) (h : lenS l = true) : r_f40 l = some (.t .bool (wrongF l), []) := by
  simp only [lenS, Bool.and_eq_true, decide_eq_true_eq] at h
  simp only [r_f40, rng_0 h.1, h.2, Bool.true_and, Bool.and_true, decide_true, br_true, Int.toNat_zero]
  unfold wrongF
  cases wrongZ l l 0 <;> rfl
def sp_f40 : Ent := spec (.pr (.sl .str) .nil) (fun x => (lenS x.1)) (fun x => (.t .bool (wrongF x.1)))
theorem ms_f40 : Meets Try.prog 40 (strip sp_f40) := by
  obtain ⟨c, hc, hi⟩ := Option.map_eq_some_iff.1 ok_f40
  exact meets_spec (R := runF g_f40 tc_f40 rv_f40 false) (meets_of (by decide) Try.func40 hc hi Try.ntmps40 rok_f40 gk_f40 lk_f40 mixed) fun x hok => (e_f40 x.1).trans (s_f40 x.1 hok)
/-! the bytes of an executable -/
def secB (x : Section) : List Int := numL (slen x.1) 1 ++ (bytesL x.1 ++ (numL (llen x.2.1) 2 ++ x.2.1))
def symB (x : Symbol) : List Int := numL (slen x.1) 1 ++ (bytesL x.1 ++ numL x.2.1 4)
theorem secB_len (x : Section) : (secB x).length = 3 + x.1.size + x.2.1.length := by simp only [secB, List.length_append, numL_len, bytesG_len]; omega
theorem symB_len (x : Symbol) : (symB x).length = 5 + x.1.size := by simp only [symB, List.length_append, numL_len, bytesG_len]; omega
def writtenF (x : Image) : List Int := [88, 69, 1] ++ numL (llen x.1) 1 ++ x.1.flatMap secB ++ numL (llen x.2.1) 1 ++ x.2.1.flatMap symB
def wrOk (x : Image) : Bool := imgOk x && decide ((x.1.flatMap secB).length + (x.2.1.flatMap symB).length ≤ 8000000000000)
def dr_f29_0 : List DO := [(.mk (oV 21 3) []), (.mk (oP 22 (.fa 0 (.t 5))) []), (.mk (oL 23 22) [1]), (.mk (oC 24 42 [(.t 21), (.t 23)]) [0, 2]), (.mk (oP 25 (.fa 1 (.t 5))) []), (.mk (oL 26 25) [4]), (.mk (oP 27 (.len false (.t 26))) [5]), (.mk (oC 28 41 [(.t 24), (.t 27), (cI 2)]) [3, 6, 3]), (.mk (oP 29 (.fa 1 (.t 5))) []), (.mk (oL 30 29) [8]), (.mk (oM 31 (.app 5 1 1 (.t 28) (.t 30))) [7, 9, 7]), (.mk (oV 3 31) [10, 10, 0, 1, 2, 3, 4, 5, 6, 7, 8, 9, 10])]
def dr_f29_1 : List DO := [(.mk (oV 45 3) []), (.mk (oP 46 (.fa 0 (.t 7))) []), (.mk (oL 47 46) [1]), (.mk (oC 48 42 [(.t 45), (.t 47)]) [0, 2]), (.mk (oP 49 (.fa 1 (.t 7))) []), (.mk (oL 50 49) [4]), (.mk (oC 51 41 [(.t 48), (.t 50), (cI 4)]) [3, 5, 3]), (.mk (oV 3 51) [6, 6, 0, 1, 2, 3, 4, 5, 6])]
def fg_f29_0 : Fg := ⟨[(1, none), (3, none), (15, some (.sl tySection)), (16, some tI), (17, some tI)], [(1, some tyImage), (3, none), (13, none), (28, none), (31, none), (37, none), (51, none), (5013, none), (5028, none), (5037, none), (5051, none), (10013, none), (10028, none), (10037, none), (10051, none), (15013, none), (15028, none), (15037, none), (15051, none)]⟩
def tb_f29_0 : TC := (.mv [(28, 13)] (.sq (.reg [(oP 18 (.bin false .lss (.t 17) (.t 16)))]) (.sq (.cd (.t 18) .sk (.fg ⟨[(1, none), (3, none)], [(1, some tyImage), (3, none), (13, none), (28, none), (31, none), (37, none), (51, none), (5013, none), (5028, none), (5037, none), (5051, none), (10013, none), (10028, none), (10037, none), (10051, none), (15013, none), (15028, none), (15037, none), (15051, none)]⟩ (.ex 0))) (.sq (.bk 1 (.sq (.reg [(oP 19 (.ix 2 (.t 15) (.t 17))), (oM 20 (.ld true 2 (.t 19))), (oM 5 (.new [(.v (.string (ByteArray.mk #[]))), (.v (.slice none 0 0))])), (.mk none none (.m (.st 2 (.t 5) (.t 20))))]) (.dr dr_f29_0 [(0, [3, 13, 28, 31, 37, 51, 5013, 5028, 5037, 5051, 10013, 10028, 10037, 10051, 15013, 15028, 15037, 15051]), (1, [5]), (2, [5]), (3, [3, 13, 24, 28, 31, 37, 51, 5013, 5024, 5028, 5037, 5051, 10013, 10024, 10028, 10037, 10051, 15013, 15024, 15028, 15037, 15051]), (4, [5]), (5, [5]), (6, []), (7, [24, 28, 5024, 5028, 10024, 10028, 15024, 15028]), (8, [5]), (9, [5]), (10, [28, 31, 5028, 5031, 10028, 10031, 15028, 15031]), (11, [28, 31, 5028, 10028, 15028])] (.of [0, 1, 2, 4, 5, 6, 8, 9, 3, 7, 10, 11])))) (.reg [(oP 32 (.bin false .add (.t 17) (cI 1))), (oV 17 32)])))))
def fg_f29_1 : Fg := ⟨[(3, none), (39, some (.sl tySymbol)), (40, some tI), (41, some tI)], [(3, none), (13, none), (28, none), (31, none), (37, none), (51, none), (5013, none), (5028, none), (5037, none), (5051, none), (10013, none), (10028, none), (10037, none), (10051, none), (15013, none), (15028, none), (15037, none), (15051, none)]⟩
def tb_f29_1 : TC := (.mv [(51, 37)] (.sq (.reg [(oP 42 (.bin false .lss (.t 41) (.t 40)))]) (.sq (.cd (.t 42) .sk (.fg ⟨[(3, none)], [(3, none), (13, none), (28, none), (31, none), (37, none), (51, none), (5013, none), (5028, none), (5037, none), (5051, none), (10013, none), (10028, none), (10037, none), (10051, none), (15013, none), (15028, none), (15037, none), (15051, none)]⟩ (.ex 2))) (.sq (.bk 3 (.sq (.reg [(oP 43 (.ix 2 (.t 39) (.t 41))), (oM 44 (.ld true 2 (.t 43))), (oM 7 (.new [(.v (.string (ByteArray.mk #[]))), (.v (.int .i64 0))])), (.mk none none (.m (.st 2 (.t 7) (.t 44))))]) (.dr dr_f29_1 [(0, [3, 13, 28, 31, 37, 51, 5013, 5028, 5037, 5051, 10013, 10028, 10037, 10051, 15013, 15028, 15037, 15051]), (1, [7]), (2, [7]), (3, [3, 13, 28, 31, 37, 48, 51, 5013, 5028, 5037, 5048, 5051, 10013, 10028, 10037, 10048, 10051, 15013, 15028, 15037, 15048, 15051]), (4, [7]), (5, [7]), (6, [48, 51, 5048, 5051, 10048, 10051, 15048, 15051]), (7, [51, 5051, 10051, 15051])] (.of [0, 1, 2, 4, 5, 3, 6, 7])))) (.reg [(oP 52 (.bin false .add (.t 41) (cI 1))), (oV 41 52)])))))
/-- cipherplan/executable.written -/
def tc_f29 : TC := (.sq (.reg [(oM 1 (.box (.t 0))), (oP 2 (.mv (.c (.v (.slice none 0 0)))))]) (.sq (.reg [(oM 8 (.bs 5 1 3 [(.v (.int .u8 0)), (.v (.int .u8 0)), (.v (.int .u8 0))] [(0, 1, (.c (.v (.int .u8 88)))), (1, 1, (.c (.v (.int .u8 69)))), (2, 1, (.c (.v (.int .u8 1))))])), (oC 9 4680368 [(.t 8)]), (oP 10 (.fa 0 (.t 1))), (oL 11 10), (oP 12 (.len false (.t 11))), (oC 13 41 [(.t 9), (.t 12), (cI 1)]), (oV 3 13)]) (.sq (.sq (.reg [(oP 14 (.fa 0 (.t 1))), (oL 15 14), (oP 16 (.len false (.t 15))), (oP 17 (.mv (cI 0)))]) (.bk 0 (.nw 3 5 (.lp 0 fg_f29_0 tb_f29_0)))) (.sq (.reg [(oV 33 3), (oP 34 (.fa 1 (.t 1))), (oL 35 34), (oP 36 (.len false (.t 35))), (oC 37 41 [(.t 33), (.t 36), (cI 1)]), (oV 3 37)]) (.sq (.sq (.reg [(oP 38 (.fa 1 (.t 1))), (oL 39 38), (oP 40 (.len false (.t 39))), (oP 41 (.mv (cI 0)))]) (.bk 2 (.lp 1 fg_f29_1 tb_f29_1))) (.sq (.reg [(oV 53 3), (oV 2 53)]) .rt))))))
def rv_f29 : List (RV × Option Ty) := [((.t 2), none)]
abbrev sh_f29_0 : Sh := ⟨[(1, .ptr 1 0), (3, .ms 13), (15, .ty (.sl tySection)), (16, .ty tI), (17, .ty tI)], [(1, .box tyImage), (3, .no), (13, .arr 1000005 (.int .u8)), (28, .no), (31, .no), (37, .no), (51, .no), (5013, .no), (5028, .no), (5037, .no), (5051, .no), (10013, .no), (10028, .no), (10037, .no), (10051, .no), (15013, .no), (15028, .no), (15037, .no), (15051, .no)]⟩
def st_f29_0 (x15 : (List Section)) (x16 : Int) (x17 : Int) (y1 : Image) (y13 : (List Int)) : VS := sh_f29_0.st ((), (), x15, x16, x17, ()) (y1, (), y13, (), (), (), (), (), (), (), (), (), (), (), (), (), (), (), (), ())
abbrev sh_f29_0_e0 : Sh := ⟨[(1, .ptr 1 0), (3, .ms 13)], [(1, .box tyImage), (3, .no), (13, .arr 1000005 (.int .u8)), (28, .no), (31, .no), (37, .no), (51, .no), (5013, .no), (5028, .no), (5037, .no), (5051, .no), (10013, .no), (10028, .no), (10037, .no), (10051, .no), (15013, .no), (15028, .no), (15037, .no), (15051, .no)]⟩
def st_f29_0_e0 (y1 : Image) (y13 : (List Int)) : VS := sh_f29_0_e0.st ((), (), ()) (y1, (), y13, (), (), (), (), (), (), (), (), (), (), (), (), (), (), (), (), ())
-- loop 0: (x15 : (List Section)) (x16 : Int) (x17 : Int) (y1 : Image) (y13 : (List Int)); out: ('exit', 0) (y1 : Image) (y13 : (List Int))
abbrev sh_f29_1 : Sh := ⟨[(3, .ms 37), (39, .ty (.sl tySymbol)), (40, .ty tI), (41, .ty tI)], [(3, .no), (13, .no), (28, .no), (31, .no), (37, .arr 1000005 (.int .u8)), (51, .no), (5013, .no), (5028, .no), (5037, .no), (5051, .no), (10013, .no), (10028, .no), (10037, .no), (10051, .no), (15013, .no), (15028, .no), (15037, .no), (15051, .no)]⟩
def st_f29_1 (x39 : (List Symbol)) (x40 : Int) (x41 : Int) (y37 : (List Int)) : VS := sh_f29_1.st ((), x39, x40, x41, ()) ((), (), (), (), y37, (), (), (), (), (), (), (), (), (), (), (), (), (), ())
abbrev sh_f29_1_e2 : Sh := ⟨[(3, .ms 37)], [(3, .no), (13, .no), (28, .no), (31, .no), (37, .arr 1000005 (.int .u8)), (51, .no), (5013, .no), (5028, .no), (5037, .no), (5051, .no), (10013, .no), (10028, .no), (10037, .no), (10051, .no), (15013, .no), (15028, .no), (15037, .no), (15051, .no)]⟩
def st_f29_1_e2 (y37 : (List Int)) : VS := sh_f29_1_e2.st ((), ()) ((), (), (), (), y37, (), (), (), (), (), (), (), (), (), (), (), (), (), ())
-- loop 1: (x39 : (List Symbol)) (x40 : Int) (x41 : Int) (y37 : (List Int)); out: ('exit', 2) (y37 : (List Int))
def L_f29_0 : VS → Option (Bool × List (Bool × Exit × VS)) := mkL sh_f29_0 (fun x y => (rngOk x.2.2.1 x.2.2.2.1 x.2.2.2.2.1 && decide (y.2.2.1.length + ((x.2.2.1.drop x.2.2.2.2.1.toNat).flatMap secB).length ≤ 17592186044416))) (fun x y => [(true, .exit 0, st_f29_0_e0 (y.1) (y.2.2.1 ++ (x.2.2.1.drop x.2.2.2.2.1.toNat).flatMap secB))])
def L_f29_1 : VS → Option (Bool × List (Bool × Exit × VS)) := mkL sh_f29_1 (fun x y => (rngOk x.2.1 x.2.2.1 x.2.2.2.1 && decide (y.2.2.2.2.1.length + ((x.2.1.drop x.2.2.2.1.toNat).flatMap symB).length ≤ 17592186044416))) (fun x y => [(true, .exit 2, st_f29_1_e2 (y.2.2.2.2.1 ++ (x.2.1.drop x.2.2.2.1.toNat).flatMap symB))])
def g_f29 : G := ⟨TYs, [8], 54, EL [(41, sp_f41), (42, sp_f42), (4680368, sp_op_convert_23_23)], (42 :: 41 :: 4680368 :: keeps), (Ls [L_f29_0, L_f29_1]), IL [], RL []⟩
def b_f29_0 (x15 : (List Section)) (x16 : Int) (x17 : Int) (y1 : Image) (y13 : (List Int)) : Option (Exit × VS) :=
  br ((ilt x17 x16))
    (br (cIx x15 x17)
      (br ((nameOk1 y13 ((lgt tySection x15 (Int.toNat x17)).1)))
        (br ((numOk (nameF y13 ((lgt tySection x15 (Int.toNat x17)).1)) (llen (((lgt tySection x15 (Int.toNat x17)).2).1)) 2))
          (br (cApp (numF (nameF y13 ((lgt tySection x15 (Int.toNat x17)).1)) (llen (((lgt tySection x15 (Int.toNat x17)).2).1)) 2) (((lgt tySection x15 (Int.toNat x17)).2).1) 1)
            (some (.normal, st_f29_0 x15 x16 (iadd .i64 x17 1) y1 ((numF (nameF y13 ((lgt tySection x15 (Int.toNat x17)).1)) (llen (((lgt tySection x15 (Int.toNat x17)).2).1)) 2) ++ (((lgt tySection x15 (Int.toNat x17)).2).1))))
            (none))
          (none))
        (none))
      (none))
    (some (.exit 0, st_f29_0_e0 y1 y13))
noncomputable def lp_f29_0 (x15 : (List Section)) (x16 : Int) (x17 : Int) (y1 : Image) (y13 : (List Int)) : Option (Exit × VS) := loopF (roundF g_f29 fg_f29_0 tb_f29_0) (st_f29_0 x15 x16 x17 y1 y13)
noncomputable def n_f29_0 (x15 : (List Section)) (x16 : Int) (x17 : Int) (y1 : Image) (y13 : (List Int)) : Option (Exit × VS) :=
  br ((ilt x17 x16))
    (br (cIx x15 x17)
      (br ((nameOk1 y13 ((lgt tySection x15 (Int.toNat x17)).1)))
        (br ((numOk (nameF y13 ((lgt tySection x15 (Int.toNat x17)).1)) (llen (((lgt tySection x15 (Int.toNat x17)).2).1)) 2))
          (br (cApp (numF (nameF y13 ((lgt tySection x15 (Int.toNat x17)).1)) (llen (((lgt tySection x15 (Int.toNat x17)).2).1)) 2) (((lgt tySection x15 (Int.toNat x17)).2).1) 1)
            (lp_f29_0 x15 x16 (iadd .i64 x17 1) y1 ((numF (nameF y13 ((lgt tySection x15 (Int.toNat x17)).1)) (llen (((lgt tySection x15 (Int.toNat x17)).2).1)) 2) ++ (((lgt tySection x15 (Int.toNat x17)).2).1)))
            (none))
          (none))
        (none))
      (none))
    (some (.exit 0, st_f29_0_e0 y1 y13))
def la_f29_0 (x15 : (List Section)) (x16 : Int) (x17 : Int) (y1 : Image) (y13 : (List Int)) : Option (Exit × VS) := some (.exit 0, st_f29_0_e0 (y1) (y13 ++ (x15.drop x17.toNat).flatMap secB))
theorem be_f29_0 (x15 : (List Section)) (x16 : Int) (x17 : Int) (y1 : Image) (y13 : (List Int)) : roundF g_f29 fg_f29_0 tb_f29_0 (st_f29_0 x15 x16 x17 y1 y13) = b_f29_0 x15 x16 x17 y1 y13 := by kernel_rfl
theorem ln_f29_0 (x15 : (List Section)) (x16 : Int) (x17 : Int) (y1 : Image) (y13 : (List Int)) : lp_f29_0 x15 x16 x17 y1 y13 = n_f29_0 x15 x16 x17 y1 y13 := (loopF_nxt _ _).trans (by
  rw [be_f29_0]
  simp only [b_f29_0, n_f29_0, nxt_br, nxt_n, nxt_r, nxt_e, nxt_0]
  rfl)
def b_f29_1 (x39 : (List Symbol)) (x40 : Int) (x41 : Int) (y37 : (List Int)) : Option (Exit × VS) :=
  br ((ilt x41 x40))
    (br (cIx x39 x41)
      (br ((nameOk1 y37 ((lgt tySymbol x39 (Int.toNat x41)).1)))
        (br ((numOk (nameF y37 ((lgt tySymbol x39 (Int.toNat x41)).1)) (((lgt tySymbol x39 (Int.toNat x41)).2).1) 4))
          (some (.normal, st_f29_1 x39 x40 (iadd .i64 x41 1) (numF (nameF y37 ((lgt tySymbol x39 (Int.toNat x41)).1)) (((lgt tySymbol x39 (Int.toNat x41)).2).1) 4)))
          (none))
        (none))
      (none))
    (some (.exit 2, st_f29_1_e2 y37))
noncomputable def lp_f29_1 (x39 : (List Symbol)) (x40 : Int) (x41 : Int) (y37 : (List Int)) : Option (Exit × VS) := loopF (roundF g_f29 fg_f29_1 tb_f29_1) (st_f29_1 x39 x40 x41 y37)
noncomputable def n_f29_1 (x39 : (List Symbol)) (x40 : Int) (x41 : Int) (y37 : (List Int)) : Option (Exit × VS) :=
  br ((ilt x41 x40))
    (br (cIx x39 x41)
      (br ((nameOk1 y37 ((lgt tySymbol x39 (Int.toNat x41)).1)))
        (br ((numOk (nameF y37 ((lgt tySymbol x39 (Int.toNat x41)).1)) (((lgt tySymbol x39 (Int.toNat x41)).2).1) 4))
          (lp_f29_1 x39 x40 (iadd .i64 x41 1) (numF (nameF y37 ((lgt tySymbol x39 (Int.toNat x41)).1)) (((lgt tySymbol x39 (Int.toNat x41)).2).1) 4))
          (none))
        (none))
      (none))
    (some (.exit 2, st_f29_1_e2 y37))
def la_f29_1 (x39 : (List Symbol)) (x40 : Int) (x41 : Int) (y37 : (List Int)) : Option (Exit × VS) := some (.exit 2, st_f29_1_e2 (y37 ++ (x39.drop x41.toNat).flatMap symB))
theorem be_f29_1 (x39 : (List Symbol)) (x40 : Int) (x41 : Int) (y37 : (List Int)) : roundF g_f29 fg_f29_1 tb_f29_1 (st_f29_1 x39 x40 x41 y37) = b_f29_1 x39 x40 x41 y37 := by kernel_rfl
theorem ln_f29_1 (x39 : (List Symbol)) (x40 : Int) (x41 : Int) (y37 : (List Int)) : lp_f29_1 x39 x40 x41 y37 = n_f29_1 x39 x40 x41 y37 := (loopF_nxt _ _).trans (by
  rw [be_f29_1]
  simp only [b_f29_1, n_f29_1, nxt_br, nxt_n, nxt_r, nxt_e, nxt_0]
  rfl)
def r_f29 (p0 : Image) : Option (V × List VO) :=
  br ((!(List.isEmpty ([88, 69, 1]))))
    (br ((numOk ([88, 69, 1]) (llen p0.1) 1))
      (br ((rngOk p0.1 (llen p0.1) (0 : Int) && decide ((numF ([88, 69, 1]) (llen p0.1) 1).length + ((p0.1.drop (0 : Int).toNat).flatMap secB).length ≤ 17592186044416)))
        (br ((numOk ((numF ([88, 69, 1]) (llen p0.1) 1) ++ (p0.1.drop (0 : Int).toNat).flatMap secB) (llen (((p0).2).1)) 1))
          (br ((rngOk (((p0).2).1) (llen (((p0).2).1)) (0 : Int) && decide ((numF ((numF ([88, 69, 1]) (llen p0.1) 1) ++ (p0.1.drop (0 : Int).toNat).flatMap secB) (llen (((p0).2).1)) 1).length + (((((p0).2).1).drop (0 : Int).toNat).flatMap symB).length ≤ 17592186044416)))
            (some (.ms 50000, [.arr 1000005 (.int .u8) ((numF ((numF ([88, 69, 1]) (llen p0.1) 1) ++ (p0.1.drop (0 : Int).toNat).flatMap secB) (llen (((p0).2).1)) 1) ++ ((((p0).2).1).drop (0 : Int).toNat).flatMap symB)]))
            (none))
          (none))
        (none))
      (none))
    (none)
theorem e_f29 (p0 : Image) : runF g_f29 tc_f29 rv_f29 true [.t tyImage p0] [] = r_f29 p0 := by kernel_rfl
theorem ok_f29 : Option.map (trC Try.prog) Try.f29.body = some tc_f29.er := by kernel_rfl
theorem rok_f29 : trVs Try.prog Try.f29.results.toList = some (rv_f29.map Prod.fst) := by kernel_rfl
theorem en_f29 : Entered Try.prog 29 := .inr ⟨by decide, _, Try.func29, by kernel_rfl, by kernel_rfl⟩
theorem gk_f29 : GOk Try.prog g_f29 := gok_of _ (by
  intro p hp
  simp only [List.mem_cons, List.not_mem_nil, or_false] at hp
  rcases hp with rfl | rfl | rfl
  · exact ⟨en_f41, ms_f41⟩
  · exact ⟨en_f42, ms_f42⟩
  · exact ⟨en_op_convert_23_23, ms_op_convert_23_23⟩)
theorem l_f29_0 (x15 : (List Section)) (x16 : Int) (x17 : Int) (y1 : Image) (y13 : (List Int)) (h : (rngOk x15 x16 x17 && decide (y13.length + ((x15.drop x17.toNat).flatMap secB).length ≤ 17592186044416)) = true) : lp_f29_0 x15 x16 x17 y1 y13 = la_f29_0 x15 x16 x17 y1 y13 := by
  simp only [Bool.and_eq_true, decide_eq_true_eq] at h
  obtain ⟨h, hl⟩ := h
  obtain ⟨rfl, h3, k, rfl, hk⟩ := rng_k h
  clear h
  rw [Int.toNat_natCast] at hl
  revert y13
  refine range_ind x15 (fun k => ∀ y13 : List Int, y13.length + ((x15.drop k).flatMap secB).length ≤ 17592186044416 → lp_f29_0 x15 (x15.length : Int) (k : Int) y1 y13 = la_f29_0 x15 (x15.length : Int) (k : Int) y1 y13) ?_ ?_ k hk
  · intro y13 _
    rw [ln_f29_0]
    simp [n_f29_0, la_f29_0, ilt_nat, br_false]
  · intro k hk ih y13 hy
    rw [ln_f29_0]
    rw [List.drop_eq_getElem_cons hk, List.flatMap_cons, List.length_append, secB_len] at hy
    have l1 : (nameF y13 x15[k].1).length = y13.length + 1 + x15[k].1.size := by simp only [nameF, List.length_append, numL_len, bytesG_len]
    have l2 : (numF (nameF y13 x15[k].1) (llen x15[k].2.1) 2).length = y13.length + 3 + x15[k].1.size := by simp only [numF, List.length_append, numL_len, l1, show (2 : Int).toNat = 2 from rfl]; omega
    have e5 : numF (nameF y13 x15[k].1) (llen x15[k].2.1) 2 ++ x15[k].2.1 = y13 ++ secB x15[k] := by simp only [numF, nameF, secB, List.append_assoc]; rfl
    simp only [n_f29_0, ilt_nat, cIx_nat, hk, decide_true, br_true, Int.toNat_natCast, add1 (show k < 4611686018427387904 by omega), lgt_get (y := tySection) hk,
      show nameOk1 y13 x15[k].1 = true from by simp only [nameOk1, decide_eq_true_eq]; omega, show numOk (nameF y13 x15[k].1) (llen x15[k].2.1) 2 = true from by simp only [numOk, decide_eq_true_eq]; omega, cAppG (show (numF (nameF y13 x15[k].1) (llen x15[k].2.1) 2).length + x15[k].2.1.length ≤ 70368744177664 by omega), e5]
    rw [ih _ (by rw [List.length_append, secB_len]; omega)]
    simp only [la_f29_0, Int.toNat_natCast, List.drop_eq_getElem_cons hk, List.flatMap_cons, List.append_assoc]
theorem l_f29_1 (x39 : (List Symbol)) (x40 : Int) (x41 : Int) (y37 : (List Int)) (h : (rngOk x39 x40 x41 && decide (y37.length + ((x39.drop x41.toNat).flatMap symB).length ≤ 17592186044416)) = true) : lp_f29_1 x39 x40 x41 y37 = la_f29_1 x39 x40 x41 y37 := by
  simp only [Bool.and_eq_true, decide_eq_true_eq] at h
  obtain ⟨h, hl⟩ := h
  obtain ⟨rfl, h3, k, rfl, hk⟩ := rng_k h
  clear h
  rw [Int.toNat_natCast] at hl
  revert y37
  refine range_ind x39 (fun k => ∀ y37 : List Int, y37.length + ((x39.drop k).flatMap symB).length ≤ 17592186044416 → lp_f29_1 x39 (x39.length : Int) (k : Int) y37 = la_f29_1 x39 (x39.length : Int) (k : Int) y37) ?_ ?_ k hk
  · intro y37 _
    rw [ln_f29_1]
    simp [n_f29_1, la_f29_1, ilt_nat, br_false]
  · intro k hk ih y37 hy
    rw [ln_f29_1]
    rw [List.drop_eq_getElem_cons hk, List.flatMap_cons, List.length_append, symB_len] at hy
    have l1 : (nameF y37 x39[k].1).length = y37.length + 1 + x39[k].1.size := by simp only [nameF, List.length_append, numL_len, bytesG_len]
    have e5 : numF (nameF y37 x39[k].1) x39[k].2.1 4 = y37 ++ symB x39[k] := by simp only [numF, nameF, symB, List.append_assoc]; rfl
    simp only [n_f29_1, ilt_nat, cIx_nat, hk, decide_true, br_true, Int.toNat_natCast, add1 (show k < 4611686018427387904 by omega), lgt_get (y := tySymbol) hk,
      show nameOk1 y37 x39[k].1 = true from by simp only [nameOk1, decide_eq_true_eq]; omega, show numOk (nameF y37 x39[k].1) x39[k].2.1 4 = true from by simp only [numOk, decide_eq_true_eq]; omega, e5]
    rw [ih _ (by rw [List.length_append, symB_len]; omega)]
    simp only [la_f29_1, Int.toNat_natCast, List.drop_eq_getElem_cons hk, List.flatMap_cons, List.append_assoc]
theorem lo_f29_0 : ∀ S l p, g_f29.L 0 (fgt fg_f29_0 S) = some (true, l) → pickA l = some p → loopF (roundF g_f29 fg_f29_0 tb_f29_0) S = some p :=
  lok_of (s := sh_f29_0) ⟨by decide, by decide⟩ (by kernel_rfl) fun x y hok p hp => by
  simp only [pickA_br, pickA_one] at hp
  exact (l_f29_0 x.2.2.1 x.2.2.2.1 x.2.2.2.2.1 y.1 y.2.2.1 (by simpa using hok)).trans hp
theorem lo_f29_1 : ∀ S l p, g_f29.L 1 (fgt fg_f29_1 S) = some (true, l) → pickA l = some p → loopF (roundF g_f29 fg_f29_1 tb_f29_1) S = some p :=
  lok_of (s := sh_f29_1) ⟨by decide, by decide⟩ (by kernel_rfl) fun x y hok p hp => by
  simp only [pickA_br, pickA_one] at hp
  exact (l_f29_1 x.2.1 x.2.2.1 x.2.2.2.1 y.2.2.2.2.1 (by simpa using hok)).trans hp
theorem lk_f29 : tc_f29.lok g_f29 := by
  repeat (first | exact trivial | exact lo_f29_0 | exact lo_f29_1 | refine ⟨?_, ?_⟩)
theorem s_f29 (x : Image) (h : wrOk x = true) : r_f29 x = some (.ms 50000, [.arr 1000005 (.int .u8) (writtenF x)]) := by
  simp only [wrOk, imgOk, Bool.and_eq_true, decide_eq_true_eq] at h
  obtain ⟨⟨h1, h2⟩, h3⟩ := h
  have q0 : numOk [88, 69, 1] (llen x.1) 1 = true := rfl
  have q1 : (numF [88, 69, 1] (llen x.1) 1).length = 4 := by simp [numF, numL_len]
  have q2 : (numF [88, 69, 1] (llen x.1) 1 ++ x.1.flatMap secB).length ≤ 8796093022220 := by rw [List.length_append, q1]; omega
  have q3 : (numF (numF [88, 69, 1] (llen x.1) 1 ++ x.1.flatMap secB) (llen x.2.1) 1).length ≤ 8796093022221 := by
    have : (numF (numF [88, 69, 1] (llen x.1) 1 ++ x.1.flatMap secB) (llen x.2.1) 1).length = (numF [88, 69, 1] (llen x.1) 1 ++ x.1.flatMap secB).length + 1 := by
      unfold numF
      rw [List.length_append, numL_len]
      rfl
    omega
  simp only [r_f29, List.isEmpty_cons, Bool.not_false, br_true, q0, rng_0 h1, rng_0 h2, Bool.true_and, Int.toNat_zero, List.drop_zero]
  rw [decide_eq_true (show (numF [88, 69, 1] (llen x.1) 1).length + (x.1.flatMap secB).length ≤ 17592186044416 by omega), br_true]
  rw [show numOk (numF [88, 69, 1] (llen x.1) 1 ++ x.1.flatMap secB) (llen x.2.1) 1 = true from by simp only [numOk, decide_eq_true_eq]; omega, br_true]
  rw [decide_eq_true (show (numF (numF [88, 69, 1] (llen x.1) 1 ++ x.1.flatMap secB) (llen x.2.1) 1).length + (x.2.1.flatMap symB).length ≤ 17592186044416 by omega), br_true]
  rfl
def sp_f29 : Ent := specO (.pr tyImage .nil) (fun x => (wrOk x.1)) (fun x => (.ms 50000)) (fun x => [.arr 1000005 (.int .u8) (writtenF x.1)])
theorem ms_f29 : Meets Try.prog 29 (strip sp_f29) := by
  obtain ⟨c, hc, hi⟩ := Option.map_eq_some_iff.1 ok_f29
  exact meets_specO (R := runF g_f29 tc_f29 rv_f29 true) (meets_of (by decide) Try.func29 hc hi Try.ntmps29 rok_f29 gk_f29 lk_f29 mixed) fun x hok => (e_f29 x.1).trans (s_f29 x.1 hok)
end
end Go.Proofs.Ytdbaaejiolibfaa.K
