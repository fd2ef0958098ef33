/-
  verdict: spans, Spans, Falls.
-/
import Derived.Test.YtfehjdaielifiaaV4
set_option linter.unusedSimpArgs false
set_option linter.unusedVariables false
namespace Go.Proofs.Ytfehjdaielifiaa.K
open Go.RowKit
def spansL (y : Policy) (u : Keep) (p : Int) (l : List Int) (out : List Keep) : List Keep := spansZ (allF y u p) l out
def dr_verdict_spans_0 : List DO := [(.mk (.mk (some 21) none (.m (.pu (.mv (.t 8))))) []), (.mk (.mk (some 22) none (.m (.pu (.mv (.t 9))))) []), (.mk (.mk (some 23) none (.m (.pu (.ix 1 (.t 21) (.t 22))))) [0, 1]), (.mk (.mk (some 24) none (.m (.ld false 1 (.t 23)))) [2]), (.mk (.mk (some 25) none (.m (.pu (.mv (.t 8))))) []), (.mk (.mk (some 26) none (.m (.pu (.mv (.t 9))))) []), (.mk (.mk (some 27) none (.m (.pu (.bin false .add (.t 26) (.c (.v (.int .i64 1))))))) [5]), (.mk (.mk (some 28) none (.m (.pu (.ix 1 (.t 25) (.t 27))))) [4, 6]), (.mk (.mk (some 29) none (.m (.ld false 1 (.t 28)))) [7]), (.mk (.mk (some 10) none (.m (.pu (.mv (.t 24))))) [3, 0, 1, 2, 3]), (.mk (.mk (some 11) none (.m (.pu (.mv (.t 29))))) [8, 9, 0, 1, 2, 3, 4, 5, 6, 7, 8, 9])]
def fg_verdict_spans_0 : Fg := ⟨[(2, some tI), (3, none), (4, none), (7, none), (8, some (.sl tI)), (17, some tI), (18, some tI)], [(3, some tyPolicy), (4, some tyKeep), (7, none), (61, none)]⟩
def tb_verdict_spans_0 : TC := (.sq (.reg [(.mk (some 19) none (.m (.pu (.bin false .lss (.t 18) (.t 17)))))]) (.sq (.cd (.t 19) .sk (.fg ⟨[(7, none)], [(7, none), (61, none)]⟩ (.ex 0))) (.sq (.bk 1 (.sq (.reg [(.mk (some 20) none (.m (.pu (.mv (.t 18))))), (.mk (some 9) none (.m (.pu (.mv (.t 20)))))]) (.sq (.dr dr_verdict_spans_0 [(0, []), (1, []), (2, []), (3, []), (4, []), (5, []), (6, []), (7, []), (8, []), (9, []), (10, [])] (.of [0, 1, 2, 3, 4, 5, 6, 7, 8, 9, 10])) (.sq (.sq (.reg [(.mk (some 30) none (.m (.ld true 2 (.t 3)))), (.mk (some 31) none (.m (.ld true 2 (.t 4)))), (.mk (some 32) none (.m (.pu (.mv (.t 2))))), (.mk (some 33) none (.m (.pu (.mv (.t 10))))), (.mk (some 34) none (.call 63 [(.t 30), (.t 31), (.t 32), (.t 33)])), (.mk (some 35) none (.m (.pu (.nt (.t 34)))))]) (.cd (.t 35) (.fg ⟨[(2, some tI), (3, none), (4, none), (7, none), (8, some (.sl tI)), (17, some tI), (18, some tI)], [(3, some tyPolicy), (4, some tyKeep), (7, none), (61, none)]⟩ (.ex 1)) .sk)) (.sq (.reg [(.mk (some 36) none (.m (.pu (.mv (.t 7))))), (.mk (some 37) none (.m (.pu (.len false (.t 36))))), (.mk (some 12) none (.m (.pu (.mv (.t 37)))))]) (.sq (.reg [(.mk (some 38) none (.m (.pu (.mv (.t 12))))), (.mk (some 39) none (.m (.pu (.bin false .gtr (.t 38) (.c (.v (.int .i64 0))))))), (.mk (some 40) none (.m (.pu (.mv (.t 39))))), (.mk (some 41) (some (40, true)) (.m (.pu (.mv (.t 7))))), (.mk (some 42) (some (40, true)) (.m (.pu (.mv (.t 12))))), (.mk (some 43) (some (40, true)) (.m (.pu (.bin false .sub (.t 42) (.c (.v (.int .i64 1))))))), (.mk (some 44) (some (40, true)) (.m (.pu (.ix 2 (.t 41) (.t 43))))), (.mk (some 45) (some (40, true)) (.m (.pu (.fa 1 (.t 44))))), (.mk (some 46) (some (40, true)) (.m (.ld false 1 (.t 45)))), (.mk (some 47) (some (40, true)) (.m (.pu (.mv (.t 10))))), (.mk (some 48) (some (40, true)) (.m (.pu (.bin false .eql (.t 46) (.t 47))))), (.mk (some 49) none (.m (.pu (.pick (.t 40) (.t 48) (.c (.v (.bool false)))))))]) (.cd (.t 49) (.reg [(.mk (some 50) none (.m (.pu (.mv (.t 7))))), (.mk (some 51) none (.m (.pu (.mv (.t 12))))), (.mk (some 52) none (.m (.pu (.bin false .sub (.t 51) (.c (.v (.int .i64 1))))))), (.mk (some 53) none (.m (.pu (.mv (.t 11))))), (.mk (some 54) none (.m (.pu (.ix 2 (.t 50) (.t 52))))), (.mk (some 55) none (.m (.pu (.fa 1 (.t 54))))), (.mk none none (.m (.st 1 (.t 55) (.t 53))))]) (.reg [(.mk (some 56) none (.m (.pu (.mv (.t 7))))), (.mk (some 57) none (.m (.pu (.mv (.t 10))))), (.mk (some 58) none (.m (.pu (.mv (.t 11))))), (.mk (some 59) none (.m (.pu (.bd [(.v (.int .i64 0)), (.v (.int .i64 0))] [(0, 1, (.t 57)), (1, 1, (.t 58))])))), (.mk (some 60) none (.m (.bs 73 2 1 [(.v (.int .i64 0)), (.v (.int .i64 0))] [(0, 2, (.t 59))]))), (.mk (some 61) none (.m (.app 73 2 16 (.t 56) (.t 60)))), (.mk (some 7) none (.m (.pu (.mv (.t 61)))))])))))))) (.reg [(.mk (some 62) none (.m (.pu (.bin false .add (.t 18) (.c (.v (.int .i64 1))))))), (.mk (some 18) none (.m (.pu (.mv (.t 62)))))]))))
/-- cipherplan/verdict.spans -/
def tc_verdict_spans : TC := (.sq (.reg [(.mk (some 3) none (.m (.box (.t 0)))), (.mk (some 4) none (.m (.box (.t 1)))), (.mk (some 6) none (.m (.pu (.mv (.c (.v (.slice none 0 0)))))))]) (.sq (.reg [(.mk (some 7) none (.m (.pu (.mv (.c (.v (.slice none 0 0)))))))]) (.sq (.reg [(.mk (some 13) none (.m (.ld true 2 (.t 3)))), (.mk (some 14) none (.call 62 [(.t 13)])), (.mk (some 8) none (.m (.pu (.mv (.t 14)))))]) (.sq (.sq (.reg [(.mk (some 15) none (.m (.pu (.mv (.t 8))))), (.mk (some 16) none (.m (.pu (.len false (.t 15))))), (.mk (some 17) none (.m (.pu (.bin false .sub (.t 16) (.c (.v (.int .i64 1))))))), (.mk (some 18) none (.m (.pu (.mv (.c (.v (.int .i64 0)))))))]) (.bk 0 (.nw 7 73 (.lp 0 fg_verdict_spans_0 tb_verdict_spans_0)))) (.sq (.reg [(.mk (some 63) none (.m (.pu (.mv (.t 7))))), (.mk (some 6) none (.m (.pu (.mv (.t 63)))))]) .rt)))))
def rv_verdict_spans : List (RV × Option Ty) := [((.t 6), some (.sl tyKeep))]
abbrev sh_verdict_spans_0 : Sh := ⟨[(2, .ty tI), (3, .ptr 3 0), (4, .ptr 4 0), (7, .ms 7), (8, .ty (.sl tI)), (17, .ty tI), (18, .ty tI)], [(3, .box tyPolicy), (4, .box tyKeep), (7, .arr 73 tyKeep), (61, .no)]⟩
def st_verdict_spans_0 (x2 : Int) (x8 : (List Int)) (x17 : Int) (x18 : Int) (y3 : Policy) (y4 : Keep) (y7 : (List Keep)) : VS := sh_verdict_spans_0.st (x2, (), (), (), x8, x17, x18, ()) (y3, y4, y7, (), ())
abbrev sh_verdict_spans_0_e0 : Sh := ⟨[(7, .ms 7)], [(7, .arr 73 tyKeep), (61, .no)]⟩
def st_verdict_spans_0_e0 (y7 : (List Keep)) : VS := sh_verdict_spans_0_e0.st ((), ()) (y7, (), ())
-- loop 0: (x2 : Int) (x8 : (List Int)) (x17 : Int) (x18 : Int) (y3 : Policy) (y4 : Keep) (y7 : (List Keep)); out: ('exit', 0) (y7 : (List Keep))
def L_verdict_spans_0 : VS → Option (Bool × List (Bool × Exit × VS)) := mkL sh_verdict_spans_0 (fun x y => (decide (x.2.2.2.2.2.1 = (x.2.2.2.2.1.length : Int) - 1 ∧ 0 ≤ x.2.2.2.2.2.2.1 ∧ x.2.2.2.2.2.2.1 ≤ x.2.2.2.2.2.1 ∧ x.2.2.2.2.1.length ≤ 500000 ∧ (y.2.2.1.length : Int) ≤ x.2.2.2.2.2.2.1))) (fun x y => [(true, .exit 0, st_verdict_spans_0_e0 (spansL y.1 y.2.1 x.1 (x.2.2.2.2.1.drop x.2.2.2.2.2.2.1.toNat) y.2.2.1))])
def g_verdict_spans : G := ⟨TYs, [], 64, EL [(62, sp_verdict_days), (63, sp_verdict_allowed)], keeps, (Ls [L_verdict_spans_0]), IL [], RL []⟩
def b_verdict_spans_0_1 (x2 : Int) (x8 : (List Int)) (x17 : Int) (x18 : Int) (y3 : Policy) (y4 : Keep) (y7 : (List Keep)) : Option (Exit × VS) :=
  br (cApp y7 ([((lgt tI x8 (Int.toNat x18)), ((lgt tI x8 (Int.toNat (iadd .i64 x18 1))), ()))]) 16)
    (some (.normal, st_verdict_spans_0 x2 x8 x17 (iadd .i64 x18 1) y3 y4 (y7 ++ ([((lgt tI x8 (Int.toNat x18)), ((lgt tI x8 (Int.toNat (iadd .i64 x18 1))), ()))]))))
    (none)
def b_verdict_spans_0 (x2 : Int) (x8 : (List Int)) (x17 : Int) (x18 : Int) (y3 : Policy) (y4 : Keep) (y7 : (List Keep)) : Option (Exit × VS) :=
  br ((ilt x18 x17))
    (br (cIx x8 x18)
      (br (cIx x8 (iadd .i64 x18 1))
        (br ((!(allF y3 y4 x2 (lgt tI x8 (Int.toNat x18)))))
          (some (.normal, st_verdict_spans_0 x2 x8 x17 (iadd .i64 x18 1) y3 y4 y7))
          (br ((igt (llen y7) 0))
            (br (cIx y7 (isub .i64 (llen y7) 1))
              (br (cLd y7 (Int.toNat (isub .i64 (llen y7) 1)))
                (br ((ieq (((lgt tyKeep y7 (Int.toNat (isub .i64 (llen y7) 1))).2).1) (lgt tI x8 (Int.toNat x18))))
                  (br (cIx y7 (isub .i64 (llen y7) 1))
                    (br (cLd y7 (Int.toNat (isub .i64 (llen y7) 1)))
                      (some (.normal, st_verdict_spans_0 x2 x8 x17 (iadd .i64 x18 1) y3 y4 (List.set y7 (Int.toNat (isub .i64 (llen y7) 1)) ((lgt tyKeep y7 (Int.toNat (isub .i64 (llen y7) 1))).1, ((lgt tI x8 (Int.toNat (iadd .i64 x18 1))), ((lgt tyKeep y7 (Int.toNat (isub .i64 (llen y7) 1))).2).2)))))
                      (none))
                    (none))
                  (b_verdict_spans_0_1 x2 x8 x17 x18 y3 y4 y7))
                (none))
              (none))
            (b_verdict_spans_0_1 x2 x8 x17 x18 y3 y4 y7)))
        (none))
      (none))
    (some (.exit 0, st_verdict_spans_0_e0 y7))
noncomputable def lp_verdict_spans_0 (x2 : Int) (x8 : (List Int)) (x17 : Int) (x18 : Int) (y3 : Policy) (y4 : Keep) (y7 : (List Keep)) : Option (Exit × VS) := loopF (roundF g_verdict_spans fg_verdict_spans_0 tb_verdict_spans_0) (st_verdict_spans_0 x2 x8 x17 x18 y3 y4 y7)
noncomputable def n_verdict_spans_0_1 (x2 : Int) (x8 : (List Int)) (x17 : Int) (x18 : Int) (y3 : Policy) (y4 : Keep) (y7 : (List Keep)) : Option (Exit × VS) :=
  br (cApp y7 ([((lgt tI x8 (Int.toNat x18)), ((lgt tI x8 (Int.toNat (iadd .i64 x18 1))), ()))]) 16)
    (lp_verdict_spans_0 x2 x8 x17 (iadd .i64 x18 1) y3 y4 (y7 ++ ([((lgt tI x8 (Int.toNat x18)), ((lgt tI x8 (Int.toNat (iadd .i64 x18 1))), ()))])))
    (none)
noncomputable def n_verdict_spans_0 (x2 : Int) (x8 : (List Int)) (x17 : Int) (x18 : Int) (y3 : Policy) (y4 : Keep) (y7 : (List Keep)) : Option (Exit × VS) :=
  br ((ilt x18 x17))
    (br (cIx x8 x18)
      (br (cIx x8 (iadd .i64 x18 1))
        (br ((!(allF y3 y4 x2 (lgt tI x8 (Int.toNat x18)))))
          (lp_verdict_spans_0 x2 x8 x17 (iadd .i64 x18 1) y3 y4 y7)
          (br ((igt (llen y7) 0))
            (br (cIx y7 (isub .i64 (llen y7) 1))
              (br (cLd y7 (Int.toNat (isub .i64 (llen y7) 1)))
                (br ((ieq (((lgt tyKeep y7 (Int.toNat (isub .i64 (llen y7) 1))).2).1) (lgt tI x8 (Int.toNat x18))))
                  (br (cIx y7 (isub .i64 (llen y7) 1))
                    (br (cLd y7 (Int.toNat (isub .i64 (llen y7) 1)))
                      (lp_verdict_spans_0 x2 x8 x17 (iadd .i64 x18 1) y3 y4 (List.set y7 (Int.toNat (isub .i64 (llen y7) 1)) ((lgt tyKeep y7 (Int.toNat (isub .i64 (llen y7) 1))).1, ((lgt tI x8 (Int.toNat (iadd .i64 x18 1))), ((lgt tyKeep y7 (Int.toNat (isub .i64 (llen y7) 1))).2).2))))
                      (none))
                    (none))
                  (n_verdict_spans_0_1 x2 x8 x17 x18 y3 y4 y7))
                (none))
              (none))
            (n_verdict_spans_0_1 x2 x8 x17 x18 y3 y4 y7)))
        (none))
      (none))
    (some (.exit 0, st_verdict_spans_0_e0 y7))
def la_verdict_spans_0 (x2 : Int) (x8 : (List Int)) (x17 : Int) (x18 : Int) (y3 : Policy) (y4 : Keep) (y7 : (List Keep)) : Option (Exit × VS) := some (.exit 0, st_verdict_spans_0_e0 (spansL y3 y4 x2 (x8.drop x18.toNat) y7))
theorem be_verdict_spans_0 (x2 : Int) (x8 : (List Int)) (x17 : Int) (x18 : Int) (y3 : Policy) (y4 : Keep) (y7 : (List Keep)) : roundF g_verdict_spans fg_verdict_spans_0 tb_verdict_spans_0 (st_verdict_spans_0 x2 x8 x17 x18 y3 y4 y7) = b_verdict_spans_0 x2 x8 x17 x18 y3 y4 y7 := by kernel_rfl
theorem ln_verdict_spans_0 (x2 : Int) (x8 : (List Int)) (x17 : Int) (x18 : Int) (y3 : Policy) (y4 : Keep) (y7 : (List Keep)) : lp_verdict_spans_0 x2 x8 x17 x18 y3 y4 y7 = n_verdict_spans_0 x2 x8 x17 x18 y3 y4 y7 := (loopF_nxt _ _).trans (by
  rw [be_verdict_spans_0]
  simp only [b_verdict_spans_0, b_verdict_spans_0_1, n_verdict_spans_0, n_verdict_spans_0_1, nxt_br, nxt_n, nxt_r, nxt_e, nxt_0]
  rfl)
def r_verdict_spans (p0 : Policy) (p1 : Keep) (p2 : Int) : Option (V × List VO) :=
  br ((polLen p0))
    (br ((decide ((isub .i64 (llen (daysF p0)) 1) = ((daysF p0).length : Int) - 1 ∧ 0 ≤ (0 : Int) ∧ (0 : Int) ≤ (isub .i64 (llen (daysF p0)) 1) ∧ (daysF p0).length ≤ 500000 ∧ (([] : List Keep).length : Int) ≤ (0 : Int))))
      (some (.t (.sl tyKeep) (spansL p0 p1 p2 ((daysF p0).drop (0 : Int).toNat) ([] : List Keep)), []))
      (none))
    (none)
theorem e_verdict_spans (p0 : Policy) (p1 : Keep) (p2 : Int) : runF g_verdict_spans tc_verdict_spans rv_verdict_spans false [.t tyPolicy p0, .t tyKeep p1, .t tI p2] [] = r_verdict_spans p0 p1 p2 := by kernel_rfl
theorem ok_verdict_spans : Option.map (trC Try.prog) Try.f51.body = some tc_verdict_spans.er := by kernel_rfl
theorem rok_verdict_spans : trVs Try.prog Try.f51.results.toList = some (rv_verdict_spans.map Prod.fst) := by kernel_rfl
theorem en_verdict_spans : Entered Try.prog 51 := .inr ⟨by decide, _, Try.func51, by kernel_rfl, by kernel_rfl⟩
theorem gk_verdict_spans : GOk Try.prog g_verdict_spans := gok_of _ (by
  intro p hp
  simp only [List.mem_cons, List.not_mem_nil, or_false] at hp
  rcases hp with rfl | rfl
  · exact ⟨en_verdict_days, ms_verdict_days⟩
  · exact ⟨en_verdict_allowed, ms_verdict_allowed⟩)
theorem spanPut_app (l : List Keep) (s : Keep) (a b : Int) : spanPut (l ++ [s]) a b = if s.2.1 = a then l ++ [(s.1, b, ())] else (l ++ [s]) ++ [(a, b, ())] := by
  unfold spanPut
  rw [List.getLast?_concat, List.dropLast_concat]
theorem spanPut_len (l : List Keep) (a b : Int) : (spanPut l a b).length ≤ l.length + 1 := by
  rcases List.eq_nil_or_concat l with rfl | ⟨l, s, rfl⟩
  · simp [spanPut]
  · rw [List.concat_eq_append, spanPut_app]
    split <;> simp
theorem span_put {f : List Keep → Option (Exit × VS)} (y : List Keep) (a b : Int) (hl : y.length ≤ 500000) :
    (br (igt (llen y) 0)
      (br (cIx y (isub .i64 (llen y) 1))
        (br (cLd y (Int.toNat (isub .i64 (llen y) 1)))
          (br (ieq (((lgt tyKeep y (Int.toNat (isub .i64 (llen y) 1))).2).1) a)
            (br (cIx y (isub .i64 (llen y) 1))
              (br (cLd y (Int.toNat (isub .i64 (llen y) 1)))
                (f (List.set y (Int.toNat (isub .i64 (llen y) 1)) ((lgt tyKeep y (Int.toNat (isub .i64 (llen y) 1))).1, (b, ((lgt tyKeep y (Int.toNat (isub .i64 (llen y) 1))).2).2))))
                none) none)
            (br (cApp y [(a, (b, ()))] 16) (f (y ++ [(a, (b, ()))])) none)) none) none)
      (br (cApp y [(a, (b, ()))] 16) (f (y ++ [(a, (b, ()))])) none)) = f (spanPut y a b) := by
  have e0 : cApp y [(a, (b, ()))] 16 = true := cApp_ok (by simp; omega) (by omega)
  rw [e0]
  simp only [br_true]
  rcases List.eq_nil_or_concat y with rfl | ⟨l, s, rfl⟩
  · rfl
  · rw [List.concat_eq_append] at *
    have e1 : isub .i64 (llen (l ++ [s])) 1 = (l.length : Int) := by
      have : llen (l ++ [s]) = (l.length : Int) + 1 := by simp [llen]
      rw [this, isub_in (by rw [List.length_append, List.length_singleton] at hl; omega)]
      omega
    have h2 : l.length < (l ++ [s]).length := by simp
    have e2 : igt (llen (l ++ [s])) 0 = true := by simp only [igt, llen, List.length_append, List.length_singleton, decide_eq_true_eq]; omega
    have e3 : cLd (l ++ [s]) l.length = true := by simp [cLd]
    have e4 : lgt tyKeep (l ++ [s]) l.length = s := by rw [lgt_get (y := tyKeep) h2]; simp
    rw [e1, e2]
    simp only [br_true, cIx_nat, h2, decide_true, Int.toNat_natCast, e3, e4, spanPut_app, ieq_dec]
    by_cases hs : s.2.1 = a
    · simp only [hs, decide_true, br_true, if_true]
      congr 1
      obtain ⟨s1, s2, s3⟩ := s
      simp
    · simp [hs, br_false]
theorem l_verdict_spans_0 (x2 : Int) (x8 : (List Int)) (x17 : Int) (x18 : Int) (y3 : Policy) (y4 : Keep) (y7 : (List Keep)) (h : (decide (x17 = (x8.length : Int) - 1 ∧ 0 ≤ x18 ∧ x18 ≤ x17 ∧ x8.length ≤ 500000 ∧ (y7.length : Int) ≤ x18)) = true) : lp_verdict_spans_0 x2 x8 x17 x18 y3 y4 y7 = la_verdict_spans_0 x2 x8 x17 x18 y3 y4 y7 := by
  simp only [decide_eq_true_eq] at h
  obtain ⟨rfl, h1, h2, h3, h4⟩ := h
  obtain ⟨k, rfl⟩ := Int.eq_ofNat_of_zero_le h1
  revert y7
  refine up_ind (x8.length - 1) (fun k => ∀ y7 : List Keep, (y7.length : Int) ≤ (k : Int) → lp_verdict_spans_0 x2 x8 ((x8.length : Int) - 1) (k : Int) y3 y4 y7 = la_verdict_spans_0 x2 x8 ((x8.length : Int) - 1) (k : Int) y3 y4 y7) ?_ ?_ k (by omega)
  · intro y7 _
    rw [ln_verdict_spans_0]
    have e1 : ilt ((x8.length - 1 : Nat) : Int) ((x8.length : Int) - 1) = false := by simp only [ilt, decide_eq_false_iff_not]; omega
    have e2 : x8.drop (x8.length - 1) = [x8[x8.length - 1]'(by omega)] := by
      rw [List.drop_eq_getElem_cons (by omega)]
      congr 1
      exact List.drop_eq_nil_of_le (by omega)
    simp only [n_verdict_spans_0, e1, br_false, la_verdict_spans_0, Int.toNat_natCast, e2, spansL, spansZ]
  · intro k hk ih y7 hy
    rw [ln_verdict_spans_0]
    have e1 : ilt (k : Int) ((x8.length : Int) - 1) = true := by simp only [ilt, decide_eq_true_eq]; omega
    have hk1 : k < x8.length := by omega
    have hk2 : k + 1 < x8.length := by omega
    have ea : iadd .i64 (k : Int) 1 = ((k + 1 : Nat) : Int) := add1 (by omega)
    simp only [n_verdict_spans_0, n_verdict_spans_0_1, e1, ea, br_true, cIx_nat, hk1, hk2, decide_true, Int.toNat_natCast, lgt_get (y := tI) hk1, lgt_get (y := tI) hk2]
    rw [span_put (f := fun z => lp_verdict_spans_0 x2 x8 ((x8.length : Int) - 1) ((k + 1 : Nat) : Int) y3 y4 z) y7 _ _ (by omega)]
    have el : la_verdict_spans_0 x2 x8 ((x8.length : Int) - 1) (k : Int) y3 y4 y7 = la_verdict_spans_0 x2 x8 ((x8.length : Int) - 1) ((k + 1 : Nat) : Int) y3 y4 (if allF y3 y4 x2 x8[k] then spanPut y7 x8[k] x8[k + 1] else y7) := by
      simp only [la_verdict_spans_0, spansL, Int.toNat_natCast]
      rw [List.drop_eq_getElem_cons hk1, List.drop_eq_getElem_cons hk2]
      rfl
    rw [el]
    have hp := spanPut_len y7 x8[k] x8[k + 1]
    cases hc : allF y3 y4 x2 x8[k] with
    | true =>
      simp only [Bool.not_true, br_false, if_true]
      exact ih _ (by omega)
    | false =>
      simp only [Bool.not_false, br_true, Bool.false_eq_true, if_false]
      exact ih _ (by omega)
theorem lo_verdict_spans_0 : ∀ S l p, g_verdict_spans.L 0 (fgt fg_verdict_spans_0 S) = some (true, l) → pickA l = some p → loopF (roundF g_verdict_spans fg_verdict_spans_0 tb_verdict_spans_0) S = some p :=
  lok_of (s := sh_verdict_spans_0) ⟨by decide, by decide⟩ (by kernel_rfl) fun x y hok p hp => by
  simp only [pickA_br, pickA_one] at hp
  exact (l_verdict_spans_0 x.1 x.2.2.2.2.1 x.2.2.2.2.2.1 x.2.2.2.2.2.2.1 y.1 y.2.1 y.2.2.1 (by simpa using hok)).trans hp
theorem lk_verdict_spans : tc_verdict_spans.lok g_verdict_spans := by
  repeat (first | exact trivial | exact lo_verdict_spans_0 | refine ⟨?_, ?_⟩)
theorem compact_le (l : List Int) : (Lib.compact l).length ≤ l.length := by
  unfold Lib.compact Lib.compactUpTo
  rw [List.length_map]
  exact Nat.le_trans (List.length_filter_le _ _) (by simp)
theorem cuts_len (rs : List Rule) : 2 ≤ (cutsP rs).length ∧ (cutsP rs).length ≤ 2 * rs.length + 2 := by
  constructor
  · have h1 : (0 : Int) ∈ cutsP rs := mem_cutsP.2 (.inl rfl)
    have h2 : (40001 : Int) ∈ cutsP rs := mem_cutsP.2 (.inr (.inl rfl))
    match hq : cutsP rs with
    | [] => rw [hq] at h1; cases h1
    | [a] =>
      rw [hq] at h1 h2
      rw [List.mem_singleton] at h1 h2
      omega
    | _ :: _ :: _ => simp
  · unfold cutsP
    refine Nat.le_trans (compact_le _) ?_
    have := ends_length rs
    unfold sortI
    rw [List.length_mergeSort]
    simp
    omega
theorem s_verdict_spans (y : Policy) (u : Keep) (p : Int) (h : polLen3 y u p = true) : r_verdict_spans y u p = some (.t (.sl tyKeep) (spansF y u p), []) := by
  have h : polLen y = true := h
  have h' := h
  simp only [polLen, lenOk5, Bool.and_eq_true, decide_eq_true_eq] at h'
  have hl : 2 ≤ (daysF y).length ∧ (daysF y).length ≤ 2 * y.1.length + 2 := cuts_len y.1
  have e1 : isub .i64 (llen (daysF y)) 1 = ((daysF y).length : Int) - 1 := isub_in (by unfold llen; omega)
  simp only [r_verdict_spans, h, br_true, e1, Int.toNat_zero, List.drop_zero]
  rw [dec_true (by simp; omega), br_true]
  rfl
def sp_verdict_spans : Ent := spec (.pr tyPolicy (.pr tyKeep (.pr tI .nil))) (fun x => (polLen3 x.1 x.2.1 x.2.2.1)) (fun x => (.t (.sl tyKeep) (spansF x.1 x.2.1 x.2.2.1)))
theorem ms_verdict_spans : Meets Try.prog 51 (strip sp_verdict_spans) := by
  obtain ⟨c, hc, hi⟩ := Option.map_eq_some_iff.1 ok_verdict_spans
  exact meets_spec (R := runF g_verdict_spans tc_verdict_spans rv_verdict_spans false) (meets_of (by decide) Try.func51 hc hi Try.ntmps51 rok_verdict_spans gk_verdict_spans lk_verdict_spans mixed) fun x hok => (e_verdict_spans x.1 x.2.1 x.2.2.1).trans (s_verdict_spans x.1 x.2.1 x.2.2.1 hok)
def SpansF (y : Policy) (u : Keep) (p : Int) : List Keep × Int := if earlyF y u p 0 = 0 then (spansF y u p, 0) else ([], earlyF y u p 0)
def fallL (l : List Keep) : Int × Bool := match l.getLast? with
  | none => (0, true)
  | some s => if s.2.1 = 40001 then (0, false) else (s.2.1, true)
def FallsF (y : Policy) (u : Keep) (p : Int) : Int × Bool × Int := if earlyF y u p 0 = 0 then ((fallL (spansF y u p)).1, (fallL (spansF y u p)).2, 0) else (0, false, earlyF y u p 0)
/-- cipherplan/verdict.Falls -/
def tc_verdict_Falls : TC := (.sq (.reg [(.mk (some 3) none (.m (.box (.t 0)))), (.mk (some 4) none (.m (.box (.t 1)))), (.mk (some 6) none (.m (.pu (.mv (.c (.v (.int .i64 0))))))), (.mk (some 7) none (.m (.pu (.mv (.c (.v (.bool false))))))), (.mk (some 8) none (.m (.pu (.mv (.c (.v (.int .i64 0)))))))]) (.sq (.sq (.reg [(.mk (some 12) none (.m (.ld true 2 (.t 3)))), (.mk (some 13) none (.m (.ld true 2 (.t 4)))), (.mk (some 14) none (.m (.pu (.mv (.t 2))))), (.mk (some 15) none (.call 50 [(.t 12), (.t 13), (.t 14), (.c (.v (.int .i64 0)))])), (.mk (some 9) none (.m (.pu (.mv (.t 15)))))]) (.sq (.reg [(.mk (some 16) none (.m (.pu (.mv (.t 9))))), (.mk (some 17) none (.m (.pu (.bin false .neq (.t 16) (.c (.v (.int .i64 0)))))))]) (.cd (.t 17) (.sq (.reg [(.mk (some 18) none (.m (.pu (.mv (.t 9))))), (.mk (some 6) none (.m (.pu (.mv (.c (.v (.int .i64 0))))))), (.mk (some 7) none (.m (.pu (.mv (.c (.v (.bool false))))))), (.mk (some 8) none (.m (.pu (.mv (.t 18)))))]) .rt) .sk))) (.sq (.reg [(.mk (some 19) none (.m (.ld true 2 (.t 3)))), (.mk (some 20) none (.m (.ld true 2 (.t 4)))), (.mk (some 21) none (.m (.pu (.mv (.t 2))))), (.mk (some 22) none (.call 51 [(.t 19), (.t 20), (.t 21)])), (.mk (some 10) none (.m (.pu (.mv (.t 22)))))]) (.sq (.reg [(.mk (some 23) none (.m (.pu (.mv (.t 10))))), (.mk (some 24) none (.m (.pu (.len false (.t 23))))), (.mk (some 11) none (.m (.pu (.mv (.t 24)))))]) (.bk 0 (.sq (.reg [(.mk (some 32) none (.m (.pu (.mv (.t 11))))), (.mk (some 33) none (.m (.pu (.bin false .eql (.t 32) (.c (.v (.int .i64 0))))))), (.mk (some 31) none (.m (.pu (.mv (.t 33)))))]) (.cd (.t 31) (.sq (.reg [(.mk (some 6) none (.m (.pu (.mv (.c (.v (.int .i64 0))))))), (.mk (some 7) none (.m (.pu (.mv (.c (.v (.bool true))))))), (.mk (some 8) none (.m (.pu (.mv (.c (.v (.int .i64 0)))))))]) .rt) (.sq (.reg [(.mk (some 35) none (.m (.pu (.mv (.t 10))))), (.mk (some 36) none (.m (.pu (.mv (.t 11))))), (.mk (some 37) none (.m (.pu (.bin false .sub (.t 36) (.c (.v (.int .i64 1))))))), (.mk (some 38) none (.m (.pu (.ix 2 (.t 35) (.t 37))))), (.mk (some 39) none (.m (.pu (.fa 1 (.t 38))))), (.mk (some 40) none (.m (.ld false 1 (.t 39)))), (.mk (some 41) none (.m (.pu (.bin false .eql (.t 40) (.c (.v (.int .i64 40001))))))), (.mk (some 34) none (.m (.pu (.mv (.t 41)))))]) (.cd (.t 34) (.sq (.reg [(.mk (some 6) none (.m (.pu (.mv (.c (.v (.int .i64 0))))))), (.mk (some 7) none (.m (.pu (.mv (.c (.v (.bool false))))))), (.mk (some 8) none (.m (.pu (.mv (.c (.v (.int .i64 0)))))))]) .rt) (.sq (.reg [(.mk (some 25) none (.m (.pu (.mv (.t 10))))), (.mk (some 26) none (.m (.pu (.mv (.t 11))))), (.mk (some 27) none (.m (.pu (.bin false .sub (.t 26) (.c (.v (.int .i64 1))))))), (.mk (some 28) none (.m (.pu (.ix 2 (.t 25) (.t 27))))), (.mk (some 29) none (.m (.pu (.fa 1 (.t 28))))), (.mk (some 30) none (.m (.ld false 1 (.t 29)))), (.mk (some 6) none (.m (.pu (.mv (.t 30))))), (.mk (some 7) none (.m (.pu (.mv (.c (.v (.bool true))))))), (.mk (some 8) none (.m (.pu (.mv (.c (.v (.int .i64 0)))))))]) .rt))))))))))
def rv_verdict_Falls : List (RV × Option Ty) := [((.t 6), some tI), ((.t 7), some .bool), ((.t 8), some tI)]
def g_verdict_Falls : G := ⟨TYs, [], 42, EL [(50, sp_verdict_early), (51, sp_verdict_spans)], keeps, (fun _ _ => none), IL [], RL []⟩
def r_verdict_Falls (p0 : Policy) (p1 : Keep) (p2 : Int) : Option (V × List VO) :=
  br ((polLen4 p0 p1 p2 0))
    (br ((ine (earlyF p0 p1 p2 0) 0))
      (some (.tu [(.t tI 0), (.t .bool false), (.t tI (earlyF p0 p1 p2 0))], []))
      (br ((polLen3 p0 p1 p2))
        (br ((ieq (llen (spansF p0 p1 p2)) 0))
          (some (.tu [(.t tI 0), (.t .bool true), (.t tI 0)], []))
          (br (cIx (spansF p0 p1 p2) (isub .i64 (llen (spansF p0 p1 p2)) 1))
            (br ((ieq (((lgt tyKeep (spansF p0 p1 p2) (Int.toNat (isub .i64 (llen (spansF p0 p1 p2)) 1))).2).1) 40001))
              (some (.tu [(.t tI 0), (.t .bool false), (.t tI 0)], []))
              (br (cIx (spansF p0 p1 p2) (isub .i64 (llen (spansF p0 p1 p2)) 1))
                (some (.tu [(.t tI (((lgt tyKeep (spansF p0 p1 p2) (Int.toNat (isub .i64 (llen (spansF p0 p1 p2)) 1))).2).1)), (.t .bool true), (.t tI 0)], []))
                (none)))
            (none)))
        (none)))
    (none)
theorem e_verdict_Falls (p0 : Policy) (p1 : Keep) (p2 : Int) : runF g_verdict_Falls tc_verdict_Falls rv_verdict_Falls false [.t tyPolicy p0, .t tyKeep p1, .t tI p2] [] = r_verdict_Falls p0 p1 p2 := by kernel_rfl
theorem ok_verdict_Falls : Option.map (trC Try.prog) Try.f34.body = some tc_verdict_Falls.er := by kernel_rfl
theorem rok_verdict_Falls : trVs Try.prog Try.f34.results.toList = some (rv_verdict_Falls.map Prod.fst) := by kernel_rfl
theorem en_verdict_Falls : Entered Try.prog 34 := .inr ⟨by decide, _, Try.func34, by kernel_rfl, by kernel_rfl⟩
theorem gk_verdict_Falls : GOk Try.prog g_verdict_Falls := gok_of _ (by
  intro p hp
  simp only [List.mem_cons, List.not_mem_nil, or_false] at hp
  rcases hp with rfl | rfl
  · exact ⟨en_verdict_early, ms_verdict_early⟩
  · exact ⟨en_verdict_spans, ms_verdict_spans⟩)
theorem lk_verdict_Falls : tc_verdict_Falls.lok g_verdict_Falls := by repeat (first | exact trivial | refine ⟨?_, ?_⟩)
theorem spansZ_len {f : Int → Bool} : ∀ (l : List Int) (out : List Keep), (spansZ f l out).length ≤ out.length + l.length
  | [], out => by simp [spansZ]
  | [a], out => by simp [spansZ]
  | a :: b :: r, out => by
    have h := spansZ_len (f := f) (b :: r) (if f a then spanPut out a b else out)
    have h2 := spanPut_len out a b
    simp only [spansZ, List.length_cons] at h ⊢
    split at h <;> simp_all <;> omega
theorem spans_len (y : Policy) (u : Keep) (p : Int) : (spansF y u p).length ≤ 2 * y.1.length + 2 := by
  have := spansZ_len (f := allF y u p) (cutsP y.1) []
  have := cuts_len y.1
  unfold spansF
  simp at *
  omega
theorem s_verdict_Falls (y : Policy) (u : Keep) (p : Int) (h : polLen3 y u p = true) : r_verdict_Falls y u p = some (.tu [.t tI (FallsF y u p).1, .t .bool (FallsF y u p).2.1, .t tI (FallsF y u p).2.2], []) := by
  have h4 : polLen4 y u p 0 = true := h
  have h5 : polLen y = true := h
  simp only [polLen, lenOk5, Bool.and_eq_true, decide_eq_true_eq] at h5
  have hl := spans_len y u p
  simp only [r_verdict_Falls, h, h4, br_true, FallsF, ine_dec, fallL]
  by_cases h0 : earlyF y u p 0 = 0
  · simp only [h0, ne_eq, not_true_eq_false, decide_false, br_false, if_true]
    generalize spansF y u p = z at *
    rcases List.eq_nil_or_concat z with rfl | ⟨l, s, rfl⟩
    · rfl
    · rw [List.concat_eq_append] at *
      have e1 : isub .i64 (llen (l ++ [s])) 1 = (l.length : Int) := by
        have : llen (l ++ [s]) = (l.length : Int) + 1 := by simp [llen]
        rw [this, isub_in (by rw [List.length_append, List.length_singleton] at hl; omega)]
        omega
      have h2 : l.length < (l ++ [s]).length := by simp
      have e2 : ieq (llen (l ++ [s])) 0 = false := by simp only [ieq_dec, llen, List.length_append, List.length_singleton, decide_eq_false_iff_not]; omega
      have e4 : lgt tyKeep (l ++ [s]) l.length = s := by rw [lgt_get (y := tyKeep) h2]; simp
      rw [e1, e2, List.getLast?_concat]
      simp only [br_false, cIx_nat, h2, decide_true, br_true, Int.toNat_natCast, e4, ieq_dec]
      by_cases hs : s.2.1 = 40001 <;> simp [hs, br_true, br_false]
  · simp [h0, br_true]
def sp_verdict_Falls : Ent := spec (.pr tyPolicy (.pr tyKeep (.pr tI .nil))) (fun x => (polLen3 x.1 x.2.1 x.2.2.1)) (fun x => (.tu [(.t tI ((FallsF x.1 x.2.1 x.2.2.1).1)), (.t .bool (((FallsF x.1 x.2.1 x.2.2.1).2).1)), (.t tI (((FallsF x.1 x.2.1 x.2.2.1).2).2))]))
theorem ms_verdict_Falls : Meets Try.prog 34 (strip sp_verdict_Falls) := by
  obtain ⟨c, hc, hi⟩ := Option.map_eq_some_iff.1 ok_verdict_Falls
  exact meets_spec (R := runF g_verdict_Falls tc_verdict_Falls rv_verdict_Falls false) (meets_of (by decide) Try.func34 hc hi Try.ntmps34 rok_verdict_Falls gk_verdict_Falls lk_verdict_Falls mixed) fun x hok => (e_verdict_Falls x.1 x.2.1 x.2.2.1).trans (s_verdict_Falls x.1 x.2.1 x.2.2.1 hok)
end Go.Proofs.Ytfehjdaielifiaa.K
