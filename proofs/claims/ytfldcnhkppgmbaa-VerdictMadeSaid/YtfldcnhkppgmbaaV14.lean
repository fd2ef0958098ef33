/-
  The law that the last keep of a purpose decides.
-/
import Derived.Test.YtfldcnhkppgmbaaV12
import Derived.Test.YtfldcnhkppgmbaaKD
set_option linter.unusedSimpArgs false
set_option linter.unusedVariables false
namespace Go.Proofs.Ytfldcnhkppgmbaa.K
open Go.RowKit
/-! awake -/
def awakeT : Bool := true
/-- cipherplan/cipherplanlaw18.awake -/
def tc_law18_awake : TC := (.sq (.reg [(.mk (some 0) none (.m (.pu (.mv (.c (.v (.bool false)))))))]) (.sq (.reg [(.mk (some 8) none (.m (.pu (.bd [(.v (.bool false)), (.v (.int .i64 0)), (.v (.int .i64 0)), (.v (.int .i64 0)), (.v (.int .i64 0)), (.v (.int .i64 0))] [(1, 1, (.c (.v (.int .i64 1)))), (5, 1, (.c (.v (.int .i64 40001))))])))), (.mk (some 9) none (.m (.pu (.bd [(.v (.bool false)), (.v (.int .i64 0)), (.v (.int .i64 0)), (.v (.int .i64 0)), (.v (.int .i64 0)), (.v (.int .i64 0))] [(0, 1, (.c (.v (.bool true)))), (1, 1, (.c (.v (.int .i64 1)))), (5, 1, (.c (.v (.int .i64 9))))])))), (.mk (some 10) none (.m (.bs 56 6 2 [(.v (.bool false)), (.v (.int .i64 0)), (.v (.int .i64 0)), (.v (.int .i64 0)), (.v (.int .i64 0)), (.v (.int .i64 0)), (.v (.bool false)), (.v (.int .i64 0)), (.v (.int .i64 0)), (.v (.int .i64 0)), (.v (.int .i64 0)), (.v (.int .i64 0))] [(0, 6, (.t 8)), (6, 6, (.t 9))]))), (.mk (some 11) none (.m (.pu (.bd [(.v (.slice none 0 0)), (.v (.slice none 0 0))] [(0, 1, (.t 10))])))), (.mk (some 1) none (.m (.new [(.v (.slice none 0 0)), (.v (.slice none 0 0))]))), (.mk none none (.m (.st 2 (.t 1) (.t 11))))]) (.sq (.reg [(.mk (some 12) none (.m (.pu (.bd [(.v (.int .i64 0)), (.v (.int .i64 0))] [(0, 1, (.c (.v (.int .i64 1))))])))), (.mk (some 2) none (.m (.new [(.v (.int .i64 0)), (.v (.int .i64 0))]))), (.mk none none (.m (.st 2 (.t 2) (.t 12))))]) (.sq (.reg [(.mk (some 14) none (.m (.ld true 2 (.t 1)))), (.mk (some 15) none (.m (.ld true 2 (.t 2)))), (.mk (some 16) none (.call 19 [(.t 14), (.t 15), (.c (.v (.int .i64 1)))])), (.mk (some 13) none (.m (.pu (.mv (.t 16))))), (.mk (some 17) none (.m (.pu (.ext 0 (.t 13))))), (.mk (some 18) none (.m (.pu (.ext 1 (.t 13))))), (.mk (some 3) none (.m (.pu (.mv (.t 17))))), (.mk (some 4) none (.m (.pu (.mv (.t 18)))))]) (.sq (.reg [(.mk (some 20) none (.m (.ld true 2 (.t 1)))), (.mk (some 21) none (.m (.ld true 2 (.t 2)))), (.mk (some 22) none (.call 20 [(.t 20), (.t 21), (.c (.v (.int .i64 1)))])), (.mk (some 19) none (.m (.pu (.mv (.t 22))))), (.mk (some 23) none (.m (.pu (.ext 0 (.t 19))))), (.mk (some 24) none (.m (.pu (.ext 1 (.t 19))))), (.mk (some 25) none (.m (.pu (.ext 2 (.t 19))))), (.mk (some 5) none (.m (.pu (.mv (.t 23))))), (.mk (some 6) none (.m (.pu (.mv (.t 24))))), (.mk (some 7) none (.m (.pu (.mv (.t 25)))))]) (.sq (.reg [(.mk (some 26) none (.m (.pu (.mv (.t 4))))), (.mk (some 27) none (.m (.pu (.bin false .eql (.t 26) (.c (.v (.int .i64 0))))))), (.mk (some 28) none (.m (.pu (.mv (.t 27))))), (.mk (some 29) (some (28, true)) (.m (.pu (.mv (.t 7))))), (.mk (some 30) (some (28, true)) (.m (.pu (.bin false .eql (.t 29) (.c (.v (.int .i64 0))))))), (.mk (some 31) none (.m (.pu (.pick (.t 28) (.t 30) (.c (.v (.bool false))))))), (.mk (some 32) none (.m (.pu (.mv (.t 31))))), (.mk (some 33) (some (32, true)) (.m (.pu (.mv (.t 3))))), (.mk (some 34) (some (32, true)) (.m (.pu (.len false (.t 33))))), (.mk (some 35) (some (32, true)) (.m (.pu (.bin false .eql (.t 34) (.c (.v (.int .i64 1))))))), (.mk (some 36) none (.m (.pu (.pick (.t 32) (.t 35) (.c (.v (.bool false))))))), (.mk (some 37) none (.m (.pu (.mv (.t 36))))), (.mk (some 38) (some (37, true)) (.m (.pu (.mv (.t 3))))), (.mk (some 39) (some (37, true)) (.m (.pu (.ix 2 (.t 38) (.c (.v (.int .i64 0))))))), (.mk (some 40) (some (37, true)) (.m (.ld true 2 (.t 39)))), (.mk (some 41) (some (37, true)) (.m (.pu (.bd [(.v (.int .i64 0)), (.v (.int .i64 0))] [(1, 1, (.c (.v (.int .i64 9))))])))), (.mk (some 42) (some (37, true)) (.m (.pu (.eqs false [0, 0] (.t 40) (.t 41))))), (.mk (some 43) none (.m (.pu (.pick (.t 37) (.t 42) (.c (.v (.bool false))))))), (.mk (some 44) none (.m (.pu (.mv (.t 43))))), (.mk (some 45) (some (44, true)) (.m (.pu (.mv (.t 6))))), (.mk (some 46) none (.m (.pu (.pick (.t 44) (.t 45) (.c (.v (.bool false))))))), (.mk (some 47) none (.m (.pu (.mv (.t 46))))), (.mk (some 48) (some (47, true)) (.m (.pu (.mv (.t 5))))), (.mk (some 49) (some (47, true)) (.m (.pu (.bin false .eql (.t 48) (.c (.v (.int .i64 9))))))), (.mk (some 50) none (.m (.pu (.pick (.t 47) (.t 49) (.c (.v (.bool false))))))), (.mk (some 0) none (.m (.pu (.mv (.t 50)))))]) .rt))))))
def rv_law18_awake : List (RV × Option Ty) := [((.t 0), some .bool)]
def g_law18_awake : G := ⟨TYs, [], 51, EL [(19, sp_verdict_Spans), (20, sp_verdict_Falls)], keeps, (fun _ _ => none), IL [], RL []⟩
def r_law18_awake  : Option (V × List VO) :=
  br ((polLen3 ([(false, (1, (0, (0, (0, (40001, ())))))), (true, (1, (0, (0, (0, (9, ()))))))], (([] : List Keep), ())) (1, (0, ())) 1))
    (br ((polLen3 ([(false, (1, (0, (0, (0, (40001, ())))))), (true, (1, (0, (0, (0, (9, ()))))))], (([] : List Keep), ())) (1, (0, ())) 1))
      (br ((ieq ((SpansF ([(false, (1, (0, (0, (0, (40001, ())))))), (true, (1, (0, (0, (0, (9, ()))))))], (([] : List Keep), ())) (1, (0, ())) 1).2) 0))
        (br ((ieq (((FallsF ([(false, (1, (0, (0, (0, (40001, ())))))), (true, (1, (0, (0, (0, (9, ()))))))], (([] : List Keep), ())) (1, (0, ())) 1).2).2) 0))
          (br ((ieq (llen ((SpansF ([(false, (1, (0, (0, (0, (40001, ())))))), (true, (1, (0, (0, (0, (9, ()))))))], (([] : List Keep), ())) (1, (0, ())) 1).1)) 1))
            (br (cIx ((SpansF ([(false, (1, (0, (0, (0, (40001, ())))))), (true, (1, (0, (0, (0, (9, ()))))))], (([] : List Keep), ())) (1, (0, ())) 1).1) 0)
              (br ((and (ieq ((lgt tyKeep ((SpansF ([(false, (1, (0, (0, (0, (40001, ())))))), (true, (1, (0, (0, (0, (9, ()))))))], (([] : List Keep), ())) (1, (0, ())) 1).1) (Int.toNat 0)).1) 0) (and (ieq (((lgt tyKeep ((SpansF ([(false, (1, (0, (0, (0, (40001, ())))))), (true, (1, (0, (0, (0, (9, ()))))))], (([] : List Keep), ())) (1, (0, ())) 1).1) (Int.toNat 0)).2).1) 9) true)))
                (br (((FallsF ([(false, (1, (0, (0, (0, (40001, ())))))), (true, (1, (0, (0, (0, (9, ()))))))], (([] : List Keep), ())) (1, (0, ())) 1).2).1)
                  (some (.t .bool (ieq ((FallsF ([(false, (1, (0, (0, (0, (40001, ())))))), (true, (1, (0, (0, (0, (9, ()))))))], (([] : List Keep), ())) (1, (0, ())) 1).1) 9), []))
                  (some (.t .bool false, [])))
                (some (.t .bool false, [])))
              (none))
            (some (.t .bool false, [])))
          (some (.t .bool false, [])))
        (some (.t .bool false, [])))
      (none))
    (none)
theorem e_law18_awake  : runF g_law18_awake tc_law18_awake rv_law18_awake false [] [] = r_law18_awake  := by kernel_rfl
theorem ok_law18_awake : Option.map (trC Try.prog) Try.f12.body = some tc_law18_awake.er := by kernel_rfl
theorem rok_law18_awake : trVs Try.prog Try.f12.results.toList = some (rv_law18_awake.map Prod.fst) := by kernel_rfl
theorem en_law18_awake : Entered Try.prog 12 := .inr ⟨by decide, _, Try.func12, by kernel_rfl, by kernel_rfl⟩
theorem gk_law18_awake : GOk Try.prog g_law18_awake := gok_of _ (by
  intro p hp
  simp only [List.mem_cons, List.not_mem_nil, or_false] at hp
  rcases hp with rfl | rfl
  · exact ⟨en_verdict_Spans, ms_verdict_Spans⟩
  · exact ⟨en_verdict_Falls, ms_verdict_Falls⟩)
theorem lk_law18_awake : tc_law18_awake.lok g_law18_awake := by repeat (first | exact trivial | refine ⟨?_, ?_⟩)
def awP : Policy := ([(false, (1, (0, (0, (0, (40001, ())))))), (true, (1, (0, (0, (0, (9, ()))))))], (([] : List Keep), ()))
theorem aw_spans : spansF awP (1, (0, ())) 1 = [(0, (9, ()))] := by
  unfold spansF
  rw [cuts_eq]
  rfl
theorem aw_early : earlyF awP (1, (0, ())) 1 0 = 0 := rfl
theorem s_law18_awake : r_law18_awake = some (.t .bool awakeT, []) := by
  have e1 : SpansF awP (1, (0, ())) 1 = ([(0, (9, ()))], 0) := by unfold SpansF; rw [if_pos aw_early, aw_spans]
  have e2 : FallsF awP (1, (0, ())) 1 = (9, true, 0) := by unfold FallsF; rw [if_pos aw_early, aw_spans]; rfl
  simp only [r_law18_awake]
  rw [show ([(false, (1, (0, (0, (0, (40001, ())))))), (true, (1, (0, (0, (0, (9, ()))))))], (([] : List Keep), ())) = awP from rfl, e1, e2]
  rfl
def sp_law18_awake : Ent := spec .nil (fun x => true) (fun x => (.t .bool awakeT))
theorem ms_law18_awake : Meets Try.prog 12 (strip sp_law18_awake) := by
  obtain ⟨c, hc, hi⟩ := Option.map_eq_some_iff.1 ok_law18_awake
  exact meets_spec (R := runF g_law18_awake tc_law18_awake rv_law18_awake false) (meets_of (by decide) Try.func12 hc hi Try.ntmps12 rok_law18_awake gk_law18_awake lk_law18_awake mixed) fun x _ => (e_law18_awake ).trans (s_law18_awake )

/-! VerdictKeeps -/
def keepOf (p d : Int) : Keep := (iadd .i64 1 (irem (icv .i64 p) 4), (irem (icv .i64 d) 40001, ()))
def keepsOf (a b : List Int) : List Keep := List.zipWith keepOf a b
def wantK (n w : Int) (l : List Keep) : Int := l.foldl (fun w k => if ieq k.1 n then k.2.1 else w) w
def numsOk (a b : List Int) (_c : Int) : Bool := a.all (fun x => decide (0 ≤ x ∧ x ≤ 255)) && b.all (fun x => decide (0 ≤ x ∧ x ≤ 65535)) && decide (0 ≤ _c ∧ _c ≤ 255)
def lawKeeps (_ _ : List Int) (_ : Int) : Bool := true
def dr_law18_VerdictKeeps_0 : List DO := [(.mk (.mk (some 37) none (.m (.pu (.mv (.t 0))))) []), (.mk (.mk (some 38) none (.m (.pu (.mv (.t 10))))) []), (.mk (.mk (some 39) none (.m (.pu (.ix 1 (.t 37) (.t 38))))) [0, 1]), (.mk (.mk (some 40) none (.m (.ld false 1 (.t 39)))) [2]), (.mk (.mk (some 41) none (.m (.pu (.cv .i64 (.t 40))))) [3]), (.mk (.mk (some 42) none (.m (.pu (.bin false .rem (.t 41) (.c (.v (.int .i64 4))))))) [4]), (.mk (.mk (some 43) none (.m (.pu (.bin false .add (.c (.v (.int .i64 1))) (.t 42))))) [5]), (.mk (.mk (some 44) none (.m (.pu (.mv (.t 1))))) []), (.mk (.mk (some 45) none (.m (.pu (.mv (.t 10))))) []), (.mk (.mk (some 46) none (.m (.pu (.ix 1 (.t 44) (.t 45))))) [7, 8]), (.mk (.mk (some 47) none (.m (.ld false 1 (.t 46)))) [9]), (.mk (.mk (some 48) none (.m (.pu (.cv .i64 (.t 47))))) [10]), (.mk (.mk (some 49) none (.m (.pu (.bin false .rem (.t 48) (.c (.v (.int .i64 40001))))))) [11]), (.mk (.mk (some 50) none (.m (.pu (.bd [(.v (.int .i64 0)), (.v (.int .i64 0))] [(0, 1, (.t 43)), (1, 1, (.t 49))])))) [6, 12]), (.mk (.mk (some 11) none (.m (.new [(.v (.int .i64 0)), (.v (.int .i64 0))]))) []), (.mk (.mk none none (.m (.st 2 (.t 11) (.t 50)))) [14, 13, 0, 1, 2, 3, 4, 5, 6, 7, 8, 9, 10, 11, 12, 13, 14])]
def fg_law18_VerdictKeeps_0 : Fg := ⟨[(0, some (.sl (.int .u8))), (1, some (.sl (.int .u16))), (7, none), (8, some tI), (9, some tI), (10, some tI)], [(7, none), (55, none), (20701, none)]⟩
def tb_law18_VerdictKeeps_0 : TC := (.sq (.sq (.reg [(.mk (some 25) none (.m (.pu (.mv (.t 10))))), (.mk (some 26) none (.m (.pu (.mv (.t 0))))), (.mk (some 27) none (.m (.pu (.len false (.t 26))))), (.mk (some 28) none (.m (.pu (.bin false .lss (.t 25) (.t 27))))), (.mk (some 29) none (.m (.pu (.mv (.t 28))))), (.mk (some 30) (some (29, true)) (.m (.pu (.mv (.t 10))))), (.mk (some 31) (some (29, true)) (.m (.pu (.mv (.t 1))))), (.mk (some 32) (some (29, true)) (.m (.pu (.len false (.t 31))))), (.mk (some 33) (some (29, true)) (.m (.pu (.bin false .lss (.t 30) (.t 32))))), (.mk (some 34) none (.m (.pu (.pick (.t 29) (.t 33) (.c (.v (.bool false)))))))]) (.cd (.t 34) .sk (.fg ⟨[(7, none), (8, some tI), (9, some tI)], [(7, some tyPolicy), (55, none), (20701, none)]⟩ (.ex 0)))) (.sq (.bk 1 (.sq (.dr dr_law18_VerdictKeeps_0 [(0, []), (1, []), (2, []), (3, []), (4, []), (5, []), (6, []), (7, []), (8, []), (9, []), (10, []), (11, []), (12, []), (13, []), (14, [11, 5011, 10011, 15011]), (15, [11])] (.of [0, 1, 2, 3, 4, 5, 6, 7, 8, 9, 10, 11, 12, 13, 14, 15])) (.sq (.reg [(.mk (some 51) none (.m (.pu (.fa 1 (.t 7))))), (.mk (some 52) none (.m (.ld false 1 (.t 51)))), (.mk (some 53) none (.m (.ld true 2 (.t 11)))), (.mk (some 54) none (.m (.bs 31 2 1 [(.v (.int .i64 0)), (.v (.int .i64 0))] [(0, 2, (.t 53))]))), (.mk (some 55) none (.m (.app 31 2 16 (.t 52) (.t 54)))), (.mk (some 56) none (.m (.pu (.fa 1 (.t 7))))), (.mk none none (.m (.st 1 (.t 56) (.t 55))))]) (.sq (.reg [(.mk (some 57) none (.m (.pu (.fa 0 (.t 11))))), (.mk (some 58) none (.m (.ld false 1 (.t 57)))), (.mk (some 59) none (.m (.pu (.mv (.t 9))))), (.mk (some 60) none (.m (.pu (.bin false .eql (.t 58) (.t 59)))))]) (.cd (.t 60) (.reg [(.mk (some 61) none (.m (.pu (.fa 1 (.t 11))))), (.mk (some 62) none (.m (.ld false 1 (.t 61)))), (.mk (some 8) none (.m (.pu (.mv (.t 62)))))]) .sk))))) (.reg [(.mk (some 35) none (.m (.pu (.mv (.t 10))))), (.mk (some 36) none (.m (.pu (.bin false .add (.t 35) (.c (.v (.int .i64 1))))))), (.mk (some 10) none (.m (.pu (.mv (.t 36)))))])))
/-- cipherplan/cipherplanlaw18.VerdictKeeps -/
def tc_law18_VerdictKeeps : TC := (.sq (.reg [(.mk (some 6) none (.m (.pu (.mv (.c (.v (.bool false)))))))]) (.sq (.sq (.reg [(.mk (some 12) none (.m (.pu (.mv (.t 0))))), (.mk (some 13) none (.m (.pu (.len false (.t 12))))), (.mk (some 14) none (.m (.pu (.bin false .gtr (.t 13) (.c (.v (.int .i64 60))))))), (.mk (some 15) none (.m (.pu (.mv (.t 14))))), (.mk (some 16) (some (15, false)) (.m (.pu (.mv (.t 1))))), (.mk (some 17) (some (15, false)) (.m (.pu (.len false (.t 16))))), (.mk (some 18) (some (15, false)) (.m (.pu (.bin false .gtr (.t 17) (.c (.v (.int .i64 60))))))), (.mk (some 19) none (.m (.pu (.pick (.t 15) (.c (.v (.bool true))) (.t 18)))))]) (.cd (.t 19) (.sq (.reg [(.mk (some 20) none (.call 12 [])), (.mk (some 6) none (.m (.pu (.mv (.t 20)))))]) .rt) .sk)) (.sq (.reg [(.mk (some 7) none (.m (.new [(.v (.slice none 0 0)), (.v (.slice none 0 0))])))]) (.sq (.reg [(.mk (some 8) none (.m (.pu (.mv (.c (.v (.int .i64 0)))))))]) (.sq (.reg [(.mk (some 21) none (.m (.pu (.mv (.t 2))))), (.mk (some 22) none (.m (.pu (.cv .i64 (.t 21))))), (.mk (some 23) none (.m (.pu (.bin false .rem (.t 22) (.c (.v (.int .i64 4))))))), (.mk (some 24) none (.m (.pu (.bin false .add (.c (.v (.int .i64 1))) (.t 23))))), (.mk (some 9) none (.m (.pu (.mv (.t 24)))))]) (.sq (.sq (.reg [(.mk (some 10) none (.m (.pu (.mv (.c (.v (.int .i64 0)))))))]) (.bk 0 (.nf 7 1 31 20701 (.lp 0 fg_law18_VerdictKeeps_0 tb_law18_VerdictKeeps_0)))) (.sq (.reg [(.mk (some 63) none (.m (.ld true 2 (.t 7)))), (.mk (some 64) none (.m (.pu (.mv (.t 9))))), (.mk (some 65) none (.call 13 [(.t 63), (.t 64)])), (.mk (some 66) none (.m (.pu (.mv (.t 8))))), (.mk (some 67) none (.m (.pu (.bin false .eql (.t 65) (.t 66))))), (.mk (some 68) none (.m (.pu (.mv (.t 67))))), (.mk (some 69) (some (68, true)) (.m (.ld true 2 (.t 7)))), (.mk (some 70) (some (68, true)) (.call 13 [(.t 69), (.c (.v (.int .i64 0)))])), (.mk (some 71) (some (68, true)) (.m (.pu (.bin false .eql (.t 70) (.c (.v (.int .i64 0))))))), (.mk (some 72) none (.m (.pu (.pick (.t 68) (.t 71) (.c (.v (.bool false))))))), (.mk (some 73) none (.m (.pu (.mv (.t 72))))), (.mk (some 74) (some (73, true)) (.call 12 [])), (.mk (some 75) none (.m (.pu (.pick (.t 73) (.t 74) (.c (.v (.bool false))))))), (.mk (some 6) none (.m (.pu (.mv (.t 75)))))]) .rt)))))))
def rv_law18_VerdictKeeps : List (RV × Option Ty) := [((.t 6), some .bool)]
abbrev sh_law18_VerdictKeeps_0 : Sh := ⟨[(0, .ty (.sl (.int .u8))), (1, .ty (.sl (.int .u16))), (7, .ptr 7 0), (8, .ty tI), (9, .ty tI), (10, .ty tI)], [(7, .bag [.nl, .ms 20701]), (55, .no), (20701, .arr 31 tyKeep)]⟩
def st_law18_VerdictKeeps_0 (x0 : (List Int)) (x1 : (List Int)) (x8 : Int) (x9 : Int) (x10 : Int) (y20701 : (List Keep)) : VS := sh_law18_VerdictKeeps_0.st (x0, x1, (), x8, x9, x10, ()) (((), (), ()), (), y20701, ())
abbrev sh_law18_VerdictKeeps_0_e0 : Sh := ⟨[(7, .ptr 7 0), (8, .ty tI), (9, .ty tI)], [(7, .bag [.nl, .ms 20701]), (55, .no), (20701, .arr 31 tyKeep)]⟩
def st_law18_VerdictKeeps_0_e0 (x8 : Int) (x9 : Int) (y20701 : (List Keep)) : VS := sh_law18_VerdictKeeps_0_e0.st ((), x8, x9, ()) (((), (), ()), (), y20701, ())
-- loop 0: (x0 : (List Int)) (x1 : (List Int)) (x8 : Int) (x9 : Int) (x10 : Int) (y20701 : (List Keep)); out: ('exit', 0) (x8 : Int) (x9 : Int) (y20701 : (List Keep))
def L_law18_VerdictKeeps_0 : VS → Option (Bool × List (Bool × Exit × VS)) := mkL sh_law18_VerdictKeeps_0 (fun x y => (decide (0 ≤ x.2.2.2.2.2.1 ∧ x.2.2.2.2.2.1 ≤ x.1.length ∧ x.1.length ≤ 60 ∧ x.2.1.length ≤ 60 ∧ (y.2.2.1.length : Int) ≤ x.2.2.2.2.2.1))) (fun x y => [(true, .exit 0, st_law18_VerdictKeeps_0_e0 (wantK x.2.2.2.2.1 x.2.2.2.1 (keepsOf (x.1.drop x.2.2.2.2.2.1.toNat) (x.2.1.drop x.2.2.2.2.2.1.toNat))) (x.2.2.2.2.1) (y.2.2.1 ++ keepsOf (x.1.drop x.2.2.2.2.2.1.toNat) (x.2.1.drop x.2.2.2.2.2.1.toNat)))])
def g_law18_VerdictKeeps : G := ⟨TYs, [], 76, EL [(12, sp_law18_awake), (13, sp_verdict_Keep)], keeps, (Ls [L_law18_VerdictKeeps_0]), IL [], RL []⟩
def b_law18_VerdictKeeps_0 (x0 : (List Int)) (x1 : (List Int)) (x8 : Int) (x9 : Int) (x10 : Int) (y20701 : (List Keep)) : Option (Exit × VS) :=
  br ((ilt x10 (llen x0)))
    (br ((ilt x10 (llen x1)))
      (br (cIx x0 x10)
        (br (cNz 4)
          (br (cIx x1 x10)
            (br (cNz 40001)
              (br (cApp y20701 ([((iadd .i64 1 (irem (icv .i64 (lgt (.int .u8) x0 (Int.toNat x10))) 4)), ((irem (icv .i64 (lgt (.int .u16) x1 (Int.toNat x10))) 40001), ()))]) 16)
                (br ((ieq (iadd .i64 1 (irem (icv .i64 (lgt (.int .u8) x0 (Int.toNat x10))) 4)) x9))
                  (some (.normal, st_law18_VerdictKeeps_0 x0 x1 (irem (icv .i64 (lgt (.int .u16) x1 (Int.toNat x10))) 40001) x9 (iadd .i64 x10 1) (y20701 ++ ([((iadd .i64 1 (irem (icv .i64 (lgt (.int .u8) x0 (Int.toNat x10))) 4)), ((irem (icv .i64 (lgt (.int .u16) x1 (Int.toNat x10))) 40001), ()))]))))
                  (some (.normal, st_law18_VerdictKeeps_0 x0 x1 x8 x9 (iadd .i64 x10 1) (y20701 ++ ([((iadd .i64 1 (irem (icv .i64 (lgt (.int .u8) x0 (Int.toNat x10))) 4)), ((irem (icv .i64 (lgt (.int .u16) x1 (Int.toNat x10))) 40001), ()))])))))
                (none))
              (none))
            (none))
          (none))
        (none))
      (some (.exit 0, st_law18_VerdictKeeps_0_e0 x8 x9 y20701)))
    (some (.exit 0, st_law18_VerdictKeeps_0_e0 x8 x9 y20701))
noncomputable def lp_law18_VerdictKeeps_0 (x0 : (List Int)) (x1 : (List Int)) (x8 : Int) (x9 : Int) (x10 : Int) (y20701 : (List Keep)) : Option (Exit × VS) := loopF (roundF g_law18_VerdictKeeps fg_law18_VerdictKeeps_0 tb_law18_VerdictKeeps_0) (st_law18_VerdictKeeps_0 x0 x1 x8 x9 x10 y20701)
noncomputable def n_law18_VerdictKeeps_0 (x0 : (List Int)) (x1 : (List Int)) (x8 : Int) (x9 : Int) (x10 : Int) (y20701 : (List Keep)) : Option (Exit × VS) :=
  br ((ilt x10 (llen x0)))
    (br ((ilt x10 (llen x1)))
      (br (cIx x0 x10)
        (br (cNz 4)
          (br (cIx x1 x10)
            (br (cNz 40001)
              (br (cApp y20701 ([((iadd .i64 1 (irem (icv .i64 (lgt (.int .u8) x0 (Int.toNat x10))) 4)), ((irem (icv .i64 (lgt (.int .u16) x1 (Int.toNat x10))) 40001), ()))]) 16)
                (br ((ieq (iadd .i64 1 (irem (icv .i64 (lgt (.int .u8) x0 (Int.toNat x10))) 4)) x9))
                  (lp_law18_VerdictKeeps_0 x0 x1 (irem (icv .i64 (lgt (.int .u16) x1 (Int.toNat x10))) 40001) x9 (iadd .i64 x10 1) (y20701 ++ ([((iadd .i64 1 (irem (icv .i64 (lgt (.int .u8) x0 (Int.toNat x10))) 4)), ((irem (icv .i64 (lgt (.int .u16) x1 (Int.toNat x10))) 40001), ()))])))
                  (lp_law18_VerdictKeeps_0 x0 x1 x8 x9 (iadd .i64 x10 1) (y20701 ++ ([((iadd .i64 1 (irem (icv .i64 (lgt (.int .u8) x0 (Int.toNat x10))) 4)), ((irem (icv .i64 (lgt (.int .u16) x1 (Int.toNat x10))) 40001), ()))]))))
                (none))
              (none))
            (none))
          (none))
        (none))
      (some (.exit 0, st_law18_VerdictKeeps_0_e0 x8 x9 y20701)))
    (some (.exit 0, st_law18_VerdictKeeps_0_e0 x8 x9 y20701))
def la_law18_VerdictKeeps_0 (x0 : (List Int)) (x1 : (List Int)) (x8 : Int) (x9 : Int) (x10 : Int) (y20701 : (List Keep)) : Option (Exit × VS) := some (.exit 0, st_law18_VerdictKeeps_0_e0 (wantK x9 x8 (keepsOf (x0.drop x10.toNat) (x1.drop x10.toNat))) (x9) (y20701 ++ keepsOf (x0.drop x10.toNat) (x1.drop x10.toNat)))
theorem be_law18_VerdictKeeps_0 (x0 : (List Int)) (x1 : (List Int)) (x8 : Int) (x9 : Int) (x10 : Int) (y20701 : (List Keep)) : roundF g_law18_VerdictKeeps fg_law18_VerdictKeeps_0 tb_law18_VerdictKeeps_0 (st_law18_VerdictKeeps_0 x0 x1 x8 x9 x10 y20701) = b_law18_VerdictKeeps_0 x0 x1 x8 x9 x10 y20701 := by kernel_rfl
theorem ln_law18_VerdictKeeps_0 (x0 : (List Int)) (x1 : (List Int)) (x8 : Int) (x9 : Int) (x10 : Int) (y20701 : (List Keep)) : lp_law18_VerdictKeeps_0 x0 x1 x8 x9 x10 y20701 = n_law18_VerdictKeeps_0 x0 x1 x8 x9 x10 y20701 := (loopF_nxt _ _).trans (by
  rw [be_law18_VerdictKeeps_0]
  simp only [b_law18_VerdictKeeps_0, n_law18_VerdictKeeps_0, nxt_br, nxt_n, nxt_r, nxt_e, nxt_0]
  rfl)
def r_law18_VerdictKeeps (p0 : (List Int)) (p1 : (List Int)) (p2 : Int) : Option (V × List VO) :=
  br ((igt (llen p0) 60))
    (some (.t .bool awakeT, []))
    (br ((igt (llen p1) 60))
      (some (.t .bool awakeT, []))
      (br (cNz 4)
        (br ((decide (0 ≤ (0 : Int) ∧ (0 : Int) ≤ p0.length ∧ p0.length ≤ 60 ∧ p1.length ≤ 60 ∧ (([] : List Keep).length : Int) ≤ (0 : Int))))
          (br ((ieq (keepF (([] : List Rule), ((([] : List Keep) ++ keepsOf (p0.drop (0 : Int).toNat) (p1.drop (0 : Int).toNat)), ())) ((iadd .i64 1 (irem (icv .i64 p2) 4)))) (wantK (iadd .i64 1 (irem (icv .i64 p2) 4)) (0 : Int) (keepsOf (p0.drop (0 : Int).toNat) (p1.drop (0 : Int).toNat)))))
            (br ((ieq (keepF (([] : List Rule), ((([] : List Keep) ++ keepsOf (p0.drop (0 : Int).toNat) (p1.drop (0 : Int).toNat)), ())) 0) 0))
              (some (.t .bool awakeT, []))
              (some (.t .bool false, [])))
            (some (.t .bool false, [])))
          (none))
        (none)))
theorem e_law18_VerdictKeeps (p0 : (List Int)) (p1 : (List Int)) (p2 : Int) : runF g_law18_VerdictKeeps tc_law18_VerdictKeeps rv_law18_VerdictKeeps false [.t (.sl (.int .u8)) p0, .t (.sl (.int .u16)) p1, .t (.int .u8) p2] [] = r_law18_VerdictKeeps p0 p1 p2 := by kernel_rfl
theorem ok_law18_VerdictKeeps : Option.map (trC Try.prog) Try.f3.body = some tc_law18_VerdictKeeps.er := by kernel_rfl
theorem rok_law18_VerdictKeeps : trVs Try.prog Try.f3.results.toList = some (rv_law18_VerdictKeeps.map Prod.fst) := by kernel_rfl
theorem en_law18_VerdictKeeps : Entered Try.prog 3 := .inr ⟨by decide, _, Try.func3, by kernel_rfl, by kernel_rfl⟩
theorem gk_law18_VerdictKeeps : GOk Try.prog g_law18_VerdictKeeps := gok_of _ (by
  intro p hp
  simp only [List.mem_cons, List.not_mem_nil, or_false] at hp
  rcases hp with rfl | rfl
  · exact ⟨en_law18_awake, ms_law18_awake⟩
  · exact ⟨en_verdict_Keep, ms_verdict_Keep⟩)
theorem l_law18_VerdictKeeps_0 (x0 : (List Int)) (x1 : (List Int)) (x8 : Int) (x9 : Int) (x10 : Int) (y20701 : (List Keep)) (h : (decide (0 ≤ x10 ∧ x10 ≤ x0.length ∧ x0.length ≤ 60 ∧ x1.length ≤ 60 ∧ (y20701.length : Int) ≤ x10)) = true) : lp_law18_VerdictKeeps_0 x0 x1 x8 x9 x10 y20701 = la_law18_VerdictKeeps_0 x0 x1 x8 x9 x10 y20701 := by
  simp only [decide_eq_true_eq] at h
  obtain ⟨h1, h2, h3, h4, h5⟩ := h
  obtain ⟨k, rfl⟩ := Int.eq_ofNat_of_zero_le h1
  revert x8 y20701
  refine range_ind x0 (fun k => ∀ (x8 : Int) (y20701 : List Keep), (y20701.length : Int) ≤ (k : Int) → lp_law18_VerdictKeeps_0 x0 x1 x8 x9 (k : Int) y20701 = la_law18_VerdictKeeps_0 x0 x1 x8 x9 (k : Int) y20701) ?_ ?_ k (by omega)
  · intro x8 y _
    rw [ln_law18_VerdictKeeps_0]
    simp [n_law18_VerdictKeeps_0, la_law18_VerdictKeeps_0, ilt_nat, llen, br_false, keepsOf, wantK]
  · intro k hk ih x8 y hy
    rw [ln_law18_VerdictKeeps_0]
    by_cases hk2 : k < x1.length
    · simp only [n_law18_VerdictKeeps_0, ilt_nat, llen, cIx_nat, hk, hk2, decide_true, br_true, Int.toNat_natCast, add1 (show k < 4611686018427387904 by omega), lgt_get (y := .int .u8) hk, lgt_get (y := .int .u16) hk2, show cNz 4 = true from rfl, show cNz 40001 = true from rfl]
      rw [cApp_ok (by simp; omega) (by omega), br_true]
      have el : la_law18_VerdictKeeps_0 x0 x1 x8 x9 (k : Int) y = la_law18_VerdictKeeps_0 x0 x1 (if ieq (keepOf x0[k] x1[k]).1 x9 then (keepOf x0[k] x1[k]).2.1 else x8) x9 ((k + 1 : Nat) : Int) (y ++ [keepOf x0[k] x1[k]]) := by
        simp only [la_law18_VerdictKeeps_0, Int.toNat_natCast, List.drop_eq_getElem_cons hk, List.drop_eq_getElem_cons hk2, keepsOf, List.zipWith_cons_cons, wantK, List.foldl_cons, List.append_assoc]
        rfl
      rw [el]
      have i1 := ih ((keepOf x0[k] x1[k]).2.1) (y ++ [keepOf x0[k] x1[k]]) (by simp; omega)
      have i2 := ih x8 (y ++ [keepOf x0[k] x1[k]]) (by simp; omega)
      show br (ieq (keepOf x0[k] x1[k]).1 x9) (lp_law18_VerdictKeeps_0 x0 x1 (keepOf x0[k] x1[k]).2.1 x9 ((k + 1 : Nat) : Int) (y ++ [keepOf x0[k] x1[k]])) (lp_law18_VerdictKeeps_0 x0 x1 x8 x9 ((k + 1 : Nat) : Int) (y ++ [keepOf x0[k] x1[k]])) = _
      rw [i1, i2]
      cases ieq (keepOf x0[k] x1[k]).1 x9 <;> rfl
    · have e1 : x1.drop k = [] := List.drop_eq_nil_of_le (by omega)
      simp [n_law18_VerdictKeeps_0, la_law18_VerdictKeeps_0, ilt_nat, llen, br_false, br_true, hk, hk2, keepsOf, wantK, e1]
theorem lo_law18_VerdictKeeps_0 : ∀ S l p, g_law18_VerdictKeeps.L 0 (fgt fg_law18_VerdictKeeps_0 S) = some (true, l) → pickA l = some p → loopF (roundF g_law18_VerdictKeeps fg_law18_VerdictKeeps_0 tb_law18_VerdictKeeps_0) S = some p :=
  lok_of (s := sh_law18_VerdictKeeps_0) ⟨by decide, by decide⟩ (by kernel_rfl) fun x y hok p hp => by
  simp only [pickA_br, pickA_one] at hp
  exact (l_law18_VerdictKeeps_0 x.1 x.2.1 x.2.2.2.1 x.2.2.2.2.1 x.2.2.2.2.2.1 y.2.2.1 (by simpa using hok)).trans hp
theorem lk_law18_VerdictKeeps : tc_law18_VerdictKeeps.lok g_law18_VerdictKeeps := by
  repeat (first | exact trivial | exact lo_law18_VerdictKeeps_0 | refine ⟨?_, ?_⟩)
theorem want_keep (n : Int) : ∀ (l : List Keep) (o : Option Int), wantK n (o.getD 0) l = (l.foldl (fun o k => if k.1 == n then some k.2.1 else o) o).getD 0
  | [], _ => rfl
  | k :: l, o => by
    have h := want_keep n l (if k.1 == n then some k.2.1 else o)
    have e : wantK n (o.getD 0) (k :: l) = wantK n (if ieq k.1 n then k.2.1 else o.getD 0) l := rfl
    rw [e, List.foldl_cons, ← h]
    unfold ieq
    cases k.1 == n <;> rfl
theorem s_law18_VerdictKeeps (a b : List Int) (c : Int) (h : numsOk a b c = true) : r_law18_VerdictKeeps a b c = some (.t .bool (lawKeeps a b c), []) := by
  simp only [numsOk, Bool.and_eq_true, List.all_eq_true, decide_eq_true_eq] at h
  obtain ⟨⟨h1, h2⟩, h3⟩ := h
  have hw : ∀ x : Int, 0 ≤ x → x ≤ 65535 → icv .i64 x = x := fun x g1 g2 => Go.IntWalk.i64_in _ (by omega)
  have hr : ∀ x : Int, 0 ≤ x → x ≤ 255 → 1 ≤ iadd .i64 1 (irem (icv .i64 x) 4) := fun x g1 g2 => by
    rw [hw x g1 (by omega)]
    have e : irem x 4 = x % 4 := by unfold irem; rw [Int.tmod_eq_emod_of_nonneg g1]
    rw [e, iadd_in (by omega)]
    omega
  have hn := hr c h3.1 h3.2
  have hk : ∀ (l : List Keep) (o : Option Int), (∀ k, k ∈ l → 1 ≤ k.1) → l.foldl (fun o k => if k.1 == 0 then some k.2.1 else o) o = o := by
    intro l
    induction l with
    | nil => intros; rfl
    | cons k l ih =>
      intro o hl
      have g : (k.1 == 0) = false := by
        have := hl k (by simp)
        simp only [beq_eq_false_iff_ne]
        omega
      rw [List.foldl_cons, g, ih _ fun z hz => hl z (by simp [hz])]
      rfl
  simp only [r_law18_VerdictKeeps]
  refine br_intro (fun _ => rfl) (fun g1 => br_intro (fun _ => rfl) (fun g2 => ?_))
  rw [igt60, Bool.not_eq_eq_eq_not, Bool.not_false, decide_eq_true_eq] at g1 g2
  rw [show cNz 4 = true from rfl, br_true, dec_true ⟨Int.le_refl 0, by omega, g1, g2, by simp⟩, br_true]
  simp only [Int.toNat_zero, List.drop_zero, List.nil_append]
  generalize hl : keepsOf a b = l
  have hall : ∀ k, k ∈ l → 1 ≤ k.1 := by
    intro k hk
    rw [← hl] at hk
    obtain ⟨i, hi, rfl⟩ := List.getElem_of_mem hk
    unfold keepsOf at hi ⊢
    rw [List.length_zipWith] at hi
    rw [List.getElem_zipWith]
    have := h1 a[i] (List.getElem_mem _)
    exact hr _ this.1 this.2
  have w1 := want_keep (iadd .i64 1 (irem (icv .i64 c) 4)) l none
  have e1 : keepF (([] : List Rule), (l, ())) (iadd .i64 1 (irem (icv .i64 c) 4)) = wantK (iadd .i64 1 (irem (icv .i64 c) 4)) 0 l := by
    rw [keepF_eq]
    exact w1.symm
  have e2 : keepF (([] : List Rule), (l, ())) 0 = 0 := by
    rw [keepF_eq]
    show (keepL l 0).getD 0 = 0
    unfold keepL
    rw [hk l none hall]
    rfl
  rw [e1, e2]
  simp only [ieq_dec, decide_true, br_true]
  rfl
def sp_law18_VerdictKeeps : Ent := spec (.pr (.sl (.int .u8)) (.pr (.sl (.int .u16)) (.pr (.int .u8) .nil))) (fun x => (numsOk x.1 x.2.1 x.2.2.1)) (fun x => (.t .bool (lawKeeps x.1 x.2.1 x.2.2.1)))
theorem ms_law18_VerdictKeeps : Meets Try.prog 3 (strip sp_law18_VerdictKeeps) := by
  obtain ⟨c, hc, hi⟩ := Option.map_eq_some_iff.1 ok_law18_VerdictKeeps
  exact meets_spec (R := runF g_law18_VerdictKeeps tc_law18_VerdictKeeps rv_law18_VerdictKeeps false) (meets_of (by decide) Try.func3 hc hi Try.ntmps3 rok_law18_VerdictKeeps gk_law18_VerdictKeeps lk_law18_VerdictKeeps mixed) fun x hok => (e_law18_VerdictKeeps x.1 x.2.1 x.2.2.1).trans (s_law18_VerdictKeeps x.1 x.2.1 x.2.2.1 hok)
theorem okw_VerdictKeeps (z0 z1 : List Int) (z2 : Int) (w0 : Ty.wf (.sl (.int .u8)) z0) (w1 : Ty.wf (.sl (.int .u16)) z1) (w2 : Ty.wf (.int .u8) z2) : numsOk z0 z1 z2 = true := by
  simp only [numsOk, Bool.and_eq_true, List.all_eq_true, decide_eq_true_eq]
  exact ⟨⟨fun x hx => wf_u8 (w0.2 x hx), fun x hx => wf_u16 (w1.2 x hx)⟩, wf_u8 w2⟩
theorem walkVerdictKeeps (z0 : (List Int)) (z1 : (List Int)) (z2 : Int) (W : World) (v0 : Value) (v1 : Value) (v2 : Value) (c0 : C noX W (fun _ => .no) (V.t (.sl (.int .u8)) z0).d v0) (c1 : C noX W (fun _ => .no) (V.t (.sl (.int .u16)) z1).d v1) (c2 : C noX W (fun _ => .no) (V.t (.int .u8) z2).d v2) (w0 : Ty.wf (.sl (.int .u8)) z0) (w1 : Ty.wf (.sl (.int .u16)) z1) (w2 : Ty.wf (.int .u8) z2) :
    Calls Try.prog 3 #[v0, v1, v2] W fun r w' => r = .returned (.bool true) ∧ Below W.heap.size W w' :=
  calls_true (by decide) ms_law18_VerdictKeeps (args := [.t (.sl (.int .u8)) z0, .t (.sl (.int .u16)) z1, .t (.int .u8) z2]) (strip_spec (x := (z0, z1, z2, ())) rfl (okw_VerdictKeeps z0 z1 z2 w0 w1 w2)) (by simp only [V.ds, Cs]; exact ⟨_, _, rfl, c0, _, _, rfl, c1, _, _, rfl, c2, rfl⟩)
end Go.Proofs.Ytfldcnhkppgmbaa.K
