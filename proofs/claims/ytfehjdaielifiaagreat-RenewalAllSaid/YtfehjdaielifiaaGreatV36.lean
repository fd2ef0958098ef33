/-
 The laws of 35: the example, uses and policies.
-/
import Derived.Test.YtfehjdaielifiaaGreatV34
import Derived.Test.YtfehjdaielifiaaGreatM2P
import Derived.Test.YtfehjdaielifiaaGreatV14
set_option linter.unusedSimpArgs false
set_option linter.unusedVariables false
namespace Go.Proofs.YtfehjdaielifiaaGreat.K
open Go.RowKit
noncomputable section
def exP : Policy := ([(false, (1, (0, (0, (9, (40001, ())))))), (false, (3, (0, (0, (100, (40001, ())))))), (false, (4, (0, (0, (0, (50, ()))))))], (([] : List Keep), ()))
def exI : Item := (ByteArray.mk #[100, 101, 101, 100], (2, (2, ([((1, (0, ())), (1, ()))], (200, ())))))
def exU : List Keep := [(3, (0, ())), (4, (0, ()))]
def exF : Policy × (Item × List Keep) := (exP, (exI, exU))
def dr_f59_0 : List DO := [(.mk (oM 14 (.ld true 2 (.t 3))) []), (.mk (oM 15 (.ld true 5 (.t 4))) []), (.mk (oP 16 (.bd [(.v (.int .i64 0)), (.v (.int .i64 0))] [(0, 1, (cI 3))])) []), (.mk (oP 17 (.bd [(.v (.int .i64 0)), (.v (.int .i64 0))] [(0, 1, (cI 4))])) []), (.mk (oM 18 (.bs 40 2 2 [(.v (.int .i64 0)), (.v (.int .i64 0)), (.v (.int .i64 0)), (.v (.int .i64 0))] [(0, 2, (.t 16)), (2, 2, (.t 17))])) [2, 3]), (.mk (.mk none none (.m (.st 2 (.t 0) (.t 14)))) [0, 0]), (.mk (.mk none none (.m (.st 5 (.t 1) (.t 15)))) [1, 5, 0, 1, 5]), (.mk (oV 2 18) [4, 6, 0, 1, 2, 3, 4, 5, 6])]
def tc_f59 : TC := (.sq (.reg [(oM 0 (.new [(.v (.slice none 0 0)), (.v (.slice none 0 0))])), (oM 1 (.new [(.v (.string (ByteArray.mk #[]))), (.v (.int .i64 0)), (.v (.int .i64 0)), (.v (.slice none 0 0)), (.v (.int .i64 0))])), (oP 2 (.mv (.c (.v (.slice none 0 0)))))]) (.sq (.reg [(oP 5 (.bd [(.v (.bool false)), (.v (.int .i64 0)), (.v (.int .i64 0)), (.v (.int .i64 0)), (.v (.int .i64 0)), (.v (.int .i64 0))] [(1, 1, (cI 1)), (4, 1, (cI 9)), (5, 1, (cI 40001))])), (oP 6 (.bd [(.v (.bool false)), (.v (.int .i64 0)), (.v (.int .i64 0)), (.v (.int .i64 0)), (.v (.int .i64 0)), (.v (.int .i64 0))] [(1, 1, (cI 3)), (4, 1, (cI 100)), (5, 1, (cI 40001))])), (oP 7 (.bd [(.v (.bool false)), (.v (.int .i64 0)), (.v (.int .i64 0)), (.v (.int .i64 0)), (.v (.int .i64 0)), (.v (.int .i64 0))] [(1, 1, (cI 4)), (5, 1, (cI 50))])), (oM 8 (.bs 38 6 3 [(.v (.bool false)), (.v (.int .i64 0)), (.v (.int .i64 0)), (.v (.int .i64 0)), (.v (.int .i64 0)), (.v (.int .i64 0)), (.v (.bool false)), (.v (.int .i64 0)), (.v (.int .i64 0)), (.v (.int .i64 0)), (.v (.int .i64 0)), (.v (.int .i64 0)), (.v (.bool false)), (.v (.int .i64 0)), (.v (.int .i64 0)), (.v (.int .i64 0)), (.v (.int .i64 0)), (.v (.int .i64 0))] [(0, 6, (.t 5)), (6, 6, (.t 6)), (12, 6, (.t 7))])), (oP 9 (.bd [(.v (.slice none 0 0)), (.v (.slice none 0 0))] [(0, 1, (.t 8))])), (oM 3 (.new [(.v (.slice none 0 0)), (.v (.slice none 0 0))])), (.mk none none (.m (.st 2 (.t 3) (.t 9))))]) (.sq (.reg [(oP 10 (.bd [(.v (.int .i64 0)), (.v (.int .i64 0))] [(0, 1, (cI 1))])), (oP 11 (.bd [(.v (.int .i64 0)), (.v (.int .i64 0)), (.v (.int .i64 0))] [(0, 2, (.t 10)), (2, 1, (cI 1))])), (oM 12 (.bs 62 3 1 [(.v (.int .i64 0)), (.v (.int .i64 0)), (.v (.int .i64 0))] [(0, 3, (.t 11))])), (oP 13 (.bd [(.v (.string (ByteArray.mk #[]))), (.v (.int .i64 0)), (.v (.int .i64 0)), (.v (.slice none 0 0)), (.v (.int .i64 0))] [(0, 1, (.c (.v (.string (ByteArray.mk #[100, 101, 101, 100]))))), (1, 1, (cI 2)), (2, 1, (cI 2)), (3, 1, (.t 12)), (4, 1, (cI 200))])), (oM 4 (.new [(.v (.string (ByteArray.mk #[]))), (.v (.int .i64 0)), (.v (.int .i64 0)), (.v (.slice none 0 0)), (.v (.int .i64 0))])), (.mk none none (.m (.st 5 (.t 4) (.t 13))))]) (.sq (.dr dr_f59_0 [(0, [3]), (1, [4]), (2, []), (3, []), (4, []), (5, [0]), (6, [1]), (7, [])] (.of [0, 1, 2, 3, 4, 5, 6, 7])) .rt))))
def rv_f59 : List (RV × Option Ty) := [((.c 0 true 2), some tyPolicy), ((.c 1 true 5), some tyItem), ((.t 2), some (.sl tyKeep))]
def g_f59 : G := ⟨TYs, [], 19, EL [], keeps, (fun _ _ => none), IL [], RL []⟩
def r_f59  : Option (V × List VO) :=
 some (.tu [(.t tyPolicy ([(false, (1, (0, (0, (9, (40001, ())))))), (false, (3, (0, (0, (100, (40001, ())))))), (false, (4, (0, (0, (0, (50, ()))))))], (([] : List Keep), ()))), (.t tyItem ((ByteArray.mk #[100, 101, 101, 100]), (2, (2, ([((1, (0, ())), (1, ()))], (200, ())))))), (.t (.sl tyKeep) ([(3, (0, ())), (4, (0, ()))]))], [])
theorem e_f59  : runF g_f59 tc_f59 rv_f59 false [] [] = r_f59  := by kernel_rfl
theorem ok_f59 : Option.map (trC Tryz.prog) Tryz.f59.body = some tc_f59.er := by kernel_rfl
theorem rok_f59 : trVs Tryz.prog Tryz.f59.results.toList = some (rv_f59.map Prod.fst) := by kernel_rfl
theorem en_f59 : Entered Tryz.prog 59 := .inr ⟨by decide, _, Tryz.func59, by kernel_rfl, by kernel_rfl⟩
theorem gk_f59 : GOk Tryz.prog g_f59 := gok_of _ (fun p hp => by cases hp)
theorem lk_f59 : tc_f59.lok g_f59 := by repeat (first | exact trivial | refine ⟨?_, ?_⟩)
theorem s_f59 : r_f59 = some (.tu [.t tyPolicy exP, .t tyItem exI, .t (.sl tyKeep) exU], []) := rfl
def sp_f59 : Ent := spec .nil (fun x => true) (fun x => (.tu [(.t tyPolicy exF.1), (.t tyItem exF.2.1), (.t (.sl tyKeep) exF.2.2)]))
theorem ms_f59 : Meets Tryz.prog 59 (strip sp_f59) := by
 obtain ⟨c, hc, hi⟩ := Option.map_eq_some_iff.1 ok_f59
 exact meets_spec (R := runF g_f59 tc_f59 rv_f59 false) (meets_of (by decide) Tryz.func59 hc hi Tryz.ntmps59 rok_f59 gk_f59 lk_f59 mixed) fun x _ => (e_f59 ).trans (s_f59 )
def awakeT35 : Bool := true
def tc_f30 : TC := (.sq (.reg [(oP 0 (.mv (cB false)))]) (.sq (.reg [(oC 7 59 []), (oV 6 7), (oP 8 (.ext 0 (.t 6))), (oP 9 (.ext 1 (.t 6))), (oP 10 (.ext 2 (.t 6))), (oM 1 (.new [(.v (.slice none 0 0)), (.v (.slice none 0 0))])), (oM 2 (.new [(.v (.string (ByteArray.mk #[]))), (.v (.int .i64 0)), (.v (.int .i64 0)), (.v (.slice none 0 0)), (.v (.int .i64 0))])), (.mk none none (.m (.st 2 (.t 1) (.t 8)))), (.mk none none (.m (.st 5 (.t 2) (.t 9)))), (oV 3 10)]) (.sq (.reg [(oM 12 (.ld true 2 (.t 1))), (oM 13 (.ld true 5 (.t 2))), (oV 14 3), (oC 15 33 [(.t 12), (.t 13), (.t 14), (cI 0)]), (oV 11 15), (oP 16 (.ext 0 (.t 11))), (oP 17 (.ext 1 (.t 11))), (oV 4 16), (oV 5 17)]) (.sq (.reg [(oV 18 5), (oP 19 (.bin false .eql (.t 18) (cI 0))), (oV 20 19), (oQ 21 20 true (.mv (.t 4))), (oQ 22 20 true (.len false (.t 21))), (oQ 23 20 true (.bin false .eql (.t 22) (cI 2))), (oP 24 (.pick (.t 20) (.t 23) (cB false))), (oV 25 24), (oQ 26 25 true (.mv (.t 4))), (oQ 27 25 true (.ix 3 (.t 26) (cI 0))), (oQ 28 25 true (.fa 0 (.t 27))), (oQ 29 25 true (.fa 0 (.t 28))), (oG 30 25 true (.m (.ld false 1 (.t 29)))), (oQ 31 25 true (.bin false .eql (.t 30) (cI 3))), (oP 32 (.pick (.t 25) (.t 31) (cB false))), (oV 33 32), (oQ 34 33 true (.mv (.t 4))), (oQ 35 33 true (.ix 3 (.t 34) (cI 0))), (oQ 36 33 true (.fa 2 (.t 35))), (oG 37 33 true (.m (.ld false 1 (.t 36)))), (oQ 38 33 true (.bin false .eql (.t 37) (cI 2))), (oP 39 (.pick (.t 33) (.t 38) (cB false))), (oV 40 39), (oQ 41 40 true (.mv (.t 4))), (oQ 42 40 true (.ix 3 (.t 41) (cI 1))), (oQ 43 40 true (.fa 0 (.t 42))), (oQ 44 40 true (.fa 0 (.t 43))), (oG 45 40 true (.m (.ld false 1 (.t 44)))), (oQ 46 40 true (.bin false .eql (.t 45) (cI 4))), (oP 47 (.pick (.t 40) (.t 46) (cB false))), (oV 48 47), (oQ 49 48 true (.mv (.t 4))), (oQ 50 48 true (.ix 3 (.t 49) (cI 1))), (oQ 51 48 true (.fa 2 (.t 50))), (oG 52 48 true (.m (.ld false 1 (.t 51)))), (oQ 53 48 true (.bin false .eql (.t 52) (cI 50))), (oP 54 (.pick (.t 48) (.t 53) (cB false))), (oV 0 54)]) .rt))))
def rv_f30 : List (RV × Option Ty) := [((.t 0), some .bool)]
def g_f30 : G := ⟨TYs, [], 55, EL [(33, sp_f33), (59, sp_f59)], keeps, (fun _ _ => none), IL [], RL []⟩
def r_f30  : Option (V × List VO) :=
 br ((schOk exF.1 exF.2.1 exF.2.2 0))
  (br ((ieq ((schF exF.1 exF.2.1 exF.2.2 0).2) 0))
   (br ((ieq (llen ((schF exF.1 exF.2.1 exF.2.2 0).1)) 2))
    (br (cIx ((schF exF.1 exF.2.1 exF.2.2 0).1) 0)
     (br ((ieq (((lgt tyLink ((schF exF.1 exF.2.1 exF.2.2 0).1) (Int.toNat 0)).1).1) 3))
      (br (cIx ((schF exF.1 exF.2.1 exF.2.2 0).1) 0)
       (br ((ieq (((lgt tyLink ((schF exF.1 exF.2.1 exF.2.2 0).1) (Int.toNat 0)).2).1) 2))
        (br (cIx ((schF exF.1 exF.2.1 exF.2.2 0).1) 1)
         (br ((ieq (((lgt tyLink ((schF exF.1 exF.2.1 exF.2.2 0).1) (Int.toNat 1)).1).1) 4))
          (br (cIx ((schF exF.1 exF.2.1 exF.2.2 0).1) 1)
           (some (.t .bool (ieq (((lgt tyLink ((schF exF.1 exF.2.1 exF.2.2 0).1) (Int.toNat 1)).2).1) 50), []))
           (none))
          (some (.t .bool false, [])))
         (none))
        (some (.t .bool false, [])))
       (none))
      (some (.t .bool false, [])))
     (none))
    (some (.t .bool false, [])))
   (some (.t .bool false, [])))
  (none)
theorem e_f30  : runF g_f30 tc_f30 rv_f30 false [] [] = r_f30  := by kernel_rfl
theorem ok_f30 : Option.map (trC Tryz.prog) Tryz.f30.body = some tc_f30.er := by kernel_rfl
theorem rok_f30 : trVs Tryz.prog Tryz.f30.results.toList = some (rv_f30.map Prod.fst) := by kernel_rfl
theorem en_f30 : Entered Tryz.prog 30 := .inr ⟨by decide, _, Tryz.func30, by kernel_rfl, by kernel_rfl⟩
theorem gk_f30 : GOk Tryz.prog g_f30 := gok_of _ (by
 intro p hp
 simp only [List.mem_cons, List.not_mem_nil, or_false] at hp
 rcases hp with rfl | rfl
 ·exact ⟨en_f33, ms_f33⟩
 ·exact ⟨en_f59, ms_f59⟩)
theorem lk_f30 : tc_f30.lok g_f30 := by repeat (first | exact trivial | refine ⟨?_, ?_⟩)
def exJ (l : List Link) : Item := (ByteArray.mk #[100, 101, 101, 100], (2, (2, (l, (200, ())))))
def ex1 : Link := ((1, (0, ())), (1, ()))
def ex2 : Link := ((3, (0, ())), (2, ()))
def ex3 : Link := ((4, (0, ())), (50, ()))
theorem ex_a : spansF exP (1, (0, ())) 2 = [(0, (9, ()))] := by
 unfold spansF
 rw [cuts_eq]
 rfl
theorem ex_b : spansF exP (3, (0, ())) 2 = [(0, (100, ()))] := by
 unfold spansF
 rw [cuts_eq]
 rfl
theorem ex_c : spansF exP (4, (0, ())) 2 = [(50, (40001, ()))] := by
 unfold spansF
 rw [cuts_eq]
 rfl
theorem ex_l1 : lkF exP 2 ex1 = (1, (9, (true, ()))) := by
 show (1, ((fallL (spansF exP (1, (0, ())) 2)).1, ((fallL (spansF exP (1, (0, ())) 2)).2, ()))) = _
 rw [ex_a]
 rfl
theorem ex_l2 : lkF exP 2 ex2 = (2, (100, (true, ()))) := by
 show (2, ((fallL (spansF exP (3, (0, ())) 2)).1, ((fallL (spansF exP (3, (0, ())) 2)).2, ()))) = _
 rw [ex_b]
 rfl
theorem ex_l3 : lkF exP 2 ex3 = (50, (0, (false, ()))) := by
 show (50, ((fallL (spansF exP (4, (0, ())) 2)).1, ((fallL (spansF exP (4, (0, ())) 2)).2, ()))) = _
 rw [ex_c]
 rfl
theorem ex_f1 : fineB exP (exJ [ex1]) = true := by kernel_rfl
theorem ex_f2 : fineB exP (exJ [ex1, ex2]) = true := by kernel_rfl
theorem ex_f3 : fineB exP (exJ [ex1, ex2, ex3]) = true := by kernel_rfl
theorem ex_k1 : lksF exP (exJ [ex1]) = [(1, (9, (true, ())))] := by
 show [lkF exP 2 ex1] = _
 rw [ex_l1]
theorem ex_k2 : lksF exP (exJ [ex1, ex2]) = [(1, (9, (true, ()))), (2, (100, (true, ())))] := by
 show [lkF exP 2 ex1, lkF exP 2 ex2] = _
 rw [ex_l1, ex_l2]
theorem ex_k3 : lksF exP (exJ [ex1, ex2, ex3]) = [(1, (9, (true, ()))), (2, (100, (true, ()))), (50, (0, (false, ())))] := by
 show [lkF exP 2 ex1, lkF exP 2 ex2, lkF exP 2 ex3] = _
 rw [ex_l1, ex_l2, ex_l3]
theorem ex_r1 : reachF exP (exJ [ex1]) = 8 := by
 rw [reach_fine ex_f1]
 unfold failsL
 rw [ex_k1]
 rfl
theorem ex_r2 : reachF exP (exJ [ex1, ex2]) = 99 := by
 rw [reach_fine ex_f2]
 unfold failsL
 rw [ex_k2]
 rfl
theorem ex_r3 : reachF exP (exJ [ex1, ex2, ex3]) = 40000 := by
 rw [reach_fine ex_f3]
 unfold failsL
 rw [ex_k3]
 rfl
theorem ex_t1 : LatestF exP (exJ [ex1]) = (8, true, 0) := by
 unfold LatestF lastI2
 rw [ex_f1, ex_k1]
 rfl
theorem ex_t2 : LatestF exP (exJ [ex1, ex2]) = (99, true, 0) := by
 unfold LatestF lastI2
 rw [ex_f2, ex_k2]
 rfl
theorem ex_n1 : nxB exP exU 0 (exJ [ex1]) = (ex2, true) := by
 unfold nxB
 rw [ex_t1]
 show ((bestStep exP 2 2 8 (bestStep exP 2 2 8 (noLink, (false, 0)) (3, (0, ()))) (4, (0, ()))).1, (bestStep exP 2 2 8 (bestStep exP 2 2 8 (noLink, (false, 0)) (3, (0, ()))) (4, (0, ()))).2.1) = _
 unfold bestStep
 rw [ex_b, ex_c]
 rfl
theorem ex_n2 : nxB exP exU 0 (exJ [ex1, ex2]) = (ex3, true) := by
 unfold nxB
 rw [ex_t2]
 show ((bestStep exP 2 3 99 (bestStep exP 2 3 99 (noLink, (false, 0)) (3, (0, ()))) (4, (0, ()))).1, (bestStep exP 2 3 99 (bestStep exP 2 3 99 (noLink, (false, 0)) (3, (0, ()))) (4, (0, ()))).2.1) = _
 unfold bestStep
 rw [ex_b, ex_c]
 rfl
theorem ex_s : schZ exP exU 0 8 (exJ [ex1]) [] = ([ex2, ex3], 0) := by
 have a1 : applyF (exJ [ex1]) [ex2] = exJ [ex1, ex2] := rfl
 have a2 : applyF (exJ [ex1, ex2]) [ex3] = exJ [ex1, ex2, ex3] := rfl
 rw [schZ, ex_r1, ex_t1, ex_n1]
 simp only [a1, ex_r2]
 show schZ exP exU 0 7 (exJ [ex1, ex2]) [ex2] = _
 rw [schZ, ex_r2, ex_t2, ex_n2]
 simp only [a2, ex_r3]
 show schZ exP exU 0 6 (exJ [ex1, ex2, ex3]) [ex2, ex3] = _
 rw [schZ, ex_r3]
 rfl
theorem ex_sch : schF exF.1 exF.2.1 exF.2.2 0 = ([ex2, ex3], 0) := by
 have h1 : fineB exF.1 exF.2.1 = true := ex_f1
 have h2 : schZ exF.1 exF.2.2 0 (9 - exF.2.1.2.2.2.1.length) exF.2.1 [] = ([ex2, ex3], 0) := ex_s
 have h3 : anyUse exF.2.2 = false := by kernel_rfl
 unfold schF
 rw [h1, h2, h3]
 rfl
theorem s_f30 : r_f30 = some (.t .bool awakeT35, []) := by
 have h : schOk exF.1 exF.2.1 exF.2.2 0 = true := by
  unfold schOk
  rw [show fineLen exF.1 exF.2.1 = true from len_of ex_f1]
  rfl
 unfold r_f30
 rw [ex_sch, h]
 rfl
def sp_f30 : Ent := spec .nil (fun x => true) (fun x => (.t .bool awakeT35))
theorem ms_f30 : Meets Tryz.prog 30 (strip sp_f30) := by
 obtain ⟨c, hc, hi⟩ := Option.map_eq_some_iff.1 ok_f30
 exact meets_spec (R := runF g_f30 tc_f30 rv_f30 false) (meets_of (by decide) Tryz.func30 hc hi Tryz.ntmps30 rok_f30 gk_f30 lk_f30 mixed) fun x _ => (e_f30 ).trans (s_f30 )
def useA : List Keep := [(3, (0, ())), (4, (0, ())), (2, (0, ())), (1, (0, ())), (5, (2048, ()))]
def usZ : Nat → Dice → List Keep × Dice
 | 0, d => ([], d)
 | n + 1, d => (lgt tyKeep useA (dval d 5).toNat :: (usZ n (dnext d 5)).1, (usZ n (dnext d 5)).2)
def usesV (d : Dice) : List Keep := (usZ (dval d 4).toNat (dnext d 4)).1
def usesN (d : Dice) : Dice := (usZ (dval d 4).toNat (dnext d 4)).2
def fg_f34_0 : Fg := ⟨[(0, none), (3, some (.sl tyKeep)), (4, none), (5, some tI)], [(4, none), (25, none), (50000, some tyDice)]⟩
def tb_f34_0 : TC := (.sq (.sq (.reg [(oV 14 5), (oP 15 (.bin false .gtr (.t 14) (cI 0)))]) (.cd (.t 15) .sk (.fg ⟨[(4, none)], [(4, none), (25, none), (50000, some tyDice)]⟩ (.ex 0)))) (.sq (.bk 1 (.reg [(oV 18 4), (oV 19 3), (oV 20 0), (oC 21 47 [(.t 20), (cI 5)]), (oP 22 (.ix 2 (.t 19) (.t 21))), (oM 23 (.ld true 2 (.t 22))), (oM 24 (.bs 40 2 1 [(.v (.int .i64 0)), (.v (.int .i64 0))] [(0, 2, (.t 23))])), (oM 25 (.app 40 2 16 (.t 18) (.t 24))), (oV 4 25)])) (.reg [(oV 16 5), (oP 17 (.bin false .sub (.t 16) (cI 1))), (oV 5 17)])))
def tc_f34 : TC := (.sq (.reg [(oP 2 (.mv (.c (.v (.slice none 0 0)))))]) (.sq (.reg [(oP 6 (.bd [(.v (.int .i64 0)), (.v (.int .i64 0))] [(0, 1, (cI 3))])), (oP 7 (.bd [(.v (.int .i64 0)), (.v (.int .i64 0))] [(0, 1, (cI 4))])), (oP 8 (.bd [(.v (.int .i64 0)), (.v (.int .i64 0))] [(0, 1, (cI 2))])), (oP 9 (.bd [(.v (.int .i64 0)), (.v (.int .i64 0))] [(0, 1, (cI 1))])), (oP 10 (.bd [(.v (.int .i64 0)), (.v (.int .i64 0))] [(0, 1, (cI 5)), (1, 1, (cI 2048))])), (oM 11 (.bs 40 2 5 [(.v (.int .i64 0)), (.v (.int .i64 0)), (.v (.int .i64 0)), (.v (.int .i64 0)), (.v (.int .i64 0)), (.v (.int .i64 0)), (.v (.int .i64 0)), (.v (.int .i64 0)), (.v (.int .i64 0)), (.v (.int .i64 0))] [(0, 2, (.t 6)), (2, 2, (.t 7)), (4, 2, (.t 8)), (6, 2, (.t 9)), (8, 2, (.t 10))])), (oV 3 11)]) (.sq (.reg [(oP 4 (.mv (.c (.v (.slice none 0 0)))))]) (.sq (.sq (.reg [(oV 12 0), (oC 13 47 [(.t 12), (cI 4)]), (oV 5 13)]) (.bk 0 (.nw 4 40 (.lp 0 fg_f34_0 tb_f34_0)))) (.sq (.reg [(oV 26 4), (oV 2 26)]) .rt)))))
def rv_f34 : List (RV × Option Ty) := [((.t 2), none)]
abbrev sh_f34_0 : Sh := ⟨[(0, .ptr 50000 0), (3, .ty (.sl tyKeep)), (4, .ms 4), (5, .ty tI)], [(4, .arr 40 tyKeep), (25, .no), (50000, .box tyDice)]⟩
def st_f34_0 (x3 : (List Keep)) (x5 : Int) (y4 : (List Keep)) (y50000 : Dice) : VS := sh_f34_0.st ((), x3, (), x5, ()) (y4, (), y50000, ())
abbrev sh_f34_0_e0 : Sh := ⟨[(4, .ms 4)], [(4, .arr 40 tyKeep), (25, .no), (50000, .box tyDice)]⟩
def st_f34_0_e0 (y4 : (List Keep)) (y50000 : Dice) : VS := sh_f34_0_e0.st ((), ()) (y4, (), y50000, ())
-- loop 0: (x3 : (List Keep)) (x5 : Int) (y4 : (List Keep)) (y50000 : Dice); out: ('exit', 0) (y4 : (List Keep)) (y50000 : Dice)
def L_f34_0 : VS → Option (Bool × List (Bool × Exit × VS)) := mkL sh_f34_0 (fun x y => (dOk y.2.2.1 && (x.2.1 == useA) && decide (0 ≤ x.2.2.2.1 ∧ x.2.2.2.1 ≤ 100 ∧ y.1.length + x.2.2.2.1.toNat ≤ 1000))) (fun x y => [(true, .exit 0, st_f34_0_e0 (y.1 ++ (usZ x.2.2.2.1.toNat y.2.2.1).1) ((usZ x.2.2.2.1.toNat y.2.2.1).2))])
def g_f34 : G := ⟨TYs, [], 27, EL [(47, sp_f47)], keeps, (Ls [L_f34_0]), IL [], RL []⟩
def b_f34_0 (x3 : (List Keep)) (x5 : Int) (y4 : (List Keep)) (y50000 : Dice) : Option (Exit × VS) :=
 br ((igt x5 0))
  (br ((nextOk y50000 5))
   (br (cIx x3 (dval y50000 5))
    (br (cApp y4 ([((lgt tyKeep x3 (Int.toNat (dval y50000 5))).1, (((lgt tyKeep x3 (Int.toNat (dval y50000 5))).2).1, ()))]) 16)
     (some (.normal, st_f34_0 x3 (isub .i64 x5 1) (y4 ++ ([((lgt tyKeep x3 (Int.toNat (dval y50000 5))).1, (((lgt tyKeep x3 (Int.toNat (dval y50000 5))).2).1, ()))])) (dnext y50000 5)))
     (none))
    (none))
   (none))
  (some (.exit 0, st_f34_0_e0 y4 y50000))
noncomputable def lp_f34_0 (x3 : (List Keep)) (x5 : Int) (y4 : (List Keep)) (y50000 : Dice) : Option (Exit × VS) := loopF (roundF g_f34 fg_f34_0 tb_f34_0) (st_f34_0 x3 x5 y4 y50000)
noncomputable def n_f34_0 (x3 : (List Keep)) (x5 : Int) (y4 : (List Keep)) (y50000 : Dice) : Option (Exit × VS) :=
 br ((igt x5 0))
  (br ((nextOk y50000 5))
   (br (cIx x3 (dval y50000 5))
    (br (cApp y4 ([((lgt tyKeep x3 (Int.toNat (dval y50000 5))).1, (((lgt tyKeep x3 (Int.toNat (dval y50000 5))).2).1, ()))]) 16)
     (lp_f34_0 x3 (isub .i64 x5 1) (y4 ++ ([((lgt tyKeep x3 (Int.toNat (dval y50000 5))).1, (((lgt tyKeep x3 (Int.toNat (dval y50000 5))).2).1, ()))])) (dnext y50000 5))
     (none))
    (none))
   (none))
  (some (.exit 0, st_f34_0_e0 y4 y50000))
def la_f34_0 (x3 : (List Keep)) (x5 : Int) (y4 : (List Keep)) (y50000 : Dice) : Option (Exit × VS) := some (.exit 0, st_f34_0_e0 (y4 ++ (usZ x5.toNat y50000).1) ((usZ x5.toNat y50000).2))
theorem be_f34_0 (x3 : (List Keep)) (x5 : Int) (y4 : (List Keep)) (y50000 : Dice) : roundF g_f34 fg_f34_0 tb_f34_0 (st_f34_0 x3 x5 y4 y50000) = b_f34_0 x3 x5 y4 y50000 := by kernel_rfl
theorem ln_f34_0 (x3 : (List Keep)) (x5 : Int) (y4 : (List Keep)) (y50000 : Dice) : lp_f34_0 x3 x5 y4 y50000 = n_f34_0 x3 x5 y4 y50000 := (loopF_nxt _ _).trans (by
 rw [be_f34_0]
 simp only [b_f34_0, n_f34_0, nxt_br, nxt_n, nxt_r, nxt_e, nxt_0]
 rfl)
def r_f34 (d0 : Dice) : Option (V × List VO) :=
 br ((nextOk d0 4))
  (br ((dOk (dnext d0 4) && (([(3, (0, ())), (4, (0, ())), (2, (0, ())), (1, (0, ())), (5, (2048, ()))]) == useA) && decide (0 ≤ (dval d0 4) ∧ (dval d0 4) ≤ 100 ∧ ([] : List Keep).length + (dval d0 4).toNat ≤ 1000)))
   (some (.ms 50001, [.box (.t tyDice ((usZ (dval d0 4).toNat (dnext d0 4)).2)), .arr 40 tyKeep (([] : List Keep) ++ (usZ (dval d0 4).toNat (dnext d0 4)).1)]))
   (none))
  (none)
theorem e_f34 (d0 : Dice) : runF g_f34 tc_f34 rv_f34 true [.ptr 50000 0] [.box (.t tyDice d0)] = r_f34 d0 := by kernel_rfl
theorem ok_f34 : Option.map (trC Tryz.prog) Tryz.f34.body = some tc_f34.er := by kernel_rfl
theorem rok_f34 : trVs Tryz.prog Tryz.f34.results.toList = some (rv_f34.map Prod.fst) := by kernel_rfl
theorem en_f34 : Entered Tryz.prog 34 := .inr ⟨by decide, _, Tryz.func34, by kernel_rfl, by kernel_rfl⟩
theorem gk_f34 : GOk Tryz.prog g_f34 := gok_of _ (by
 intro p hp
 simp only [List.mem_cons, List.not_mem_nil, or_false] at hp
 rcases hp with rfl
 ·exact ⟨en_f47, ms_f47⟩)
theorem l_f34_0 (x3 : (List Keep)) (x5 : Int) (y4 : (List Keep)) (y50000 : Dice) (h : (dOk y50000 && (x3 == useA) && decide (0 ≤ x5 ∧ x5 ≤ 100 ∧ y4.length + x5.toNat ≤ 1000)) = true) : lp_f34_0 x3 x5 y4 y50000 = la_f34_0 x3 x5 y4 y50000 := by
 simp only [Bool.and_eq_true, decide_eq_true_eq, beq_iff_eq] at h
 obtain ⟨⟨hd, rfl⟩, h1, h2q, h3⟩ := h
 obtain ⟨k, rfl⟩ := Int.eq_ofNat_of_zero_le h1
 rw [Int.toNat_natCast] at h3
 have h2 : k ≤ 100 := by omega
 clear h1 h2q
 induction k generalizing y4 y50000 with
 | zero =>
  rw [ln_f34_0]
  have e1 : igt ((0 : Nat) : Int) 0 = false := rfl
  simp only [n_f34_0, e1, br_false, la_f34_0, Int.toNat_natCast, usZ, List.append_nil]
 | succ k ih =>
  rw [ln_f34_0]
  have e1 : igt ((k + 1 : Nat) : Int) 0 = true := by simp only [igt, decide_eq_true_eq]; omega
  have e2 : isub .i64 ((k + 1 : Nat) : Int) 1 = (k : Int) := by rw [isub_in (by omega)]; omega
  have hv := dval_lt (d := y50000) (n := 5) (by omega)
  have hc : cIx useA (dval y50000 5) = true := by
   have : useA.length = 5 := rfl
   simp only [cIx, decide_eq_true_eq]
   omega
  have n5 : nextOk y50000 5 = true := by simp [nextOk, hd]
  have hi : ∀ x : Keep, cApp y4 [x] 16 = true := fun x => cApp_ok (by simp; omega) (by omega)
  have hla : la_f34_0 useA ((k + 1 : Nat) : Int) y4 y50000 = la_f34_0 useA (k : Int) (y4 ++ [lgt tyKeep useA (dval y50000 5).toNat]) (dnext y50000 5) := by
   simp only [la_f34_0, Int.toNat_natCast, usZ, List.append_assoc]
   rfl
  rw [hla, ← ih _ _ (dOk_next hd) (by simp; omega) (by omega)]
  simp only [n_f34_0, e1, e2, n5, hc, hi, br_true]
theorem lo_f34_0 : ∀ S l p, g_f34.L 0 (fgt fg_f34_0 S) = some (true, l) → pickA l = some p → loopF (roundF g_f34 fg_f34_0 tb_f34_0) S = some p :=
 lok_of (s := sh_f34_0) ⟨by decide, by decide⟩ (by kernel_rfl) fun x y hok p hp => by
 simp only [pickA_br, pickA_one] at hp
 exact (l_f34_0 x.2.1 x.2.2.2.1 y.1 y.2.2.1 (by simpa using hok)).trans hp
theorem lk_f34 : tc_f34.lok g_f34 := by
 repeat (first | exact trivial | exact lo_f34_0 | refine ⟨?_, ?_⟩)
theorem dOk_us : ∀ {n : Nat} {d : Dice}, dOk d = true → dOk (usZ n d).2 = true
 | 0, _, h => h
 | n + 1, _, h => dOk_us (n := n) (dOk_next h)
theorem dOk_uses {d : Dice} (h : dOk d = true) : dOk (usesN d) = true := dOk_us (dOk_next h)
theorem us_all : ∀ (n : Nat) (d : Dice), (usZ n d).1.all validF = true ∧ (usZ n d).1.length = n
 | 0, _ => ⟨rfl, rfl⟩
 | n + 1, d => by
  obtain ⟨h1, h2⟩ := us_all n (dnext d 5)
  have hv := dval_lt (d := d) (n := 5) (by omega)
  have hm : lgt tyKeep useA (dval d 5).toNat ∈ useA := lgt_mem (y := tyKeep) (by have : useA.length = 5 := rfl; omega)
  have ha : useA.all validF = true := by kernel_rfl
  have hx : validF (lgt tyKeep useA (dval d 5).toNat) = true := List.all_eq_true.1 ha _ hm
  constructor
  ·show (validF (lgt tyKeep useA (dval d 5).toNat) && (usZ n (dnext d 5)).1.all validF) = true
   rw [hx, h1]
   rfl
  ·show (usZ n (dnext d 5)).1.length + 1 = n + 1
   rw [h2]
theorem uses_len (d : Dice) : (usesV d).length ≤ 3 := by
 have hv := dval_lt (d := d) (n := 4) (by omega)
 unfold usesV
 rw [(us_all _ _).2]
 omega
theorem s_f34 (d : Dice) (h : dOk d = true) : r_f34 d = some (.ms 50001, [.box (.t tyDice (usesN d)), .arr 40 tyKeep (usesV d)]) := by
 have hv := dval_lt (d := d) (n := 4) (by omega)
 have n4 : nextOk d 4 = true := by simp [nextOk, h]
 simp only [r_f34, n4, br_true, List.nil_append]
 rw [dOk_next h, Bool.true_and, show (([(3, (0, ())), (4, (0, ())), (2, (0, ())), (1, (0, ())), (5, (2048, ()))] : List Keep) == useA) = true from beq_self_eq_true useA, Bool.true_and, dec_true ⟨hv.1, by omega, by simp; omega⟩, br_true]
 rfl
def sp_f34 : Ent := specS [.ptr 50000 0] [.box tyDice] (fun x y => (dOk y.1)) (fun x y => (.ms 50001)) (fun x y => [.box (.t tyDice (usesN y.1)), .arr 40 tyKeep (usesV y.1)])
theorem ms_f34 : Meets Tryz.prog 34 (strip sp_f34) := by
 obtain ⟨c, hc, hi⟩ := Option.map_eq_some_iff.1 ok_f34
 exact meets_specS (R := runF g_f34 tc_f34 rv_f34 true) (meets_of (by decide) Tryz.func34 hc hi Tryz.ntmps34 rok_f34 gk_f34 lk_f34 mixed) fun x y hok => (e_f34 y.1).trans (s_f34 y.1 hok)
def plStep (s : List Rule × Dice) (a : Int) : List Rule × Dice :=
 bif ieq (dval s.2 4) 0 then (s.1 ++ [(false, (a, (0, (0, (dof (dnext s.2 4) [40, 60, 120, 300], (40001, ()))))))], dofN (dnext s.2 4) [40, 60, 120, 300])
 else bif ieq (dval s.2 4) 1 then (s.1 ++ [(false, (a, (0, (0, (0, (dof (dnext s.2 4) [30, 70], ()))))))], dofN (dnext s.2 4) [30, 70])
 else (s.1, dnext s.2 4)
def plZ (l : List Int) (s : List Rule × Dice) : List Rule × Dice := l.foldl plStep s
def polsV (d : Dice) : Policy := ((plZ [2, 3, 4, 1] ((polV d).1, polN d)).1, ((polV d).2.1, ()))
def polsN (d : Dice) : Dice := (plZ [2, 3, 4, 1] ((polV d).1, polN d)).2
def dr_f31_0 : List DO := [(.mk (oP 18 (.fa 0 (.t 3))) []), (.mk (oL 19 18) [0]), (.mk (oV 20 5) []), (.mk (oV 21 0) []), (.mk (oM 22 (.bs 3 1 4 [(.v (.int .i64 0)), (.v (.int .i64 0)), (.v (.int .i64 0)), (.v (.int .i64 0))] [(0, 1, (cI 40)), (1, 1, (cI 60)), (2, 1, (cI 120)), (3, 1, (cI 300))])) []), (.mk (oC 23 22 [(.t 21), (.t 22)]) [3, 4]), (.mk (oP 24 (.bd [(.v (.bool false)), (.v (.int .i64 0)), (.v (.int .i64 0)), (.v (.int .i64 0)), (.v (.int .i64 0)), (.v (.int .i64 0))] [(1, 1, (.t 20)), (4, 1, (.t 23)), (5, 1, (cI 40001))])) [2, 5]), (.mk (oM 25 (.bs 38 6 1 [(.v (.bool false)), (.v (.int .i64 0)), (.v (.int .i64 0)), (.v (.int .i64 0)), (.v (.int .i64 0)), (.v (.int .i64 0))] [(0, 6, (.t 24))])) [6]), (.mk (oM 26 (.app 38 6 48 (.t 19) (.t 25))) [1, 7, 5]), (.mk (oP 27 (.fa 0 (.t 3))) [0, 1, 2, 3, 4, 5, 6, 7, 8]), (.mk (.mk none none (.m (.st 1 (.t 27) (.t 26)))) [9, 8, 8, 0, 1, 2, 3, 4, 5, 6, 7, 8])]
def dr_f31_1 : List DO := [(.mk (oP 30 (.fa 0 (.t 3))) []), (.mk (oL 31 30) [0]), (.mk (oV 32 5) []), (.mk (oV 33 0) []), (.mk (oM 34 (.bs 3 1 2 [(.v (.int .i64 0)), (.v (.int .i64 0))] [(0, 1, (cI 30)), (1, 1, (cI 70))])) []), (.mk (oC 35 22 [(.t 33), (.t 34)]) [3, 4]), (.mk (oP 36 (.bd [(.v (.bool false)), (.v (.int .i64 0)), (.v (.int .i64 0)), (.v (.int .i64 0)), (.v (.int .i64 0)), (.v (.int .i64 0))] [(1, 1, (.t 32)), (5, 1, (.t 35))])) [2, 5]), (.mk (oM 37 (.bs 38 6 1 [(.v (.bool false)), (.v (.int .i64 0)), (.v (.int .i64 0)), (.v (.int .i64 0)), (.v (.int .i64 0)), (.v (.int .i64 0))] [(0, 6, (.t 36))])) [6]), (.mk (oM 38 (.app 38 6 48 (.t 31) (.t 37))) [1, 7, 5]), (.mk (oP 39 (.fa 0 (.t 3))) [0, 1, 2, 3, 4, 5, 6, 7, 8]), (.mk (.mk none none (.m (.st 1 (.t 39) (.t 38)))) [9, 8, 8, 0, 1, 2, 3, 4, 5, 6, 7, 8])]
def fg_f31_0 : Fg := ⟨[(0, none), (2, none), (3, none), (8, some (.sl tI)), (9, some tI), (10, some tI)], [(2, some tyPolicy), (3, none), (7, none), (26, none), (38, none), (5007, none), (10007, none), (15007, none), (20300, none), (50000, some tyDice)]⟩
def tb_f31_0 : TC := (.sq (.reg [(oP 11 (.bin false .lss (.t 10) (.t 9)))]) (.sq (.cd (.t 11) .sk (.fg ⟨[(2, none), (3, none)], [(2, some tyPolicy), (3, some tyPolicy), (7, none), (26, none), (38, none), (5007, none), (10007, none), (15007, none), (20300, none), (50000, some tyDice)]⟩ (.ex 0))) (.sq (.bk 1 (.sq (.reg [(oP 12 (.ix 1 (.t 8) (.t 10))), (oL 13 12), (oV 5 13)]) (.sq (.reg [(oV 14 0), (oC 15 47 [(.t 14), (cI 4)])]) (.bk 2 (.sq (.reg [(oP 17 (.bin false .eql (.t 15) (cI 0))), (oV 16 17)]) (.cd (.t 16) (.dr dr_f31_0 [(0, [3, 7, 26, 38, 5007, 10007, 15007, 20300]), (1, [3, 7, 26, 38, 5007, 10007, 15007, 20300]), (2, []), (3, [50000]), (4, []), (5, [23, 5023, 10023, 15023, 50000]), (6, []), (7, []), (8, [2, 3, 7, 26, 38, 5007, 5026, 10007, 10026, 15007, 15026, 20300]), (9, [3, 7, 26, 38, 5007, 10007, 15007, 20300]), (10, [2, 3, 7, 26, 38, 5007, 10007, 15007, 20300])] (.of [0, 1, 2, 3, 4, 5, 6, 7, 8, 9, 10])) (.sq (.reg [(oP 29 (.bin false .eql (.t 15) (cI 1))), (oV 28 29)]) (.cd (.t 28) (.dr dr_f31_1 [(0, [3, 7, 26, 38, 5007, 10007, 15007, 20300]), (1, [3, 7, 26, 38, 5007, 10007, 15007, 20300]), (2, []), (3, [50000]), (4, []), (5, [35, 5035, 10035, 15035, 50000]), (6, []), (7, []), (8, [2, 3, 7, 26, 38, 5007, 5038, 10007, 10038, 15007, 15038, 20300]), (9, [3, 7, 26, 38, 5007, 10007, 15007, 20300]), (10, [2, 3, 7, 26, 38, 5007, 10007, 15007, 20300])] (.of [0, 1, 2, 3, 4, 5, 6, 7, 8, 9, 10])) .sk)))))))) (.reg [(oP 40 (.bin false .add (.t 10) (cI 1))), (oV 10 40)]))))
def tc_f31 : TC := (.sq (.reg [(oM 2 (.new [(.v (.slice none 0 0)), (.v (.slice none 0 0))]))]) (.sq (.reg [(oV 6 0), (oC 7 12 [(.t 6)]), (oM 3 (.new [(.v (.slice none 0 0)), (.v (.slice none 0 0))])), (.mk none none (.m (.st 2 (.t 3) (.t 7))))]) (.sq (.sq (.reg [(oM 8 (.bs 3 1 4 [(.v (.int .i64 0)), (.v (.int .i64 0)), (.v (.int .i64 0)), (.v (.int .i64 0))] [(0, 1, (cI 2)), (1, 1, (cI 3)), (2, 1, (cI 4)), (3, 1, (cI 1))])), (oP 9 (.len false (.t 8))), (oP 10 (.mv (cI 0)))]) (.bk 0 (.nf 3 0 38 20300 (.lp 0 fg_f31_0 tb_f31_0)))) (.sq (.reg [(oM 41 (.ld true 2 (.t 3))), (.mk none none (.m (.st 2 (.t 2) (.t 41))))]) .rt))))
def rv_f31 : List (RV × Option Ty) := [((.c 2 true 2), none)]
abbrev sh_f31_0 : Sh := ⟨[(0, .ptr 50000 0), (2, .ptr 2 0), (3, .ptr 3 0), (8, .ty (.sl tI)), (9, .ty tI), (10, .ty tI)], [(2, .box tyPolicy), (3, .bag [.ms 7, .ms 5007]), (7, .arr 38 tyRule), (26, .no), (38, .no), (5007, .arr 80 tyKeep), (10007, .no), (15007, .no), (20300, .no), (50000, .box tyDice)]⟩
def st_f31_0 (x8 : (List Int)) (x9 : Int) (x10 : Int) (y2 : Policy) (y7 : (List Rule)) (y5007 : (List Keep)) (y50000 : Dice) : VS := sh_f31_0.st ((), (), (), x8, x9, x10, ()) (y2, ((), (), ()), y7, (), (), y5007, (), (), (), y50000, ())
abbrev sh_f31_0_e0 : Sh := ⟨[(2, .ptr 2 0), (3, .ptr 3 0)], [(2, .box tyPolicy), (3, .bag [.ms 7, .ms 5007]), (7, .arr 38 tyRule), (26, .no), (38, .no), (5007, .arr 80 tyKeep), (10007, .no), (15007, .no), (20300, .no), (50000, .box tyDice)]⟩
def st_f31_0_e0 (y2 : Policy) (y7 : (List Rule)) (y5007 : (List Keep)) (y50000 : Dice) : VS := sh_f31_0_e0.st ((), (), ()) (y2, ((), (), ()), y7, (), (), y5007, (), (), (), y50000, ())
-- loop 0: (x8 : (List Int)) (x9 : Int) (x10 : Int) (y2 : Policy) (y7 : (List Rule)) (y5007 : (List Keep)) (y50000 : Dice); out: ('exit', 0) (y2 : Policy) (y7 : (List Rule)) (y5007 : (List Keep)) (y50000 : Dice)
def L_f31_0 : VS → Option (Bool × List (Bool × Exit × VS)) := mkL sh_f31_0 (fun x y => (dOk y.2.2.2.2.2.2.2.2.2.1 && rngOk x.2.2.2.1 x.2.2.2.2.1 x.2.2.2.2.2.1 && decide (y.2.2.1.length + (x.2.2.2.1.length - x.2.2.2.2.2.1.toNat) ≤ 1000))) (fun x y => [(true, .exit 0, st_f31_0_e0 (y.1) ((plZ (x.2.2.2.1.drop x.2.2.2.2.2.1.toNat) (y.2.2.1, y.2.2.2.2.2.2.2.2.2.1)).1) (y.2.2.2.2.2.1) ((plZ (x.2.2.2.1.drop x.2.2.2.2.2.1.toNat) (y.2.2.1, y.2.2.2.2.2.2.2.2.2.1)).2))])
def g_f31 : G := ⟨TYs, [], 42, EL [(12, sp_f12), (22, sp_f22), (47, sp_f47)], keeps, (Ls [L_f31_0]), IL [], RL []⟩
def b_f31_0 (x8 : (List Int)) (x9 : Int) (x10 : Int) (y2 : Policy) (y7 : (List Rule)) (y5007 : (List Keep)) (y50000 : Dice) : Option (Exit × VS) :=
 br ((ilt x10 x9))
  (br (cIx x8 x10)
   (br ((nextOk y50000 4))
    (br ((ieq (dval y50000 4) 0))
     (br ((ofOk (dnext y50000 4) ([40, 60, 120, 300])))
      (br (cApp y7 ([(false, ((lgt tI x8 (Int.toNat x10)), (0, (0, ((dof (dnext y50000 4) ([40, 60, 120, 300])), (40001, ()))))))]) 48)
       (some (.normal, st_f31_0 x8 x9 (iadd .i64 x10 1) y2 (y7 ++ ([(false, ((lgt tI x8 (Int.toNat x10)), (0, (0, ((dof (dnext y50000 4) ([40, 60, 120, 300])), (40001, ()))))))])) y5007 (dofN (dnext y50000 4) ([40, 60, 120, 300]))))
       (none))
      (none))
     (br ((ieq (dval y50000 4) 1))
      (br ((ofOk (dnext y50000 4) ([30, 70])))
       (br (cApp y7 ([(false, ((lgt tI x8 (Int.toNat x10)), (0, (0, (0, ((dof (dnext y50000 4) ([30, 70])), ()))))))]) 48)
        (some (.normal, st_f31_0 x8 x9 (iadd .i64 x10 1) y2 (y7 ++ ([(false, ((lgt tI x8 (Int.toNat x10)), (0, (0, (0, ((dof (dnext y50000 4) ([30, 70])), ()))))))])) y5007 (dofN (dnext y50000 4) ([30, 70]))))
        (none))
       (none))
      (some (.normal, st_f31_0 x8 x9 (iadd .i64 x10 1) y2 y7 y5007 (dnext y50000 4)))))
    (none))
   (none))
  (some (.exit 0, st_f31_0_e0 y2 y7 y5007 y50000))
noncomputable def lp_f31_0 (x8 : (List Int)) (x9 : Int) (x10 : Int) (y2 : Policy) (y7 : (List Rule)) (y5007 : (List Keep)) (y50000 : Dice) : Option (Exit × VS) := loopF (roundF g_f31 fg_f31_0 tb_f31_0) (st_f31_0 x8 x9 x10 y2 y7 y5007 y50000)
noncomputable def n_f31_0 (x8 : (List Int)) (x9 : Int) (x10 : Int) (y2 : Policy) (y7 : (List Rule)) (y5007 : (List Keep)) (y50000 : Dice) : Option (Exit × VS) :=
 br ((ilt x10 x9))
  (br (cIx x8 x10)
   (br ((nextOk y50000 4))
    (br ((ieq (dval y50000 4) 0))
     (br ((ofOk (dnext y50000 4) ([40, 60, 120, 300])))
      (br (cApp y7 ([(false, ((lgt tI x8 (Int.toNat x10)), (0, (0, ((dof (dnext y50000 4) ([40, 60, 120, 300])), (40001, ()))))))]) 48)
       (lp_f31_0 x8 x9 (iadd .i64 x10 1) y2 (y7 ++ ([(false, ((lgt tI x8 (Int.toNat x10)), (0, (0, ((dof (dnext y50000 4) ([40, 60, 120, 300])), (40001, ()))))))])) y5007 (dofN (dnext y50000 4) ([40, 60, 120, 300])))
       (none))
      (none))
     (br ((ieq (dval y50000 4) 1))
      (br ((ofOk (dnext y50000 4) ([30, 70])))
       (br (cApp y7 ([(false, ((lgt tI x8 (Int.toNat x10)), (0, (0, (0, ((dof (dnext y50000 4) ([30, 70])), ()))))))]) 48)
        (lp_f31_0 x8 x9 (iadd .i64 x10 1) y2 (y7 ++ ([(false, ((lgt tI x8 (Int.toNat x10)), (0, (0, (0, ((dof (dnext y50000 4) ([30, 70])), ()))))))])) y5007 (dofN (dnext y50000 4) ([30, 70])))
        (none))
       (none))
      (lp_f31_0 x8 x9 (iadd .i64 x10 1) y2 y7 y5007 (dnext y50000 4))))
    (none))
   (none))
  (some (.exit 0, st_f31_0_e0 y2 y7 y5007 y50000))
def la_f31_0 (x8 : (List Int)) (x9 : Int) (x10 : Int) (y2 : Policy) (y7 : (List Rule)) (y5007 : (List Keep)) (y50000 : Dice) : Option (Exit × VS) := some (.exit 0, st_f31_0_e0 (y2) ((plZ (x8.drop x10.toNat) (y7, y50000)).1) (y5007) ((plZ (x8.drop x10.toNat) (y7, y50000)).2))
theorem be_f31_0 (x8 : (List Int)) (x9 : Int) (x10 : Int) (y2 : Policy) (y7 : (List Rule)) (y5007 : (List Keep)) (y50000 : Dice) : roundF g_f31 fg_f31_0 tb_f31_0 (st_f31_0 x8 x9 x10 y2 y7 y5007 y50000) = b_f31_0 x8 x9 x10 y2 y7 y5007 y50000 := by kernel_rfl
theorem ln_f31_0 (x8 : (List Int)) (x9 : Int) (x10 : Int) (y2 : Policy) (y7 : (List Rule)) (y5007 : (List Keep)) (y50000 : Dice) : lp_f31_0 x8 x9 x10 y2 y7 y5007 y50000 = n_f31_0 x8 x9 x10 y2 y7 y5007 y50000 := (loopF_nxt _ _).trans (by
 rw [be_f31_0]
 simp only [b_f31_0, n_f31_0, nxt_br, nxt_n, nxt_r, nxt_e, nxt_0]
 rfl)
def r_f31 (d0 : Dice) : Option (V × List VO) :=
 br ((dOk d0))
  (br ((dOk (polN d0) && rngOk ([2, 3, 4, 1]) (llen ([2, 3, 4, 1])) (0 : Int) && decide (((polV d0).1).length + (([2, 3, 4, 1]).length - (0 : Int).toNat) ≤ 1000)))
   (some (.ag [(.ms 50001), (.ms 50002)], [.box (.t tyDice ((plZ (([2, 3, 4, 1]).drop (0 : Int).toNat) (((polV d0).1), (polN d0))).2)), .arr 38 tyRule ((plZ (([2, 3, 4, 1]).drop (0 : Int).toNat) (((polV d0).1), (polN d0))).1), .arr 80 tyKeep ((((polV d0).2).1))]))
   (none))
  (none)
theorem e_f31 (d0 : Dice) : runF g_f31 tc_f31 rv_f31 true [.ptr 50000 0] [.box (.t tyDice d0)] = r_f31 d0 := by kernel_rfl
theorem ok_f31 : Option.map (trC Tryz.prog) Tryz.f31.body = some tc_f31.er := by kernel_rfl
theorem rok_f31 : trVs Tryz.prog Tryz.f31.results.toList = some (rv_f31.map Prod.fst) := by kernel_rfl
theorem en_f31 : Entered Tryz.prog 31 := .inr ⟨by decide, _, Tryz.func31, by kernel_rfl, by kernel_rfl⟩
theorem gk_f31 : GOk Tryz.prog g_f31 := gok_of _ (by
 intro p hp
 simp only [List.mem_cons, List.not_mem_nil, or_false] at hp
 rcases hp with rfl | rfl | rfl
 ·exact ⟨en_f12, ms_f12⟩
 ·exact ⟨en_f22, ms_f22⟩
 ·exact ⟨en_f47, ms_f47⟩)
theorem plStep_ok {s : List Rule × Dice} {a : Int} (h : dOk s.2 = true) : dOk (plStep s a).2 = true ∧ (plStep s a).1.length ≤ s.1.length + 1 := by
 have hE : dOk (dnext s.2 4) = true := dOk_next h
 unfold plStep
 cases ieq (dval s.2 4) 0
 ·cases ieq (dval s.2 4) 1
  ·exact ⟨hE, Nat.le_succ _⟩
  ·exact ⟨dOk_of (l := [30, 70]) hE, by simp⟩
 ·exact ⟨dOk_of (l := [40, 60, 120, 300]) hE, by simp⟩
theorem l_f31_0 (x8 : (List Int)) (x9 : Int) (x10 : Int) (y2 : Policy) (y7 : (List Rule)) (y5007 : (List Keep)) (y50000 : Dice) (h : (dOk y50000 && rngOk x8 x9 x10 && decide (y7.length + (x8.length - x10.toNat) ≤ 1000)) = true) : lp_f31_0 x8 x9 x10 y2 y7 y5007 y50000 = la_f31_0 x8 x9 x10 y2 y7 y5007 y50000 := by
 simp only [Bool.and_eq_true, decide_eq_true_eq] at h
 obtain ⟨⟨hd, hr⟩, hl⟩ := h
 obtain ⟨rfl, h3, k, rfl, hk⟩ := rng_k hr
 clear hr
 rw [Int.toNat_natCast] at hl
 revert y7 y50000
 refine range_ind x8 (fun k => ∀ (y7 : List Rule) (y50000 : Dice), dOk y50000 = true → y7.length + (x8.length - k) ≤ 1000 → lp_f31_0 x8 (x8.length : Int) (k : Int) y2 y7 y5007 y50000 = la_f31_0 x8 (x8.length : Int) (k : Int) y2 y7 y5007 y50000) ?_ ?_ k hk
 ·intro y7 d _ _
  rw [ln_f31_0]
  simp [n_f31_0, la_f31_0, ilt_nat, br_false, plZ]
 ·intro k hk ih y7 d hd hl
  rw [ln_f31_0]
  have n4 : nextOk d 4 = true := by simp [nextOk, hd]
  have hE : dOk (dnext d 4) = true := dOk_next hd
  have o1 : ofOk (dnext d 4) [40, 60, 120, 300] = true := by simp [ofOk, hE]
  have o2 : ofOk (dnext d 4) [30, 70] = true := by simp [ofOk, hE]
  have hi : ∀ x : Rule, cApp y7 [x] 48 = true := fun x => cApp_ok (by simp; omega) (by omega)
  have el : la_f31_0 x8 (x8.length : Int) (k : Int) y2 y7 y5007 d = la_f31_0 x8 (x8.length : Int) ((k + 1 : Nat) : Int) y2 (plStep (y7, d) x8[k]).1 y5007 (plStep (y7, d) x8[k]).2 := by
   simp only [la_f31_0, Int.toNat_natCast, List.drop_eq_getElem_cons hk, plZ, List.foldl_cons]
  have hs := plStep_ok (s := (y7, d)) (a := x8[k]) hd
  have hs2 : (plStep (y7, d) x8[k]).1.length ≤ y7.length + 1 := hs.2
  rw [el, ← ih (plStep (y7, d) x8[k]).1 (plStep (y7, d) x8[k]).2 hs.1 (by omega)]
  simp only [n_f31_0, ilt_nat, cIx_nat, hk, decide_true, br_true, Int.toNat_natCast, add1 (show k < 4611686018427387904 by omega), lgt_get (y := tI) hk, n4, o1, o2, hi]
  unfold plStep
  cases ieq (dval d 4) 0 with
  | true => rfl
  | false => cases ieq (dval d 4) 1 <;> rfl
theorem lo_f31_0 : ∀ S l p, g_f31.L 0 (fgt fg_f31_0 S) = some (true, l) → pickA l = some p → loopF (roundF g_f31 fg_f31_0 tb_f31_0) S = some p :=
 lok_of (s := sh_f31_0) ⟨by decide, by decide⟩ (by kernel_rfl) fun x y hok p hp => by
 simp only [pickA_br, pickA_one] at hp
 exact (l_f31_0 x.2.2.2.1 x.2.2.2.2.1 x.2.2.2.2.2.1 y.1 y.2.2.1 y.2.2.2.2.2.1 y.2.2.2.2.2.2.2.2.2.1 (by simpa using hok)).trans hp
theorem lk_f31 : tc_f31.lok g_f31 := by
 repeat (first | exact trivial | exact lo_f31_0 | refine ⟨?_, ?_⟩)
theorem pl_all : ∀ (l : List Int) (s : List Rule × Dice), dOk s.2 = true → (l.all fun a => decide (0 ≤ a ∧ a ≤ 22)) = true → s.1.all ruledF = true → dOk (plZ l s).2 = true ∧ (plZ l s).1.all ruledF = true ∧ (plZ l s).1.length ≤ s.1.length + l.length
 | [], s, h, _, hr => ⟨h, hr, Nat.le_refl _⟩
 | a :: l, s, h, ha, hr => by
  rw [List.all_cons, Bool.and_eq_true, decide_eq_true_eq] at ha
  obtain ⟨g1, g2⟩ := plStep_ok (a := a) h
  have h1 : 30 ≤ dof (dnext s.2 4) [40, 60, 120, 300] ∧ dof (dnext s.2 4) [40, 60, 120, 300] ≤ 300 := by
   have h := dof_mem (d := dnext s.2 4) (l := [40, 60, 120, 300]) (by decide)
   simp only [List.mem_cons, List.not_mem_nil, or_false] at h
   omega
  have h2 : 30 ≤ dof (dnext s.2 4) [30, 70] ∧ dof (dnext s.2 4) [30, 70] ≤ 70 := by
   have h := dof_mem (d := dnext s.2 4) (l := [30, 70]) (by decide)
   simp only [List.mem_cons, List.not_mem_nil, or_false] at h
   omega
  have hr2 : (plStep s a).1.all ruledF = true := by
   unfold plStep
   cases ieq (dval s.2 4) 0
   ·cases ieq (dval s.2 4) 1
    ·exact hr
    ·show (s.1 ++ [_]).all ruledF = true
     rw [List.all_append, hr, Bool.true_and, List.all_cons, List.all_nil, Bool.and_true]
     exact decide_eq_true (by simp only [Item.Name, Item.Kind, Item.Purpose, Item.Links, Item.Until, Policy.Rules, Policy.Keeps, Rule.Allow, Rule.Alg, Rule.Below, Rule.Purpose, Rule.From, Rule.To, Keep.Alg, Keep.Bits, Link.Use, Link.Day, Dice.L, Dice.At, LinkX.day, LinkX.fall, LinkX.falls, Row.name, Row.kind, Row.way, Row.sizes, Row.strengths]; omega)
   ·show (s.1 ++ [_]).all ruledF = true
    rw [List.all_append, hr, Bool.true_and, List.all_cons, List.all_nil, Bool.and_true]
    exact decide_eq_true (by simp only [Item.Name, Item.Kind, Item.Purpose, Item.Links, Item.Until, Policy.Rules, Policy.Keeps, Rule.Allow, Rule.Alg, Rule.Below, Rule.Purpose, Rule.From, Rule.To, Keep.Alg, Keep.Bits, Link.Use, Link.Day, Dice.L, Dice.At, LinkX.day, LinkX.fall, LinkX.falls, Row.name, Row.kind, Row.way, Row.sizes, Row.strengths]; omega)
  obtain ⟨k1, k2, k3⟩ := pl_all l (plStep s a) g1 ha.2 hr2
  exact ⟨k1, k2, by show (plZ l (plStep s a)).1.length ≤ s.1.length + (l.length + 1); omega⟩
theorem pols_ok {d : Dice} (h : dOk d = true) : polOk (polsV d) = true ∧ (polsV d).1.length ≤ 10 ∧ (polsV d).2.1.length ≤ 2 ∧ dOk (polsN d) = true := by
 have hp := pol_ok d
 have hs := pol_size d
 have hp2 := hp
 simp only [polOk, Bool.and_eq_true, decide_eq_true_eq] at hp2
 obtain ⟨k1, k2, k3⟩ := pl_all [2, 3, 4, 1] ((polV d).1, polN d) (dOk_pol h) (by decide) hp2.1.1
 have k3 : (polsV d).1.length ≤ (polV d).1.length + 4 := k3
 refine ⟨?_, by omega, hs.2, k1⟩
 simp only [polOk, Bool.and_eq_true, decide_eq_true_eq]
 exact ⟨⟨k2, hp2.1.2⟩, by omega, hp2.2.2⟩
theorem s_f31 (d : Dice) (h : dOk d = true) : r_f31 d = some (.ag [.ms 50001, .ms 50002], [.box (.t tyDice (polsN d)), .arr 38 tyRule (polsV d).1, .arr 80 tyKeep (polsV d).2.1]) := by
 have hs := pol_size d
 simp only [r_f31, h, br_true]
 rw [dOk_pol h, Bool.true_and, rng_0 (by decide), Bool.true_and, dec_true (by show (polV d).1.length + 4 ≤ 1000; omega), br_true]
 rfl
def sp_f31 : Ent := specS [.ptr 50000 0] [.box tyDice] (fun x y => (dOk y.1)) (fun x y => (.ag [(.ms 50001), (.ms 50002)])) (fun x y => [.box (.t tyDice (polsN y.1)), .arr 38 tyRule ((polsV y.1).1), .arr 80 tyKeep (((polsV y.1).2).1)])
theorem ms_f31 : Meets Tryz.prog 31 (strip sp_f31) := by
 obtain ⟨c, hc, hi⟩ := Option.map_eq_some_iff.1 ok_f31
 exact meets_specS (R := runF g_f31 tc_f31 rv_f31 true) (meets_of (by decide) Tryz.func31 hc hi Tryz.ntmps31 rok_f31 gk_f31 lk_f31 mixed) fun x y hok => (e_f31 y.1).trans (s_f31 y.1 hok)
end
end Go.Proofs.YtfehjdaielifiaaGreat.K
