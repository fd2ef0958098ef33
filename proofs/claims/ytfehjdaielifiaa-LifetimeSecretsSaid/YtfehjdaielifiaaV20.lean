/-
  lifetime: which items are valid, and what they are.
-/
import Derived.Test.YtfehjdaielifiaaV19
import Derived.Test.YtfehjdaielifiaaP19
set_option linter.unusedSimpArgs false
set_option linter.unusedVariables false
namespace Go.Proofs.Ytfehjdaielifiaa.K
open Go.RowKit
def linksB : Option Int → List Link → Bool
  | _, [] => true
  | pv, x :: r => validF x.1 && decide (0 ≤ x.2.1 ∧ x.2.1 ≤ 40000) && (match pv with | none => true | some d => decide (d < x.2.1)) && linksB (some x.2.1) r
theorem linksB_cons (pv : Option Int) (x : Link) (r : List Link) : linksB pv (x :: r) = (validF x.1 && decide (0 ≤ x.2.1 ∧ x.2.1 ≤ 40000) && (match pv with | none => true | some d => decide (d < x.2.1)) && linksB (some x.2.1) r) := by cases pv <;> rfl
def pvAt (l : List Link) (k : Nat) : Option Int := if k = 0 then none else (l[k - 1]?).map fun x : Link => x.2.1
def itemOk (i : Item) : Bool := namedF i.1 && decide (1 ≤ i.2.1 ∧ i.2.1 ≤ 2) && decide (1 ≤ i.2.2.1 ∧ i.2.2.1 ≤ 4) && decide (1 ≤ i.2.2.2.1.length ∧ i.2.2.2.1.length ≤ 8) && linksB none i.2.2.2.1 && decide ((i.2.2.2.1.headD ((0, (0, ())), (0, ()))).2.1 ≤ i.2.2.2.2.1 ∧ i.2.2.2.2.1 ≤ 40000)
def checkI (i : Item) : Int := if itemOk i then 0 else 30
def itemLen (i : Item) : Bool := nameOk i.1
def dr_lifetime_Check_0 : List DO := [(.mk (.mk (some 52) none (.m (.pu (.fa 0 (.t 5))))) []), (.mk (.mk (some 53) none (.m (.ld true 2 (.t 52)))) [0]), (.mk (.mk (some 54) none (.call 30 [(.t 53)])) [1]), (.mk (.mk (some 55) none (.m (.pu (.nt (.t 54))))) [2]), (.mk (.mk (some 56) none (.m (.pu (.mv (.t 55))))) [3, 2]), (.mk (.mk (some 57) (some (56, false)) (.m (.pu (.fa 2 (.t 5))))) [4]), (.mk (.mk (some 58) (some (56, false)) (.m (.ld false 1 (.t 57)))) [5, 4]), (.mk (.mk (some 59) (some (56, false)) (.m (.pu (.bin false .lss (.t 58) (.c (.v (.int .i64 0))))))) [6, 4]), (.mk (.mk (some 60) none (.m (.pu (.pick (.t 56) (.c (.v (.bool true))) (.t 59))))) [4, 7]), (.mk (.mk (some 61) none (.m (.pu (.mv (.t 60))))) [8, 4]), (.mk (.mk (some 62) (some (61, false)) (.m (.pu (.fa 2 (.t 5))))) [9]), (.mk (.mk (some 63) (some (61, false)) (.m (.ld false 1 (.t 62)))) [10, 9]), (.mk (.mk (some 64) (some (61, false)) (.m (.pu (.bin false .gtr (.t 63) (.c (.v (.int .i64 40000))))))) [11, 9]), (.mk (.mk (some 65) none (.m (.pu (.pick (.t 61) (.c (.v (.bool true))) (.t 64))))) [9, 12]), (.mk (.mk (some 66) none (.m (.pu (.mv (.t 65))))) [13, 9]), (.mk (.mk (some 67) (some (66, false)) (.m (.pu (.mv (.t 4))))) [14]), (.mk (.mk (some 68) (some (66, false)) (.m (.pu (.bin false .gtr (.t 67) (.c (.v (.int .i64 0))))))) [15, 14]), (.mk (.mk (some 69) (some (66, false)) (.m (.pu (.mv (.t 68))))) [16, 14, 14]), (.mk (.mk (some 70) (some (69, true)) (.m (.pu (.fa 3 (.t 1))))) [17]), (.mk (.mk (some 71) (some (69, true)) (.m (.ld false 1 (.t 70)))) [18, 17]), (.mk (.mk (some 72) (some (69, true)) (.m (.pu (.mv (.t 4))))) [17]), (.mk (.mk (some 73) (some (69, true)) (.m (.pu (.bin false .sub (.t 72) (.c (.v (.int .i64 1))))))) [20, 17]), (.mk (.mk (some 74) (some (69, true)) (.m (.pu (.ix 3 (.t 71) (.t 73))))) [19, 21, 17]), (.mk (.mk (some 75) (some (69, true)) (.m (.pu (.fa 2 (.t 74))))) [22, 17]), (.mk (.mk (some 76) (some (69, true)) (.m (.ld false 1 (.t 75)))) [23, 17]), (.mk (.mk (some 77) (some (69, true)) (.m (.pu (.fa 2 (.t 5))))) [17]), (.mk (.mk (some 78) (some (69, true)) (.m (.ld false 1 (.t 77)))) [25, 17]), (.mk (.mk (some 79) (some (69, true)) (.m (.pu (.bin false .geq (.t 76) (.t 78))))) [24, 26, 17]), (.mk (.mk (some 80) (some (66, false)) (.m (.pu (.pick (.t 69) (.t 79) (.c (.v (.bool false))))))) [17, 27, 14]), (.mk (.mk (some 81) none (.m (.pu (.pick (.t 66) (.c (.v (.bool true))) (.t 80))))) [14, 28])]
def dr_lifetime_Check_1 : List DO := [(.mk (.mk (some 83) none (.m (.pu (.fa 4 (.t 1))))) []), (.mk (.mk (some 84) none (.m (.ld false 1 (.t 83)))) [0]), (.mk (.mk (some 85) none (.m (.pu (.fa 3 (.t 1))))) []), (.mk (.mk (some 86) none (.m (.ld false 1 (.t 85)))) [2]), (.mk (.mk (some 87) none (.m (.pu (.ix 3 (.t 86) (.c (.v (.int .i64 0))))))) [3]), (.mk (.mk (some 88) none (.m (.pu (.fa 2 (.t 87))))) [4]), (.mk (.mk (some 89) none (.m (.ld false 1 (.t 88)))) [5]), (.mk (.mk (some 90) none (.m (.pu (.bin false .lss (.t 84) (.t 89))))) [1, 6]), (.mk (.mk (some 91) none (.m (.pu (.mv (.t 90))))) [7]), (.mk (.mk (some 92) (some (91, false)) (.m (.pu (.fa 4 (.t 1))))) [8]), (.mk (.mk (some 93) (some (91, false)) (.m (.ld false 1 (.t 92)))) [9, 8]), (.mk (.mk (some 94) (some (91, false)) (.m (.pu (.bin false .gtr (.t 93) (.c (.v (.int .i64 40000))))))) [10, 8]), (.mk (.mk (some 95) none (.m (.pu (.pick (.t 91) (.c (.v (.bool true))) (.t 94))))) [8, 11])]
def fg_lifetime_Check_0 : Fg := ⟨[(1, none), (45, some (.sl tyLink)), (46, some tI), (47, some tI)], [(1, some tyItem)]⟩
def tb_lifetime_Check_0 : TC := (.sq (.reg [(.mk (some 48) none (.m (.pu (.bin false .lss (.t 47) (.t 46)))))]) (.sq (.cd (.t 48) .sk (.fg ⟨[(1, none)], [(1, some tyItem)]⟩ (.ex 0))) (.sq (.bk 1 (.sq (.reg [(.mk (some 49) none (.m (.pu (.mv (.t 47))))), (.mk (some 50) none (.m (.pu (.ix 3 (.t 45) (.t 47))))), (.mk (some 51) none (.m (.ld true 3 (.t 50)))), (.mk (some 5) none (.m (.new [(.v (.int .i64 0)), (.v (.int .i64 0)), (.v (.int .i64 0))]))), (.mk (some 4) none (.m (.pu (.mv (.t 49))))), (.mk none none (.m (.st 3 (.t 5) (.t 51))))]) (.sq (.dr dr_lifetime_Check_0 [(0, [5]), (1, [5]), (2, []), (3, []), (4, []), (5, [5]), (6, [5]), (7, []), (8, []), (9, []), (10, [5]), (11, [5]), (12, []), (13, []), (14, []), (15, []), (16, []), (17, []), (18, [1]), (19, [1]), (20, []), (21, []), (22, []), (23, []), (24, []), (25, [5]), (26, [5]), (27, []), (28, []), (29, [])] (.of [0, 1, 2, 3, 4, 5, 6, 7, 8, 9, 10, 11, 12, 13, 14, 15, 16, 17, 18, 19, 20, 21, 22, 23, 24, 25, 26, 27, 28, 29])) (.cd (.t 81) (.sq (.reg [(.mk (some 2) none (.m (.pu (.mv (.c (.v (.int .i64 30)))))))]) (.fg ⟨[(2, some tI)], []⟩ .rt)) .sk)))) (.reg [(.mk (some 82) none (.m (.pu (.bin false .add (.t 47) (.c (.v (.int .i64 1))))))), (.mk (some 47) none (.m (.pu (.mv (.t 82)))))]))))
/-- cipherplan/lifetime.Check -/
def tc_lifetime_Check : TC := (.sq (.reg [(.mk (some 1) none (.m (.box (.t 0)))), (.mk (some 2) none (.m (.pu (.mv (.c (.v (.int .i64 0)))))))]) (.sq (.reg [(.mk (some 6) none (.m (.pu (.fa 1 (.t 1))))), (.mk (some 7) none (.m (.ld false 1 (.t 6)))), (.mk (some 8) none (.m (.pu (.bin false .eql (.t 7) (.c (.v (.int .i64 1))))))), (.mk (some 9) none (.m (.pu (.mv (.t 8))))), (.mk (some 10) (some (9, false)) (.m (.pu (.fa 1 (.t 1))))), (.mk (some 11) (some (9, false)) (.m (.ld false 1 (.t 10)))), (.mk (some 12) (some (9, false)) (.m (.pu (.bin false .eql (.t 11) (.c (.v (.int .i64 2))))))), (.mk (some 13) none (.m (.pu (.pick (.t 9) (.c (.v (.bool true))) (.t 12))))), (.mk (some 3) none (.m (.pu (.mv (.t 13)))))]) (.sq (.sq (.reg [(.mk (some 14) none (.m (.pu (.fa 0 (.t 1))))), (.mk (some 15) none (.m (.ld false 1 (.t 14)))), (.mk (some 16) none (.call 49 [(.t 15)])), (.mk (some 17) none (.m (.pu (.nt (.t 16))))), (.mk (some 18) none (.m (.pu (.mv (.t 17))))), (.mk (some 19) (some (18, false)) (.m (.pu (.mv (.t 3))))), (.mk (some 20) (some (18, false)) (.m (.pu (.nt (.t 19))))), (.mk (some 21) none (.m (.pu (.pick (.t 18) (.c (.v (.bool true))) (.t 20))))), (.mk (some 22) none (.m (.pu (.mv (.t 21))))), (.mk (some 23) (some (22, false)) (.m (.pu (.fa 2 (.t 1))))), (.mk (some 24) (some (22, false)) (.m (.ld false 1 (.t 23)))), (.mk (some 25) (some (22, false)) (.m (.pu (.bin false .lss (.t 24) (.c (.v (.int .i64 1))))))), (.mk (some 26) none (.m (.pu (.pick (.t 22) (.c (.v (.bool true))) (.t 25))))), (.mk (some 27) none (.m (.pu (.mv (.t 26))))), (.mk (some 28) (some (27, false)) (.m (.pu (.fa 2 (.t 1))))), (.mk (some 29) (some (27, false)) (.m (.ld false 1 (.t 28)))), (.mk (some 30) (some (27, false)) (.m (.pu (.bin false .gtr (.t 29) (.c (.v (.int .i64 4))))))), (.mk (some 31) none (.m (.pu (.pick (.t 27) (.c (.v (.bool true))) (.t 30))))), (.mk (some 32) none (.m (.pu (.mv (.t 31))))), (.mk (some 33) (some (32, false)) (.m (.pu (.fa 3 (.t 1))))), (.mk (some 34) (some (32, false)) (.m (.ld false 1 (.t 33)))), (.mk (some 35) (some (32, false)) (.m (.pu (.len false (.t 34))))), (.mk (some 36) (some (32, false)) (.m (.pu (.bin false .lss (.t 35) (.c (.v (.int .i64 1))))))), (.mk (some 37) none (.m (.pu (.pick (.t 32) (.c (.v (.bool true))) (.t 36))))), (.mk (some 38) none (.m (.pu (.mv (.t 37))))), (.mk (some 39) (some (38, false)) (.m (.pu (.fa 3 (.t 1))))), (.mk (some 40) (some (38, false)) (.m (.ld false 1 (.t 39)))), (.mk (some 41) (some (38, false)) (.m (.pu (.len false (.t 40))))), (.mk (some 42) (some (38, false)) (.m (.pu (.bin false .gtr (.t 41) (.c (.v (.int .i64 8))))))), (.mk (some 43) none (.m (.pu (.pick (.t 38) (.c (.v (.bool true))) (.t 42)))))]) (.cd (.t 43) (.sq (.reg [(.mk (some 2) none (.m (.pu (.mv (.c (.v (.int .i64 30)))))))]) .rt) .sk)) (.sq (.sq (.reg [(.mk (some 44) none (.m (.pu (.fa 3 (.t 1))))), (.mk (some 45) none (.m (.ld false 1 (.t 44)))), (.mk (some 46) none (.m (.pu (.len false (.t 45))))), (.mk (some 47) none (.m (.pu (.mv (.c (.v (.int .i64 0)))))))]) (.bk 0 (.lp 0 fg_lifetime_Check_0 tb_lifetime_Check_0))) (.sq (.sq (.dr dr_lifetime_Check_1 [(0, [1]), (1, [1]), (2, [1]), (3, [1]), (4, []), (5, []), (6, []), (7, []), (8, []), (9, [1]), (10, [1]), (11, []), (12, [])] (.of [0, 1, 2, 3, 4, 5, 6, 7, 8, 9, 10, 11, 12])) (.cd (.t 95) (.sq (.reg [(.mk (some 2) none (.m (.pu (.mv (.c (.v (.int .i64 30)))))))]) .rt) .sk)) (.sq (.reg [(.mk (some 2) none (.m (.pu (.mv (.c (.v (.int .i64 0)))))))]) .rt))))))
def rv_lifetime_Check : List (RV × Option Ty) := [((.t 2), some tI)]
abbrev sh_lifetime_Check_0 : Sh := ⟨[(1, .ptr 1 0), (45, .ty (.sl tyLink)), (46, .ty tI), (47, .ty tI)], [(1, .box tyItem)]⟩
def st_lifetime_Check_0 (x45 : (List Link)) (x46 : Int) (x47 : Int) (y1 : Item) : VS := sh_lifetime_Check_0.st ((), x45, x46, x47, ()) (y1, ())
abbrev sh_lifetime_Check_0_ret : Sh := ⟨[(2, .ty tI)], []⟩
def st_lifetime_Check_0_ret (x2 : Int) : VS := sh_lifetime_Check_0_ret.st (x2, ()) ()
abbrev sh_lifetime_Check_0_e0 : Sh := ⟨[(1, .ptr 1 0)], [(1, .box tyItem)]⟩
def st_lifetime_Check_0_e0 (y1 : Item) : VS := sh_lifetime_Check_0_e0.st ((), ()) (y1, ())
-- loop 0: (x45 : (List Link)) (x46 : Int) (x47 : Int) (y1 : Item); out: ('ret',) (x2 : Int); ('exit', 0) (y1 : Item)
def L_lifetime_Check_0 : VS → Option (Bool × List (Bool × Exit × VS)) := mkL sh_lifetime_Check_0 (fun x y => ((x.2.1 == y.1.2.2.2.1) && rngOk x.2.1 x.2.2.1 x.2.2.2.1)) (fun x y => [((!(linksB (pvAt x.2.1 x.2.2.2.1.toNat) (x.2.1.drop x.2.2.2.1.toNat))), .ret, st_lifetime_Check_0_ret (30)), (true, .exit 0, st_lifetime_Check_0_e0 (y.1))])
def g_lifetime_Check : G := ⟨TYs, [], 96, EL [(30, sp_catalog_Valid), (49, sp_catalog_Named)], keeps, (Ls [L_lifetime_Check_0]), IL [], RL []⟩
def b_lifetime_Check_0 (x45 : (List Link)) (x46 : Int) (x47 : Int) (y1 : Item) : Option (Exit × VS) :=
  br ((ilt x47 x46))
    (br (cIx x45 x47)
      (br ((!(validF ((lgt tyLink x45 (Int.toNat x47)).1))))
        (some (.ret, st_lifetime_Check_0_ret 30))
        (br ((ilt (((lgt tyLink x45 (Int.toNat x47)).2).1) 0))
          (some (.ret, st_lifetime_Check_0_ret 30))
          (br ((igt (((lgt tyLink x45 (Int.toNat x47)).2).1) 40000))
            (some (.ret, st_lifetime_Check_0_ret 30))
            (br ((igt x47 0))
              (br (cIx y1.2.2.2.1 (isub .i64 x47 1))
                (br ((ige (((lgt tyLink y1.2.2.2.1 (Int.toNat (isub .i64 x47 1))).2).1) (((lgt tyLink x45 (Int.toNat x47)).2).1)))
                  (some (.ret, st_lifetime_Check_0_ret 30))
                  (some (.normal, st_lifetime_Check_0 x45 x46 (iadd .i64 x47 1) y1)))
                (none))
              (some (.normal, st_lifetime_Check_0 x45 x46 (iadd .i64 x47 1) y1))))))
      (none))
    (some (.exit 0, st_lifetime_Check_0_e0 y1))
noncomputable def lp_lifetime_Check_0 (x45 : (List Link)) (x46 : Int) (x47 : Int) (y1 : Item) : Option (Exit × VS) := loopF (roundF g_lifetime_Check fg_lifetime_Check_0 tb_lifetime_Check_0) (st_lifetime_Check_0 x45 x46 x47 y1)
noncomputable def n_lifetime_Check_0 (x45 : (List Link)) (x46 : Int) (x47 : Int) (y1 : Item) : Option (Exit × VS) :=
  br ((ilt x47 x46))
    (br (cIx x45 x47)
      (br ((!(validF ((lgt tyLink x45 (Int.toNat x47)).1))))
        (some (.ret, st_lifetime_Check_0_ret 30))
        (br ((ilt (((lgt tyLink x45 (Int.toNat x47)).2).1) 0))
          (some (.ret, st_lifetime_Check_0_ret 30))
          (br ((igt (((lgt tyLink x45 (Int.toNat x47)).2).1) 40000))
            (some (.ret, st_lifetime_Check_0_ret 30))
            (br ((igt x47 0))
              (br (cIx y1.2.2.2.1 (isub .i64 x47 1))
                (br ((ige (((lgt tyLink y1.2.2.2.1 (Int.toNat (isub .i64 x47 1))).2).1) (((lgt tyLink x45 (Int.toNat x47)).2).1)))
                  (some (.ret, st_lifetime_Check_0_ret 30))
                  (lp_lifetime_Check_0 x45 x46 (iadd .i64 x47 1) y1))
                (none))
              (lp_lifetime_Check_0 x45 x46 (iadd .i64 x47 1) y1)))))
      (none))
    (some (.exit 0, st_lifetime_Check_0_e0 y1))
def la_lifetime_Check_0 (x45 : (List Link)) (x46 : Int) (x47 : Int) (y1 : Item) : Option (Exit × VS) := br (!(linksB (pvAt x45 x47.toNat) (x45.drop x47.toNat))) (some (.ret, st_lifetime_Check_0_ret (30))) <| some (.exit 0, st_lifetime_Check_0_e0 (y1))
theorem be_lifetime_Check_0 (x45 : (List Link)) (x46 : Int) (x47 : Int) (y1 : Item) : roundF g_lifetime_Check fg_lifetime_Check_0 tb_lifetime_Check_0 (st_lifetime_Check_0 x45 x46 x47 y1) = b_lifetime_Check_0 x45 x46 x47 y1 := by kernel_rfl
theorem ln_lifetime_Check_0 (x45 : (List Link)) (x46 : Int) (x47 : Int) (y1 : Item) : lp_lifetime_Check_0 x45 x46 x47 y1 = n_lifetime_Check_0 x45 x46 x47 y1 := (loopF_nxt _ _).trans (by
  rw [be_lifetime_Check_0]
  simp only [b_lifetime_Check_0, n_lifetime_Check_0, nxt_br, nxt_n, nxt_r, nxt_e, nxt_0]
  rfl)
def r_lifetime_Check_1 (p0 : Item) : Option (V × List VO) :=
  br ((ilt p0.2.2.1 1))
    (some (.t tI 30, []))
    (br ((igt p0.2.2.1 4))
      (some (.t tI 30, []))
      (br ((ilt (llen p0.2.2.2.1) 1))
        (some (.t tI 30, []))
        (br ((igt (llen p0.2.2.2.1) 8))
          (some (.t tI 30, []))
          (br (((p0.2.2.2.1 == p0.2.2.2.1) && rngOk p0.2.2.2.1 (llen p0.2.2.2.1) (0 : Int)))
            (br ((!(linksB (pvAt p0.2.2.2.1 (0 : Int).toNat) (p0.2.2.2.1.drop (0 : Int).toNat))))
              (some (.t tI (30), []))
              (br (cIx (((((p0).2).2).2).1) 0)
                (br ((ilt ((((((p0).2).2).2).2).1) (((lgt tyLink (((((p0).2).2).2).1) (Int.toNat 0)).2).1)))
                  (some (.t tI 30, []))
                  (br ((igt ((((((p0).2).2).2).2).1) 40000))
                    (some (.t tI 30, []))
                    (some (.t tI 0, []))))
                (none)))
            (none)))))
def r_lifetime_Check (p0 : Item) : Option (V × List VO) :=
  br ((ieq p0.2.1 1))
    (br ((nameOk p0.1))
      (br ((!(namedF p0.1)))
        (some (.t tI 30, []))
        (br ((!true))
          (some (.t tI 30, []))
          (r_lifetime_Check_1 p0)))
      (none))
    (br ((nameOk p0.1))
      (br ((!(namedF p0.1)))
        (some (.t tI 30, []))
        (br ((!(ieq p0.2.1 2)))
          (some (.t tI 30, []))
          (r_lifetime_Check_1 p0)))
      (none))
theorem e_lifetime_Check (p0 : Item) : runF g_lifetime_Check tc_lifetime_Check rv_lifetime_Check false [.t tyItem p0] [] = r_lifetime_Check p0 := by kernel_rfl
theorem ok_lifetime_Check : Option.map (trC Try.prog) Try.f33.body = some tc_lifetime_Check.er := by kernel_rfl
theorem rok_lifetime_Check : trVs Try.prog Try.f33.results.toList = some (rv_lifetime_Check.map Prod.fst) := by kernel_rfl
theorem en_lifetime_Check : Entered Try.prog 33 := .inr ⟨by decide, _, Try.func33, by kernel_rfl, by kernel_rfl⟩
theorem gk_lifetime_Check : GOk Try.prog g_lifetime_Check := gok_of _ (by
  intro p hp
  simp only [List.mem_cons, List.not_mem_nil, or_false] at hp
  rcases hp with rfl | rfl
  · exact ⟨en_catalog_Valid, ms_catalog_Valid⟩
  · exact ⟨en_catalog_Named, ms_catalog_Named⟩)
theorem l_lifetime_Check_0 (x45 : (List Link)) (x46 : Int) (x47 : Int) (y1 : Item) (h : ((x45 == y1.2.2.2.1) && rngOk x45 x46 x47) = true) : lp_lifetime_Check_0 x45 x46 x47 y1 = la_lifetime_Check_0 x45 x46 x47 y1 := by
  simp only [Bool.and_eq_true, beq_iff_eq] at h
  obtain ⟨hx, h0⟩ := h
  obtain ⟨rfl, h3, k, rfl, hk⟩ := rng_k h0
  clear h0
  refine range_ind x45 (fun k => lp_lifetime_Check_0 x45 (x45.length : Int) (k : Int) y1 = la_lifetime_Check_0 x45 (x45.length : Int) (k : Int) y1) ?_ ?_ k hk
  · rw [ln_lifetime_Check_0]
    simp [n_lifetime_Check_0, la_lifetime_Check_0, ilt_nat, br_false, linksB]
  · intro k hk ih
    rw [ln_lifetime_Check_0]
    have el : la_lifetime_Check_0 x45 (x45.length : Int) (k : Int) y1 = br (!(validF x45[k].1 && decide (0 ≤ x45[k].2.1 ∧ x45[k].2.1 ≤ 40000) && (match pvAt x45 k with | none => true | some d => decide (d < x45[k].2.1)))) (some (.ret, st_lifetime_Check_0_ret 30)) (la_lifetime_Check_0 x45 (x45.length : Int) ((k + 1 : Nat) : Int) y1) := by
      have e1 : pvAt x45 (k + 1) = some x45[k].2.1 := by
        unfold pvAt
        rw [if_neg (by omega), Nat.add_sub_cancel, List.getElem?_eq_getElem hk]
        rfl
      simp only [la_lifetime_Check_0, Int.toNat_natCast, e1]
      rw [List.drop_eq_getElem_cons hk, linksB_cons]
      generalize (validF x45[k].1 && decide (0 ≤ x45[k].2.1 ∧ x45[k].2.1 ≤ 40000) && (match pvAt x45 k with | none => true | some d => decide (d < x45[k].2.1))) = c
      cases c <;> rfl
    rw [el]
    simp only [n_lifetime_Check_0, ilt_nat, cIx_nat, hk, decide_true, br_true, Int.toNat_natCast, add1 (show k < 4611686018427387904 by omega), lgt_get (y := tyLink) hk, ih, ← hx]
    cases validF x45[k].1 with
    | false => rfl
    | true =>
      simp only [Bool.not_true, br_false, Bool.true_and]
      by_cases c1 : x45[k].2.1 < 0
      · rw [show ilt x45[k].2.1 0 = true from decide_eq_true c1, br_true, decide_eq_false (show ¬ (0 ≤ x45[k].2.1 ∧ x45[k].2.1 ≤ 40000) by omega)]
        rfl
      · rw [show ilt x45[k].2.1 0 = false from decide_eq_false c1, br_false]
        by_cases c2 : 40000 < x45[k].2.1
        · rw [show igt x45[k].2.1 40000 = true from decide_eq_true (by omega), br_true, decide_eq_false (show ¬ (0 ≤ x45[k].2.1 ∧ x45[k].2.1 ≤ 40000) by omega)]
          rfl
        · rw [show igt x45[k].2.1 40000 = false from decide_eq_false (by omega), br_false, decide_eq_true (show 0 ≤ x45[k].2.1 ∧ x45[k].2.1 ≤ 40000 by omega)]
          simp only [Bool.true_and]
          by_cases hk0 : k = 0
          · subst hk0
            rfl
          · have hk1 : k - 1 < x45.length := by omega
            have e1 : isub .i64 (k : Int) 1 = ((k - 1 : Nat) : Int) := by rw [isub_in (by omega)]; omega
            have e2 : igt (k : Int) 0 = true := by simp only [igt, decide_eq_true_eq]; omega
            have e3 : pvAt x45 k = some x45[k - 1].2.1 := by
              unfold pvAt
              rw [if_neg hk0, List.getElem?_eq_getElem hk1]
              rfl
            rw [e1, e2, e3, br_true]
            simp only [cIx_nat, hk1, decide_true, br_true, Int.toNat_natCast, lgt_get (y := tyLink) hk1]
            by_cases c3 : x45[k - 1].2.1 < x45[k].2.1
            · rw [show ige x45[k - 1].2.1 x45[k].2.1 = false from decide_eq_false (by omega), br_false, decide_eq_true c3]
              rfl
            · rw [show ige x45[k - 1].2.1 x45[k].2.1 = true from decide_eq_true (by omega), br_true, decide_eq_false c3]
              rfl
theorem lo_lifetime_Check_0 : ∀ S l p, g_lifetime_Check.L 0 (fgt fg_lifetime_Check_0 S) = some (true, l) → pickA l = some p → loopF (roundF g_lifetime_Check fg_lifetime_Check_0 tb_lifetime_Check_0) S = some p :=
  lok_of (s := sh_lifetime_Check_0) ⟨by decide, by decide⟩ (by kernel_rfl) fun x y hok p hp => by
  simp only [pickA_br, pickA_one] at hp
  exact (l_lifetime_Check_0 x.2.1 x.2.2.1 x.2.2.2.1 y.1 (by simpa using hok)).trans hp
theorem lk_lifetime_Check : tc_lifetime_Check.lok g_lifetime_Check := by
  repeat (first | exact trivial | exact lo_lifetime_Check_0 | refine ⟨?_, ?_⟩)
theorem itemOk_iff {i : Item} : itemOk i = true ↔ namedF i.1 = true ∧ (1 ≤ i.2.1 ∧ i.2.1 ≤ 2) ∧ (1 ≤ i.2.2.1 ∧ i.2.2.1 ≤ 4) ∧ (1 ≤ i.2.2.2.1.length ∧ i.2.2.2.1.length ≤ 8) ∧ linksB none i.2.2.2.1 = true ∧ (i.2.2.2.1.headD ((0, (0, ())), (0, ()))).2.1 ≤ i.2.2.2.2.1 ∧ i.2.2.2.2.1 ≤ 40000 := by
  unfold itemOk
  simp only [Bool.and_eq_true, decide_eq_true_eq, and_assoc]
theorem s_lifetime_Check (i : Item) (h : itemLen i = true) : r_lifetime_Check i = some (.t tI (checkI i), []) := by
  have h : nameOk i.1 = true := h
  have bad : (itemOk i = true → False) → some (V.t tI 30, ([] : List VO)) = some (V.t tI (checkI i), []) := fun hq => by
    cases hi : itemOk i with
    | false => simp [checkI, hi]
    | true => exact (hq hi).elim
  have tail : namedF i.1 = true → (1 ≤ i.2.1 ∧ i.2.1 ≤ 2) → r_lifetime_Check_1 i = some (.t tI (checkI i), []) := fun k1 k2 => by
    simp only [r_lifetime_Check_1]
    refine br_intro (fun g => bad fun hq => ?_) (fun g1 => br_intro (fun g => bad fun hq => ?_) (fun g2 => br_intro (fun g => bad fun hq => ?_) (fun g3 => br_intro (fun g => bad fun hq => ?_) (fun g4 => ?_))))
    · have := itemOk_iff.1 hq; simp only [ilt, decide_eq_true_eq] at g; omega
    · have := itemOk_iff.1 hq; simp only [igt, decide_eq_true_eq] at g; omega
    · have := itemOk_iff.1 hq; simp only [ilt, llen, decide_eq_true_eq] at g; omega
    · have := itemOk_iff.1 hq; simp only [igt, llen, decide_eq_true_eq] at g; omega
    · simp only [ilt, igt, llen, decide_eq_false_iff_not] at g1 g2 g3 g4
      rw [beq_self_eq_true, Bool.true_and, rng_0 (by omega), br_true]
      have e0 : pvAt i.2.2.2.1 (0 : Int).toNat = none := rfl
      rw [e0, Int.toNat_zero, List.drop_zero]
      refine br_intro (fun g => bad fun hq => ?_) (fun g5 => ?_)
      · have := itemOk_iff.1 hq
        rw [this.2.2.2.2.1] at g
        cases g
      · have hl : 0 < i.2.2.2.1.length := by omega
        have e1 : cIx i.2.2.2.1 0 = true := by simp only [cIx, decide_eq_true_eq]; omega
        have e2 : lgt tyLink i.2.2.2.1 0 = i.2.2.2.1.headD ((0, (0, ())), (0, ())) := by
          cases hq : i.2.2.2.1 with
          | nil => rw [hq] at hl; simp at hl
          | cons a l => rfl
        rw [e1, br_true, e2]
        refine br_intro (fun g => bad fun hq => ?_) (fun g6 => br_intro (fun g => bad fun hq => ?_) (fun g7 => ?_))
        · have := itemOk_iff.1 hq; simp only [ilt, decide_eq_true_eq] at g; omega
        · have := itemOk_iff.1 hq; simp only [igt, decide_eq_true_eq] at g; omega
        · simp only [ilt, igt, decide_eq_false_iff_not] at g6 g7
          have : itemOk i = true := itemOk_iff.2 ⟨k1, k2, by omega, by omega, by simpa using g5, by omega, by omega⟩
          simp [checkI, this]
  simp only [r_lifetime_Check, r_lifetime_Check_1] at tail ⊢
  rw [h]
  simp only [br_true]
  refine br_intro (fun g1 => br_intro (fun g => bad fun hq => ?_) (fun g2 => ?_)) (fun g1 => br_intro (fun g => bad fun hq => ?_) (fun g2 => br_intro (fun g => bad fun hq => ?_) (fun g3 => ?_)))
  · rw [(itemOk_iff.1 hq).1] at g; cases g
  · simp only [ieq_dec, decide_eq_true_eq] at g1
    exact tail (by simpa using g2) (by omega)
  · rw [(itemOk_iff.1 hq).1] at g; cases g
  · have := itemOk_iff.1 hq
    simp only [ieq_dec, decide_eq_false_iff_not, Bool.not_eq_true', decide_eq_true_eq] at g1 g
    omega
  · simp only [ieq_dec, decide_eq_false_iff_not, Bool.not_eq_false', decide_eq_true_eq] at g1 g3
    exact tail (by simpa using g2) (by omega)
def sp_lifetime_Check : Ent := spec (.pr tyItem .nil) (fun x => (itemLen x.1)) (fun x => (.t tI (checkI x.1)))
theorem ms_lifetime_Check : Meets Try.prog 33 (strip sp_lifetime_Check) := by
  obtain ⟨c, hc, hi⟩ := Option.map_eq_some_iff.1 ok_lifetime_Check
  exact meets_spec (R := runF g_lifetime_Check tc_lifetime_Check rv_lifetime_Check false) (meets_of (by decide) Try.func33 hc hi Try.ntmps33 rok_lifetime_Check gk_lifetime_Check lk_lifetime_Check mixed) fun x hok => (e_lifetime_Check x.1).trans (s_lifetime_Check x.1 hok)

/-! what an item is -/
def lkF (y : Policy) (p : Int) (x : Link) : LinkX := (x.2.1, ((fallL (spansF y x.1 p)).1, ((fallL (spansF y x.1 p)).2, ())))
def lksF (y : Policy) (i : Item) : List LinkX := i.2.2.2.1.map (lkF y i.2.2.1)
def fineB (y : Policy) (i : Item) : Bool := polOk y && itemOk i
def ofA (y : Policy) (i : Item) : List LinkX × Int := (lksF y i, 0)
def ofE (y : Policy) (_i : Item) : Int := if polOk y then 30 else 25
def ofOkA (y : Policy) (i : Item) : Bool := fineB y i && ieq i.2.1 1
def ofOkB (y : Policy) (i : Item) : Bool := fineB y i && ieq i.2.1 2
def ofOkE (y : Policy) (i : Item) : Bool := polLen y && nameOk i.1 && !fineB y i
theorem linksB_all : ∀ {l : List Link} {pv : Option Int}, linksB pv l = true → ∀ x, x ∈ l → validF x.1 = true ∧ 0 ≤ x.2.1 ∧ x.2.1 ≤ 40000
  | [], _, _, _, hx => by cases hx
  | a :: l, pv, h, x, hx => by
    rw [linksB_cons, Bool.and_eq_true, Bool.and_eq_true, Bool.and_eq_true, decide_eq_true_eq] at h
    rcases List.mem_cons.1 hx with rfl | hx
    · exact ⟨h.1.1.1, h.1.1.2⟩
    · exact linksB_all h.2 x hx
theorem falls_fine {y : Policy} {u : Keep} {p : Int} (hp : polOk y = true) (hv : validF u = true) (h1 : 1 ≤ p) (h2 : p ≤ 4) : FallsF y u p = ((fallL (spansF y u p)).1, (fallL (spansF y u p)).2, 0) := by
  have ee : earlyF y u p 0 = 0 := by
    unfold earlyF
    rw [hp, hv]
    simp only [Bool.true_eq_false, if_false]
    rw [if_neg (by omega)]
  unfold FallsF
  rw [if_pos ee]
def fg_lifetime_of_0 : Fg := ⟨[(2, none), (3, none), (8, none), (25, some (.sl tyLink)), (26, some tI), (27, some tI)], [(2, some tyPolicy), (3, some tyItem), (8, none), (51, none)]⟩
def tb_lifetime_of_0 : TC := (.sq (.reg [(.mk (some 28) none (.m (.pu (.bin false .lss (.t 27) (.t 26)))))]) (.sq (.cd (.t 28) .sk (.fg ⟨[(3, none), (8, none)], [(3, some tyItem), (8, none), (51, none)]⟩ (.ex 0))) (.sq (.bk 1 (.sq (.reg [(.mk (some 29) none (.m (.pu (.ix 3 (.t 25) (.t 27))))), (.mk (some 30) none (.m (.ld true 3 (.t 29)))), (.mk (some 10) none (.m (.new [(.v (.int .i64 0)), (.v (.int .i64 0)), (.v (.int .i64 0))]))), (.mk none none (.m (.st 3 (.t 10) (.t 30))))]) (.sq (.reg [(.mk (some 32) none (.m (.ld true 2 (.t 2)))), (.mk (some 33) none (.m (.pu (.fa 0 (.t 10))))), (.mk (some 34) none (.m (.ld true 2 (.t 33)))), (.mk (some 35) none (.m (.pu (.fa 2 (.t 3))))), (.mk (some 36) none (.m (.ld false 1 (.t 35)))), (.mk (some 37) none (.call 34 [(.t 32), (.t 34), (.t 36)])), (.mk (some 31) none (.m (.pu (.mv (.t 37))))), (.mk (some 38) none (.m (.pu (.ext 0 (.t 31))))), (.mk (some 39) none (.m (.pu (.ext 1 (.t 31))))), (.mk (some 40) none (.m (.pu (.ext 2 (.t 31))))), (.mk (some 11) none (.m (.pu (.mv (.t 38))))), (.mk (some 12) none (.m (.pu (.mv (.t 39))))), (.mk (some 13) none (.m (.pu (.mv (.t 40)))))]) (.sq (.sq (.reg [(.mk (some 41) none (.m (.pu (.mv (.t 13))))), (.mk (some 42) none (.m (.pu (.bin false .neq (.t 41) (.c (.v (.int .i64 0)))))))]) (.cd (.t 42) (.sq (.reg [(.mk (some 43) none (.m (.pu (.mv (.t 13))))), (.mk (some 4) none (.m (.pu (.mv (.c (.v .nilIface)))))), (.mk (some 5) none (.m (.pu (.mv (.t 43)))))]) (.fg ⟨[(4, none), (5, some tI)], []⟩ .rt)) .sk)) (.reg [(.mk (some 44) none (.m (.pu (.mv (.t 8))))), (.mk (some 45) none (.m (.pu (.fa 2 (.t 10))))), (.mk (some 46) none (.m (.ld false 1 (.t 45)))), (.mk (some 47) none (.m (.pu (.mv (.t 11))))), (.mk (some 48) none (.m (.pu (.mv (.t 12))))), (.mk (some 49) none (.m (.pu (.bd [(.v (.int .i64 0)), (.v (.int .i64 0)), (.v (.bool false))] [(0, 1, (.t 46)), (1, 1, (.t 47)), (2, 1, (.t 48))])))), (.mk (some 50) none (.m (.bs 84 3 1 [(.v (.int .i64 0)), (.v (.int .i64 0)), (.v (.bool false))] [(0, 3, (.t 49))]))), (.mk (some 51) none (.m (.app 84 3 24 (.t 44) (.t 50)))), (.mk (some 8) none (.m (.pu (.mv (.t 51)))))]))))) (.reg [(.mk (some 52) none (.m (.pu (.bin false .add (.t 27) (.c (.v (.int .i64 1))))))), (.mk (some 27) none (.m (.pu (.mv (.t 52)))))]))))
/-- cipherplan/lifetime.of -/
def tc_lifetime_of : TC := (.sq (.reg [(.mk (some 2) none (.m (.box (.t 0)))), (.mk (some 3) none (.m (.box (.t 1)))), (.mk (some 4) none (.m (.pu (.mv (.c (.v .nilIface)))))), (.mk (some 5) none (.m (.pu (.mv (.c (.v (.int .i64 0)))))))]) (.sq (.sq (.reg [(.mk (some 14) none (.m (.ld true 2 (.t 2)))), (.mk (some 15) none (.call 32 [(.t 14)])), (.mk (some 6) none (.m (.pu (.mv (.t 15)))))]) (.sq (.reg [(.mk (some 16) none (.m (.pu (.mv (.t 6))))), (.mk (some 17) none (.m (.pu (.bin false .neq (.t 16) (.c (.v (.int .i64 0)))))))]) (.cd (.t 17) (.sq (.reg [(.mk (some 18) none (.m (.pu (.mv (.t 6))))), (.mk (some 4) none (.m (.pu (.mv (.c (.v .nilIface)))))), (.mk (some 5) none (.m (.pu (.mv (.t 18)))))]) .rt) .sk))) (.sq (.sq (.reg [(.mk (some 19) none (.m (.ld true 5 (.t 3)))), (.mk (some 20) none (.call 33 [(.t 19)])), (.mk (some 7) none (.m (.pu (.mv (.t 20)))))]) (.sq (.reg [(.mk (some 21) none (.m (.pu (.mv (.t 7))))), (.mk (some 22) none (.m (.pu (.bin false .neq (.t 21) (.c (.v (.int .i64 0)))))))]) (.cd (.t 22) (.sq (.reg [(.mk (some 23) none (.m (.pu (.mv (.t 7))))), (.mk (some 4) none (.m (.pu (.mv (.c (.v .nilIface)))))), (.mk (some 5) none (.m (.pu (.mv (.t 23)))))]) .rt) .sk))) (.sq (.reg [(.mk (some 8) none (.m (.pu (.mv (.c (.v (.slice none 0 0)))))))]) (.sq (.sq (.reg [(.mk (some 24) none (.m (.pu (.fa 3 (.t 3))))), (.mk (some 25) none (.m (.ld false 1 (.t 24)))), (.mk (some 26) none (.m (.pu (.len false (.t 25))))), (.mk (some 27) none (.m (.pu (.mv (.c (.v (.int .i64 0)))))))]) (.bk 0 (.nw 8 84 (.lp 0 fg_lifetime_of_0 tb_lifetime_of_0)))) (.sq (.sq (.reg [(.mk (some 53) none (.m (.pu (.fa 1 (.t 3))))), (.mk (some 54) none (.m (.ld false 1 (.t 53)))), (.mk (some 55) none (.m (.pu (.bin false .eql (.t 54) (.c (.v (.int .i64 1)))))))]) (.cd (.t 55) (.sq (.reg [(.mk (some 56) none (.m (.pu (.mv (.t 8))))), (.mk (some 57) none (.call 1001363 [(.t 56)])), (.mk (some 4) none (.m (.pu (.mv (.t 57))))), (.mk (some 5) none (.m (.pu (.mv (.c (.v (.int .i64 0)))))))]) .rt) .sk)) (.sq (.reg [(.mk (some 58) none (.m (.pu (.mv (.t 8))))), (.mk (some 59) none (.call 1001379 [(.t 58)])), (.mk (some 4) none (.m (.pu (.mv (.t 59))))), (.mk (some 5) none (.m (.pu (.mv (.c (.v (.int .i64 0)))))))]) .rt)))))))
def rv_lifetime_of : List (RV × Option Ty) := [((.t 4), none), ((.t 5), some tI)]
abbrev sh_lifetime_of_0 : Sh := ⟨[(2, .ptr 2 0), (3, .ptr 3 0), (8, .ms 8), (25, .ty (.sl tyLink)), (26, .ty tI), (27, .ty tI)], [(2, .box tyPolicy), (3, .box tyItem), (8, .arr 84 tyLinkX), (51, .no)]⟩
def st_lifetime_of_0 (x25 : (List Link)) (x26 : Int) (x27 : Int) (y2 : Policy) (y3 : Item) (y8 : (List LinkX)) : VS := sh_lifetime_of_0.st ((), (), (), x25, x26, x27, ()) (y2, y3, y8, (), ())
abbrev sh_lifetime_of_0_ret : Sh := ⟨[(4, .ni), (5, .ty tI)], []⟩
def st_lifetime_of_0_ret (x5 : Int) : VS := sh_lifetime_of_0_ret.st ((), x5, ()) ()
abbrev sh_lifetime_of_0_e0 : Sh := ⟨[(3, .ptr 3 0), (8, .ms 8)], [(3, .box tyItem), (8, .arr 84 tyLinkX), (51, .no)]⟩
def st_lifetime_of_0_e0 (y3 : Item) (y8 : (List LinkX)) : VS := sh_lifetime_of_0_e0.st ((), (), ()) (y3, y8, (), ())
-- loop 0: (x25 : (List Link)) (x26 : Int) (x27 : Int) (y2 : Policy) (y3 : Item) (y8 : (List LinkX)); out: ('ret',) (x5 : Int); ('exit', 0) (y3 : Item) (y8 : (List LinkX))
def L_lifetime_of_0 : VS → Option (Bool × List (Bool × Exit × VS)) := mkL sh_lifetime_of_0 (fun x y => (fineB y.1 y.2.1 && (x.2.2.2.1 == y.2.1.2.2.2.1) && rngOk x.2.2.2.1 x.2.2.2.2.1 x.2.2.2.2.2.1 && decide ((y.2.2.1.length : Int) ≤ x.2.2.2.2.2.1))) (fun x y => [((false), .ret, st_lifetime_of_0_ret (0)), (true, .exit 0, st_lifetime_of_0_e0 (y.2.1) (y.2.2.1 ++ (x.2.2.2.1.drop x.2.2.2.2.2.1.toNat).map (lkF y.1 y.2.1.2.2.1)))])
def g_lifetime_of : G := ⟨TYs, [], 60, EL [(32, sp_rule_Check), (33, sp_lifetime_Check), (34, sp_verdict_Falls), (1001363, sp_op_iface_85), (1001379, sp_op_iface_86)], keeps, (Ls [L_lifetime_of_0]), IL [], RL []⟩
def b_lifetime_of_0 (x25 : (List Link)) (x26 : Int) (x27 : Int) (y2 : Policy) (y3 : Item) (y8 : (List LinkX)) : Option (Exit × VS) :=
  br ((ilt x27 x26))
    (br (cIx x25 x27)
      (br ((polLen3 y2 ((lgt tyLink x25 (Int.toNat x27)).1) y3.2.2.1))
        (br ((ine (((FallsF y2 ((lgt tyLink x25 (Int.toNat x27)).1) y3.2.2.1).2).2) 0))
          (some (.ret, st_lifetime_of_0_ret (((FallsF y2 ((lgt tyLink x25 (Int.toNat x27)).1) y3.2.2.1).2).2)))
          (br (cApp y8 ([(((lgt tyLink x25 (Int.toNat x27)).2).1, ((FallsF y2 ((lgt tyLink x25 (Int.toNat x27)).1) y3.2.2.1).1, (((FallsF y2 ((lgt tyLink x25 (Int.toNat x27)).1) y3.2.2.1).2).1, ())))]) 24)
            (some (.normal, st_lifetime_of_0 x25 x26 (iadd .i64 x27 1) y2 y3 (y8 ++ ([(((lgt tyLink x25 (Int.toNat x27)).2).1, ((FallsF y2 ((lgt tyLink x25 (Int.toNat x27)).1) y3.2.2.1).1, (((FallsF y2 ((lgt tyLink x25 (Int.toNat x27)).1) y3.2.2.1).2).1, ())))]))))
            (none)))
        (none))
      (none))
    (some (.exit 0, st_lifetime_of_0_e0 y3 y8))
noncomputable def lp_lifetime_of_0 (x25 : (List Link)) (x26 : Int) (x27 : Int) (y2 : Policy) (y3 : Item) (y8 : (List LinkX)) : Option (Exit × VS) := loopF (roundF g_lifetime_of fg_lifetime_of_0 tb_lifetime_of_0) (st_lifetime_of_0 x25 x26 x27 y2 y3 y8)
noncomputable def n_lifetime_of_0 (x25 : (List Link)) (x26 : Int) (x27 : Int) (y2 : Policy) (y3 : Item) (y8 : (List LinkX)) : Option (Exit × VS) :=
  br ((ilt x27 x26))
    (br (cIx x25 x27)
      (br ((polLen3 y2 ((lgt tyLink x25 (Int.toNat x27)).1) y3.2.2.1))
        (br ((ine (((FallsF y2 ((lgt tyLink x25 (Int.toNat x27)).1) y3.2.2.1).2).2) 0))
          (some (.ret, st_lifetime_of_0_ret (((FallsF y2 ((lgt tyLink x25 (Int.toNat x27)).1) y3.2.2.1).2).2)))
          (br (cApp y8 ([(((lgt tyLink x25 (Int.toNat x27)).2).1, ((FallsF y2 ((lgt tyLink x25 (Int.toNat x27)).1) y3.2.2.1).1, (((FallsF y2 ((lgt tyLink x25 (Int.toNat x27)).1) y3.2.2.1).2).1, ())))]) 24)
            (lp_lifetime_of_0 x25 x26 (iadd .i64 x27 1) y2 y3 (y8 ++ ([(((lgt tyLink x25 (Int.toNat x27)).2).1, ((FallsF y2 ((lgt tyLink x25 (Int.toNat x27)).1) y3.2.2.1).1, (((FallsF y2 ((lgt tyLink x25 (Int.toNat x27)).1) y3.2.2.1).2).1, ())))])))
            (none)))
        (none))
      (none))
    (some (.exit 0, st_lifetime_of_0_e0 y3 y8))
def la_lifetime_of_0 (x25 : (List Link)) (x26 : Int) (x27 : Int) (y2 : Policy) (y3 : Item) (y8 : (List LinkX)) : Option (Exit × VS) := br (false) (some (.ret, st_lifetime_of_0_ret (0))) <| some (.exit 0, st_lifetime_of_0_e0 (y3) (y8 ++ (x25.drop x27.toNat).map (lkF y2 y3.2.2.1)))
theorem be_lifetime_of_0 (x25 : (List Link)) (x26 : Int) (x27 : Int) (y2 : Policy) (y3 : Item) (y8 : (List LinkX)) : roundF g_lifetime_of fg_lifetime_of_0 tb_lifetime_of_0 (st_lifetime_of_0 x25 x26 x27 y2 y3 y8) = b_lifetime_of_0 x25 x26 x27 y2 y3 y8 := by kernel_rfl
theorem ln_lifetime_of_0 (x25 : (List Link)) (x26 : Int) (x27 : Int) (y2 : Policy) (y3 : Item) (y8 : (List LinkX)) : lp_lifetime_of_0 x25 x26 x27 y2 y3 y8 = n_lifetime_of_0 x25 x26 x27 y2 y3 y8 := (loopF_nxt _ _).trans (by
  rw [be_lifetime_of_0]
  simp only [b_lifetime_of_0, n_lifetime_of_0, nxt_br, nxt_n, nxt_r, nxt_e, nxt_0]
  rfl)
def r_lifetime_of (p0 : Policy) (p1 : Item) : Option (V × List VO) :=
  br ((polLen p0))
    (br ((ine (checkF p0) 0))
      (some (.tu [(.c .nilIface), (.t tI (checkF p0))], []))
      (br ((itemLen p1))
        (br ((ine (checkI p1) 0))
          (some (.tu [(.c .nilIface), (.t tI (checkI p1))], []))
          (br ((fineB p0 p1 && (p1.2.2.2.1 == p1.2.2.2.1) && rngOk p1.2.2.2.1 (llen p1.2.2.2.1) (0 : Int) && decide ((([] : List LinkX).length : Int) ≤ (0 : Int))))
            (br ((false))
              (some (.tu [(.c .nilIface), (.t tI (0))], []))
              (br ((ieq (((p1).2).1) 1))
                (some (.tu [(.ifc 85 (.t (.sl tyLinkX) (([] : List LinkX) ++ (p1.2.2.2.1.drop (0 : Int).toNat).map (lkF p0 p1.2.2.1)))), (.t tI 0)], []))
                (some (.tu [(.ifc 86 (.t (.sl tyLinkX) (([] : List LinkX) ++ (p1.2.2.2.1.drop (0 : Int).toNat).map (lkF p0 p1.2.2.1)))), (.t tI 0)], []))))
            (none)))
        (none)))
    (none)
theorem e_lifetime_of (p0 : Policy) (p1 : Item) : runF g_lifetime_of tc_lifetime_of rv_lifetime_of false [.t tyPolicy p0, .t tyItem p1] [] = r_lifetime_of p0 p1 := by kernel_rfl
theorem ok_lifetime_of : Option.map (trC Try.prog) Try.f24.body = some tc_lifetime_of.er := by kernel_rfl
theorem rok_lifetime_of : trVs Try.prog Try.f24.results.toList = some (rv_lifetime_of.map Prod.fst) := by kernel_rfl
theorem en_lifetime_of : Entered Try.prog 24 := .inr ⟨by decide, _, Try.func24, by kernel_rfl, by kernel_rfl⟩
theorem gk_lifetime_of : GOk Try.prog g_lifetime_of := gok_of _ (by
  intro p hp
  simp only [List.mem_cons, List.not_mem_nil, or_false] at hp
  rcases hp with rfl | rfl | rfl | rfl | rfl
  · exact ⟨en_rule_Check, ms_rule_Check⟩
  · exact ⟨en_lifetime_Check, ms_lifetime_Check⟩
  · exact ⟨en_verdict_Falls, ms_verdict_Falls⟩
  · exact ⟨en_op_iface_85, ms_op_iface_85⟩
  · exact ⟨en_op_iface_86, ms_op_iface_86⟩)
theorem l_lifetime_of_0 (x25 : (List Link)) (x26 : Int) (x27 : Int) (y2 : Policy) (y3 : Item) (y8 : (List LinkX)) (h : (fineB y2 y3 && (x25 == y3.2.2.2.1) && rngOk x25 x26 x27 && decide ((y8.length : Int) ≤ x27)) = true) : lp_lifetime_of_0 x25 x26 x27 y2 y3 y8 = la_lifetime_of_0 x25 x26 x27 y2 y3 y8 := by
  simp only [Bool.and_eq_true, beq_iff_eq, decide_eq_true_eq] at h
  obtain ⟨⟨⟨hf, hx⟩, h0⟩, h4⟩ := h
  obtain ⟨rfl, h3, k, rfl, hk⟩ := rng_k h0
  clear h0
  simp only [fineB, Bool.and_eq_true] at hf
  have hi := itemOk_iff.1 hf.2
  have hpl : ∀ u q, polLen3 y2 u q = true := fun u q => (pol_len hf.1).1
  revert y8
  refine range_ind x25 (fun k => ∀ y8 : List LinkX, (y8.length : Int) ≤ (k : Int) → lp_lifetime_of_0 x25 (x25.length : Int) (k : Int) y2 y3 y8 = la_lifetime_of_0 x25 (x25.length : Int) (k : Int) y2 y3 y8) ?_ ?_ k hk
  · intro y8 _
    rw [ln_lifetime_of_0]
    simp [n_lifetime_of_0, la_lifetime_of_0, ilt_nat, br_false]
  · intro k hk ih y8 hy
    rw [ln_lifetime_of_0]
    have hv := linksB_all hi.2.2.2.2.1 x25[k] (by rw [← hx]; exact List.getElem_mem hk)
    have ef := falls_fine (u := x25[k].1) (p := y3.2.2.1) hf.1 hv.1 hi.2.2.1.1 hi.2.2.1.2
    simp only [n_lifetime_of_0, ilt_nat, cIx_nat, hk, decide_true, br_true, Int.toNat_natCast, add1 (show k < 4611686018427387904 by omega), lgt_get (y := tyLink) hk, hpl, ef, show ine 0 0 = false from rfl, br_false]
    rw [cApp_ok (by simp; omega) (by omega), br_true, ih _ (by simp; omega)]
    simp only [la_lifetime_of_0, Int.toNat_natCast, List.drop_eq_getElem_cons hk, List.map_cons, List.append_assoc, br_false]
    rfl
theorem lo_lifetime_of_0 : ∀ S l p, g_lifetime_of.L 0 (fgt fg_lifetime_of_0 S) = some (true, l) → pickA l = some p → loopF (roundF g_lifetime_of fg_lifetime_of_0 tb_lifetime_of_0) S = some p :=
  lok_of (s := sh_lifetime_of_0) ⟨by decide, by decide⟩ (by kernel_rfl) fun x y hok p hp => by
  simp only [pickA_br, pickA_one] at hp
  exact (l_lifetime_of_0 x.2.2.2.1 x.2.2.2.2.1 x.2.2.2.2.2.1 y.1 y.2.1 y.2.2.1 (by simpa using hok)).trans hp
theorem lk_lifetime_of : tc_lifetime_of.lok g_lifetime_of := by
  repeat (first | exact trivial | exact lo_lifetime_of_0 | refine ⟨?_, ?_⟩)
theorem mr_lifetime_of : Meets Try.prog 24 (runF g_lifetime_of tc_lifetime_of rv_lifetime_of false) := by
  obtain ⟨c, hc, hi⟩ := Option.map_eq_some_iff.1 ok_lifetime_of
  exact meets_of (by decide) Try.func24 hc hi Try.ntmps24 rok_lifetime_of gk_lifetime_of lk_lifetime_of mixed
theorem of_fine {y : Policy} {i : Item} (h : fineB y i = true) : r_lifetime_of y i = br (ieq i.2.1 1) (some (.tu [.ifc 85 (.t (.sl tyLinkX) (lksF y i)), .t tI 0], [])) (some (.tu [.ifc 86 (.t (.sl tyLinkX) (lksF y i)), .t tI 0], [])) := by
  have hf := h
  simp only [fineB, Bool.and_eq_true] at hf
  have hi := itemOk_iff.1 hf.2
  have hn : itemLen i = true := by
    have := hi.1
    simp only [namedF, Bool.and_eq_true, decide_eq_true_eq] at this
    exact decide_eq_true (by omega)
  simp only [r_lifetime_of, (pol_len hf.1).1, hn, checkF, hf.1, checkI, hf.2, if_true, show ine 0 0 = false from rfl, br_true, br_false, h, beq_self_eq_true, Bool.true_and, rng_0 (show i.2.2.2.1.length ≤ 100000 by omega)]
  rw [dec_true (by simp), br_true]
  rfl
theorem s_lifetime_of_A (y : Policy) (i : Item) (h : ofOkA y i = true) : r_lifetime_of y i = some (.tu [.ifc 85 (.t (.sl tyLinkX) (ofA y i).1), .t tI (ofA y i).2], []) := by
  simp only [ofOkA, Bool.and_eq_true] at h
  rw [of_fine h.1, h.2]
  rfl
theorem s_lifetime_of_B (y : Policy) (i : Item) (h : ofOkB y i = true) : r_lifetime_of y i = some (.tu [.ifc 86 (.t (.sl tyLinkX) (ofA y i).1), .t tI (ofA y i).2], []) := by
  simp only [ofOkB, Bool.and_eq_true] at h
  have h2 := h.2
  simp only [ieq_dec, decide_eq_true_eq] at h2
  rw [of_fine h.1, h2]
  rfl
theorem s_lifetime_of_E (y : Policy) (i : Item) (h : ofOkE y i = true) : r_lifetime_of y i = some (.tu [.c .nilIface, .t tI (ofE y i)], []) := by
  simp only [ofOkE, Bool.and_eq_true, Bool.not_eq_true', fineB, Bool.and_eq_false_iff] at h
  have hn : itemLen i = true := h.1.2
  simp only [r_lifetime_of, h.1.1, hn, checkF, checkI, ofE, br_true]
  cases hp : polOk y with
  | false => rfl
  | true =>
    have hq : itemOk i = false := h.2.resolve_left (by rw [hp]; simp)
    simp only [hq, if_true, show ine 0 0 = false from rfl, br_false]
    rfl
def sp_lifetime_of_A : Ent := spec (.pr tyPolicy (.pr tyItem .nil)) (fun x => (ofOkA x.1 x.2.1)) (fun x => (.tu [(.ifc 85 (.t (.sl tyLinkX) ((ofA x.1 x.2.1).1))), (.t tI ((ofA x.1 x.2.1).2))]))
theorem en_lifetime_of_A : Entered Try.prog 24 := en_lifetime_of
theorem ms_lifetime_of_A : Meets Try.prog 24 (strip sp_lifetime_of_A) := meets_spec mr_lifetime_of fun x hok => (e_lifetime_of x.1 x.2.1).trans (s_lifetime_of_A x.1 x.2.1 hok)
def sp_lifetime_of_B : Ent := spec (.pr tyPolicy (.pr tyItem .nil)) (fun x => (ofOkB x.1 x.2.1)) (fun x => (.tu [(.ifc 86 (.t (.sl tyLinkX) ((ofA x.1 x.2.1).1))), (.t tI ((ofA x.1 x.2.1).2))]))
theorem en_lifetime_of_B : Entered Try.prog 24 := en_lifetime_of
theorem ms_lifetime_of_B : Meets Try.prog 24 (strip sp_lifetime_of_B) := meets_spec mr_lifetime_of fun x hok => (e_lifetime_of x.1 x.2.1).trans (s_lifetime_of_B x.1 x.2.1 hok)
def sp_lifetime_of_E : Ent := spec (.pr tyPolicy (.pr tyItem .nil)) (fun x => (ofOkE x.1 x.2.1)) (fun x => (.tu [(.c .nilIface), (.t tI (ofE x.1 x.2.1))]))
theorem en_lifetime_of_E : Entered Try.prog 24 := en_lifetime_of
theorem ms_lifetime_of_E : Meets Try.prog 24 (strip sp_lifetime_of_E) := meets_spec mr_lifetime_of fun x hok => (e_lifetime_of x.1 x.2.1).trans (s_lifetime_of_E x.1 x.2.1 hok)
end Go.Proofs.Ytfehjdaielifiaa.K
