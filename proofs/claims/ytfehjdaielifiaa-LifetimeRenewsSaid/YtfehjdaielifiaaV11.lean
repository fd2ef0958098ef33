/-
  The answer of verdict: decides, allowed, Allowed, put, days.
-/
import Derived.Test.YtfehjdaielifiaaV10
set_option linter.unusedSimpArgs false
set_option linter.unusedVariables false
namespace Go.Proofs.Ytfehjdaielifiaa.K
open Go.RowKit
def polLen5 (y : Policy) (_u : Keep) (_p _d : Int) : Bool := lenOk5 y.1
def dr_ref18_decides_0 : List DO := [(.mk (.mk (some 18) none (.m (.pu (.fa 0 (.t 4))))) []), (.mk (.mk (some 19) none (.m (.ld false 1 (.t 18)))) [0]), (.mk (.mk (some 20) none (.m (.pu (.mv (.t 9))))) []), (.mk (.mk (some 21) none (.m (.pu (.ix 6 (.t 19) (.t 20))))) [1, 2]), (.mk (.mk (some 22) none (.m (.ld true 6 (.t 21)))) [3]), (.mk (.mk (some 23) none (.m (.ld true 2 (.t 5)))) []), (.mk (.mk (some 24) none (.m (.pu (.mv (.t 2))))) []), (.mk (.mk (some 25) none (.m (.pu (.mv (.t 3))))) []), (.mk (.mk (some 26) none (.call 66 [(.t 22), (.t 23), (.t 24), (.t 25)])) [4, 5, 6, 7])]
def fg_ref18_decides_0 : Fg := ⟨[(2, some tI), (3, some tI), (4, none), (5, none), (9, some tI)], [(4, some tyPolicy), (5, some tyKeep)]⟩
def tb_ref18_decides_0 : TC := (.sq (.sq (.reg [(.mk (some 14) none (.m (.pu (.mv (.t 9))))), (.mk (some 15) none (.m (.pu (.bin false .geq (.t 14) (.c (.v (.int .i64 0)))))))]) (.cd (.t 15) .sk (.fg ⟨[], []⟩ (.ex 0)))) (.sq (.bk 1 (.sq (.dr dr_ref18_decides_0 [(0, [4]), (1, [4]), (2, []), (3, []), (4, []), (5, [5]), (6, []), (7, []), (8, [])] (.of [0, 1, 2, 3, 4, 5, 6, 7, 8])) (.cd (.t 26) (.sq (.reg [(.mk (some 27) none (.m (.pu (.mv (.t 9))))), (.mk (some 8) none (.m (.pu (.mv (.t 27)))))]) (.fg ⟨[(8, some tI)], []⟩ .rt)) .sk))) (.reg [(.mk (some 16) none (.m (.pu (.mv (.t 9))))), (.mk (some 17) none (.m (.pu (.bin false .sub (.t 16) (.c (.v (.int .i64 1))))))), (.mk (some 9) none (.m (.pu (.mv (.t 17)))))])))
/-- cipherplan/cipherplanref18.decides -/
def tc_ref18_decides : TC := (.sq (.reg [(.mk (some 4) none (.m (.box (.t 0)))), (.mk (some 5) none (.m (.box (.t 1)))), (.mk (some 8) none (.m (.pu (.mv (.c (.v (.int .i64 0)))))))]) (.sq (.sq (.reg [(.mk (some 10) none (.m (.pu (.fa 0 (.t 4))))), (.mk (some 11) none (.m (.ld false 1 (.t 10)))), (.mk (some 12) none (.m (.pu (.len false (.t 11))))), (.mk (some 13) none (.m (.pu (.bin false .sub (.t 12) (.c (.v (.int .i64 1))))))), (.mk (some 9) none (.m (.pu (.mv (.t 13)))))]) (.bk 0 (.lp 0 fg_ref18_decides_0 tb_ref18_decides_0))) (.sq (.reg [(.mk (some 8) none (.m (.pu (.mv (.c (.v (.int .i64 (-1))))))))]) .rt)))
def rv_ref18_decides : List (RV × Option Ty) := [((.t 8), some tI)]
abbrev sh_ref18_decides_0 : Sh := ⟨[(2, .ty tI), (3, .ty tI), (4, .ptr 4 0), (5, .ptr 5 0), (9, .ty tI)], [(4, .box tyPolicy), (5, .box tyKeep)]⟩
def st_ref18_decides_0 (x2 : Int) (x3 : Int) (x9 : Int) (y4 : Policy) (y5 : Keep) : VS := sh_ref18_decides_0.st (x2, x3, (), (), x9, ()) (y4, y5, ())
abbrev sh_ref18_decides_0_ret : Sh := ⟨[(8, .ty tI)], []⟩
def st_ref18_decides_0_ret (x8 : Int) : VS := sh_ref18_decides_0_ret.st (x8, ()) ()
abbrev sh_ref18_decides_0_e0 : Sh := ⟨[], []⟩
def st_ref18_decides_0_e0  : VS := sh_ref18_decides_0_e0.st () ()
-- loop 0: (x2 : Int) (x3 : Int) (x9 : Int) (y4 : Policy) (y5 : Keep); out: ('ret',) (x8 : Int); ('exit', 0) 
def L_ref18_decides_0 : VS → Option (Bool × List (Bool × Exit × VS)) := mkL sh_ref18_decides_0 (fun x y => (decide (-1 ≤ x.2.2.2.2.1 ∧ x.2.2.2.2.1 < y.1.1.length ∧ y.1.1.length ≤ 100000))) (fun x y => [(((decL (y.1.1.take (x.2.2.2.2.1 + 1).toNat) y.2.1 x.1 x.2.1).isSome), .ret, st_ref18_decides_0_ret (((decL (y.1.1.take (x.2.2.2.2.1 + 1).toNat) y.2.1 x.1 x.2.1).getD 0 : Nat))), (true, .exit 0, st_ref18_decides_0_e0)])
def g_ref18_decides : G := ⟨TYs, [], 28, EL [(66, sp_ref18_matches)], keeps, (Ls [L_ref18_decides_0]), IL [], RL []⟩
def b_ref18_decides_0 (x2 : Int) (x3 : Int) (x9 : Int) (y4 : Policy) (y5 : Keep) : Option (Exit × VS) :=
  br ((ige x9 0))
    (br (cIx y4.1 x9)
      (br ((matches' (lgt tyRule y4.1 (Int.toNat x9)) y5 x2 x3))
        (some (.ret, st_ref18_decides_0_ret x9))
        (some (.normal, st_ref18_decides_0 x2 x3 (isub .i64 x9 1) y4 y5)))
      (none))
    (some (.exit 0, st_ref18_decides_0_e0))
noncomputable def lp_ref18_decides_0 (x2 : Int) (x3 : Int) (x9 : Int) (y4 : Policy) (y5 : Keep) : Option (Exit × VS) := loopF (roundF g_ref18_decides fg_ref18_decides_0 tb_ref18_decides_0) (st_ref18_decides_0 x2 x3 x9 y4 y5)
noncomputable def n_ref18_decides_0 (x2 : Int) (x3 : Int) (x9 : Int) (y4 : Policy) (y5 : Keep) : Option (Exit × VS) :=
  br ((ige x9 0))
    (br (cIx y4.1 x9)
      (br ((matches' (lgt tyRule y4.1 (Int.toNat x9)) y5 x2 x3))
        (some (.ret, st_ref18_decides_0_ret x9))
        (lp_ref18_decides_0 x2 x3 (isub .i64 x9 1) y4 y5))
      (none))
    (some (.exit 0, st_ref18_decides_0_e0))
def la_ref18_decides_0 (x2 : Int) (x3 : Int) (x9 : Int) (y4 : Policy) (y5 : Keep) : Option (Exit × VS) := br ((decL (y4.1.take (x9 + 1).toNat) y5 x2 x3).isSome) (some (.ret, st_ref18_decides_0_ret (((decL (y4.1.take (x9 + 1).toNat) y5 x2 x3).getD 0 : Nat)))) <| some (.exit 0, st_ref18_decides_0_e0)
theorem be_ref18_decides_0 (x2 : Int) (x3 : Int) (x9 : Int) (y4 : Policy) (y5 : Keep) : roundF g_ref18_decides fg_ref18_decides_0 tb_ref18_decides_0 (st_ref18_decides_0 x2 x3 x9 y4 y5) = b_ref18_decides_0 x2 x3 x9 y4 y5 := by kernel_rfl
theorem ln_ref18_decides_0 (x2 : Int) (x3 : Int) (x9 : Int) (y4 : Policy) (y5 : Keep) : lp_ref18_decides_0 x2 x3 x9 y4 y5 = n_ref18_decides_0 x2 x3 x9 y4 y5 := (loopF_nxt _ _).trans (by
  rw [be_ref18_decides_0]
  simp only [b_ref18_decides_0, n_ref18_decides_0, nxt_br, nxt_n, nxt_r, nxt_e, nxt_0]
  rfl)
def r_ref18_decides (p0 : Policy) (p1 : Keep) (p2 : Int) (p3 : Int) : Option (V × List VO) :=
  br ((decide (-1 ≤ (isub .i64 (llen p0.1) 1) ∧ (isub .i64 (llen p0.1) 1) < p0.1.length ∧ p0.1.length ≤ 100000)))
    (br (((decL (p0.1.take ((isub .i64 (llen p0.1) 1) + 1).toNat) p1 p2 p3).isSome))
      (some (.t tI (((decL (p0.1.take ((isub .i64 (llen p0.1) 1) + 1).toNat) p1 p2 p3).getD 0 : Nat)), []))
      (some (.t tI (-1), [])))
    (none)
theorem e_ref18_decides (p0 : Policy) (p1 : Keep) (p2 : Int) (p3 : Int) : runF g_ref18_decides tc_ref18_decides rv_ref18_decides false [.t tyPolicy p0, .t tyKeep p1, .t tI p2, .t tI p3] [] = r_ref18_decides p0 p1 p2 p3 := by kernel_rfl
theorem ok_ref18_decides : Option.map (trC Try.prog) Try.f54.body = some tc_ref18_decides.er := by kernel_rfl
theorem rok_ref18_decides : trVs Try.prog Try.f54.results.toList = some (rv_ref18_decides.map Prod.fst) := by kernel_rfl
theorem en_ref18_decides : Entered Try.prog 54 := .inr ⟨by decide, _, Try.func54, by kernel_rfl, by kernel_rfl⟩
theorem gk_ref18_decides : GOk Try.prog g_ref18_decides := gok_of _ (by
  intro p hp
  simp only [List.mem_cons, List.not_mem_nil, or_false] at hp
  rcases hp with rfl
  · exact ⟨en_ref18_matches, ms_ref18_matches⟩)
theorem take_snoc {α : Type} {l : List α} {k : Nat} (h : k < l.length) : l.take (k + 1) = l.take k ++ [l[k]] := List.take_succ_eq_append_getElem h
theorem decL_snoc {l : List Rule} {k : Nat} (h : k < l.length) {u : Keep} {p d : Int} : decL (l.take (k + 1)) u p d = if matches' l[k] u p d then some k else decL (l.take k) u p d := by
  rw [take_snoc h]
  unfold decL
  rw [lastI_app]
  simp only [lastI]
  have e : (l.take k).length = k := by simp; omega
  rw [e]
  split <;> rename_i hq
  · split at hq
    · rename_i hm
      injection hq with hq
      subst hq
      rw [if_pos hm]
      rfl
    · cases hq
  · split at hq
    · cases hq
    · rename_i hm
      rw [if_neg hm]
theorem l_ref18_decides_0 (x2 : Int) (x3 : Int) (x9 : Int) (y4 : Policy) (y5 : Keep) (h : (decide (-1 ≤ x9 ∧ x9 < y4.1.length ∧ y4.1.length ≤ 100000)) = true) : lp_ref18_decides_0 x2 x3 x9 y4 y5 = la_ref18_decides_0 x2 x3 x9 y4 y5 := by
  simp only [decide_eq_true_eq] at h
  obtain ⟨h1, h2, h3⟩ := h
  obtain ⟨k, hk⟩ : ∃ k : Nat, x9 = (k : Int) - 1 := ⟨(x9 + 1).toNat, by omega⟩
  subst hk
  have h4 : k ≤ y4.1.length := by omega
  clear h1 h2
  induction k with
  | zero =>
    rw [ln_ref18_decides_0]
    have e1 : ige (((0 : Nat) : Int) - 1) 0 = false := rfl
    simp only [n_ref18_decides_0, e1, br_false]
    rfl
  | succ k ih =>
    rw [ln_ref18_decides_0]
    have e1 : ige (((k + 1 : Nat) : Int) - 1) 0 = true := by simp only [ige, decide_eq_true_eq]; omega
    have e2 : (((k + 1 : Nat) : Int) - 1) = (k : Int) := by omega
    have e3 : isub .i64 (k : Int) 1 = (k : Int) - 1 := isub_in (by omega)
    have hk : k < y4.1.length := by omega
    rw [e2] at e1 ⊢
    simp only [n_ref18_decides_0, e1, e3, br_true, cIx_nat, hk, decide_true, Int.toNat_natCast, lgt_get (y := tyRule) hk, ih (by omega)]
    have e4 : ((k : Int) + 1).toNat = k + 1 := by omega
    have e5 : ((k : Int) - 1 + 1).toNat = k := by omega
    simp only [la_ref18_decides_0, e4, e5, decL_snoc hk]
    cases hm : matches' y4.1[k] y5 x2 x3 with
    | true => rfl
    | false => rfl
theorem lo_ref18_decides_0 : ∀ S l p, g_ref18_decides.L 0 (fgt fg_ref18_decides_0 S) = some (true, l) → pickA l = some p → loopF (roundF g_ref18_decides fg_ref18_decides_0 tb_ref18_decides_0) S = some p :=
  lok_of (s := sh_ref18_decides_0) ⟨by decide, by decide⟩ (by kernel_rfl) fun x y hok p hp => by
  simp only [pickA_br, pickA_one] at hp
  exact (l_ref18_decides_0 x.1 x.2.1 x.2.2.2.2.1 y.1 y.2.1 (by simpa using hok)).trans hp
theorem lk_ref18_decides : tc_ref18_decides.lok g_ref18_decides := by
  repeat (first | exact trivial | exact lo_ref18_decides_0 | refine ⟨?_, ?_⟩)
theorem s_ref18_decides (y : Policy) (u : Keep) (p d : Int) (h : polLen5 y u p d = true) : r_ref18_decides y u p d = some (.t tI (decF y u p d), []) := by
  have h : lenOk5 y.1 = true := h
  simp only [lenOk5, decide_eq_true_eq] at h
  have e1 : isub .i64 (llen y.1) 1 = (y.1.length : Int) - 1 := isub_in (by unfold llen; omega)
  have e2 : ((y.1.length : Int) - 1 + 1).toNat = y.1.length := by omega
  simp only [r_ref18_decides, e1, e2, List.take_length]
  rw [dec_true ⟨by omega, by omega, h⟩, br_true, decF_eq]
  cases decL y.1 u p d <;> rfl
def sp_ref18_decides : Ent := spec (.pr tyPolicy (.pr tyKeep (.pr tI (.pr tI .nil)))) (fun x => (polLen5 x.1 x.2.1 x.2.2.1 x.2.2.2.1)) (fun x => (.t tI (decF x.1 x.2.1 x.2.2.1 x.2.2.2.1)))
theorem ms_ref18_decides : Meets Try.prog 54 (strip sp_ref18_decides) := by
  obtain ⟨c, hc, hi⟩ := Option.map_eq_some_iff.1 ok_ref18_decides
  exact meets_spec (R := runF g_ref18_decides tc_ref18_decides rv_ref18_decides false) (meets_of (by decide) Try.func54 hc hi Try.ntmps54 rok_ref18_decides gk_ref18_decides lk_ref18_decides mixed) fun x hok => (e_ref18_decides x.1 x.2.1 x.2.2.1 x.2.2.2.1).trans (s_ref18_decides x.1 x.2.1 x.2.2.1 x.2.2.2.1 hok)
/-- cipherplan/cipherplanref18.allowed -/
def tc_ref18_allowed : TC := (.sq (.reg [(.mk (some 4) none (.m (.box (.t 0)))), (.mk (some 5) none (.m (.box (.t 1)))), (.mk (some 8) none (.m (.pu (.mv (.c (.v (.bool false)))))))]) (.sq (.reg [(.mk (some 10) none (.m (.ld true 2 (.t 4)))), (.mk (some 11) none (.m (.ld true 2 (.t 5)))), (.mk (some 12) none (.m (.pu (.mv (.t 2))))), (.mk (some 13) none (.m (.pu (.mv (.t 3))))), (.mk (some 14) none (.call 54 [(.t 10), (.t 11), (.t 12), (.t 13)])), (.mk (some 9) none (.m (.pu (.mv (.t 14)))))]) (.sq (.reg [(.mk (some 15) none (.m (.pu (.mv (.t 9))))), (.mk (some 16) none (.m (.pu (.bin false .lss (.t 15) (.c (.v (.int .i64 0))))))), (.mk (some 17) none (.m (.pu (.mv (.t 16))))), (.mk (some 18) (some (17, false)) (.m (.pu (.fa 0 (.t 4))))), (.mk (some 19) (some (17, false)) (.m (.ld false 1 (.t 18)))), (.mk (some 20) (some (17, false)) (.m (.pu (.mv (.t 9))))), (.mk (some 21) (some (17, false)) (.m (.pu (.ix 6 (.t 19) (.t 20))))), (.mk (some 22) (some (17, false)) (.m (.pu (.fa 0 (.t 21))))), (.mk (some 23) (some (17, false)) (.m (.ld false 1 (.t 22)))), (.mk (some 24) none (.m (.pu (.pick (.t 17) (.c (.v (.bool true))) (.t 23))))), (.mk (some 8) none (.m (.pu (.mv (.t 24)))))]) .rt)))
def rv_ref18_allowed : List (RV × Option Ty) := [((.t 8), some .bool)]
def g_ref18_allowed : G := ⟨TYs, [], 25, EL [(54, sp_ref18_decides)], keeps, (fun _ _ => none), IL [], RL []⟩
def r_ref18_allowed (p0 : Policy) (p1 : Keep) (p2 : Int) (p3 : Int) : Option (V × List VO) :=
  br ((polLen5 p0 p1 p2 p3))
    (br ((ilt (decF p0 p1 p2 p3) 0))
      (some (.t .bool true, []))
      (br (cIx p0.1 (decF p0 p1 p2 p3))
        (some (.t .bool ((lgt tyRule p0.1 (Int.toNat (decF p0 p1 p2 p3))).1), []))
        (none)))
    (none)
theorem e_ref18_allowed (p0 : Policy) (p1 : Keep) (p2 : Int) (p3 : Int) : runF g_ref18_allowed tc_ref18_allowed rv_ref18_allowed false [.t tyPolicy p0, .t tyKeep p1, .t tI p2, .t tI p3] [] = r_ref18_allowed p0 p1 p2 p3 := by kernel_rfl
theorem ok_ref18_allowed : Option.map (trC Try.prog) Try.f37.body = some tc_ref18_allowed.er := by kernel_rfl
theorem rok_ref18_allowed : trVs Try.prog Try.f37.results.toList = some (rv_ref18_allowed.map Prod.fst) := by kernel_rfl
theorem en_ref18_allowed : Entered Try.prog 37 := .inr ⟨by decide, _, Try.func37, by kernel_rfl, by kernel_rfl⟩
theorem gk_ref18_allowed : GOk Try.prog g_ref18_allowed := gok_of _ (by
  intro p hp
  simp only [List.mem_cons, List.not_mem_nil, or_false] at hp
  rcases hp with rfl
  · exact ⟨en_ref18_decides, ms_ref18_decides⟩)
theorem lk_ref18_allowed : tc_ref18_allowed.lok g_ref18_allowed := by repeat (first | exact trivial | refine ⟨?_, ?_⟩)
theorem s_ref18_allowed (y : Policy) (u : Keep) (p d : Int) (h : polLen5 y u p d = true) : r_ref18_allowed y u p d = some (.t .bool (allF y u p d), []) := by
  simp only [r_ref18_allowed, h, br_true, allF_eq]
  cases h : ilt (decF y u p d) 0 with
  | true => simp [br_true]
  | false => rw [decF_ix h, br_false, br_true, Bool.false_or, lgt]
def sp_ref18_allowed : Ent := spec (.pr tyPolicy (.pr tyKeep (.pr tI (.pr tI .nil)))) (fun x => (polLen5 x.1 x.2.1 x.2.2.1 x.2.2.2.1)) (fun x => (.t .bool (allF x.1 x.2.1 x.2.2.1 x.2.2.2.1)))
theorem ms_ref18_allowed : Meets Try.prog 37 (strip sp_ref18_allowed) := by
  obtain ⟨c, hc, hi⟩ := Option.map_eq_some_iff.1 ok_ref18_allowed
  exact meets_spec (R := runF g_ref18_allowed tc_ref18_allowed rv_ref18_allowed false) (meets_of (by decide) Try.func37 hc hi Try.ntmps37 rok_ref18_allowed gk_ref18_allowed lk_ref18_allowed mixed) fun x hok => (e_ref18_allowed x.1 x.2.1 x.2.2.1 x.2.2.2.1).trans (s_ref18_allowed x.1 x.2.1 x.2.2.1 x.2.2.2.1 hok)
/-- the error of a policy, a use, a purpose -/
def chk3 (y : Policy) (u : Keep) (p : Int) : Int := earlyF y u p 0
/-- cipherplan/cipherplanref18.check -/
def tc_ref18_check : TC := (.sq (.reg [(.mk (some 3) none (.m (.box (.t 0)))), (.mk (some 4) none (.m (.box (.t 1)))), (.mk (some 6) none (.m (.pu (.mv (.c (.v (.int .i64 0)))))))]) (.sq (.sq (.reg [(.mk (some 8) none (.m (.ld true 2 (.t 3)))), (.mk (some 9) none (.call 52 [(.t 8)])), (.mk (some 7) none (.m (.pu (.mv (.t 9)))))]) (.sq (.reg [(.mk (some 10) none (.m (.pu (.mv (.t 7))))), (.mk (some 11) none (.m (.pu (.bin false .neq (.t 10) (.c (.v (.int .i64 0)))))))]) (.cd (.t 11) (.sq (.reg [(.mk (some 12) none (.m (.pu (.mv (.t 7))))), (.mk (some 6) none (.m (.pu (.mv (.t 12)))))]) .rt) .sk))) (.sq (.sq (.reg [(.mk (some 13) none (.m (.ld true 2 (.t 4)))), (.mk (some 14) none (.call 15 [(.t 13)])), (.mk (some 15) none (.m (.pu (.nt (.t 14)))))]) (.cd (.t 15) (.sq (.reg [(.mk (some 6) none (.m (.pu (.mv (.c (.v (.int .i64 7)))))))]) .rt) .sk)) (.sq (.sq (.reg [(.mk (some 16) none (.m (.pu (.mv (.t 2))))), (.mk (some 17) none (.m (.pu (.bin false .lss (.t 16) (.c (.v (.int .i64 1))))))), (.mk (some 18) none (.m (.pu (.mv (.t 17))))), (.mk (some 19) (some (18, false)) (.m (.pu (.mv (.t 2))))), (.mk (some 20) (some (18, false)) (.m (.pu (.bin false .gtr (.t 19) (.c (.v (.int .i64 4))))))), (.mk (some 21) none (.m (.pu (.pick (.t 18) (.c (.v (.bool true))) (.t 20)))))]) (.cd (.t 21) (.sq (.reg [(.mk (some 6) none (.m (.pu (.mv (.c (.v (.int .i64 2)))))))]) .rt) .sk)) (.sq (.reg [(.mk (some 6) none (.m (.pu (.mv (.c (.v (.int .i64 0)))))))]) .rt)))))
def rv_ref18_check : List (RV × Option Ty) := [((.t 6), some tI)]
def g_ref18_check : G := ⟨TYs, [], 22, EL [(15, sp_ref02_Valid), (52, sp_ref17_Check)], keeps, (fun _ _ => none), IL [], RL []⟩
def r_ref18_check (p0 : Policy) (p1 : Keep) (p2 : Int) : Option (V × List VO) :=
  br ((polLen p0))
    (br ((ine (checkF p0) 0))
      (some (.t tI (checkF p0), []))
      (br ((!(validF p1)))
        (some (.t tI 7, []))
        (br ((ilt p2 1))
          (some (.t tI 2, []))
          (br ((igt p2 4))
            (some (.t tI 2, []))
            (some (.t tI 0, []))))))
    (none)
theorem e_ref18_check (p0 : Policy) (p1 : Keep) (p2 : Int) : runF g_ref18_check tc_ref18_check rv_ref18_check false [.t tyPolicy p0, .t tyKeep p1, .t tI p2] [] = r_ref18_check p0 p1 p2 := by kernel_rfl
theorem ok_ref18_check : Option.map (trC Try.prog) Try.f35.body = some tc_ref18_check.er := by kernel_rfl
theorem rok_ref18_check : trVs Try.prog Try.f35.results.toList = some (rv_ref18_check.map Prod.fst) := by kernel_rfl
theorem en_ref18_check : Entered Try.prog 35 := .inr ⟨by decide, _, Try.func35, by kernel_rfl, by kernel_rfl⟩
theorem gk_ref18_check : GOk Try.prog g_ref18_check := gok_of _ (by
  intro p hp
  simp only [List.mem_cons, List.not_mem_nil, or_false] at hp
  rcases hp with rfl | rfl
  · exact ⟨en_ref02_Valid, ms_ref02_Valid⟩
  · exact ⟨en_ref17_Check, ms_ref17_Check⟩)
theorem lk_ref18_check : tc_ref18_check.lok g_ref18_check := by repeat (first | exact trivial | refine ⟨?_, ?_⟩)
theorem s_ref18_check (y : Policy) (u : Keep) (p : Int) (h : polLen3 y u p = true) : r_ref18_check y u p = some (.t tI (chk3 y u p), []) := by
  have h : polLen y = true := h
  simp only [r_ref18_check, h, br_true, checkF, chk3, earlyF]
  cases polOk y with
  | false => rfl
  | true =>
    simp only [if_true, show ine 0 0 = false from rfl, br_false, Bool.true_eq_false, if_false]
    cases validF u with
    | false => rfl
    | true =>
      simp only [Bool.not_true, br_false, Bool.true_eq_false, if_false]
      repeat' (refine br_intro ?_ ?_ <;> intro _)
      all_goals simp only [igt, ilt, decide_eq_true_eq, decide_eq_false_iff_not] at *
      all_goals first
        | rw [if_pos (by omega)]
        | rw [if_neg (by omega)]
def sp_ref18_check : Ent := spec (.pr tyPolicy (.pr tyKeep (.pr tI .nil))) (fun x => (polLen3 x.1 x.2.1 x.2.2.1)) (fun x => (.t tI (chk3 x.1 x.2.1 x.2.2.1)))
theorem ms_ref18_check : Meets Try.prog 35 (strip sp_ref18_check) := by
  obtain ⟨c, hc, hi⟩ := Option.map_eq_some_iff.1 ok_ref18_check
  exact meets_spec (R := runF g_ref18_check tc_ref18_check rv_ref18_check false) (meets_of (by decide) Try.func35 hc hi Try.ntmps35 rok_ref18_check gk_ref18_check lk_ref18_check mixed) fun x hok => (e_ref18_check x.1 x.2.1 x.2.2.1).trans (s_ref18_check x.1 x.2.1 x.2.2.1 hok)
/-! put -/
def low (l : List Int) (n : Int) : Nat := (l.takeWhile fun a => decide (a < n)).length
def putOk (l : List Int) (_n : Int) : Bool := decide (l.length ≤ 500000)
def dr_ref18_put_0 : List DO := [(.mk (.mk (some 33) none (.m (.bs 3 1 0 [] []))) []), (.mk (.mk (some 34) none (.m (.pu (.mv (.t 0))))) []), (.mk (.mk (some 35) none (.m (.pu (.mv (.t 5))))) []), (.mk (.mk (some 36) none (.m (.pu (.slc 1 (.t 34) none (some (.t 35)) none)))) [1, 2]), (.mk (.mk (some 37) none (.m (.app 3 1 8 (.t 33) (.t 36)))) [0, 3]), (.mk (.mk (some 38) none (.m (.pu (.mv (.t 1))))) []), (.mk (.mk (some 39) none (.m (.bs 3 1 1 [(.v (.int .i64 0))] [(0, 1, (.t 38))]))) [5]), (.mk (.mk (some 40) none (.m (.app 3 1 8 (.t 37) (.t 39)))) [4, 6, 4]), (.mk (.mk (some 41) none (.m (.pu (.mv (.t 0))))) []), (.mk (.mk (some 42) none (.m (.pu (.mv (.t 5))))) []), (.mk (.mk (some 43) none (.m (.pu (.slc 1 (.t 41) (some (.t 42)) none none)))) [8, 9]), (.mk (.mk (some 44) none (.m (.app 3 1 8 (.t 40) (.t 43)))) [7, 10, 7]), (.mk (.mk (some 4) none (.m (.pu (.mv (.t 44))))) [11, 11, 0, 1, 2, 3, 4, 5, 6, 7, 8, 9, 10, 11])]
def fg_ref18_put_0 : Fg := ⟨[(0, some (.sl tI)), (1, some tI), (5, some tI)], []⟩
def tb_ref18_put_0 : TC := (.sq (.sq (.reg [(.mk (some 6) none (.m (.pu (.mv (.t 5))))), (.mk (some 7) none (.m (.pu (.mv (.t 0))))), (.mk (some 8) none (.m (.pu (.len false (.t 7))))), (.mk (some 9) none (.m (.pu (.bin false .lss (.t 6) (.t 8))))), (.mk (some 10) none (.m (.pu (.mv (.t 9))))), (.mk (some 11) (some (10, true)) (.m (.pu (.mv (.t 0))))), (.mk (some 12) (some (10, true)) (.m (.pu (.mv (.t 5))))), (.mk (some 13) (some (10, true)) (.m (.pu (.ix 1 (.t 11) (.t 12))))), (.mk (some 14) (some (10, true)) (.m (.ld false 1 (.t 13)))), (.mk (some 15) (some (10, true)) (.m (.pu (.mv (.t 1))))), (.mk (some 16) (some (10, true)) (.m (.pu (.bin false .lss (.t 14) (.t 15))))), (.mk (some 17) none (.m (.pu (.pick (.t 10) (.t 16) (.c (.v (.bool false)))))))]) (.cd (.t 17) .sk (.fg ⟨[(0, some (.sl tI)), (1, some tI), (5, some tI)], []⟩ (.ex 0)))) (.bk 1 (.reg [(.mk (some 18) none (.m (.pu (.mv (.t 5))))), (.mk (some 19) none (.m (.pu (.bin false .add (.t 18) (.c (.v (.int .i64 1))))))), (.mk (some 5) none (.m (.pu (.mv (.t 19)))))])))
/-- cipherplan/cipherplanref18.put -/
def tc_ref18_put : TC := (.sq (.reg [(.mk (some 4) none (.m (.pu (.mv (.c (.v (.slice none 0 0)))))))]) (.sq (.reg [(.mk (some 5) none (.m (.pu (.mv (.c (.v (.int .i64 0)))))))]) (.sq (.bk 0 (.lp 0 fg_ref18_put_0 tb_ref18_put_0)) (.sq (.sq (.reg [(.mk (some 20) none (.m (.pu (.mv (.t 5))))), (.mk (some 21) none (.m (.pu (.mv (.t 0))))), (.mk (some 22) none (.m (.pu (.len false (.t 21))))), (.mk (some 23) none (.m (.pu (.bin false .lss (.t 20) (.t 22))))), (.mk (some 24) none (.m (.pu (.mv (.t 23))))), (.mk (some 25) (some (24, true)) (.m (.pu (.mv (.t 0))))), (.mk (some 26) (some (24, true)) (.m (.pu (.mv (.t 5))))), (.mk (some 27) (some (24, true)) (.m (.pu (.ix 1 (.t 25) (.t 26))))), (.mk (some 28) (some (24, true)) (.m (.ld false 1 (.t 27)))), (.mk (some 29) (some (24, true)) (.m (.pu (.mv (.t 1))))), (.mk (some 30) (some (24, true)) (.m (.pu (.bin false .eql (.t 28) (.t 29))))), (.mk (some 31) none (.m (.pu (.pick (.t 24) (.t 30) (.c (.v (.bool false)))))))]) (.cd (.t 31) (.sq (.reg [(.mk (some 32) none (.m (.pu (.mv (.t 0))))), (.mk (some 4) none (.m (.pu (.mv (.t 32)))))]) .rt) .sk)) (.sq (.dr dr_ref18_put_0 [(0, [33, 5033, 10033, 15033]), (1, []), (2, []), (3, []), (4, [33, 37, 5037, 10037, 15037]), (5, []), (6, []), (7, [33, 37, 40, 5040, 10040, 15040]), (8, []), (9, []), (10, []), (11, [33, 37, 40, 44, 5044, 10044, 15044]), (12, [33, 37, 40, 44])] (.of [1, 2, 3, 5, 6, 8, 9, 10, 0, 4, 7, 11, 12])) .rt)))))
def rv_ref18_put : List (RV × Option Ty) := [((.t 4), some (.sl tI))]
abbrev sh_ref18_put_0 : Sh := ⟨[(0, .ty (.sl tI)), (1, .ty tI), (5, .ty tI)], []⟩
def st_ref18_put_0 (x0 : (List Int)) (x1 : Int) (x5 : Int) : VS := sh_ref18_put_0.st (x0, x1, x5, ()) ()
abbrev sh_ref18_put_0_e0 : Sh := ⟨[(0, .ty (.sl tI)), (1, .ty tI), (5, .ty tI)], []⟩
def st_ref18_put_0_e0 (x0 : (List Int)) (x1 : Int) (x5 : Int) : VS := sh_ref18_put_0_e0.st (x0, x1, x5, ()) ()
-- loop 0: (x0 : (List Int)) (x1 : Int) (x5 : Int); out: ('exit', 0) (x0 : (List Int)) (x1 : Int) (x5 : Int)
def L_ref18_put_0 : VS → Option (Bool × List (Bool × Exit × VS)) := mkL sh_ref18_put_0 (fun x y => (decide (0 ≤ x.2.2.1 ∧ x.2.2.1 ≤ x.1.length ∧ x.1.length ≤ 500000))) (fun x y => [(true, .exit 0, st_ref18_put_0_e0 (x.1) (x.2.1) (x.2.2.1 + (low (x.1.drop x.2.2.1.toNat) x.2.1 : Nat)))])
def g_ref18_put : G := ⟨TYs, [33], 45, EL [], keeps, (Ls [L_ref18_put_0]), IL [], RL []⟩
def b_ref18_put_0 (x0 : (List Int)) (x1 : Int) (x5 : Int) : Option (Exit × VS) :=
  br ((ilt x5 (llen x0)))
    (br (cIx x0 x5)
      (br ((ilt (lgt tI x0 (Int.toNat x5)) x1))
        (some (.normal, st_ref18_put_0 x0 x1 (iadd .i64 x5 1)))
        (some (.exit 0, st_ref18_put_0_e0 x0 x1 x5)))
      (none))
    (some (.exit 0, st_ref18_put_0_e0 x0 x1 x5))
noncomputable def lp_ref18_put_0 (x0 : (List Int)) (x1 : Int) (x5 : Int) : Option (Exit × VS) := loopF (roundF g_ref18_put fg_ref18_put_0 tb_ref18_put_0) (st_ref18_put_0 x0 x1 x5)
noncomputable def n_ref18_put_0 (x0 : (List Int)) (x1 : Int) (x5 : Int) : Option (Exit × VS) :=
  br ((ilt x5 (llen x0)))
    (br (cIx x0 x5)
      (br ((ilt (lgt tI x0 (Int.toNat x5)) x1))
        (lp_ref18_put_0 x0 x1 (iadd .i64 x5 1))
        (some (.exit 0, st_ref18_put_0_e0 x0 x1 x5)))
      (none))
    (some (.exit 0, st_ref18_put_0_e0 x0 x1 x5))
def la_ref18_put_0 (x0 : (List Int)) (x1 : Int) (x5 : Int) : Option (Exit × VS) := some (.exit 0, st_ref18_put_0_e0 (x0) (x1) (x5 + (low (x0.drop x5.toNat) x1 : Nat)))
theorem be_ref18_put_0 (x0 : (List Int)) (x1 : Int) (x5 : Int) : roundF g_ref18_put fg_ref18_put_0 tb_ref18_put_0 (st_ref18_put_0 x0 x1 x5) = b_ref18_put_0 x0 x1 x5 := by kernel_rfl
theorem ln_ref18_put_0 (x0 : (List Int)) (x1 : Int) (x5 : Int) : lp_ref18_put_0 x0 x1 x5 = n_ref18_put_0 x0 x1 x5 := (loopF_nxt _ _).trans (by
  rw [be_ref18_put_0]
  simp only [b_ref18_put_0, n_ref18_put_0, nxt_br, nxt_n, nxt_r, nxt_e, nxt_0]
  rfl)
def r_ref18_put_1 (p0 : (List Int)) (p1 : Int) : Option (V × List VO) :=
  br (cSl (p0) 0 ((0 : Int) + (low (p0.drop (0 : Int).toNat) p1 : Nat)) ((List.length (p0) : Nat) : Int))
    (br (cSl (p0) ((0 : Int) + (low (p0.drop (0 : Int).toNat) p1 : Nat)) ((List.length (p0) : Nat) : Int) ((List.length (p0) : Nat) : Int))
      (br (cApp ([] : List Int) (lsl (p0) 0 ((0 : Int) + (low (p0.drop (0 : Int).toNat) p1 : Nat))) 8)
        (br (cApp (([] : List Int) ++ (lsl (p0) 0 ((0 : Int) + (low (p0.drop (0 : Int).toNat) p1 : Nat)))) ([(p1)]) 8)
          (br (cApp ((([] : List Int) ++ (lsl (p0) 0 ((0 : Int) + (low (p0.drop (0 : Int).toNat) p1 : Nat)))) ++ ([(p1)])) (lsl (p0) ((0 : Int) + (low (p0.drop (0 : Int).toNat) p1 : Nat)) ((List.length (p0) : Nat) : Int)) 8)
            (some (.t (.sl tI) (((([] : List Int) ++ (lsl (p0) 0 ((0 : Int) + (low (p0.drop (0 : Int).toNat) p1 : Nat)))) ++ ([(p1)])) ++ (lsl (p0) ((0 : Int) + (low (p0.drop (0 : Int).toNat) p1 : Nat)) ((List.length (p0) : Nat) : Int))), []))
            (none))
          (none))
        (none))
      (none))
    (none)
def r_ref18_put (p0 : (List Int)) (p1 : Int) : Option (V × List VO) :=
  br ((decide (0 ≤ (0 : Int) ∧ (0 : Int) ≤ p0.length ∧ p0.length ≤ 500000)))
    (br ((ilt ((0 : Int) + (low (p0.drop (0 : Int).toNat) p1 : Nat)) (llen (p0))))
      (br (cIx (p0) ((0 : Int) + (low (p0.drop (0 : Int).toNat) p1 : Nat)))
        (br ((ieq (lgt tI (p0) (Int.toNat ((0 : Int) + (low (p0.drop (0 : Int).toNat) p1 : Nat)))) (p1)))
          (some (.t (.sl tI) (p0), []))
          (r_ref18_put_1 p0 p1))
        (none))
      (r_ref18_put_1 p0 p1))
    (none)
theorem e_ref18_put (p0 : (List Int)) (p1 : Int) : runF g_ref18_put tc_ref18_put rv_ref18_put false [.t (.sl tI) p0, .t tI p1] [] = r_ref18_put p0 p1 := by kernel_rfl
theorem ok_ref18_put : Option.map (trC Try.prog) Try.f53.body = some tc_ref18_put.er := by kernel_rfl
theorem rok_ref18_put : trVs Try.prog Try.f53.results.toList = some (rv_ref18_put.map Prod.fst) := by kernel_rfl
theorem en_ref18_put : Entered Try.prog 53 := .inr ⟨by decide, _, Try.func53, by kernel_rfl, by kernel_rfl⟩
theorem gk_ref18_put : GOk Try.prog g_ref18_put := gok_of _ (fun p hp => by cases hp)
theorem l_ref18_put_0 (x0 : (List Int)) (x1 : Int) (x5 : Int) (h : (decide (0 ≤ x5 ∧ x5 ≤ x0.length ∧ x0.length ≤ 500000)) = true) : lp_ref18_put_0 x0 x1 x5 = la_ref18_put_0 x0 x1 x5 := by
  simp only [decide_eq_true_eq] at h
  obtain ⟨h1, h2, h3⟩ := h
  obtain ⟨k, rfl⟩ := Int.eq_ofNat_of_zero_le h1
  refine range_ind x0 (fun k => lp_ref18_put_0 x0 x1 (k : Int) = la_ref18_put_0 x0 x1 (k : Int)) ?_ ?_ k (by omega)
  · rw [ln_ref18_put_0]
    simp [n_ref18_put_0, la_ref18_put_0, ilt_nat, llen, br_false, low]
  · intro k hk ih
    rw [ln_ref18_put_0]
    simp only [n_ref18_put_0, ilt_nat, llen, cIx_nat, hk, decide_true, br_true, Int.toNat_natCast, add1 (show k < 4611686018427387904 by omega), ih, lgt_get (y := tI) hk]
    simp only [la_ref18_put_0, Int.toNat_natCast, List.drop_eq_getElem_cons hk, low, List.takeWhile_cons, ilt]
    by_cases hc : x0[k] < x1
    · simp only [hc, decide_true, br_true, if_true, List.length_cons]
      congr 3
      omega
    · simp only [hc, decide_false, br_false, Bool.false_eq_true, if_false, List.length_nil]
      rfl
theorem lo_ref18_put_0 : ∀ S l p, g_ref18_put.L 0 (fgt fg_ref18_put_0 S) = some (true, l) → pickA l = some p → loopF (roundF g_ref18_put fg_ref18_put_0 tb_ref18_put_0) S = some p :=
  lok_of (s := sh_ref18_put_0) ⟨by decide, by decide⟩ (by kernel_rfl) fun x y hok p hp => by
  simp only [pickA_br, pickA_one] at hp
  exact (l_ref18_put_0 x.1 x.2.1 x.2.2.1 (by simpa using hok)).trans hp
theorem lk_ref18_put : tc_ref18_put.lok g_ref18_put := by
  repeat (first | exact trivial | exact lo_ref18_put_0 | refine ⟨?_, ?_⟩)
theorem low_le (l : List Int) (n : Int) : low l n ≤ l.length := by
  unfold low
  exact (List.takeWhile_prefix _).length_le
theorem insL_eq (n : Int) : ∀ l : List Int, insL l n = if l[low l n]? = some n then l else l.take (low l n) ++ [n] ++ l.drop (low l n)
  | [] => by simp [insL, low]
  | a :: l => by
    have ih := insL_eq n l
    unfold insL
    by_cases h : a < n
    · have e : low (a :: l) n = low l n + 1 := by simp [low, h]
      rw [if_pos h, e, ih, List.getElem?_cons_succ]
      split <;> simp
    · have e : low (a :: l) n = 0 := by simp [low, h]
      rw [if_neg h, e]
      by_cases h2 : a = n
      · simp [h2]
      · simp [h2]
theorem insL_len (n : Int) (l : List Int) : (insL l n).length ≤ l.length + 1 := by
  rw [insL_eq]
  split <;> simp
  omega
theorem s_ref18_put (l : List Int) (n : Int) (h : putOk l n = true) : r_ref18_put l n = some (.t (.sl tI) (insL l n), []) := by
  simp only [putOk, decide_eq_true_eq] at h
  have hl := low_le l n
  have e1 : r_ref18_put_1 l n = some (.t (.sl tI) (l.take (low l n) ++ [n] ++ l.drop (low l n)), []) := by
    simp only [r_ref18_put_1, Int.toNat_zero, List.drop_zero, Int.zero_add]
    have c1 : cSl l 0 (low l n : Nat) ((l.length : Nat) : Int) = true := by simp only [cSl, decide_eq_true_eq]; omega
    have c2 : cSl l (low l n : Nat) ((l.length : Nat) : Int) ((l.length : Nat) : Int) = true := by simp only [cSl, decide_eq_true_eq]; omega
    have v1 : lsl l 0 (low l n : Nat) = l.take (low l n) := by simp [lsl]
    have v2 : lsl l (low l n : Nat) ((l.length : Nat) : Int) = l.drop (low l n) := by
      simp only [lsl, Int.toNat_natCast]
      rw [List.take_of_length_le (by simp)]
    rw [c1, c2, v1, v2]
    simp only [br_true]
    rw [cApp_ok (by simp; omega) (by omega), br_true, cApp_ok (by simp; omega) (by omega), br_true, cApp_ok (by simp; omega) (by omega), br_true]
    rfl
  simp only [r_ref18_put, r_ref18_put_1] at e1 ⊢
  rw [e1]
  simp only [Int.toNat_zero, List.drop_zero, Int.zero_add]
  rw [dec_true ⟨Int.le_refl 0, by omega, h⟩, br_true, insL_eq]
  by_cases hk : low l n < l.length
  · simp only [llen, ilt_nat, cIx_nat, hk, decide_true, br_true, Int.toNat_natCast, lgt_get (y := tI) hk, List.getElem?_eq_getElem hk, Option.some.injEq, ieq_dec]
    by_cases hq : l[low l n] = n
    · simp only [hq, decide_true, br_true, if_true]
    · simp only [hq, decide_false, br_false, if_false]
  · have hn : l[low l n]? = none := List.getElem?_eq_none (by omega)
    simp only [llen, ilt_nat, hk, decide_false, br_false, hn, reduceCtorEq, if_false]
def sp_ref18_put : Ent := spec (.pr (.sl tI) (.pr tI .nil)) (fun x => (putOk x.1 x.2.1)) (fun x => (.t (.sl tI) (insL x.1 x.2.1)))
theorem ms_ref18_put : Meets Try.prog 53 (strip sp_ref18_put) := by
  obtain ⟨c, hc, hi⟩ := Option.map_eq_some_iff.1 ok_ref18_put
  exact meets_spec (R := runF g_ref18_put tc_ref18_put rv_ref18_put false) (meets_of (by decide) Try.func53 hc hi Try.ntmps53 rok_ref18_put gk_ref18_put lk_ref18_put mixed) fun x hok => (e_ref18_put x.1 x.2.1).trans (s_ref18_put x.1 x.2.1 hok)
def cutsZ (l : List Int) (rs : List Rule) : List Int := rs.foldl (fun l r => insL (insL l r.2.2.2.2.1) r.2.2.2.2.2.1) l
def dr_ref18_days_0 : List DO := [(.mk (.mk (some 13) none (.m (.pu (.mv (.t 3))))) []), (.mk (.mk (some 14) none (.m (.pu (.fa 0 (.t 1))))) []), (.mk (.mk (some 15) none (.m (.ld false 1 (.t 14)))) [1]), (.mk (.mk (some 16) none (.m (.pu (.mv (.t 4))))) []), (.mk (.mk (some 17) none (.m (.pu (.ix 6 (.t 15) (.t 16))))) [2, 3]), (.mk (.mk (some 18) none (.m (.pu (.fa 4 (.t 17))))) [4]), (.mk (.mk (some 19) none (.m (.ld false 1 (.t 18)))) [5]), (.mk (.mk (some 20) none (.call 53 [(.t 13), (.t 19)])) [0, 6]), (.mk (.mk (some 21) none (.m (.pu (.fa 0 (.t 1))))) []), (.mk (.mk (some 22) none (.m (.ld false 1 (.t 21)))) [8]), (.mk (.mk (some 23) none (.m (.pu (.mv (.t 4))))) []), (.mk (.mk (some 24) none (.m (.pu (.ix 6 (.t 22) (.t 23))))) [9, 10]), (.mk (.mk (some 25) none (.m (.pu (.fa 5 (.t 24))))) [11]), (.mk (.mk (some 26) none (.m (.ld false 1 (.t 25)))) [12]), (.mk (.mk (some 27) none (.call 53 [(.t 20), (.t 26)])) [7, 13, 7]), (.mk (.mk (some 3) none (.m (.pu (.mv (.t 27))))) [14, 14, 0, 1, 2, 3, 4, 5, 6, 7, 8, 9, 10, 11, 12, 13, 14])]
def fg_ref18_days_0 : Fg := ⟨[(1, none), (3, some (.sl tI)), (4, some tI)], [(1, some tyPolicy)]⟩
def tb_ref18_days_0 : TC := (.sq (.sq (.reg [(.mk (some 6) none (.m (.pu (.mv (.t 4))))), (.mk (some 7) none (.m (.pu (.fa 0 (.t 1))))), (.mk (some 8) none (.m (.ld false 1 (.t 7)))), (.mk (some 9) none (.m (.pu (.len false (.t 8))))), (.mk (some 10) none (.m (.pu (.bin false .lss (.t 6) (.t 9)))))]) (.cd (.t 10) .sk (.fg ⟨[(3, some (.sl tI))], []⟩ (.ex 0)))) (.sq (.bk 1 (.dr dr_ref18_days_0 [(0, []), (1, [1]), (2, [1]), (3, []), (4, []), (5, []), (6, []), (7, []), (8, [1]), (9, [1]), (10, []), (11, []), (12, []), (13, []), (14, []), (15, [])] (.of [0, 1, 2, 3, 4, 5, 6, 7, 8, 9, 10, 11, 12, 13, 14, 15]))) (.reg [(.mk (some 11) none (.m (.pu (.mv (.t 4))))), (.mk (some 12) none (.m (.pu (.bin false .add (.t 11) (.c (.v (.int .i64 1))))))), (.mk (some 4) none (.m (.pu (.mv (.t 12)))))])))
/-- cipherplan/cipherplanref18.days -/
def tc_ref18_days : TC := (.sq (.reg [(.mk (some 1) none (.m (.box (.t 0)))), (.mk (some 2) none (.m (.pu (.mv (.c (.v (.slice none 0 0)))))))]) (.sq (.reg [(.mk (some 5) none (.m (.bs 3 1 2 [(.v (.int .i64 0)), (.v (.int .i64 0))] [(0, 1, (.c (.v (.int .i64 0)))), (1, 1, (.c (.v (.int .i64 40001))))]))), (.mk (some 3) none (.m (.pu (.mv (.t 5)))))]) (.sq (.sq (.reg [(.mk (some 4) none (.m (.pu (.mv (.c (.v (.int .i64 0)))))))]) (.bk 0 (.lp 0 fg_ref18_days_0 tb_ref18_days_0))) (.sq (.reg [(.mk (some 28) none (.m (.pu (.mv (.t 3))))), (.mk (some 2) none (.m (.pu (.mv (.t 28)))))]) .rt))))
def rv_ref18_days : List (RV × Option Ty) := [((.t 2), some (.sl tI))]
abbrev sh_ref18_days_0 : Sh := ⟨[(1, .ptr 1 0), (3, .ty (.sl tI)), (4, .ty tI)], [(1, .box tyPolicy)]⟩
def st_ref18_days_0 (x3 : (List Int)) (x4 : Int) (y1 : Policy) : VS := sh_ref18_days_0.st ((), x3, x4, ()) (y1, ())
abbrev sh_ref18_days_0_e0 : Sh := ⟨[(3, .ty (.sl tI))], []⟩
def st_ref18_days_0_e0 (x3 : (List Int)) : VS := sh_ref18_days_0_e0.st (x3, ()) ()
-- loop 0: (x3 : (List Int)) (x4 : Int) (y1 : Policy); out: ('exit', 0) (x3 : (List Int))
def L_ref18_days_0 : VS → Option (Bool × List (Bool × Exit × VS)) := mkL sh_ref18_days_0 (fun x y => (decide (0 ≤ x.2.2.1 ∧ x.2.2.1 ≤ y.1.1.length ∧ y.1.1.length ≤ 100000 ∧ (x.2.1.length : Int) ≤ 2 + 2 * x.2.2.1))) (fun x y => [(true, .exit 0, st_ref18_days_0_e0 (cutsZ x.2.1 (y.1.1.drop x.2.2.1.toNat)))])
def g_ref18_days : G := ⟨TYs, [], 29, EL [(53, sp_ref18_put)], keeps, (Ls [L_ref18_days_0]), IL [], RL []⟩
def b_ref18_days_0 (x3 : (List Int)) (x4 : Int) (y1 : Policy) : Option (Exit × VS) :=
  br ((ilt x4 (llen y1.1)))
    (br (cIx y1.1 x4)
      (br ((putOk x3 ((((((lgt tyRule y1.1 (Int.toNat x4)).2).2).2).2).1)))
        (br (cIx y1.1 x4)
          (br ((putOk (insL x3 ((((((lgt tyRule y1.1 (Int.toNat x4)).2).2).2).2).1)) (((((((lgt tyRule y1.1 (Int.toNat x4)).2).2).2).2).2).1)))
            (some (.normal, st_ref18_days_0 (insL (insL x3 ((((((lgt tyRule y1.1 (Int.toNat x4)).2).2).2).2).1)) (((((((lgt tyRule y1.1 (Int.toNat x4)).2).2).2).2).2).1)) (iadd .i64 x4 1) y1))
            (none))
          (none))
        (none))
      (none))
    (some (.exit 0, st_ref18_days_0_e0 x3))
noncomputable def lp_ref18_days_0 (x3 : (List Int)) (x4 : Int) (y1 : Policy) : Option (Exit × VS) := loopF (roundF g_ref18_days fg_ref18_days_0 tb_ref18_days_0) (st_ref18_days_0 x3 x4 y1)
noncomputable def n_ref18_days_0 (x3 : (List Int)) (x4 : Int) (y1 : Policy) : Option (Exit × VS) :=
  br ((ilt x4 (llen y1.1)))
    (br (cIx y1.1 x4)
      (br ((putOk x3 ((((((lgt tyRule y1.1 (Int.toNat x4)).2).2).2).2).1)))
        (br (cIx y1.1 x4)
          (br ((putOk (insL x3 ((((((lgt tyRule y1.1 (Int.toNat x4)).2).2).2).2).1)) (((((((lgt tyRule y1.1 (Int.toNat x4)).2).2).2).2).2).1)))
            (lp_ref18_days_0 (insL (insL x3 ((((((lgt tyRule y1.1 (Int.toNat x4)).2).2).2).2).1)) (((((((lgt tyRule y1.1 (Int.toNat x4)).2).2).2).2).2).1)) (iadd .i64 x4 1) y1)
            (none))
          (none))
        (none))
      (none))
    (some (.exit 0, st_ref18_days_0_e0 x3))
def la_ref18_days_0 (x3 : (List Int)) (x4 : Int) (y1 : Policy) : Option (Exit × VS) := some (.exit 0, st_ref18_days_0_e0 (cutsZ x3 (y1.1.drop x4.toNat)))
theorem be_ref18_days_0 (x3 : (List Int)) (x4 : Int) (y1 : Policy) : roundF g_ref18_days fg_ref18_days_0 tb_ref18_days_0 (st_ref18_days_0 x3 x4 y1) = b_ref18_days_0 x3 x4 y1 := by kernel_rfl
theorem ln_ref18_days_0 (x3 : (List Int)) (x4 : Int) (y1 : Policy) : lp_ref18_days_0 x3 x4 y1 = n_ref18_days_0 x3 x4 y1 := (loopF_nxt _ _).trans (by
  rw [be_ref18_days_0]
  simp only [b_ref18_days_0, n_ref18_days_0, nxt_br, nxt_n, nxt_r, nxt_e, nxt_0]
  rfl)
def r_ref18_days (p0 : Policy) : Option (V × List VO) :=
  br ((decide (0 ≤ (0 : Int) ∧ (0 : Int) ≤ p0.1.length ∧ p0.1.length ≤ 100000 ∧ (([0, 40001]).length : Int) ≤ 2 + 2 * (0 : Int))))
    (some (.t (.sl tI) (cutsZ ([0, 40001]) (p0.1.drop (0 : Int).toNat)), []))
    (none)
theorem e_ref18_days (p0 : Policy) : runF g_ref18_days tc_ref18_days rv_ref18_days false [.t tyPolicy p0] [] = r_ref18_days p0 := by kernel_rfl
theorem ok_ref18_days : Option.map (trC Try.prog) Try.f36.body = some tc_ref18_days.er := by kernel_rfl
theorem rok_ref18_days : trVs Try.prog Try.f36.results.toList = some (rv_ref18_days.map Prod.fst) := by kernel_rfl
theorem en_ref18_days : Entered Try.prog 36 := .inr ⟨by decide, _, Try.func36, by kernel_rfl, by kernel_rfl⟩
theorem gk_ref18_days : GOk Try.prog g_ref18_days := gok_of _ (by
  intro p hp
  simp only [List.mem_cons, List.not_mem_nil, or_false] at hp
  rcases hp with rfl
  · exact ⟨en_ref18_put, ms_ref18_put⟩)
theorem l_ref18_days_0 (x3 : (List Int)) (x4 : Int) (y1 : Policy) (h : (decide (0 ≤ x4 ∧ x4 ≤ y1.1.length ∧ y1.1.length ≤ 100000 ∧ (x3.length : Int) ≤ 2 + 2 * x4)) = true) : lp_ref18_days_0 x3 x4 y1 = la_ref18_days_0 x3 x4 y1 := by
  simp only [decide_eq_true_eq] at h
  obtain ⟨h1, h2, h3, h4⟩ := h
  obtain ⟨k, rfl⟩ := Int.eq_ofNat_of_zero_le h1
  revert x3
  refine range_ind y1.1 (fun k => ∀ x3 : List Int, (x3.length : Int) ≤ 2 + 2 * (k : Int) → lp_ref18_days_0 x3 (k : Int) y1 = la_ref18_days_0 x3 (k : Int) y1) ?_ ?_ k (by omega)
  · intro x3 _
    rw [ln_ref18_days_0]
    simp [n_ref18_days_0, la_ref18_days_0, ilt_nat, llen, br_false, cutsZ]
  · intro k hk ih x3 hy
    rw [ln_ref18_days_0]
    have l1 := insL_len y1.1[k].2.2.2.2.1 x3
    have l2 := insL_len y1.1[k].2.2.2.2.2.1 (insL x3 y1.1[k].2.2.2.2.1)
    simp only [n_ref18_days_0, ilt_nat, llen, cIx_nat, hk, decide_true, br_true, Int.toNat_natCast, add1 (show k < 4611686018427387904 by omega), lgt_get (y := tyRule) hk]
    rw [show putOk x3 y1.1[k].2.2.2.2.1 = true by simp only [putOk, decide_eq_true_eq]; omega, br_true, show putOk (insL x3 y1.1[k].2.2.2.2.1) y1.1[k].2.2.2.2.2.1 = true by simp only [putOk, decide_eq_true_eq]; omega, br_true, ih _ (by omega)]
    simp only [la_ref18_days_0, Int.toNat_natCast, List.drop_eq_getElem_cons hk, cutsZ, List.foldl_cons]
theorem lo_ref18_days_0 : ∀ S l p, g_ref18_days.L 0 (fgt fg_ref18_days_0 S) = some (true, l) → pickA l = some p → loopF (roundF g_ref18_days fg_ref18_days_0 tb_ref18_days_0) S = some p :=
  lok_of (s := sh_ref18_days_0) ⟨by decide, by decide⟩ (by kernel_rfl) fun x y hok p hp => by
  simp only [pickA_br, pickA_one] at hp
  exact (l_ref18_days_0 x.2.1 x.2.2.1 y.1 (by simpa using hok)).trans hp
theorem lk_ref18_days : tc_ref18_days.lok g_ref18_days := by
  repeat (first | exact trivial | exact lo_ref18_days_0 | refine ⟨?_, ?_⟩)
theorem s_ref18_days (y : Policy) (h : polLen y = true) : r_ref18_days y = some (.t (.sl tI) (daysF y), []) := by
  simp only [polLen, lenOk5, Bool.and_eq_true, decide_eq_true_eq] at h
  simp only [r_ref18_days, Int.toNat_zero, List.drop_zero]
  rw [dec_true ⟨Int.le_refl 0, by omega, h.1, by decide⟩, br_true, daysF, cuts_eq]
  rfl
def sp_ref18_days : Ent := spec (.pr tyPolicy .nil) (fun x => (polLen x.1)) (fun x => (.t (.sl tI) (daysF x.1)))
theorem ms_ref18_days : Meets Try.prog 36 (strip sp_ref18_days) := by
  obtain ⟨c, hc, hi⟩ := Option.map_eq_some_iff.1 ok_ref18_days
  exact meets_spec (R := runF g_ref18_days tc_ref18_days rv_ref18_days false) (meets_of (by decide) Try.func36 hc hi Try.ntmps36 rok_ref18_days gk_ref18_days lk_ref18_days mixed) fun x hok => (e_ref18_days x.1).trans (s_ref18_days x.1 hok)
end Go.Proofs.Ytfehjdaielifiaa.K
