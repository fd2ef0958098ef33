/-
  The answer of verdict: Keep.
-/
import Derived.Test.YtfehjdaielifiaaGreatV11
import Derived.Test.YtfehjdaielifiaaGreatV3
set_option linter.unusedSimpArgs false
set_option linter.unusedVariables false
namespace Go.Proofs.YtfehjdaielifiaaGreat.K
open Go.RowKit
/-! Keep -/
def keepL (l : List Keep) (p : Int) : Option Int := l.foldl (fun o k => if k.1 == p then some k.2.1 else o) none
theorem keepL_app (l : List Keep) (a : Keep) (p : Int) : keepL (l ++ [a]) p = if a.1 == p then some a.2.1 else keepL l p := by
  unfold keepL
  rw [List.foldl_append]
  rfl
theorem keepF_eq (y : Policy) (p : Int) : keepF y p = (keepL y.2.1 p).getD 0 := by
  have h : ∀ l : List Keep, keepZ (backL l) p = keepL l p := by
    intro l
    induction l using rev_ind with
    | h0 => rfl
    | h1 l a ih =>
      rw [keepL_app, ← ih, back_app]
      unfold keepZ
      rw [List.find?_cons]
      cases a.1 == p <;> rfl
  unfold keepF
  rw [h]
def keepLen (y : Policy) (_p : Int) : Bool := lenOk5 y.2.1
def fg_f58_0 : Fg := ⟨[(1, some tI), (2, none), (5, some tI)], [(2, some tyPolicy)]⟩
def tb_f58_0 : TC := (.sq (.sq (.reg [(oV 10 5), (oP 11 (.bin false .geq (.t 10) (cI 0)))]) (.cd (.t 11) .sk (.fg ⟨[], []⟩ (.ex 0)))) (.sq (.bk 1 (.sq (.reg [(oP 14 (.fa 1 (.t 2))), (oL 15 14), (oV 16 5), (oP 17 (.ix 2 (.t 15) (.t 16))), (oP 18 (.fa 0 (.t 17))), (oL 19 18), (oV 20 1), (oP 21 (.bin false .eql (.t 19) (.t 20)))]) (.cd (.t 21) (.sq (.reg [(oP 22 (.fa 1 (.t 2))), (oL 23 22), (oV 24 5), (oP 25 (.ix 2 (.t 23) (.t 24))), (oP 26 (.fa 1 (.t 25))), (oL 27 26), (oV 4 27)]) (.fg ⟨[(4, some tI)], []⟩ .rt)) .sk))) (.reg [(oV 12 5), (oP 13 (.bin false .sub (.t 12) (cI 1))), (oV 5 13)])))
/-- cipherplan/cipherplanref18.Keep -/
def tc_f58 : TC := (.sq (.reg [(oM 2 (.box (.t 0))), (oP 4 (.mv (cI 0)))]) (.sq (.sq (.reg [(oP 6 (.fa 1 (.t 2))), (oL 7 6), (oP 8 (.len false (.t 7))), (oP 9 (.bin false .sub (.t 8) (cI 1))), (oV 5 9)]) (.bk 0 (.lp 0 fg_f58_0 tb_f58_0))) (.sq (.reg [(oP 4 (.mv (cI 0)))]) .rt)))
def rv_f58 : List (RV × Option Ty) := [((.t 4), some tI)]
abbrev sh_f58_0 : Sh := ⟨[(1, .ty tI), (2, .ptr 2 0), (5, .ty tI)], [(2, .box tyPolicy)]⟩
def st_f58_0 (x1 : Int) (x5 : Int) (y2 : Policy) : VS := sh_f58_0.st (x1, (), x5, ()) (y2, ())
abbrev sh_f58_0_ret : Sh := ⟨[(4, .ty tI)], []⟩
def st_f58_0_ret (x4 : Int) : VS := sh_f58_0_ret.st (x4, ()) ()
abbrev sh_f58_0_e0 : Sh := ⟨[], []⟩
def st_f58_0_e0  : VS := sh_f58_0_e0.st () ()
-- loop 0: (x1 : Int) (x5 : Int) (y2 : Policy); out: ('ret',) (x4 : Int); ('exit', 0) 
def L_f58_0 : VS → Option (Bool × List (Bool × Exit × VS)) := mkL sh_f58_0 (fun x y => (decide (-1 ≤ x.2.2.1 ∧ x.2.2.1 < y.1.2.1.length ∧ y.1.2.1.length ≤ 100000))) (fun x y => [(((keepL (y.1.2.1.take (x.2.2.1 + 1).toNat) x.1).isSome), .ret, st_f58_0_ret ((keepL (y.1.2.1.take (x.2.2.1 + 1).toNat) x.1).getD 0)), (true, .exit 0, st_f58_0_e0)])
def g_f58 : G := ⟨TYs, [], 28, EL [], keeps, (Ls [L_f58_0]), IL [], RL []⟩
def b_f58_0 (x1 : Int) (x5 : Int) (y2 : Policy) : Option (Exit × VS) :=
  br ((ige x5 0))
    (br (cIx y2.2.1 x5)
      (br ((ieq ((lgt tyKeep y2.2.1 (Int.toNat x5)).1) x1))
        (br (cIx y2.2.1 x5)
          (some (.ret, st_f58_0_ret (((lgt tyKeep y2.2.1 (Int.toNat x5)).2).1)))
          (none))
        (some (.normal, st_f58_0 x1 (isub .i64 x5 1) y2)))
      (none))
    (some (.exit 0, st_f58_0_e0))
noncomputable def lp_f58_0 (x1 : Int) (x5 : Int) (y2 : Policy) : Option (Exit × VS) := loopF (roundF g_f58 fg_f58_0 tb_f58_0) (st_f58_0 x1 x5 y2)
noncomputable def n_f58_0 (x1 : Int) (x5 : Int) (y2 : Policy) : Option (Exit × VS) :=
  br ((ige x5 0))
    (br (cIx y2.2.1 x5)
      (br ((ieq ((lgt tyKeep y2.2.1 (Int.toNat x5)).1) x1))
        (br (cIx y2.2.1 x5)
          (some (.ret, st_f58_0_ret (((lgt tyKeep y2.2.1 (Int.toNat x5)).2).1)))
          (none))
        (lp_f58_0 x1 (isub .i64 x5 1) y2))
      (none))
    (some (.exit 0, st_f58_0_e0))
def la_f58_0 (x1 : Int) (x5 : Int) (y2 : Policy) : Option (Exit × VS) := br ((keepL (y2.2.1.take (x5 + 1).toNat) x1).isSome) (some (.ret, st_f58_0_ret ((keepL (y2.2.1.take (x5 + 1).toNat) x1).getD 0))) <| some (.exit 0, st_f58_0_e0)
theorem be_f58_0 (x1 : Int) (x5 : Int) (y2 : Policy) : roundF g_f58 fg_f58_0 tb_f58_0 (st_f58_0 x1 x5 y2) = b_f58_0 x1 x5 y2 := by kernel_rfl
theorem ln_f58_0 (x1 : Int) (x5 : Int) (y2 : Policy) : lp_f58_0 x1 x5 y2 = n_f58_0 x1 x5 y2 := (loopF_nxt _ _).trans (by
  rw [be_f58_0]
  simp only [b_f58_0, n_f58_0, nxt_br, nxt_n, nxt_r, nxt_e, nxt_0]
  rfl)
def r_f58 (p0 : Policy) (p1 : Int) : Option (V × List VO) :=
  br ((decide (-1 ≤ (isub .i64 (llen p0.2.1) 1) ∧ (isub .i64 (llen p0.2.1) 1) < p0.2.1.length ∧ p0.2.1.length ≤ 100000)))
    (br (((keepL (p0.2.1.take ((isub .i64 (llen p0.2.1) 1) + 1).toNat) p1).isSome))
      (some (.t tI ((keepL (p0.2.1.take ((isub .i64 (llen p0.2.1) 1) + 1).toNat) p1).getD 0), []))
      (some (.t tI 0, [])))
    (none)
theorem e_f58 (p0 : Policy) (p1 : Int) : runF g_f58 tc_f58 rv_f58 false [.t tyPolicy p0, .t tI p1] [] = r_f58 p0 p1 := by kernel_rfl
theorem ok_f58 : Option.map (trC Tryz.prog) Tryz.f58.body = some tc_f58.er := by kernel_rfl
theorem rok_f58 : trVs Tryz.prog Tryz.f58.results.toList = some (rv_f58.map Prod.fst) := by kernel_rfl
theorem en_f58 : Entered Tryz.prog 58 := .inr ⟨by decide, _, Tryz.func58, by kernel_rfl, by kernel_rfl⟩
theorem gk_f58 : GOk Tryz.prog g_f58 := gok_of _ (fun p hp => by cases hp)
theorem l_f58_0 (x1 : Int) (x5 : Int) (y2 : Policy) (h : (decide (-1 ≤ x5 ∧ x5 < y2.2.1.length ∧ y2.2.1.length ≤ 100000)) = true) : lp_f58_0 x1 x5 y2 = la_f58_0 x1 x5 y2 := by
  simp only [decide_eq_true_eq] at h
  obtain ⟨h1, h2, h3⟩ := h
  obtain ⟨k, hk⟩ : ∃ k : Nat, x5 = (k : Int) - 1 := ⟨(x5 + 1).toNat, by omega⟩
  subst hk
  have h4 : k ≤ y2.2.1.length := by omega
  clear h1 h2
  induction k with
  | zero =>
    rw [ln_f58_0]
    have e1 : ige (((0 : Nat) : Int) - 1) 0 = false := rfl
    simp only [n_f58_0, e1, br_false]
    rfl
  | succ k ih =>
    rw [ln_f58_0]
    have e1 : ige (((k + 1 : Nat) : Int) - 1) 0 = true := by simp only [ige, decide_eq_true_eq]; omega
    have e2 : (((k + 1 : Nat) : Int) - 1) = (k : Int) := by omega
    have e3 : isub .i64 (k : Int) 1 = (k : Int) - 1 := isub_in (by omega)
    have hk : k < y2.2.1.length := by omega
    rw [e2] at e1 ⊢
    simp only [n_f58_0, e1, e3, br_true, cIx_nat, hk, decide_true, Int.toNat_natCast, lgt_get (y := tyKeep) hk, ih (by omega)]
    have e4 : ((k : Int) + 1).toNat = k + 1 := by omega
    have e5 : ((k : Int) - 1 + 1).toNat = k := by omega
    simp only [la_f58_0, e4, e5, take_snoc hk, keepL_app, ieq]
    cases hm : y2.2.1[k].1 == x1 with
    | true => rfl
    | false => rfl
theorem lo_f58_0 : ∀ S l p, g_f58.L 0 (fgt fg_f58_0 S) = some (true, l) → pickA l = some p → loopF (roundF g_f58 fg_f58_0 tb_f58_0) S = some p :=
  lok_of (s := sh_f58_0) ⟨by decide, by decide⟩ (by kernel_rfl) fun x y hok p hp => by
  simp only [pickA_br, pickA_one] at hp
  exact (l_f58_0 x.1 x.2.2.1 y.1 (by simpa using hok)).trans hp
theorem lk_f58 : tc_f58.lok g_f58 := by
  repeat (first | exact trivial | exact lo_f58_0 | refine ⟨?_, ?_⟩)
theorem s_f58 (y : Policy) (p : Int) (h : keepLen y p = true) : r_f58 y p = some (.t tI (keepF y p), []) := by
  have h : lenOk5 y.2.1 = true := h
  simp only [lenOk5, decide_eq_true_eq] at h
  have e1 : isub .i64 (llen y.2.1) 1 = (y.2.1.length : Int) - 1 := isub_in (by unfold llen; omega)
  have e2 : ((y.2.1.length : Int) - 1 + 1).toNat = y.2.1.length := by omega
  simp only [r_f58, e1, e2, List.take_length]
  rw [dec_true ⟨by omega, by omega, h⟩, br_true, keepF_eq]
  cases keepL y.2.1 p <;> rfl
def sp_f58 : Ent := spec (.pr tyPolicy (.pr tI .nil)) (fun x => (keepLen x.1 x.2.1)) (fun x => (.t tI (keepF x.1 x.2.1)))
theorem ms_f58 : Meets Tryz.prog 58 (strip sp_f58) := by
  obtain ⟨c, hc, hi⟩ := Option.map_eq_some_iff.1 ok_f58
  exact meets_spec (R := runF g_f58 tc_f58 rv_f58 false) (meets_of (by decide) Tryz.func58 hc hi Tryz.ntmps58 rok_f58 gk_f58 lk_f58 mixed) fun x hok => (e_f58 x.1 x.2.1).trans (s_f58 x.1 x.2.1 hok)

end Go.Proofs.YtfehjdaielifiaaGreat.K
