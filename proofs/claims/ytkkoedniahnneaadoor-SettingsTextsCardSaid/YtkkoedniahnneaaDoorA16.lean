/-
 Settings that can be printed; lists that are the same.
-/
import Derived.Test.YtkkoedniahnneaaDoorA15
set_option linter.unusedSimpArgs false
set_option linter.unusedVariables false
namespace Go.Proofs.YtkkoedniahnneaaDoor.K
open Go.RowKit
noncomputable section
theorem seq_s (a : ByteArray) : seq a a = true := by simp [seq]
theorem ieq_s (a : Int) : ieq a a = true := by simp [ieq]
theorem ine_s (a : Int) : ine a a = false := by simp [ine]
def smLp {α : Type} (a b : List α) (i : Int) : Bool := @decide (a = b ∧ a.length ≤ 100000 ∧ 0 ≤ i ∧ i ≤ a.length) (Classical.propDecidable _)
def smEq {α : Type} (a b : α) : Bool := @decide (a = b) (Classical.propDecidable _)
theorem smEq_s {α : Type} (a : α) : smEq a a = true := @decide_eq_true _ (Classical.propDecidable _) rfl
theorem smEq_of {α : Type} {a b : α} (h : smEq a b = true) : a = b := @of_decide_eq_true _ (Classical.propDecidable _) h
theorem smLp_of {α : Type} {a b : List α} {i : Int} (h : smLp a b i = true) : a = b ∧ a.length ≤ 100000 ∧ 0 ≤ i ∧ i ≤ a.length := @of_decide_eq_true _ (Classical.propDecidable _) h
theorem smLp_0 {α : Type} {a : List α} (h : a.length ≤ 100000) : smLp a a 0 = true := @decide_eq_true _ (Classical.propDecidable _) ⟨rfl, h, Int.le_refl 0, by omega⟩
def smSe (_ _ : List Setting) : Bool := true
def smSeOk (a b : List Setting) : Bool := smEq a b && decide (a.length ≤ 100000)
def dr_f50_0 : List DO := [(.mk (oV 17 0) []), (.mk (oV 18 5) []), (.mk (oP 19 (.ix 4 (.t 17) (.t 18))) [0, 1]), (.mk (oM 20 (.ld true 4 (.t 19))) [2]), (.mk (oV 21 1) []), (.mk (oV 22 5) []), (.mk (oP 23 (.ix 4 (.t 21) (.t 22))) [4, 5]), (.mk (oM 24 (.ld true 4 (.t 23))) [6]), (.mk (oP 25 (.eqs true [2, 2, 2, 0] (.t 20) (.t 24))) [3, 7])]
def fg_f50_0 : Fg := ⟨[(0, some (.sl tySetting)), (1, some (.sl tySetting)), (5, some tI)], []⟩
def tb_f50_0 : TC := (.sq (.sq (.reg [(oV 11 5), (oV 12 0), (oP 13 (.len false (.t 12))), (oP 14 (.bin false .lss (.t 11) (.t 13)))]) (.cd (.t 14) .sk (.fg ⟨[], []⟩ (.ex 0)))) (.sq (.bk 1 (.sq (.dr dr_f50_0 [(0, []), (1, []), (2, []), (3, []), (4, []), (5, []), (6, []), (7, []), (8, [])] (.of [0, 1, 2, 3, 4, 5, 6, 7, 8])) (.cd (.t 25) (.sq (.reg [(oP 4 (.mv (cB false)))]) (.fg ⟨[(4, some .bool)], []⟩ .rt)) .sk))) (.reg [(oV 15 5), (oP 16 (.bin false .add (.t 15) (cI 1))), (oV 5 16)])))
def tc_f50 : TC := (.sq (.reg [(oP 4 (.mv (cB false)))]) (.sq (.sq (.reg [(oV 6 0), (oP 7 (.len false (.t 6))), (oV 8 1), (oP 9 (.len false (.t 8))), (oP 10 (.bin false .neq (.t 7) (.t 9)))]) (.cd (.t 10) (.sq (.reg [(oP 4 (.mv (cB false)))]) .rt) .sk)) (.sq (.sq (.reg [(oP 5 (.mv (cI 0)))]) (.bk 0 (.lp 0 fg_f50_0 tb_f50_0))) (.sq (.reg [(oP 4 (.mv (cB true)))]) .rt))))
def rv_f50 : List (RV × Option Ty) := [((.t 4), some .bool)]
abbrev sh_f50_0 : Sh := ⟨[(0, .ty (.sl tySetting)), (1, .ty (.sl tySetting)), (5, .ty tI)], []⟩
def st_f50_0 (x0 : (List Setting)) (x1 : (List Setting)) (x5 : Int) : VS := sh_f50_0.st (x0, x1, x5, ()) ()
abbrev sh_f50_0_ret : Sh := ⟨[(4, .ty .bool)], []⟩
def st_f50_0_ret (x4 : Bool) : VS := sh_f50_0_ret.st (x4, ()) ()
abbrev sh_f50_0_e0 : Sh := ⟨[], []⟩
def st_f50_0_e0  : VS := sh_f50_0_e0.st () ()
-- loop 0: (x0 : (List Setting)) (x1 : (List Setting)) (x5 : Int); out: ('ret',) (x4 : Bool); ('exit', 0)
def L_f50_0 : VS → Option (Bool × List (Bool × Exit × VS)) := mkL sh_f50_0 (fun x y => (smLp x.1 x.2.1 x.2.2.1)) (fun x y => [((false), .ret, st_f50_0_ret (false)), (true, .exit 0, st_f50_0_e0)])
def g_f50 : G := ⟨TYs, [], 26, EL [], keeps, (Ls [L_f50_0]), IL [], RL []⟩
def b_f50_0 (x0 : (List Setting)) (x1 : (List Setting)) (x5 : Int) : Option (Exit × VS) :=
 br ((ilt x5 (llen x0)))
  (br (cIx x0 x5)
   (br (cIx x1 x5)
    (br ((!(and (seq ((lgt tySetting x0 (Int.toNat x5)).1) ((lgt tySetting x1 (Int.toNat x5)).1)) (and (seq (((lgt tySetting x0 (Int.toNat x5)).2).1) (((lgt tySetting x1 (Int.toNat x5)).2).1)) (and (seq ((((lgt tySetting x0 (Int.toNat x5)).2).2).1) ((((lgt tySetting x1 (Int.toNat x5)).2).2).1)) (and (ieq (((((lgt tySetting x0 (Int.toNat x5)).2).2).2).1) (((((lgt tySetting x1 (Int.toNat x5)).2).2).2).1)) true))))))
     (some (.ret, st_f50_0_ret false))
     (some (.normal, st_f50_0 x0 x1 (iadd .i64 x5 1))))
    (none))
   (none))
  (some (.exit 0, st_f50_0_e0))
noncomputable def lp_f50_0 (x0 : (List Setting)) (x1 : (List Setting)) (x5 : Int) : Option (Exit × VS) := loopF (roundF g_f50 fg_f50_0 tb_f50_0) (st_f50_0 x0 x1 x5)
noncomputable def n_f50_0 (x0 : (List Setting)) (x1 : (List Setting)) (x5 : Int) : Option (Exit × VS) :=
 br ((ilt x5 (llen x0)))
  (br (cIx x0 x5)
   (br (cIx x1 x5)
    (br ((!(and (seq ((lgt tySetting x0 (Int.toNat x5)).1) ((lgt tySetting x1 (Int.toNat x5)).1)) (and (seq (((lgt tySetting x0 (Int.toNat x5)).2).1) (((lgt tySetting x1 (Int.toNat x5)).2).1)) (and (seq ((((lgt tySetting x0 (Int.toNat x5)).2).2).1) ((((lgt tySetting x1 (Int.toNat x5)).2).2).1)) (and (ieq (((((lgt tySetting x0 (Int.toNat x5)).2).2).2).1) (((((lgt tySetting x1 (Int.toNat x5)).2).2).2).1)) true))))))
     (some (.ret, st_f50_0_ret false))
     (lp_f50_0 x0 x1 (iadd .i64 x5 1)))
    (none))
   (none))
  (some (.exit 0, st_f50_0_e0))
def la_f50_0 (x0 : (List Setting)) (x1 : (List Setting)) (x5 : Int) : Option (Exit × VS) := br (false) (some (.ret, st_f50_0_ret (false))) <| some (.exit 0, st_f50_0_e0)
theorem be_f50_0 (x0 : (List Setting)) (x1 : (List Setting)) (x5 : Int) : roundF g_f50 fg_f50_0 tb_f50_0 (st_f50_0 x0 x1 x5) = b_f50_0 x0 x1 x5 := by kernel_rfl
theorem ln_f50_0 (x0 : (List Setting)) (x1 : (List Setting)) (x5 : Int) : lp_f50_0 x0 x1 x5 = n_f50_0 x0 x1 x5 := (loopF_nxt _ _).trans (by
 rw [be_f50_0]
 simp only [b_f50_0, n_f50_0, nxt_br, nxt_n, nxt_r, nxt_e, nxt_0]
 rfl)
def r_f50 (p0 : (List Setting)) (p1 : (List Setting)) : Option (V × List VO) :=
 br ((ine (llen p0) (llen p1)))
  (some (.t .bool false, []))
  (br ((smLp p0 p1 (0 : Int)))
   (br ((false))
    (some (.t .bool (false), []))
    (some (.t .bool true, [])))
   (none))
theorem e_f50 (p0 : (List Setting)) (p1 : (List Setting)) : runF g_f50 tc_f50 rv_f50 false [.t (.sl tySetting) p0, .t (.sl tySetting) p1] [] = r_f50 p0 p1 := by kernel_rfl
theorem ok_f50 : Option.map (trC Tryd.prog) Tryd.f50.body = some tc_f50.er := by kernel_rfl
theorem rok_f50 : trVs Tryd.prog Tryd.f50.results.toList = some (rv_f50.map Prod.fst) := by kernel_rfl
theorem en_f50 : Entered Tryd.prog 50 := .inr ⟨by decide, _, Tryd.func50, by kernel_rfl, by kernel_rfl⟩
theorem gk_f50 : GOk Tryd.prog g_f50 := gok_of _ (fun p hp => by cases hp)
theorem l_f50_0 (x0 : (List Setting)) (x1 : (List Setting)) (x5 : Int) (h : (smLp x0 x1 x5) = true) : lp_f50_0 x0 x1 x5 = la_f50_0 x0 x1 x5 := by
 obtain ⟨rfl, h2, h3, h4⟩ := smLp_of h
 obtain ⟨k, rfl⟩ := Int.eq_ofNat_of_zero_le h3
 refine range_ind x0 (fun k => lp_f50_0 x0 x0 (k : Int) = la_f50_0 x0 x0 (k : Int)) ?_ ?_ k (by omega)
 ·rw [ln_f50_0]
  simp only [n_f50_0, la_f50_0, ilt_nat, llen, Nat.lt_irrefl, decide_false, br_false]
 ·intro k hk ih
  rw [ln_f50_0]
  simp only [n_f50_0, ilt_nat, llen, cIx_nat, hk, decide_true, br_true, Int.toNat_natCast, add1 (show k < 4611686018427387904 by omega), seq_s, ieq_s, Bool.and_self, Bool.not_true, br_false, ih, la_f50_0]
theorem lo_f50_0 : ∀ S l p, g_f50.L 0 (fgt fg_f50_0 S) = some (true, l) → pickA l = some p → loopF (roundF g_f50 fg_f50_0 tb_f50_0) S = some p :=
 lok_of (s := sh_f50_0) ⟨by decide, by decide⟩ (by kernel_rfl) fun x y hok p hp => by
 simp only [pickA_br, pickA_one] at hp
 exact (l_f50_0 x.1 x.2.1 x.2.2.1 (by simpa using hok)).trans hp
theorem lk_f50 : tc_f50.lok g_f50 := by
 repeat (first | exact trivial | exact lo_f50_0 | refine ⟨?_, ?_⟩)
theorem s_f50 (a b : List Setting) (h : smSeOk a b = true) : r_f50 a b = some (.t .bool (smSe a b), []) := by
 obtain ⟨h1, h2⟩ := Bool.and_eq_true_iff.1 h
 obtain rfl := smEq_of h1
 unfold r_f50
 rw [ine_s, br_false]
 refine brY (smLp_0 (of_decide_eq_true h2)) rfl
def sp_f50 : Ent := spec (.pr (.sl tySetting) (.pr (.sl tySetting) .nil)) (fun x => (smSeOk x.1 x.2.1)) (fun x => (.t .bool (smSe x.1 x.2.1)))
theorem ms_f50 : Meets Tryd.prog 50 (strip sp_f50) := by
 obtain ⟨c, hc, hi⟩ := Option.map_eq_some_iff.1 ok_f50
 exact meets_spec (R := runF g_f50 tc_f50 rv_f50 false) (meets_of (by decide) Tryd.func50 hc hi Tryd.ntmps50 rok_f50 gk_f50 lk_f50 mixed) fun x hok => (e_f50 x.1 x.2.1).trans (s_f50 x.1 x.2.1 hok)
-- loop 0: (x0 : ByteArray) (x3 : Int); out: ('ret',) (x2 : Bool); ('exit', 0) (x0 : ByteArray)
end
end Go.Proofs.YtkkoedniahnneaaDoor.K
