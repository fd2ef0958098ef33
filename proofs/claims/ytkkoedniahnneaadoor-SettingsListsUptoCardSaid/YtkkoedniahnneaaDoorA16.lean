/-
 Settings that can be printed; lists that are the same.
-/
import Derived.Test.YtkkoedniahnneaaDoorA15
set_option linter.unusedSimpArgs false
set_option linter.unusedVariables false
namespace Go.Proofs.YtkkoedniahnneaaDoor.K
open Go.RowKit
noncomputable section
theorem sne_s (a : ByteArray) : sne a a = false := by simp [sne]
theorem seq_s (a : ByteArray) : seq a a = true := by simp [seq]
theorem sne_seq (a b : ByteArray) : sne a b = !seq a b := rfl
theorem ieq_s (a : Int) : ieq a a = true := by simp [ieq]
theorem ine_s (a : Int) : ine a a = false := by simp [ine]
def smLp {α : Type} (a b : List α) (i : Int) : Bool := @decide (a = b ∧ a.length ≤ 100000 ∧ 0 ≤ i ∧ i ≤ a.length) (Classical.propDecidable _)
def smEq {α : Type} (a b : α) : Bool := @decide (a = b) (Classical.propDecidable _)
theorem smEq_s {α : Type} (a : α) : smEq a a = true := @decide_eq_true _ (Classical.propDecidable _) rfl
theorem smEq_of {α : Type} {a b : α} (h : smEq a b = true) : a = b := @of_decide_eq_true _ (Classical.propDecidable _) h
theorem smLp_of {α : Type} {a b : List α} {i : Int} (h : smLp a b i = true) : a = b ∧ a.length ≤ 100000 ∧ 0 ≤ i ∧ i ≤ a.length := @of_decide_eq_true _ (Classical.propDecidable _) h
theorem smLp_0 {α : Type} {a : List α} (h : a.length ≤ 100000) : smLp a a 0 = true := @decide_eq_true _ (Classical.propDecidable _) ⟨rfl, h, Int.le_refl 0, by omega⟩
def smSe (_ _ : List Setting) : Bool := true
def smSeOk (a b : List Setting) : Bool := smEq a b && decide (a.length ≤ 100000)
def dr_f50_0 : List DO := [(.mk (oV 17 0) []), (.mk (oV 18 5) []), (.mk (oP 19 (.ix 4 (.t 17) (.t 18))) [0, 1]), (.mk (oM 20 (.ld true 4 (.t 19))) [2]), (.mk (oV 21 1) []), (.mk (oV 22 5) []), (.mk (oP 23 (.ix 4 (.t 21) (.t 22))) [4, 5]), (.mk (oM 24 (.ld true 4 (.t 23))) [6]), (.mk (oP 25 (.eqs true [2, 2, 2, 0] (.t 20) (.t 24))) [3, 7])]
def fg_f50_0 : Fg := ⟨[(0, some (.sl tySetting)), (1, some (.sl tySetting)), (5, some tI)], []⟩
def tb_f50_0 : TC := (.sq (.sq (.reg [(oV 11 5), (oV 12 0), (oP 13 (.len false (.t 12))), (oP 14 (.bin false .lss (.t 11) (.t 13)))]) (.cd (.t 14) .sk (.fg ⟨[], []⟩ (.ex 0)))) (.sq (.bk 1 (.sq (.dr dr_f50_0 [(0, []), (1, []), (2, []), (3, []), (4, []), (5, []), (6, []), (7, []), (8, [])] (.of [0, 1, 2, 3, 4, 5, 6, 7, 8])) (.cd (.t 25) (.sq (.reg [(oP 4 (.mv (cB false)))]) (.fg ⟨[(4, some .bool)], []⟩ .rt)) .sk))) (.reg [(oV 15 5), (oP 16 (.bin false .add (.t 15) (cI 1))), (oV 5 16)])))
def tc_f50 : TC := (.sq (.reg [(oP 4 (.mv (cB false)))]) (.sq (.sq (.reg [(oV 6 0), (oP 7 (.len false (.t 6))), (oV 8 1), (oP 9 (.len false (.t 8))), (oP 10 (.bin false .neq (.t 7) (.t 9)))]) (.cd (.t 10) (.sq (.reg [(oP 4 (.mv (cB false)))]) .rt) .sk)) (.sq (.sq (.reg [(oP 5 (.mv (cI 0)))]) (.bk 0 (.lp 0 fg_f50_0 tb_f50_0))) (.sq (.reg [(oP 4 (.mv (cB true)))]) .rt))))
def rv_f50 : List (RV × Option Ty) := [((.t 4), some .bool)]
abbrev sh_f50_0 : Sh := ⟨[(0, .ty (.sl tySetting)), (1, .ty (.sl tySetting)), (5, .ty tI)], []⟩
def st_f50_0 (x0 : (List Setting)) (x1 : (List Setting)) (x5 : Int) : VS := sh_f50_0.st (x0, x1, x5, ()) ()
abbrev sh_f50_0_ret : Sh := ⟨[(4, .ty .bool)], []⟩
def st_f50_0_ret (x4 : Bool) : VS := sh_f50_0_ret.st (x4, ()) ()
abbrev sh_f50_0_e0 : Sh := ⟨[], []⟩
def st_f50_0_e0  : VS := sh_f50_0_e0.st () ()
-- loop 0: (x0 : (List Setting)) (x1 : (List Setting)) (x5 : Int); out: ('ret',) (x4 : Bool); ('exit', 0)
def L_f50_0 : VS → Option (Bool × List (Bool × Exit × VS)) := mkL sh_f50_0 (fun x y => (smLp x.1 x.2.1 x.2.2.1)) (fun x y => [((false), .ret, st_f50_0_ret (false)), (true, .exit 0, st_f50_0_e0)])
def g_f50 : G := ⟨TYs, [], 26, EL [], keeps, (Ls [L_f50_0]), IL [], RL []⟩
def b_f50_0 (x0 : (List Setting)) (x1 : (List Setting)) (x5 : Int) : Option (Exit × VS) :=
 br ((ilt x5 (llen x0)))
  (br (cIx x0 x5)
   (br (cIx x1 x5)
    (br ((!(and (seq ((lgt tySetting x0 (Int.toNat x5)).1) ((lgt tySetting x1 (Int.toNat x5)).1)) (and (seq (((lgt tySetting x0 (Int.toNat x5)).2).1) (((lgt tySetting x1 (Int.toNat x5)).2).1)) (and (seq ((((lgt tySetting x0 (Int.toNat x5)).2).2).1) ((((lgt tySetting x1 (Int.toNat x5)).2).2).1)) (and (ieq (((((lgt tySetting x0 (Int.toNat x5)).2).2).2).1) (((((lgt tySetting x1 (Int.toNat x5)).2).2).2).1)) true))))))
     (some (.ret, st_f50_0_ret false))
     (some (.normal, st_f50_0 x0 x1 (iadd .i64 x5 1))))
    (none))
   (none))
  (some (.exit 0, st_f50_0_e0))
noncomputable def lp_f50_0 (x0 : (List Setting)) (x1 : (List Setting)) (x5 : Int) : Option (Exit × VS) := loopF (roundF g_f50 fg_f50_0 tb_f50_0) (st_f50_0 x0 x1 x5)
noncomputable def n_f50_0 (x0 : (List Setting)) (x1 : (List Setting)) (x5 : Int) : Option (Exit × VS) :=
 br ((ilt x5 (llen x0)))
  (br (cIx x0 x5)
   (br (cIx x1 x5)
    (br ((!(and (seq ((lgt tySetting x0 (Int.toNat x5)).1) ((lgt tySetting x1 (Int.toNat x5)).1)) (and (seq (((lgt tySetting x0 (Int.toNat x5)).2).1) (((lgt tySetting x1 (Int.toNat x5)).2).1)) (and (seq ((((lgt tySetting x0 (Int.toNat x5)).2).2).1) ((((lgt tySetting x1 (Int.toNat x5)).2).2).1)) (and (ieq (((((lgt tySetting x0 (Int.toNat x5)).2).2).2).1) (((((lgt tySetting x1 (Int.toNat x5)).2).2).2).1)) true))))))
     (some (.ret, st_f50_0_ret false))
     (lp_f50_0 x0 x1 (iadd .i64 x5 1)))
    (none))
   (none))
  (some (.exit 0, st_f50_0_e0))
def la_f50_0 (x0 : (List Setting)) (x1 : (List Setting)) (x5 : Int) : Option (Exit × VS) := br (false) (some (.ret, st_f50_0_ret (false))) <| some (.exit 0, st_f50_0_e0)
theorem be_f50_0 (x0 : (List Setting)) (x1 : (List Setting)) (x5 : Int) : roundF g_f50 fg_f50_0 tb_f50_0 (st_f50_0 x0 x1 x5) = b_f50_0 x0 x1 x5 := by kernel_rfl
theorem ln_f50_0 (x0 : (List Setting)) (x1 : (List Setting)) (x5 : Int) : lp_f50_0 x0 x1 x5 = n_f50_0 x0 x1 x5 := (loopF_nxt _ _).trans (by
 rw [be_f50_0]
 simp only [b_f50_0, n_f50_0, nxt_br, nxt_n, nxt_r, nxt_e, nxt_0]
 rfl)
def r_f50 (p0 : (List Setting)) (p1 : (List Setting)) : Option (V × List VO) :=
 br ((ine (llen p0) (llen p1)))
  (some (.t .bool false, []))
  (br ((smLp p0 p1 (0 : Int)))
   (br ((false))
    (some (.t .bool (false), []))
    (some (.t .bool true, [])))
   (none))
theorem e_f50 (p0 : (List Setting)) (p1 : (List Setting)) : runF g_f50 tc_f50 rv_f50 false [.t (.sl tySetting) p0, .t (.sl tySetting) p1] [] = r_f50 p0 p1 := by kernel_rfl
theorem ok_f50 : Option.map (trC Tryd.prog) Tryd.f50.body = some tc_f50.er := by kernel_rfl
theorem rok_f50 : trVs Tryd.prog Tryd.f50.results.toList = some (rv_f50.map Prod.fst) := by kernel_rfl
theorem en_f50 : Entered Tryd.prog 50 := .inr ⟨by decide, _, Tryd.func50, by kernel_rfl, by kernel_rfl⟩
theorem gk_f50 : GOk Tryd.prog g_f50 := gok_of _ (fun p hp => by cases hp)
theorem l_f50_0 (x0 : (List Setting)) (x1 : (List Setting)) (x5 : Int) (h : (smLp x0 x1 x5) = true) : lp_f50_0 x0 x1 x5 = la_f50_0 x0 x1 x5 := by
 obtain ⟨rfl, h2, h3, h4⟩ := smLp_of h
 obtain ⟨k, rfl⟩ := Int.eq_ofNat_of_zero_le h3
 refine range_ind x0 (fun k => lp_f50_0 x0 x0 (k : Int) = la_f50_0 x0 x0 (k : Int)) ?_ ?_ k (by omega)
 ·rw [ln_f50_0]
  simp only [n_f50_0, la_f50_0, ilt_nat, llen, Nat.lt_irrefl, decide_false, br_false]
 ·intro k hk ih
  rw [ln_f50_0]
  simp only [n_f50_0, ilt_nat, llen, cIx_nat, hk, decide_true, br_true, Int.toNat_natCast, add1 (show k < 4611686018427387904 by omega), seq_s, ieq_s, Bool.and_self, Bool.not_true, br_false, ih, la_f50_0]
theorem lo_f50_0 : ∀ S l p, g_f50.L 0 (fgt fg_f50_0 S) = some (true, l) → pickA l = some p → loopF (roundF g_f50 fg_f50_0 tb_f50_0) S = some p :=
 lok_of (s := sh_f50_0) ⟨by decide, by decide⟩ (by kernel_rfl) fun x y hok p hp => by
 simp only [pickA_br, pickA_one] at hp
 exact (l_f50_0 x.1 x.2.1 x.2.2.1 (by simpa using hok)).trans hp
theorem lk_f50 : tc_f50.lok g_f50 := by
 repeat (first | exact trivial | exact lo_f50_0 | refine ⟨?_, ?_⟩)
theorem s_f50 (a b : List Setting) (h : smSeOk a b = true) : r_f50 a b = some (.t .bool (smSe a b), []) := by
 obtain ⟨h1, h2⟩ := Bool.and_eq_true_iff.1 h
 obtain rfl := smEq_of h1
 unfold r_f50
 rw [ine_s, br_false]
 refine brY (smLp_0 (of_decide_eq_true h2)) rfl
def sp_f50 : Ent := spec (.pr (.sl tySetting) (.pr (.sl tySetting) .nil)) (fun x => (smSeOk x.1 x.2.1)) (fun x => (.t .bool (smSe x.1 x.2.1)))
theorem ms_f50 : Meets Tryd.prog 50 (strip sp_f50) := by
 obtain ⟨c, hc, hi⟩ := Option.map_eq_some_iff.1 ok_f50
 exact meets_spec (R := runF g_f50 tc_f50 rv_f50 false) (meets_of (by decide) Tryd.func50 hc hi Tryd.ntmps50 rok_f50 gk_f50 lk_f50 mixed) fun x hok => (e_f50 x.1 x.2.1).trans (s_f50 x.1 x.2.1 hok)
def isVI (c : Int) : Bool := !ilt c 32 && !igt c 126
def vlZ (s : ByteArray) : Bool := (bytesL s).all isVI
def valB (s : ByteArray) : Bool := vlZ s && (seq (tB s) s && !bsl s)
def fg_f109_0 : Fg := ⟨[(0, some .str), (3, some tI)], []⟩
def tb_f109_0 : TC := (.sq (.sq (.reg [(oV 4 3), (oV 5 0), (oP 6 (.len true (.t 5))), (oP 7 (.bin false .lss (.t 4) (.t 6)))]) (.cd (.t 7) .sk (.fg ⟨[(0, some .str)], []⟩ (.ex 0)))) (.sq (.bk 1 (.sq (.reg [(oV 10 0), (oV 11 3), (oP 12 (.sx (.t 10) (.t 11))), (oP 13 (.bin false .lss (.t 12) (.c (.v (.int .u8 32))))), (oV 14 13), (oQ 15 14 false (.mv (.t 0))), (oQ 16 14 false (.mv (.t 3))), (oQ 17 14 false (.sx (.t 15) (.t 16))), (oQ 18 14 false (.bin false .gtr (.t 17) (.c (.v (.int .u8 126))))), (oP 19 (.pick (.t 14) (cB true) (.t 18)))]) (.cd (.t 19) (.sq (.reg [(oP 2 (.mv (cB false)))]) (.fg ⟨[(2, some .bool)], []⟩ .rt)) .sk))) (.reg [(oV 8 3), (oP 9 (.bin false .add (.t 8) (cI 1))), (oV 3 9)])))
def tc_f109 : TC := (.sq (.reg [(oP 2 (.mv (cB false)))]) (.sq (.sq (.reg [(oP 3 (.mv (cI 0)))]) (.bk 0 (.lp 0 fg_f109_0 tb_f109_0))) (.sq (.reg [(oV 20 0), (oC 21 91 [(.t 20)]), (oV 22 0), (oP 23 (.bin false .eql (.t 21) (.t 22))), (oV 24 23), (oQ 25 24 true (.mv (.t 0))), (oQ 26 24 true (.len true (.t 25))), (oQ 27 24 true (.bin false .eql (.t 26) (cI 0))), (oQ 28 24 true (.mv (.t 27))), (oQ 29 28 false (.mv (.t 0))), (oQ 30 28 false (.mv (.t 0))), (oQ 31 28 false (.len true (.t 30))), (oQ 32 28 false (.bin false .sub (.t 31) (cI 1))), (oQ 33 28 false (.sx (.t 29) (.t 32))), (oQ 34 28 false (.bin false .neq (.t 33) (.c (.v (.int .u8 92))))), (oQ 35 24 true (.pick (.t 28) (cB true) (.t 34))), (oP 36 (.pick (.t 24) (.t 35) (cB false))), (oV 2 36)]) .rt)))
def rv_f109 : List (RV × Option Ty) := [((.t 2), some .bool)]
abbrev sh_f109_0 : Sh := ⟨[(0, .ty .str), (3, .ty tI)], []⟩
def st_f109_0 (x0 : ByteArray) (x3 : Int) : VS := sh_f109_0.st (x0, x3, ()) ()
abbrev sh_f109_0_ret : Sh := ⟨[(2, .ty .bool)], []⟩
def st_f109_0_ret (x2 : Bool) : VS := sh_f109_0_ret.st (x2, ()) ()
abbrev sh_f109_0_e0 : Sh := ⟨[(0, .ty .str)], []⟩
def st_f109_0_e0 (x0 : ByteArray) : VS := sh_f109_0_e0.st (x0, ()) ()
-- loop 0: (x0 : ByteArray) (x3 : Int); out: ('ret',) (x2 : Bool); ('exit', 0) (x0 : ByteArray)
def L_f109_0 : VS → Option (Bool × List (Bool × Exit × VS)) := mkL sh_f109_0 (fun x y => (nameG x.1 && decide (0 ≤ x.2.1 ∧ x.2.1 ≤ x.1.size))) (fun x y => [((!(((bytesL x.1).drop x.2.1.toNat).all isVI)), .ret, st_f109_0_ret (false)), (true, .exit 0, st_f109_0_e0 (x.1))])
def g_f109 : G := ⟨TYs, [], 37, EL [(91, sp_f91)], keeps, (Ls [L_f109_0]), IL [], RL []⟩
def b_f109_0 (x0 : ByteArray) (x3 : Int) : Option (Exit × VS) :=
 br ((ilt x3 (slen x0)))
  (br (cSx x0 x3)
   (br ((ilt (sgt x0 x3) 32))
    (some (.ret, st_f109_0_ret false))
    (br (cSx x0 x3)
     (br ((igt (sgt x0 x3) 126))
      (some (.ret, st_f109_0_ret false))
      (some (.normal, st_f109_0 x0 (iadd .i64 x3 1))))
     (none)))
   (none))
  (some (.exit 0, st_f109_0_e0 x0))
noncomputable def lp_f109_0 (x0 : ByteArray) (x3 : Int) : Option (Exit × VS) := loopF (roundF g_f109 fg_f109_0 tb_f109_0) (st_f109_0 x0 x3)
noncomputable def n_f109_0 (x0 : ByteArray) (x3 : Int) : Option (Exit × VS) :=
 br ((ilt x3 (slen x0)))
  (br (cSx x0 x3)
   (br ((ilt (sgt x0 x3) 32))
    (some (.ret, st_f109_0_ret false))
    (br (cSx x0 x3)
     (br ((igt (sgt x0 x3) 126))
      (some (.ret, st_f109_0_ret false))
      (lp_f109_0 x0 (iadd .i64 x3 1)))
     (none)))
   (none))
  (some (.exit 0, st_f109_0_e0 x0))
def la_f109_0 (x0 : ByteArray) (x3 : Int) : Option (Exit × VS) := br (!(((bytesL x0).drop x3.toNat).all isVI)) (some (.ret, st_f109_0_ret (false))) <| some (.exit 0, st_f109_0_e0 (x0))
theorem be_f109_0 (x0 : ByteArray) (x3 : Int) : roundF g_f109 fg_f109_0 tb_f109_0 (st_f109_0 x0 x3) = b_f109_0 x0 x3 := by kernel_rfl
theorem ln_f109_0 (x0 : ByteArray) (x3 : Int) : lp_f109_0 x0 x3 = n_f109_0 x0 x3 := (loopF_nxt _ _).trans (by
 rw [be_f109_0]
 simp only [b_f109_0, n_f109_0, nxt_br, nxt_n, nxt_r, nxt_e, nxt_0]
 rfl)
def r_f109 (p0 : ByteArray) : Option (V × List VO) :=
 br ((nameG p0 && decide (0 ≤ (0 : Int) ∧ (0 : Int) ≤ p0.size)))
  (br ((!(((bytesL p0).drop (0 : Int).toNat).all isVI)))
   (some (.t .bool (false), []))
   (br ((nameG (p0)))
    (br ((seq (tB (p0)) (p0)))
     (br ((ieq (slen (p0)) 0))
      (some (.t .bool true, []))
      (br (cSx (p0) (isub .i64 (slen (p0)) 1))
       (some (.t .bool (ine (sgt (p0) (isub .i64 (slen (p0)) 1)) 92), []))
       (none)))
     (some (.t .bool false, [])))
    (none)))
  (none)
theorem e_f109 (p0 : ByteArray) : runF g_f109 tc_f109 rv_f109 false [.t .str p0] [] = r_f109 p0 := by kernel_rfl
theorem ok_f109 : Option.map (trC Tryd.prog) Tryd.f109.body = some tc_f109.er := by kernel_rfl
theorem rok_f109 : trVs Tryd.prog Tryd.f109.results.toList = some (rv_f109.map Prod.fst) := by kernel_rfl
theorem en_f109 : Entered Tryd.prog 109 := .inr ⟨by decide, _, Tryd.func109, by kernel_rfl, by kernel_rfl⟩
theorem gk_f109 : GOk Tryd.prog g_f109 := gok_of _ (by
 intro p hp
 simp only [List.mem_cons, List.not_mem_nil, or_false] at hp
 rcases hp with rfl
 ·exact ⟨en_f91, ms_f91⟩)
theorem vl_tree (a b : Bool) {β : Type} (L R : Option β) : br a L (br b L R) = br (!a && !b) R L := by cases a <;> cases b <;> rfl
theorem l_f109_0 (x0 : ByteArray) (x3 : Int) (h : (nameG x0 && decide (0 ≤ x3 ∧ x3 ≤ x0.size)) = true) : lp_f109_0 x0 x3 = la_f109_0 x0 x3 := by
 simp only [nameG, Bool.and_eq_true, decide_eq_true_eq] at h
 obtain ⟨h0, h1, h2⟩ := h
 obtain ⟨k, rfl⟩ := Int.eq_ofNat_of_zero_le h1
 have hl := bytesG_len x0
 refine range_ind (bytesL x0) (fun k => lp_f109_0 x0 (k : Int) = la_f109_0 x0 (k : Int)) ?_ ?_ k (by omega)
 ·rw [ln_f109_0]
  simp [n_f109_0, la_f109_0, ilt, slen, hl, br_false, List.drop_eq_nil_of_le (show (bytesL x0).length ≤ x0.size by omega)]
 ·intro k hk ih
  have hk2 : k < x0.size := by omega
  rw [ln_f109_0]
  simp only [n_f109_0, show ilt (k : Int) (slen x0) = true from by simp only [ilt, slen, decide_eq_true_eq]; omega, show cSx x0 (k : Int) = true from by simp only [cSx, decide_eq_true_eq]; omega, br_true, sgt_get hk2, add1G (show k < 9223372036854775807 by omega), ih]
  simp only [la_f109_0, Int.toNat_natCast, List.drop_eq_getElem_cons hk, List.all_cons]
  rw [vl_tree]
  show br (isVI (bytesL x0)[k]) _ _ = _
  cases isVI (bytesL x0)[k] <;> rfl
theorem lo_f109_0 : ∀ S l p, g_f109.L 0 (fgt fg_f109_0 S) = some (true, l) → pickA l = some p → loopF (roundF g_f109 fg_f109_0 tb_f109_0) S = some p :=
 lok_of (s := sh_f109_0) ⟨by decide, by decide⟩ (by kernel_rfl) fun x y hok p hp => by
 simp only [pickA_br, pickA_one] at hp
 exact (l_f109_0 x.1 x.2.1 (by simpa using hok)).trans hp
theorem lk_f109 : tc_f109.lok g_f109 := by
 repeat (first | exact trivial | exact lo_f109_0 | refine ⟨?_, ?_⟩)
theorem s_f109 (s : ByteArray) (h : nameG s = true) : r_f109 s = some (.t .bool (valB s), []) := by
 unfold r_f109 valB
 refine brY ?_ ?_
 ·rw [h, Bool.true_and]
  exact decide_eq_true ⟨Int.le_refl 0, by omega⟩
 ·rw [Int.toNat_zero, List.drop_zero]
  show br (!vlZ s) _ _ = _
  cases vlZ s with
  | false => rfl
  | true =>
   rw [Bool.not_true, br_false, h, br_true]
   have h : s.size ≤ 9223372036854775807 := of_decide_eq_true h
   cases seq (tB s) s with
   | false => rfl
   | true =>
    rw [br_true]
    rcases Nat.eq_zero_or_pos s.size with h0 | h0
    ·obtain rfl : s = ⟨#[]⟩ := bl_ext (by rw [List.eq_nil_of_length_eq_zero (show (bl s).length = 0 by rw [bl_len]; exact h0)])
     rfl
    ·rw [show ieq (slen s) 0 = false by simp only [ieq, slen]; exact beq_eq_false_iff_ne.2 (by omega), br_false]
     rcases bsl_dec h0 (some (V.t .bool false, ([] : List VO))) (some (V.t .bool true, [])) with hb | hb
     ·refine Eq.trans ?_ (hb.trans ?_)
      ·unfold ine bne ieq
       cases (sgt s (isub .i64 (slen s) 1) == 92) <;> rfl
      ·cases bsl s <;> rfl
     ·omega
def sp_f109 : Ent := spec (.pr .str .nil) (fun x => (nameG x.1)) (fun x => (.t .bool (valB x.1)))
theorem ms_f109 : Meets Tryd.prog 109 (strip sp_f109) := by
 obtain ⟨c, hc, hi⟩ := Option.map_eq_some_iff.1 ok_f109
 exact meets_spec (R := runF g_f109 tc_f109 rv_f109 false) (meets_of (by decide) Tryd.func109 hc hi Tryd.ntmps109 rok_f109 gk_f109 lk_f109 mixed) fun x hok => (e_f109 x.1).trans (s_f109 x.1 hok)
def rgtB (x : Setting) : Bool := (seq x.1 (ByteArray.mk #[]) || wrdB x.1) && (wrdB x.2.1 && valB x.2.2.1)
def rgtOk (x : Setting) : Bool := nameG x.1 && (nameG x.2.1 && nameG x.2.2.1)
def tc_f62 : TC := (.sq (.reg [(oM 1 (.box (.t 0))), (oP 2 (.mv (cB false)))]) (.sq (.reg [(oP 3 (.fa 1 (.t 1))), (oL 4 3), (oC 5 92 [(.t 4)]), (oV 6 5), (oQ 7 6 true (.fa 0 (.t 1))), (oG 8 6 true (.m (.ld false 1 (.t 7)))), (oQ 9 6 true (.bin false .eql (.t 8) (.c (.v (.string (ByteArray.mk #[])))))), (oQ 10 6 true (.mv (.t 9))), (oQ 11 10 false (.fa 0 (.t 1))), (oG 12 10 false (.m (.ld false 1 (.t 11)))), (oG 13 10 false (.call 92 [(.t 12)])), (oQ 14 6 true (.pick (.t 10) (cB true) (.t 13))), (oP 15 (.pick (.t 6) (.t 14) (cB false))), (oV 16 15), (oQ 17 16 true (.fa 2 (.t 1))), (oG 18 16 true (.m (.ld false 1 (.t 17)))), (oG 19 16 true (.call 109 [(.t 18)])), (oP 20 (.pick (.t 16) (.t 19) (cB false))), (oV 2 20)]) .rt))
def rv_f62 : List (RV × Option Ty) := [((.t 2), some .bool)]
def g_f62 : G := ⟨TYs, [], 21, EL [(92, sp_f92), (109, sp_f109)], keeps, (fun _ _ => none), IL [], RL []⟩
def r_f62_1 (p0 : Setting) : Option (V × List VO) :=
 br ((nameG p0.2.2.1))
  (some (.t .bool (valB p0.2.2.1), []))
  (none)
def r_f62 (p0 : Setting) : Option (V × List VO) :=
 br ((nameG p0.2.1))
  (br ((wrdB p0.2.1))
   (br ((seq p0.1 (ByteArray.mk #[])))
    (r_f62_1 p0)
    (br ((nameG p0.1))
     (br ((wrdB p0.1))
      (r_f62_1 p0)
      (some (.t .bool false, [])))
     (none)))
   (some (.t .bool false, [])))
  (none)
theorem e_f62 (p0 : Setting) : runF g_f62 tc_f62 rv_f62 false [.t tySetting p0] [] = r_f62 p0 := by kernel_rfl
theorem ok_f62 : Option.map (trC Tryd.prog) Tryd.f62.body = some tc_f62.er := by kernel_rfl
theorem rok_f62 : trVs Tryd.prog Tryd.f62.results.toList = some (rv_f62.map Prod.fst) := by kernel_rfl
theorem en_f62 : Entered Tryd.prog 62 := .inr ⟨by decide, _, Tryd.func62, by kernel_rfl, by kernel_rfl⟩
theorem gk_f62 : GOk Tryd.prog g_f62 := gok_of _ (by
 intro p hp
 simp only [List.mem_cons, List.not_mem_nil, or_false] at hp
 rcases hp with rfl | rfl
 ·exact ⟨en_f92, ms_f92⟩
 ·exact ⟨en_f109, ms_f109⟩)
theorem lk_f62 : tc_f62.lok g_f62 := by repeat (first | exact trivial | refine ⟨?_, ?_⟩)
theorem s_f62 (x : Setting) (h : rgtOk x = true) : r_f62 x = some (.t .bool (rgtB x), []) := by
 obtain ⟨h1, h⟩ := Bool.and_eq_true_iff.1 h
 obtain ⟨h2, h3⟩ := Bool.and_eq_true_iff.1 h
 unfold rgtB
 simp only [r_f62, r_f62_1, h1, h2, h3, br_true]
 cases seq x.1 (ByteArray.mk #[]) <;> cases wrdB x.1 <;> cases wrdB x.2.1 <;> cases valB x.2.2.1 <;> rfl
def sp_f62 : Ent := spec (.pr tySetting .nil) (fun x => (rgtOk x.1)) (fun x => (.t .bool (rgtB x.1)))
theorem ms_f62 : Meets Tryd.prog 62 (strip sp_f62) := by
 obtain ⟨c, hc, hi⟩ := Option.map_eq_some_iff.1 ok_f62
 exact meets_spec (R := runF g_f62 tc_f62 rv_f62 false) (meets_of (by decide) Tryd.func62 hc hi Tryd.ntmps62 rok_f62 gk_f62 lk_f62 mixed) fun x hok => (e_f62 x.1).trans (s_f62 x.1 hok)
theorem sfx_bsl (s : ByteArray) : sfxF s (ByteArray.mk #[92]) = bsl s := by
 show [(92 : UInt8)].isSuffixOf (bl s) = bsl s
 unfold bsl
 rw [Bool.eq_iff_iff, List.isSuffixOf_iff_suffix, beq_iff_eq, List.getLast?_eq_some_iff]
 exact ⟨fun ⟨r, hr⟩ => ⟨r, hr.symm⟩, fun ⟨r, hr⟩ => ⟨r, hr.symm⟩⟩
theorem vl_ind : ∀ l : List UInt8, ((l.map fun b => (b.toNat : Int)).all isClI && !decide (0 ≤ Lib.indexByte l 9)) = (l.map fun b => (b.toNat : Int)).all isVI
 | [] => rfl
 | b :: l => by
  have ih := vl_ind l
  have hg := Lib.indexByte_ge l 9
  simp only [List.map_cons, List.all_cons]
  unfold Lib.indexByte
  cases hb : b == 9 with
  | true =>
   have : b = 9 := eq_of_beq hb
   subst this
   simp [isVI, ilt]
  | false =>
   have hne : ((b.toNat : Nat) : Int) ≠ 9 := fun e => by
    have : b = 9 := by rw [← UInt8.toNat_inj]; show b.toNat = 9; omega
    rw [this] at hb
    cases hb
   have e1 : isClI ((b.toNat : Nat) : Int) = isVI ((b.toNat : Nat) : Int) := by
    unfold isClI isVI
    rw [show ieq ((b.toNat : Nat) : Int) 9 = false from beq_eq_false_iff_ne.2 hne, Bool.false_or]
   have e2 : decide (0 ≤ (if Lib.indexByte l 9 == -1 then -1 else Lib.indexByte l 9 + 1)) = decide (0 ≤ Lib.indexByte l 9) := by
    rw [Bool.eq_iff_iff, decide_eq_true_eq, decide_eq_true_eq]
    cases hx : Lib.indexByte l 9 == -1 with
    | true => have := eq_of_beq hx; simp; omega
    | false => have := beq_eq_false_iff_ne.1 hx; simp; omega
   rw [e1, ← ih]
   simp only [Bool.false_eq_true, if_false]
   rw [e2]
   cases isVI ((b.toNat : Nat) : Int) <;> simp
theorem cl_vl (s : ByteArray) : (clB s && !ctnF s (ByteArray.mk #[9])) = vlZ s := by
 rw [← clZ_eq]
 exact vl_ind (bl s)
def dr_f59_0 : List DO := [(.mk (oP 23 (.fa 2 (.t 1))) []), (.mk (oL 24 23) [0]), (.mk (oC 25 105 [(.t 24)]) [1]), (.mk (oV 26 25) [2, 2]), (.mk (oQ 27 26 true (.fa 2 (.t 1))) [3]), (.mk (oG 28 26 true (.m (.ld false 1 (.t 27)))) [4, 3]), (.mk (oG 29 26 true (.call 106 [(.t 28), (.c (.v (.string (ByteArray.mk #[9]))))])) [5, 3, 3]), (.mk (oQ 30 26 true (.nt (.t 29))) [6, 3]), (.mk (oP 31 (.pick (.t 26) (.t 30) (cB false))) [3, 7]), (.mk (oV 32 31) [8, 6]), (.mk (oQ 33 32 true (.fa 2 (.t 1))) [9]), (.mk (oG 34 32 true (.m (.ld false 1 (.t 33)))) [10, 9]), (.mk (oG 35 32 true (.call 107 [(.t 34)])) [11, 9, 9]), (.mk (oQ 36 32 true (.fa 2 (.t 1))) [9]), (.mk (oG 37 32 true (.m (.ld false 1 (.t 36)))) [13, 9]), (.mk (oQ 38 32 true (.bin false .eql (.t 35) (.t 37))) [12, 14, 9]), (.mk (oP 39 (.pick (.t 32) (.t 38) (cB false))) [9, 15]), (.mk (oV 2 39) [16, 12, 0, 1, 2, 3, 4, 5, 6, 7, 8, 9, 10, 11, 12, 13, 14, 15, 16])]
def tc_f59 : TC := (.sq (.reg [(oM 1 (.box (.t 0))), (oP 2 (.mv (cB false)))]) (.sq (.sq (.reg [(oP 3 (.fa 0 (.t 1))), (oL 4 3), (oP 5 (.bin false .neq (.t 4) (.c (.v (.string (ByteArray.mk #[])))))), (oV 6 5), (oQ 7 6 true (.fa 0 (.t 1))), (oG 8 6 true (.m (.ld false 1 (.t 7)))), (oG 9 6 true (.call 103 [(.t 8)])), (oQ 10 6 true (.nt (.t 9))), (oP 11 (.pick (.t 6) (.t 10) (cB false))), (oV 12 11), (oQ 13 12 false (.fa 1 (.t 1))), (oG 14 12 false (.m (.ld false 1 (.t 13)))), (oG 15 12 false (.call 103 [(.t 14)])), (oQ 16 12 false (.nt (.t 15))), (oP 17 (.pick (.t 12) (cB true) (.t 16))), (oV 18 17), (oQ 19 18 false (.fa 2 (.t 1))), (oG 20 18 false (.m (.ld false 1 (.t 19)))), (oG 21 18 false (.call 104 [(.t 20), (.c (.v (.string (ByteArray.mk #[92]))))])), (oP 22 (.pick (.t 18) (cB true) (.t 21)))]) (.cd (.t 22) (.sq (.reg [(oP 2 (.mv (cB false)))]) .rt) .sk)) (.sq (.dr dr_f59_0 [(0, [1]), (1, [1]), (2, []), (3, []), (4, [1]), (5, [1]), (6, []), (7, []), (8, []), (9, []), (10, [1]), (11, [1]), (12, []), (13, [1]), (14, [1]), (15, []), (16, []), (17, [])] (.of [0, 1, 2, 3, 4, 5, 6, 7, 8, 9, 10, 11, 12, 13, 14, 15, 16, 17])) .rt)))
def rv_f59 : List (RV × Option Ty) := [((.t 2), some .bool)]
def g_f59 : G := ⟨TYs, [], 40, EL [(103, sp_f103), (104, sp_f104), (105, sp_f105), (106, sp_f106), (107, sp_f107)], keeps, (fun _ _ => none), IL [], RL []⟩
def r_f59_1 (p0 : Setting) : Option (V × List VO) :=
 br ((nameG p0.2.1))
  (br ((!(wrdB p0.2.1)))
   (some (.t .bool false, []))
   (br ((sfxOk p0.2.2.1 (ByteArray.mk #[92])))
    (br ((sfxF p0.2.2.1 (ByteArray.mk #[92])))
     (some (.t .bool false, []))
     (br ((nameG p0.2.2.1))
      (br ((clB p0.2.2.1))
       (br ((oneOk2 p0.2.2.1 (ByteArray.mk #[9])))
        (br ((!(ctnF p0.2.2.1 (ByteArray.mk #[9]))))
         (br ((nameG p0.2.2.1))
          (some (.t .bool (seq (tB p0.2.2.1) p0.2.2.1), []))
          (none))
         (some (.t .bool false, [])))
        (none))
       (some (.t .bool false, [])))
      (none)))
    (none)))
  (none)
def r_f59 (p0 : Setting) : Option (V × List VO) :=
 br ((sne p0.1 (ByteArray.mk #[])))
  (br ((nameG p0.1))
   (br ((!(wrdB p0.1)))
    (some (.t .bool false, []))
    (r_f59_1 p0))
   (none))
  (r_f59_1 p0)
theorem e_f59 (p0 : Setting) : runF g_f59 tc_f59 rv_f59 false [.t tySetting p0] [] = r_f59 p0 := by kernel_rfl
theorem ok_f59 : Option.map (trC Tryd.prog) Tryd.f59.body = some tc_f59.er := by kernel_rfl
theorem rok_f59 : trVs Tryd.prog Tryd.f59.results.toList = some (rv_f59.map Prod.fst) := by kernel_rfl
theorem gk_f59 : GOk Tryd.prog g_f59 := gok_of _ (by
 intro p hp
 simp only [List.mem_cons, List.not_mem_nil, or_false] at hp
 rcases hp with rfl | rfl | rfl | rfl | rfl
 ·exact ⟨en_f103, ms_f103⟩
 ·exact ⟨en_f104, ms_f104⟩
 ·exact ⟨en_f105, ms_f105⟩
 ·exact ⟨en_f106, ms_f106⟩
 ·exact ⟨en_f107, ms_f107⟩)
theorem lk_f59 : tc_f59.lok g_f59 := by repeat (first | exact trivial | refine ⟨?_, ?_⟩)
theorem s_f59 (x : Setting) (h : rgtOk x = true) : r_f59 x = some (.t .bool (rgtB x), []) := by
 obtain ⟨h1, h⟩ := Bool.and_eq_true_iff.1 h
 obtain ⟨h2, h3⟩ := Bool.and_eq_true_iff.1 h
 have h4 : sfxOk x.2.2.1 (ByteArray.mk #[92]) = true := h3
 have h5 : oneOk2 x.2.2.1 (ByteArray.mk #[9]) = true := rfl
 unfold r_f59 rgtB valB
 simp only [r_f59, r_f59_1, h1, h2, h3, h4, h5, sfx_bsl, br_true, ← cl_vl, sne_seq]
 cases seq x.1 (ByteArray.mk #[]) <;> cases wrdB x.1 <;> cases wrdB x.2.1 <;> cases bsl x.2.2.1 <;> cases clB x.2.2.1 <;> cases ctnF x.2.2.1 (ByteArray.mk #[9]) <;> cases seq (tB x.2.2.1) x.2.2.1 <;> rfl
def sp_f59 : Ent := spec (.pr tySetting .nil) (fun x => (rgtOk x.1)) (fun x => (.t .bool (rgtB x.1)))
theorem ms_f59 : Meets Tryd.prog 59 (strip sp_f59) := by
 obtain ⟨c, hc, hi⟩ := Option.map_eq_some_iff.1 ok_f59
 exact meets_spec (R := runF g_f59 tc_f59 rv_f59 false) (meets_of (by decide) Tryd.func59 hc hi Tryd.ntmps59 rok_f59 gk_f59 lk_f59 mixed) fun x hok => (e_f59 x.1).trans (s_f59 x.1 hok)
end
end Go.Proofs.YtkkoedniahnneaaDoor.K
