/-
 Words, blanks and lines, by the program and by its answer.
-/
import Derived.Test.YtkkoedniahnneaaDoorA1
set_option linter.unusedSimpArgs false
set_option linter.unusedVariables false
namespace Go.Proofs.YtkkoedniahnneaaDoor.K
open Go.RowKit
noncomputable section
def letF (c : Int) (o : ByteArray) : Bool := alnum c || ige (ixbF o c) 0
abbrev letW (c : Int) : Bool := letF c wrdO
def tc_f129 : TC := (.sq (.reg [(oP 4 (.mv (cB false)))]) (.sq (.reg [(oV 5 0), (oP 6 (.bin false .geq (.t 5) (.c (.v (.int .u8 97))))), (oV 7 6), (oQ 8 7 true (.mv (.t 0))), (oQ 9 7 true (.bin false .leq (.t 8) (.c (.v (.int .u8 122))))), (oP 10 (.pick (.t 7) (.t 9) (cB false))), (oV 11 10), (oQ 12 11 false (.mv (.t 0))), (oQ 13 11 false (.bin false .geq (.t 12) (.c (.v (.int .u8 65))))), (oQ 14 11 false (.mv (.t 13))), (oQ 15 14 true (.mv (.t 0))), (oQ 16 14 true (.bin false .leq (.t 15) (.c (.v (.int .u8 90))))), (oQ 17 11 false (.pick (.t 14) (.t 16) (cB false))), (oP 18 (.pick (.t 11) (cB true) (.t 17))), (oV 19 18), (oQ 20 19 false (.mv (.t 0))), (oQ 21 19 false (.bin false .geq (.t 20) (.c (.v (.int .u8 48))))), (oQ 22 19 false (.mv (.t 21))), (oQ 23 22 true (.mv (.t 0))), (oQ 24 22 true (.bin false .leq (.t 23) (.c (.v (.int .u8 57))))), (oQ 25 19 false (.pick (.t 22) (.t 24) (cB false))), (oP 26 (.pick (.t 19) (cB true) (.t 25))), (oV 27 26), (oQ 28 27 false (.mv (.t 1))), (oQ 29 27 false (.mv (.t 0))), (oG 30 27 false (.call 143 [(.t 28), (.t 29)])), (oQ 31 27 false (.bin false .geq (.t 30) (cI 0))), (oP 32 (.pick (.t 27) (cB true) (.t 31))), (oV 4 32)]) .rt))
def rv_f129 : List (RV × Option Ty) := [((.t 4), some .bool)]
def g_f129 : G := ⟨TYs, [], 33, EL [(143, sp_f143)], keeps, (fun _ _ => none), IL [], RL []⟩
def r_f129_2 (p0 : Int) (p1 : ByteArray) : Option (V × List VO) :=
 br ((ige p0 48))
  (br ((ile p0 57))
   (some (.t .bool true, []))
   (some (.t .bool (ige (ixbF p1 p0) 0), [])))
  (some (.t .bool (ige (ixbF p1 p0) 0), []))
def r_f129_1 (p0 : Int) (p1 : ByteArray) : Option (V × List VO) :=
 br ((ige p0 65))
  (br ((ile p0 90))
   (some (.t .bool true, []))
   (r_f129_2 p0 p1))
  (r_f129_2 p0 p1)
def r_f129 (p0 : Int) (p1 : ByteArray) : Option (V × List VO) :=
 br ((ige p0 97))
  (br ((ile p0 122))
   (some (.t .bool true, []))
   (r_f129_1 p0 p1))
  (r_f129_1 p0 p1)
theorem e_f129 (p0 : Int) (p1 : ByteArray) : runF g_f129 tc_f129 rv_f129 false [.t (.int .u8) p0, .t .str p1] [] = r_f129 p0 p1 := by kernel_rfl
theorem ok_f129 : Option.map (trC Tryd.prog) Tryd.f129.body = some tc_f129.er := by kernel_rfl
theorem rok_f129 : trVs Tryd.prog Tryd.f129.results.toList = some (rv_f129.map Prod.fst) := by kernel_rfl
theorem en_f129 : Entered Tryd.prog 129 := .inr ⟨by decide, _, Tryd.func129, by kernel_rfl, by kernel_rfl⟩
theorem gk_f129 : GOk Tryd.prog g_f129 := gok_of _ (by
 intro p hp
 simp only [List.mem_cons, List.not_mem_nil, or_false] at hp
 rcases hp with rfl
 ·exact ⟨en_f143, ms_f143⟩)
theorem lk_f129 : tc_f129.lok g_f129 := by repeat (first | exact trivial | refine ⟨?_, ?_⟩)
theorem s_f129 (c : Int) (o : ByteArray) : r_f129 c o = some (.t .bool (letF c o), []) := by
 simp only [r_f129, r_f129_1, r_f129_2, letF, alnum]
 have e1 : decide (97 ≤ c ∧ c ≤ 122) = (ige c 97 && ile c 122) := by simp only [Bool.decide_and]
 have e2 : decide (65 ≤ c ∧ c ≤ 90) = (ige c 65 && ile c 90) := by simp only [Bool.decide_and]
 have e3 : decide (48 ≤ c ∧ c ≤ 57) = (ige c 48 && ile c 57) := by simp only [Bool.decide_and]
 rw [e1, e2, e3]
 cases ige c 97 <;> cases ile c 122 <;> cases ige c 65 <;> cases ile c 90 <;> cases ige c 48 <;> cases ile c 57 <;> rfl
def sp_f129 : Ent := spec (.pr (.int .u8) (.pr .str .nil)) (fun x => true) (fun x => (.t .bool (letF x.1 x.2.1)))
theorem ms_f129 : Meets Tryd.prog 129 (strip sp_f129) := by
 obtain ⟨c, hc, hi⟩ := Option.map_eq_some_iff.1 ok_f129
 exact meets_spec (R := runF g_f129 tc_f129 rv_f129 false) (meets_of (by decide) Tryd.func129 hc hi Tryd.ntmps129 rok_f129 gk_f129 lk_f129 mixed) fun x _ => (e_f129 x.1 x.2.1).trans (s_f129 x.1 x.2.1)
theorem letW_tab : ((List.range 256).all fun n => letW (n : Int) == (alnum (n : Int) || (ieq (n : Int) 45 || (ieq (n : Int) 95 || ieq (n : Int) 46)))) = true := by kernel_rfl
theorem letW_eq {c : Int} (h : 0 ≤ c ∧ c < 256) : letW c = (alnum c || (ieq c 45 || (ieq c 95 || ieq c 46))) := by
 obtain ⟨n, rfl⟩ := Int.eq_ofNat_of_zero_le h.1
 exact eq_of_beq (List.all_eq_true.1 letW_tab n (List.mem_range.2 (by omega)))
theorem byte_rng (s : ByteArray) {k : Nat} (h : k < (bytesL s).length) : 0 ≤ (bytesL s)[k] ∧ (bytesL s)[k] < 256 := by
 simp only [bytesL, List.getElem_map]
 have := (s.data.toList[k]'(by simpa [bytesL] using h)).toNat_lt
 omega
def wrdB (s : ByteArray) : Bool := (bytesL s).all letW && decide (1 ≤ s.size ∧ s.size ≤ 32)
def fg_f103_0 : Fg := ⟨[(0, some .str), (6, some (.sl (.int .u8))), (7, some tI), (8, some tI)], []⟩
def tb_f103_0 : TC := (.sq (.reg [(oP 9 (.bin false .lss (.t 8) (.t 7)))]) (.sq (.cd (.t 9) .sk (.fg ⟨[(0, some .str)], []⟩ (.ex 0))) (.sq (.bk 1 (.sq (.reg [(oP 10 (.ix 1 (.t 6) (.t 8))), (oL 11 10), (oV 4 11)]) (.sq (.reg [(oV 12 4), (oC 13 129 [(.t 12), (.c (.v (.string (ByteArray.mk #[45, 95, 46]))))]), (oP 14 (.nt (.t 13)))]) (.cd (.t 14) (.sq (.reg [(oP 2 (.mv (cB false)))]) (.fg ⟨[(2, some .bool)], []⟩ .rt)) .sk)))) (.reg [(oP 15 (.bin false .add (.t 8) (cI 1))), (oV 8 15)]))))
def tc_f103 : TC := (.sq (.reg [(oP 2 (.mv (cB false)))]) (.sq (.sq (.reg [(oV 5 0), (oC 6 5480144 [(.t 5)]), (oP 7 (.len false (.t 6))), (oP 8 (.mv (cI 0)))]) (.bk 0 (.lp 0 fg_f103_0 tb_f103_0))) (.sq (.reg [(oV 16 0), (oP 17 (.len true (.t 16))), (oP 18 (.bin false .geq (.t 17) (cI 1))), (oV 19 18), (oQ 20 19 true (.mv (.t 0))), (oQ 21 19 true (.len true (.t 20))), (oQ 22 19 true (.bin false .leq (.t 21) (cI 32))), (oP 23 (.pick (.t 19) (.t 22) (cB false))), (oV 2 23)]) .rt)))
def rv_f103 : List (RV × Option Ty) := [((.t 2), some .bool)]
abbrev sh_f103_0 : Sh := ⟨[(0, .ty .str), (6, .ty (.sl (.int .u8))), (7, .ty tI), (8, .ty tI)], []⟩
def st_f103_0 (x0 : ByteArray) (x6 : (List Int)) (x7 : Int) (x8 : Int) : VS := sh_f103_0.st (x0, x6, x7, x8, ()) ()
abbrev sh_f103_0_ret : Sh := ⟨[(2, .ty .bool)], []⟩
def st_f103_0_ret (x2 : Bool) : VS := sh_f103_0_ret.st (x2, ()) ()
abbrev sh_f103_0_e0 : Sh := ⟨[(0, .ty .str)], []⟩
def st_f103_0_e0 (x0 : ByteArray) : VS := sh_f103_0_e0.st (x0, ()) ()
-- loop 0: (x0 : ByteArray) (x6 : (List Int)) (x7 : Int) (x8 : Int); out: ('ret',) (x2 : Bool); ('exit', 0) (x0 : ByteArray)
def L_f103_0 : VS → Option (Bool × List (Bool × Exit × VS)) := mkL sh_f103_0 (fun x y => (rngG x.2.1 x.2.2.1 x.2.2.2.1)) (fun x y => [((!((x.2.1.drop x.2.2.2.1.toNat).all letW)), .ret, st_f103_0_ret (false)), (true, .exit 0, st_f103_0_e0 (x.1))])
def g_f103 : G := ⟨TYs, [], 24, EL [(129, sp_f129), (5480144, sp_op_convert_9_28)], keeps, (Ls [L_f103_0]), IL [], RL []⟩
def b_f103_0 (x0 : ByteArray) (x6 : (List Int)) (x7 : Int) (x8 : Int) : Option (Exit × VS) :=
 br ((ilt x8 x7))
  (br (cIx x6 x8)
   (br ((!(letF (lgt (.int .u8) x6 (Int.toNat x8)) (ByteArray.mk #[45, 95, 46]))))
    (some (.ret, st_f103_0_ret false))
    (some (.normal, st_f103_0 x0 x6 x7 (iadd .i64 x8 1))))
   (none))
  (some (.exit 0, st_f103_0_e0 x0))
noncomputable def lp_f103_0 (x0 : ByteArray) (x6 : (List Int)) (x7 : Int) (x8 : Int) : Option (Exit × VS) := loopF (roundF g_f103 fg_f103_0 tb_f103_0) (st_f103_0 x0 x6 x7 x8)
noncomputable def n_f103_0 (x0 : ByteArray) (x6 : (List Int)) (x7 : Int) (x8 : Int) : Option (Exit × VS) :=
 br ((ilt x8 x7))
  (br (cIx x6 x8)
   (br ((!(letF (lgt (.int .u8) x6 (Int.toNat x8)) (ByteArray.mk #[45, 95, 46]))))
    (some (.ret, st_f103_0_ret false))
    (lp_f103_0 x0 x6 x7 (iadd .i64 x8 1)))
   (none))
  (some (.exit 0, st_f103_0_e0 x0))
def la_f103_0 (x0 : ByteArray) (x6 : (List Int)) (x7 : Int) (x8 : Int) : Option (Exit × VS) := br (!((x6.drop x8.toNat).all letW)) (some (.ret, st_f103_0_ret (false))) <| some (.exit 0, st_f103_0_e0 (x0))
theorem be_f103_0 (x0 : ByteArray) (x6 : (List Int)) (x7 : Int) (x8 : Int) : roundF g_f103 fg_f103_0 tb_f103_0 (st_f103_0 x0 x6 x7 x8) = b_f103_0 x0 x6 x7 x8 := by kernel_rfl
theorem ln_f103_0 (x0 : ByteArray) (x6 : (List Int)) (x7 : Int) (x8 : Int) : lp_f103_0 x0 x6 x7 x8 = n_f103_0 x0 x6 x7 x8 := (loopF_nxt _ _).trans (by
 rw [be_f103_0]
 simp only [b_f103_0, n_f103_0, nxt_br, nxt_n, nxt_r, nxt_e, nxt_0]
 rfl)
def r_f103 (p0 : ByteArray) : Option (V × List VO) :=
 br ((bytesOk p0))
  (br ((rngG (bytesL p0) (llen (bytesL p0)) (0 : Int)))
   (br ((!(((bytesL p0).drop (0 : Int).toNat).all letW)))
    (some (.t .bool (false), []))
    (br ((ige (slen (p0)) 1))
     (some (.t .bool (ile (slen (p0)) 32), []))
     (some (.t .bool false, []))))
   (none))
  (none)
theorem e_f103 (p0 : ByteArray) : runF g_f103 tc_f103 rv_f103 false [.t .str p0] [] = r_f103 p0 := by kernel_rfl
theorem ok_f103 : Option.map (trC Tryd.prog) Tryd.f103.body = some tc_f103.er := by kernel_rfl
theorem rok_f103 : trVs Tryd.prog Tryd.f103.results.toList = some (rv_f103.map Prod.fst) := by kernel_rfl
theorem en_f103 : Entered Tryd.prog 103 := .inr ⟨by decide, _, Tryd.func103, by kernel_rfl, by kernel_rfl⟩
theorem gk_f103 : GOk Tryd.prog g_f103 := gok_of _ (by
 intro p hp
 simp only [List.mem_cons, List.not_mem_nil, or_false] at hp
 rcases hp with rfl | rfl
 ·exact ⟨en_f129, ms_f129⟩
 ·exact ⟨en_op_convert_9_28, ms_op_convert_9_28⟩)
theorem l_f103_0 (x0 : ByteArray) (x6 : (List Int)) (x7 : Int) (x8 : Int) (h : (rngG x6 x7 x8) = true) : lp_f103_0 x0 x6 x7 x8 = la_f103_0 x0 x6 x7 x8 := by
 obtain ⟨rfl, h3, k, rfl, hk⟩ := rngG_k h
 clear h
 refine range_ind x6 (fun k => lp_f103_0 x0 x6 (x6.length : Int) (k : Int) = la_f103_0 x0 x6 (x6.length : Int) (k : Int)) ?_ ?_ k hk
 ·rw [ln_f103_0]
  simp only [n_f103_0, la_f103_0, ilt_nat, Nat.lt_irrefl, decide_false, br_false, Int.toNat_natCast, List.drop_length, List.all_nil, Bool.not_true]
 ·intro k hk ih
  rw [ln_f103_0]
  simp only [n_f103_0, ilt_nat, cIx_nat, hk, decide_true, br_true, Int.toNat_natCast, add1G (show k < 9223372036854775807 by omega), lgt_get (y := .int .u8) hk, ih]
  simp only [la_f103_0, Int.toNat_natCast, List.drop_eq_getElem_cons hk, List.all_cons]
  show br (!letW x6[k]) _ _ = _
  cases letW x6[k] <;> rfl
theorem lo_f103_0 : ∀ S l p, g_f103.L 0 (fgt fg_f103_0 S) = some (true, l) → pickA l = some p → loopF (roundF g_f103 fg_f103_0 tb_f103_0) S = some p :=
 lok_of (s := sh_f103_0) ⟨by decide, by decide⟩ (by kernel_rfl) fun x y hok p hp => by
 simp only [pickA_br, pickA_one] at hp
 exact (l_f103_0 x.1 x.2.1 x.2.2.1 x.2.2.2.1 (by simpa using hok)).trans hp
theorem lk_f103 : tc_f103.lok g_f103 := by
 repeat (first | exact trivial | exact lo_f103_0 | refine ⟨?_, ?_⟩)
theorem s_f103 (s : ByteArray) (h : nameG s = true) : r_f103 s = some (.t .bool (wrdB s), []) := by
 have h : s.size ≤ 9223372036854775807 := of_decide_eq_true h
 have hl := bytesG_len s
 unfold r_f103 wrdB
 refine brY (decide_eq_true (by omega)) (brY (rngG_0 (by omega)) ?_)
 rw [Int.toNat_zero, List.drop_zero]
 cases (bytesL s).all letW with
 | false => rfl
 | true =>
  rw [Bool.not_true, br_false, Bool.true_and]
  refine br_intro (fun g => ?_) (fun g => ?_)
  ·simp only [ige, slen, decide_eq_true_eq] at g
   apply some_b
   rw [Bool.eq_iff_iff]
   simp only [ile, slen, decide_eq_true_eq]
   omega
  ·simp only [ige, slen, decide_eq_false_iff_not] at g
   apply some_b
   rw [eq_comm, decide_eq_false_iff_not]
   omega
def sp_f103 : Ent := spec (.pr .str .nil) (fun x => (nameG x.1)) (fun x => (.t .bool (wrdB x.1)))
theorem ms_f103 : Meets Tryd.prog 103 (strip sp_f103) := by
 obtain ⟨c, hc, hi⟩ := Option.map_eq_some_iff.1 ok_f103
 exact meets_spec (R := runF g_f103 tc_f103 rv_f103 false) (meets_of (by decide) Tryd.func103 hc hi Tryd.ntmps103 rok_f103 gk_f103 lk_f103 mixed) fun x hok => (e_f103 x.1).trans (s_f103 x.1 hok)
theorem wrd_tree {β : Type} (a b c d e f p q r : Bool) (L R : Option β) :
  br (!a) (br (!c) (br (!e) (br (!p) (br (!q) (br (!r) R L) L) L) (br (!f) (br (!p) (br (!q) (br (!r) R L) L) L) L)) (br (!d) (br (!e) (br (!p) (br (!q) (br (!r) R L) L) L) (br (!f) (br (!p) (br (!q) (br (!r) R L) L) L) L)) L)) (br (!b) (br (!c) (br (!e) (br (!p) (br (!q) (br (!r) R L) L) L) (br (!f) (br (!p) (br (!q) (br (!r) R L) L) L) L)) (br (!d) (br (!e) (br (!p) (br (!q) (br (!r) R L) L) L) (br (!f) (br (!p) (br (!q) (br (!r) R L) L) L) L)) L)) L)
  = br (((a && b) || ((c && d) || (e && f))) || (p || (q || r))) L R := by
 cases a <;> cases b <;> cases c <;> cases d <;> cases e <;> cases f <;> cases p <;> cases q <;> cases r <;> rfl
def fg_f92_0 : Fg := ⟨[(0, some .str), (3, some tI)], []⟩
def tb_f92_0 : TC := (.sq (.sq (.reg [(oV 13 3), (oV 14 0), (oP 15 (.len true (.t 14))), (oP 16 (.bin false .lss (.t 13) (.t 15)))]) (.cd (.t 16) .sk (.fg ⟨[], []⟩ (.ex 0)))) (.sq (.bk 1 (.sq (.reg [(oV 19 0), (oV 20 3), (oP 21 (.sx (.t 19) (.t 20))), (oV 4 21)]) (.sq (.reg [(oV 22 4), (oP 23 (.bin false .lss (.t 22) (.c (.v (.int .u8 97))))), (oV 24 23), (oQ 25 24 false (.mv (.t 4))), (oQ 26 24 false (.bin false .gtr (.t 25) (.c (.v (.int .u8 122))))), (oP 27 (.pick (.t 24) (cB true) (.t 26))), (oV 28 27), (oQ 29 28 true (.mv (.t 4))), (oQ 30 28 true (.bin false .lss (.t 29) (.c (.v (.int .u8 65))))), (oQ 31 28 true (.mv (.t 30))), (oQ 32 31 false (.mv (.t 4))), (oQ 33 31 false (.bin false .gtr (.t 32) (.c (.v (.int .u8 90))))), (oQ 34 28 true (.pick (.t 31) (cB true) (.t 33))), (oP 35 (.pick (.t 28) (.t 34) (cB false))), (oV 36 35), (oQ 37 36 true (.mv (.t 4))), (oQ 38 36 true (.bin false .lss (.t 37) (.c (.v (.int .u8 48))))), (oQ 39 36 true (.mv (.t 38))), (oQ 40 39 false (.mv (.t 4))), (oQ 41 39 false (.bin false .gtr (.t 40) (.c (.v (.int .u8 57))))), (oQ 42 36 true (.pick (.t 39) (cB true) (.t 41))), (oP 43 (.pick (.t 36) (.t 42) (cB false))), (oV 44 43), (oQ 45 44 true (.mv (.t 4))), (oQ 46 44 true (.bin false .neq (.t 45) (.c (.v (.int .u8 45))))), (oP 47 (.pick (.t 44) (.t 46) (cB false))), (oV 48 47), (oQ 49 48 true (.mv (.t 4))), (oQ 50 48 true (.bin false .neq (.t 49) (.c (.v (.int .u8 95))))), (oP 51 (.pick (.t 48) (.t 50) (cB false))), (oV 52 51), (oQ 53 52 true (.mv (.t 4))), (oQ 54 52 true (.bin false .neq (.t 53) (.c (.v (.int .u8 46))))), (oP 55 (.pick (.t 52) (.t 54) (cB false)))]) (.cd (.t 55) (.sq (.reg [(oP 2 (.mv (cB false)))]) (.fg ⟨[(2, some .bool)], []⟩ .rt)) .sk)))) (.reg [(oV 17 3), (oP 18 (.bin false .add (.t 17) (cI 1))), (oV 3 18)])))
def tc_f92 : TC := (.sq (.reg [(oP 2 (.mv (cB false)))]) (.sq (.sq (.reg [(oV 5 0), (oP 6 (.len true (.t 5))), (oP 7 (.bin false .lss (.t 6) (cI 1))), (oV 8 7), (oQ 9 8 false (.mv (.t 0))), (oQ 10 8 false (.len true (.t 9))), (oQ 11 8 false (.bin false .gtr (.t 10) (cI 32))), (oP 12 (.pick (.t 8) (cB true) (.t 11)))]) (.cd (.t 12) (.sq (.reg [(oP 2 (.mv (cB false)))]) .rt) .sk)) (.sq (.sq (.reg [(oP 3 (.mv (cI 0)))]) (.bk 0 (.lp 0 fg_f92_0 tb_f92_0))) (.sq (.reg [(oP 2 (.mv (cB true)))]) .rt))))
def rv_f92 : List (RV × Option Ty) := [((.t 2), some .bool)]
abbrev sh_f92_0 : Sh := ⟨[(0, .ty .str), (3, .ty tI)], []⟩
def st_f92_0 (x0 : ByteArray) (x3 : Int) : VS := sh_f92_0.st (x0, x3, ()) ()
abbrev sh_f92_0_ret : Sh := ⟨[(2, .ty .bool)], []⟩
def st_f92_0_ret (x2 : Bool) : VS := sh_f92_0_ret.st (x2, ()) ()
abbrev sh_f92_0_e0 : Sh := ⟨[], []⟩
def st_f92_0_e0  : VS := sh_f92_0_e0.st () ()
-- loop 0: (x0 : ByteArray) (x3 : Int); out: ('ret',) (x2 : Bool); ('exit', 0)
def L_f92_0 : VS → Option (Bool × List (Bool × Exit × VS)) := mkL sh_f92_0 (fun x y => (nameG x.1 && decide (0 ≤ x.2.1 ∧ x.2.1 ≤ x.1.size))) (fun x y => [((!(((bytesL x.1).drop x.2.1.toNat).all letW)), .ret, st_f92_0_ret (false)), (true, .exit 0, st_f92_0_e0)])
def g_f92 : G := ⟨TYs, [], 56, EL [], keeps, (Ls [L_f92_0]), IL [], RL []⟩
def b_f92_0_3 (x0 : ByteArray) (x3 : Int) : Option (Exit × VS) :=
 br ((ine (sgt x0 x3) 45))
  (br ((ine (sgt x0 x3) 95))
   (br ((ine (sgt x0 x3) 46))
    (some (.ret, st_f92_0_ret false))
    (some (.normal, st_f92_0 x0 (iadd .i64 x3 1))))
   (some (.normal, st_f92_0 x0 (iadd .i64 x3 1))))
  (some (.normal, st_f92_0 x0 (iadd .i64 x3 1)))
def b_f92_0_2 (x0 : ByteArray) (x3 : Int) : Option (Exit × VS) :=
 br ((ilt (sgt x0 x3) 48))
  (b_f92_0_3 x0 x3)
  (br ((igt (sgt x0 x3) 57))
   (b_f92_0_3 x0 x3)
   (some (.normal, st_f92_0 x0 (iadd .i64 x3 1))))
def b_f92_0_1 (x0 : ByteArray) (x3 : Int) : Option (Exit × VS) :=
 br ((ilt (sgt x0 x3) 65))
  (b_f92_0_2 x0 x3)
  (br ((igt (sgt x0 x3) 90))
   (b_f92_0_2 x0 x3)
   (some (.normal, st_f92_0 x0 (iadd .i64 x3 1))))
def b_f92_0 (x0 : ByteArray) (x3 : Int) : Option (Exit × VS) :=
 br ((ilt x3 (slen x0)))
  (br (cSx x0 x3)
   (br ((ilt (sgt x0 x3) 97))
    (b_f92_0_1 x0 x3)
    (br ((igt (sgt x0 x3) 122))
     (b_f92_0_1 x0 x3)
     (some (.normal, st_f92_0 x0 (iadd .i64 x3 1)))))
   (none))
  (some (.exit 0, st_f92_0_e0))
noncomputable def lp_f92_0 (x0 : ByteArray) (x3 : Int) : Option (Exit × VS) := loopF (roundF g_f92 fg_f92_0 tb_f92_0) (st_f92_0 x0 x3)
noncomputable def n_f92_0_3 (x0 : ByteArray) (x3 : Int) : Option (Exit × VS) :=
 br ((ine (sgt x0 x3) 45))
  (br ((ine (sgt x0 x3) 95))
   (br ((ine (sgt x0 x3) 46))
    (some (.ret, st_f92_0_ret false))
    (lp_f92_0 x0 (iadd .i64 x3 1)))
   (lp_f92_0 x0 (iadd .i64 x3 1)))
  (lp_f92_0 x0 (iadd .i64 x3 1))
noncomputable def n_f92_0_2 (x0 : ByteArray) (x3 : Int) : Option (Exit × VS) :=
 br ((ilt (sgt x0 x3) 48))
  (n_f92_0_3 x0 x3)
  (br ((igt (sgt x0 x3) 57))
   (n_f92_0_3 x0 x3)
   (lp_f92_0 x0 (iadd .i64 x3 1)))
noncomputable def n_f92_0_1 (x0 : ByteArray) (x3 : Int) : Option (Exit × VS) :=
 br ((ilt (sgt x0 x3) 65))
  (n_f92_0_2 x0 x3)
  (br ((igt (sgt x0 x3) 90))
   (n_f92_0_2 x0 x3)
   (lp_f92_0 x0 (iadd .i64 x3 1)))
noncomputable def n_f92_0 (x0 : ByteArray) (x3 : Int) : Option (Exit × VS) :=
 br ((ilt x3 (slen x0)))
  (br (cSx x0 x3)
   (br ((ilt (sgt x0 x3) 97))
    (n_f92_0_1 x0 x3)
    (br ((igt (sgt x0 x3) 122))
     (n_f92_0_1 x0 x3)
     (lp_f92_0 x0 (iadd .i64 x3 1))))
   (none))
  (some (.exit 0, st_f92_0_e0))
def la_f92_0 (x0 : ByteArray) (x3 : Int) : Option (Exit × VS) := br (!(((bytesL x0).drop x3.toNat).all letW)) (some (.ret, st_f92_0_ret (false))) <| some (.exit 0, st_f92_0_e0)
theorem be_f92_0 (x0 : ByteArray) (x3 : Int) : roundF g_f92 fg_f92_0 tb_f92_0 (st_f92_0 x0 x3) = b_f92_0 x0 x3 := by kernel_rfl
theorem ln_f92_0 (x0 : ByteArray) (x3 : Int) : lp_f92_0 x0 x3 = n_f92_0 x0 x3 := (loopF_nxt _ _).trans (by
 rw [be_f92_0]
 simp only [b_f92_0, b_f92_0_1, b_f92_0_2, b_f92_0_3, n_f92_0, n_f92_0_1, n_f92_0_2, n_f92_0_3, nxt_br, nxt_n, nxt_r, nxt_e, nxt_0]
 rfl)
def r_f92 (p0 : ByteArray) : Option (V × List VO) :=
 br ((ilt (slen p0) 1))
  (some (.t .bool false, []))
  (br ((igt (slen p0) 32))
   (some (.t .bool false, []))
   (br ((nameG p0 && decide (0 ≤ (0 : Int) ∧ (0 : Int) ≤ p0.size)))
    (br ((!(((bytesL p0).drop (0 : Int).toNat).all letW)))
     (some (.t .bool (false), []))
     (some (.t .bool true, [])))
    (none)))
theorem e_f92 (p0 : ByteArray) : runF g_f92 tc_f92 rv_f92 false [.t .str p0] [] = r_f92 p0 := by kernel_rfl
theorem ok_f92 : Option.map (trC Tryd.prog) Tryd.f92.body = some tc_f92.er := by kernel_rfl
theorem rok_f92 : trVs Tryd.prog Tryd.f92.results.toList = some (rv_f92.map Prod.fst) := by kernel_rfl
theorem en_f92 : Entered Tryd.prog 92 := .inr ⟨by decide, _, Tryd.func92, by kernel_rfl, by kernel_rfl⟩
theorem gk_f92 : GOk Tryd.prog g_f92 := gok_of _ (fun p hp => by cases hp)
theorem l_f92_0 (x0 : ByteArray) (x3 : Int) (h : (nameG x0 && decide (0 ≤ x3 ∧ x3 ≤ x0.size)) = true) : lp_f92_0 x0 x3 = la_f92_0 x0 x3 := by
 simp only [nameG, Bool.and_eq_true, decide_eq_true_eq] at h
 obtain ⟨h0, h1, h2⟩ := h
 obtain ⟨k, rfl⟩ := Int.eq_ofNat_of_zero_le h1
 have hl := bytesG_len x0
 refine range_ind (bytesL x0) (fun k => lp_f92_0 x0 (k : Int) = la_f92_0 x0 (k : Int)) ?_ ?_ k (by omega)
 ·rw [ln_f92_0]
  simp [n_f92_0, la_f92_0, ilt, slen, hl, br_false, List.drop_eq_nil_of_le (show (bytesL x0).length ≤ x0.size by omega)]
 ·intro k hk ih
  have hk2 : k < x0.size := by omega
  have hb := byte_rng x0 hk
  rw [ln_f92_0]
  simp only [n_f92_0, n_f92_0_1, n_f92_0_2, n_f92_0_3, show ilt (k : Int) (slen x0) = true from by simp only [ilt, slen, decide_eq_true_eq]; omega, show cSx x0 (k : Int) = true from by simp only [cSx, decide_eq_true_eq]; omega, br_true, sgt_get hk2, add1G (show k < 9223372036854775807 by omega), ih]
  simp only [la_f92_0, Int.toNat_natCast, List.drop_eq_getElem_cons hk, List.all_cons]
  rw [letW_eq hb]
  generalize (bytesL x0)[k] = c
  unfold alnum
  have e1 : ilt c 97 = !(decide (97 ≤ c)) := by simp only [ilt]; rw [Bool.eq_iff_iff]; simp
  have e2 : igt c 122 = !(decide (c ≤ 122)) := by simp only [igt]; rw [Bool.eq_iff_iff]; simp
  have e3 : ilt c 65 = !(decide (65 ≤ c)) := by simp only [ilt]; rw [Bool.eq_iff_iff]; simp
  have e4 : igt c 90 = !(decide (c ≤ 90)) := by simp only [igt]; rw [Bool.eq_iff_iff]; simp
  have e5 : ilt c 48 = !(decide (48 ≤ c)) := by simp only [ilt]; rw [Bool.eq_iff_iff]; simp
  have e6 : igt c 57 = !(decide (c ≤ 57)) := by simp only [igt]; rw [Bool.eq_iff_iff]; simp
  rw [e1, e2, e3, e4, e5, e6, Bool.decide_and, Bool.decide_and, Bool.decide_and]
  refine (wrd_tree _ _ _ _ _ _ (ieq c 45) (ieq c 95) (ieq c 46) _ _).trans ?_
  cases (((decide (97 ≤ c) && decide (c ≤ 122)) || ((decide (65 ≤ c) && decide (c ≤ 90)) || (decide (48 ≤ c) && decide (c ≤ 57)))) || (ieq c 45 || (ieq c 95 || ieq c 46))) <;> rfl
theorem lo_f92_0 : ∀ S l p, g_f92.L 0 (fgt fg_f92_0 S) = some (true, l) → pickA l = some p → loopF (roundF g_f92 fg_f92_0 tb_f92_0) S = some p :=
 lok_of (s := sh_f92_0) ⟨by decide, by decide⟩ (by kernel_rfl) fun x y hok p hp => by
 simp only [pickA_br, pickA_one] at hp
 exact (l_f92_0 x.1 x.2.1 (by simpa using hok)).trans hp
theorem lk_f92 : tc_f92.lok g_f92 := by
 repeat (first | exact trivial | exact lo_f92_0 | refine ⟨?_, ?_⟩)
theorem s_f92 (s : ByteArray) (h : nameG s = true) : r_f92 s = some (.t .bool (wrdB s), []) := by
 unfold r_f92 wrdB
 refine br_intro (fun g => ?_) (fun g => br_intro (fun g2 => ?_) (fun g2 => ?_))
 ·simp only [ilt, slen, decide_eq_true_eq] at g
  rw [decide_eq_false (show ¬ (1 ≤ s.size ∧ s.size ≤ 32) by omega), Bool.and_false]
 ·simp only [igt, slen, decide_eq_true_eq] at g2
  rw [decide_eq_false (show ¬ (1 ≤ s.size ∧ s.size ≤ 32) by omega), Bool.and_false]
 ·simp only [ilt, igt, slen, decide_eq_false_iff_not] at g g2
  rw [h, decide_eq_true (show (0 : Int) ≤ 0 ∧ (0 : Int) ≤ s.size by omega), decide_eq_true (show 1 ≤ s.size ∧ s.size ≤ 32 by omega), Bool.and_true, Bool.and_true, br_true, Int.toNat_zero, List.drop_zero]
  cases (bytesL s).all letW <;> rfl
def sp_f92 : Ent := spec (.pr .str .nil) (fun x => (nameG x.1)) (fun x => (.t .bool (wrdB x.1)))
theorem ms_f92 : Meets Tryd.prog 92 (strip sp_f92) := by
 obtain ⟨c, hc, hi⟩ := Option.map_eq_some_iff.1 ok_f92
 exact meets_spec (R := runF g_f92 tc_f92 rv_f92 false) (meets_of (by decide) Tryd.func92 hc hi Tryd.ntmps92 rok_f92 gk_f92 lk_f92 mixed) fun x hok => (e_f92 x.1).trans (s_f92 x.1 hok)
def isClI (c : Int) : Bool := ieq c 9 || (!ilt c 32 && !igt c 126)
def clZ (s : ByteArray) : Bool := (bytesL s).all isClI
theorem clZ_eq (s : ByteArray) : clZ s = clB s := by
 unfold clZ clB bytesL
 rw [List.all_map]
 congr 1
 funext c
 have := c.toNat_lt
 simp only [Function.comp, isClI, isCl, ieq, ilt, igt]
 have e : (((c.toNat : Nat) : Int) == 9) = (c == 9) := by
  rw [Bool.eq_iff_iff, beq_iff_eq, beq_iff_eq, ← UInt8.toNat_inj]
  show _ ↔ c.toNat = 9
  omega
 rw [e]
 congr 1
 rw [Bool.eq_iff_iff]
 simp
 omega
def fg_f105_0 : Fg := ⟨[(6, some (.sl (.int .u8))), (7, some tI), (8, some tI)], []⟩
def tb_f105_0 : TC := (.sq (.reg [(oP 9 (.bin false .lss (.t 8) (.t 7)))]) (.sq (.cd (.t 9) .sk (.fg ⟨[], []⟩ (.ex 0))) (.sq (.bk 1 (.sq (.reg [(oP 10 (.ix 1 (.t 6) (.t 8))), (oL 11 10), (oV 4 11)]) (.sq (.reg [(oV 12 4), (oP 13 (.bin false .neq (.t 12) (.c (.v (.int .u8 9))))), (oV 14 13), (oQ 15 14 true (.mv (.t 4))), (oQ 16 14 true (.bin false .lss (.t 15) (.c (.v (.int .u8 32))))), (oQ 17 14 true (.mv (.t 16))), (oQ 18 17 false (.mv (.t 4))), (oQ 19 17 false (.bin false .gtr (.t 18) (.c (.v (.int .u8 126))))), (oQ 20 14 true (.pick (.t 17) (cB true) (.t 19))), (oP 21 (.pick (.t 14) (.t 20) (cB false)))]) (.cd (.t 21) (.sq (.reg [(oP 2 (.mv (cB false)))]) (.fg ⟨[(2, some .bool)], []⟩ .rt)) .sk)))) (.reg [(oP 22 (.bin false .add (.t 8) (cI 1))), (oV 8 22)]))))
def tc_f105 : TC := (.sq (.reg [(oP 2 (.mv (cB false)))]) (.sq (.sq (.reg [(oV 5 0), (oC 6 5480144 [(.t 5)]), (oP 7 (.len false (.t 6))), (oP 8 (.mv (cI 0)))]) (.bk 0 (.lp 0 fg_f105_0 tb_f105_0))) (.sq (.reg [(oP 2 (.mv (cB true)))]) .rt)))
def rv_f105 : List (RV × Option Ty) := [((.t 2), some .bool)]
abbrev sh_f105_0 : Sh := ⟨[(6, .ty (.sl (.int .u8))), (7, .ty tI), (8, .ty tI)], []⟩
def st_f105_0 (x6 : (List Int)) (x7 : Int) (x8 : Int) : VS := sh_f105_0.st (x6, x7, x8, ()) ()
abbrev sh_f105_0_ret : Sh := ⟨[(2, .ty .bool)], []⟩
def st_f105_0_ret (x2 : Bool) : VS := sh_f105_0_ret.st (x2, ()) ()
abbrev sh_f105_0_e0 : Sh := ⟨[], []⟩
def st_f105_0_e0  : VS := sh_f105_0_e0.st () ()
-- loop 0: (x6 : (List Int)) (x7 : Int) (x8 : Int); out: ('ret',) (x2 : Bool); ('exit', 0)
def L_f105_0 : VS → Option (Bool × List (Bool × Exit × VS)) := mkL sh_f105_0 (fun x y => (rngG x.1 x.2.1 x.2.2.1)) (fun x y => [((!((x.1.drop x.2.2.1.toNat).all isClI)), .ret, st_f105_0_ret (false)), (true, .exit 0, st_f105_0_e0)])
def g_f105 : G := ⟨TYs, [], 23, EL [(5480144, sp_op_convert_9_28)], keeps, (Ls [L_f105_0]), IL [], RL []⟩
def b_f105_0 (x6 : (List Int)) (x7 : Int) (x8 : Int) : Option (Exit × VS) :=
 br ((ilt x8 x7))
  (br (cIx x6 x8)
   (br ((ine (lgt (.int .u8) x6 (Int.toNat x8)) 9))
    (br ((ilt (lgt (.int .u8) x6 (Int.toNat x8)) 32))
     (some (.ret, st_f105_0_ret false))
     (br ((igt (lgt (.int .u8) x6 (Int.toNat x8)) 126))
      (some (.ret, st_f105_0_ret false))
      (some (.normal, st_f105_0 x6 x7 (iadd .i64 x8 1)))))
    (some (.normal, st_f105_0 x6 x7 (iadd .i64 x8 1))))
   (none))
  (some (.exit 0, st_f105_0_e0))
noncomputable def lp_f105_0 (x6 : (List Int)) (x7 : Int) (x8 : Int) : Option (Exit × VS) := loopF (roundF g_f105 fg_f105_0 tb_f105_0) (st_f105_0 x6 x7 x8)
noncomputable def n_f105_0 (x6 : (List Int)) (x7 : Int) (x8 : Int) : Option (Exit × VS) :=
 br ((ilt x8 x7))
  (br (cIx x6 x8)
   (br ((ine (lgt (.int .u8) x6 (Int.toNat x8)) 9))
    (br ((ilt (lgt (.int .u8) x6 (Int.toNat x8)) 32))
     (some (.ret, st_f105_0_ret false))
     (br ((igt (lgt (.int .u8) x6 (Int.toNat x8)) 126))
      (some (.ret, st_f105_0_ret false))
      (lp_f105_0 x6 x7 (iadd .i64 x8 1))))
    (lp_f105_0 x6 x7 (iadd .i64 x8 1)))
   (none))
  (some (.exit 0, st_f105_0_e0))
def la_f105_0 (x6 : (List Int)) (x7 : Int) (x8 : Int) : Option (Exit × VS) := br (!((x6.drop x8.toNat).all isClI)) (some (.ret, st_f105_0_ret (false))) <| some (.exit 0, st_f105_0_e0)
theorem be_f105_0 (x6 : (List Int)) (x7 : Int) (x8 : Int) : roundF g_f105 fg_f105_0 tb_f105_0 (st_f105_0 x6 x7 x8) = b_f105_0 x6 x7 x8 := by kernel_rfl
theorem ln_f105_0 (x6 : (List Int)) (x7 : Int) (x8 : Int) : lp_f105_0 x6 x7 x8 = n_f105_0 x6 x7 x8 := (loopF_nxt _ _).trans (by
 rw [be_f105_0]
 simp only [b_f105_0, n_f105_0, nxt_br, nxt_n, nxt_r, nxt_e, nxt_0]
 rfl)
def r_f105 (p0 : ByteArray) : Option (V × List VO) :=
 br ((bytesOk p0))
  (br ((rngG (bytesL p0) (llen (bytesL p0)) (0 : Int)))
   (br ((!(((bytesL p0).drop (0 : Int).toNat).all isClI)))
    (some (.t .bool (false), []))
    (some (.t .bool true, [])))
   (none))
  (none)
theorem e_f105 (p0 : ByteArray) : runF g_f105 tc_f105 rv_f105 false [.t .str p0] [] = r_f105 p0 := by kernel_rfl
theorem ok_f105 : Option.map (trC Tryd.prog) Tryd.f105.body = some tc_f105.er := by kernel_rfl
theorem rok_f105 : trVs Tryd.prog Tryd.f105.results.toList = some (rv_f105.map Prod.fst) := by kernel_rfl
theorem en_f105 : Entered Tryd.prog 105 := .inr ⟨by decide, _, Tryd.func105, by kernel_rfl, by kernel_rfl⟩
theorem gk_f105 : GOk Tryd.prog g_f105 := gok_of _ (by
 intro p hp
 simp only [List.mem_cons, List.not_mem_nil, or_false] at hp
 rcases hp with rfl
 ·exact ⟨en_op_convert_9_28, ms_op_convert_9_28⟩)
theorem cl_tree {β : Type} (a b c : Bool) (L R : Option β) : br (!a) (br b R (br c R L)) L = br (a || (!b && !c)) L R := by
 cases a <;> cases b <;> cases c <;> rfl
theorem l_f105_0 (x6 : (List Int)) (x7 : Int) (x8 : Int) (h : (rngG x6 x7 x8) = true) : lp_f105_0 x6 x7 x8 = la_f105_0 x6 x7 x8 := by
 obtain ⟨rfl, h3, k, rfl, hk⟩ := rngG_k h
 clear h
 refine range_ind x6 (fun k => lp_f105_0 x6 (x6.length : Int) (k : Int) = la_f105_0 x6 (x6.length : Int) (k : Int)) ?_ ?_ k hk
 ·rw [ln_f105_0]
  simp only [n_f105_0, la_f105_0, ilt_nat, Nat.lt_irrefl, decide_false, br_false, Int.toNat_natCast, List.drop_length, List.all_nil, Bool.not_true]
 ·intro k hk ih
  rw [ln_f105_0]
  simp only [n_f105_0, ilt_nat, cIx_nat, hk, decide_true, br_true, Int.toNat_natCast, add1G (show k < 9223372036854775807 by omega), lgt_get (y := .int .u8) hk, ih]
  simp only [la_f105_0, Int.toNat_natCast, List.drop_eq_getElem_cons hk, List.all_cons]
  refine (cl_tree (ieq x6[k] 9) _ _ _ _).trans ?_
  show br (isClI x6[k]) _ _ = _
  cases isClI x6[k] <;> rfl
theorem lo_f105_0 : ∀ S l p, g_f105.L 0 (fgt fg_f105_0 S) = some (true, l) → pickA l = some p → loopF (roundF g_f105 fg_f105_0 tb_f105_0) S = some p :=
 lok_of (s := sh_f105_0) ⟨by decide, by decide⟩ (by kernel_rfl) fun x y hok p hp => by
 simp only [pickA_br, pickA_one] at hp
 exact (l_f105_0 x.1 x.2.1 x.2.2.1 (by simpa using hok)).trans hp
theorem lk_f105 : tc_f105.lok g_f105 := by
 repeat (first | exact trivial | exact lo_f105_0 | refine ⟨?_, ?_⟩)
theorem s_f105 (s : ByteArray) (h : nameG s = true) : r_f105 s = some (.t .bool (clB s), []) := by
 have h : s.size ≤ 9223372036854775807 := of_decide_eq_true h
 have hl := bytesG_len s
 unfold r_f105
 refine brY (decide_eq_true (by omega)) (brY (rngG_0 (by omega)) ?_)
 rw [Int.toNat_zero, List.drop_zero, ← clZ_eq]
 show br (!clZ s) _ _ = _
 cases clZ s <;> rfl
def sp_f105 : Ent := spec (.pr .str .nil) (fun x => (nameG x.1)) (fun x => (.t .bool (clB x.1)))
theorem ms_f105 : Meets Tryd.prog 105 (strip sp_f105) := by
 obtain ⟨c, hc, hi⟩ := Option.map_eq_some_iff.1 ok_f105
 exact meets_spec (R := runF g_f105 tc_f105 rv_f105 false) (meets_of (by decide) Tryd.func105 hc hi Tryd.ntmps105 rok_f105 gk_f105 lk_f105 mixed) fun x hok => (e_f105 x.1).trans (s_f105 x.1 hok)
-- loop 0: (x0 : ByteArray) (x3 : Int); out: ('ret',) (x2 : Bool); ('exit', 0)
def tc_f107 : TC := (.sq (.reg [(oP 2 (.mv (.c (.v (.string (ByteArray.mk #[]))))))]) (.sq (.reg [(oV 3 0), (oC 4 131 [(.t 3), (.c (.v (.string (ByteArray.mk #[32, 9]))))]), (oV 2 4)]) .rt))
def rv_f107 : List (RV × Option Ty) := [((.t 2), some .str)]
def g_f107 : G := ⟨TYs, [], 5, EL [(131, sp_f131)], keeps, (fun _ _ => none), IL [], RL []⟩
def r_f107 (p0 : ByteArray) : Option (V × List VO) :=
 br ((ascOk p0 (ByteArray.mk #[32, 9])))
  (some (.t .str (trmS p0 (ByteArray.mk #[32, 9])), []))
  (none)
theorem e_f107 (p0 : ByteArray) : runF g_f107 tc_f107 rv_f107 false [.t .str p0] [] = r_f107 p0 := by kernel_rfl
theorem ok_f107 : Option.map (trC Tryd.prog) Tryd.f107.body = some tc_f107.er := by kernel_rfl
theorem rok_f107 : trVs Tryd.prog Tryd.f107.results.toList = some (rv_f107.map Prod.fst) := by kernel_rfl
theorem en_f107 : Entered Tryd.prog 107 := .inr ⟨by decide, _, Tryd.func107, by kernel_rfl, by kernel_rfl⟩
theorem gk_f107 : GOk Tryd.prog g_f107 := gok_of _ (by
 intro p hp
 simp only [List.mem_cons, List.not_mem_nil, or_false] at hp
 rcases hp with rfl
 ·exact ⟨en_f131, ms_f131⟩)
theorem lk_f107 : tc_f107.lok g_f107 := by repeat (first | exact trivial | refine ⟨?_, ?_⟩)
theorem trmS_tB (s : ByteArray) : trmS s (ByteArray.mk #[32, 9]) = tB s := by
 unfold trmS tB
 rw [show (ByteArray.mk #[32, 9]).data.toList = [32, 9] from rfl, trimS_bl]
theorem s_f107 (s : ByteArray) (h : nameG s = true) : r_f107 s = some (.t .str (tB s), []) := by
 refine brY (Bool.and_eq_true_iff.2 ⟨h, rfl⟩) ?_
 rw [trmS_tB]
def sp_f107 : Ent := spec (.pr .str .nil) (fun x => (nameG x.1)) (fun x => (.t .str (tB x.1)))
theorem ms_f107 : Meets Tryd.prog 107 (strip sp_f107) := by
 obtain ⟨c, hc, hi⟩ := Option.map_eq_some_iff.1 ok_f107
 exact meets_spec (R := runF g_f107 tc_f107 rv_f107 false) (meets_of (by decide) Tryd.func107 hc hi Tryd.ntmps107 rok_f107 gk_f107 lk_f107 mixed) fun x hok => (e_f107 x.1).trans (s_f107 x.1 hok)
theorem bl_dec {s : ByteArray} {k : Nat} (h : k < (bl s).length) {β : Type} (L R : Option β) : br (ieq (sgt s (k : Int)) 32) L (br (ieq (sgt s (k : Int)) 9) L R) = br (isBl (bl s)[k]) L R := by
 rw [sgt_bl h]
 have := ((bl s)[k]).toNat_lt
 generalize (bl s)[k] = c at this
 have e1 : ieq ((c.toNat : Nat) : Int) 32 = (c == 32) := by
  rw [Bool.eq_iff_iff, beq_iff_eq, beq_iff_eq, ← UInt8.toNat_inj]
  show _ ↔ c.toNat = 32
  omega
 have e2 : ieq ((c.toNat : Nat) : Int) 9 = (c == 9) := by
  rw [Bool.eq_iff_iff, beq_iff_eq, beq_iff_eq, ← UInt8.toNat_inj]
  show _ ↔ c.toNat = 9
  omega
 rw [e1, e2]
 unfold isBl
 cases c == 32 <;> rfl
def fg_f91_0 : Fg := ⟨[(0, some .str)], []⟩
def tb_f91_0 : TC := (.sq (.sq (.reg [(oV 3 0), (oP 4 (.len true (.t 3))), (oP 5 (.bin false .gtr (.t 4) (cI 0))), (oV 6 5), (oQ 7 6 true (.mv (.t 0))), (oQ 8 6 true (.sx (.t 7) (cI 0))), (oQ 9 6 true (.bin false .eql (.t 8) (.c (.v (.int .u8 32))))), (oQ 10 6 true (.mv (.t 9))), (oQ 11 10 false (.mv (.t 0))), (oQ 12 10 false (.sx (.t 11) (cI 0))), (oQ 13 10 false (.bin false .eql (.t 12) (.c (.v (.int .u8 9))))), (oQ 14 6 true (.pick (.t 10) (cB true) (.t 13))), (oP 15 (.pick (.t 6) (.t 14) (cB false)))]) (.cd (.t 15) .sk (.fg ⟨[(0, some .str)], []⟩ (.ex 0)))) (.bk 1 (.reg [(oV 16 0), (oP 17 (.sls (.t 16) (some (cI 1)) none)), (oV 0 17)])))
def fg_f91_1 : Fg := ⟨[(0, some .str)], []⟩
def tb_f91_1 : TC := (.sq (.sq (.reg [(oV 18 0), (oP 19 (.len true (.t 18))), (oP 20 (.bin false .gtr (.t 19) (cI 0))), (oV 21 20), (oQ 22 21 true (.mv (.t 0))), (oQ 23 21 true (.mv (.t 0))), (oQ 24 21 true (.len true (.t 23))), (oQ 25 21 true (.bin false .sub (.t 24) (cI 1))), (oQ 26 21 true (.sx (.t 22) (.t 25))), (oQ 27 21 true (.bin false .eql (.t 26) (.c (.v (.int .u8 32))))), (oQ 28 21 true (.mv (.t 27))), (oQ 29 28 false (.mv (.t 0))), (oQ 30 28 false (.mv (.t 0))), (oQ 31 28 false (.len true (.t 30))), (oQ 32 28 false (.bin false .sub (.t 31) (cI 1))), (oQ 33 28 false (.sx (.t 29) (.t 32))), (oQ 34 28 false (.bin false .eql (.t 33) (.c (.v (.int .u8 9))))), (oQ 35 21 true (.pick (.t 28) (cB true) (.t 34))), (oP 36 (.pick (.t 21) (.t 35) (cB false)))]) (.cd (.t 36) .sk (.fg ⟨[(0, some .str)], []⟩ (.ex 2)))) (.bk 3 (.reg [(oV 37 0), (oV 38 0), (oP 39 (.len true (.t 38))), (oP 40 (.bin false .sub (.t 39) (cI 1))), (oP 41 (.sls (.t 37) none (some (.t 40)))), (oV 0 41)])))
def tc_f91 : TC := (.sq (.reg [(oP 2 (.mv (.c (.v (.string (ByteArray.mk #[]))))))]) (.sq (.bk 0 (.lp 0 fg_f91_0 tb_f91_0)) (.sq (.bk 2 (.lp 1 fg_f91_1 tb_f91_1)) (.sq (.reg [(oV 42 0), (oV 2 42)]) .rt))))
def rv_f91 : List (RV × Option Ty) := [((.t 2), some .str)]
abbrev sh_f91_0 : Sh := ⟨[(0, .ty .str)], []⟩
def st_f91_0 (x0 : ByteArray) : VS := sh_f91_0.st (x0, ()) ()
abbrev sh_f91_0_e0 : Sh := ⟨[(0, .ty .str)], []⟩
def st_f91_0_e0 (x0 : ByteArray) : VS := sh_f91_0_e0.st (x0, ()) ()
-- loop 0: (x0 : ByteArray); out: ('exit', 0) (x0 : ByteArray)
abbrev sh_f91_1 : Sh := ⟨[(0, .ty .str)], []⟩
def st_f91_1 (x0 : ByteArray) : VS := sh_f91_1.st (x0, ()) ()
abbrev sh_f91_1_e2 : Sh := ⟨[(0, .ty .str)], []⟩
def st_f91_1_e2 (x0 : ByteArray) : VS := sh_f91_1_e2.st (x0, ()) ()
-- loop 1: (x0 : ByteArray); out: ('exit', 2) (x0 : ByteArray)
def L_f91_0 : VS → Option (Bool × List (Bool × Exit × VS)) := mkL sh_f91_0 (fun x y => (nameG x.1)) (fun x y => [(true, .exit 0, st_f91_0_e0 (mkB (tL (bl x.1))))])
def L_f91_1 : VS → Option (Bool × List (Bool × Exit × VS)) := mkL sh_f91_1 (fun x y => (nameG x.1)) (fun x y => [(true, .exit 2, st_f91_1_e2 (mkB (tR (bl x.1))))])
def g_f91 : G := ⟨TYs, [], 43, EL [], keeps, (Ls [L_f91_0, L_f91_1]), IL [], RL []⟩
def b_f91_0_1 (x0 : ByteArray) : Option (Exit × VS) :=
 br (cSs x0 1 ((ByteArray.size x0 : Nat) : Int))
  (some (.normal, st_f91_0 (ssl x0 1 ((ByteArray.size x0 : Nat) : Int))))
  (none)
def b_f91_0 (x0 : ByteArray) : Option (Exit × VS) :=
 br ((igt (slen x0) 0))
  (br (cSx x0 0)
   (br ((ieq (sgt x0 0) 32))
    (b_f91_0_1 x0)
    (br (cSx x0 0)
     (br ((ieq (sgt x0 0) 9))
      (b_f91_0_1 x0)
      (some (.exit 0, st_f91_0_e0 x0)))
     (none)))
   (none))
  (some (.exit 0, st_f91_0_e0 x0))
noncomputable def lp_f91_0 (x0 : ByteArray) : Option (Exit × VS) := loopF (roundF g_f91 fg_f91_0 tb_f91_0) (st_f91_0 x0)
noncomputable def n_f91_0_1 (x0 : ByteArray) : Option (Exit × VS) :=
 br (cSs x0 1 ((ByteArray.size x0 : Nat) : Int))
  (lp_f91_0 (ssl x0 1 ((ByteArray.size x0 : Nat) : Int)))
  (none)
noncomputable def n_f91_0 (x0 : ByteArray) : Option (Exit × VS) :=
 br ((igt (slen x0) 0))
  (br (cSx x0 0)
   (br ((ieq (sgt x0 0) 32))
    (n_f91_0_1 x0)
    (br (cSx x0 0)
     (br ((ieq (sgt x0 0) 9))
      (n_f91_0_1 x0)
      (some (.exit 0, st_f91_0_e0 x0)))
     (none)))
   (none))
  (some (.exit 0, st_f91_0_e0 x0))
def la_f91_0 (x0 : ByteArray) : Option (Exit × VS) := some (.exit 0, st_f91_0_e0 (mkB (tL (bl x0))))
theorem be_f91_0 (x0 : ByteArray) : roundF g_f91 fg_f91_0 tb_f91_0 (st_f91_0 x0) = b_f91_0 x0 := by kernel_rfl
theorem ln_f91_0 (x0 : ByteArray) : lp_f91_0 x0 = n_f91_0 x0 := (loopF_nxt _ _).trans (by
 rw [be_f91_0]
 simp only [b_f91_0, b_f91_0_1, n_f91_0, n_f91_0_1, nxt_br, nxt_n, nxt_r, nxt_e, nxt_0]
 rfl)
def b_f91_1_1 (x0 : ByteArray) : Option (Exit × VS) :=
 br (cSs x0 0 (isub .i64 (slen x0) 1))
  (some (.normal, st_f91_1 (ssl x0 0 (isub .i64 (slen x0) 1))))
  (none)
def b_f91_1 (x0 : ByteArray) : Option (Exit × VS) :=
 br ((igt (slen x0) 0))
  (br (cSx x0 (isub .i64 (slen x0) 1))
   (br ((ieq (sgt x0 (isub .i64 (slen x0) 1)) 32))
    (b_f91_1_1 x0)
    (br (cSx x0 (isub .i64 (slen x0) 1))
     (br ((ieq (sgt x0 (isub .i64 (slen x0) 1)) 9))
      (b_f91_1_1 x0)
      (some (.exit 2, st_f91_1_e2 x0)))
     (none)))
   (none))
  (some (.exit 2, st_f91_1_e2 x0))
noncomputable def lp_f91_1 (x0 : ByteArray) : Option (Exit × VS) := loopF (roundF g_f91 fg_f91_1 tb_f91_1) (st_f91_1 x0)
noncomputable def n_f91_1_1 (x0 : ByteArray) : Option (Exit × VS) :=
 br (cSs x0 0 (isub .i64 (slen x0) 1))
  (lp_f91_1 (ssl x0 0 (isub .i64 (slen x0) 1)))
  (none)
noncomputable def n_f91_1 (x0 : ByteArray) : Option (Exit × VS) :=
 br ((igt (slen x0) 0))
  (br (cSx x0 (isub .i64 (slen x0) 1))
   (br ((ieq (sgt x0 (isub .i64 (slen x0) 1)) 32))
    (n_f91_1_1 x0)
    (br (cSx x0 (isub .i64 (slen x0) 1))
     (br ((ieq (sgt x0 (isub .i64 (slen x0) 1)) 9))
      (n_f91_1_1 x0)
      (some (.exit 2, st_f91_1_e2 x0)))
     (none)))
   (none))
  (some (.exit 2, st_f91_1_e2 x0))
def la_f91_1 (x0 : ByteArray) : Option (Exit × VS) := some (.exit 2, st_f91_1_e2 (mkB (tR (bl x0))))
theorem be_f91_1 (x0 : ByteArray) : roundF g_f91 fg_f91_1 tb_f91_1 (st_f91_1 x0) = b_f91_1 x0 := by kernel_rfl
theorem ln_f91_1 (x0 : ByteArray) : lp_f91_1 x0 = n_f91_1 x0 := (loopF_nxt _ _).trans (by
 rw [be_f91_1]
 simp only [b_f91_1, b_f91_1_1, n_f91_1, n_f91_1_1, nxt_br, nxt_n, nxt_r, nxt_e, nxt_0]
 rfl)
def r_f91 (p0 : ByteArray) : Option (V × List VO) :=
 br ((nameG p0))
  (br ((nameG (mkB (tL (bl p0)))))
   (some (.t .str (mkB (tR (bl (mkB (tL (bl p0)))))), []))
   (none))
  (none)
theorem e_f91 (p0 : ByteArray) : runF g_f91 tc_f91 rv_f91 false [.t .str p0] [] = r_f91 p0 := by kernel_rfl
theorem ok_f91 : Option.map (trC Tryd.prog) Tryd.f91.body = some tc_f91.er := by kernel_rfl
theorem rok_f91 : trVs Tryd.prog Tryd.f91.results.toList = some (rv_f91.map Prod.fst) := by kernel_rfl
theorem en_f91 : Entered Tryd.prog 91 := .inr ⟨by decide, _, Tryd.func91, by kernel_rfl, by kernel_rfl⟩
theorem gk_f91 : GOk Tryd.prog g_f91 := gok_of _ (fun p hp => by cases hp)
theorem l_f91_0 (x0 : ByteArray) (h : (nameG x0) = true) : lp_f91_0 x0 = la_f91_0 x0 := by
 have h2 : x0.size ≤ 9223372036854775807 := of_decide_eq_true h
 clear h
 obtain ⟨m, hm⟩ : ∃ m : Nat, x0.size = m := ⟨_, rfl⟩
 induction m generalizing x0 with
 | zero =>
  have : igt (slen x0) 0 = false := decide_eq_false (by simp only [slen]; omega)
  have e : bl x0 = [] := List.eq_nil_of_length_eq_zero (by rw [bl_len]; exact hm)
  rw [ln_f91_0]
  simp only [n_f91_0, n_f91_0_1, this, br_false, la_f91_0]
  rw [e, show tL [] = [] from rfl, ← e, mk_bl]
 | succ m ih =>
  have e0 : igt (slen x0) 0 = true := decide_eq_true (by simp only [slen]; omega)
  have hk : 0 < (bl x0).length := by rw [bl_len]; omega
  have c0 : cSx x0 0 = true := decide_eq_true (by omega)
  have c1 : cSs x0 1 ((ByteArray.size x0 : Nat) : Int) = true := decide_eq_true (by omega)
  have es : bl (ssl x0 1 ((ByteArray.size x0 : Nat) : Int)) = (bl x0).drop 1 := by
   rw [bl_ssl, Int.toNat_natCast]
   exact List.take_of_length_le (by rw [List.length_drop, bl_len]; exact Nat.le_refl _)
  have hs : (ssl x0 1 ((ByteArray.size x0 : Nat) : Int)).size = m := by rw [← bl_len, es, List.length_drop, bl_len]; omega
  have hc : bl x0 = (bl x0)[0] :: (bl x0).drop 1 := List.drop_eq_getElem_cons hk
  have et : tL (bl x0) = if isBl (bl x0)[0] = true then tL ((bl x0).drop 1) else bl x0 := by
   conv => lhs; rw [hc]
   rw [tL_cons, ← hc]
  rw [ln_f91_0]
  simp only [n_f91_0, n_f91_0_1, e0, c0, c1, br_true]
  rw [ih (ssl x0 1 ((ByteArray.size x0 : Nat) : Int)) (by omega) hs]
  refine (bl_dec hk _ _).trans ?_
  simp only [la_f91_0, es, et]
  cases isBl (bl x0)[0] with
  | true => simp only [br_true, if_true]
  | false => simp only [br_false, Bool.false_eq_true, if_false, mk_bl]
theorem l_f91_1 (x0 : ByteArray) (h : (nameG x0) = true) : lp_f91_1 x0 = la_f91_1 x0 := by
 have h2 : x0.size ≤ 9223372036854775807 := of_decide_eq_true h
 clear h
 obtain ⟨m, hm⟩ : ∃ m : Nat, x0.size = m := ⟨_, rfl⟩
 induction m generalizing x0 with
 | zero =>
  have : igt (slen x0) 0 = false := decide_eq_false (by simp only [slen]; omega)
  have e : bl x0 = [] := List.eq_nil_of_length_eq_zero (by rw [bl_len]; exact hm)
  rw [ln_f91_1]
  simp only [n_f91_1, n_f91_1_1, this, br_false, la_f91_1]
  rw [e, tR_nil, ← e, mk_bl]
 | succ m ih =>
  have e0 : igt (slen x0) 0 = true := decide_eq_true (by simp only [slen]; omega)
  have hk : m < (bl x0).length := by rw [bl_len]; omega
  have ei : isub .i64 (slen x0) 1 = (m : Int) := by rw [isub_in (by simp only [slen]; omega)]; simp only [slen]; omega
  have c0 : cSx x0 (m : Int) = true := decide_eq_true (by omega)
  have c1 : cSs x0 0 (m : Int) = true := decide_eq_true (by omega)
  have es : bl (ssl x0 0 (m : Int)) = (bl x0).take m := by
   rw [bl_ssl, Int.toNat_natCast]
   rfl
  have hs : (ssl x0 0 (m : Int)).size = m := by rw [← bl_len, es, List.length_take, bl_len]; omega
  have hc : bl x0 = (bl x0).take m ++ [(bl x0)[m]] := by
   rw [← List.take_succ_eq_append_getElem hk, List.take_of_length_le (by rw [bl_len]; omega)]
  have et : tR (bl x0) = if isBl (bl x0)[m] = true then tR ((bl x0).take m) else bl x0 := by
   conv => lhs; rw [hc]
   rw [tR_snoc, ← hc]
  rw [ln_f91_1]
  simp only [n_f91_1, n_f91_1_1, e0, ei, c0, c1, br_true]
  rw [ih (ssl x0 0 (m : Int)) (by omega) hs]
  refine (bl_dec hk _ _).trans ?_
  simp only [la_f91_1, es, et]
  cases isBl (bl x0)[m] with
  | true => simp only [br_true, if_true]
  | false => simp only [br_false, Bool.false_eq_true, if_false, mk_bl]
theorem lo_f91_0 : ∀ S l p, g_f91.L 0 (fgt fg_f91_0 S) = some (true, l) → pickA l = some p → loopF (roundF g_f91 fg_f91_0 tb_f91_0) S = some p :=
 lok_of (s := sh_f91_0) ⟨by decide, by decide⟩ (by kernel_rfl) fun x y hok p hp => by
 simp only [pickA_br, pickA_one] at hp
 exact (l_f91_0 x.1 (by simpa using hok)).trans hp
theorem lo_f91_1 : ∀ S l p, g_f91.L 1 (fgt fg_f91_1 S) = some (true, l) → pickA l = some p → loopF (roundF g_f91 fg_f91_1 tb_f91_1) S = some p :=
 lok_of (s := sh_f91_1) ⟨by decide, by decide⟩ (by kernel_rfl) fun x y hok p hp => by
 simp only [pickA_br, pickA_one] at hp
 exact (l_f91_1 x.1 (by simpa using hok)).trans hp
theorem lk_f91 : tc_f91.lok g_f91 := by
 repeat (first | exact trivial | exact lo_f91_0 | exact lo_f91_1 | refine ⟨?_, ?_⟩)
theorem s_f91 (s : ByteArray) (h : nameG s = true) : r_f91 s = some (.t .str (tB s), []) := by
 have h2 : s.size ≤ 9223372036854775807 := of_decide_eq_true h
 refine brY h (brY (decide_eq_true ?_) ?_)
 ·have := tL_len (bl s)
  rw [bl_len] at this
  rw [mk_size]
  omega
 ·rw [bl_mk, ← tLR]
  rfl
def sp_f91 : Ent := spec (.pr .str .nil) (fun x => (nameG x.1)) (fun x => (.t .str (tB x.1)))
theorem ms_f91 : Meets Tryd.prog 91 (strip sp_f91) := by
 obtain ⟨c, hc, hi⟩ := Option.map_eq_some_iff.1 ok_f91
 exact meets_spec (R := runF g_f91 tc_f91 rv_f91 false) (meets_of (by decide) Tryd.func91 hc hi Tryd.ntmps91 rok_f91 gk_f91 lk_f91 mixed) fun x hok => (e_f91 x.1).trans (s_f91 x.1 hok)
end
end Go.Proofs.YtkkoedniahnneaaDoor.K
