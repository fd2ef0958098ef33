/-
 The lines of a text.
-/
import Derived.Test.YtkkoedniahnneaaDoorA2
set_option linter.unusedSimpArgs false
set_option linter.unusedVariables false
namespace Go.Proofs.YtkkoedniahnneaaDoor.K
open Go.RowKit
noncomputable section
def lnS : List UInt8 → List (List UInt8)
 | [] => [[]]
 | c :: l => if c == 10 then [] :: lnS l else (c :: (lnS l).headD []) :: (lnS l).tail
theorem lnS_cons (c : UInt8) (l : List UInt8) : lnS (c :: l) = if c == 10 then [] :: lnS l else (c :: (lnS l).headD []) :: (lnS l).tail := rfl
theorem lnS_ne (l : List UInt8) : lnS l ≠ [] := by
 cases l with
 | nil => exact List.cons_ne_nil _ _
 | cons c l =>
  unfold lnS
  split <;> exact List.cons_ne_nil _ _
theorem lnS_ht (l : List UInt8) : (lnS l).headD [] :: (lnS l).tail = lnS l := by
 cases h : lnS l with
 | nil => exact absurd h (lnS_ne l)
 | cons a r => rfl
theorem lnS_none : ∀ {p : List UInt8}, (10 : UInt8) ∉ p → lnS p = [p]
 | [], _ => rfl
 | c :: p, h => by
  simp only [List.mem_cons, not_or] at h
  have hc : (c == 10) = false := by rw [beq_eq_false_iff_ne]; exact fun e => h.1 e.symm
  unfold lnS
  rw [hc, lnS_none h.2]
  rfl
theorem lnS_hit : ∀ {p r : List UInt8}, (10 : UInt8) ∉ p → lnS (p ++ 10 :: r) = p :: lnS r
 | [], r, _ => by
  show lnS (10 :: r) = _
  rw [lnS_cons]
  rfl
 | c :: p, r, h => by
  simp only [List.mem_cons, not_or] at h
  have hc : (c == 10) = false := by rw [beq_eq_false_iff_ne]; exact fun e => h.1 e.symm
  show lnS (c :: (p ++ 10 :: r)) = _
  rw [lnS_cons, hc, lnS_hit h.2]
  rfl
theorem lnS_len (l : List UInt8) : (lnS l).length = l.count 10 + 1 := by
 induction l with
 | nil => rfl
 | cons c l ih =>
  have h := lnS_ht l
  have h2 : (lnS l).tail.length + 1 = l.count 10 + 1 := by
   rw [← ih, ← h]
   simp
  unfold lnS
  cases hc : c == 10 with
  | true =>
   have : c = 10 := eq_of_beq hc
   subst this
   rw [if_pos rfl, List.length_cons, ih, List.count_cons_self]
  | false =>
   have : c ≠ 10 := by simpa using hc
   rw [if_neg (by simp), List.length_cons, h2, List.count_cons_of_ne this]
theorem lnS_all (l : List UInt8) : ∀ p ∈ lnS l, p.length ≤ l.length ∧ (10 : UInt8) ∉ p := by
 induction l with
 | nil =>
  intro p hp
  rw [show lnS [] = [[]] from rfl, List.mem_singleton] at hp
  subst hp
  exact ⟨Nat.le_refl _, List.not_mem_nil⟩
 | cons c l ih =>
  have h := lnS_ht l
  intro p hp
  unfold lnS at hp
  cases hc : c == 10 with
  | true =>
   rw [hc, if_pos rfl, List.mem_cons] at hp
   rcases hp with rfl | hp
   ·exact ⟨Nat.zero_le _, List.not_mem_nil⟩
   ·have := ih p hp
    exact ⟨by rw [List.length_cons]; omega, this.2⟩
  | false =>
   have hc2 : c ≠ 10 := by simpa using hc
   rw [hc, if_neg (by simp), List.mem_cons] at hp
   rcases hp with rfl | hp
   ·have := ih ((lnS l).headD []) (by rw [← h]; exact List.mem_cons_self)
    refine ⟨by rw [List.length_cons, List.length_cons]; omega, ?_⟩
    rw [List.mem_cons, not_or]
    exact ⟨fun e => hc2 e.symm, this.2⟩
   ·have := ih p (by rw [← h]; exact List.mem_cons_of_mem _ hp)
    exact ⟨by rw [List.length_cons]; omega, this.2⟩
def lnL (l : List UInt8) : List (List UInt8) := if (lnS l).getLastD [] = [] then (lnS l).dropLast else lnS l
def lnB (s : ByteArray) : List ByteArray := (lnL (bl s)).map mkB
theorem lnL_all (l : List UInt8) : ∀ p ∈ lnL l, p.length ≤ l.length ∧ (10 : UInt8) ∉ p := fun p hp => by
 unfold lnL at hp
 split at hp
 ·exact lnS_all l p (List.dropLast_sublist _ |>.subset hp)
 ·exact lnS_all l p hp
theorem lnL_len (l : List UInt8) : (lnL l).length ≤ l.count 10 + 1 := by
 have := lnS_len l
 unfold lnL
 split
 ·rw [List.length_dropLast]
  omega
 ·omega
theorem ixb_hit : ∀ {p r : List UInt8} {c : UInt8}, c ∉ p → Lib.indexByte (p ++ c :: r) c = (p.length : Int)
 | [], r, c, _ => by
  show Lib.indexByte (c :: r) c = 0
  unfold Lib.indexByte
  rw [if_pos (beq_self_eq_true c)]
 | b :: p, r, c, h => by
  simp only [List.mem_cons, not_or] at h
  show Lib.indexByte (b :: (p ++ c :: r)) c = _
  unfold Lib.indexByte
  rw [if_neg (by rw [beq_iff_eq]; exact fun e => h.1 e.symm), ixb_hit h.2, if_neg (by rw [beq_iff_eq]; omega), List.length_cons]
  omega
theorem splK_eq : ∀ (n : Nat) (l : List UInt8), l.length ≤ n → Lib.splitK [10] 0 (l.count 10) l = lnS l := by
 intro n
 induction n with
 | zero =>
  intro l h
  rw [List.eq_nil_of_length_eq_zero (Nat.le_zero.1 h)]
  rfl
 | succ n ih =>
  intro l h
  by_cases hm : (10 : UInt8) ∈ l
  ·obtain ⟨p, r, rfl, hp⟩ := List.eq_append_cons_of_mem hm
   have hl : (p ++ 10 :: r).length = p.length + r.length + 1 := by simp; omega
   rw [lnS_hit hp, List.count_append, List.count_eq_zero_of_not_mem hp, List.count_cons_self, Nat.zero_add]
   show (if Lib.index (p ++ 10 :: r) [10] == -1 then _ else _) = _
   rw [Lib.index_one, ixb_hit hp, if_neg (by rw [beq_iff_eq]; omega), Int.toNat_natCast, Nat.add_zero, List.take_left' rfl]
   have hd : (p ++ 10 :: r).drop (p.length + [(10 : UInt8)].length) = r := by
    rw [show p.length + [(10 : UInt8)].length = (p ++ [10]).length from by simp, show p ++ 10 :: r = (p ++ [10]) ++ r from by simp, List.drop_left' rfl]
   rw [hd, ih r (by omega)]
  ·rw [List.count_eq_zero_of_not_mem hm, lnS_none hm]
   rfl
theorem spl_eq (s : ByteArray) : splF s (ByteArray.mk #[10]) = (lnS (bl s)).map mkB := by
 have h := Lib.splitB_data (ByteArray.mk #[10]) 0 (Lib.countB s (ByteArray.mk #[10])) s
 have hc : Lib.countB s (ByteArray.mk #[10]) = (bl s).count 10 := by
  show Lib.count s.data.toList [10] = _
  rw [Lib.count_one]
 rw [hc, show (ByteArray.mk #[10]).data.toList = [10] from rfl, splK_eq _ _ (Nat.le_refl _)] at h
 unfold splF
 rw [hc, ← h, List.map_map]
 conv => lhs; rw [← List.map_id (Lib.splitB (ByteArray.mk #[10]) 0 ((bl s).count 10) s)]
 congr 1
def endN (s : ByteArray) : Int := (((bl s).count 10 : Nat) : Int)
def endZ (s : ByteArray) (n i : Int) : Int := n + ((((bl s).drop i.toNat).count 10 : Nat) : Int)
def endL (s : ByteArray) (n i : Int) : Bool := nameG s && decide (0 ≤ i ∧ i ≤ s.size ∧ 0 ≤ n ∧ n ≤ i)
theorem nl_dec {s : ByteArray} {k : Nat} (h : k < (bl s).length) : ieq (sgt s (k : Int)) 10 = ((bl s)[k] == 10) := by
 rw [sgt_bl h]
 have := ((bl s)[k]).toNat_lt
 generalize (bl s)[k] = c at this
 rw [Bool.eq_iff_iff, beq_iff_eq, beq_iff_eq, ← UInt8.toNat_inj]
 show _ ↔ c.toNat = 10
 omega
def fg_f58_0 : Fg := ⟨[(0, some .str), (3, some tI), (4, some tI)], []⟩
def tb_f58_0 : TC := (.sq (.sq (.reg [(oV 5 4), (oV 6 0), (oP 7 (.len true (.t 6))), (oP 8 (.bin false .lss (.t 5) (.t 7)))]) (.cd (.t 8) .sk (.fg ⟨[(3, some tI)], []⟩ (.ex 0)))) (.sq (.bk 1 (.sq (.reg [(oV 11 0), (oV 12 4), (oP 13 (.sx (.t 11) (.t 12))), (oP 14 (.bin false .eql (.t 13) (.c (.v (.int .u8 10)))))]) (.cd (.t 14) (.reg [(oV 15 3), (oP 16 (.bin false .add (.t 15) (cI 1))), (oV 3 16)]) .sk))) (.reg [(oV 9 4), (oP 10 (.bin false .add (.t 9) (cI 1))), (oV 4 10)])))
def tc_f58 : TC := (.sq (.reg [(oP 2 (.mv (cI 0)))]) (.sq (.reg [(oP 3 (.mv (cI 0)))]) (.sq (.sq (.reg [(oP 4 (.mv (cI 0)))]) (.bk 0 (.lp 0 fg_f58_0 tb_f58_0))) (.sq (.reg [(oV 17 3), (oV 2 17)]) .rt))))
def rv_f58 : List (RV × Option Ty) := [((.t 2), some tI)]
abbrev sh_f58_0 : Sh := ⟨[(0, .ty .str), (3, .ty tI), (4, .ty tI)], []⟩
def st_f58_0 (x0 : ByteArray) (x3 : Int) (x4 : Int) : VS := sh_f58_0.st (x0, x3, x4, ()) ()
abbrev sh_f58_0_e0 : Sh := ⟨[(3, .ty tI)], []⟩
def st_f58_0_e0 (x3 : Int) : VS := sh_f58_0_e0.st (x3, ()) ()
-- loop 0: (x0 : ByteArray) (x3 : Int) (x4 : Int); out: ('exit', 0) (x3 : Int)
def L_f58_0 : VS → Option (Bool × List (Bool × Exit × VS)) := mkL sh_f58_0 (fun x y => (endL x.1 x.2.1 x.2.2.1)) (fun x y => [(true, .exit 0, st_f58_0_e0 (endZ x.1 x.2.1 x.2.2.1))])
def g_f58 : G := ⟨TYs, [], 18, EL [], keeps, (Ls [L_f58_0]), IL [], RL []⟩
def b_f58_0 (x0 : ByteArray) (x3 : Int) (x4 : Int) : Option (Exit × VS) :=
 br ((ilt x4 (slen x0)))
  (br (cSx x0 x4)
   (br ((ieq (sgt x0 x4) 10))
    (some (.normal, st_f58_0 x0 (iadd .i64 x3 1) (iadd .i64 x4 1)))
    (some (.normal, st_f58_0 x0 x3 (iadd .i64 x4 1))))
   (none))
  (some (.exit 0, st_f58_0_e0 x3))
noncomputable def lp_f58_0 (x0 : ByteArray) (x3 : Int) (x4 : Int) : Option (Exit × VS) := loopF (roundF g_f58 fg_f58_0 tb_f58_0) (st_f58_0 x0 x3 x4)
noncomputable def n_f58_0 (x0 : ByteArray) (x3 : Int) (x4 : Int) : Option (Exit × VS) :=
 br ((ilt x4 (slen x0)))
  (br (cSx x0 x4)
   (br ((ieq (sgt x0 x4) 10))
    (lp_f58_0 x0 (iadd .i64 x3 1) (iadd .i64 x4 1))
    (lp_f58_0 x0 x3 (iadd .i64 x4 1)))
   (none))
  (some (.exit 0, st_f58_0_e0 x3))
def la_f58_0 (x0 : ByteArray) (x3 : Int) (x4 : Int) : Option (Exit × VS) := some (.exit 0, st_f58_0_e0 (endZ x0 x3 x4))
theorem be_f58_0 (x0 : ByteArray) (x3 : Int) (x4 : Int) : roundF g_f58 fg_f58_0 tb_f58_0 (st_f58_0 x0 x3 x4) = b_f58_0 x0 x3 x4 := by kernel_rfl
theorem ln_f58_0 (x0 : ByteArray) (x3 : Int) (x4 : Int) : lp_f58_0 x0 x3 x4 = n_f58_0 x0 x3 x4 := (loopF_nxt _ _).trans (by
 rw [be_f58_0]
 simp only [b_f58_0, n_f58_0, nxt_br, nxt_n, nxt_r, nxt_e, nxt_0]
 rfl)
def r_f58 (p0 : ByteArray) : Option (V × List VO) :=
 br ((endL p0 (0 : Int) (0 : Int)))
  (some (.t tI (endZ p0 (0 : Int) (0 : Int)), []))
  (none)
theorem e_f58 (p0 : ByteArray) : runF g_f58 tc_f58 rv_f58 false [.t .str p0] [] = r_f58 p0 := by kernel_rfl
theorem ok_f58 : Option.map (trC Tryd.prog) Tryd.f58.body = some tc_f58.er := by kernel_rfl
theorem rok_f58 : trVs Tryd.prog Tryd.f58.results.toList = some (rv_f58.map Prod.fst) := by kernel_rfl
theorem en_f58 : Entered Tryd.prog 58 := .inr ⟨by decide, _, Tryd.func58, by kernel_rfl, by kernel_rfl⟩
theorem gk_f58 : GOk Tryd.prog g_f58 := gok_of _ (fun p hp => by cases hp)
theorem l_f58_0 (x0 : ByteArray) (x3 : Int) (x4 : Int) (h : (endL x0 x3 x4) = true) : lp_f58_0 x0 x3 x4 = la_f58_0 x0 x3 x4 := by
 simp only [endL, nameG, Bool.and_eq_true, decide_eq_true_eq] at h
 obtain ⟨h0, h1, h2, h3, h4⟩ := h
 obtain ⟨k, rfl⟩ := Int.eq_ofNat_of_zero_le h1
 have hl := bl_len x0
 revert x3
 refine range_ind (bl x0) (fun k => ∀ x3 : Int, 0 ≤ x3 → x3 ≤ (k : Int) → lp_f58_0 x0 x3 (k : Int) = la_f58_0 x0 x3 (k : Int)) ?_ ?_ k (by omega)
 ·intro x3 _ _
  rw [ln_f58_0]
  have e : ilt ((bl x0).length : Int) (slen x0) = false := decide_eq_false (by simp only [slen]; omega)
  simp only [n_f58_0, la_f58_0, e, br_false, endZ, Int.toNat_natCast, List.drop_length, List.count_nil, Int.natCast_zero, Int.add_zero]
 ·intro k hk ih x3 g1 g2
  have e : ilt (k : Int) (slen x0) = true := decide_eq_true (by simp only [slen]; omega)
  have e3 : iadd .i64 x3 1 = x3 + 1 := iadd_in (by omega)
  rw [ln_f58_0]
  simp only [n_f58_0, e, cSx_bl hk, nl_dec hk, br_true, add1G (show k < 9223372036854775807 by omega), e3]
  rw [ih (x3 + 1) (by omega) (by omega), ih x3 (by omega) (by omega)]
  simp only [la_f58_0, endZ, Int.toNat_natCast, List.drop_eq_getElem_cons hk, List.count_cons]
  cases hc : (bl x0)[k] == 10 with
  | true =>
   simp only [br_true, if_true]
   congr 3
   omega
  | false => simp only [br_false, Bool.false_eq_true, if_false, Nat.add_zero]
theorem lo_f58_0 : ∀ S l p, g_f58.L 0 (fgt fg_f58_0 S) = some (true, l) → pickA l = some p → loopF (roundF g_f58 fg_f58_0 tb_f58_0) S = some p :=
 lok_of (s := sh_f58_0) ⟨by decide, by decide⟩ (by kernel_rfl) fun x y hok p hp => by
 simp only [pickA_br, pickA_one] at hp
 exact (l_f58_0 x.1 x.2.1 x.2.2.1 (by simpa using hok)).trans hp
theorem lk_f58 : tc_f58.lok g_f58 := by
 repeat (first | exact trivial | exact lo_f58_0 | refine ⟨?_, ?_⟩)
theorem s_f58 (s : ByteArray) (h : nameG s = true) : r_f58 s = some (.t tI (endN s), []) := by
 refine brY ?_ ?_
 ·rw [endL, h, Bool.true_and]
  exact decide_eq_true (by omega)
 ·unfold endZ endN
  rw [Int.toNat_zero, List.drop_zero, Int.zero_add]
def sp_f58 : Ent := spec (.pr .str .nil) (fun x => (nameG x.1)) (fun x => (.t tI (endN x.1)))
theorem ms_f58 : Meets Tryd.prog 58 (strip sp_f58) := by
 obtain ⟨c, hc, hi⟩ := Option.map_eq_some_iff.1 ok_f58
 exact meets_spec (R := runF g_f58 tc_f58 rv_f58 false) (meets_of (by decide) Tryd.func58 hc hi Tryd.ntmps58 rok_f58 gk_f58 lk_f58 mixed) fun x hok => (e_f58 x.1).trans (s_f58 x.1 hok)
-- loop 0: (x0 : ByteArray) (x4 : Int) (x5 : Int) (y3 : (List ByteArray)); out: ('exit', 0) (x0 : ByteArray) (x4 : Int) (y3 : (List ByteArray))
def lnsF (s : ByteArray) : List ByteArray × Bool := bif igt (slen s) 8192 || igt (endN s) 200 then ([], false) else (lnB s, true)
def tc_f63 : TC := (.sq (.reg [(oP 2 (.mv (.c (.v (.slice none 0 0))))), (oP 3 (.mv (cB false)))]) (.sq (.sq (.reg [(oV 5 0), (oP 6 (.len true (.t 5))), (oP 7 (.bin false .gtr (.t 6) (cI 8192))), (oV 8 7), (oQ 9 8 false (.mv (.t 0))), (oG 10 8 false (.call 56 [(.t 9), (.c (.v (.string (ByteArray.mk #[10]))))])), (oQ 11 8 false (.bin false .gtr (.t 10) (cI 200))), (oP 12 (.pick (.t 8) (cB true) (.t 11)))]) (.cd (.t 12) (.sq (.reg [(oP 2 (.mv (.c (.v (.slice none 0 0))))), (oP 3 (.mv (cB false)))]) .rt) .sk)) (.sq (.reg [(oV 13 0), (oC 14 110 [(.t 13), (.c (.v (.string (ByteArray.mk #[10]))))]), (oV 4 14)]) (.sq (.sq (.reg [(oV 15 4), (oV 16 4), (oP 17 (.len false (.t 16))), (oP 18 (.bin false .sub (.t 17) (cI 1))), (oP 19 (.ix 1 (.t 15) (.t 18))), (oL 20 19), (oP 21 (.bin false .eql (.t 20) (.c (.v (.string (ByteArray.mk #[]))))))]) (.cd (.t 21) (.reg [(oV 22 4), (oV 23 4), (oP 24 (.len false (.t 23))), (oP 25 (.bin false .sub (.t 24) (cI 1))), (oP 26 (.slc 1 (.t 22) none (some (.t 25)) none)), (oV 4 26)]) .sk)) (.sq (.reg [(oV 27 4), (oV 2 27), (oP 3 (.mv (cB true)))]) .rt)))))
def rv_f63 : List (RV × Option Ty) := [((.t 2), some (.sl .str)), ((.t 3), some .bool)]
def g_f63 : G := ⟨TYs, [], 28, EL [(56, sp_f56), (110, sp_f110)], keeps, (fun _ _ => none), IL [], RL []⟩
def r_f63 (p0 : ByteArray) : Option (V × List VO) :=
 br ((igt (slen p0) 8192))
  (some (.tu [(.t (.sl .str) ([] : List ByteArray)), (.t .bool false)], []))
  (br ((oneOk2 p0 (ByteArray.mk #[10])))
   (br ((igt (cntF p0 (ByteArray.mk #[10])) 200))
    (some (.tu [(.t (.sl .str) ([] : List ByteArray)), (.t .bool false)], []))
    (br ((splOk p0 (ByteArray.mk #[10])))
     (br (cIx (splF p0 (ByteArray.mk #[10])) (isub .i64 (llen (splF p0 (ByteArray.mk #[10]))) 1))
      (br ((seq (lgt .str (splF p0 (ByteArray.mk #[10])) (Int.toNat (isub .i64 (llen (splF p0 (ByteArray.mk #[10]))) 1))) (ByteArray.mk #[])))
       (br (cSl (splF p0 (ByteArray.mk #[10])) 0 (isub .i64 (llen (splF p0 (ByteArray.mk #[10]))) 1) ((List.length (splF p0 (ByteArray.mk #[10])) : Nat) : Int))
        (some (.tu [(.t (.sl .str) (lsl (splF p0 (ByteArray.mk #[10])) 0 (isub .i64 (llen (splF p0 (ByteArray.mk #[10]))) 1))), (.t .bool true)], []))
        (none))
       (some (.tu [(.t (.sl .str) (splF p0 (ByteArray.mk #[10]))), (.t .bool true)], [])))
      (none))
     (none)))
   (none))
theorem e_f63 (p0 : ByteArray) : runF g_f63 tc_f63 rv_f63 false [.t .str p0] [] = r_f63 p0 := by kernel_rfl
theorem ok_f63 : Option.map (trC Tryd.prog) Tryd.f63.body = some tc_f63.er := by kernel_rfl
theorem rok_f63 : trVs Tryd.prog Tryd.f63.results.toList = some (rv_f63.map Prod.fst) := by kernel_rfl
theorem gk_f63 : GOk Tryd.prog g_f63 := gok_of _ (by
 intro p hp
 simp only [List.mem_cons, List.not_mem_nil, or_false] at hp
 rcases hp with rfl | rfl
 ·exact ⟨en_f56, ms_f56⟩
 ·exact ⟨en_f110, ms_f110⟩)
theorem lk_f63 : tc_f63.lok g_f63 := by repeat (first | exact trivial | refine ⟨?_, ?_⟩)
theorem cnt_end (s : ByteArray) : cntF s (ByteArray.mk #[10]) = endN s := rfl
theorem s_f63 (s : ByteArray) : r_f63 s = some (.tu [.t (.sl .str) (lnsF s).1, .t .bool (lnsF s).2], []) := by
 unfold r_f63 lnsF
 cases h1 : igt (slen s) 8192 with
 | true => rfl
 | false =>
  have h1 : s.size ≤ 8192 := by simp only [igt, slen, decide_eq_false_iff_not] at h1; omega
  rw [br_false, cnt_end, Bool.false_or]
  refine brY rfl ?_
  cases h2 : igt (endN s) 200 with
  | true => rfl
  | false =>
   rw [br_false, cond_false]
   refine brY (decide_eq_true ⟨rfl, by omega⟩) ?_
   rw [spl_eq]
   have hn := lnS_len (bl s)
   have hc : (bl s).count 10 ≤ (bl s).length := List.count_le_length
   rw [bl_len] at hc
   have e1 : isub .i64 (llen ((lnS (bl s)).map mkB)) 1 = (((bl s).count 10 : Nat) : Int) := by
    rw [isub_in (by simp only [llen, List.length_map]; omega)]
    simp only [llen, List.length_map]
    omega
   have hk : (bl s).count 10 < ((lnS (bl s)).map mkB).length := by rw [List.length_map]; omega
   have e2 : lgt .str ((lnS (bl s)).map mkB) ((bl s).count 10) = mkB ((lnS (bl s)).getLastD []) := by
    rw [lgt_get (y := .str) hk, List.getElem_map]
    congr 1
    rw [List.getLastD_eq_getLast?, List.getLast?_eq_getElem?, List.getElem?_eq_getElem (by omega), Option.getD_some]
    congr 1
    omega
   rw [e1, Int.toNat_natCast, e2, show cIx ((lnS (bl s)).map mkB) (((bl s).count 10 : Nat) : Int) = true from decide_eq_true (by omega), br_true, show cSl ((lnS (bl s)).map mkB) 0 (((bl s).count 10 : Nat) : Int) ((List.length ((lnS (bl s)).map mkB) : Nat) : Int) = true from decide_eq_true (by omega), br_true]
   have e3 : lsl ((lnS (bl s)).map mkB) 0 (((bl s).count 10 : Nat) : Int) = (lnS (bl s)).dropLast.map mkB := by
    unfold lsl
    rw [Int.toNat_zero, List.drop_zero, Int.toNat_natCast, Nat.sub_zero, ← List.map_take, List.dropLast_eq_take, hn]
    rfl
   rw [e3, seq_dec]
   unfold lnB lnL
   by_cases hz : (lnS (bl s)).getLastD [] = []
   ·rw [if_pos hz, hz, decide_eq_true (show mkB [] = ByteArray.mk #[] from rfl), br_true]
   ·rw [if_neg hz, decide_eq_false (fun e => hz (by rw [← bl_mk ((lnS (bl s)).getLastD []), e])), br_false]
def sp_f63 : Ent := spec (.pr .str .nil) (fun x => true) (fun x => (.tu [(.t (.sl .str) ((lnsF x.1).1)), (.t .bool ((lnsF x.1).2))]))
theorem ms_f63 : Meets Tryd.prog 63 (strip sp_f63) := by
 obtain ⟨c, hc, hi⟩ := Option.map_eq_some_iff.1 ok_f63
 exact meets_spec (R := runF g_f63 tc_f63 rv_f63 false) (meets_of (by decide) Tryd.func63 hc hi Tryd.ntmps63 rok_f63 gk_f63 lk_f63 mixed) fun x _ => (e_f63 x.1).trans (s_f63 x.1)
end
end Go.Proofs.YtkkoedniahnneaaDoor.K
