/-
 What a text means, by the answer: lines that go on, sections, settings.
-/
import Derived.Test.YtkkoedniahnneaaDoorA3
set_option linter.unusedSimpArgs false
set_option linter.unusedVariables false
namespace Go.Proofs.YtkkoedniahnneaaDoor.K
open Go.RowKit
noncomputable section
def lnsOk (l : List ByteArray) : Bool := decide (l.length ≤ 100000) && l.all fun x => decide (x.size ≤ 10000)
theorem lnsOk_at {l : List ByteArray} (h : lnsOk l = true) {k : Nat} (hk : k < l.length) : l[k].size ≤ 10000 := of_decide_eq_true (List.all_eq_true.1 (Bool.and_eq_true_iff.1 h).2 _ (List.getElem_mem hk))
theorem lnsOk_len {l : List ByteArray} (h : lnsOk l = true) : l.length ≤ 100000 := of_decide_eq_true (Bool.and_eq_true_iff.1 h).1
def rjZ (l : List ByteArray) (i : Int) (s : ByteArray) (n : Int) : ByteArray × Int × Bool := ((jnF (l.drop (i.toNat + n.toNat)) s n.toNat).1, (((jnF (l.drop (i.toNat + n.toNat)) s n.toNat).2.1 : Nat) : Int), (jnF (l.drop (i.toNat + n.toNat)) s n.toNat).2.2)
def rjnL (l : List ByteArray) (i : Int) (s : ByteArray) (n : Int) : Bool := lnsOk l && decide (0 ≤ i ∧ 1 ≤ n ∧ i + n ≤ l.length ∧ s.size ≤ 10000 * n.toNat)
def rjnF (l : List ByteArray) (i : Int) : ByteArray × Int × Bool := bif (rjZ l i (tB (lgt .str l i.toNat)) 1).2.2 then (tB (rjZ l i (tB (lgt .str l i.toNat)) 1).1, (rjZ l i (tB (lgt .str l i.toNat)) 1).2.1, true) else (ByteArray.mk #[], (rjZ l i (tB (lgt .str l i.toNat)) 1).2.1, false)
def rjnOk (l : List ByteArray) (i : Int) : Bool := lnsOk l && cIx l i
theorem bsl_dec {s : ByteArray} (h : 0 < s.size) {β : Type} (L R : Option β) : br (cSx s (isub .i64 (slen s) 1)) (br (ieq (sgt s (isub .i64 (slen s) 1)) 92) L R) none = br (bsl s) L R ∨ 9223372036854775807 < s.size := by
 by_cases hb : 9223372036854775807 < s.size
 ·exact .inr hb
 ·left
  have hk : s.size - 1 < (bl s).length := by rw [bl_len]; omega
  have e1 : isub .i64 (slen s) 1 = ((s.size - 1 : Nat) : Int) := by rw [isub_in (by simp only [slen]; omega)]; simp only [slen]; omega
  rw [e1, cSx_bl hk, br_true, sgt_bl hk]
  have e2 : bsl s = ((bl s)[s.size - 1] == 92) := by
   unfold bsl
   rw [List.getLast?_eq_getElem?, bl_len, List.getElem?_eq_getElem hk]
   rfl
  have := ((bl s)[s.size - 1]).toNat_lt
  have e3 : ieq (((bl s)[s.size - 1].toNat : Nat) : Int) 92 = ((bl s)[s.size - 1] == 92) := by
   generalize (bl s)[s.size - 1] = c at this
   rw [Bool.eq_iff_iff, beq_iff_eq, beq_iff_eq, ← UInt8.toNat_inj]
   show _ ↔ c.toNat = 92
   omega
  rw [e2, e3]
theorem bsl_pos {s : ByteArray} (h : bsl s = true) : 0 < s.size := by
 have := congrArg List.length (bsl_cut h)
 rw [bl_len, List.length_append] at this
 simp only [List.length_singleton] at this
 omega
theorem cutL_size {s : ByteArray} (h : bsl s = true) : (cutL s).size + 1 = s.size := by
 have := congrArg List.length (bsl_cut h)
 rw [bl_len, List.length_append, bl_len] at this
 simp only [List.length_singleton] at this
 omega
theorem cut_ssl {s : ByteArray} (h : s.size ≤ 9223372036854775807) (h0 : 0 < s.size) : ssl s 0 (isub .i64 (slen s) 1) = cutL s := by
 have e1 : isub .i64 (slen s) 1 = ((s.size - 1 : Nat) : Int) := by rw [isub_in (by simp only [slen]; omega)]; simp only [slen]; omega
 rw [e1, ssl_mk, Int.toNat_natCast]
 unfold cutL
 rw [List.dropLast_eq_take, bl_len]
 rfl
theorem jnF_nil {s : ByteArray} {n : Nat} (h : bsl s = true) : jnF [] s n = (ByteArray.mk #[], n, false) := by
 unfold jnF
 rw [h]
 rfl
theorem jnF_cons {x : ByteArray} {r : List ByteArray} {s : ByteArray} {n : Nat} (h : bsl s = true) : jnF (x :: r) s n = jnF r (cutL s ++ tB x) (n + 1) := by
 rw [jnF, h]
 rfl
theorem jnF_stop {r : List ByteArray} {s : ByteArray} {n : Nat} (h : bsl s = false) : jnF r s n = (s, n, true) := by
 cases r <;> (unfold jnF; rw [h]; rfl)
def dr_f89_0 : List DO := [(.mk (oV 32 7) []), (.mk (oV 33 7) []), (.mk (oP 34 (.len true (.t 33))) [1]), (.mk (oP 35 (.bin false .sub (.t 34) (cI 1))) [2]), (.mk (oP 36 (.sls (.t 32) none (some (.t 35)))) [0, 3]), (.mk (oV 37 0) []), (.mk (oV 38 1) []), (.mk (oV 39 8) []), (.mk (oP 40 (.bin false .add (.t 38) (.t 39))) [6, 7]), (.mk (oP 41 (.ix 1 (.t 37) (.t 40))) [5, 8]), (.mk (oL 42 41) [9]), (.mk (oC 43 91 [(.t 42)]) [10]), (.mk (oP 44 (.bin false .add (.t 36) (.t 43))) [4, 11]), (.mk (oV 7 44) [12, 11, 0, 1, 2, 3, 4, 5, 6, 7, 8, 9, 10, 11, 12])]
def fg_f89_0 : Fg := ⟨[(0, some (.sl .str)), (1, some tI), (7, some .str), (8, some tI)], []⟩
def tb_f89_0 : TC := (.sq (.sq (.reg [(oV 14 7), (oP 15 (.len true (.t 14))), (oP 16 (.bin false .gtr (.t 15) (cI 0))), (oV 17 16), (oQ 18 17 true (.mv (.t 7))), (oQ 19 17 true (.mv (.t 7))), (oQ 20 17 true (.len true (.t 19))), (oQ 21 17 true (.bin false .sub (.t 20) (cI 1))), (oQ 22 17 true (.sx (.t 18) (.t 21))), (oQ 23 17 true (.bin false .eql (.t 22) (.c (.v (.int .u8 92))))), (oP 24 (.pick (.t 17) (.t 23) (cB false)))]) (.cd (.t 24) .sk (.fg ⟨[(7, some .str), (8, some tI)], []⟩ (.ex 0)))) (.bk 1 (.sq (.sq (.reg [(oV 25 1), (oV 26 8), (oP 27 (.bin false .add (.t 25) (.t 26))), (oV 28 0), (oP 29 (.len false (.t 28))), (oP 30 (.bin false .geq (.t 27) (.t 29)))]) (.cd (.t 30) (.sq (.reg [(oV 31 8), (oP 4 (.mv (.c (.v (.string (ByteArray.mk #[])))))), (oV 5 31), (oP 6 (.mv (cB false)))]) (.fg ⟨[(4, some .str), (5, some tI), (6, some .bool)], []⟩ .rt)) .sk)) (.sq (.dr dr_f89_0 [(0, []), (1, []), (2, []), (3, []), (4, []), (5, []), (6, []), (7, []), (8, []), (9, []), (10, []), (11, []), (12, []), (13, [])] (.of [0, 1, 2, 3, 4, 5, 6, 7, 8, 9, 10, 11, 12, 13])) (.reg [(oV 45 8), (oP 46 (.bin false .add (.t 45) (cI 1))), (oV 8 46)])))))
def tc_f89 : TC := (.sq (.reg [(oP 4 (.mv (.c (.v (.string (ByteArray.mk #[])))))), (oP 5 (.mv (cI 0))), (oP 6 (.mv (cB false)))]) (.sq (.reg [(oV 9 0), (oV 10 1), (oP 11 (.ix 1 (.t 9) (.t 10))), (oL 12 11), (oC 13 91 [(.t 12)]), (oV 7 13)]) (.sq (.reg [(oP 8 (.mv (cI 1)))]) (.sq (.bk 0 (.lp 0 fg_f89_0 tb_f89_0)) (.sq (.reg [(oV 47 7), (oC 48 91 [(.t 47)]), (oV 49 8), (oV 4 48), (oV 5 49), (oP 6 (.mv (cB true)))]) .rt)))))
def rv_f89 : List (RV × Option Ty) := [((.t 4), some .str), ((.t 5), some tI), ((.t 6), some .bool)]
abbrev sh_f89_0 : Sh := ⟨[(0, .ty (.sl .str)), (1, .ty tI), (7, .ty .str), (8, .ty tI)], []⟩
def st_f89_0 (x0 : (List ByteArray)) (x1 : Int) (x7 : ByteArray) (x8 : Int) : VS := sh_f89_0.st (x0, x1, x7, x8, ()) ()
abbrev sh_f89_0_ret : Sh := ⟨[(4, .ty .str), (5, .ty tI), (6, .ty .bool)], []⟩
def st_f89_0_ret (x4 : ByteArray) (x5 : Int) (x6 : Bool) : VS := sh_f89_0_ret.st (x4, x5, x6, ()) ()
abbrev sh_f89_0_e0 : Sh := ⟨[(7, .ty .str), (8, .ty tI)], []⟩
def st_f89_0_e0 (x7 : ByteArray) (x8 : Int) : VS := sh_f89_0_e0.st (x7, x8, ()) ()
-- loop 0: (x0 : (List ByteArray)) (x1 : Int) (x7 : ByteArray) (x8 : Int); out: ('ret',) (x4 : ByteArray) (x5 : Int) (x6 : Bool); ('exit', 0) (x7 : ByteArray) (x8 : Int)
def L_f89_0 : VS → Option (Bool × List (Bool × Exit × VS)) := mkL sh_f89_0 (fun x y => (rjnL x.1 x.2.1 x.2.2.1 x.2.2.2.1)) (fun x y => [((!(rjZ x.1 x.2.1 x.2.2.1 x.2.2.2.1).2.2), .ret, st_f89_0_ret (ByteArray.mk #[]) ((rjZ x.1 x.2.1 x.2.2.1 x.2.2.2.1).2.1) (false)), (true, .exit 0, st_f89_0_e0 ((rjZ x.1 x.2.1 x.2.2.1 x.2.2.2.1).1) ((rjZ x.1 x.2.1 x.2.2.1 x.2.2.2.1).2.1))])
def g_f89 : G := ⟨TYs, [], 50, EL [(91, sp_f91)], keeps, (Ls [L_f89_0]), IL [], RL []⟩
def b_f89_0 (x0 : (List ByteArray)) (x1 : Int) (x7 : ByteArray) (x8 : Int) : Option (Exit × VS) :=
 br ((igt (slen x7) 0))
  (br (cSx x7 (isub .i64 (slen x7) 1))
   (br ((ieq (sgt x7 (isub .i64 (slen x7) 1)) 92))
    (br ((ige (iadd .i64 x1 x8) (llen x0)))
     (some (.ret, st_f89_0_ret (ByteArray.mk #[]) x8 false))
     (br (cSs x7 0 (isub .i64 (slen x7) 1))
      (br (cIx x0 (iadd .i64 x1 x8))
       (br ((nameG (lgt .str x0 (Int.toNat (iadd .i64 x1 x8)))))
        (br (cCat (ssl x7 0 (isub .i64 (slen x7) 1)) (tB (lgt .str x0 (Int.toNat (iadd .i64 x1 x8)))))
         (some (.normal, st_f89_0 x0 x1 (scat (ssl x7 0 (isub .i64 (slen x7) 1)) (tB (lgt .str x0 (Int.toNat (iadd .i64 x1 x8))))) (iadd .i64 x8 1)))
         (none))
        (none))
       (none))
      (none)))
    (some (.exit 0, st_f89_0_e0 x7 x8)))
   (none))
  (some (.exit 0, st_f89_0_e0 x7 x8))
noncomputable def lp_f89_0 (x0 : (List ByteArray)) (x1 : Int) (x7 : ByteArray) (x8 : Int) : Option (Exit × VS) := loopF (roundF g_f89 fg_f89_0 tb_f89_0) (st_f89_0 x0 x1 x7 x8)
noncomputable def n_f89_0 (x0 : (List ByteArray)) (x1 : Int) (x7 : ByteArray) (x8 : Int) : Option (Exit × VS) :=
 br ((igt (slen x7) 0))
  (br (cSx x7 (isub .i64 (slen x7) 1))
   (br ((ieq (sgt x7 (isub .i64 (slen x7) 1)) 92))
    (br ((ige (iadd .i64 x1 x8) (llen x0)))
     (some (.ret, st_f89_0_ret (ByteArray.mk #[]) x8 false))
     (br (cSs x7 0 (isub .i64 (slen x7) 1))
      (br (cIx x0 (iadd .i64 x1 x8))
       (br ((nameG (lgt .str x0 (Int.toNat (iadd .i64 x1 x8)))))
        (br (cCat (ssl x7 0 (isub .i64 (slen x7) 1)) (tB (lgt .str x0 (Int.toNat (iadd .i64 x1 x8)))))
         (lp_f89_0 x0 x1 (scat (ssl x7 0 (isub .i64 (slen x7) 1)) (tB (lgt .str x0 (Int.toNat (iadd .i64 x1 x8))))) (iadd .i64 x8 1))
         (none))
        (none))
       (none))
      (none)))
    (some (.exit 0, st_f89_0_e0 x7 x8)))
   (none))
  (some (.exit 0, st_f89_0_e0 x7 x8))
def la_f89_0 (x0 : (List ByteArray)) (x1 : Int) (x7 : ByteArray) (x8 : Int) : Option (Exit × VS) := br (!(rjZ x0 x1 x7 x8).2.2) (some (.ret, st_f89_0_ret (ByteArray.mk #[]) ((rjZ x0 x1 x7 x8).2.1) (false))) <| some (.exit 0, st_f89_0_e0 ((rjZ x0 x1 x7 x8).1) ((rjZ x0 x1 x7 x8).2.1))
theorem be_f89_0 (x0 : (List ByteArray)) (x1 : Int) (x7 : ByteArray) (x8 : Int) : roundF g_f89 fg_f89_0 tb_f89_0 (st_f89_0 x0 x1 x7 x8) = b_f89_0 x0 x1 x7 x8 := by kernel_rfl
theorem ln_f89_0 (x0 : (List ByteArray)) (x1 : Int) (x7 : ByteArray) (x8 : Int) : lp_f89_0 x0 x1 x7 x8 = n_f89_0 x0 x1 x7 x8 := (loopF_nxt _ _).trans (by
 rw [be_f89_0]
 simp only [b_f89_0, n_f89_0, nxt_br, nxt_n, nxt_r, nxt_e, nxt_0]
 rfl)
def r_f89 (p0 : (List ByteArray)) (p1 : Int) : Option (V × List VO) :=
 br (cIx p0 p1)
  (br ((nameG (lgt .str p0 (Int.toNat p1))))
   (br ((rjnL p0 p1 (tB (lgt .str p0 (Int.toNat p1))) (1 : Int)))
    (br ((!(rjZ p0 p1 (tB (lgt .str p0 (Int.toNat p1))) (1 : Int)).2.2))
     (some (.tu [(.t .str (ByteArray.mk #[])), (.t tI ((rjZ p0 p1 (tB (lgt .str p0 (Int.toNat p1))) (1 : Int)).2.1)), (.t .bool (false))], []))
     (br ((nameG ((rjZ p0 p1 (tB (lgt .str p0 (Int.toNat p1))) (1 : Int)).1)))
      (some (.tu [(.t .str (tB ((rjZ p0 p1 (tB (lgt .str p0 (Int.toNat p1))) (1 : Int)).1))), (.t tI ((rjZ p0 p1 (tB (lgt .str p0 (Int.toNat p1))) (1 : Int)).2.1)), (.t .bool true)], []))
      (none)))
    (none))
   (none))
  (none)
theorem e_f89 (p0 : (List ByteArray)) (p1 : Int) : runF g_f89 tc_f89 rv_f89 false [.t (.sl .str) p0, .t tI p1] [] = r_f89 p0 p1 := by kernel_rfl
theorem ok_f89 : Option.map (trC Tryd.prog) Tryd.f89.body = some tc_f89.er := by kernel_rfl
theorem rok_f89 : trVs Tryd.prog Tryd.f89.results.toList = some (rv_f89.map Prod.fst) := by kernel_rfl
theorem en_f89 : Entered Tryd.prog 89 := .inr ⟨by decide, _, Tryd.func89, by kernel_rfl, by kernel_rfl⟩
theorem gk_f89 : GOk Tryd.prog g_f89 := gok_of _ (by
 intro p hp
 simp only [List.mem_cons, List.not_mem_nil, or_false] at hp
 rcases hp with rfl
 ·exact ⟨en_f91, ms_f91⟩)
theorem l_f89_0 (x0 : (List ByteArray)) (x1 : Int) (x7 : ByteArray) (x8 : Int) (h : (rjnL x0 x1 x7 x8) = true) : lp_f89_0 x0 x1 x7 x8 = la_f89_0 x0 x1 x7 x8 := by
 obtain ⟨h0, h1⟩ := Bool.and_eq_true_iff.1 h
 obtain ⟨h1, h2, h3, h4⟩ := of_decide_eq_true h1
 have hl := lnsOk_len h0
 clear h
 obtain ⟨i, rfl⟩ := Int.eq_ofNat_of_zero_le h1
 obtain ⟨n, rfl⟩ := Int.eq_ofNat_of_zero_le (show 0 ≤ x8 by omega)
 rw [Int.toNat_natCast] at h4
 obtain ⟨m, hm⟩ : ∃ m : Nat, x0.length - (i + n) = m := ⟨_, rfl⟩
 clear h1
 induction m generalizing x7 n with
 | zero =>
  have hd : x0.drop (i + n) = [] := List.drop_of_length_le (by omega)
  rw [ln_f89_0]
  simp only [n_f89_0, la_f89_0, rjZ, Int.toNat_natCast, hd]
  have e2 : ige (iadd .i64 (i : Int) (n : Int)) (llen x0) = true := by rw [iadd_in (by omega)]; exact decide_eq_true (by simp only [llen]; omega)
  rw [e2, br_true]
  by_cases hz : 0 < x7.size
  ·rw [show igt (slen x7) 0 = true from decide_eq_true (by simp only [slen]; omega), br_true]
   rcases bsl_dec hz _ _ with e | e
   ·refine e.trans ?_
    cases hb : bsl x7 with
    | true =>
     rw [jnF_nil hb]
     rfl
    | false =>
     rw [jnF_stop hb]
     rfl
   ·omega
  ·rw [show igt (slen x7) 0 = false from decide_eq_false (by simp only [slen]; omega), br_false]
   have hb : bsl x7 = false := by
    cases hb : bsl x7 with
    | true => exact absurd (bsl_pos hb) hz
    | false => rfl
   rw [jnF_stop hb]
   rfl
 | succ m ih =>
  have hk : i + n < x0.length := by omega
  have hd : x0.drop (i + n) = x0[i + n] :: x0.drop (i + (n + 1)) := List.drop_eq_getElem_cons hk
  have hs := lnsOk_at h0 hk
  have ht := tB_size x0[i + n]
  rw [ln_f89_0]
  by_cases hz : 0 < x7.size
  ·have e0 : iadd .i64 (i : Int) (n : Int) = ((i + n : Nat) : Int) := by rw [iadd_in (by omega)]; omega
   have e1 : iadd .i64 (n : Int) 1 = ((n + 1 : Nat) : Int) := by rw [iadd_in (by omega)]; omega
   have e2 : ige ((i + n : Nat) : Int) (llen x0) = false := decide_eq_false (by simp only [llen]; omega)
   have c1 : cSs x7 0 (isub .i64 (slen x7) 1) = true := by
    rw [isub_in (by simp only [slen]; omega)]
    exact decide_eq_true (by simp only [slen]; omega)
   have c2 : nameG x0[i + n] = true := decide_eq_true (by omega)
   simp only [n_f89_0, e0, e1, e2, c1, cIx_nat, hk, decide_true, br_true, br_false, Int.toNat_natCast, lgt_get (y := .str) hk, c2, cut_ssl (show x7.size ≤ 9223372036854775807 by omega) hz]
   rw [show igt (slen x7) 0 = true from decide_eq_true (by simp only [slen]; omega), br_true]
   rcases bsl_dec hz _ _ with e | e
   ·refine e.trans ?_
    cases hb : bsl x7 with
    | true =>
     have hc := cutL_size hb
     have hsz : (cutL x7 ++ tB x0[i + n]).size ≤ 10000 * (n + 1) := by rw [ByteArray.size_append]; omega
     rw [br_true, show cCat (cutL x7) (tB x0[i + n]) = true from decide_eq_true (by omega), br_true]
     refine (ih (cutL x7 ++ tB x0[i + n]) (n + 1) (by first | exact hsz | omega) (by first | exact hsz | omega) (by first | exact hsz | omega) (by first | exact hsz | omega)).trans ?_
     simp only [la_f89_0, rjZ, Int.toNat_natCast, hd, jnF_cons hb]
    | false =>
     rw [br_false]
     simp only [la_f89_0, rjZ, Int.toNat_natCast, jnF_stop hb]
     rfl
   ·omega
  ·have hb : bsl x7 = false := by
    cases hb : bsl x7 with
    | true => exact absurd (bsl_pos hb) hz
    | false => rfl
   simp only [n_f89_0]
   rw [show igt (slen x7) 0 = false from decide_eq_false (by simp only [slen]; omega), br_false]
   simp only [la_f89_0, rjZ, Int.toNat_natCast, jnF_stop hb]
   rfl
theorem lo_f89_0 : ∀ S l p, g_f89.L 0 (fgt fg_f89_0 S) = some (true, l) → pickA l = some p → loopF (roundF g_f89 fg_f89_0 tb_f89_0) S = some p :=
 lok_of (s := sh_f89_0) ⟨by decide, by decide⟩ (by kernel_rfl) fun x y hok p hp => by
 simp only [pickA_br, pickA_one] at hp
 exact (l_f89_0 x.1 x.2.1 x.2.2.1 x.2.2.2.1 (by simpa using hok)).trans hp
theorem lk_f89 : tc_f89.lok g_f89 := by
 repeat (first | exact trivial | exact lo_f89_0 | refine ⟨?_, ?_⟩)
theorem jnF_size : ∀ (r : List ByteArray) (s : ByteArray) (n : Nat), (∀ x ∈ r, x.size ≤ 10000) → (jnF r s n).1.size ≤ s.size + 10000 * r.length
 | [], s, n, _ => by
  unfold jnF
  split
  ·exact Nat.zero_le _
  ·exact Nat.le_refl _
 | x :: r, s, n, h => by
  unfold jnF
  split
  ·rename_i hb
   have h1 := jnF_size r (cutL s ++ tB x) (n + 1) fun y hy => h y (List.mem_cons_of_mem _ hy)
   have h2 := tB_size x
   have h3 := h x List.mem_cons_self
   have h4 := cutL_size hb
   rw [ByteArray.size_append] at h1
   rw [List.length_cons]
   omega
  ·show s.size ≤ _
   omega
theorem rjZ_size {l : List ByteArray} {i : Nat} (h : lnsOk l = true) (hi : i < l.length) : (rjZ l i (tB (lgt .str l i)) 1).1.size ≤ 1000010000 := by
 have hl := lnsOk_len h
 have hs := lnsOk_at h hi
 have ht := tB_size l[i]
 have := jnF_size (l.drop (i + 1)) (tB l[i]) 1 fun x hx => by
  obtain ⟨k, hk, rfl⟩ := List.getElem_of_mem (List.mem_of_mem_drop hx)
  exact lnsOk_at h hk
 rw [List.length_drop] at this
 rw [lgt_get (y := .str) hi]
 show (jnF (l.drop ((i : Int).toNat + (1 : Int).toNat)) (tB l[i]) (1 : Int).toNat).1.size ≤ _
 rw [Int.toNat_natCast, show (1 : Int).toNat = 1 from rfl]
 omega
theorem s_f89 (l : List ByteArray) (i : Int) (h : rjnOk l i = true) : r_f89 l i = some (.tu [.t .str (rjnF l i).1, .t tI (rjnF l i).2.1, .t .bool (rjnF l i).2.2], []) := by
 obtain ⟨h0, h1⟩ := Bool.and_eq_true_iff.1 h
 have hl := lnsOk_len h0
 have hi : 0 ≤ i ∧ i < (l.length : Nat) := of_decide_eq_true h1
 obtain ⟨k, rfl⟩ := Int.eq_ofNat_of_zero_le hi.1
 have hk : k < l.length := by omega
 have hs := lnsOk_at h0 hk
 have ht := tB_size l[k]
 have hz := rjZ_size h0 hk
 unfold r_f89 rjnF
 rw [Int.toNat_natCast] at *
 rw [lgt_get (y := .str) hk] at hz ⊢
 refine brY h1 (brY (decide_eq_true (by omega)) (brY ?_ ?_))
 ·exact Bool.and_eq_true_iff.2 ⟨h0, decide_eq_true ⟨by omega, by omega, by omega, by show (tB l[k]).size ≤ 10000 * 1; omega⟩⟩
 ·cases (rjZ l (k : Int) (tB l[k]) 1).2.2 with
  | false => rfl
  | true =>
   rw [Bool.not_true, br_false]
   exact brY (decide_eq_true (by omega)) rfl
def sp_f89 : Ent := spec (.pr (.sl .str) (.pr tI .nil)) (fun x => (rjnOk x.1 x.2.1)) (fun x => (.tu [(.t .str ((rjnF x.1 x.2.1).1)), (.t tI (((rjnF x.1 x.2.1).2).1)), (.t .bool (((rjnF x.1 x.2.1).2).2))]))
theorem ms_f89 : Meets Tryd.prog 89 (strip sp_f89) := by
 obtain ⟨c, hc, hi⟩ := Option.map_eq_some_iff.1 ok_f89
 exact meets_spec (R := runF g_f89 tc_f89 rv_f89 false) (meets_of (by decide) Tryd.func89 hc hi Tryd.ntmps89 rok_f89 gk_f89 lk_f89 mixed) fun x hok => (e_f89 x.1 x.2.1).trans (s_f89 x.1 x.2.1 hok)
theorem rjn_pos {l : List ByteArray} {i : Nat} (hi : i < l.length) : 1 ≤ (rjnF l i).2.1 ∧ (i : Int) + (rjnF l i).2.1 ≤ l.length := by
 have hj := jnF_n (l.drop ((i : Int).toNat + (1 : Int).toNat)) (tB (lgt .str l (i : Int).toNat)) (1 : Int).toNat
 have e : (rjnF l i).2.1 = (((jnF (l.drop ((i : Int).toNat + (1 : Int).toNat)) (tB (lgt .str l (i : Int).toNat)) (1 : Int).toNat).2.1 : Nat) : Int) := by
  unfold rjnF
  cases (rjZ l (i : Int) (tB (lgt .str l (i : Int).toNat)) 1).2.2 <;> rfl
 rw [e]
 rw [List.length_drop] at hj
 simp only [Int.toNat_natCast, show (1 : Int).toNat = 1 from rfl] at hj ⊢
 omega
theorem rjn_size {l : List ByteArray} {i : Nat} (h : lnsOk l = true) (hi : i < l.length) : (rjnF l i).1.size ≤ 1000010000 := by
 have := rjZ_size h hi
 unfold rjnF
 rw [Int.toNat_natCast]
 cases (rjZ l (i : Int) (tB (lgt .str l i)) 1).2.2 with
 | false => exact Nat.zero_le _
 | true => exact Nat.le_trans (tB_size _) this
end
end Go.Proofs.YtkkoedniahnneaaDoor.K
