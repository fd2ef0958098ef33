/-
 renewal: the first day in spans.
-/
import Derived.Test.YtfehjdaielifiaaGreatV29
set_option linter.unusedSimpArgs false
set_option linter.unusedVariables false
namespace Go.Proofs.YtfehjdaielifiaaGreat.K
open Go.RowKit
noncomputable section
def pastF (i : Int) (l : List Keep) (from_ : Int) : Bool := igt (lgt tyKeep l i.toNat).2.1 from_
def pastOk (i : Int) (l : List Keep) (_from : Int) : Bool := cIx l i
def dr_f105_0 : List DO := [(.mk (oL 5 1) []), (.mk (oV 6 0) []), (.mk (oP 7 (.ix 2 (.t 5) (.t 6))) [0, 1]), (.mk (oP 8 (.fa 1 (.t 7))) [2]), (.mk (oL 9 8) [3]), (.mk (oL 10 2) []), (.mk (oP 11 (.bin false .gtr (.t 9) (.t 10))) [4, 5]), (.mk (oV 4 11) [6, 0, 1, 2, 3, 4, 5, 6])]
def tc_f105 : TC := (.sq (.reg [(oP 4 (.mv (cB false)))]) (.sq (.dr dr_f105_0 [(0, [50000]), (1, []), (2, []), (3, []), (4, []), (5, [50001]), (6, []), (7, [])] (.of [0, 1, 2, 3, 4, 5, 6, 7])) .rt))
def rv_f105 : List (RV × Option Ty) := [((.t 4), some .bool)]
def g_f105 : G := ⟨TYs, [], 12, EL [], keeps, (fun _ _ => none), IL [], RL []⟩
def r_f105 (p0 : Int) (d0 : (List Keep)) (d1 : Int) : Option (V × List VO) :=
 br (cIx d0 p0)
  (some (.t .bool (igt (((lgt tyKeep d0 (Int.toNat p0)).2).1) d1), [.box (.t (.sl tyKeep) d0), .box (.t tI d1)]))
  (none)
theorem e_f105 (p0 : Int) (d0 : (List Keep)) (d1 : Int) : runF g_f105 tc_f105 rv_f105 false [.t tI p0, .ptr 50000 0, .ptr 50001 0] [.box (.t (.sl tyKeep) d0), .box (.t tI d1)] = r_f105 p0 d0 d1 := by kernel_rfl
theorem ok_f105 : Option.map (trC Tryz.prog) Tryz.f105.body = some tc_f105.er := by kernel_rfl
theorem rok_f105 : trVs Tryz.prog Tryz.f105.results.toList = some (rv_f105.map Prod.fst) := by kernel_rfl
theorem en_f105 : Entered Tryz.prog 105 := .inr ⟨by decide, _, Tryz.func105, by kernel_rfl, by kernel_rfl⟩
theorem gk_f105 : GOk Tryz.prog g_f105 := gok_of _ (fun p hp => by cases hp)
theorem lk_f105 : tc_f105.lok g_f105 := by repeat (first | exact trivial | refine ⟨?_, ?_⟩)
theorem s_f105 (i : Int) (l : List Keep) (f : Int) (h : pastOk i l f = true) : r_f105 i l f = some (.t .bool (pastF i l f), [.box (.t (.sl tyKeep) l), .box (.t tI f)]) := by
 have h : cIx l i = true := h
 unfold r_f105
 rw [h, br_true]
 rfl
def sp_f105 : Ent := specH [.ty tI, .ptr 50000 0, .ptr 50001 0] [(.sl tyKeep), tI] (fun x d => (pastOk x.1 d.1 d.2.1)) (fun x d => (.t .bool (pastF x.1 d.1 d.2.1)))
theorem ms_f105 : Meets Tryz.prog 105 (strip sp_f105) := by
 obtain ⟨c, hc, hi⟩ := Option.map_eq_some_iff.1 ok_f105
 exact meets_specH (R := runF g_f105 tc_f105 rv_f105 false) (meets_of (by decide) Tryz.func105 hc hi Tryz.ntmps105 rok_f105 gk_f105 lk_f105 mixed) fun x d hok => (e_f105 x.1 d.1 d.2.1).trans (s_f105 x.1 d.1 d.2.1 hok)
def fstIx (l : List Keep) (from_ : Int) : Nat := (l.takeWhile fun s => decide (s.2.1 ≤ from_)).length
def ascTo (l : List Keep) : Bool := decide (l.Pairwise fun a b => a.2.1 ≤ b.2.1) && decide (l.length ≤ 100000)
theorem fstIx_le (l : List Keep) (f : Int) : fstIx l f ≤ l.length := (List.takeWhile_sublist _).length_le
theorem fst_lo {f : Int} : ∀ {l : List Keep} {k : Nat} (h : k < l.length), f < l[k].2.1 → fstIx l f ≤ k
 | [], k, h, _ => by simp at h
 | a :: l, 0, _, hf => by
  unfold fstIx
  rw [List.takeWhile_cons, if_neg (by simpa using hf)]
  exact Nat.le_refl _
 | a :: l, k + 1, h, hf => by
  have ih := fst_lo (l := l) (k := k) (by simpa using h) (by simpa using hf)
  unfold fstIx at ih ⊢
  rw [List.takeWhile_cons]
  split
  ·rw [List.length_cons]
   omega
  ·exact Nat.zero_le _
theorem fst_hi {f : Int} : ∀ {l : List Keep} {k : Nat} (h : k < l.length), l.Pairwise (fun a b => a.2.1 ≤ b.2.1) → l[k].2.1 ≤ f → k < fstIx l f
 | [], k, h, _, _ => by simp at h
 | a :: l, 0, _, _, hf => by
  unfold fstIx
  rw [List.takeWhile_cons, if_pos (by simpa using hf), List.length_cons]
  omega
 | a :: l, k + 1, h, hp, hf => by
  obtain ⟨p1, p2⟩ := List.pairwise_cons.1 hp
  have hk : k < l.length := by simpa using h
  have hf : l[k].2.1 ≤ f := by simpa using hf
  have ih := fst_hi hk p2 hf
  have ha : a.2.1 ≤ f := Int.le_trans (p1 _ (List.getElem_mem hk)) hf
  unfold fstIx at ih ⊢
  rw [List.takeWhile_cons, if_pos (by simpa using ha), List.length_cons]
  omega
def srchF (_n : Int) (l : List Keep) (from_ : Int) : Int := (fstIx l from_ : Int)
def srchOk (n : Int) (l : List Keep) (_from : Int) : Bool := ieq n (llen l) && ascTo l
def fg_f104c105_0 : Fg := ⟨[(1, none), (5, some tI), (6, some tI)], [(50000, some (.sl tyKeep)), (50001, some tI)]⟩
def tb_f104c105_0 : TC := (.sq (.sq (.reg [(oV 9 5), (oV 10 6), (oP 11 (.bin false .lss (.t 9) (.t 10)))]) (.cd (.t 11) .sk (.fg ⟨[(5, some tI)], [(50000, some (.sl tyKeep)), (50001, some tI)]⟩ (.ex 0)))) (.bk 1 (.sq (.reg [(oV 12 5), (oV 13 6), (oP 14 (.bin false .add (.t 12) (.t 13))), (oP 15 (.cv .u64 (.t 14))), (oP 16 (.bin false .shr (.t 15) (.c (.v (.int .u64 1))))), (oP 17 (.cv .i64 (.t 16))), (oV 7 17)]) (.sq (.reg [(oV 18 1), (oV 19 7), (oK 20 (.cv (.t 18) [(.t 19)])), (oP 21 (.nt (.t 20)))]) (.cd (.t 21) (.reg [(oV 22 7), (oP 23 (.bin false .add (.t 22) (cI 1))), (oV 5 23)]) (.reg [(oV 24 7), (oV 6 24)]))))))
def tc_f104c105 : TC := (.sq (.reg [(oP 4 (.mv (cI 0)))]) (.sq (.reg [(oV 8 0), (oP 5 (.mv (cI 0))), (oV 6 8)]) (.sq (.bk 0 (.lp 0 fg_f104c105_0 tb_f104c105_0)) (.sq (.reg [(oV 25 5), (oV 4 25)]) .rt))))
def rv_f104c105 : List (RV × Option Ty) := [((.t 4), some tI)]
abbrev sh_f104c105_0 : Sh := ⟨[(1, .fn 105 [(50000, 0), (50001, 0)]), (5, .ty tI), (6, .ty tI)], [(50000, .box (.sl tyKeep)), (50001, .box tI)]⟩
def st_f104c105_0 (x5 : Int) (x6 : Int) (y50000 : (List Keep)) (y50001 : Int) : VS := sh_f104c105_0.st ((), x5, x6, ()) (y50000, y50001, ())
abbrev sh_f104c105_0_e0 : Sh := ⟨[(5, .ty tI)], [(50000, .box (.sl tyKeep)), (50001, .box tI)]⟩
def st_f104c105_0_e0 (x5 : Int) (y50000 : (List Keep)) (y50001 : Int) : VS := sh_f104c105_0_e0.st (x5, ()) (y50000, y50001, ())
-- loop 0: (x5 : Int) (x6 : Int) (y50000 : (List Keep)) (y50001 : Int); out: ('exit', 0) (x5 : Int) (y50000 : (List Keep)) (y50001 : Int)
def L_f104c105_0 : VS → Option (Bool × List (Bool × Exit × VS)) := mkL sh_f104c105_0 (fun x y => (ascTo y.1 && decide (0 ≤ x.2.1 ∧ x.2.1 ≤ fstIx y.1 y.2.1 ∧ (fstIx y.1 y.2.1 : Int) ≤ x.2.2.1 ∧ x.2.2.1 ≤ y.1.length))) (fun x y => [(true, .exit 0, st_f104c105_0_e0 ((fstIx y.1 y.2.1 : Int)) (y.1) (y.2.1))])
def g_f104c105 : G := ⟨TYs, [], 26, EL [(105, sp_f105)], keeps, (Ls [L_f104c105_0]), IL [], RL []⟩
def b_f104c105_0 (x5 : Int) (x6 : Int) (y50000 : (List Keep)) (y50001 : Int) : Option (Exit × VS) :=
 br ((ilt x5 x6))
  (br ((decide ((0 : Int) ≤ 1)))
   (br ((pastOk (icv .i64 (ishr .u64 (icv .u64 (iadd .i64 x5 x6)) 1)) y50000 y50001))
    (br ((!(pastF (icv .i64 (ishr .u64 (icv .u64 (iadd .i64 x5 x6)) 1)) y50000 y50001)))
     (some (.normal, st_f104c105_0 (iadd .i64 (icv .i64 (ishr .u64 (icv .u64 (iadd .i64 x5 x6)) 1)) 1) x6 y50000 y50001))
     (some (.normal, st_f104c105_0 x5 (icv .i64 (ishr .u64 (icv .u64 (iadd .i64 x5 x6)) 1)) y50000 y50001)))
    (none))
   (none))
  (some (.exit 0, st_f104c105_0_e0 x5 y50000 y50001))
noncomputable def lp_f104c105_0 (x5 : Int) (x6 : Int) (y50000 : (List Keep)) (y50001 : Int) : Option (Exit × VS) := loopF (roundF g_f104c105 fg_f104c105_0 tb_f104c105_0) (st_f104c105_0 x5 x6 y50000 y50001)
noncomputable def n_f104c105_0 (x5 : Int) (x6 : Int) (y50000 : (List Keep)) (y50001 : Int) : Option (Exit × VS) :=
 br ((ilt x5 x6))
  (br ((decide ((0 : Int) ≤ 1)))
   (br ((pastOk (icv .i64 (ishr .u64 (icv .u64 (iadd .i64 x5 x6)) 1)) y50000 y50001))
    (br ((!(pastF (icv .i64 (ishr .u64 (icv .u64 (iadd .i64 x5 x6)) 1)) y50000 y50001)))
     (lp_f104c105_0 (iadd .i64 (icv .i64 (ishr .u64 (icv .u64 (iadd .i64 x5 x6)) 1)) 1) x6 y50000 y50001)
     (lp_f104c105_0 x5 (icv .i64 (ishr .u64 (icv .u64 (iadd .i64 x5 x6)) 1)) y50000 y50001))
    (none))
   (none))
  (some (.exit 0, st_f104c105_0_e0 x5 y50000 y50001))
def la_f104c105_0 (x5 : Int) (x6 : Int) (y50000 : (List Keep)) (y50001 : Int) : Option (Exit × VS) := some (.exit 0, st_f104c105_0_e0 ((fstIx y50000 y50001 : Int)) (y50000) (y50001))
theorem be_f104c105_0 (x5 : Int) (x6 : Int) (y50000 : (List Keep)) (y50001 : Int) : roundF g_f104c105 fg_f104c105_0 tb_f104c105_0 (st_f104c105_0 x5 x6 y50000 y50001) = b_f104c105_0 x5 x6 y50000 y50001 := by kernel_rfl
theorem ln_f104c105_0 (x5 : Int) (x6 : Int) (y50000 : (List Keep)) (y50001 : Int) : lp_f104c105_0 x5 x6 y50000 y50001 = n_f104c105_0 x5 x6 y50000 y50001 := (loopF_nxt _ _).trans (by
 rw [be_f104c105_0]
 simp only [b_f104c105_0, n_f104c105_0, nxt_br, nxt_n, nxt_r, nxt_e, nxt_0]
 rfl)
def r_f104c105 (p0 : Int) (d0 : (List Keep)) (d1 : Int) : Option (V × List VO) :=
 br ((ascTo d0 && decide (0 ≤ (0 : Int) ∧ (0 : Int) ≤ fstIx d0 d1 ∧ (fstIx d0 d1 : Int) ≤ p0 ∧ p0 ≤ d0.length)))
  (some (.t tI ((fstIx d0 d1 : Int)), [.box (.t (.sl tyKeep) (d0)), .box (.t tI (d1))]))
  (none)
theorem e_f104c105 (p0 : Int) (d0 : (List Keep)) (d1 : Int) : runF g_f104c105 tc_f104c105 rv_f104c105 false [.t tI p0, .fn 105 [(.ptr 50000 0), (.ptr 50001 0)]] [.box (.t (.sl tyKeep) d0), .box (.t tI d1)] = r_f104c105 p0 d0 d1 := by kernel_rfl
theorem ok_f104c105 : Option.map (trC Tryz.prog) Tryz.f104.body = some tc_f104c105.er := by kernel_rfl
theorem rok_f104c105 : trVs Tryz.prog Tryz.f104.results.toList = some (rv_f104c105.map Prod.fst) := by kernel_rfl
theorem en_f104c105 : Entered Tryz.prog 104 := .inr ⟨by decide, _, Tryz.func104, by kernel_rfl, by kernel_rfl⟩
theorem gk_f104c105 : GOk Tryz.prog g_f104c105 := gok_of _ (by
 intro p hp
 simp only [List.mem_cons, List.not_mem_nil, or_false] at hp
 rcases hp with rfl
 ·exact ⟨en_f105, ms_f105⟩)
theorem mid_eq {i j : Int} (h0 : 0 ≤ i) (h1 : i ≤ j) (h2 : j ≤ 100000) : icv .i64 (ishr .u64 (icv .u64 (iadd .i64 i j)) 1) = (i + j) / 2 := by
 have e1 : iadd .i64 i j = i + j := iadd_in (by omega)
 have e2 : icv .u64 (i + j) = i + j := by
  show (i + j) % 18446744073709551616 = i + j
  omega
 have e3 : ishr .u64 (i + j) 1 = (i + j) / 2 := by
  show (i + j).fdiv 2 = _
  exact Int.fdiv_eq_ediv_of_nonneg _ (by omega)
 rw [e1, e2, e3]
 exact Go.IntWalk.i64_in _ (by omega)
theorem l_f104c105_0 (x5 : Int) (x6 : Int) (y50000 : (List Keep)) (y50001 : Int) (h : (ascTo y50000 && decide (0 ≤ x5 ∧ x5 ≤ fstIx y50000 y50001 ∧ (fstIx y50000 y50001 : Int) ≤ x6 ∧ x6 ≤ y50000.length)) = true) : lp_f104c105_0 x5 x6 y50000 y50001 = la_f104c105_0 x5 x6 y50000 y50001 := by
 simp only [Bool.and_eq_true, decide_eq_true_eq, ascTo] at h
 obtain ⟨⟨hp, h5⟩, h0, h1, h2, h3⟩ := h
 obtain ⟨m, hm⟩ : ∃ m, m = (x6 - x5).toNat := ⟨_, rfl⟩
 induction m using Nat.strongRecOn generalizing x5 x6 with
 | ind m ih =>
  rw [ln_f104c105_0]
  by_cases hlt : x5 < x6
  ·have em := mid_eq h0 (show x5 ≤ x6 by omega) (by omega)
   obtain ⟨k, hk⟩ : ∃ k : Nat, (x5 + x6) / 2 = (k : Int) := ⟨((x5 + x6) / 2).toNat, by omega⟩
   have hkl : k < y50000.length := by omega
   have c1 : pastOk (k : Int) y50000 y50001 = true := by show cIx y50000 (k : Int) = true; rw [cIx_nat]; exact decide_eq_true hkl
   have e1 : iadd .i64 (k : Int) 1 = (k : Int) + 1 := iadd_in (by omega)
   have c2 : pastF (k : Int) y50000 y50001 = decide (y50000[k].2.1 > y50001) := by
    unfold pastF
    rw [Int.toNat_natCast, lgt_get (y := tyKeep) hkl]
   simp only [n_f104c105_0, em, hk, c1, e1, c2, show ilt x5 x6 = true from decide_eq_true hlt, show decide ((0 : Int) ≤ 1) = true from rfl, br_true]
   refine br_intro (fun g => ?_) (fun g => ?_)
   ·have g : y50000[k].2.1 ≤ y50001 := by simpa using g
    have := fst_hi hkl hp g
    rw [ih (x6 - ((k : Int) + 1)).toNat (by omega) (x5 := (k : Int) + 1) (x6 := x6) (by omega) (by omega) (by omega) (by omega) rfl]
    rfl
   ·have g : y50001 < y50000[k].2.1 := by simpa using g
    have := fst_lo hkl g
    rw [ih ((k : Int) - x5).toNat (by omega) (x5 := x5) (x6 := (k : Int)) (by omega) (by omega) (by omega) (by omega) rfl]
    rfl
  ·have e : x5 = (fstIx y50000 y50001 : Int) := by omega
   simp only [n_f104c105_0, show ilt x5 x6 = false from decide_eq_false hlt, br_false, la_f104c105_0]
   rw [← e]
theorem lo_f104c105_0 : ∀ S l p, g_f104c105.L 0 (fgt fg_f104c105_0 S) = some (true, l) → pickA l = some p → loopF (roundF g_f104c105 fg_f104c105_0 tb_f104c105_0) S = some p :=
 lok_of (s := sh_f104c105_0) ⟨by decide, by decide⟩ (by kernel_rfl) fun x y hok p hp => by
 simp only [pickA_br, pickA_one] at hp
 exact (l_f104c105_0 x.2.1 x.2.2.1 y.1 y.2.1 (by simpa using hok)).trans hp
theorem lk_f104c105 : tc_f104c105.lok g_f104c105 := by
 repeat (first | exact trivial | exact lo_f104c105_0 | refine ⟨?_, ?_⟩)
theorem s_f104c105 (n : Int) (l : List Keep) (f : Int) (h : srchOk n l f = true) : r_f104c105 n l f = some (.t tI (srchF n l f), [.box (.t (.sl tyKeep) l), .box (.t tI f)]) := by
 simp only [srchOk, Bool.and_eq_true, ieq_dec, decide_eq_true_eq, llen] at h
 obtain ⟨rfl, h2⟩ := h
 have := fstIx_le l f
 unfold r_f104c105
 rw [h2, Bool.true_and, dec_true ⟨Int.le_refl 0, by omega, by omega, by omega⟩, br_true]
 rfl
def sp_f104c105 : Ent := specH [.ty tI, .fn 105 [(50000, 0), (50001, 0)]] [(.sl tyKeep), tI] (fun x d => (srchOk x.1 d.1 d.2.1)) (fun x d => (.t tI (srchF x.1 d.1 d.2.1)))
theorem ms_f104c105 : Meets Tryz.prog 104 (strip sp_f104c105) := by
 obtain ⟨c, hc, hi⟩ := Option.map_eq_some_iff.1 ok_f104c105
 exact meets_specH (R := runF g_f104c105 tc_f104c105 rv_f104c105 false) (meets_of (by decide) Tryz.func104 hc hi Tryz.ntmps104 rok_f104c105 gk_f104c105 lk_f104c105 mixed) fun x d hok => (e_f104c105 x.1 d.1 d.2.1).trans (s_f104c105 x.1 d.1 d.2.1 hok)
def firstF (l : List Keep) (from_ to_ : Int) : Int × Bool := match l[fstIx l from_]? with
 | some s => (imx from_ s.1, ile (imx from_ s.1) to_)
 | none => (0, false)
def firstOk (l : List Keep) (_f _t : Int) : Bool := ascTo l
def dr_f82_0 : List DO := [(.mk (oL 18 4) []), (.mk (oL 19 3) []), (.mk (oV 20 8) []), (.mk (oP 21 (.ix 2 (.t 19) (.t 20))) [1, 2]), (.mk (oP 22 (.fa 0 (.t 21))) [3]), (.mk (oL 23 22) [4]), (.mk (oP 24 (.mx (.t 18) (.t 23))) [0, 5]), (.mk (oV 9 24) [6, 0, 1, 2, 3, 4, 5, 6])]
def tc_f82 : TC := (.sq (.reg [(oM 3 (.box (.t 0))), (oM 4 (.box (.t 1))), (oP 6 (.mv (cI 0))), (oP 7 (.mv (cB false)))]) (.sq (.reg [(oL 10 3), (oP 11 (.len false (.t 10))), (oK 12 (.mf 105 [(.t 3), (.t 4)])), (oC 13 104 [(.t 11), (.t 12)]), (oV 8 13)]) (.sq (.sq (.reg [(oV 14 8), (oL 15 3), (oP 16 (.len false (.t 15))), (oP 17 (.bin false .eql (.t 14) (.t 16)))]) (.cd (.t 17) (.sq (.reg [(oP 6 (.mv (cI 0))), (oP 7 (.mv (cB false)))]) .rt) .sk)) (.sq (.dr dr_f82_0 [(0, [4]), (1, [3]), (2, []), (3, []), (4, []), (5, []), (6, []), (7, [])] (.of [0, 1, 2, 3, 4, 5, 6, 7])) (.sq (.reg [(oV 25 9), (oV 26 9), (oV 27 2), (oP 28 (.bin false .leq (.t 26) (.t 27))), (oV 6 25), (oV 7 28)]) .rt)))))
def rv_f82 : List (RV × Option Ty) := [((.t 6), some tI), ((.t 7), some .bool)]
def g_f82 : G := ⟨TYs, [], 29, EL [(104, sp_f104c105)], keeps, (fun _ _ => none), IL [], RL []⟩
def r_f82 (p0 : (List Keep)) (p1 : Int) (p2 : Int) : Option (V × List VO) :=
 br ((srchOk (llen p0) p0 p1))
  (br ((ieq (srchF (llen p0) p0 p1) (llen p0)))
   (some (.tu [(.t tI 0), (.t .bool false)], []))
   (br (cIx p0 (srchF (llen p0) p0 p1))
    (some (.tu [(.t tI (imx p1 ((lgt tyKeep p0 (Int.toNat (srchF (llen p0) p0 p1))).1))), (.t .bool (ile (imx p1 ((lgt tyKeep p0 (Int.toNat (srchF (llen p0) p0 p1))).1)) p2))], []))
    (none)))
  (none)
theorem e_f82 (p0 : (List Keep)) (p1 : Int) (p2 : Int) : runF g_f82 tc_f82 rv_f82 false [.t (.sl tyKeep) p0, .t tI p1, .t tI p2] [] = r_f82 p0 p1 p2 := by kernel_rfl
theorem ok_f82 : Option.map (trC Tryz.prog) Tryz.f82.body = some tc_f82.er := by kernel_rfl
theorem rok_f82 : trVs Tryz.prog Tryz.f82.results.toList = some (rv_f82.map Prod.fst) := by kernel_rfl
theorem en_f82 : Entered Tryz.prog 82 := .inr ⟨by decide, _, Tryz.func82, by kernel_rfl, by kernel_rfl⟩
theorem gk_f82 : GOk Tryz.prog g_f82 := gok_of _ (by
 intro p hp
 simp only [List.mem_cons, List.not_mem_nil, or_false] at hp
 rcases hp with rfl
 ·exact ⟨en_f104c105, ms_f104c105⟩)
theorem lk_f82 : tc_f82.lok g_f82 := by repeat (first | exact trivial | refine ⟨?_, ?_⟩)
theorem s_f82 (l : List Keep) (a b : Int) (h : firstOk l a b = true) : r_f82 l a b = some (.tu [.t tI (firstF l a b).1, .t .bool (firstF l a b).2], []) := by
 have h2 : srchOk (llen l) l a = true := by unfold srchOk; rw [show ieq (llen l) (llen l) = true by simp [ieq], show ascTo l = true from h]; rfl
 have hle := fstIx_le l a
 unfold r_f82
 rw [h2, br_true]
 unfold srchF firstF
 by_cases hk : fstIx l a < l.length
 ·have c1 : ieq (fstIx l a : Int) (llen l) = false := by simp only [ieq_dec, llen, decide_eq_false_iff_not]; omega
  rw [c1, br_false, cIx_nat, dec_true hk, br_true, Int.toNat_natCast, lgt_get (y := tyKeep) hk, List.getElem?_eq_getElem hk]
 ·have c1 : ieq (fstIx l a : Int) (llen l) = true := by simp only [ieq_dec, llen, decide_eq_true_eq]; omega
  rw [c1, br_true, List.getElem?_eq_none (by omega)]
def sp_f82 : Ent := spec (.pr (.sl tyKeep) (.pr tI (.pr tI .nil))) (fun x => (firstOk x.1 x.2.1 x.2.2.1)) (fun x => (.tu [(.t tI ((firstF x.1 x.2.1 x.2.2.1).1)), (.t .bool ((firstF x.1 x.2.1 x.2.2.1).2))]))
theorem ms_f82 : Meets Tryz.prog 82 (strip sp_f82) := by
 obtain ⟨c, hc, hi⟩ := Option.map_eq_some_iff.1 ok_f82
 exact meets_spec (R := runF g_f82 tc_f82 rv_f82 false) (meets_of (by decide) Tryz.func82 hc hi Tryz.ntmps82 rok_f82 gk_f82 lk_f82 mixed) fun x hok => (e_f82 x.1 x.2.1 x.2.2.1).trans (s_f82 x.1 x.2.1 x.2.2.1 hok)
end
end Go.Proofs.YtfehjdaielifiaaGreat.K
