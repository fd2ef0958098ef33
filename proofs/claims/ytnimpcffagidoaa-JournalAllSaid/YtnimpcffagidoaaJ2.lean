/-
 Journals: adding to one, what a crash leaves, replaying.
-/
import Derived.Test.YtnimpcffagidoaaJ1
import Derived.KernelRfl
set_option linter.unusedSimpArgs false
set_option linter.unusedVariables false
namespace Go.Proofs.Ytnimpcffagidoaa.K
open Go.RowKit
noncomputable section
theorem enc_size (d : Decision) : (encV d).1.size ≤ 12 := by
 unfold encV
 split
 ·show (dec d).bytes.toArray.size ≤ 12
  rw [List.size_toArray, Dec.bytes_len]
  exact Nat.le_refl _
 ·exact Nat.zero_le _
def appV (s : ByteArray) (d : Decision) : ByteArray × Int := if (encV d).2 ≠ 0 then (s, (encV d).2) else if 65536 < s.size + (encV d).1.size then (s, 3) else (s ++ (encV d).1, 0)
def appOk (s : ByteArray) (_d : Decision) : Bool := sz6 s
def tc_f47 : TC := (.sq (.reg [(oM 3 (.box (.t 1))), (oP 4 (.mv (.c (.v (.string (ByteArray.mk #[])))))), (oP 5 (.mv (cI 0)))]) (.sq (.reg [(oM 9 (.ld true 5 (.t 3))), (oC 10 45 [(.t 9)]), (oV 8 10), (oP 11 (.ext 0 (.t 8))), (oP 12 (.ext 1 (.t 8))), (oV 6 11), (oV 7 12)]) (.sq (.sq (.reg [(oV 13 7), (oP 14 (.bin false .neq (.t 13) (cI 0)))]) (.cd (.t 14) (.sq (.reg [(oV 15 0), (oV 16 7), (oV 4 15), (oV 5 16)]) .rt) .sk)) (.sq (.sq (.reg [(oV 17 0), (oP 18 (.len true (.t 17))), (oV 19 6), (oP 20 (.len true (.t 19))), (oP 21 (.bin false .add (.t 18) (.t 20))), (oP 22 (.bin false .gtr (.t 21) (cI 65536)))]) (.cd (.t 22) (.sq (.reg [(oV 23 0), (oV 4 23), (oP 5 (.mv (cI 3)))]) .rt) .sk)) (.sq (.reg [(oV 24 0), (oV 25 6), (oP 26 (.bin false .add (.t 24) (.t 25))), (oV 4 26), (oP 5 (.mv (cI 0)))]) .rt)))))
def rv_f47 : List (RV × Option Ty) := [((.t 4), some .str), ((.t 5), some tI)]
def g_f47 : G := ⟨TYs, [], 27, EL [(45, sp_f45)], keeps, (fun _ _ => none), IL [], RL []⟩
def r_f47 (p0 : ByteArray) (p1 : Decision) : Option (V × List VO) :=
 br ((ine ((encV p1).2) 0))
  (some (.tu [(.t .str p0), (.t tI ((encV p1).2))], []))
  (br ((igt (iadd .i64 (slen p0) (slen ((encV p1).1))) 65536))
   (some (.tu [(.t .str p0), (.t tI 3)], []))
   (br (cCat p0 ((encV p1).1))
    (some (.tu [(.t .str (scat p0 ((encV p1).1))), (.t tI 0)], []))
    (none)))
theorem e_f47 (p0 : ByteArray) (p1 : Decision) : runF g_f47 tc_f47 rv_f47 false [.t .str p0, .t tyDecision p1] [] = r_f47 p0 p1 := by kernel_rfl
theorem ok_f47 : Option.map (trC Try.prog) Try.f47.body = some tc_f47.er := by kernel_rfl
theorem rok_f47 : trVs Try.prog Try.f47.results.toList = some (rv_f47.map Prod.fst) := by kernel_rfl
theorem en_f47 : Entered Try.prog 47 := .inr ⟨by decide, _, Try.func47, by kernel_rfl, by kernel_rfl⟩
theorem gk_f47 : GOk Try.prog g_f47 := gok_of _ (by
 intro p hp
 simp only [List.mem_cons, List.not_mem_nil, or_false] at hp
 rcases hp with rfl
 ·exact ⟨en_f45, ms_f45⟩)
theorem lk_f47 : tc_f47.lok g_f47 := by repeat (first | exact trivial | refine ⟨?_, ?_⟩)
theorem s_f47 (s : ByteArray) (d : Decision) (h : appOk s d = true) : r_f47 s d = some (.tu [.t .str (appV s d).1, .t tI (appV s d).2], []) := by
 simp only [appOk, sz6, decide_eq_true_eq] at h
 have he := enc_size d
 have e1 : iadd .i64 (slen s) (slen (encV d).1) = ((s.size + (encV d).1.size : Nat) : Int) := by
  rw [iadd_in (by simp only [slen]; omega)]
  simp only [slen]
  omega
 have e2 : cCat s (encV d).1 = true := by simp only [cCat, decide_eq_true_eq]; omega
 simp only [r_f47, e1, e2, br_true, appV]
 by_cases q1 : (encV d).2 = 0
 ·have e3 : ine (encV d).2 0 = false := by simp [ine, q1]
  rw [e3, br_false]
  by_cases q2 : 65536 < s.size + (encV d).1.size
  ·have e4 : igt ((s.size + (encV d).1.size : Nat) : Int) 65536 = true := by simp only [igt, decide_eq_true_eq]; omega
   rw [e4, br_true]
   simp [q1, q2]
  ·have e4 : igt ((s.size + (encV d).1.size : Nat) : Int) 65536 = false := by simp only [igt, decide_eq_false_iff_not]; omega
   rw [e4, br_false]
   simp [q1, q2]
 ·have e3 : ine (encV d).2 0 = true := by simp [ine, q1]
  rw [e3, br_true]
  simp [q1]
def sp_f47 : Ent := spec (.pr .str (.pr tyDecision .nil)) (fun x => (appOk x.1 x.2.1)) (fun x => (.tu [(.t .str ((appV x.1 x.2.1).1)), (.t tI ((appV x.1 x.2.1).2))]))
theorem ms_f47 : Meets Try.prog 47 (strip sp_f47) := by
 obtain ⟨c, hc, hi⟩ := Option.map_eq_some_iff.1 ok_f47
 exact meets_spec (R := runF g_f47 tc_f47 rv_f47 false) (meets_of (by decide) Try.func47 hc hi Try.ntmps47 rok_f47 gk_f47 lk_f47 mixed) fun x hok => (e_f47 x.1 x.2.1).trans (s_f47 x.1 x.2.1 hok)
def crashV (s : ByteArray) (n : Int) (t : ByteArray) : ByteArray := s.extract 0 (max (min n s.size) 0).toNat ++ t
def crashOk (s : ByteArray) (_n : Int) (t : ByteArray) : Bool := sz6 s && sz6 t
def tc_f49 : TC := (.sq (.reg [(oP 6 (.mv (.c (.v (.string (ByteArray.mk #[]))))))]) (.sq (.reg [(oV 7 0), (oV 8 1), (oV 9 0), (oP 10 (.len true (.t 9))), (oP 11 (.mn (.t 8) (.t 10))), (oP 12 (.mx (.t 11) (cI 0))), (oP 13 (.sls (.t 7) none (some (.t 12)))), (oV 14 2), (oP 15 (.bin false .add (.t 13) (.t 14))), (oV 6 15)]) .rt))
def rv_f49 : List (RV × Option Ty) := [((.t 6), some .str)]
def g_f49 : G := ⟨TYs, [], 16, EL [], keeps, (fun _ _ => none), IL [], RL []⟩
def r_f49 (p0 : ByteArray) (p1 : Int) (p2 : ByteArray) : Option (V × List VO) :=
 br (cSs p0 0 (imx (imn p1 (slen p0)) 0))
  (br (cCat (ssl p0 0 (imx (imn p1 (slen p0)) 0)) p2)
   (some (.t .str (scat (ssl p0 0 (imx (imn p1 (slen p0)) 0)) p2), []))
   (none))
  (none)
theorem e_f49 (p0 : ByteArray) (p1 : Int) (p2 : ByteArray) : runF g_f49 tc_f49 rv_f49 false [.t .str p0, .t tI p1, .t .str p2] [] = r_f49 p0 p1 p2 := by kernel_rfl
theorem ok_f49 : Option.map (trC Try.prog) Try.f49.body = some tc_f49.er := by kernel_rfl
theorem rok_f49 : trVs Try.prog Try.f49.results.toList = some (rv_f49.map Prod.fst) := by kernel_rfl
theorem en_f49 : Entered Try.prog 49 := .inr ⟨by decide, _, Try.func49, by kernel_rfl, by kernel_rfl⟩
theorem gk_f49 : GOk Try.prog g_f49 := gok_of _ (fun p hp => by cases hp)
theorem lk_f49 : tc_f49.lok g_f49 := by repeat (first | exact trivial | refine ⟨?_, ?_⟩)
theorem s_f49 (s : ByteArray) (n : Int) (t : ByteArray) (h : crashOk s n t = true) : r_f49 s n t = some (.t .str (crashV s n t), []) := by
 simp only [crashOk, sz6, Bool.and_eq_true, decide_eq_true_eq] at h
 have e1 : imx (imn n (slen s)) 0 = max (min n s.size) 0 := by
  unfold imx imn slen
  split <;> split <;> omega
 have hb : 0 ≤ max (min n s.size) 0 ∧ max (min n s.size) 0 ≤ s.size := by omega
 unfold r_f49
 rw [e1]
 generalize hj : max (min n (s.size : Int)) 0 = j at hb
 have e2 : cSs s 0 j = true := by simp only [cSs, decide_eq_true_eq]; omega
 have e3 : cCat (ssl s 0 j) t = true := by
  have : (ssl s 0 j).size ≤ s.size := by
   simp only [ssl, ByteArray.size_extract]
   omega
  simp only [cCat, decide_eq_true_eq]
  omega
 rw [e2, e3, br_true, br_true]
 simp only [crashV, hj]
 rfl
def sp_f49 : Ent := spec (.pr .str (.pr tI (.pr .str .nil))) (fun x => (crashOk x.1 x.2.1 x.2.2.1)) (fun x => (.t .str (crashV x.1 x.2.1 x.2.2.1)))
theorem ms_f49 : Meets Try.prog 49 (strip sp_f49) := by
 obtain ⟨c, hc, hi⟩ := Option.map_eq_some_iff.1 ok_f49
 exact meets_spec (R := runF g_f49 tc_f49 rv_f49 false) (meets_of (by decide) Try.func49 hc hi Try.ntmps49 rok_f49 gk_f49 lk_f49 mixed) fun x hok => (e_f49 x.1 x.2.1 x.2.2.1).trans (s_f49 x.1 x.2.1 x.2.2.1 hok)
def repF (o : Ledger) (d : Decision) : Ledger := (addV o d).1
theorem rep_len (z : Ledger) (y : Decision) : (repF z y).1.length ≤ z.1.length + 1 := by
 obtain ⟨l, u⟩ := z
 simp only [repF, addV, addL]
 split <;> simp
def replayV (s : ByteArray) : Ledger × Int := ((openV s).1.foldl repF ([], ()), ((openV s).1.length : Int))
def replayOk (s : ByteArray) : Bool := sz6 s && decide ((openV s).1.length ≤ 100000)
def fg_f52_0 : Fg := ⟨[(2, none), (4, none), (5, some (.sl tyDecision)), (14, some (.sl tyDecision)), (15, some tI), (16, some tI)], [(2, some tyLedger), (4, some tyLedger)]⟩
def tb_f52_0 : TC := (.sq (.reg [(oP 17 (.bin false .lss (.t 16) (.t 15)))]) (.sq (.cd (.t 17) .sk (.fg ⟨[(2, none), (4, none), (5, some (.sl tyDecision))], [(2, some tyLedger), (4, some tyLedger)]⟩ (.ex 0))) (.sq (.bk 1 (.sq (.reg [(oP 18 (.ix 5 (.t 14) (.t 16))), (oM 19 (.ld true 5 (.t 18))), (oM 8 (.new [(.v (.int .i64 0)), (.v (.int .i64 0)), (.v (.int .i64 0)), (.v (.int .i64 0)), (.v (.int .i64 0))])), (.mk none none (.m (.st 5 (.t 8) (.t 19))))]) (.reg [(oM 21 (.ld true 1 (.t 4))), (oM 22 (.ld true 5 (.t 8))), (oC 23 26 [(.t 21), (.t 22)]), (oV 20 23), (oP 24 (.ext 0 (.t 20))), (oP 25 (.ext 1 (.t 20))), (.mk none none (.m (.st 1 (.t 4) (.t 24))))]))) (.reg [(oP 26 (.bin false .add (.t 16) (cI 1))), (oV 16 26)]))))
def tc_f52 : TC := (.sq (.reg [(oM 2 (.new [(.v (.slice none 0 0))])), (oP 3 (.mv (cI 0)))]) (.sq (.reg [(oM 4 (.new [(.v (.slice none 0 0))]))]) (.sq (.reg [(oV 10 0), (oC 11 19 [(.t 10)]), (oV 9 11), (oP 12 (.ext 0 (.t 9))), (oP 13 (.ext 1 (.t 9))), (oV 5 12), (oV 6 13)]) (.sq (.sq (.reg [(oV 14 5), (oP 15 (.len false (.t 14))), (oP 16 (.mv (cI 0)))]) (.bk 0 (.lp 0 fg_f52_0 tb_f52_0))) (.sq (.reg [(oM 27 (.ld true 1 (.t 4))), (oV 28 5), (oP 29 (.len false (.t 28))), (.mk none none (.m (.st 1 (.t 2) (.t 27)))), (oV 3 29)]) .rt)))))
def rv_f52 : List (RV × Option Ty) := [((.c 2 true 1), some tyLedger), ((.t 3), some tI)]
abbrev sh_f52_0 : Sh := ⟨[(2, .ptr 2 0), (4, .ptr 4 0), (5, .ty (.sl tyDecision)), (14, .ty (.sl tyDecision)), (15, .ty tI), (16, .ty tI)], [(2, .box tyLedger), (4, .box tyLedger)]⟩
def st_f52_0 (x5 : (List Decision)) (x14 : (List Decision)) (x15 : Int) (x16 : Int) (y2 : Ledger) (y4 : Ledger) : VS := sh_f52_0.st ((), (), x5, x14, x15, x16, ()) (y2, y4, ())
abbrev sh_f52_0_e0 : Sh := ⟨[(2, .ptr 2 0), (4, .ptr 4 0), (5, .ty (.sl tyDecision))], [(2, .box tyLedger), (4, .box tyLedger)]⟩
def st_f52_0_e0 (x5 : (List Decision)) (y2 : Ledger) (y4 : Ledger) : VS := sh_f52_0_e0.st ((), (), x5, ()) (y2, y4, ())
-- loop 0: (x5 : (List Decision)) (x14 : (List Decision)) (x15 : Int) (x16 : Int) (y2 : Ledger) (y4 : Ledger); out: ('exit', 0) (x5 : (List Decision)) (y2 : Ledger) (y4 : Ledger)
def L_f52_0 : VS → Option (Bool × List (Bool × Exit × VS)) := mkL sh_f52_0 (fun x y => (rngOk x.2.2.2.1 x.2.2.2.2.1 x.2.2.2.2.2.1 && decide (y.2.1.1.length ≤ x.2.2.2.2.2.1))) (fun x y => [(true, .exit 0, st_f52_0_e0 (x.2.2.1) (y.1) ((x.2.2.2.1.drop x.2.2.2.2.2.1.toNat).foldl repF y.2.1))])
def g_f52 : G := ⟨TYs, [], 30, EL [(19, sp_f19), (26, sp_f26)], keeps, (Ls [L_f52_0]), IL [], RL []⟩
def b_f52_0 (x5 : (List Decision)) (x14 : (List Decision)) (x15 : Int) (x16 : Int) (y2 : Ledger) (y4 : Ledger) : Option (Exit × VS) :=
 br ((ilt x16 x15))
  (br (cIx x14 x16)
   (br ((addOk y4 (lgt tyDecision x14 (Int.toNat x16))))
    (some (.normal, st_f52_0 x5 x14 x15 (iadd .i64 x16 1) y2 ((addV y4 (lgt tyDecision x14 (Int.toNat x16))).1)))
    (none))
   (none))
  (some (.exit 0, st_f52_0_e0 x5 y2 y4))
noncomputable def lp_f52_0 (x5 : (List Decision)) (x14 : (List Decision)) (x15 : Int) (x16 : Int) (y2 : Ledger) (y4 : Ledger) : Option (Exit × VS) := loopF (roundF g_f52 fg_f52_0 tb_f52_0) (st_f52_0 x5 x14 x15 x16 y2 y4)
noncomputable def n_f52_0 (x5 : (List Decision)) (x14 : (List Decision)) (x15 : Int) (x16 : Int) (y2 : Ledger) (y4 : Ledger) : Option (Exit × VS) :=
 br ((ilt x16 x15))
  (br (cIx x14 x16)
   (br ((addOk y4 (lgt tyDecision x14 (Int.toNat x16))))
    (lp_f52_0 x5 x14 x15 (iadd .i64 x16 1) y2 ((addV y4 (lgt tyDecision x14 (Int.toNat x16))).1))
    (none))
   (none))
  (some (.exit 0, st_f52_0_e0 x5 y2 y4))
def la_f52_0 (x5 : (List Decision)) (x14 : (List Decision)) (x15 : Int) (x16 : Int) (y2 : Ledger) (y4 : Ledger) : Option (Exit × VS) := some (.exit 0, st_f52_0_e0 (x5) (y2) ((x14.drop x16.toNat).foldl repF y4))
theorem be_f52_0 (x5 : (List Decision)) (x14 : (List Decision)) (x15 : Int) (x16 : Int) (y2 : Ledger) (y4 : Ledger) : roundF g_f52 fg_f52_0 tb_f52_0 (st_f52_0 x5 x14 x15 x16 y2 y4) = b_f52_0 x5 x14 x15 x16 y2 y4 := by kernel_rfl
theorem ln_f52_0 (x5 : (List Decision)) (x14 : (List Decision)) (x15 : Int) (x16 : Int) (y2 : Ledger) (y4 : Ledger) : lp_f52_0 x5 x14 x15 x16 y2 y4 = n_f52_0 x5 x14 x15 x16 y2 y4 := (loopF_nxt _ _).trans (by
 rw [be_f52_0]
 simp only [b_f52_0, n_f52_0, nxt_br, nxt_n, nxt_r, nxt_e, nxt_0]
 rfl)
def r_f52 (p0 : ByteArray) : Option (V × List VO) :=
 br ((sz6 p0))
  (br ((rngOk ((openV p0).1) (llen ((openV p0).1)) (0 : Int) && decide ((([] : List Decision), ()).1.length ≤ (0 : Int))))
   (some (.tu [(.t tyLedger ((((openV p0).1).drop (0 : Int).toNat).foldl repF (([] : List Decision), ()))), (.t tI (llen (((openV p0).1))))], []))
   (none))
  (none)
theorem e_f52 (p0 : ByteArray) : runF g_f52 tc_f52 rv_f52 false [.t .str p0] [] = r_f52 p0 := by kernel_rfl
theorem ok_f52 : Option.map (trC Try.prog) Try.f52.body = some tc_f52.er := by kernel_rfl
theorem rok_f52 : trVs Try.prog Try.f52.results.toList = some (rv_f52.map Prod.fst) := by kernel_rfl
theorem en_f52 : Entered Try.prog 52 := .inr ⟨by decide, _, Try.func52, by kernel_rfl, by kernel_rfl⟩
theorem gk_f52 : GOk Try.prog g_f52 := gok_of _ (by
 intro p hp
 simp only [List.mem_cons, List.not_mem_nil, or_false] at hp
 rcases hp with rfl | rfl
 ·exact ⟨en_f19, ms_f19⟩
 ·exact ⟨en_f26, ms_f26⟩)
theorem l_f52_0 (x5 : (List Decision)) (x14 : (List Decision)) (x15 : Int) (x16 : Int) (y2 : Ledger) (y4 : Ledger) (h : (rngOk x14 x15 x16 && decide (y4.1.length ≤ x16)) = true) : lp_f52_0 x5 x14 x15 x16 y2 y4 = la_f52_0 x5 x14 x15 x16 y2 y4 := by
 simp only [Bool.and_eq_true, decide_eq_true_eq] at h
 obtain ⟨h0, h4⟩ := h
 obtain ⟨rfl, h3, k, rfl, hk⟩ := rng_k h0
 clear h0
 revert y4
 refine range_ind x14 (fun k => ∀ y4 : Ledger, (y4.1.length : Int) ≤ (k : Int) → lp_f52_0 x5 x14 (x14.length : Int) (k : Int) y2 y4 = la_f52_0 x5 x14 (x14.length : Int) (k : Int) y2 y4) ?_ ?_ k hk
 ·intro y4 _
  rw [ln_f52_0]
  simp [n_f52_0, la_f52_0, ilt_nat, br_false]
 ·intro k hk ih y4 hy
  rw [ln_f52_0]
  have hr := rep_len y4 x14[k]
  have i1 := ih (repF y4 x14[k]) (by omega)
  have e1 : addOk y4 x14[k] = true := by simp only [addOk, ledLn, decide_eq_true_eq]; omega
  simp only [n_f52_0, ilt_nat, cIx_nat, hk, decide_true, br_true, Int.toNat_natCast, lgt_get (y := tyDecision) hk, add1 (show k < 4611686018427387904 by omega), e1]
  refine (show _ = lp_f52_0 x5 x14 (x14.length : Int) ((k + 1 : Nat) : Int) y2 (repF y4 x14[k]) from rfl).trans ?_
  rw [i1]
  simp only [la_f52_0, Int.toNat_natCast, List.drop_eq_getElem_cons hk, List.foldl_cons]
theorem lo_f52_0 : ∀ S l p, g_f52.L 0 (fgt fg_f52_0 S) = some (true, l) → pickA l = some p → loopF (roundF g_f52 fg_f52_0 tb_f52_0) S = some p :=
 lok_of (s := sh_f52_0) ⟨by decide, by decide⟩ (by kernel_rfl) fun x y hok p hp => by
 simp only [pickA_br, pickA_one] at hp
 exact (l_f52_0 x.2.2.1 x.2.2.2.1 x.2.2.2.2.1 x.2.2.2.2.2.1 y.1 y.2.1 (by simpa using hok)).trans hp
theorem lk_f52 : tc_f52.lok g_f52 := by
 repeat (first | exact trivial | exact lo_f52_0 | refine ⟨?_, ?_⟩)
theorem s_f52 (s : ByteArray) (h : replayOk s = true) : r_f52 s = some (.tu [.t tyLedger (replayV s).1, .t tI (replayV s).2], []) := by
 simp only [replayOk, Bool.and_eq_true, decide_eq_true_eq] at h
 have e1 : (rngOk (openV s).1 (llen (openV s).1) 0 && decide (((([] : List Decision), ()).1.length : Int) ≤ 0)) = true := by simp only [rng_0 h.2, Bool.true_and]; rfl
 unfold r_f52
 rw [h.1, br_true]
 first | (rw [e1, br_true]; rfl) | (simp only [e1, br_true]; rfl)
def sp_f52 : Ent := spec (.pr .str .nil) (fun x => (replayOk x.1)) (fun x => (.tu [(.t tyLedger ((replayV x.1).1)), (.t tI ((replayV x.1).2))]))
theorem ms_f52 : Meets Try.prog 52 (strip sp_f52) := by
 obtain ⟨c, hc, hi⟩ := Option.map_eq_some_iff.1 ok_f52
 exact meets_spec (R := runF g_f52 tc_f52 rv_f52 false) (meets_of (by decide) Try.func52 hc hi Try.ntmps52 rok_f52 gk_f52 lk_f52 mixed) fun x hok => (e_f52 x.1).trans (s_f52 x.1 hok)
def tc_f22 : TC := (.sq (.reg [(oP 4 (.mv (cB false)))]) (.sq (.reg [(oV 5 0), (oP 6 (.bd [(.v (.slice none 0 0))] [(0, 1, (.t 5))])), (oV 7 1), (oP 8 (.bd [(.v (.slice none 0 0))] [(0, 1, (.t 7))])), (oC 9 31 [(.t 6), (.t 8)]), (oV 4 9)]) .rt))
def rv_f22 : List (RV × Option Ty) := [((.t 4), some .bool)]
def g_f22 : G := ⟨TYs, [], 10, EL [(31, sp_f31)], keeps, (fun _ _ => none), IL [], RL []⟩
def r_f22 (p0 : (List Decision)) (p1 : (List Decision)) : Option (V × List VO) :=
 br ((sameOk (p0, ()) (p1, ())))
  (some (.t .bool (sameV (p0, ()) (p1, ())), []))
  (none)
theorem e_f22 (p0 : (List Decision)) (p1 : (List Decision)) : runF g_f22 tc_f22 rv_f22 false [.t (.sl tyDecision) p0, .t (.sl tyDecision) p1] [] = r_f22 p0 p1 := by kernel_rfl
theorem ok_f22 : Option.map (trC Try.prog) Try.f22.body = some tc_f22.er := by kernel_rfl
theorem rok_f22 : trVs Try.prog Try.f22.results.toList = some (rv_f22.map Prod.fst) := by kernel_rfl
theorem en_f22 : Entered Try.prog 22 := .inr ⟨by decide, _, Try.func22, by kernel_rfl, by kernel_rfl⟩
theorem gk_f22 : GOk Try.prog g_f22 := gok_of _ (by
 intro p hp
 simp only [List.mem_cons, List.not_mem_nil, or_false] at hp
 rcases hp with rfl
 ·exact ⟨en_f31, ms_f31⟩)
theorem lk_f22 : tc_f22.lok g_f22 := by repeat (first | exact trivial | refine ⟨?_, ?_⟩)
theorem s_f22 (a b : List Decision) (h : eqOk a b = true) : r_f22 a b = some (.t .bool (eqDs a b), []) := by
 unfold r_f22
 rw [show sameOk (a, ()) (b, ()) = true from h, br_true]
 rfl
def sp_f22 : Ent := spec (.pr (.sl tyDecision) (.pr (.sl tyDecision) .nil)) (fun x => (eqOk x.1 x.2.1)) (fun x => (.t .bool (eqDs x.1 x.2.1)))
theorem ms_f22 : Meets Try.prog 22 (strip sp_f22) := by
 obtain ⟨c, hc, hi⟩ := Option.map_eq_some_iff.1 ok_f22
 exact meets_spec (R := runF g_f22 tc_f22 rv_f22 false) (meets_of (by decide) Try.func22 hc hi Try.ntmps22 rok_f22 gk_f22 lk_f22 mixed) fun x hok => (e_f22 x.1 x.2.1).trans (s_f22 x.1 x.2.1 hok)
end
end Go.Proofs.Ytnimpcffagidoaa.K
