/-
  Journals: adding to one, what a crash leaves, replaying.
-/
import Derived.Test.YtnimpcffagidoaaJ1
import Derived.KernelRfl
set_option linter.unusedSimpArgs false
set_option linter.unusedVariables false
namespace Go.Proofs.Ytnimpcffagidoaa.K
open Go.RowKit
noncomputable section
theorem enc_size (d : Decision) : (encV d).1.size ≤ 12 := by
  unfold encV
  split
  · show (dec d).bytes.toArray.size ≤ 12
    rw [List.size_toArray, Dec.bytes_len]
    exact Nat.le_refl _
  · exact Nat.zero_le _
def appV (s : ByteArray) (d : Decision) : ByteArray × Int := if (encV d).2 ≠ 0 then (s, (encV d).2) else if 65536 < s.size + (encV d).1.size then (s, 3) else (s ++ (encV d).1, 0)
def appOk (s : ByteArray) (_d : Decision) : Bool := sz6 s
/-- cipherplan/journal.Append -/
def tc_journal_Append : TC := (.sq (.reg [(.mk (some 3) none (.m (.box (.t 1)))), (.mk (some 4) none (.m (.pu (.mv (.c (.v (.string (ByteArray.mk #[])))))))), (.mk (some 5) none (.m (.pu (.mv (.c (.v (.int .i64 0)))))))]) (.sq (.reg [(.mk (some 9) none (.m (.ld true 5 (.t 3)))), (.mk (some 10) none (.call 45 [(.t 9)])), (.mk (some 8) none (.m (.pu (.mv (.t 10))))), (.mk (some 11) none (.m (.pu (.ext 0 (.t 8))))), (.mk (some 12) none (.m (.pu (.ext 1 (.t 8))))), (.mk (some 6) none (.m (.pu (.mv (.t 11))))), (.mk (some 7) none (.m (.pu (.mv (.t 12)))))]) (.sq (.sq (.reg [(.mk (some 13) none (.m (.pu (.mv (.t 7))))), (.mk (some 14) none (.m (.pu (.bin false .neq (.t 13) (.c (.v (.int .i64 0)))))))]) (.cd (.t 14) (.sq (.reg [(.mk (some 15) none (.m (.pu (.mv (.t 0))))), (.mk (some 16) none (.m (.pu (.mv (.t 7))))), (.mk (some 4) none (.m (.pu (.mv (.t 15))))), (.mk (some 5) none (.m (.pu (.mv (.t 16)))))]) .rt) .sk)) (.sq (.sq (.reg [(.mk (some 17) none (.m (.pu (.mv (.t 0))))), (.mk (some 18) none (.m (.pu (.len true (.t 17))))), (.mk (some 19) none (.m (.pu (.mv (.t 6))))), (.mk (some 20) none (.m (.pu (.len true (.t 19))))), (.mk (some 21) none (.m (.pu (.bin false .add (.t 18) (.t 20))))), (.mk (some 22) none (.m (.pu (.bin false .gtr (.t 21) (.c (.v (.int .i64 65536)))))))]) (.cd (.t 22) (.sq (.reg [(.mk (some 23) none (.m (.pu (.mv (.t 0))))), (.mk (some 4) none (.m (.pu (.mv (.t 23))))), (.mk (some 5) none (.m (.pu (.mv (.c (.v (.int .i64 3)))))))]) .rt) .sk)) (.sq (.reg [(.mk (some 24) none (.m (.pu (.mv (.t 0))))), (.mk (some 25) none (.m (.pu (.mv (.t 6))))), (.mk (some 26) none (.m (.pu (.bin false .add (.t 24) (.t 25))))), (.mk (some 4) none (.m (.pu (.mv (.t 26))))), (.mk (some 5) none (.m (.pu (.mv (.c (.v (.int .i64 0)))))))]) .rt)))))
def rv_journal_Append : List (RV × Option Ty) := [((.t 4), some .str), ((.t 5), some tI)]
def g_journal_Append : G := ⟨TYs, [], 27, EL [(45, sp_journal_Encode)], keeps, (fun _ _ => none)⟩
def r_journal_Append (p0 : ByteArray) (p1 : Decision) : Option (V × List VO) :=
  br ((ine ((encV p1).2) 0))
    (some (.tu [(.t .str p0), (.t tI ((encV p1).2))], []))
    (br ((igt (iadd .i64 (slen p0) (slen ((encV p1).1))) 65536))
      (some (.tu [(.t .str p0), (.t tI 3)], []))
      (br (cCat p0 ((encV p1).1))
        (some (.tu [(.t .str (scat p0 ((encV p1).1))), (.t tI 0)], []))
        (none)))
theorem e_journal_Append (p0 : ByteArray) (p1 : Decision) : runF g_journal_Append tc_journal_Append rv_journal_Append false [.t .str p0, .t tyDecision p1] [] = r_journal_Append p0 p1 := by kernel_rfl
theorem ok_journal_Append : Option.map (trC Try.prog) Try.f47.body = some tc_journal_Append.er := by kernel_rfl
theorem rok_journal_Append : trVs Try.prog Try.f47.results.toList = some (rv_journal_Append.map Prod.fst) := by kernel_rfl
theorem en_journal_Append : Entered Try.prog 47 := .inr ⟨by decide, _, Try.func47, by kernel_rfl, by kernel_rfl⟩
theorem gk_journal_Append : GOk Try.prog g_journal_Append := gok_of _ (by
  intro p hp
  simp only [List.mem_cons, List.not_mem_nil, or_false] at hp
  rcases hp with rfl
  · exact ⟨en_journal_Encode, ms_journal_Encode⟩)
theorem lk_journal_Append : tc_journal_Append.lok g_journal_Append := by repeat (first | exact trivial | refine ⟨?_, ?_⟩)
theorem s_journal_Append (s : ByteArray) (d : Decision) (h : appOk s d = true) : r_journal_Append s d = some (.tu [.t .str (appV s d).1, .t tI (appV s d).2], []) := by
  simp only [appOk, sz6, decide_eq_true_eq] at h
  have he := enc_size d
  have e1 : iadd .i64 (slen s) (slen (encV d).1) = ((s.size + (encV d).1.size : Nat) : Int) := by
    rw [iadd_in (by simp only [slen]; omega)]
    simp only [slen]
    omega
  have e2 : cCat s (encV d).1 = true := by simp only [cCat, decide_eq_true_eq]; omega
  simp only [r_journal_Append, e1, e2, br_true, appV]
  by_cases q1 : (encV d).2 = 0
  · have e3 : ine (encV d).2 0 = false := by simp [ine, q1]
    rw [e3, br_false]
    by_cases q2 : 65536 < s.size + (encV d).1.size
    · have e4 : igt ((s.size + (encV d).1.size : Nat) : Int) 65536 = true := by simp only [igt, decide_eq_true_eq]; omega
      rw [e4, br_true]
      simp [q1, q2]
    · have e4 : igt ((s.size + (encV d).1.size : Nat) : Int) 65536 = false := by simp only [igt, decide_eq_false_iff_not]; omega
      rw [e4, br_false]
      simp [q1, q2]
  · have e3 : ine (encV d).2 0 = true := by simp [ine, q1]
    rw [e3, br_true]
    simp [q1]
def sp_journal_Append : Ent := spec (.pr .str (.pr tyDecision .nil)) (fun x => (appOk x.1 x.2.1)) (fun x => (.tu [(.t .str ((appV x.1 x.2.1).1)), (.t tI ((appV x.1 x.2.1).2))]))
theorem ms_journal_Append : Meets Try.prog 47 (strip sp_journal_Append) := by
  obtain ⟨c, hc, hi⟩ := Option.map_eq_some_iff.1 ok_journal_Append
  exact meets_spec (R := runF g_journal_Append tc_journal_Append rv_journal_Append false) (meets_of (by decide) Try.func47 hc hi Try.ntmps47 rok_journal_Append gk_journal_Append lk_journal_Append mixed) fun x hok => (e_journal_Append x.1 x.2.1).trans (s_journal_Append x.1 x.2.1 hok)
def crashV (s : ByteArray) (n : Int) (t : ByteArray) : ByteArray := s.extract 0 (max (min n s.size) 0).toNat ++ t
def crashOk (s : ByteArray) (_n : Int) (t : ByteArray) : Bool := sz6 s && sz6 t
/-- cipherplan/journal.Crash -/
def tc_journal_Crash : TC := (.sq (.reg [(.mk (some 6) none (.m (.pu (.mv (.c (.v (.string (ByteArray.mk #[]))))))))]) (.sq (.reg [(.mk (some 7) none (.m (.pu (.mv (.t 0))))), (.mk (some 8) none (.m (.pu (.mv (.t 1))))), (.mk (some 9) none (.m (.pu (.mv (.t 0))))), (.mk (some 10) none (.m (.pu (.len true (.t 9))))), (.mk (some 11) none (.m (.pu (.mn (.t 8) (.t 10))))), (.mk (some 12) none (.m (.pu (.mx (.t 11) (.c (.v (.int .i64 0))))))), (.mk (some 13) none (.m (.pu (.sls (.t 7) none (some (.t 12)))))), (.mk (some 14) none (.m (.pu (.mv (.t 2))))), (.mk (some 15) none (.m (.pu (.bin false .add (.t 13) (.t 14))))), (.mk (some 6) none (.m (.pu (.mv (.t 15)))))]) .rt))
def rv_journal_Crash : List (RV × Option Ty) := [((.t 6), some .str)]
def g_journal_Crash : G := ⟨TYs, [], 16, EL [], keeps, (fun _ _ => none)⟩
def r_journal_Crash (p0 : ByteArray) (p1 : Int) (p2 : ByteArray) : Option (V × List VO) :=
  br (cSs p0 0 (imx (imn p1 (slen p0)) 0))
    (br (cCat (ssl p0 0 (imx (imn p1 (slen p0)) 0)) p2)
      (some (.t .str (scat (ssl p0 0 (imx (imn p1 (slen p0)) 0)) p2), []))
      (none))
    (none)
theorem e_journal_Crash (p0 : ByteArray) (p1 : Int) (p2 : ByteArray) : runF g_journal_Crash tc_journal_Crash rv_journal_Crash false [.t .str p0, .t tI p1, .t .str p2] [] = r_journal_Crash p0 p1 p2 := by kernel_rfl
theorem ok_journal_Crash : Option.map (trC Try.prog) Try.f49.body = some tc_journal_Crash.er := by kernel_rfl
theorem rok_journal_Crash : trVs Try.prog Try.f49.results.toList = some (rv_journal_Crash.map Prod.fst) := by kernel_rfl
theorem en_journal_Crash : Entered Try.prog 49 := .inr ⟨by decide, _, Try.func49, by kernel_rfl, by kernel_rfl⟩
theorem gk_journal_Crash : GOk Try.prog g_journal_Crash := gok_of _ (fun p hp => by cases hp)
theorem lk_journal_Crash : tc_journal_Crash.lok g_journal_Crash := by repeat (first | exact trivial | refine ⟨?_, ?_⟩)
theorem s_journal_Crash (s : ByteArray) (n : Int) (t : ByteArray) (h : crashOk s n t = true) : r_journal_Crash s n t = some (.t .str (crashV s n t), []) := by
  simp only [crashOk, sz6, Bool.and_eq_true, decide_eq_true_eq] at h
  have e1 : imx (imn n (slen s)) 0 = max (min n s.size) 0 := by
    unfold imx imn slen
    split <;> split <;> omega
  have hb : 0 ≤ max (min n s.size) 0 ∧ max (min n s.size) 0 ≤ s.size := by omega
  unfold r_journal_Crash
  rw [e1]
  generalize hj : max (min n (s.size : Int)) 0 = j at hb
  have e2 : cSs s 0 j = true := by simp only [cSs, decide_eq_true_eq]; omega
  have e3 : cCat (ssl s 0 j) t = true := by
    have : (ssl s 0 j).size ≤ s.size := by
      simp only [ssl, ByteArray.size_extract]
      omega
    simp only [cCat, decide_eq_true_eq]
    omega
  rw [e2, e3, br_true, br_true]
  simp only [crashV, hj]
  rfl
def sp_journal_Crash : Ent := spec (.pr .str (.pr tI (.pr .str .nil))) (fun x => (crashOk x.1 x.2.1 x.2.2.1)) (fun x => (.t .str (crashV x.1 x.2.1 x.2.2.1)))
theorem ms_journal_Crash : Meets Try.prog 49 (strip sp_journal_Crash) := by
  obtain ⟨c, hc, hi⟩ := Option.map_eq_some_iff.1 ok_journal_Crash
  exact meets_spec (R := runF g_journal_Crash tc_journal_Crash rv_journal_Crash false) (meets_of (by decide) Try.func49 hc hi Try.ntmps49 rok_journal_Crash gk_journal_Crash lk_journal_Crash mixed) fun x hok => (e_journal_Crash x.1 x.2.1 x.2.2.1).trans (s_journal_Crash x.1 x.2.1 x.2.2.1 hok)
def repF (o : Ledger) (d : Decision) : Ledger := (addV o d).1
theorem rep_len (z : Ledger) (y : Decision) : (repF z y).1.length ≤ z.1.length + 1 := by
  obtain ⟨l, u⟩ := z
  simp only [repF, addV, addL]
  split <;> simp
def replayV (s : ByteArray) : Ledger × Int := ((openV s).1.foldl repF ([], ()), ((openV s).1.length : Int))
def replayOk (s : ByteArray) : Bool := sz6 s && decide ((openV s).1.length ≤ 100000)
def fg_journal_Replay_0 : Fg := ⟨[(2, none), (4, none), (5, some (.sl tyDecision)), (14, some (.sl tyDecision)), (15, some tI), (16, some tI)], [(2, some tyLedger), (4, some tyLedger)]⟩
def tb_journal_Replay_0 : TC := (.sq (.reg [(.mk (some 17) none (.m (.pu (.bin false .lss (.t 16) (.t 15)))))]) (.sq (.cd (.t 17) .sk (.fg ⟨[(2, none), (4, none), (5, some (.sl tyDecision))], [(2, some tyLedger), (4, some tyLedger)]⟩ (.ex 0))) (.sq (.bk 1 (.sq (.reg [(.mk (some 18) none (.m (.pu (.ix 5 (.t 14) (.t 16))))), (.mk (some 19) none (.m (.ld true 5 (.t 18)))), (.mk (some 8) none (.m (.new [(.v (.int .i64 0)), (.v (.int .i64 0)), (.v (.int .i64 0)), (.v (.int .i64 0)), (.v (.int .i64 0))]))), (.mk none none (.m (.st 5 (.t 8) (.t 19))))]) (.reg [(.mk (some 21) none (.m (.ld true 1 (.t 4)))), (.mk (some 22) none (.m (.ld true 5 (.t 8)))), (.mk (some 23) none (.call 26 [(.t 21), (.t 22)])), (.mk (some 20) none (.m (.pu (.mv (.t 23))))), (.mk (some 24) none (.m (.pu (.ext 0 (.t 20))))), (.mk (some 25) none (.m (.pu (.ext 1 (.t 20))))), (.mk none none (.m (.st 1 (.t 4) (.t 24))))]))) (.reg [(.mk (some 26) none (.m (.pu (.bin false .add (.t 16) (.c (.v (.int .i64 1))))))), (.mk (some 16) none (.m (.pu (.mv (.t 26)))))]))))
/-- cipherplan/journal.Replay -/
def tc_journal_Replay : TC := (.sq (.reg [(.mk (some 2) none (.m (.new [(.v (.slice none 0 0))]))), (.mk (some 3) none (.m (.pu (.mv (.c (.v (.int .i64 0)))))))]) (.sq (.reg [(.mk (some 4) none (.m (.new [(.v (.slice none 0 0))])))]) (.sq (.reg [(.mk (some 10) none (.m (.pu (.mv (.t 0))))), (.mk (some 11) none (.call 19 [(.t 10)])), (.mk (some 9) none (.m (.pu (.mv (.t 11))))), (.mk (some 12) none (.m (.pu (.ext 0 (.t 9))))), (.mk (some 13) none (.m (.pu (.ext 1 (.t 9))))), (.mk (some 5) none (.m (.pu (.mv (.t 12))))), (.mk (some 6) none (.m (.pu (.mv (.t 13)))))]) (.sq (.sq (.reg [(.mk (some 14) none (.m (.pu (.mv (.t 5))))), (.mk (some 15) none (.m (.pu (.len false (.t 14))))), (.mk (some 16) none (.m (.pu (.mv (.c (.v (.int .i64 0)))))))]) (.bk 0 (.lp 0 fg_journal_Replay_0 tb_journal_Replay_0))) (.sq (.reg [(.mk (some 27) none (.m (.ld true 1 (.t 4)))), (.mk (some 28) none (.m (.pu (.mv (.t 5))))), (.mk (some 29) none (.m (.pu (.len false (.t 28))))), (.mk none none (.m (.st 1 (.t 2) (.t 27)))), (.mk (some 3) none (.m (.pu (.mv (.t 29)))))]) .rt)))))
def rv_journal_Replay : List (RV × Option Ty) := [((.c 2 true 1), some tyLedger), ((.t 3), some tI)]
abbrev sh_journal_Replay_0 : Sh := ⟨[(2, .ptr 2 0), (4, .ptr 4 0), (5, .ty (.sl tyDecision)), (14, .ty (.sl tyDecision)), (15, .ty tI), (16, .ty tI)], [(2, .box tyLedger), (4, .box tyLedger)]⟩
def st_journal_Replay_0 (x5 : (List Decision)) (x14 : (List Decision)) (x15 : Int) (x16 : Int) (y2 : Ledger) (y4 : Ledger) : VS := sh_journal_Replay_0.st ((), (), x5, x14, x15, x16, ()) (y2, y4, ())
abbrev sh_journal_Replay_0_e0 : Sh := ⟨[(2, .ptr 2 0), (4, .ptr 4 0), (5, .ty (.sl tyDecision))], [(2, .box tyLedger), (4, .box tyLedger)]⟩
def st_journal_Replay_0_e0 (x5 : (List Decision)) (y2 : Ledger) (y4 : Ledger) : VS := sh_journal_Replay_0_e0.st ((), (), x5, ()) (y2, y4, ())
-- loop 0: (x5 : (List Decision)) (x14 : (List Decision)) (x15 : Int) (x16 : Int) (y2 : Ledger) (y4 : Ledger); out: ('exit', 0) (x5 : (List Decision)) (y2 : Ledger) (y4 : Ledger)
def L_journal_Replay_0 : VS → Option (Bool × List (Bool × Exit × VS)) := mkL sh_journal_Replay_0 (fun x y => (rngOk x.2.2.2.1 x.2.2.2.2.1 x.2.2.2.2.2.1 && decide (y.2.1.1.length ≤ x.2.2.2.2.2.1))) (fun x y => [(true, .exit 0, st_journal_Replay_0_e0 (x.2.2.1) (y.1) ((x.2.2.2.1.drop x.2.2.2.2.2.1.toNat).foldl repF y.2.1))])
def g_journal_Replay : G := ⟨TYs, [], 30, EL [(19, sp_journal_Open), (26, sp_ledger_Add)], keeps, (Ls [L_journal_Replay_0])⟩
def b_journal_Replay_0 (x5 : (List Decision)) (x14 : (List Decision)) (x15 : Int) (x16 : Int) (y2 : Ledger) (y4 : Ledger) : Option (Exit × VS) :=
  br ((ilt x16 x15))
    (br (cIx x14 x16)
      (br ((addOk y4 (lgt tyDecision x14 (Int.toNat x16))))
        (some (.normal, st_journal_Replay_0 x5 x14 x15 (iadd .i64 x16 1) y2 ((addV y4 (lgt tyDecision x14 (Int.toNat x16))).1)))
        (none))
      (none))
    (some (.exit 0, st_journal_Replay_0_e0 x5 y2 y4))
noncomputable def lp_journal_Replay_0 (x5 : (List Decision)) (x14 : (List Decision)) (x15 : Int) (x16 : Int) (y2 : Ledger) (y4 : Ledger) : Option (Exit × VS) := loopF (roundF g_journal_Replay fg_journal_Replay_0 tb_journal_Replay_0) (st_journal_Replay_0 x5 x14 x15 x16 y2 y4)
noncomputable def n_journal_Replay_0 (x5 : (List Decision)) (x14 : (List Decision)) (x15 : Int) (x16 : Int) (y2 : Ledger) (y4 : Ledger) : Option (Exit × VS) :=
  br ((ilt x16 x15))
    (br (cIx x14 x16)
      (br ((addOk y4 (lgt tyDecision x14 (Int.toNat x16))))
        (lp_journal_Replay_0 x5 x14 x15 (iadd .i64 x16 1) y2 ((addV y4 (lgt tyDecision x14 (Int.toNat x16))).1))
        (none))
      (none))
    (some (.exit 0, st_journal_Replay_0_e0 x5 y2 y4))
def la_journal_Replay_0 (x5 : (List Decision)) (x14 : (List Decision)) (x15 : Int) (x16 : Int) (y2 : Ledger) (y4 : Ledger) : Option (Exit × VS) := some (.exit 0, st_journal_Replay_0_e0 (x5) (y2) ((x14.drop x16.toNat).foldl repF y4))
theorem be_journal_Replay_0 (x5 : (List Decision)) (x14 : (List Decision)) (x15 : Int) (x16 : Int) (y2 : Ledger) (y4 : Ledger) : roundF g_journal_Replay fg_journal_Replay_0 tb_journal_Replay_0 (st_journal_Replay_0 x5 x14 x15 x16 y2 y4) = b_journal_Replay_0 x5 x14 x15 x16 y2 y4 := by kernel_rfl
theorem ln_journal_Replay_0 (x5 : (List Decision)) (x14 : (List Decision)) (x15 : Int) (x16 : Int) (y2 : Ledger) (y4 : Ledger) : lp_journal_Replay_0 x5 x14 x15 x16 y2 y4 = n_journal_Replay_0 x5 x14 x15 x16 y2 y4 := (loopF_nxt _ _).trans (by
  rw [be_journal_Replay_0]
  simp only [b_journal_Replay_0, n_journal_Replay_0, nxt_br, nxt_n, nxt_r, nxt_e, nxt_0]
  rfl)
def r_journal_Replay (p0 : ByteArray) : Option (V × List VO) :=
  br ((sz6 p0))
    (br ((rngOk ((openV p0).1) (llen ((openV p0).1)) (0 : Int) && decide ((([] : List Decision), ()).1.length ≤ (0 : Int))))
      (some (.tu [(.t tyLedger ((((openV p0).1).drop (0 : Int).toNat).foldl repF (([] : List Decision), ()))), (.t tI (llen (((openV p0).1))))], []))
      (none))
    (none)
theorem e_journal_Replay (p0 : ByteArray) : runF g_journal_Replay tc_journal_Replay rv_journal_Replay false [.t .str p0] [] = r_journal_Replay p0 := by kernel_rfl
theorem ok_journal_Replay : Option.map (trC Try.prog) Try.f52.body = some tc_journal_Replay.er := by kernel_rfl
theorem rok_journal_Replay : trVs Try.prog Try.f52.results.toList = some (rv_journal_Replay.map Prod.fst) := by kernel_rfl
theorem en_journal_Replay : Entered Try.prog 52 := .inr ⟨by decide, _, Try.func52, by kernel_rfl, by kernel_rfl⟩
theorem gk_journal_Replay : GOk Try.prog g_journal_Replay := gok_of _ (by
  intro p hp
  simp only [List.mem_cons, List.not_mem_nil, or_false] at hp
  rcases hp with rfl | rfl
  · exact ⟨en_journal_Open, ms_journal_Open⟩
  · exact ⟨en_ledger_Add, ms_ledger_Add⟩)
theorem l_journal_Replay_0 (x5 : (List Decision)) (x14 : (List Decision)) (x15 : Int) (x16 : Int) (y2 : Ledger) (y4 : Ledger) (h : (rngOk x14 x15 x16 && decide (y4.1.length ≤ x16)) = true) : lp_journal_Replay_0 x5 x14 x15 x16 y2 y4 = la_journal_Replay_0 x5 x14 x15 x16 y2 y4 := by
  simp only [Bool.and_eq_true, decide_eq_true_eq] at h
  obtain ⟨h0, h4⟩ := h
  obtain ⟨rfl, h3, k, rfl, hk⟩ := rng_k h0
  clear h0
  revert y4
  refine range_ind x14 (fun k => ∀ y4 : Ledger, (y4.1.length : Int) ≤ (k : Int) → lp_journal_Replay_0 x5 x14 (x14.length : Int) (k : Int) y2 y4 = la_journal_Replay_0 x5 x14 (x14.length : Int) (k : Int) y2 y4) ?_ ?_ k hk
  · intro y4 _
    rw [ln_journal_Replay_0]
    simp [n_journal_Replay_0, la_journal_Replay_0, ilt_nat, br_false]
  · intro k hk ih y4 hy
    rw [ln_journal_Replay_0]
    have hr := rep_len y4 x14[k]
    have i1 := ih (repF y4 x14[k]) (by omega)
    have e1 : addOk y4 x14[k] = true := by simp only [addOk, lenOk, decide_eq_true_eq]; omega
    simp only [n_journal_Replay_0, ilt_nat, cIx_nat, hk, decide_true, br_true, Int.toNat_natCast, lgt_get (y := tyDecision) hk, add1 (show k < 4611686018427387904 by omega), e1]
    refine (show _ = lp_journal_Replay_0 x5 x14 (x14.length : Int) ((k + 1 : Nat) : Int) y2 (repF y4 x14[k]) from rfl).trans ?_
    rw [i1]
    simp only [la_journal_Replay_0, Int.toNat_natCast, List.drop_eq_getElem_cons hk, List.foldl_cons]
theorem lo_journal_Replay_0 : ∀ S l p, g_journal_Replay.L 0 (fgt fg_journal_Replay_0 S) = some (true, l) → pickA l = some p → loopF (roundF g_journal_Replay fg_journal_Replay_0 tb_journal_Replay_0) S = some p :=
  lok_of (s := sh_journal_Replay_0) ⟨by decide, by decide⟩ (by kernel_rfl) fun x y hok p hp => by
  simp only [pickA_br, pickA_one] at hp
  exact (l_journal_Replay_0 x.2.2.1 x.2.2.2.1 x.2.2.2.2.1 x.2.2.2.2.2.1 y.1 y.2.1 (by simpa using hok)).trans hp
theorem lk_journal_Replay : tc_journal_Replay.lok g_journal_Replay := by
  repeat (first | exact trivial | exact lo_journal_Replay_0 | refine ⟨?_, ?_⟩)
theorem s_journal_Replay (s : ByteArray) (h : replayOk s = true) : r_journal_Replay s = some (.tu [.t tyLedger (replayV s).1, .t tI (replayV s).2], []) := by
  simp only [replayOk, Bool.and_eq_true, decide_eq_true_eq] at h
  have e1 : (rngOk (openV s).1 (llen (openV s).1) 0 && decide (((([] : List Decision), ()).1.length : Int) ≤ 0)) = true := by simp only [rng_0 h.2, Bool.true_and]; rfl
  unfold r_journal_Replay
  rw [h.1, br_true]
  first | (rw [e1, br_true]; rfl) | (simp only [e1, br_true]; rfl)
def sp_journal_Replay : Ent := spec (.pr .str .nil) (fun x => (replayOk x.1)) (fun x => (.tu [(.t tyLedger ((replayV x.1).1)), (.t tI ((replayV x.1).2))]))
theorem ms_journal_Replay : Meets Try.prog 52 (strip sp_journal_Replay) := by
  obtain ⟨c, hc, hi⟩ := Option.map_eq_some_iff.1 ok_journal_Replay
  exact meets_spec (R := runF g_journal_Replay tc_journal_Replay rv_journal_Replay false) (meets_of (by decide) Try.func52 hc hi Try.ntmps52 rok_journal_Replay gk_journal_Replay lk_journal_Replay mixed) fun x hok => (e_journal_Replay x.1).trans (s_journal_Replay x.1 hok)
/-- cipherplan/cipherplanref42.SameDecisions -/
def tc_ref42_SameDecisions : TC := (.sq (.reg [(.mk (some 4) none (.m (.pu (.mv (.c (.v (.bool false)))))))]) (.sq (.reg [(.mk (some 5) none (.m (.pu (.mv (.t 0))))), (.mk (some 6) none (.m (.pu (.bd [(.v (.slice none 0 0))] [(0, 1, (.t 5))])))), (.mk (some 7) none (.m (.pu (.mv (.t 1))))), (.mk (some 8) none (.m (.pu (.bd [(.v (.slice none 0 0))] [(0, 1, (.t 7))])))), (.mk (some 9) none (.call 31 [(.t 6), (.t 8)])), (.mk (some 4) none (.m (.pu (.mv (.t 9)))))]) .rt))
def rv_ref42_SameDecisions : List (RV × Option Ty) := [((.t 4), some .bool)]
def g_ref42_SameDecisions : G := ⟨TYs, [], 10, EL [(31, sp_ref41_Same)], keeps, (fun _ _ => none)⟩
def r_ref42_SameDecisions (p0 : (List Decision)) (p1 : (List Decision)) : Option (V × List VO) :=
  br ((sameOk (p0, ()) (p1, ())))
    (some (.t .bool (sameV (p0, ()) (p1, ())), []))
    (none)
theorem e_ref42_SameDecisions (p0 : (List Decision)) (p1 : (List Decision)) : runF g_ref42_SameDecisions tc_ref42_SameDecisions rv_ref42_SameDecisions false [.t (.sl tyDecision) p0, .t (.sl tyDecision) p1] [] = r_ref42_SameDecisions p0 p1 := by kernel_rfl
theorem ok_ref42_SameDecisions : Option.map (trC Try.prog) Try.f22.body = some tc_ref42_SameDecisions.er := by kernel_rfl
theorem rok_ref42_SameDecisions : trVs Try.prog Try.f22.results.toList = some (rv_ref42_SameDecisions.map Prod.fst) := by kernel_rfl
theorem en_ref42_SameDecisions : Entered Try.prog 22 := .inr ⟨by decide, _, Try.func22, by kernel_rfl, by kernel_rfl⟩
theorem gk_ref42_SameDecisions : GOk Try.prog g_ref42_SameDecisions := gok_of _ (by
  intro p hp
  simp only [List.mem_cons, List.not_mem_nil, or_false] at hp
  rcases hp with rfl
  · exact ⟨en_ref41_Same, ms_ref41_Same⟩)
theorem lk_ref42_SameDecisions : tc_ref42_SameDecisions.lok g_ref42_SameDecisions := by repeat (first | exact trivial | refine ⟨?_, ?_⟩)
theorem s_ref42_SameDecisions (a b : List Decision) (h : eqOk a b = true) : r_ref42_SameDecisions a b = some (.t .bool (eqDs a b), []) := by
  unfold r_ref42_SameDecisions
  rw [show sameOk (a, ()) (b, ()) = true from h, br_true]
  rfl
def sp_ref42_SameDecisions : Ent := spec (.pr (.sl tyDecision) (.pr (.sl tyDecision) .nil)) (fun x => (eqOk x.1 x.2.1)) (fun x => (.t .bool (eqDs x.1 x.2.1)))
theorem ms_ref42_SameDecisions : Meets Try.prog 22 (strip sp_ref42_SameDecisions) := by
  obtain ⟨c, hc, hi⟩ := Option.map_eq_some_iff.1 ok_ref42_SameDecisions
  exact meets_spec (R := runF g_ref42_SameDecisions tc_ref42_SameDecisions rv_ref42_SameDecisions false) (meets_of (by decide) Try.func22 hc hi Try.ntmps22 rok_ref42_SameDecisions gk_ref42_SameDecisions lk_ref42_SameDecisions mixed) fun x hok => (e_ref42_SameDecisions x.1 x.2.1).trans (s_ref42_SameDecisions x.1 x.2.1 hok)
end
end Go.Proofs.Ytnimpcffagidoaa.K
