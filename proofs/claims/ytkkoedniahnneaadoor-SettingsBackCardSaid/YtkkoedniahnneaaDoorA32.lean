/-
 SettingsBack: what was printed says the same when it is read.
-/
import Derived.Test.YtkkoedniahnneaaDoorA31
set_option linter.unusedSimpArgs false
set_option linter.unusedVariables false
namespace Go.Proofs.YtkkoedniahnneaaDoor.K
open Go.RowKit
noncomputable section
theorem ssl_le (s : ByteArray) (a b : Int) : (ssl s a b).size ≤ s.size := by
 rw [← bl_len, bl_ssl, List.length_take, List.length_drop, bl_len]
 omega
theorem stp_sz {s sec : ByteArray} {line : Int} {out : List Setting} {p : ByteArray × List Setting} (h : stpS s sec line out = some p) (hs : s.size ≤ 1500000000) (hsec : sec.size ≤ 1500000000) (ho : out.all szOk = true) : p.1.size ≤ 1500000000 ∧ p.2.all szOk = true := by
 unfold stpS at h
 cases h1 : empS s with
 | true =>
  rw [h1] at h
  obtain rfl := Option.some.inj h
  exact ⟨hsec, ho⟩
 | false =>
  rw [h1] at h
  cases h2 : brkS s with
  | true =>
   rw [h2] at h
   cases h3 : wrdB (secS s) with
   | true =>
    rw [h3] at h
    obtain rfl := Option.some.inj h
    exact ⟨Nat.le_trans (tB_size _) (Nat.le_trans (ssl_le _ _ _) hs), ho⟩
   | false =>
    rw [h3] at h
    cases h
  | false =>
   rw [h2] at h
   cases h3 : (ieq (eqI s 0) (slen s) || !wrdB (nmS s)) with
   | true =>
    rw [h3] at h
    cases h
   | false =>
    rw [h3] at h
    obtain rfl := Option.some.inj h
    refine ⟨hsec, ?_⟩
    have e1 : (nmS s).size ≤ 1500000000 := Nat.le_trans (tB_size _) (Nat.le_trans (ssl_le _ _ _) hs)
    have e2 : (vlS s).size ≤ 1500000000 := Nat.le_trans (tB_size _) (Nat.le_trans (ssl_le _ _ _) hs)
    have e3 : szOk (sec, (nmS s, (vlS s, (line, ())))) = true := decide_eq_true ⟨by show sec.size ≤ _; omega, by show (nmS s).size ≤ _; omega, by show (vlS s).size ≤ _; omega⟩
    show (out ++ [(sec, (nmS s, (vlS s, (line, ()))))]).all szOk = true
    rw [List.all_append, ho, List.all_cons, e3]
    rfl
theorem pgZ_sz : ∀ (n : Nat) (l : List ByteArray) (sec : ByteArray) (k : Nat) (out : List Setting), lnsOk l = true → sec.size ≤ 1500000000 → out.all szOk = true → (pgZ n l sec (k : Int) out).1.all szOk = true
 | 0, _, _, _, _, _, _, ho => ho
 | n + 1, l, sec, k, out, hl, hsec, ho => by
  unfold pgZ
  by_cases hk : k < l.length
  ·obtain ⟨p1, p2⟩ := rjn_pos hk
   have hsz := rjn_size hl hk
   obtain ⟨q, hq⟩ := Int.eq_ofNat_of_zero_le (show 0 ≤ (k : Int) + (rjnF l k).2.1 by omega)
   rw [show ilt (k : Int) (llen l) = true from decide_eq_true (by simp only [llen]; omega), cond_true, hq]
   cases (!(rjnF l k).2.2 || !clB (rjnF l k).1) with
   | true => exact ho
   | false =>
    rw [cond_false]
    cases h : stpS (rjnF l k).1 sec (k + 1) out with
    | none => exact ho
    | some p =>
     obtain ⟨a, b⟩ := stp_sz h (by omega) hsec ho
     exact pgZ_sz n l p.1 q p.2 hl a b
  ·rw [show ilt (k : Int) (llen l) = false from decide_eq_false (by simp only [llen]; omega)]
   exact ho
theorem par_ok (s : ByteArray) : prOk (parF s).1 = true := by
 unfold parF
 cases h : (igt (slen s) 8192 || igt (endN s) 200) with
 | true => rfl
 | false =>
  rw [cond_false]
  obtain ⟨g1, g2⟩ := Bool.or_eq_false_iff.1 h
  have h1 : s.size ≤ 8192 := by
   simp only [igt, slen, decide_eq_false_iff_not] at g1
   omega
  have h2 : (bl s).count 10 ≤ 200 := by
   simp only [igt, decide_eq_false_iff_not] at g2
   have : ¬ (200 : Int) < (((bl s).count 10 : Nat) : Int) := g2
   omega
  have h3 := pgZ_len ((lnB s).length - (0 : Int).toNat) (lnB s) (ByteArray.mk #[]) 0 []
  have h4 := pgZ_sz ((lnB s).length - (0 : Int).toNat) (lnB s) (ByteArray.mk #[]) 0 [] (lnB_ok (by omega)) (by show 0 ≤ 1500000000; omega) rfl
  have h5 := lnL_len (bl s)
  have h6 : (lnB s).length = (lnL (bl s)).length := List.length_map _
  cases (pgF (lnB s) (ByteArray.mk #[]) 0 []).2.2 with
  | false => rfl
  | true =>
   rw [cond_true]
   refine Bool.and_eq_true_iff.2 ⟨decide_eq_true ?_, h4⟩
   show (pgF (lnB s) (ByteArray.mk #[]) 0 []).1.length ≤ _
   unfold pgF
   have : ([] : List Setting).length = 0 := rfl
   omega
theorem sm_sz {l : List Setting} (h : l.all smO = true) : l.all szOk = true := by
 rw [List.all_eq_true] at h ⊢
 intro x hx
 have := of_decide_eq_true (h x hx)
 exact decide_eq_true (by omega)
def bakT (_ : List Int) (_ : ByteArray) : Bool := true
def bk0 (a b : List Setting) (i : Int) : Bool := cP (stripS a = stripS b ∧ 0 ≤ i ∧ i ≤ a.length ∧ a.length ≤ 1000)
def dr_f7_0 : List DO := [(.mk (oV 68 6) []), (.mk (oV 69 12) []), (.mk (oP 70 (.ix 4 (.t 68) (.t 69))) [0, 1]), (.mk (oP 71 (.fa 0 (.t 70))) [2]), (.mk (oL 72 71) [3]), (.mk (oV 73 9) []), (.mk (oV 74 12) []), (.mk (oP 75 (.ix 4 (.t 73) (.t 74))) [5, 6]), (.mk (oP 76 (.fa 0 (.t 75))) [7]), (.mk (oL 77 76) [8]), (.mk (oP 78 (.bin false .neq (.t 72) (.t 77))) [4, 9]), (.mk (oV 79 78) [10]), (.mk (oQ 80 79 false (.mv (.t 6))) [11]), (.mk (oQ 81 79 false (.mv (.t 12))) [11]), (.mk (oQ 82 79 false (.ix 4 (.t 80) (.t 81))) [12, 13, 11]), (.mk (oQ 83 79 false (.fa 1 (.t 82))) [14, 11]), (.mk (oG 84 79 false (.m (.ld false 1 (.t 83)))) [15, 11]), (.mk (oQ 85 79 false (.mv (.t 9))) [11]), (.mk (oQ 86 79 false (.mv (.t 12))) [11]), (.mk (oQ 87 79 false (.ix 4 (.t 85) (.t 86))) [17, 18, 11]), (.mk (oQ 88 79 false (.fa 1 (.t 87))) [19, 11]), (.mk (oG 89 79 false (.m (.ld false 1 (.t 88)))) [20, 11]), (.mk (oQ 90 79 false (.bin false .neq (.t 84) (.t 89))) [16, 21, 11]), (.mk (oP 91 (.pick (.t 79) (cB true) (.t 90))) [11, 22]), (.mk (oV 92 91) [23, 11]), (.mk (oQ 93 92 false (.mv (.t 6))) [24]), (.mk (oQ 94 92 false (.mv (.t 12))) [24]), (.mk (oQ 95 92 false (.ix 4 (.t 93) (.t 94))) [25, 26, 24]), (.mk (oQ 96 92 false (.fa 2 (.t 95))) [27, 24]), (.mk (oG 97 92 false (.m (.ld false 1 (.t 96)))) [28, 24]), (.mk (oQ 98 92 false (.mv (.t 9))) [24]), (.mk (oQ 99 92 false (.mv (.t 12))) [24]), (.mk (oQ 100 92 false (.ix 4 (.t 98) (.t 99))) [30, 31, 24]), (.mk (oQ 101 92 false (.fa 2 (.t 100))) [32, 24]), (.mk (oG 102 92 false (.m (.ld false 1 (.t 101)))) [33, 24]), (.mk (oQ 103 92 false (.bin false .neq (.t 97) (.t 102))) [29, 34, 24]), (.mk (oP 104 (.pick (.t 92) (cB true) (.t 103))) [24, 35])]
def fg_f7_0 : Fg := ⟨[(1, some .str), (6, some (.sl tySetting)), (9, some (.sl tySetting)), (12, some tI)], []⟩
def tb_f7_0 : TC := (.sq (.sq (.reg [(oV 62 12), (oV 63 6), (oP 64 (.len false (.t 63))), (oP 65 (.bin false .lss (.t 62) (.t 64)))]) (.cd (.t 65) .sk (.fg ⟨[(1, some .str)], []⟩ (.ex 0)))) (.sq (.bk 1 (.sq (.dr dr_f7_0 [(0, []), (1, []), (2, []), (3, []), (4, []), (5, []), (6, []), (7, []), (8, []), (9, []), (10, []), (11, []), (12, []), (13, []), (14, []), (15, []), (16, []), (17, []), (18, []), (19, []), (20, []), (21, []), (22, []), (23, []), (24, []), (25, []), (26, []), (27, []), (28, []), (29, []), (30, []), (31, []), (32, []), (33, []), (34, []), (35, []), (36, [])] (.of [0, 1, 2, 3, 4, 5, 6, 7, 8, 9, 10, 11, 12, 13, 14, 15, 16, 17, 18, 19, 20, 21, 22, 23, 24, 25, 26, 27, 28, 29, 30, 31, 32, 33, 34, 35, 36])) (.cd (.t 104) (.sq (.reg [(oP 4 (.mv (cB false)))]) (.fg ⟨[(4, some .bool)], []⟩ .rt)) .sk))) (.reg [(oV 66 12), (oP 67 (.bin false .add (.t 66) (cI 1))), (oV 12 67)])))
def tc_f7 : TC := (.sq (.reg [(oP 4 (.mv (cB false)))]) (.sq (.sq (.reg [(oV 23 0), (oC 24 13 [(.t 23)]), (oP 25 (.nt (.t 24))), (oV 26 25), (oQ 27 26 false (.mv (.t 1))), (oQ 28 26 false (.len true (.t 27))), (oQ 29 26 false (.bin false .gtr (.t 28) (cI 3000))), (oP 30 (.pick (.t 26) (cB true) (.t 29)))]) (.cd (.t 30) (.sq (.reg [(oC 31 14 []), (oV 4 31)]) .rt) .sk)) (.sq (.reg [(oV 32 0), (oC 33 15 [(.t 32)]), (oV 5 33)]) (.sq (.reg [(oV 34 5), (oC 35 28 [(.t 34)]), (oV 6 35)]) (.sq (.reg [(oV 37 6), (oC 38 26 [(.t 37)]), (oV 36 38), (oP 39 (.ext 0 (.t 36))), (oP 40 (.ext 1 (.t 36))), (oV 7 39), (oV 8 40)]) (.sq (.sq (.reg [(oV 41 8), (oP 42 (.bin false .eql (.t 41) (cI 0)))]) (.cd (.t 42) (.sq (.reg [(oV 44 7), (oC 45 29 [(.t 44)]), (oV 43 45), (oP 46 (.ext 0 (.t 43))), (oP 47 (.ext 1 (.t 43))), (oP 48 (.ext 2 (.t 43))), (oV 9 46), (oV 10 47), (oV 11 48)]) (.sq (.sq (.reg [(oV 49 11), (oP 50 (.bin false .neq (.t 49) (cI 0))), (oV 51 50), (oQ 52 51 false (.mv (.t 10))), (oQ 53 51 false (.bin false .neq (.t 52) (cI 0))), (oP 54 (.pick (.t 51) (cB true) (.t 53))), (oV 55 54), (oQ 56 55 false (.mv (.t 6))), (oQ 57 55 false (.len false (.t 56))), (oQ 58 55 false (.mv (.t 9))), (oQ 59 55 false (.len false (.t 58))), (oQ 60 55 false (.bin false .neq (.t 57) (.t 59))), (oP 61 (.pick (.t 55) (cB true) (.t 60)))]) (.cd (.t 61) (.sq (.reg [(oP 4 (.mv (cB false)))]) .rt) .sk)) (.sq (.reg [(oP 12 (.mv (cI 0)))]) (.bk 0 (.lp 0 fg_f7_0 tb_f7_0))))) .sk)) (.sq (.sq (.reg [(oV 106 1), (oC 107 29 [(.t 106)]), (oV 105 107), (oP 108 (.ext 0 (.t 105))), (oP 109 (.ext 1 (.t 105))), (oP 110 (.ext 2 (.t 105))), (oV 13 108), (oV 14 109), (oV 15 110)]) (.sq (.reg [(oV 111 15), (oP 112 (.bin false .eql (.t 111) (cI 0)))]) (.cd (.t 112) (.sq (.reg [(oV 114 13), (oC 115 26 [(.t 114)]), (oV 113 115), (oP 116 (.ext 0 (.t 113))), (oP 117 (.ext 1 (.t 113))), (oV 16 116), (oV 17 117)]) (.sq (.reg [(oV 119 16), (oC 120 29 [(.t 119)]), (oV 118 120), (oP 121 (.ext 0 (.t 118))), (oP 122 (.ext 1 (.t 118))), (oP 123 (.ext 2 (.t 118))), (oV 18 121), (oV 19 122), (oV 20 123)]) (.sq (.reg [(oV 125 18), (oC 126 26 [(.t 125)]), (oV 124 126), (oP 127 (.ext 0 (.t 124))), (oP 128 (.ext 1 (.t 124))), (oV 21 127), (oV 22 128)]) (.sq (.reg [(oV 129 17), (oP 130 (.bin false .eql (.t 129) (cI 0))), (oV 131 130), (oQ 132 131 true (.mv (.t 20))), (oQ 133 131 true (.bin false .neq (.t 132) (cI 0))), (oQ 134 131 true (.mv (.t 133))), (oQ 135 134 false (.mv (.t 22))), (oQ 136 134 false (.bin false .neq (.t 135) (cI 0))), (oQ 137 131 true (.pick (.t 134) (cB true) (.t 136))), (oQ 138 131 true (.mv (.t 137))), (oQ 139 138 false (.mv (.t 16))), (oQ 140 138 false (.mv (.t 21))), (oQ 141 138 false (.bin false .neq (.t 139) (.t 140))), (oQ 142 131 true (.pick (.t 138) (cB true) (.t 141))), (oP 143 (.pick (.t 131) (.t 142) (cB false)))]) (.cd (.t 143) (.sq (.reg [(oP 4 (.mv (cB false)))]) .rt) .sk))))) .sk))) (.sq (.reg [(oC 144 14 []), (oV 4 144)]) .rt))))))))
def rv_f7 : List (RV × Option Ty) := [((.t 4), some .bool)]
abbrev sh_f7_0 : Sh := ⟨[(1, .ty .str), (6, .ty (.sl tySetting)), (9, .ty (.sl tySetting)), (12, .ty tI)], []⟩
def st_f7_0 (x1 : ByteArray) (x6 : (List Setting)) (x9 : (List Setting)) (x12 : Int) : VS := sh_f7_0.st (x1, x6, x9, x12, ()) ()
abbrev sh_f7_0_ret : Sh := ⟨[(4, .ty .bool)], []⟩
def st_f7_0_ret (x4 : Bool) : VS := sh_f7_0_ret.st (x4, ()) ()
abbrev sh_f7_0_e0 : Sh := ⟨[(1, .ty .str)], []⟩
def st_f7_0_e0 (x1 : ByteArray) : VS := sh_f7_0_e0.st (x1, ()) ()
-- loop 0: (x1 : ByteArray) (x6 : (List Setting)) (x9 : (List Setting)) (x12 : Int); out: ('ret',) (x4 : Bool); ('exit', 0) (x1 : ByteArray)
def L_f7_0 : VS → Option (Bool × List (Bool × Exit × VS)) := mkL sh_f7_0 (fun x y => (bk0 x.2.1 x.2.2.1 x.2.2.2.1)) (fun x y => [((false), .ret, st_f7_0_ret (false)), (true, .exit 0, st_f7_0_e0 (x.1))])
def g_f7 : G := ⟨TYs, [], 145, EL [(13, sp_f13), (14, sp_f14), (15, sp_f15), (26, sp_f26), (28, sp_f28), (29, sp_f29)], keeps, (Ls [L_f7_0]), IL [], RL []⟩
def b_f7_0 (x1 : ByteArray) (x6 : (List Setting)) (x9 : (List Setting)) (x12 : Int) : Option (Exit × VS) :=
 br ((ilt x12 (llen x6)))
  (br (cIx x6 x12)
   (br (cIx x9 x12)
    (br ((sne ((lgt tySetting x6 (Int.toNat x12)).1) ((lgt tySetting x9 (Int.toNat x12)).1)))
     (some (.ret, st_f7_0_ret false))
     (br (cIx x6 x12)
      (br (cIx x9 x12)
       (br ((sne (((lgt tySetting x6 (Int.toNat x12)).2).1) (((lgt tySetting x9 (Int.toNat x12)).2).1)))
        (some (.ret, st_f7_0_ret false))
        (br (cIx x6 x12)
         (br (cIx x9 x12)
          (br ((sne ((((lgt tySetting x6 (Int.toNat x12)).2).2).1) ((((lgt tySetting x9 (Int.toNat x12)).2).2).1)))
           (some (.ret, st_f7_0_ret false))
           (some (.normal, st_f7_0 x1 x6 x9 (iadd .i64 x12 1))))
          (none))
         (none)))
       (none))
      (none)))
    (none))
   (none))
  (some (.exit 0, st_f7_0_e0 x1))
noncomputable def lp_f7_0 (x1 : ByteArray) (x6 : (List Setting)) (x9 : (List Setting)) (x12 : Int) : Option (Exit × VS) := loopF (roundF g_f7 fg_f7_0 tb_f7_0) (st_f7_0 x1 x6 x9 x12)
noncomputable def n_f7_0 (x1 : ByteArray) (x6 : (List Setting)) (x9 : (List Setting)) (x12 : Int) : Option (Exit × VS) :=
 br ((ilt x12 (llen x6)))
  (br (cIx x6 x12)
   (br (cIx x9 x12)
    (br ((sne ((lgt tySetting x6 (Int.toNat x12)).1) ((lgt tySetting x9 (Int.toNat x12)).1)))
     (some (.ret, st_f7_0_ret false))
     (br (cIx x6 x12)
      (br (cIx x9 x12)
       (br ((sne (((lgt tySetting x6 (Int.toNat x12)).2).1) (((lgt tySetting x9 (Int.toNat x12)).2).1)))
        (some (.ret, st_f7_0_ret false))
        (br (cIx x6 x12)
         (br (cIx x9 x12)
          (br ((sne ((((lgt tySetting x6 (Int.toNat x12)).2).2).1) ((((lgt tySetting x9 (Int.toNat x12)).2).2).1)))
           (some (.ret, st_f7_0_ret false))
           (lp_f7_0 x1 x6 x9 (iadd .i64 x12 1)))
          (none))
         (none)))
       (none))
      (none)))
    (none))
   (none))
  (some (.exit 0, st_f7_0_e0 x1))
def la_f7_0 (x1 : ByteArray) (x6 : (List Setting)) (x9 : (List Setting)) (x12 : Int) : Option (Exit × VS) := br (false) (some (.ret, st_f7_0_ret (false))) <| some (.exit 0, st_f7_0_e0 (x1))
theorem be_f7_0 (x1 : ByteArray) (x6 : (List Setting)) (x9 : (List Setting)) (x12 : Int) : roundF g_f7 fg_f7_0 tb_f7_0 (st_f7_0 x1 x6 x9 x12) = b_f7_0 x1 x6 x9 x12 := by kernel_rfl
theorem ln_f7_0 (x1 : ByteArray) (x6 : (List Setting)) (x9 : (List Setting)) (x12 : Int) : lp_f7_0 x1 x6 x9 x12 = n_f7_0 x1 x6 x9 x12 := (loopF_nxt _ _).trans (by
 rw [be_f7_0]
 simp only [b_f7_0, n_f7_0, nxt_br, nxt_n, nxt_r, nxt_e, nxt_0]
 rfl)
def r_f7 (p0 : (List Int)) (p1 : ByteArray) : Option (V × List VO) :=
 br ((!(light p0)))
  (some (.t .bool awkT, []))
  (br ((igt (slen p1) 3000))
   (some (.t .bool awkT, []))
   (br ((dOk (roll p0)))
    (br ((prOk (liF (roll p0))))
     (br ((ieq ((prnF (liF (roll p0))).2) 0))
      (br ((ine (((parF ((prnF (liF (roll p0))).1)).2).2) 0))
       (some (.t .bool false, []))
       (br ((ine (((parF ((prnF (liF (roll p0))).1)).2).1) 0))
        (some (.t .bool false, []))
        (br ((ine (llen (liF (roll p0))) (llen ((parF ((prnF (liF (roll p0))).1)).1))))
         (some (.t .bool false, []))
         (br ((bk0 (liF (roll p0)) ((parF ((prnF (liF (roll p0))).1)).1) (0 : Int)))
          (br ((false))
           (some (.t .bool (false), []))
           (br ((ieq (((parF (p1)).2).2) 0))
            (br ((prOk ((parF (p1)).1)))
             (br ((prOk ((parF ((prnF ((parF (p1)).1)).1)).1)))
              (br ((ieq ((prnF ((parF (p1)).1)).2) 0))
               (br ((ine (((parF ((prnF ((parF (p1)).1)).1)).2).2) 0))
                (some (.t .bool false, []))
                (br ((ine ((prnF ((parF ((prnF ((parF (p1)).1)).1)).1)).2) 0))
                 (some (.t .bool false, []))
                 (br ((sne ((prnF ((parF (p1)).1)).1) ((prnF ((parF ((prnF ((parF (p1)).1)).1)).1)).1)))
                  (some (.t .bool false, []))
                  (some (.t .bool awkT, [])))))
               (some (.t .bool awkT, [])))
              (none))
             (none))
            (some (.t .bool awkT, []))))
          (none)))))
      (br ((ieq (((parF p1).2).2) 0))
       (br ((prOk ((parF p1).1)))
        (br ((prOk ((parF ((prnF ((parF p1).1)).1)).1)))
         (br ((ieq ((prnF ((parF p1).1)).2) 0))
          (br ((ine (((parF ((prnF ((parF p1).1)).1)).2).2) 0))
           (some (.t .bool false, []))
           (br ((ine ((prnF ((parF ((prnF ((parF p1).1)).1)).1)).2) 0))
            (some (.t .bool false, []))
            (br ((sne ((prnF ((parF p1).1)).1) ((prnF ((parF ((prnF ((parF p1).1)).1)).1)).1)))
             (some (.t .bool false, []))
             (some (.t .bool awkT, [])))))
          (some (.t .bool awkT, [])))
         (none))
        (none))
       (some (.t .bool awkT, []))))
     (none))
    (none)))
theorem e_f7 (p0 : (List Int)) (p1 : ByteArray) : runF g_f7 tc_f7 rv_f7 false [.t (.sl tI) p0, .t .str p1] [] = r_f7 p0 p1 := by kernel_rfl
theorem ok_f7 : Option.map (trC Tryd.prog) Tryd.f7.body = some tc_f7.er := by kernel_rfl
theorem rok_f7 : trVs Tryd.prog Tryd.f7.results.toList = some (rv_f7.map Prod.fst) := by kernel_rfl
theorem gk_f7 : GOk Tryd.prog g_f7 := gok_of _ (by
 intro p hp
 simp only [List.mem_cons, List.not_mem_nil, or_false] at hp
 rcases hp with rfl | rfl | rfl | rfl | rfl | rfl
 ·exact ⟨en_f13, ms_f13⟩
 ·exact ⟨en_f14, ms_f14⟩
 ·exact ⟨en_f15, ms_f15⟩
 ·exact ⟨en_f26, ms_f26⟩
 ·exact ⟨en_f28, ms_f28⟩
 ·exact ⟨en_f29, ms_f29⟩)
theorem strip_at {a b : List Setting} (h : stripS a = stripS b) {k : Nat} (hk : k < a.length) : ∃ hb : k < b.length, b[k].1 = a[k].1 ∧ b[k].2.1 = a[k].2.1 ∧ b[k].2.2.1 = a[k].2.2.1 := by
 have hl : a.length = b.length := by
  have := congrArg List.length h
  simpa [stripS] using this
 have hb : k < b.length := by omega
 refine ⟨hb, ?_⟩
 have e : (stripS a)[k]? = (stripS b)[k]? := by rw [h]
 unfold stripS at e
 rw [List.getElem?_map, List.getElem?_map, List.getElem?_eq_getElem hk, List.getElem?_eq_getElem hb] at e
 simp only [Option.map_some, Option.some.injEq, Prod.mk.injEq] at e
 exact ⟨e.1.symm, e.2.1.symm, e.2.2.symm⟩
theorem l_f7_0 (x1 : ByteArray) (x6 : (List Setting)) (x9 : (List Setting)) (x12 : Int) (h : (bk0 x6 x9 x12) = true) : lp_f7_0 x1 x6 x9 x12 = la_f7_0 x1 x6 x9 x12 := by
 obtain ⟨h1, h2, h3, h4⟩ := cP_of h
 clear h
 obtain ⟨k, rfl⟩ := Int.eq_ofNat_of_zero_le h2
 refine range_ind x6 (fun k => lp_f7_0 x1 x6 x9 (k : Int) = la_f7_0 x1 x6 x9 (k : Int)) ?_ ?_ k (by omega)
 ·rw [ln_f7_0]
  simp only [n_f7_0, la_f7_0, ilt_nat, llen, Nat.lt_irrefl, decide_false, br_false]
 ·intro k hk ih
  obtain ⟨hb, e1, e2, e3⟩ := strip_at h1 hk
  rw [ln_f7_0]
  simp only [n_f7_0, ilt_nat, llen, cIx_nat, hk, hb, decide_true, br_true, Int.toNat_natCast, lgt_get (y := tySetting) hk, lgt_get (y := tySetting) hb, e1, e2, e3, sne_s, br_false, add1 (show k < 4611686018427387904 by omega), ih, la_f7_0]
theorem lo_f7_0 : ∀ S l p, g_f7.L 0 (fgt fg_f7_0 S) = some (true, l) → pickA l = some p → loopF (roundF g_f7 fg_f7_0 tb_f7_0) S = some p :=
 lok_of (s := sh_f7_0) ⟨by decide, by decide⟩ (by kernel_rfl) fun x y hok p hp => by
 simp only [pickA_br, pickA_one] at hp
 exact (l_f7_0 x.1 x.2.1 x.2.2.1 x.2.2.2.1 (by simpa using hok)).trans hp
theorem lk_f7 : tc_f7.lok g_f7 := by
 repeat (first | exact trivial | exact lo_f7_0 | refine ⟨?_, ?_⟩)
theorem bak_two (s : ByteArray) : br (ieq (parF s).2.2 0) (br (prOk (parF s).1) (br (prOk (parF (prnF (parF s).1).1).1) (br (ieq (prnF (parF s).1).2 0) (br (ine (parF (prnF (parF s).1).1).2.2 0) (some (V.t .bool false, ([] : List VO))) (br (ine (prnF (parF (prnF (parF s).1).1).1).2 0) (some (.t .bool false, [])) (br (sne (prnF (parF s).1).1 (prnF (parF (prnF (parF s).1).1).1).1) (some (.t .bool false, [])) (some (.t .bool awkT, []))))) (some (.t .bool awkT, []))) none) none) (some (.t .bool awkT, [])) = some (.t .bool true, []) := by
 rw [par_ok, par_ok, br_true, br_true]
 refine br_intro (fun _ => br_intro (fun h => ?_) (fun _ => rfl)) (fun _ => rfl)
 have h : (prnF (parF s).1).2 = 0 := eq_of_beq h
 obtain ⟨b1, _, _, b4⟩ := prn_back (l := (parF s).1) (t := (prnF (parF s).1).1) (Prod.ext rfl h)
 rw [b1, b4, ine_s, br_false, br_false, sne_s, br_false]
 rfl
theorem s_f7 (p0 : List Int) (p1 : ByteArray) : r_f7 p0 p1 = some (.t .bool (bakT p0 p1), []) := by
 simp only [r_f7]
 refine br_intro (fun _ => rfl) (fun k1 => br_intro (fun _ => rfl) (fun k2 => ?_))
 have k1 : light p0 = true := by simpa using k1
 have hd := dOk_roll k1
 obtain ⟨_, g2, g3⟩ := liF_ok hd
 have hp : prOk (liF (roll p0)) = true := Bool.and_eq_true_iff.2 ⟨decide_eq_true (by omega), sm_sz g2⟩
 rw [hd, br_true, hp, br_true]
 generalize liF (roll p0) = x at g3 hp
 refine br_intro (fun h => ?_) (fun _ => bak_two p1)
 have h : (prnF x).2 = 0 := eq_of_beq h
 obtain ⟨b1, b2, b3, _⟩ := prn_back (l := x) (t := (prnF x).1) (Prod.ext rfl h)
 have hl : llen x = llen (parF (prnF x).1).1 := by
  have := congrArg List.length b3
  simp only [stripS, List.length_map] at this
  simp only [llen, this]
 rw [b1, b2, ← hl, ine_s, br_false, ine_s, br_false, br_false]
 refine brY (cP_in ⟨b3.symm, by omega, by omega, by omega⟩) ?_
 rw [br_false]
 exact bak_two p1
def sp_f7 : Ent := spec (.pr (.sl tI) (.pr .str .nil)) (fun x => true) (fun x => (.t .bool (bakT x.1 x.2.1)))
theorem ms_f7 : Meets Tryd.prog 7 (strip sp_f7) := by
 obtain ⟨c, hc, hi⟩ := Option.map_eq_some_iff.1 ok_f7
 exact meets_spec (R := runF g_f7 tc_f7 rv_f7 false) (meets_of (by decide) Tryd.func7 hc hi Tryd.ntmps7 rok_f7 gk_f7 lk_f7 mixed) fun x _ => (e_f7 x.1 x.2.1).trans (s_f7 x.1 x.2.1)
theorem walkSettingsBack (z0 : (List Int)) (z1 : ByteArray) (W : World) (v0 : Value) (v1 : Value) (c0 : C noX W (fun _ => .no) (V.t (.sl tI) z0).d v0) (c1 : C noX W (fun _ => .no) (V.t .str z1).d v1) (w0 : Ty.wf (.sl tI) z0) (w1 : Ty.wf .str z1) :
  Calls Tryd.prog 7 #[v0, v1] W fun r w' => r = .returned (.bool true) ∧ Below W.heap.size W w' :=
 calls_true (by decide) ms_f7 (args := [.t (.sl tI) z0, .t .str z1]) (strip_spec (x := (z0, z1, ())) rfl (rfl)) (by simp only [V.ds, Cs]; exact ⟨_, _, rfl, c0, _, _, rfl, c1, rfl⟩)
end
end Go.Proofs.YtkkoedniahnneaaDoor.K
