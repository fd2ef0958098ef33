/-
 Printing as a word: the answer's and the program's.
-/
import Derived.Test.YtkkoedniahnneaaDoorA25
set_option linter.unusedSimpArgs false
set_option linter.unusedVariables false
namespace Go.Proofs.YtkkoedniahnneaaDoor.K
open Go.RowKit
noncomputable section
def sp_f26 : Ent := spec (.pr (.sl tySetting) .nil) (fun x => (prOk x.1)) (fun x => (.tu [(.t .str ((prnF x.1).1)), (.t tI ((prnF x.1).2))]))
theorem en_f26 : Entered Tryd.prog 26 := .inr ⟨by decide, _, Tryd.func26, by kernel_rfl, by kernel_rfl⟩
theorem ms_f26 : Meets Tryd.prog 26 (strip sp_f26) := by
 unfold sp_f26
 refine meets_calls (fun x hok X w σ vs hfin hc => ?_)
 obtain ⟨l, u⟩ := x
 have hc : Cs X w σ [(V.t (.sl tySetting) l).d] vs := hc
 simp only [Cs] at hc
 obtain ⟨v1, r1, rfl, c1, rfl⟩ := hc
 obtain ⟨A, c, rfl, hL⟩ := set_at c1
 refine (print_any A c l w hL hok).mono ?_
 rintro e w' ⟨rfl, hb⟩
 refine ⟨_, rfl, ?_, hb⟩
 show C X w' σ (.tu [.v (.string (prnF l).1), .v (.int .i64 (prnF l).2)]) _
 simp only [C, Cs]
 exact ⟨_, rfl, _, _, rfl, ⟨rfl, rfl⟩, _, _, rfl, ⟨rfl, rfl⟩, rfl⟩
def dr_f27_0 : List DO := [(.mk (oV 65 6) []), (.mk (oV 66 0) []), (.mk (oV 67 8) []), (.mk (oP 68 (.ix 4 (.t 66) (.t 67))) [1, 2]), (.mk (oP 69 (.fa 1 (.t 68))) [3]), (.mk (oL 70 69) [4]), (.mk (oP 71 (.bin false .add (.t 65) (.t 70))) [0, 5]), (.mk (oP 72 (.bin false .add (.t 71) (.c (.v (.string (ByteArray.mk #[32, 61, 32])))))) [6]), (.mk (oV 73 0) []), (.mk (oV 74 8) []), (.mk (oP 75 (.ix 4 (.t 73) (.t 74))) [8, 9]), (.mk (oP 76 (.fa 2 (.t 75))) [10]), (.mk (oL 77 76) [11]), (.mk (oP 78 (.bin false .add (.t 72) (.t 77))) [7, 12]), (.mk (oP 79 (.bin false .add (.t 78) (.c (.v (.string (ByteArray.mk #[10])))))) [13]), (.mk (oV 6 79) [14, 0, 1, 2, 3, 4, 5, 6, 7, 8, 9, 10, 11, 12, 13, 14])]
def fg_f27_0 : Fg := ⟨[(0, some (.sl tySetting)), (4, some tI)], []⟩
def tb_f27_0 : TC := (.sq (.sq (.reg [(oV 9 4), (oV 10 0), (oP 11 (.len false (.t 10))), (oP 12 (.bin false .lss (.t 9) (.t 11)))]) (.cd (.t 12) .sk (.fg ⟨[(0, some (.sl tySetting))], []⟩ (.ex 0)))) (.sq (.bk 1 (.sq (.reg [(oV 15 0), (oV 16 4), (oP 17 (.ix 4 (.t 15) (.t 16))), (oM 18 (.ld true 4 (.t 17))), (oC 19 62 [(.t 18)]), (oP 20 (.nt (.t 19)))]) (.cd (.t 20) (.sq (.reg [(oP 2 (.mv (.c (.v (.string (ByteArray.mk #[])))))), (oP 3 (.mv (cI 1)))]) (.fg ⟨[(2, some .str), (3, some tI)], []⟩ .rt)) .sk))) (.reg [(oV 13 4), (oP 14 (.bin false .add (.t 13) (cI 1))), (oV 4 14)])))
def fg_f27_1 : Fg := ⟨[(0, some (.sl tySetting)), (5, some tI)], []⟩
def tb_f27_1 : TC := (.sq (.sq (.reg [(oV 21 5), (oV 22 0), (oP 23 (.len false (.t 22))), (oP 24 (.bin false .lss (.t 21) (.t 23)))]) (.cd (.t 24) .sk (.fg ⟨[(0, some (.sl tySetting))], []⟩ (.ex 2)))) (.sq (.bk 3 (.sq (.reg [(oV 27 0), (oV 28 5), (oP 29 (.ix 4 (.t 27) (.t 28))), (oP 30 (.fa 0 (.t 29))), (oL 31 30), (oP 32 (.bin false .eql (.t 31) (.c (.v (.string (ByteArray.mk #[])))))), (oV 33 32), (oQ 34 33 true (.mv (.t 0))), (oQ 35 33 true (.mv (.t 5))), (oQ 36 33 true (.bin false .sub (.t 35) (cI 1))), (oQ 37 33 true (.ix 4 (.t 34) (.t 36))), (oQ 38 33 true (.fa 0 (.t 37))), (oG 39 33 true (.m (.ld false 1 (.t 38)))), (oQ 40 33 true (.bin false .neq (.t 39) (.c (.v (.string (ByteArray.mk #[])))))), (oP 41 (.pick (.t 33) (.t 40) (cB false)))]) (.cd (.t 41) (.sq (.reg [(oP 2 (.mv (.c (.v (.string (ByteArray.mk #[])))))), (oP 3 (.mv (cI 6)))]) (.fg ⟨[(2, some .str), (3, some tI)], []⟩ .rt)) .sk))) (.reg [(oV 25 5), (oP 26 (.bin false .add (.t 25) (cI 1))), (oV 5 26)])))
def fg_f27_2 : Fg := ⟨[(0, some (.sl tySetting)), (6, some .str), (7, some .str), (8, some tI)], []⟩
def tb_f27_2 : TC := (.sq (.sq (.reg [(oV 42 8), (oV 43 0), (oP 44 (.len false (.t 43))), (oP 45 (.bin false .lss (.t 42) (.t 44)))]) (.cd (.t 45) .sk (.fg ⟨[(6, some .str)], []⟩ (.ex 4)))) (.sq (.bk 5 (.sq (.sq (.reg [(oV 48 0), (oV 49 8), (oP 50 (.ix 4 (.t 48) (.t 49))), (oP 51 (.fa 0 (.t 50))), (oL 52 51), (oV 53 7), (oP 54 (.bin false .neq (.t 52) (.t 53)))]) (.cd (.t 54) (.sq (.reg [(oV 55 0), (oV 56 8), (oP 57 (.ix 4 (.t 55) (.t 56))), (oP 58 (.fa 0 (.t 57))), (oL 59 58), (oV 7 59)]) (.reg [(oV 60 6), (oP 61 (.bin false .add (.t 60) (.c (.v (.string (ByteArray.mk #[91])))))), (oV 62 7), (oP 63 (.bin false .add (.t 61) (.t 62))), (oP 64 (.bin false .add (.t 63) (.c (.v (.string (ByteArray.mk #[93, 10])))))), (oV 6 64)])) .sk)) (.sq (.dr dr_f27_0 [(0, []), (1, []), (2, []), (3, []), (4, []), (5, []), (6, []), (7, []), (8, []), (9, []), (10, []), (11, []), (12, []), (13, []), (14, []), (15, [])] (.of [0, 1, 2, 3, 4, 5, 6, 7, 8, 9, 10, 11, 12, 13, 14, 15])) (.sq (.reg [(oV 80 6), (oP 81 (.len true (.t 80))), (oP 82 (.bin false .gtr (.t 81) (cI 8192)))]) (.cd (.t 82) (.sq (.reg [(oP 2 (.mv (.c (.v (.string (ByteArray.mk #[])))))), (oP 3 (.mv (cI 3)))]) (.fg ⟨[(2, some .str), (3, some tI)], []⟩ .rt)) .sk))))) (.reg [(oV 46 8), (oP 47 (.bin false .add (.t 46) (cI 1))), (oV 8 47)])))
def tc_f27 : TC := (.sq (.reg [(oP 2 (.mv (.c (.v (.string (ByteArray.mk #[])))))), (oP 3 (.mv (cI 0)))]) (.sq (.sq (.reg [(oP 4 (.mv (cI 0)))]) (.bk 0 (.lp 0 fg_f27_0 tb_f27_0))) (.sq (.sq (.reg [(oP 5 (.mv (cI 1)))]) (.bk 2 (.lp 1 fg_f27_1 tb_f27_1))) (.sq (.reg [(oP 6 (.mv (.c (.v (.string (ByteArray.mk #[])))))), (oP 7 (.mv (.c (.v (.string (ByteArray.mk #[]))))))]) (.sq (.sq (.reg [(oP 8 (.mv (cI 0)))]) (.bk 4 (.lp 2 fg_f27_2 tb_f27_2))) (.sq (.sq (.reg [(oV 83 6), (oC 84 58 [(.t 83)]), (oP 85 (.bin false .gtr (.t 84) (cI 200)))]) (.cd (.t 85) (.sq (.reg [(oP 2 (.mv (.c (.v (.string (ByteArray.mk #[])))))), (oP 3 (.mv (cI 3)))]) .rt) .sk)) (.sq (.reg [(oV 86 6), (oV 2 86), (oP 3 (.mv (cI 0)))]) .rt)))))))
def rv_f27 : List (RV × Option Ty) := [((.t 2), some .str), ((.t 3), some tI)]
abbrev sh_f27_0 : Sh := ⟨[(0, .ty (.sl tySetting)), (4, .ty tI)], []⟩
def st_f27_0 (x0 : (List Setting)) (x4 : Int) : VS := sh_f27_0.st (x0, x4, ()) ()
abbrev sh_f27_0_ret : Sh := ⟨[(2, .ty .str), (3, .ty tI)], []⟩
def st_f27_0_ret (x2 : ByteArray) (x3 : Int) : VS := sh_f27_0_ret.st (x2, x3, ()) ()
abbrev sh_f27_0_e0 : Sh := ⟨[(0, .ty (.sl tySetting))], []⟩
def st_f27_0_e0 (x0 : (List Setting)) : VS := sh_f27_0_e0.st (x0, ()) ()
-- loop 0: (x0 : (List Setting)) (x4 : Int); out: ('ret',) (x2 : ByteArray) (x3 : Int); ('exit', 0) (x0 : (List Setting))
abbrev sh_f27_1 : Sh := ⟨[(0, .ty (.sl tySetting)), (5, .ty tI)], []⟩
def st_f27_1 (x0 : (List Setting)) (x5 : Int) : VS := sh_f27_1.st (x0, x5, ()) ()
abbrev sh_f27_1_ret : Sh := ⟨[(2, .ty .str), (3, .ty tI)], []⟩
def st_f27_1_ret (x2 : ByteArray) (x3 : Int) : VS := sh_f27_1_ret.st (x2, x3, ()) ()
abbrev sh_f27_1_e2 : Sh := ⟨[(0, .ty (.sl tySetting))], []⟩
def st_f27_1_e2 (x0 : (List Setting)) : VS := sh_f27_1_e2.st (x0, ()) ()
-- loop 1: (x0 : (List Setting)) (x5 : Int); out: ('ret',) (x2 : ByteArray) (x3 : Int); ('exit', 2) (x0 : (List Setting))
abbrev sh_f27_2 : Sh := ⟨[(0, .ty (.sl tySetting)), (6, .ty .str), (7, .ty .str), (8, .ty tI)], []⟩
def st_f27_2 (x0 : (List Setting)) (x6 : ByteArray) (x7 : ByteArray) (x8 : Int) : VS := sh_f27_2.st (x0, x6, x7, x8, ()) ()
abbrev sh_f27_2_ret : Sh := ⟨[(2, .ty .str), (3, .ty tI)], []⟩
def st_f27_2_ret (x2 : ByteArray) (x3 : Int) : VS := sh_f27_2_ret.st (x2, x3, ()) ()
abbrev sh_f27_2_e4 : Sh := ⟨[(6, .ty .str)], []⟩
def st_f27_2_e4 (x6 : ByteArray) : VS := sh_f27_2_e4.st (x6, ()) ()
-- loop 2: (x0 : (List Setting)) (x6 : ByteArray) (x7 : ByteArray) (x8 : Int); out: ('ret',) (x2 : ByteArray) (x3 : Int); ('exit', 4) (x6 : ByteArray)
def L_f27_0 : VS → Option (Bool × List (Bool × Exit × VS)) := mkL sh_f27_0 (fun x y => (prOk x.1 && decide (0 ≤ x.2.1 ∧ x.2.1 ≤ x.1.length))) (fun x y => [((!(x.1.drop x.2.1.toNat).all rgtB), .ret, st_f27_0_ret (eB) (1)), (true, .exit 0, st_f27_0_e0 (x.1))])
def L_f27_1 : VS → Option (Bool × List (Bool × Exit × VS)) := mkL sh_f27_1 (fun x y => (prOk x.1 && decide (1 ≤ x.2.1 ∧ x.2.1 ≤ x.1.length + 1))) (fun x y => [((!ordB ((x.1[x.2.1.toNat - 1]?.getD (Ty.zero tySetting)).1) (x.1.drop x.2.1.toNat)), .ret, st_f27_1_ret (eB) (6)), (true, .exit 2, st_f27_1_e2 (x.1))])
def L_f27_2 : VS → Option (Bool × List (Bool × Exit × VS)) := mkL sh_f27_2 (fun x y => (prOk x.1 && decide (0 ≤ x.2.2.2.1 ∧ x.2.2.2.1 ≤ x.1.length ∧ x.2.1.size ≤ 8192))) (fun x y => [((decide (8192 < x.2.1.size + (prL x.2.2.1 (x.1.drop x.2.2.2.1.toNat)).length)), .ret, st_f27_2_ret (eB) (3)), (true, .exit 4, st_f27_2_e4 (mkB (bl x.2.1 ++ prL x.2.2.1 (x.1.drop x.2.2.2.1.toNat))))])
def g_f27 : G := ⟨TYs, [], 87, EL [(58, sp_f58), (62, sp_f62)], keeps, (Ls [L_f27_0, L_f27_1, L_f27_2]), IL [], RL []⟩
def b_f27_0 (x0 : (List Setting)) (x4 : Int) : Option (Exit × VS) :=
 br ((ilt x4 (llen x0)))
  (br (cIx x0 x4)
   (br ((rgtOk (lgt tySetting x0 (Int.toNat x4))))
    (br ((!(rgtB (lgt tySetting x0 (Int.toNat x4)))))
     (some (.ret, st_f27_0_ret (ByteArray.mk #[]) 1))
     (some (.normal, st_f27_0 x0 (iadd .i64 x4 1))))
    (none))
   (none))
  (some (.exit 0, st_f27_0_e0 x0))
noncomputable def lp_f27_0 (x0 : (List Setting)) (x4 : Int) : Option (Exit × VS) := loopF (roundF g_f27 fg_f27_0 tb_f27_0) (st_f27_0 x0 x4)
noncomputable def n_f27_0 (x0 : (List Setting)) (x4 : Int) : Option (Exit × VS) :=
 br ((ilt x4 (llen x0)))
  (br (cIx x0 x4)
   (br ((rgtOk (lgt tySetting x0 (Int.toNat x4))))
    (br ((!(rgtB (lgt tySetting x0 (Int.toNat x4)))))
     (some (.ret, st_f27_0_ret (ByteArray.mk #[]) 1))
     (lp_f27_0 x0 (iadd .i64 x4 1)))
    (none))
   (none))
  (some (.exit 0, st_f27_0_e0 x0))
def la_f27_0 (x0 : (List Setting)) (x4 : Int) : Option (Exit × VS) := br (!(x0.drop x4.toNat).all rgtB) (some (.ret, st_f27_0_ret (eB) (1))) <| some (.exit 0, st_f27_0_e0 (x0))
theorem be_f27_0 (x0 : (List Setting)) (x4 : Int) : roundF g_f27 fg_f27_0 tb_f27_0 (st_f27_0 x0 x4) = b_f27_0 x0 x4 := by kernel_rfl
theorem ln_f27_0 (x0 : (List Setting)) (x4 : Int) : lp_f27_0 x0 x4 = n_f27_0 x0 x4 := (loopF_nxt _ _).trans (by
 rw [be_f27_0]
 simp only [b_f27_0, n_f27_0, nxt_br, nxt_n, nxt_r, nxt_e, nxt_0]
 rfl)
def b_f27_1 (x0 : (List Setting)) (x5 : Int) : Option (Exit × VS) :=
 br ((ilt x5 (llen x0)))
  (br (cIx x0 x5)
   (br ((seq ((lgt tySetting x0 (Int.toNat x5)).1) (ByteArray.mk #[])))
    (br (cIx x0 (isub .i64 x5 1))
     (br ((sne ((lgt tySetting x0 (Int.toNat (isub .i64 x5 1))).1) (ByteArray.mk #[])))
      (some (.ret, st_f27_1_ret (ByteArray.mk #[]) 6))
      (some (.normal, st_f27_1 x0 (iadd .i64 x5 1))))
     (none))
    (some (.normal, st_f27_1 x0 (iadd .i64 x5 1))))
   (none))
  (some (.exit 2, st_f27_1_e2 x0))
noncomputable def lp_f27_1 (x0 : (List Setting)) (x5 : Int) : Option (Exit × VS) := loopF (roundF g_f27 fg_f27_1 tb_f27_1) (st_f27_1 x0 x5)
noncomputable def n_f27_1 (x0 : (List Setting)) (x5 : Int) : Option (Exit × VS) :=
 br ((ilt x5 (llen x0)))
  (br (cIx x0 x5)
   (br ((seq ((lgt tySetting x0 (Int.toNat x5)).1) (ByteArray.mk #[])))
    (br (cIx x0 (isub .i64 x5 1))
     (br ((sne ((lgt tySetting x0 (Int.toNat (isub .i64 x5 1))).1) (ByteArray.mk #[])))
      (some (.ret, st_f27_1_ret (ByteArray.mk #[]) 6))
      (lp_f27_1 x0 (iadd .i64 x5 1)))
     (none))
    (lp_f27_1 x0 (iadd .i64 x5 1)))
   (none))
  (some (.exit 2, st_f27_1_e2 x0))
def la_f27_1 (x0 : (List Setting)) (x5 : Int) : Option (Exit × VS) := br (!ordB ((x0[x5.toNat - 1]?.getD (Ty.zero tySetting)).1) (x0.drop x5.toNat)) (some (.ret, st_f27_1_ret (eB) (6))) <| some (.exit 2, st_f27_1_e2 (x0))
theorem be_f27_1 (x0 : (List Setting)) (x5 : Int) : roundF g_f27 fg_f27_1 tb_f27_1 (st_f27_1 x0 x5) = b_f27_1 x0 x5 := by kernel_rfl
theorem ln_f27_1 (x0 : (List Setting)) (x5 : Int) : lp_f27_1 x0 x5 = n_f27_1 x0 x5 := (loopF_nxt _ _).trans (by
 rw [be_f27_1]
 simp only [b_f27_1, n_f27_1, nxt_br, nxt_n, nxt_r, nxt_e, nxt_0]
 rfl)
def b_f27_2 (x0 : (List Setting)) (x6 : ByteArray) (x7 : ByteArray) (x8 : Int) : Option (Exit × VS) :=
 br ((ilt x8 (llen x0)))
  (br (cIx x0 x8)
   (br ((sne ((lgt tySetting x0 (Int.toNat x8)).1) x7))
    (br (cIx x0 x8)
     (br (cCat x6 (ByteArray.mk #[91]))
      (br (cCat (scat x6 (ByteArray.mk #[91])) ((lgt tySetting x0 (Int.toNat x8)).1))
       (br (cCat (scat (scat x6 (ByteArray.mk #[91])) ((lgt tySetting x0 (Int.toNat x8)).1)) (ByteArray.mk #[93, 10]))
        (br (cIx x0 x8)
         (br (cCat (scat (scat (scat x6 (ByteArray.mk #[91])) ((lgt tySetting x0 (Int.toNat x8)).1)) (ByteArray.mk #[93, 10])) (((lgt tySetting x0 (Int.toNat x8)).2).1))
          (br (cCat (scat (scat (scat (scat x6 (ByteArray.mk #[91])) ((lgt tySetting x0 (Int.toNat x8)).1)) (ByteArray.mk #[93, 10])) (((lgt tySetting x0 (Int.toNat x8)).2).1)) (ByteArray.mk #[32, 61, 32]))
           (br (cIx x0 x8)
            (br (cCat (scat (scat (scat (scat (scat x6 (ByteArray.mk #[91])) ((lgt tySetting x0 (Int.toNat x8)).1)) (ByteArray.mk #[93, 10])) (((lgt tySetting x0 (Int.toNat x8)).2).1)) (ByteArray.mk #[32, 61, 32])) ((((lgt tySetting x0 (Int.toNat x8)).2).2).1))
             (br (cCat (scat (scat (scat (scat (scat (scat x6 (ByteArray.mk #[91])) ((lgt tySetting x0 (Int.toNat x8)).1)) (ByteArray.mk #[93, 10])) (((lgt tySetting x0 (Int.toNat x8)).2).1)) (ByteArray.mk #[32, 61, 32])) ((((lgt tySetting x0 (Int.toNat x8)).2).2).1)) (ByteArray.mk #[10]))
              (br ((igt (slen (scat (scat (scat (scat (scat (scat (scat x6 (ByteArray.mk #[91])) ((lgt tySetting x0 (Int.toNat x8)).1)) (ByteArray.mk #[93, 10])) (((lgt tySetting x0 (Int.toNat x8)).2).1)) (ByteArray.mk #[32, 61, 32])) ((((lgt tySetting x0 (Int.toNat x8)).2).2).1)) (ByteArray.mk #[10]))) 8192))
               (some (.ret, st_f27_2_ret (ByteArray.mk #[]) 3))
               (some (.normal, st_f27_2 x0 (scat (scat (scat (scat (scat (scat (scat x6 (ByteArray.mk #[91])) ((lgt tySetting x0 (Int.toNat x8)).1)) (ByteArray.mk #[93, 10])) (((lgt tySetting x0 (Int.toNat x8)).2).1)) (ByteArray.mk #[32, 61, 32])) ((((lgt tySetting x0 (Int.toNat x8)).2).2).1)) (ByteArray.mk #[10])) ((lgt tySetting x0 (Int.toNat x8)).1) (iadd .i64 x8 1))))
              (none))
             (none))
            (none))
           (none))
          (none))
         (none))
        (none))
       (none))
      (none))
     (none))
    (br (cIx x0 x8)
     (br (cCat x6 (((lgt tySetting x0 (Int.toNat x8)).2).1))
      (br (cCat (scat x6 (((lgt tySetting x0 (Int.toNat x8)).2).1)) (ByteArray.mk #[32, 61, 32]))
       (br (cIx x0 x8)
        (br (cCat (scat (scat x6 (((lgt tySetting x0 (Int.toNat x8)).2).1)) (ByteArray.mk #[32, 61, 32])) ((((lgt tySetting x0 (Int.toNat x8)).2).2).1))
         (br (cCat (scat (scat (scat x6 (((lgt tySetting x0 (Int.toNat x8)).2).1)) (ByteArray.mk #[32, 61, 32])) ((((lgt tySetting x0 (Int.toNat x8)).2).2).1)) (ByteArray.mk #[10]))
          (br ((igt (slen (scat (scat (scat (scat x6 (((lgt tySetting x0 (Int.toNat x8)).2).1)) (ByteArray.mk #[32, 61, 32])) ((((lgt tySetting x0 (Int.toNat x8)).2).2).1)) (ByteArray.mk #[10]))) 8192))
           (some (.ret, st_f27_2_ret (ByteArray.mk #[]) 3))
           (some (.normal, st_f27_2 x0 (scat (scat (scat (scat x6 (((lgt tySetting x0 (Int.toNat x8)).2).1)) (ByteArray.mk #[32, 61, 32])) ((((lgt tySetting x0 (Int.toNat x8)).2).2).1)) (ByteArray.mk #[10])) x7 (iadd .i64 x8 1))))
          (none))
         (none))
        (none))
       (none))
      (none))
     (none)))
   (none))
  (some (.exit 4, st_f27_2_e4 x6))
noncomputable def lp_f27_2 (x0 : (List Setting)) (x6 : ByteArray) (x7 : ByteArray) (x8 : Int) : Option (Exit × VS) := loopF (roundF g_f27 fg_f27_2 tb_f27_2) (st_f27_2 x0 x6 x7 x8)
noncomputable def n_f27_2 (x0 : (List Setting)) (x6 : ByteArray) (x7 : ByteArray) (x8 : Int) : Option (Exit × VS) :=
 br ((ilt x8 (llen x0)))
  (br (cIx x0 x8)
   (br ((sne ((lgt tySetting x0 (Int.toNat x8)).1) x7))
    (br (cIx x0 x8)
     (br (cCat x6 (ByteArray.mk #[91]))
      (br (cCat (scat x6 (ByteArray.mk #[91])) ((lgt tySetting x0 (Int.toNat x8)).1))
       (br (cCat (scat (scat x6 (ByteArray.mk #[91])) ((lgt tySetting x0 (Int.toNat x8)).1)) (ByteArray.mk #[93, 10]))
        (br (cIx x0 x8)
         (br (cCat (scat (scat (scat x6 (ByteArray.mk #[91])) ((lgt tySetting x0 (Int.toNat x8)).1)) (ByteArray.mk #[93, 10])) (((lgt tySetting x0 (Int.toNat x8)).2).1))
          (br (cCat (scat (scat (scat (scat x6 (ByteArray.mk #[91])) ((lgt tySetting x0 (Int.toNat x8)).1)) (ByteArray.mk #[93, 10])) (((lgt tySetting x0 (Int.toNat x8)).2).1)) (ByteArray.mk #[32, 61, 32]))
           (br (cIx x0 x8)
            (br (cCat (scat (scat (scat (scat (scat x6 (ByteArray.mk #[91])) ((lgt tySetting x0 (Int.toNat x8)).1)) (ByteArray.mk #[93, 10])) (((lgt tySetting x0 (Int.toNat x8)).2).1)) (ByteArray.mk #[32, 61, 32])) ((((lgt tySetting x0 (Int.toNat x8)).2).2).1))
             (br (cCat (scat (scat (scat (scat (scat (scat x6 (ByteArray.mk #[91])) ((lgt tySetting x0 (Int.toNat x8)).1)) (ByteArray.mk #[93, 10])) (((lgt tySetting x0 (Int.toNat x8)).2).1)) (ByteArray.mk #[32, 61, 32])) ((((lgt tySetting x0 (Int.toNat x8)).2).2).1)) (ByteArray.mk #[10]))
              (br ((igt (slen (scat (scat (scat (scat (scat (scat (scat x6 (ByteArray.mk #[91])) ((lgt tySetting x0 (Int.toNat x8)).1)) (ByteArray.mk #[93, 10])) (((lgt tySetting x0 (Int.toNat x8)).2).1)) (ByteArray.mk #[32, 61, 32])) ((((lgt tySetting x0 (Int.toNat x8)).2).2).1)) (ByteArray.mk #[10]))) 8192))
               (some (.ret, st_f27_2_ret (ByteArray.mk #[]) 3))
               (lp_f27_2 x0 (scat (scat (scat (scat (scat (scat (scat x6 (ByteArray.mk #[91])) ((lgt tySetting x0 (Int.toNat x8)).1)) (ByteArray.mk #[93, 10])) (((lgt tySetting x0 (Int.toNat x8)).2).1)) (ByteArray.mk #[32, 61, 32])) ((((lgt tySetting x0 (Int.toNat x8)).2).2).1)) (ByteArray.mk #[10])) ((lgt tySetting x0 (Int.toNat x8)).1) (iadd .i64 x8 1)))
              (none))
             (none))
            (none))
           (none))
          (none))
         (none))
        (none))
       (none))
      (none))
     (none))
    (br (cIx x0 x8)
     (br (cCat x6 (((lgt tySetting x0 (Int.toNat x8)).2).1))
      (br (cCat (scat x6 (((lgt tySetting x0 (Int.toNat x8)).2).1)) (ByteArray.mk #[32, 61, 32]))
       (br (cIx x0 x8)
        (br (cCat (scat (scat x6 (((lgt tySetting x0 (Int.toNat x8)).2).1)) (ByteArray.mk #[32, 61, 32])) ((((lgt tySetting x0 (Int.toNat x8)).2).2).1))
         (br (cCat (scat (scat (scat x6 (((lgt tySetting x0 (Int.toNat x8)).2).1)) (ByteArray.mk #[32, 61, 32])) ((((lgt tySetting x0 (Int.toNat x8)).2).2).1)) (ByteArray.mk #[10]))
          (br ((igt (slen (scat (scat (scat (scat x6 (((lgt tySetting x0 (Int.toNat x8)).2).1)) (ByteArray.mk #[32, 61, 32])) ((((lgt tySetting x0 (Int.toNat x8)).2).2).1)) (ByteArray.mk #[10]))) 8192))
           (some (.ret, st_f27_2_ret (ByteArray.mk #[]) 3))
           (lp_f27_2 x0 (scat (scat (scat (scat x6 (((lgt tySetting x0 (Int.toNat x8)).2).1)) (ByteArray.mk #[32, 61, 32])) ((((lgt tySetting x0 (Int.toNat x8)).2).2).1)) (ByteArray.mk #[10])) x7 (iadd .i64 x8 1)))
          (none))
         (none))
        (none))
       (none))
      (none))
     (none)))
   (none))
  (some (.exit 4, st_f27_2_e4 x6))
def la_f27_2 (x0 : (List Setting)) (x6 : ByteArray) (x7 : ByteArray) (x8 : Int) : Option (Exit × VS) := br (decide (8192 < x6.size + (prL x7 (x0.drop x8.toNat)).length)) (some (.ret, st_f27_2_ret (eB) (3))) <| some (.exit 4, st_f27_2_e4 (mkB (bl x6 ++ prL x7 (x0.drop x8.toNat))))
theorem be_f27_2 (x0 : (List Setting)) (x6 : ByteArray) (x7 : ByteArray) (x8 : Int) : roundF g_f27 fg_f27_2 tb_f27_2 (st_f27_2 x0 x6 x7 x8) = b_f27_2 x0 x6 x7 x8 := by kernel_rfl
theorem ln_f27_2 (x0 : (List Setting)) (x6 : ByteArray) (x7 : ByteArray) (x8 : Int) : lp_f27_2 x0 x6 x7 x8 = n_f27_2 x0 x6 x7 x8 := (loopF_nxt _ _).trans (by
 rw [be_f27_2]
 simp only [b_f27_2, n_f27_2, nxt_br, nxt_n, nxt_r, nxt_e, nxt_0]
 rfl)
def r_f27 (p0 : (List Setting)) : Option (V × List VO) :=
 br ((prOk p0 && decide (0 ≤ (0 : Int) ∧ (0 : Int) ≤ p0.length)))
  (br ((!(p0.drop (0 : Int).toNat).all rgtB))
   (some (.tu [(.t .str (eB)), (.t tI (1))], []))
   (br ((prOk (p0) && decide (1 ≤ (1 : Int) ∧ (1 : Int) ≤ (p0).length + 1)))
    (br ((!ordB (((p0)[(1 : Int).toNat - 1]?.getD (Ty.zero tySetting)).1) ((p0).drop (1 : Int).toNat)))
     (some (.tu [(.t .str (eB)), (.t tI (6))], []))
     (br ((prOk ((p0)) && decide (0 ≤ (0 : Int) ∧ (0 : Int) ≤ ((p0)).length ∧ (ByteArray.mk #[]).size ≤ 8192)))
      (br ((decide (8192 < (ByteArray.mk #[]).size + (prL (ByteArray.mk #[]) (((p0)).drop (0 : Int).toNat)).length)))
       (some (.tu [(.t .str (eB)), (.t tI (3))], []))
       (br ((nameG (mkB (bl (ByteArray.mk #[]) ++ prL (ByteArray.mk #[]) (((p0)).drop (0 : Int).toNat)))))
        (br ((igt (endN (mkB (bl (ByteArray.mk #[]) ++ prL (ByteArray.mk #[]) (((p0)).drop (0 : Int).toNat)))) 200))
         (some (.tu [(.t .str (ByteArray.mk #[])), (.t tI 3)], []))
         (some (.tu [(.t .str (mkB (bl (ByteArray.mk #[]) ++ prL (ByteArray.mk #[]) (((p0)).drop (0 : Int).toNat)))), (.t tI 0)], [])))
        (none)))
      (none)))
    (none)))
  (none)
theorem e_f27 (p0 : (List Setting)) : runF g_f27 tc_f27 rv_f27 false [.t (.sl tySetting) p0] [] = r_f27 p0 := by kernel_rfl
theorem ok_f27 : Option.map (trC Tryd.prog) Tryd.f27.body = some tc_f27.er := by kernel_rfl
theorem rok_f27 : trVs Tryd.prog Tryd.f27.results.toList = some (rv_f27.map Prod.fst) := by kernel_rfl
theorem en_f27 : Entered Tryd.prog 27 := .inr ⟨by decide, _, Tryd.func27, by kernel_rfl, by kernel_rfl⟩
theorem gk_f27 : GOk Tryd.prog g_f27 := gok_of _ (by
 intro p hp
 simp only [List.mem_cons, List.not_mem_nil, or_false] at hp
 rcases hp with rfl | rfl
 ·exact ⟨en_f58, ms_f58⟩
 ·exact ⟨en_f62, ms_f62⟩)
theorem prOk_at {l : List Setting} (h : prOk l = true) {x : Setting} (hx : x ∈ l) : szOk x = true := List.all_eq_true.1 (Bool.and_eq_true_iff.1 h).2 x hx
theorem prOk_len {l : List Setting} (h : prOk l = true) : l.length ≤ 1000 := of_decide_eq_true (Bool.and_eq_true_iff.1 h).1
theorem l_f27_0 (x0 : (List Setting)) (x4 : Int) (h : (prOk x0 && decide (0 ≤ x4 ∧ x4 ≤ x0.length)) = true) : lp_f27_0 x0 x4 = la_f27_0 x0 x4 := by
 obtain ⟨h0, hh⟩ := Bool.and_eq_true_iff.1 h
 obtain ⟨h1, h2⟩ := of_decide_eq_true hh
 clear h hh
 have hn := prOk_len h0
 obtain ⟨k, rfl⟩ := Int.eq_ofNat_of_zero_le h1
 refine range_ind x0 (fun k => lp_f27_0 x0 (k : Int) = la_f27_0 x0 (k : Int)) ?_ ?_ k (by omega)
 ·rw [ln_f27_0]
  simp only [n_f27_0, la_f27_0, ilt_nat, llen, Nat.lt_irrefl, decide_false, br_false, Int.toNat_natCast, List.drop_length, List.all_nil, Bool.not_true]
 ·intro k hk ih
  rw [ln_f27_0]
  have hr := sz_rgt (prOk_at h0 (List.getElem_mem hk))
  simp only [n_f27_0, ilt_nat, llen, cIx_nat, hk, decide_true, br_true, Int.toNat_natCast, lgt_get (y := tySetting) hk, hr, add1 (show k < 4611686018427387904 by omega), ih, la_f27_0, List.drop_eq_getElem_cons hk, List.all_cons]
  cases rgtB x0[k] <;> rfl
theorem ord_tree {β : Type} (a b c : Bool) (L R : Option β) : br a (br (!b) L (br (!c) L R)) (br (!c) L R) = br (!(!(a && !b) && c)) L R := by cases a <;> cases b <;> cases c <;> rfl
theorem l_f27_1 (x0 : (List Setting)) (x5 : Int) (h : (prOk x0 && decide (1 ≤ x5 ∧ x5 ≤ x0.length + 1)) = true) : lp_f27_1 x0 x5 = la_f27_1 x0 x5 := by
 obtain ⟨h0, hh⟩ := Bool.and_eq_true_iff.1 h
 obtain ⟨h1, h2⟩ := of_decide_eq_true hh
 clear h hh
 have hn := prOk_len h0
 obtain ⟨k, rfl⟩ := Int.eq_ofNat_of_zero_le (Int.le_trans (by decide) h1)
 by_cases hl : k = x0.length + 1
 ·subst hl
  rw [ln_f27_1]
  have e : ilt ((x0.length + 1 : Nat) : Int) (llen x0) = false := decide_eq_false (by simp only [llen]; omega)
  simp only [n_f27_1, la_f27_1, e, br_false, Int.toNat_natCast, List.drop_eq_nil_of_le (show x0.length ≤ x0.length + 1 by omega), ordB, Bool.not_true]
 refine range_ind x0 (fun k => 1 ≤ k → lp_f27_1 x0 (k : Int) = la_f27_1 x0 (k : Int)) ?_ ?_ k (by omega) (by omega)
 ·intro _
  rw [ln_f27_1]
  simp only [n_f27_1, la_f27_1, ilt_nat, llen, Nat.lt_irrefl, decide_false, br_false, Int.toNat_natCast, List.drop_length, ordB, Bool.not_true]
 ·intro k hk ih h1
  rw [ln_f27_1]
  have ih := ih (by omega)
  have hk1 : k - 1 < x0.length := by omega
  have e1 : isub .i64 (k : Int) 1 = ((k - 1 : Nat) : Int) := by rw [isub_in (by omega)]; omega
  have ek : x0[k]?.getD (Ty.zero tySetting) = x0[k] := by simp [hk]
  have ek1 : x0[k - 1]?.getD (Ty.zero tySetting) = x0[k - 1] := by simp [hk1]
  simp only [n_f27_1, ilt_nat, llen, cIx_nat, e1, hk, hk1, decide_true, br_true, Int.toNat_natCast, lgt_get (y := tySetting) hk, lgt_get (y := tySetting) hk1, add1 (show k < 4611686018427387904 by omega), ih, la_f27_1, List.drop_eq_getElem_cons hk, ordB, Nat.add_sub_cancel, ek, ek1, sne_seq]
  exact ord_tree _ _ _ _ _
theorem pr_fin {x0 : List Setting} {x6 x7 : ByteArray} {k : Nat} {x : Setting} {q : List UInt8} (hd : x0.drop k = x :: x0.drop (k + 1)) (hq : prL x7 [x] = q)
  (ih : ∀ (x6 x7 : ByteArray), x6.size ≤ 8192 → lp_f27_2 x0 x6 x7 ((k + 1 : Nat) : Int) = la_f27_2 x0 x6 x7 ((k + 1 : Nat) : Int)) {s : ByteArray} (hs : s = mkB (bl x6 ++ q)) :
  br (igt (slen s) 8192) (some (.ret, st_f27_2_ret (ByteArray.mk #[]) 3)) (lp_f27_2 x0 s x.1 ((k + 1 : Nat) : Int)) = la_f27_2 x0 x6 x7 (k : Int) := by
 have e := prL_app [x] (x0.drop (k + 1)) x7
 rw [List.singleton_append, ← hd, hq] at e
 have e2 : secE x7 [x] = x.1 := rfl
 rw [e2] at e
 have hz : s.size = x6.size + q.length := by
  rw [hs, mk_size, List.length_append, bl_len]
 unfold la_f27_2
 rw [Int.toNat_natCast, e, List.length_append]
 by_cases hb : 8192 < s.size
 ·rw [show igt (slen s) 8192 = true from decide_eq_true (by simp only [slen]; omega), br_true, decide_eq_true (by omega), br_true]
 ·rw [show igt (slen s) 8192 = false from decide_eq_false (by simp only [slen]; omega), br_false, ih s x.1 (by omega)]
  unfold la_f27_2
  rw [Int.toNat_natCast]
  have e3 : decide (8192 < s.size + (prL x.1 (x0.drop (k + 1))).length) = decide (8192 < x6.size + (q.length + (prL x.1 (x0.drop (k + 1))).length)) := by
   rw [hz, Nat.add_assoc]
  have e4 : bl s ++ prL x.1 (x0.drop (k + 1)) = bl x6 ++ (q ++ prL x.1 (x0.drop (k + 1))) := by rw [hs, bl_mk, List.append_assoc]
  rw [e3, e4]
theorem l_f27_2 (x0 : (List Setting)) (x6 : ByteArray) (x7 : ByteArray) (x8 : Int) (h : (prOk x0 && decide (0 ≤ x8 ∧ x8 ≤ x0.length ∧ x6.size ≤ 8192)) = true) : lp_f27_2 x0 x6 x7 x8 = la_f27_2 x0 x6 x7 x8 := by
 obtain ⟨h0, hh⟩ := Bool.and_eq_true_iff.1 h
 obtain ⟨h1, h2, h3⟩ := of_decide_eq_true hh
 clear h hh
 have hn := prOk_len h0
 obtain ⟨k, rfl⟩ := Int.eq_ofNat_of_zero_le h1
 clear h1
 refine range_ind x0 (fun k => ∀ x6 x7 : ByteArray, x6.size ≤ 8192 → lp_f27_2 x0 x6 x7 (k : Int) = la_f27_2 x0 x6 x7 (k : Int)) ?_ ?_ k (by omega) x6 x7 h3
 ·intro x6 x7 hz
  rw [ln_f27_2]
  have e0 : prL x7 [] = [] := rfl
  have e : decide (8192 < x6.size) = false := decide_eq_false (by omega)
  simp only [n_f27_2, la_f27_2, ilt_nat, llen, Nat.lt_irrefl, decide_false, br_false, Int.toNat_natCast, List.drop_length, e0, List.append_nil, mk_bl, List.length_nil, Nat.add_zero, e]
 ·intro k hk ih x6 x7 hz
  have hd := List.drop_eq_getElem_cons hk
  obtain ⟨z1, z2, z3⟩ := of_decide_eq_true (prOk_at h0 (List.getElem_mem hk))
  have eg := lgt_get (y := tySetting) hk
  rw [ln_f27_2]
  have e : ilt (k : Int) (llen x0) = true := decide_eq_true (by simp only [llen]; omega)
  have ei : cIx x0 (k : Int) = true := by rw [cIx_nat]; exact decide_eq_true hk
  unfold n_f27_2
  rw [e, ei, Int.toNat_natCast, eg, br_true, br_true, br_true, add1 (show k < 4611686018427387904 by omega)]
  generalize x0[k] = x at hd z1 z2 z3
  have y1 : (ByteArray.mk #[91]).size = 1 := rfl
  have y2 : (ByteArray.mk #[93, 10]).size = 2 := rfl
  have y3 : (ByteArray.mk #[32, 61, 32]).size = 3 := rfl
  have y4 : (ByteArray.mk #[10]).size = 1 := rfl
  have cc : ∀ a b : ByteArray, a.size + b.size ≤ 100000000000 → cCat a b = true := fun a b h => decide_eq_true (by omega)
  cases hq : seq x.1 x7 with
  | true =>
   obtain rfl := seq_iff'.1 hq
   rw [sne_seq, hq, Bool.not_true, br_false]
   refine brY rfl (brY (cc _ _ (by omega)) (brY (cc _ _ (by simp only [scat, ByteArray.size_append]; omega)) (brY rfl (brY (cc _ _ (by simp only [scat, ByteArray.size_append]; omega)) (brY (cc _ _ (by simp only [scat, ByteArray.size_append]; omega)) ?_)))))
   refine pr_fin hd (prL_same hq).1 ih (bl_ext ?_)
   rw [bl_mk]
   unfold stL scat
   simp [bl_app]
  | false =>
   rw [sne_seq, hq, Bool.not_false, br_true]
   refine brY (cc _ _ (by omega)) ?_
   refine brY (cc _ _ (by simp only [scat, ByteArray.size_append]; omega)) ?_
   refine brY (cc _ _ (by simp only [scat, ByteArray.size_append]; omega)) ?_
   refine brY rfl ?_
   refine brY (cc _ _ (by simp only [scat, ByteArray.size_append]; omega)) ?_
   refine brY (cc _ _ (by simp only [scat, ByteArray.size_append]; omega)) ?_
   refine brY rfl ?_
   refine brY (cc _ _ (by simp only [scat, ByteArray.size_append]; omega)) ?_
   refine brY (cc _ _ (by simp only [scat, ByteArray.size_append]; omega)) ?_
   refine pr_fin hd (prL_new hq).1 ih (bl_ext ?_)
   rw [bl_mk]
   unfold stL scL scat
   simp [bl_app]
theorem lo_f27_0 : ∀ S l p, g_f27.L 0 (fgt fg_f27_0 S) = some (true, l) → pickA l = some p → loopF (roundF g_f27 fg_f27_0 tb_f27_0) S = some p :=
 lok_of (s := sh_f27_0) ⟨by decide, by decide⟩ (by kernel_rfl) fun x y hok p hp => by
 simp only [pickA_br, pickA_one] at hp
 exact (l_f27_0 x.1 x.2.1 (by simpa using hok)).trans hp
theorem lo_f27_1 : ∀ S l p, g_f27.L 1 (fgt fg_f27_1 S) = some (true, l) → pickA l = some p → loopF (roundF g_f27 fg_f27_1 tb_f27_1) S = some p :=
 lok_of (s := sh_f27_1) ⟨by decide, by decide⟩ (by kernel_rfl) fun x y hok p hp => by
 simp only [pickA_br, pickA_one] at hp
 exact (l_f27_1 x.1 x.2.1 (by simpa using hok)).trans hp
theorem lo_f27_2 : ∀ S l p, g_f27.L 2 (fgt fg_f27_2 S) = some (true, l) → pickA l = some p → loopF (roundF g_f27 fg_f27_2 tb_f27_2) S = some p :=
 lok_of (s := sh_f27_2) ⟨by decide, by decide⟩ (by kernel_rfl) fun x y hok p hp => by
 simp only [pickA_br, pickA_one] at hp
 exact (l_f27_2 x.1 x.2.1 x.2.2.1 x.2.2.2.1 (by simpa using hok)).trans hp
theorem lk_f27 : tc_f27.lok g_f27 := by
 repeat (first | exact trivial | exact lo_f27_0 | exact lo_f27_1 | exact lo_f27_2 | refine ⟨?_, ?_⟩)
theorem ord_tail (l : List Setting) : ordB eB l = ordB ((l[0]?.getD (Ty.zero tySetting)).1) (l.drop 1) := by
 cases l with
 | nil => rfl
 | cons x r =>
  rw [ordB_cons, seq_eB, Bool.not_true, Bool.and_false, Bool.not_false, Bool.true_and]
  rfl
theorem s_f27 (l : List Setting) (h : prOk l = true) : r_f27 l = some (.tu [.t .str (prnF l).1, .t tI (prnF l).2], []) := by
 have hn := prOk_len h
 have hb := bl_len eB
 unfold prnF
 simp only [r_f27]
 refine brY (by rw [h]; exact decide_eq_true (by omega)) ?_
 rw [Int.toNat_zero, List.drop_zero]
 cases h1 : l.all rgtB with
 | false => rfl
 | true =>
  rw [Bool.not_true, br_false]
  refine brY (by rw [h]; exact decide_eq_true (by omega)) ?_
  rw [show (1 : Int).toNat = 1 from rfl, Nat.sub_self, ← ord_tail]
  cases h2 : ordB eB l with
  | false => rfl
  | true =>
   rw [Bool.not_true, br_false]
   refine brY (Bool.and_eq_true_iff.2 ⟨h, decide_eq_true ⟨by omega, by omega, by show (0 : Nat) ≤ 8192; omega⟩⟩) ?_
   have e0 : bl (ByteArray.mk #[]) ++ prL (ByteArray.mk #[]) l = prL eB l := rfl
   have e1 : (ByteArray.mk #[]).size + (prL (ByteArray.mk #[]) l).length = (prL eB l).length := Nat.zero_add _
   rw [e0, e1, cond_true, cond_true]
   by_cases h3 : (prL eB l).length ≤ 8192
   ·rw [decide_eq_false (show ¬ 8192 < (prL eB l).length by omega), br_false, decide_eq_true h3, Bool.true_and]
    refine brY (decide_eq_true (by rw [mk_size]; omega)) ?_
    have e2 : igt (endN (mkB (prL eB l))) 200 = !decide ((prL eB l).count 10 ≤ 200) := by
     unfold endN
     rw [bl_mk]
     by_cases h4 : (prL eB l).count 10 ≤ 200
     ·rw [decide_eq_true h4]
      exact decide_eq_false (by omega)
     ·rw [decide_eq_false h4]
      exact decide_eq_true (by omega)
    rw [e2]
    cases decide ((prL eB l).count 10 ≤ 200) <;> rfl
   ·rw [decide_eq_true (show 8192 < (prL eB l).length by omega), br_true, decide_eq_false h3]
    rfl
def sp_f27 : Ent := spec (.pr (.sl tySetting) .nil) (fun x => (prOk x.1)) (fun x => (.tu [(.t .str ((prnF x.1).1)), (.t tI ((prnF x.1).2))]))
theorem ms_f27 : Meets Tryd.prog 27 (strip sp_f27) := by
 obtain ⟨c, hc, hi⟩ := Option.map_eq_some_iff.1 ok_f27
 exact meets_spec (R := runF g_f27 tc_f27 rv_f27 false) (meets_of (by decide) Tryd.func27 hc hi Tryd.ntmps27 rok_f27 gk_f27 lk_f27 mixed) fun x hok => (e_f27 x.1).trans (s_f27 x.1 hok)
end
end Go.Proofs.YtkkoedniahnneaaDoor.K
