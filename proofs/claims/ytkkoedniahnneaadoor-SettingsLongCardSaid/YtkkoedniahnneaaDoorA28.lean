/-
 SettingsLong: where the limits of texts are.
-/
import Derived.Test.YtkkoedniahnneaaDoorA29
set_option linter.unusedSimpArgs false
set_option linter.unusedVariables false
namespace Go.Proofs.YtkkoedniahnneaaDoor.K
open Go.RowKit
noncomputable section
def lgW (w : Int) : Int := irem (icv .i64 w) 80
theorem irem_nn {a b : Int} (ha : 0 ≤ a) (hb : 0 < b) : 0 ≤ irem a b ∧ irem a b < b := ⟨Int.tmod_nonneg b ha, Int.tmod_lt_of_pos a hb⟩
theorem icv_in {a : Int} (h : -9223372036854775808 ≤ a ∧ a ≤ 9223372036854775807) : icv .i64 a = a := Go.IntWalk.i64_in _ h
theorem lgW_rng {w : Int} (h : 0 ≤ w ∧ w ≤ 255) : (0 ≤ lgW w ∧ lgW w < 80) ∧ icv .i64 w = w := by
 have e := icv_in (a := w) (by omega)
 unfold lgW
 rw [e]
 exact ⟨irem_nn h.1 (by decide), rfl⟩
def lgV (w k : Int) (v : ByteArray) : ByteArray := mkB (bl v ++ List.replicate (lgW w - k).toNat 120)
def lgP (v : ByteArray) : List UInt8 := [97, 32, 61, 32] ++ (bl v ++ [10])
def lgS (n : Nat) (v s : ByteArray) : ByteArray := mkB (bl s ++ (List.replicate n (lgP v)).flatten)
def lgX (v : ByteArray) : Setting := (eB, (ByteArray.mk #[97], (v, (0, ()))))
def lgL (n : Nat) (v : ByteArray) (l : List Setting) : List Setting := l ++ List.replicate n (lgX v)
def lngT (_ _ : Int) : Bool := true
theorem meets_makeP {t e : Nat} {y : Ty} {z : Value} {k1 k2 : IntKind} (ht : Tryd.prog.underlying t = some (.slice e)) (hi : (Tryd.prog.info? e).map (fun i => (i.zero, i.size, decide (i.bytes ≤ 1000))) = some (some z, 1, true)) (hy : y.sz = 1) (hzc : z.cells = #[z]) (h1 : z.oneCell' = true)
  (hz2 : ∀ X w, Cs X w nowhere (y.cells y.zero) [z]) (hlt : t < 10000) :
  Meets Tryd.prog (bCode 1 t 0) (strip (spec (.pr (.int k1) (.pr (.int k2) .nil)) (fun x => makeOk x.1 x.2.1) (fun x => .t (.sl y) (makeL y x.1 x.2.1)))) := by
 obtain ⟨inf, hi, hq⟩ := Option.map_eq_some_iff.1 hi
 simp only [Prod.mk.injEq, decide_eq_true_eq] at hq
 intro args objs r os hF X w σ vs hfin hl hc
 unfold strip spec at hF
 cases objs with
 | cons o os' => simp at hF
 | nil =>
  simp only at hF
  cases ha' : (Ty.pr (.int k1) (.pr (.int k2) .nil)).args args with
  | none => rw [ha'] at hF; cases hF
  | some x =>
   rw [ha'] at hF
   simp only at hF
   split at hF
   ·rename_i r' os' hq'
    simp only [Option.some.injEq, Prod.mk.injEq] at hF hq'
    obtain ⟨rfl, rfl⟩ := hF
    obtain ⟨hok, rfl, rfl⟩ := hq'
    obtain ⟨u, w', xs, e1, e2, e3, e4, e5, e6⟩ := run_mk ht hi hq.1 hq.2.1 hy hq.2.2 hzc h1 hz2 x.1 x.2.1 hok X w σ vs (canon_cs ha' hc)
    unfold Does
    rw [bCode_1 hlt]
    exact ⟨_, _, e1, _, X, σ, rfl, own_cG e2 (e3 X) e4 hfin, ends_none rfl hfin e6⟩
   ·cases hF
def sp_op_make_28_P : Ent := spec (.pr tI (.pr tI .nil)) (fun x => (makeOk x.1 x.2.1)) (fun x => (.t (.sl (.int .u8)) (makeL (.int .u8) x.1 x.2.1)))
theorem en_op_make_28_P : Entered Tryd.prog 1000449 := .inl (by kernel_rfl)
theorem ms_op_make_28_P : Meets Tryd.prog 1000449 (strip sp_op_make_28_P) := meets_makeP (t := 28) (e := 5) (y := (.int .u8)) (z := .int .u8 0) (by kernel_rfl) (by kernel_rfl) rfl rfl rfl (fun X w => ⟨_, _, rfl, ⟨rfl, rfl⟩, rfl⟩) (by decide)
def lg0 (x1 x9 : Int) (x8 : ByteArray) : Bool := cP (0 ≤ x1 ∧ x1 ≤ 255 ∧ 0 ≤ x9 ∧ x9 ≤ 80 ∧ (x8.size : Int) ≤ x9)
def lg1 (x0 x1 x7 : Int) (x5 : ByteArray) (y6 : List Setting) : Bool := cP ((0 ≤ x0 ∧ x0 ≤ 255 ∧ 0 ≤ x1 ∧ x1 ≤ 255) ∧ 0 ≤ x7 ∧ x7 ≤ x0 ∧ (y6.length : Int) ≤ x7 ∧ (x5.size : Int) ≤ 100 * x7)
def lngOk (a b : Int) : Bool := decide (0 ≤ a ∧ a ≤ 255 ∧ 0 ≤ b ∧ b ≤ 255)
def fg_f6_0 : Fg := ⟨[(0, some (.int .u8)), (1, some (.int .u8)), (5, some .str), (6, none), (7, some tI), (8, some .str), (9, some tI)], [(6, none), (40, none)]⟩
def tb_f6_0 : TC := (.sq (.sq (.reg [(oV 22 9), (oV 23 1), (oP 24 (.cv .i64 (.t 23))), (oP 25 (.bin false .rem (.t 24) (cI 80))), (oP 26 (.bin false .lss (.t 22) (.t 25)))]) (.cd (.t 26) .sk (.fg ⟨[(0, some (.int .u8)), (1, some (.int .u8)), (5, some .str), (6, none), (7, some tI), (8, some .str)], [(6, none), (40, none)]⟩ (.ex 2)))) (.sq (.bk 3 (.reg [(oV 29 8), (oP 30 (.bin false .add (.t 29) (.c (.v (.string (ByteArray.mk #[120])))))), (oV 8 30)])) (.reg [(oV 27 9), (oP 28 (.bin false .add (.t 27) (cI 1))), (oV 9 28)])))
def fg_f6_1 : Fg := ⟨[(0, some (.int .u8)), (1, some (.int .u8)), (5, some .str), (6, none), (7, some tI)], [(6, none), (40, none)]⟩
def tb_f6_1 : TC := (.sq (.sq (.reg [(oV 14 7), (oV 15 0), (oP 16 (.cv .i64 (.t 15))), (oP 17 (.bin false .lss (.t 14) (.t 16)))]) (.cd (.t 17) .sk (.fg ⟨[(5, some .str), (6, none)], [(6, none), (40, none)]⟩ (.ex 0)))) (.sq (.bk 1 (.sq (.reg [(oC 20 1000449 [(cI 0), (cI 0)]), (oC 21 2440448 [(.t 20)]), (oV 8 21)]) (.sq (.sq (.reg [(oP 9 (.mv (cI 0)))]) (.bk 2 (.lp 0 fg_f6_0 tb_f6_0))) (.sq (.reg [(oV 31 5), (oP 32 (.bin false .add (.t 31) (.c (.v (.string (ByteArray.mk #[97, 32, 61, 32])))))), (oV 33 8), (oP 34 (.bin false .add (.t 32) (.t 33))), (oP 35 (.bin false .add (.t 34) (.c (.v (.string (ByteArray.mk #[10])))))), (oV 5 35)]) (.reg [(oV 36 6), (oV 37 8), (oP 38 (.bd [(.v (.string (ByteArray.mk #[]))), (.v (.string (ByteArray.mk #[]))), (.v (.string (ByteArray.mk #[]))), (.v (.int .i64 0))] [(1, 1, (.c (.v (.string (ByteArray.mk #[97]))))), (2, 1, (.t 37))])), (oM 39 (.bs 45 4 1 [(.v (.string (ByteArray.mk #[]))), (.v (.string (ByteArray.mk #[]))), (.v (.string (ByteArray.mk #[]))), (.v (.int .i64 0))] [(0, 4, (.t 38))])), (oM 40 (.app 45 4 56 (.t 36) (.t 39))), (oV 6 40)]))))) (.reg [(oV 18 7), (oP 19 (.bin false .add (.t 18) (cI 1))), (oV 7 19)])))
def tc_f6 : TC := (.sq (.reg [(oP 4 (.mv (cB false)))]) (.sq (.reg [(oP 5 (.mv (.c (.v (.string (ByteArray.mk #[]))))))]) (.sq (.reg [(oP 6 (.mv (.c (.v (.slice none 0 0)))))]) (.sq (.sq (.reg [(oP 7 (.mv (cI 0)))]) (.bk 0 (.nw 6 45 (.lp 1 fg_f6_1 tb_f6_1)))) (.sq (.reg [(oV 42 6), (oC 43 26 [(.t 42)]), (oV 41 43), (oP 44 (.ext 0 (.t 41))), (oP 45 (.ext 1 (.t 41))), (oV 10 44), (oV 11 45)]) (.sq (.reg [(oV 47 6), (oC 48 27 [(.t 47)]), (oV 46 48), (oP 49 (.ext 0 (.t 46))), (oP 50 (.ext 1 (.t 46))), (oV 12 49), (oV 13 50)]) (.sq (.reg [(oV 51 11), (oV 52 13), (oP 53 (.bin false .eql (.t 51) (.t 52))), (oV 54 53), (oQ 55 54 true (.mv (.t 10))), (oQ 56 54 true (.mv (.t 12))), (oQ 57 54 true (.bin false .eql (.t 55) (.t 56))), (oP 58 (.pick (.t 54) (.t 57) (cB false))), (oV 59 58), (oQ 60 59 true (.mv (.t 5))), (oG 61 59 true (.call 20 [(.t 60)])), (oP 62 (.pick (.t 59) (.t 61) (cB false))), (oV 63 62), (oQ 64 63 true (.mv (.t 5))), (oQ 65 63 true (.bin false .add (.t 64) (.c (.v (.string (ByteArray.mk #[92])))))), (oG 66 63 true (.call 20 [(.t 65)])), (oP 67 (.pick (.t 63) (.t 66) (cB false))), (oV 68 67), (oG 69 68 true (.call 14 [])), (oP 70 (.pick (.t 68) (.t 69) (cB false))), (oV 4 70)]) .rt)))))))
def rv_f6 : List (RV × Option Ty) := [((.t 4), some .bool)]
abbrev sh_f6_0 : Sh := ⟨[(0, .ty (.int .u8)), (1, .ty (.int .u8)), (5, .ty .str), (6, .ms 6), (7, .ty tI), (8, .ty .str), (9, .ty tI)], [(6, .arr 45 tySetting), (40, .no)]⟩
def st_f6_0 (x0 : Int) (x1 : Int) (x5 : ByteArray) (x7 : Int) (x8 : ByteArray) (x9 : Int) (y6 : (List Setting)) : VS := sh_f6_0.st (x0, x1, x5, (), x7, x8, x9, ()) (y6, (), ())
abbrev sh_f6_0_e2 : Sh := ⟨[(0, .ty (.int .u8)), (1, .ty (.int .u8)), (5, .ty .str), (6, .ms 6), (7, .ty tI), (8, .ty .str)], [(6, .arr 45 tySetting), (40, .no)]⟩
def st_f6_0_e2 (x0 : Int) (x1 : Int) (x5 : ByteArray) (x7 : Int) (x8 : ByteArray) (y6 : (List Setting)) : VS := sh_f6_0_e2.st (x0, x1, x5, (), x7, x8, ()) (y6, (), ())
-- loop 0: (x0 : Int) (x1 : Int) (x5 : ByteArray) (x7 : Int) (x8 : ByteArray) (x9 : Int) (y6 : (List Setting)); out: ('exit', 2) (x0 : Int) (x1 : Int) (x5 : ByteArray) (x7 : Int) (x8 : ByteArray) (y6 : (List Setting))
abbrev sh_f6_1 : Sh := ⟨[(0, .ty (.int .u8)), (1, .ty (.int .u8)), (5, .ty .str), (6, .ms 6), (7, .ty tI)], [(6, .arr 45 tySetting), (40, .no)]⟩
def st_f6_1 (x0 : Int) (x1 : Int) (x5 : ByteArray) (x7 : Int) (y6 : (List Setting)) : VS := sh_f6_1.st (x0, x1, x5, (), x7, ()) (y6, (), ())
abbrev sh_f6_1_e0 : Sh := ⟨[(5, .ty .str), (6, .ms 6)], [(6, .arr 45 tySetting), (40, .no)]⟩
def st_f6_1_e0 (x5 : ByteArray) (y6 : (List Setting)) : VS := sh_f6_1_e0.st (x5, (), ()) (y6, (), ())
-- loop 1: (x0 : Int) (x1 : Int) (x5 : ByteArray) (x7 : Int) (y6 : (List Setting)); out: ('exit', 0) (x5 : ByteArray) (y6 : (List Setting))
def L_f6_0 : VS → Option (Bool × List (Bool × Exit × VS)) := mkL sh_f6_0 (fun x y => (lg0 x.2.1 x.2.2.2.2.2.2.1 x.2.2.2.2.2.1)) (fun x y => [(true, .exit 2, st_f6_0_e2 (x.1) (x.2.1) (x.2.2.1) (x.2.2.2.2.1) (lgV x.2.1 x.2.2.2.2.2.2.1 x.2.2.2.2.2.1) (y.1))])
def L_f6_1 : VS → Option (Bool × List (Bool × Exit × VS)) := mkL sh_f6_1 (fun x y => (lg1 x.1 x.2.1 x.2.2.2.2.1 x.2.2.1 y.1)) (fun x y => [(true, .exit 0, st_f6_1_e0 (lgS (x.1 - x.2.2.2.2.1).toNat (lgV x.2.1 0 eB) x.2.2.1) (lgL (x.1 - x.2.2.2.2.1).toNat (lgV x.2.1 0 eB) y.1))])
def g_f6 : G := ⟨TYs, [], 71, EL [(14, sp_f14), (20, sp_f20), (26, sp_f26), (27, sp_f27), (1000449, sp_op_make_28_P), (2440448, sp_op_convert_28_9)], keeps, (Ls [L_f6_0, L_f6_1]), IL [], RL []⟩
def b_f6_0 (x0 : Int) (x1 : Int) (x5 : ByteArray) (x7 : Int) (x8 : ByteArray) (x9 : Int) (y6 : (List Setting)) : Option (Exit × VS) :=
 br (cNz 80)
  (br ((ilt x9 (irem (icv .i64 x1) 80)))
   (br (cCat x8 (ByteArray.mk #[120]))
    (some (.normal, st_f6_0 x0 x1 x5 x7 (scat x8 (ByteArray.mk #[120])) (iadd .i64 x9 1) y6))
    (none))
   (some (.exit 2, st_f6_0_e2 x0 x1 x5 x7 x8 y6)))
  (none)
noncomputable def lp_f6_0 (x0 : Int) (x1 : Int) (x5 : ByteArray) (x7 : Int) (x8 : ByteArray) (x9 : Int) (y6 : (List Setting)) : Option (Exit × VS) := loopF (roundF g_f6 fg_f6_0 tb_f6_0) (st_f6_0 x0 x1 x5 x7 x8 x9 y6)
noncomputable def n_f6_0 (x0 : Int) (x1 : Int) (x5 : ByteArray) (x7 : Int) (x8 : ByteArray) (x9 : Int) (y6 : (List Setting)) : Option (Exit × VS) :=
 br (cNz 80)
  (br ((ilt x9 (irem (icv .i64 x1) 80)))
   (br (cCat x8 (ByteArray.mk #[120]))
    (lp_f6_0 x0 x1 x5 x7 (scat x8 (ByteArray.mk #[120])) (iadd .i64 x9 1) y6)
    (none))
   (some (.exit 2, st_f6_0_e2 x0 x1 x5 x7 x8 y6)))
  (none)
def la_f6_0 (x0 : Int) (x1 : Int) (x5 : ByteArray) (x7 : Int) (x8 : ByteArray) (x9 : Int) (y6 : (List Setting)) : Option (Exit × VS) := some (.exit 2, st_f6_0_e2 (x0) (x1) (x5) (x7) (lgV x1 x9 x8) (y6))
theorem be_f6_0 (x0 : Int) (x1 : Int) (x5 : ByteArray) (x7 : Int) (x8 : ByteArray) (x9 : Int) (y6 : (List Setting)) : roundF g_f6 fg_f6_0 tb_f6_0 (st_f6_0 x0 x1 x5 x7 x8 x9 y6) = b_f6_0 x0 x1 x5 x7 x8 x9 y6 := by kernel_rfl
theorem ln_f6_0 (x0 : Int) (x1 : Int) (x5 : ByteArray) (x7 : Int) (x8 : ByteArray) (x9 : Int) (y6 : (List Setting)) : lp_f6_0 x0 x1 x5 x7 x8 x9 y6 = n_f6_0 x0 x1 x5 x7 x8 x9 y6 := (loopF_nxt _ _).trans (by
 rw [be_f6_0]
 simp only [b_f6_0, n_f6_0, nxt_br, nxt_n, nxt_r, nxt_e, nxt_0]
 rfl)
def b_f6_1 (x0 : Int) (x1 : Int) (x5 : ByteArray) (x7 : Int) (y6 : (List Setting)) : Option (Exit × VS) :=
 br ((ilt x7 (icv .i64 x0)))
  (br ((makeOk 0 0))
   (br ((lg0 x1 (0 : Int) (strOf (makeL (.int .u8) 0 0))))
    (br (cCat (x5) (ByteArray.mk #[97, 32, 61, 32]))
     (br (cCat (scat (x5) (ByteArray.mk #[97, 32, 61, 32])) (lgV x1 (0 : Int) (strOf (makeL (.int .u8) 0 0))))
      (br (cCat (scat (scat (x5) (ByteArray.mk #[97, 32, 61, 32])) (lgV x1 (0 : Int) (strOf (makeL (.int .u8) 0 0)))) (ByteArray.mk #[10]))
       (br (cApp (y6) ([((ByteArray.mk #[]), ((ByteArray.mk #[97]), ((lgV x1 (0 : Int) (strOf (makeL (.int .u8) 0 0))), (0, ()))))]) 56)
        (some (.normal, st_f6_1 (x0) (x1) (scat (scat (scat (x5) (ByteArray.mk #[97, 32, 61, 32])) (lgV x1 (0 : Int) (strOf (makeL (.int .u8) 0 0)))) (ByteArray.mk #[10])) (iadd .i64 (x7) 1) ((y6) ++ ([((ByteArray.mk #[]), ((ByteArray.mk #[97]), ((lgV x1 (0 : Int) (strOf (makeL (.int .u8) 0 0))), (0, ()))))]))))
        (none))
       (none))
      (none))
     (none))
    (none))
   (none))
  (some (.exit 0, st_f6_1_e0 x5 y6))
noncomputable def lp_f6_1 (x0 : Int) (x1 : Int) (x5 : ByteArray) (x7 : Int) (y6 : (List Setting)) : Option (Exit × VS) := loopF (roundF g_f6 fg_f6_1 tb_f6_1) (st_f6_1 x0 x1 x5 x7 y6)
noncomputable def n_f6_1 (x0 : Int) (x1 : Int) (x5 : ByteArray) (x7 : Int) (y6 : (List Setting)) : Option (Exit × VS) :=
 br ((ilt x7 (icv .i64 x0)))
  (br ((makeOk 0 0))
   (br ((lg0 x1 (0 : Int) (strOf (makeL (.int .u8) 0 0))))
    (br (cCat (x5) (ByteArray.mk #[97, 32, 61, 32]))
     (br (cCat (scat (x5) (ByteArray.mk #[97, 32, 61, 32])) (lgV x1 (0 : Int) (strOf (makeL (.int .u8) 0 0))))
      (br (cCat (scat (scat (x5) (ByteArray.mk #[97, 32, 61, 32])) (lgV x1 (0 : Int) (strOf (makeL (.int .u8) 0 0)))) (ByteArray.mk #[10]))
       (br (cApp (y6) ([((ByteArray.mk #[]), ((ByteArray.mk #[97]), ((lgV x1 (0 : Int) (strOf (makeL (.int .u8) 0 0))), (0, ()))))]) 56)
        (lp_f6_1 (x0) (x1) (scat (scat (scat (x5) (ByteArray.mk #[97, 32, 61, 32])) (lgV x1 (0 : Int) (strOf (makeL (.int .u8) 0 0)))) (ByteArray.mk #[10])) (iadd .i64 (x7) 1) ((y6) ++ ([((ByteArray.mk #[]), ((ByteArray.mk #[97]), ((lgV x1 (0 : Int) (strOf (makeL (.int .u8) 0 0))), (0, ()))))])))
        (none))
       (none))
      (none))
     (none))
    (none))
   (none))
  (some (.exit 0, st_f6_1_e0 x5 y6))
def la_f6_1 (x0 : Int) (x1 : Int) (x5 : ByteArray) (x7 : Int) (y6 : (List Setting)) : Option (Exit × VS) := some (.exit 0, st_f6_1_e0 (lgS (x0 - x7).toNat (lgV x1 0 eB) x5) (lgL (x0 - x7).toNat (lgV x1 0 eB) y6))
theorem be_f6_1 (x0 : Int) (x1 : Int) (x5 : ByteArray) (x7 : Int) (y6 : (List Setting)) : roundF g_f6 fg_f6_1 tb_f6_1 (st_f6_1 x0 x1 x5 x7 y6) = b_f6_1 x0 x1 x5 x7 y6 := by kernel_rfl
theorem ln_f6_1 (x0 : Int) (x1 : Int) (x5 : ByteArray) (x7 : Int) (y6 : (List Setting)) : lp_f6_1 x0 x1 x5 x7 y6 = n_f6_1 x0 x1 x5 x7 y6 := (loopF_nxt _ _).trans (by
 rw [be_f6_1]
 simp only [b_f6_1, n_f6_1, nxt_br, nxt_n, nxt_r, nxt_e, nxt_0]
 rfl)
def r_f6 (p0 : Int) (p1 : Int) : Option (V × List VO) :=
 br ((lg1 p0 p1 (0 : Int) (ByteArray.mk #[]) ([] : List Setting)))
  (br ((prOk (lgL (p0 - (0 : Int)).toNat (lgV p1 0 eB) ([] : List Setting))))
   (br ((prOk (lgL (p0 - (0 : Int)).toNat (lgV p1 0 eB) ([] : List Setting))))
    (br ((ieq ((prnF (lgL (p0 - (0 : Int)).toNat (lgV p1 0 eB) ([] : List Setting))).2) ((prnF (lgL (p0 - (0 : Int)).toNat (lgV p1 0 eB) ([] : List Setting))).2)))
     (br ((seq ((prnF (lgL (p0 - (0 : Int)).toNat (lgV p1 0 eB) ([] : List Setting))).1) ((prnF (lgL (p0 - (0 : Int)).toNat (lgV p1 0 eB) ([] : List Setting))).1)))
      (br ((nameG (lgS (p0 - (0 : Int)).toNat (lgV p1 0 eB) (ByteArray.mk #[]))))
       (br ((agT (lgS (p0 - (0 : Int)).toNat (lgV p1 0 eB) (ByteArray.mk #[]))))
        (br (cCat (lgS (p0 - (0 : Int)).toNat (lgV p1 0 eB) (ByteArray.mk #[])) (ByteArray.mk #[92]))
         (br ((nameG (scat (lgS (p0 - (0 : Int)).toNat (lgV p1 0 eB) (ByteArray.mk #[])) (ByteArray.mk #[92]))))
          (br ((agT (scat (lgS (p0 - (0 : Int)).toNat (lgV p1 0 eB) (ByteArray.mk #[])) (ByteArray.mk #[92]))))
           (some (.t .bool awkT, []))
           (some (.t .bool false, [])))
          (none))
         (none))
        (some (.t .bool false, [])))
       (none))
      (some (.t .bool false, [])))
     (some (.t .bool false, [])))
    (none))
   (none))
  (none)
theorem e_f6 (p0 : Int) (p1 : Int) : runF g_f6 tc_f6 rv_f6 false [.t (.int .u8) p0, .t (.int .u8) p1] [] = r_f6 p0 p1 := by kernel_rfl
theorem ok_f6 : Option.map (trC Tryd.prog) Tryd.f6.body = some tc_f6.er := by kernel_rfl
theorem rok_f6 : trVs Tryd.prog Tryd.f6.results.toList = some (rv_f6.map Prod.fst) := by kernel_rfl
theorem gk_f6 : GOk Tryd.prog g_f6 := gok_of _ (by
 intro p hp
 simp only [List.mem_cons, List.not_mem_nil, or_false] at hp
 rcases hp with rfl | rfl | rfl | rfl | rfl | rfl
 ·exact ⟨en_f14, ms_f14⟩
 ·exact ⟨en_f20, ms_f20⟩
 ·exact ⟨en_f26, ms_f26⟩
 ·exact ⟨en_f27, ms_f27⟩
 ·exact ⟨en_op_make_28_P, ms_op_make_28_P⟩
 ·exact ⟨en_op_convert_28_9, ms_op_convert_28_9⟩)
theorem l_f6_0 (x0 : Int) (x1 : Int) (x5 : ByteArray) (x7 : Int) (x8 : ByteArray) (x9 : Int) (y6 : (List Setting)) (h : (lg0 x1 x9 x8) = true) : lp_f6_0 x0 x1 x5 x7 x8 x9 y6 = la_f6_0 x0 x1 x5 x7 x8 x9 y6 := by
 obtain ⟨h0, h1, h2, h3, h4⟩ := cP_of h
 clear h
 obtain ⟨⟨w1, w2⟩, _⟩ := lgW_rng ⟨h0, h1⟩
 obtain ⟨k, rfl⟩ := Int.eq_ofNat_of_zero_le h2
 have hg : irem (icv .i64 x1) 80 = lgW x1 := rfl
 obtain ⟨n, hn⟩ : ∃ n, n = (lgW x1 - k).toNat := ⟨_, rfl⟩
 induction n generalizing k x8 with
 | zero =>
  rw [ln_f6_0]
  have e : ilt (k : Int) (lgW x1) = false := decide_eq_false (by omega)
  have e3 : lgV x1 k x8 = x8 := by
   unfold lgV
   rw [← hn, List.replicate_zero, List.append_nil, mk_bl]
  unfold n_f6_0
  rw [hg, e]
  refine brY rfl ?_
  rw [br_false]
  unfold la_f6_0
  rw [e3]
 | succ n ih =>
  rw [ln_f6_0]
  have e : ilt (k : Int) (lgW x1) = true := decide_eq_true (by omega)
  have y1 : (ByteArray.mk #[120]).size = 1 := rfl
  have e4 : cCat x8 (ByteArray.mk #[120]) = true := decide_eq_true (by omega)
  have e5 : lgV x1 ((k + 1 : Nat) : Int) (scat x8 (ByteArray.mk #[120])) = lgV x1 k x8 := by
   unfold lgV scat
   rw [← hn, bl_app, show (lgW x1 - ((k + 1 : Nat) : Int)).toNat = n by omega, List.append_assoc]
   rfl
  have ih := ih (scat x8 (ByteArray.mk #[120])) (k + 1) (by omega) (by omega) (by simp only [scat, ByteArray.size_append]; omega) (by omega)
  unfold n_f6_0
  rw [hg, e]
  refine brY rfl (brY rfl (brY e4 ?_))
  rw [add1 (show k < 4611686018427387904 by omega), ih]
  unfold la_f6_0
  rw [e5]
theorem lgV_size {w : Int} (h : 0 ≤ w ∧ w ≤ 255) : (lgV w 0 eB).size ≤ 80 := by
 obtain ⟨⟨w1, w2⟩, _⟩ := lgW_rng h
 unfold lgV
 rw [mk_size, List.length_append, List.length_replicate, bl_len]
 have : eB.size = 0 := rfl
 omega
theorem l_f6_1 (x0 : Int) (x1 : Int) (x5 : ByteArray) (x7 : Int) (y6 : (List Setting)) (h : (lg1 x0 x1 x7 x5 y6) = true) : lp_f6_1 x0 x1 x5 x7 y6 = la_f6_1 x0 x1 x5 x7 y6 := by
 obtain ⟨⟨h0, h1, h2, h3⟩, g1, g2, g3, g4⟩ := cP_of h
 clear h
 obtain ⟨_, i0⟩ := lgW_rng ⟨h0, h1⟩
 have hv := lgV_size ⟨h2, h3⟩
 obtain ⟨k, rfl⟩ := Int.eq_ofNat_of_zero_le g1
 obtain ⟨n, hn⟩ : ∃ n, n = (x0 - k).toNat := ⟨_, rfl⟩
 have ez : strOf (makeL (.int .u8) 0 0) = eB := rfl
 induction n generalizing k x5 y6 with
 | zero =>
  rw [ln_f6_1]
  have e : ilt (k : Int) x0 = false := decide_eq_false (by omega)
  have e1 : lgS (x0 - (k : Int)).toNat (lgV x1 0 eB) x5 = x5 := by
   unfold lgS
   rw [← hn, List.replicate_zero, List.flatten_nil, List.append_nil, mk_bl]
  have e2 : lgL (x0 - (k : Int)).toNat (lgV x1 0 eB) y6 = y6 := by
   unfold lgL
   rw [← hn, List.replicate_zero, List.append_nil]
  unfold n_f6_1
  rw [i0, e, br_false]
  unfold la_f6_1
  rw [e1, e2]
 | succ n ih =>
  rw [ln_f6_1]
  have e : ilt (k : Int) x0 = true := decide_eq_true (by omega)
  have y1 : (ByteArray.mk #[97, 32, 61, 32]).size = 4 := rfl
  have y2 : (ByteArray.mk #[10]).size = 1 := rfl
  have y3 : eB.size = 0 := rfl
  have cc : ∀ a b : ByteArray, a.size + b.size ≤ 100000000 → cCat a b = true := fun a b h => decide_eq_true (by omega)
  have hm : (x0 - ((k + 1 : Nat) : Int)).toNat = n := by omega
  have e5 : lgS n (lgV x1 0 eB) (scat (scat (scat x5 (ByteArray.mk #[97, 32, 61, 32])) (lgV x1 0 eB)) (ByteArray.mk #[10])) = lgS (n + 1) (lgV x1 0 eB) x5 := by
   unfold lgS scat
   rw [List.replicate_succ, List.flatten_cons]
   simp [bl_app, lgP]
  have e6 : lgL n (lgV x1 0 eB) (y6 ++ [(eB, (ByteArray.mk #[97], (lgV x1 0 eB, (0, ()))))]) = lgL (n + 1) (lgV x1 0 eB) y6 := by
   unfold lgL
   rw [List.replicate_succ, List.append_assoc]
   rfl
  have ih := ih (scat (scat (scat x5 (ByteArray.mk #[97, 32, 61, 32])) (lgV x1 0 eB)) (ByteArray.mk #[10])) (y6 ++ [(eB, (ByteArray.mk #[97], (lgV x1 0 eB, (0, ()))))]) (k + 1) (by omega) (by omega) (by rw [List.length_append, List.length_singleton]; omega) (by simp only [scat, ByteArray.size_append]; omega) (by omega)
  unfold n_f6_1
  rw [i0, e, br_true, ez]
  refine brY rfl (brY (cP_in ⟨h2, h3, Int.le_refl _, by omega, by show ((eB.size : Nat) : Int) ≤ 0; omega⟩) (brY (cc _ _ (by omega)) (brY (cc _ _ (by simp only [scat, ByteArray.size_append]; omega)) (brY (cc _ _ (by simp only [scat, ByteArray.size_append]; omega)) (brY (cAppN (by decide) (by simp; omega)) ?_)))))
  rw [add1 (show k < 4611686018427387904 by omega)]
  refine ih.trans ?_
  unfold la_f6_1
  rw [hm, e5, e6, ← hn]
theorem lo_f6_0 : ∀ S l p, g_f6.L 0 (fgt fg_f6_0 S) = some (true, l) → pickA l = some p → loopF (roundF g_f6 fg_f6_0 tb_f6_0) S = some p :=
 lok_of (s := sh_f6_0) ⟨by decide, by decide⟩ (by kernel_rfl) fun x y hok p hp => by
 simp only [pickA_br, pickA_one] at hp
 exact (l_f6_0 x.1 x.2.1 x.2.2.1 x.2.2.2.2.1 x.2.2.2.2.2.1 x.2.2.2.2.2.2.1 y.1 (by simpa using hok)).trans hp
theorem lo_f6_1 : ∀ S l p, g_f6.L 1 (fgt fg_f6_1 S) = some (true, l) → pickA l = some p → loopF (roundF g_f6 fg_f6_1 tb_f6_1) S = some p :=
 lok_of (s := sh_f6_1) ⟨by decide, by decide⟩ (by kernel_rfl) fun x y hok p hp => by
 simp only [pickA_br, pickA_one] at hp
 exact (l_f6_1 x.1 x.2.1 x.2.2.1 x.2.2.2.2.1 y.1 (by simpa using hok)).trans hp
theorem lk_f6 : tc_f6.lok g_f6 := by
 repeat (first | exact trivial | exact lo_f6_0 | exact lo_f6_1 | refine ⟨?_, ?_⟩)
theorem lgL_ok {n : Nat} {v : ByteArray} (hn : n ≤ 255) (hv : v.size ≤ 80) : prOk (lgL n v []) = true := by
 unfold prOk lgL
 rw [List.nil_append, List.length_replicate, decide_eq_true (by omega), Bool.true_and, List.all_eq_true]
 intro x hx
 obtain rfl := (List.eq_of_mem_replicate hx)
 have y1 : (ByteArray.mk #[97]).size = 1 := rfl
 have y3 : eB.size = 0 := rfl
 exact decide_eq_true ⟨by show eB.size ≤ _; omega, by show (ByteArray.mk #[97]).size ≤ _; omega, by show v.size ≤ _; omega⟩
theorem lgS_size {n : Nat} {v : ByteArray} (hn : n ≤ 255) (hv : v.size ≤ 80) : (lgS n v eB).size ≤ 30000 := by
 unfold lgS
 have e : (List.replicate n (lgP v)).flatten.length = n * (lgP v).length := by rw [List.length_flatten, List.map_replicate, List.sum_replicate_nat]
 have h2 : (lgP v).length = v.size + 5 := by unfold lgP; simp
 rw [mk_size, List.length_append, bl_len, e, h2]
 have y3 : eB.size = 0 := rfl
 have : n * (v.size + 5) ≤ 255 * 85 := Nat.mul_le_mul hn (by omega)
 omega
theorem s_f6 (a b : Int) (h : lngOk a b = true) : r_f6 a b = some (.t .bool (lngT a b), []) := by
 obtain ⟨h0, h1, h2, h3⟩ := of_decide_eq_true h
 have hv := lgV_size ⟨h2, h3⟩
 have hn : (a - (0 : Int)).toNat ≤ 255 := by omega
 have hp := lgL_ok hn hv
 have hs := lgS_size hn hv
 simp only [r_f6]
 refine brY (cP_in ⟨⟨h0, h1, h2, h3⟩, by omega, by omega, by simp, by show ((0 : Nat) : Int) ≤ _; omega⟩) ?_
 generalize (a - (0 : Int)).toNat = n at hn hp hs
 generalize lgV b 0 eB = v at hv hp hs
 have hs : (lgS n v (ByteArray.mk #[])).size ≤ 30000 := hs
 generalize lgS n v (ByteArray.mk #[]) = q at hs
 rw [hp, br_true, br_true, ieq_s, br_true, seq_s, br_true]
 have y1 : (ByteArray.mk #[92]).size = 1 := rfl
 refine brY (decide_eq_true (by omega)) (brY rfl (brY (decide_eq_true (by omega)) (brY (decide_eq_true (by simp only [scat, ByteArray.size_append]; omega)) (brY rfl rfl))))
def sp_f6 : Ent := spec (.pr (.int .u8) (.pr (.int .u8) .nil)) (fun x => (lngOk x.1 x.2.1)) (fun x => (.t .bool (lngT x.1 x.2.1)))
theorem ms_f6 : Meets Tryd.prog 6 (strip sp_f6) := by
 obtain ⟨c, hc, hi⟩ := Option.map_eq_some_iff.1 ok_f6
 exact meets_spec (R := runF g_f6 tc_f6 rv_f6 false) (meets_of (by decide) Tryd.func6 hc hi Tryd.ntmps6 rok_f6 gk_f6 lk_f6 mixed) fun x hok => (e_f6 x.1 x.2.1).trans (s_f6 x.1 x.2.1 hok)
theorem okw_SettingsLong (z0 z1 : Int) (w0 : Ty.wf (.int .u8) z0) (w1 : Ty.wf (.int .u8) z1) : lngOk z0 z1 = true := decide_eq_true (by have := wf_u8 w0; have := wf_u8 w1; omega)
theorem walkSettingsLong (z0 : Int) (z1 : Int) (W : World) (v0 : Value) (v1 : Value) (c0 : C noX W (fun _ => .no) (V.t (.int .u8) z0).d v0) (c1 : C noX W (fun _ => .no) (V.t (.int .u8) z1).d v1) (w0 : Ty.wf (.int .u8) z0) (w1 : Ty.wf (.int .u8) z1) :
  Calls Tryd.prog 6 #[v0, v1] W fun r w' => r = .returned (.bool true) ∧ Below W.heap.size W w' :=
 calls_true (by decide) ms_f6 (args := [.t (.int .u8) z0, .t (.int .u8) z1]) (strip_spec (x := (z0, z1, ())) rfl (okw_SettingsLong z0 z1 w0 w1)) (by simp only [V.ds, Cs]; exact ⟨_, _, rfl, c0, _, _, rfl, c1, rfl⟩)
end
end Go.Proofs.YtkkoedniahnneaaDoor.K
