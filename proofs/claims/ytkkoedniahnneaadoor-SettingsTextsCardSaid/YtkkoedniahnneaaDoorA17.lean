/-
 Get by the answer; agree; the law's texts.
-/
import Derived.Test.YtkkoedniahnneaaDoorA16
set_option linter.unusedSimpArgs false
set_option linter.unusedVariables false
namespace Go.Proofs.YtkkoedniahnneaaDoor.K
open Go.RowKit
noncomputable section
theorem pgZ_len : ∀ (n : Nat) (l : List ByteArray) (sec : ByteArray) (i : Int) (out : List Setting), (pgZ n l sec i out).1.length ≤ out.length + n
 | 0, _, _, _, _ => Nat.le_refl _
 | n + 1, l, sec, i, out => by
  unfold pgZ
  cases ilt i (llen l) with
  | false => exact Nat.le_add_right _ _
  | true =>
   cases (!(rjnF l i).2.2 || !clB (rjnF l i).1) with
   | true => exact Nat.le_add_right _ _
   | false =>
    simp only [cond_true, cond_false]
    cases h : stpS (rjnF l i).1 sec (i + 1) out with
    | none => exact Nat.le_add_right _ _
    | some p =>
     have h1 := stp_len h
     have h2 := pgZ_len n l p.1 (i + (rjnF l i).2.1) p.2
     simp only
     omega
theorem par_len (s : ByteArray) : (parF s).1.length ≤ 100000 := by
 unfold parF
 cases h : (igt (slen s) 8192 || igt (endN s) 200) with
 | true => exact Nat.zero_le _
 | false =>
  rw [cond_false]
  have h1 : s.size ≤ 8192 := by
   have := (Bool.or_eq_false_iff.1 h).1
   simp only [igt, slen, decide_eq_false_iff_not] at this
   omega
  have h2 := lnsOk_len (lnB_ok (s := s) (by omega))
  have h3 := pgZ_len ((lnB s).length - (0 : Int).toNat) (lnB s) (ByteArray.mk #[]) 0 []
  cases (pgF (lnB s) (ByteArray.mk #[]) 0 []).2.2 with
  | false => exact Nat.zero_le _
  | true =>
   rw [cond_true]
   show (pgF (lnB s) (ByteArray.mk #[]) 0 []).1.length ≤ _
   unfold pgF
   have : ([] : List Setting).length = 0 := rfl
   omega
def agT (_ : ByteArray) : Bool := true
def tc_f20 : TC := (.sq (.reg [(oP 2 (.mv (cB false)))]) (.sq (.reg [(oV 10 0), (oC 11 29 [(.t 10)]), (oV 9 11), (oP 12 (.ext 0 (.t 9))), (oP 13 (.ext 1 (.t 9))), (oP 14 (.ext 2 (.t 9))), (oV 3 12), (oV 4 13), (oV 5 14)]) (.sq (.reg [(oV 16 0), (oC 17 51 [(.t 16)]), (oV 15 17), (oP 18 (.ext 0 (.t 15))), (oP 19 (.ext 1 (.t 15))), (oP 20 (.ext 2 (.t 15))), (oV 6 18), (oV 7 19), (oV 8 20)]) (.sq (.reg [(oV 21 5), (oV 22 8), (oP 23 (.bin false .eql (.t 21) (.t 22))), (oV 24 23), (oQ 25 24 true (.mv (.t 4))), (oQ 26 24 true (.mv (.t 7))), (oQ 27 24 true (.bin false .eql (.t 25) (.t 26))), (oP 28 (.pick (.t 24) (.t 27) (cB false))), (oV 29 28), (oQ 30 29 true (.mv (.t 3))), (oQ 31 29 true (.mv (.t 6))), (oG 32 29 true (.call 50 [(.t 30), (.t 31)])), (oP 33 (.pick (.t 29) (.t 32) (cB false))), (oV 2 33)]) .rt))))
def rv_f20 : List (RV × Option Ty) := [((.t 2), some .bool)]
def g_f20 : G := ⟨TYs, [], 34, EL [(29, sp_f29), (50, sp_f50), (51, sp_f51)], keeps, (fun _ _ => none), IL [], RL []⟩
def r_f20 (p0 : ByteArray) : Option (V × List VO) :=
 br ((nameG p0))
  (br ((ieq (((parF p0).2).2) (((parF p0).2).2)))
   (br ((ieq (((parF p0).2).1) (((parF p0).2).1)))
    (br ((smSeOk ((parF p0).1) ((parF p0).1)))
     (some (.t .bool (smSe ((parF p0).1) ((parF p0).1)), []))
     (none))
    (some (.t .bool false, [])))
   (some (.t .bool false, [])))
  (none)
theorem e_f20 (p0 : ByteArray) : runF g_f20 tc_f20 rv_f20 false [.t .str p0] [] = r_f20 p0 := by kernel_rfl
theorem ok_f20 : Option.map (trC Tryd.prog) Tryd.f20.body = some tc_f20.er := by kernel_rfl
theorem rok_f20 : trVs Tryd.prog Tryd.f20.results.toList = some (rv_f20.map Prod.fst) := by kernel_rfl
theorem en_f20 : Entered Tryd.prog 20 := .inr ⟨by decide, _, Tryd.func20, by kernel_rfl, by kernel_rfl⟩
theorem gk_f20 : GOk Tryd.prog g_f20 := gok_of _ (by
 intro p hp
 simp only [List.mem_cons, List.not_mem_nil, or_false] at hp
 rcases hp with rfl | rfl | rfl
 ·exact ⟨en_f29, ms_f29⟩
 ·exact ⟨en_f50, ms_f50⟩
 ·exact ⟨en_f51, ms_f51⟩)
theorem lk_f20 : tc_f20.lok g_f20 := by repeat (first | exact trivial | refine ⟨?_, ?_⟩)
theorem s_f20 (s : ByteArray) (h : nameG s = true) : r_f20 s = some (.t .bool (agT s), []) := by
 unfold r_f20
 rw [h, ieq_s, ieq_s, br_true, br_true, br_true]
 exact brY (Bool.and_eq_true_iff.2 ⟨smEq_s _, decide_eq_true (par_len s)⟩) rfl
def sp_f20 : Ent := spec (.pr .str .nil) (fun x => (nameG x.1)) (fun x => (.t .bool (agT x.1)))
theorem ms_f20 : Meets Tryd.prog 20 (strip sp_f20) := by
 obtain ⟨c, hc, hi⟩ := Option.map_eq_some_iff.1 ok_f20
 exact meets_spec (R := runF g_f20 tc_f20 rv_f20 false) (meets_of (by decide) Tryd.func20 hc hi Tryd.ntmps20 rok_f20 gk_f20 lk_f20 mixed) fun x hok => (e_f20 x.1).trans (s_f20 x.1 hok)
abbrev tw1 : List ByteArray := [(ByteArray.mk #[]), (ByteArray.mk #[32, 32]), (ByteArray.mk #[9])]
abbrev tw2 : List ByteArray := [(ByteArray.mk #[91, 119, 101, 98, 93]), (ByteArray.mk #[91, 32, 100, 98, 32, 93]), (ByteArray.mk #[120, 32, 61, 32, 49]), (ByteArray.mk #[109, 111, 115, 116, 61, 51]), (ByteArray.mk #[115, 117, 105, 116, 101, 115, 32, 61, 32, 104, 105, 103, 104, 58, 33, 114, 115, 97]), (ByteArray.mk #[35, 32, 120]), (ByteArray.mk #[59, 32, 121]), (ByteArray.mk #[]), (ByteArray.mk #[110, 97, 109, 101, 61]), (ByteArray.mk #[97, 32, 98, 32, 61, 32, 99]), (ByteArray.mk #[91, 93]), (ByteArray.mk #[61]), (ByteArray.mk #[107, 32, 61, 32, 118, 32, 92]), (ByteArray.mk #[108, 111, 110, 103, 32, 92]), (ByteArray.mk #[61, 32, 92]), (ByteArray.mk #[91, 120]), (ByteArray.mk #[122, 45, 49, 32, 61, 32, 91, 113, 93])]
abbrev tw3 : List ByteArray := [(ByteArray.mk #[10]), (ByteArray.mk #[10]), (ByteArray.mk #[10]), (ByteArray.mk #[32, 10]), (ByteArray.mk #[])]
theorem dwd_size {d : Dice} {l : List ByteArray} {m : Nat} (h : l.all (fun x => decide (x.size ≤ m)) = true) : (dwdG d l).size ≤ m := by
 unfold dwdG
 rw [List.getD_eq_getElem?_getD]
 cases hx : l[(dval d l.length).toNat]? with
 | none => exact Nat.zero_le _
 | some x => exact of_decide_eq_true (List.all_eq_true.1 h x (List.mem_of_getElem? hx))
def txZ : Nat → ByteArray → Dice → ByteArray × Dice
 | 0, s, d => (s, d)
 | n + 1, s, d => txZ n (scat (scat (scat s (dwdG d tw1)) (dwdG (dwdGN d tw1) tw2)) (dwdG (dwdGN (dwdGN d tw1) tw2) tw3)) (dwdGN (dwdGN (dwdGN d tw1) tw2) tw3)
def txOk (s : ByteArray) (i : Int) (d : Dice) : Bool := dOk d && decide (0 ≤ i ∧ i ≤ 9 ∧ s.size + 30 * i.toNat ≤ 1000)
def txF (d : Dice) : ByteArray := (txZ (dval d 9).toNat (ByteArray.mk #[]) (dnext d 9)).1
def txN (d : Dice) : Dice := (txZ (dval d 9).toNat (ByteArray.mk #[]) (dnext d 9)).2
def fg_f16_0 : Fg := ⟨[(0, none), (3, some .str), (4, some tI)], [(50000, some tyDice)]⟩
def tb_f16_0 : TC := (.sq (.sq (.reg [(oV 7 4), (oP 8 (.bin false .gtr (.t 7) (cI 0)))]) (.cd (.t 8) .sk (.fg ⟨[(3, some .str)], [(50000, some tyDice)]⟩ (.ex 0)))) (.sq (.bk 1 (.reg [(oV 11 3), (oV 12 0), (oM 13 (.bs 9 1 3 [(.v (.string (ByteArray.mk #[]))), (.v (.string (ByteArray.mk #[]))), (.v (.string (ByteArray.mk #[])))] [(0, 1, (.c (.v (.string (ByteArray.mk #[]))))), (1, 1, (.c (.v (.string (ByteArray.mk #[32, 32]))))), (2, 1, (.c (.v (.string (ByteArray.mk #[9])))))])), (oC 14 32 [(.t 12), (.t 13)]), (oP 15 (.bin false .add (.t 11) (.t 14))), (oV 16 0), (oM 17 (.bs 9 1 17 [(.v (.string (ByteArray.mk #[]))), (.v (.string (ByteArray.mk #[]))), (.v (.string (ByteArray.mk #[]))), (.v (.string (ByteArray.mk #[]))), (.v (.string (ByteArray.mk #[]))), (.v (.string (ByteArray.mk #[]))), (.v (.string (ByteArray.mk #[]))), (.v (.string (ByteArray.mk #[]))), (.v (.string (ByteArray.mk #[]))), (.v (.string (ByteArray.mk #[]))), (.v (.string (ByteArray.mk #[]))), (.v (.string (ByteArray.mk #[]))), (.v (.string (ByteArray.mk #[]))), (.v (.string (ByteArray.mk #[]))), (.v (.string (ByteArray.mk #[]))), (.v (.string (ByteArray.mk #[]))), (.v (.string (ByteArray.mk #[])))] [(0, 1, (.c (.v (.string (ByteArray.mk #[91, 119, 101, 98, 93]))))), (1, 1, (.c (.v (.string (ByteArray.mk #[91, 32, 100, 98, 32, 93]))))), (2, 1, (.c (.v (.string (ByteArray.mk #[120, 32, 61, 32, 49]))))), (3, 1, (.c (.v (.string (ByteArray.mk #[109, 111, 115, 116, 61, 51]))))), (4, 1, (.c (.v (.string (ByteArray.mk #[115, 117, 105, 116, 101, 115, 32, 61, 32, 104, 105, 103, 104, 58, 33, 114, 115, 97]))))), (5, 1, (.c (.v (.string (ByteArray.mk #[35, 32, 120]))))), (6, 1, (.c (.v (.string (ByteArray.mk #[59, 32, 121]))))), (7, 1, (.c (.v (.string (ByteArray.mk #[]))))), (8, 1, (.c (.v (.string (ByteArray.mk #[110, 97, 109, 101, 61]))))), (9, 1, (.c (.v (.string (ByteArray.mk #[97, 32, 98, 32, 61, 32, 99]))))), (10, 1, (.c (.v (.string (ByteArray.mk #[91, 93]))))), (11, 1, (.c (.v (.string (ByteArray.mk #[61]))))), (12, 1, (.c (.v (.string (ByteArray.mk #[107, 32, 61, 32, 118, 32, 92]))))), (13, 1, (.c (.v (.string (ByteArray.mk #[108, 111, 110, 103, 32, 92]))))), (14, 1, (.c (.v (.string (ByteArray.mk #[61, 32, 92]))))), (15, 1, (.c (.v (.string (ByteArray.mk #[91, 120]))))), (16, 1, (.c (.v (.string (ByteArray.mk #[122, 45, 49, 32, 61, 32, 91, 113, 93])))))])), (oC 18 32 [(.t 16), (.t 17)]), (oP 19 (.bin false .add (.t 15) (.t 18))), (oV 20 0), (oM 21 (.bs 9 1 5 [(.v (.string (ByteArray.mk #[]))), (.v (.string (ByteArray.mk #[]))), (.v (.string (ByteArray.mk #[]))), (.v (.string (ByteArray.mk #[]))), (.v (.string (ByteArray.mk #[])))] [(0, 1, (.c (.v (.string (ByteArray.mk #[10]))))), (1, 1, (.c (.v (.string (ByteArray.mk #[10]))))), (2, 1, (.c (.v (.string (ByteArray.mk #[10]))))), (3, 1, (.c (.v (.string (ByteArray.mk #[32, 10]))))), (4, 1, (.c (.v (.string (ByteArray.mk #[])))))])), (oC 22 32 [(.t 20), (.t 21)]), (oP 23 (.bin false .add (.t 19) (.t 22))), (oV 3 23)])) (.reg [(oV 9 4), (oP 10 (.bin false .sub (.t 9) (cI 1))), (oV 4 10)])))
def tc_f16 : TC := (.sq (.reg [(oP 2 (.mv (.c (.v (.string (ByteArray.mk #[]))))))]) (.sq (.reg [(oP 3 (.mv (.c (.v (.string (ByteArray.mk #[]))))))]) (.sq (.sq (.reg [(oV 5 0), (oC 6 18 [(.t 5), (cI 9)]), (oV 4 6)]) (.bk 0 (.lp 0 fg_f16_0 tb_f16_0))) (.sq (.reg [(oV 24 3), (oV 2 24)]) .rt))))
def rv_f16 : List (RV × Option Ty) := [((.t 2), some .str)]
abbrev sh_f16_0 : Sh := ⟨[(0, .ptr 50000 0), (3, .ty .str), (4, .ty tI)], [(50000, .box tyDice)]⟩
def st_f16_0 (x3 : ByteArray) (x4 : Int) (y50000 : Dice) : VS := sh_f16_0.st ((), x3, x4, ()) (y50000, ())
abbrev sh_f16_0_e0 : Sh := ⟨[(3, .ty .str)], [(50000, .box tyDice)]⟩
def st_f16_0_e0 (x3 : ByteArray) (y50000 : Dice) : VS := sh_f16_0_e0.st (x3, ()) (y50000, ())
-- loop 0: (x3 : ByteArray) (x4 : Int) (y50000 : Dice); out: ('exit', 0) (x3 : ByteArray) (y50000 : Dice)
def L_f16_0 : VS → Option (Bool × List (Bool × Exit × VS)) := mkL sh_f16_0 (fun x y => (txOk x.2.1 x.2.2.1 y.1)) (fun x y => [(true, .exit 0, st_f16_0_e0 ((txZ x.2.2.1.toNat x.2.1 y.1).1) ((txZ x.2.2.1.toNat x.2.1 y.1).2))])
def g_f16 : G := ⟨TYs, [], 25, EL [(18, sp_f18), (32, sp_f32)], keeps, (Ls [L_f16_0]), IL [], RL []⟩
def b_f16_0 (x3 : ByteArray) (x4 : Int) (y50000 : Dice) : Option (Exit × VS) :=
 br ((igt x4 0))
  (br ((wdGOk y50000 ([(ByteArray.mk #[]), (ByteArray.mk #[32, 32]), (ByteArray.mk #[9])])))
   (br (cCat x3 (dwdG y50000 ([(ByteArray.mk #[]), (ByteArray.mk #[32, 32]), (ByteArray.mk #[9])])))
    (br ((wdGOk (dwdGN y50000 ([(ByteArray.mk #[]), (ByteArray.mk #[32, 32]), (ByteArray.mk #[9])])) ([(ByteArray.mk #[91, 119, 101, 98, 93]), (ByteArray.mk #[91, 32, 100, 98, 32, 93]), (ByteArray.mk #[120, 32, 61, 32, 49]), (ByteArray.mk #[109, 111, 115, 116, 61, 51]), (ByteArray.mk #[115, 117, 105, 116, 101, 115, 32, 61, 32, 104, 105, 103, 104, 58, 33, 114, 115, 97]), (ByteArray.mk #[35, 32, 120]), (ByteArray.mk #[59, 32, 121]), (ByteArray.mk #[]), (ByteArray.mk #[110, 97, 109, 101, 61]), (ByteArray.mk #[97, 32, 98, 32, 61, 32, 99]), (ByteArray.mk #[91, 93]), (ByteArray.mk #[61]), (ByteArray.mk #[107, 32, 61, 32, 118, 32, 92]), (ByteArray.mk #[108, 111, 110, 103, 32, 92]), (ByteArray.mk #[61, 32, 92]), (ByteArray.mk #[91, 120]), (ByteArray.mk #[122, 45, 49, 32, 61, 32, 91, 113, 93])])))
     (br (cCat (scat x3 (dwdG y50000 ([(ByteArray.mk #[]), (ByteArray.mk #[32, 32]), (ByteArray.mk #[9])]))) (dwdG (dwdGN y50000 ([(ByteArray.mk #[]), (ByteArray.mk #[32, 32]), (ByteArray.mk #[9])])) ([(ByteArray.mk #[91, 119, 101, 98, 93]), (ByteArray.mk #[91, 32, 100, 98, 32, 93]), (ByteArray.mk #[120, 32, 61, 32, 49]), (ByteArray.mk #[109, 111, 115, 116, 61, 51]), (ByteArray.mk #[115, 117, 105, 116, 101, 115, 32, 61, 32, 104, 105, 103, 104, 58, 33, 114, 115, 97]), (ByteArray.mk #[35, 32, 120]), (ByteArray.mk #[59, 32, 121]), (ByteArray.mk #[]), (ByteArray.mk #[110, 97, 109, 101, 61]), (ByteArray.mk #[97, 32, 98, 32, 61, 32, 99]), (ByteArray.mk #[91, 93]), (ByteArray.mk #[61]), (ByteArray.mk #[107, 32, 61, 32, 118, 32, 92]), (ByteArray.mk #[108, 111, 110, 103, 32, 92]), (ByteArray.mk #[61, 32, 92]), (ByteArray.mk #[91, 120]), (ByteArray.mk #[122, 45, 49, 32, 61, 32, 91, 113, 93])])))
      (br ((wdGOk (dwdGN (dwdGN y50000 ([(ByteArray.mk #[]), (ByteArray.mk #[32, 32]), (ByteArray.mk #[9])])) ([(ByteArray.mk #[91, 119, 101, 98, 93]), (ByteArray.mk #[91, 32, 100, 98, 32, 93]), (ByteArray.mk #[120, 32, 61, 32, 49]), (ByteArray.mk #[109, 111, 115, 116, 61, 51]), (ByteArray.mk #[115, 117, 105, 116, 101, 115, 32, 61, 32, 104, 105, 103, 104, 58, 33, 114, 115, 97]), (ByteArray.mk #[35, 32, 120]), (ByteArray.mk #[59, 32, 121]), (ByteArray.mk #[]), (ByteArray.mk #[110, 97, 109, 101, 61]), (ByteArray.mk #[97, 32, 98, 32, 61, 32, 99]), (ByteArray.mk #[91, 93]), (ByteArray.mk #[61]), (ByteArray.mk #[107, 32, 61, 32, 118, 32, 92]), (ByteArray.mk #[108, 111, 110, 103, 32, 92]), (ByteArray.mk #[61, 32, 92]), (ByteArray.mk #[91, 120]), (ByteArray.mk #[122, 45, 49, 32, 61, 32, 91, 113, 93])])) ([(ByteArray.mk #[10]), (ByteArray.mk #[10]), (ByteArray.mk #[10]), (ByteArray.mk #[32, 10]), (ByteArray.mk #[])])))
       (br (cCat (scat (scat x3 (dwdG y50000 ([(ByteArray.mk #[]), (ByteArray.mk #[32, 32]), (ByteArray.mk #[9])]))) (dwdG (dwdGN y50000 ([(ByteArray.mk #[]), (ByteArray.mk #[32, 32]), (ByteArray.mk #[9])])) ([(ByteArray.mk #[91, 119, 101, 98, 93]), (ByteArray.mk #[91, 32, 100, 98, 32, 93]), (ByteArray.mk #[120, 32, 61, 32, 49]), (ByteArray.mk #[109, 111, 115, 116, 61, 51]), (ByteArray.mk #[115, 117, 105, 116, 101, 115, 32, 61, 32, 104, 105, 103, 104, 58, 33, 114, 115, 97]), (ByteArray.mk #[35, 32, 120]), (ByteArray.mk #[59, 32, 121]), (ByteArray.mk #[]), (ByteArray.mk #[110, 97, 109, 101, 61]), (ByteArray.mk #[97, 32, 98, 32, 61, 32, 99]), (ByteArray.mk #[91, 93]), (ByteArray.mk #[61]), (ByteArray.mk #[107, 32, 61, 32, 118, 32, 92]), (ByteArray.mk #[108, 111, 110, 103, 32, 92]), (ByteArray.mk #[61, 32, 92]), (ByteArray.mk #[91, 120]), (ByteArray.mk #[122, 45, 49, 32, 61, 32, 91, 113, 93])]))) (dwdG (dwdGN (dwdGN y50000 ([(ByteArray.mk #[]), (ByteArray.mk #[32, 32]), (ByteArray.mk #[9])])) ([(ByteArray.mk #[91, 119, 101, 98, 93]), (ByteArray.mk #[91, 32, 100, 98, 32, 93]), (ByteArray.mk #[120, 32, 61, 32, 49]), (ByteArray.mk #[109, 111, 115, 116, 61, 51]), (ByteArray.mk #[115, 117, 105, 116, 101, 115, 32, 61, 32, 104, 105, 103, 104, 58, 33, 114, 115, 97]), (ByteArray.mk #[35, 32, 120]), (ByteArray.mk #[59, 32, 121]), (ByteArray.mk #[]), (ByteArray.mk #[110, 97, 109, 101, 61]), (ByteArray.mk #[97, 32, 98, 32, 61, 32, 99]), (ByteArray.mk #[91, 93]), (ByteArray.mk #[61]), (ByteArray.mk #[107, 32, 61, 32, 118, 32, 92]), (ByteArray.mk #[108, 111, 110, 103, 32, 92]), (ByteArray.mk #[61, 32, 92]), (ByteArray.mk #[91, 120]), (ByteArray.mk #[122, 45, 49, 32, 61, 32, 91, 113, 93])])) ([(ByteArray.mk #[10]), (ByteArray.mk #[10]), (ByteArray.mk #[10]), (ByteArray.mk #[32, 10]), (ByteArray.mk #[])])))
        (some (.normal, st_f16_0 (scat (scat (scat x3 (dwdG y50000 ([(ByteArray.mk #[]), (ByteArray.mk #[32, 32]), (ByteArray.mk #[9])]))) (dwdG (dwdGN y50000 ([(ByteArray.mk #[]), (ByteArray.mk #[32, 32]), (ByteArray.mk #[9])])) ([(ByteArray.mk #[91, 119, 101, 98, 93]), (ByteArray.mk #[91, 32, 100, 98, 32, 93]), (ByteArray.mk #[120, 32, 61, 32, 49]), (ByteArray.mk #[109, 111, 115, 116, 61, 51]), (ByteArray.mk #[115, 117, 105, 116, 101, 115, 32, 61, 32, 104, 105, 103, 104, 58, 33, 114, 115, 97]), (ByteArray.mk #[35, 32, 120]), (ByteArray.mk #[59, 32, 121]), (ByteArray.mk #[]), (ByteArray.mk #[110, 97, 109, 101, 61]), (ByteArray.mk #[97, 32, 98, 32, 61, 32, 99]), (ByteArray.mk #[91, 93]), (ByteArray.mk #[61]), (ByteArray.mk #[107, 32, 61, 32, 118, 32, 92]), (ByteArray.mk #[108, 111, 110, 103, 32, 92]), (ByteArray.mk #[61, 32, 92]), (ByteArray.mk #[91, 120]), (ByteArray.mk #[122, 45, 49, 32, 61, 32, 91, 113, 93])]))) (dwdG (dwdGN (dwdGN y50000 ([(ByteArray.mk #[]), (ByteArray.mk #[32, 32]), (ByteArray.mk #[9])])) ([(ByteArray.mk #[91, 119, 101, 98, 93]), (ByteArray.mk #[91, 32, 100, 98, 32, 93]), (ByteArray.mk #[120, 32, 61, 32, 49]), (ByteArray.mk #[109, 111, 115, 116, 61, 51]), (ByteArray.mk #[115, 117, 105, 116, 101, 115, 32, 61, 32, 104, 105, 103, 104, 58, 33, 114, 115, 97]), (ByteArray.mk #[35, 32, 120]), (ByteArray.mk #[59, 32, 121]), (ByteArray.mk #[]), (ByteArray.mk #[110, 97, 109, 101, 61]), (ByteArray.mk #[97, 32, 98, 32, 61, 32, 99]), (ByteArray.mk #[91, 93]), (ByteArray.mk #[61]), (ByteArray.mk #[107, 32, 61, 32, 118, 32, 92]), (ByteArray.mk #[108, 111, 110, 103, 32, 92]), (ByteArray.mk #[61, 32, 92]), (ByteArray.mk #[91, 120]), (ByteArray.mk #[122, 45, 49, 32, 61, 32, 91, 113, 93])])) ([(ByteArray.mk #[10]), (ByteArray.mk #[10]), (ByteArray.mk #[10]), (ByteArray.mk #[32, 10]), (ByteArray.mk #[])]))) (isub .i64 x4 1) (dwdGN (dwdGN (dwdGN y50000 ([(ByteArray.mk #[]), (ByteArray.mk #[32, 32]), (ByteArray.mk #[9])])) ([(ByteArray.mk #[91, 119, 101, 98, 93]), (ByteArray.mk #[91, 32, 100, 98, 32, 93]), (ByteArray.mk #[120, 32, 61, 32, 49]), (ByteArray.mk #[109, 111, 115, 116, 61, 51]), (ByteArray.mk #[115, 117, 105, 116, 101, 115, 32, 61, 32, 104, 105, 103, 104, 58, 33, 114, 115, 97]), (ByteArray.mk #[35, 32, 120]), (ByteArray.mk #[59, 32, 121]), (ByteArray.mk #[]), (ByteArray.mk #[110, 97, 109, 101, 61]), (ByteArray.mk #[97, 32, 98, 32, 61, 32, 99]), (ByteArray.mk #[91, 93]), (ByteArray.mk #[61]), (ByteArray.mk #[107, 32, 61, 32, 118, 32, 92]), (ByteArray.mk #[108, 111, 110, 103, 32, 92]), (ByteArray.mk #[61, 32, 92]), (ByteArray.mk #[91, 120]), (ByteArray.mk #[122, 45, 49, 32, 61, 32, 91, 113, 93])])) ([(ByteArray.mk #[10]), (ByteArray.mk #[10]), (ByteArray.mk #[10]), (ByteArray.mk #[32, 10]), (ByteArray.mk #[])]))))
        (none))
       (none))
      (none))
     (none))
    (none))
   (none))
  (some (.exit 0, st_f16_0_e0 x3 y50000))
noncomputable def lp_f16_0 (x3 : ByteArray) (x4 : Int) (y50000 : Dice) : Option (Exit × VS) := loopF (roundF g_f16 fg_f16_0 tb_f16_0) (st_f16_0 x3 x4 y50000)
noncomputable def n_f16_0 (x3 : ByteArray) (x4 : Int) (y50000 : Dice) : Option (Exit × VS) :=
 br ((igt x4 0))
  (br ((wdGOk y50000 ([(ByteArray.mk #[]), (ByteArray.mk #[32, 32]), (ByteArray.mk #[9])])))
   (br (cCat x3 (dwdG y50000 ([(ByteArray.mk #[]), (ByteArray.mk #[32, 32]), (ByteArray.mk #[9])])))
    (br ((wdGOk (dwdGN y50000 ([(ByteArray.mk #[]), (ByteArray.mk #[32, 32]), (ByteArray.mk #[9])])) ([(ByteArray.mk #[91, 119, 101, 98, 93]), (ByteArray.mk #[91, 32, 100, 98, 32, 93]), (ByteArray.mk #[120, 32, 61, 32, 49]), (ByteArray.mk #[109, 111, 115, 116, 61, 51]), (ByteArray.mk #[115, 117, 105, 116, 101, 115, 32, 61, 32, 104, 105, 103, 104, 58, 33, 114, 115, 97]), (ByteArray.mk #[35, 32, 120]), (ByteArray.mk #[59, 32, 121]), (ByteArray.mk #[]), (ByteArray.mk #[110, 97, 109, 101, 61]), (ByteArray.mk #[97, 32, 98, 32, 61, 32, 99]), (ByteArray.mk #[91, 93]), (ByteArray.mk #[61]), (ByteArray.mk #[107, 32, 61, 32, 118, 32, 92]), (ByteArray.mk #[108, 111, 110, 103, 32, 92]), (ByteArray.mk #[61, 32, 92]), (ByteArray.mk #[91, 120]), (ByteArray.mk #[122, 45, 49, 32, 61, 32, 91, 113, 93])])))
     (br (cCat (scat x3 (dwdG y50000 ([(ByteArray.mk #[]), (ByteArray.mk #[32, 32]), (ByteArray.mk #[9])]))) (dwdG (dwdGN y50000 ([(ByteArray.mk #[]), (ByteArray.mk #[32, 32]), (ByteArray.mk #[9])])) ([(ByteArray.mk #[91, 119, 101, 98, 93]), (ByteArray.mk #[91, 32, 100, 98, 32, 93]), (ByteArray.mk #[120, 32, 61, 32, 49]), (ByteArray.mk #[109, 111, 115, 116, 61, 51]), (ByteArray.mk #[115, 117, 105, 116, 101, 115, 32, 61, 32, 104, 105, 103, 104, 58, 33, 114, 115, 97]), (ByteArray.mk #[35, 32, 120]), (ByteArray.mk #[59, 32, 121]), (ByteArray.mk #[]), (ByteArray.mk #[110, 97, 109, 101, 61]), (ByteArray.mk #[97, 32, 98, 32, 61, 32, 99]), (ByteArray.mk #[91, 93]), (ByteArray.mk #[61]), (ByteArray.mk #[107, 32, 61, 32, 118, 32, 92]), (ByteArray.mk #[108, 111, 110, 103, 32, 92]), (ByteArray.mk #[61, 32, 92]), (ByteArray.mk #[91, 120]), (ByteArray.mk #[122, 45, 49, 32, 61, 32, 91, 113, 93])])))
      (br ((wdGOk (dwdGN (dwdGN y50000 ([(ByteArray.mk #[]), (ByteArray.mk #[32, 32]), (ByteArray.mk #[9])])) ([(ByteArray.mk #[91, 119, 101, 98, 93]), (ByteArray.mk #[91, 32, 100, 98, 32, 93]), (ByteArray.mk #[120, 32, 61, 32, 49]), (ByteArray.mk #[109, 111, 115, 116, 61, 51]), (ByteArray.mk #[115, 117, 105, 116, 101, 115, 32, 61, 32, 104, 105, 103, 104, 58, 33, 114, 115, 97]), (ByteArray.mk #[35, 32, 120]), (ByteArray.mk #[59, 32, 121]), (ByteArray.mk #[]), (ByteArray.mk #[110, 97, 109, 101, 61]), (ByteArray.mk #[97, 32, 98, 32, 61, 32, 99]), (ByteArray.mk #[91, 93]), (ByteArray.mk #[61]), (ByteArray.mk #[107, 32, 61, 32, 118, 32, 92]), (ByteArray.mk #[108, 111, 110, 103, 32, 92]), (ByteArray.mk #[61, 32, 92]), (ByteArray.mk #[91, 120]), (ByteArray.mk #[122, 45, 49, 32, 61, 32, 91, 113, 93])])) ([(ByteArray.mk #[10]), (ByteArray.mk #[10]), (ByteArray.mk #[10]), (ByteArray.mk #[32, 10]), (ByteArray.mk #[])])))
       (br (cCat (scat (scat x3 (dwdG y50000 ([(ByteArray.mk #[]), (ByteArray.mk #[32, 32]), (ByteArray.mk #[9])]))) (dwdG (dwdGN y50000 ([(ByteArray.mk #[]), (ByteArray.mk #[32, 32]), (ByteArray.mk #[9])])) ([(ByteArray.mk #[91, 119, 101, 98, 93]), (ByteArray.mk #[91, 32, 100, 98, 32, 93]), (ByteArray.mk #[120, 32, 61, 32, 49]), (ByteArray.mk #[109, 111, 115, 116, 61, 51]), (ByteArray.mk #[115, 117, 105, 116, 101, 115, 32, 61, 32, 104, 105, 103, 104, 58, 33, 114, 115, 97]), (ByteArray.mk #[35, 32, 120]), (ByteArray.mk #[59, 32, 121]), (ByteArray.mk #[]), (ByteArray.mk #[110, 97, 109, 101, 61]), (ByteArray.mk #[97, 32, 98, 32, 61, 32, 99]), (ByteArray.mk #[91, 93]), (ByteArray.mk #[61]), (ByteArray.mk #[107, 32, 61, 32, 118, 32, 92]), (ByteArray.mk #[108, 111, 110, 103, 32, 92]), (ByteArray.mk #[61, 32, 92]), (ByteArray.mk #[91, 120]), (ByteArray.mk #[122, 45, 49, 32, 61, 32, 91, 113, 93])]))) (dwdG (dwdGN (dwdGN y50000 ([(ByteArray.mk #[]), (ByteArray.mk #[32, 32]), (ByteArray.mk #[9])])) ([(ByteArray.mk #[91, 119, 101, 98, 93]), (ByteArray.mk #[91, 32, 100, 98, 32, 93]), (ByteArray.mk #[120, 32, 61, 32, 49]), (ByteArray.mk #[109, 111, 115, 116, 61, 51]), (ByteArray.mk #[115, 117, 105, 116, 101, 115, 32, 61, 32, 104, 105, 103, 104, 58, 33, 114, 115, 97]), (ByteArray.mk #[35, 32, 120]), (ByteArray.mk #[59, 32, 121]), (ByteArray.mk #[]), (ByteArray.mk #[110, 97, 109, 101, 61]), (ByteArray.mk #[97, 32, 98, 32, 61, 32, 99]), (ByteArray.mk #[91, 93]), (ByteArray.mk #[61]), (ByteArray.mk #[107, 32, 61, 32, 118, 32, 92]), (ByteArray.mk #[108, 111, 110, 103, 32, 92]), (ByteArray.mk #[61, 32, 92]), (ByteArray.mk #[91, 120]), (ByteArray.mk #[122, 45, 49, 32, 61, 32, 91, 113, 93])])) ([(ByteArray.mk #[10]), (ByteArray.mk #[10]), (ByteArray.mk #[10]), (ByteArray.mk #[32, 10]), (ByteArray.mk #[])])))
        (lp_f16_0 (scat (scat (scat x3 (dwdG y50000 ([(ByteArray.mk #[]), (ByteArray.mk #[32, 32]), (ByteArray.mk #[9])]))) (dwdG (dwdGN y50000 ([(ByteArray.mk #[]), (ByteArray.mk #[32, 32]), (ByteArray.mk #[9])])) ([(ByteArray.mk #[91, 119, 101, 98, 93]), (ByteArray.mk #[91, 32, 100, 98, 32, 93]), (ByteArray.mk #[120, 32, 61, 32, 49]), (ByteArray.mk #[109, 111, 115, 116, 61, 51]), (ByteArray.mk #[115, 117, 105, 116, 101, 115, 32, 61, 32, 104, 105, 103, 104, 58, 33, 114, 115, 97]), (ByteArray.mk #[35, 32, 120]), (ByteArray.mk #[59, 32, 121]), (ByteArray.mk #[]), (ByteArray.mk #[110, 97, 109, 101, 61]), (ByteArray.mk #[97, 32, 98, 32, 61, 32, 99]), (ByteArray.mk #[91, 93]), (ByteArray.mk #[61]), (ByteArray.mk #[107, 32, 61, 32, 118, 32, 92]), (ByteArray.mk #[108, 111, 110, 103, 32, 92]), (ByteArray.mk #[61, 32, 92]), (ByteArray.mk #[91, 120]), (ByteArray.mk #[122, 45, 49, 32, 61, 32, 91, 113, 93])]))) (dwdG (dwdGN (dwdGN y50000 ([(ByteArray.mk #[]), (ByteArray.mk #[32, 32]), (ByteArray.mk #[9])])) ([(ByteArray.mk #[91, 119, 101, 98, 93]), (ByteArray.mk #[91, 32, 100, 98, 32, 93]), (ByteArray.mk #[120, 32, 61, 32, 49]), (ByteArray.mk #[109, 111, 115, 116, 61, 51]), (ByteArray.mk #[115, 117, 105, 116, 101, 115, 32, 61, 32, 104, 105, 103, 104, 58, 33, 114, 115, 97]), (ByteArray.mk #[35, 32, 120]), (ByteArray.mk #[59, 32, 121]), (ByteArray.mk #[]), (ByteArray.mk #[110, 97, 109, 101, 61]), (ByteArray.mk #[97, 32, 98, 32, 61, 32, 99]), (ByteArray.mk #[91, 93]), (ByteArray.mk #[61]), (ByteArray.mk #[107, 32, 61, 32, 118, 32, 92]), (ByteArray.mk #[108, 111, 110, 103, 32, 92]), (ByteArray.mk #[61, 32, 92]), (ByteArray.mk #[91, 120]), (ByteArray.mk #[122, 45, 49, 32, 61, 32, 91, 113, 93])])) ([(ByteArray.mk #[10]), (ByteArray.mk #[10]), (ByteArray.mk #[10]), (ByteArray.mk #[32, 10]), (ByteArray.mk #[])]))) (isub .i64 x4 1) (dwdGN (dwdGN (dwdGN y50000 ([(ByteArray.mk #[]), (ByteArray.mk #[32, 32]), (ByteArray.mk #[9])])) ([(ByteArray.mk #[91, 119, 101, 98, 93]), (ByteArray.mk #[91, 32, 100, 98, 32, 93]), (ByteArray.mk #[120, 32, 61, 32, 49]), (ByteArray.mk #[109, 111, 115, 116, 61, 51]), (ByteArray.mk #[115, 117, 105, 116, 101, 115, 32, 61, 32, 104, 105, 103, 104, 58, 33, 114, 115, 97]), (ByteArray.mk #[35, 32, 120]), (ByteArray.mk #[59, 32, 121]), (ByteArray.mk #[]), (ByteArray.mk #[110, 97, 109, 101, 61]), (ByteArray.mk #[97, 32, 98, 32, 61, 32, 99]), (ByteArray.mk #[91, 93]), (ByteArray.mk #[61]), (ByteArray.mk #[107, 32, 61, 32, 118, 32, 92]), (ByteArray.mk #[108, 111, 110, 103, 32, 92]), (ByteArray.mk #[61, 32, 92]), (ByteArray.mk #[91, 120]), (ByteArray.mk #[122, 45, 49, 32, 61, 32, 91, 113, 93])])) ([(ByteArray.mk #[10]), (ByteArray.mk #[10]), (ByteArray.mk #[10]), (ByteArray.mk #[32, 10]), (ByteArray.mk #[])])))
        (none))
       (none))
      (none))
     (none))
    (none))
   (none))
  (some (.exit 0, st_f16_0_e0 x3 y50000))
def la_f16_0 (x3 : ByteArray) (x4 : Int) (y50000 : Dice) : Option (Exit × VS) := some (.exit 0, st_f16_0_e0 ((txZ x4.toNat x3 y50000).1) ((txZ x4.toNat x3 y50000).2))
theorem be_f16_0 (x3 : ByteArray) (x4 : Int) (y50000 : Dice) : roundF g_f16 fg_f16_0 tb_f16_0 (st_f16_0 x3 x4 y50000) = b_f16_0 x3 x4 y50000 := by kernel_rfl
theorem ln_f16_0 (x3 : ByteArray) (x4 : Int) (y50000 : Dice) : lp_f16_0 x3 x4 y50000 = n_f16_0 x3 x4 y50000 := (loopF_nxt _ _).trans (by
 rw [be_f16_0]
 simp only [b_f16_0, n_f16_0, nxt_br, nxt_n, nxt_r, nxt_e, nxt_0]
 rfl)
def r_f16 (d0 : Dice) : Option (V × List VO) :=
 br ((nextOk d0 9))
  (br ((txOk (ByteArray.mk #[]) (dval d0 9) (dnext d0 9)))
   (some (.t .str ((txZ (dval d0 9).toNat (ByteArray.mk #[]) (dnext d0 9)).1), [.box (.t tyDice ((txZ (dval d0 9).toNat (ByteArray.mk #[]) (dnext d0 9)).2))]))
   (none))
  (none)
theorem e_f16 (d0 : Dice) : runF g_f16 tc_f16 rv_f16 false [.ptr 50000 0] [.box (.t tyDice d0)] = r_f16 d0 := by kernel_rfl
theorem ok_f16 : Option.map (trC Tryd.prog) Tryd.f16.body = some tc_f16.er := by kernel_rfl
theorem rok_f16 : trVs Tryd.prog Tryd.f16.results.toList = some (rv_f16.map Prod.fst) := by kernel_rfl
theorem en_f16 : Entered Tryd.prog 16 := .inr ⟨by decide, _, Tryd.func16, by kernel_rfl, by kernel_rfl⟩
theorem gk_f16 : GOk Tryd.prog g_f16 := gok_of _ (by
 intro p hp
 simp only [List.mem_cons, List.not_mem_nil, or_false] at hp
 rcases hp with rfl | rfl
 ·exact ⟨en_f18, ms_f18⟩
 ·exact ⟨en_f32, ms_f32⟩)
theorem l_f16_0 (x3 : ByteArray) (x4 : Int) (y50000 : Dice) (h : (txOk x3 x4 y50000) = true) : lp_f16_0 x3 x4 y50000 = la_f16_0 x3 x4 y50000 := by
 obtain ⟨h0, hh⟩ := Bool.and_eq_true_iff.1 h
 obtain ⟨h1, h2, h3⟩ := of_decide_eq_true hh
 clear h hh
 obtain ⟨n, rfl⟩ := Int.eq_ofNat_of_zero_le h1
 rw [Int.toNat_natCast] at h3
 clear h1
 induction n generalizing x3 y50000 with
 | zero =>
  rw [ln_f16_0]
  rfl
 | succ n ih =>
  rw [ln_f16_0]
  have g1 : (dwdG y50000 tw1).size ≤ 2 := dwd_size (by kernel_rfl)
  have g2 : (dwdG (dwdGN y50000 tw1) tw2).size ≤ 18 := dwd_size (by kernel_rfl)
  have g3 : (dwdG (dwdGN (dwdGN y50000 tw1) tw2) tw3).size ≤ 2 := dwd_size (by kernel_rfl)
  have k1 : dOk (dwdGN y50000 tw1) = true := dOk_next h0
  have k2 : dOk (dwdGN (dwdGN y50000 tw1) tw2) = true := dOk_next k1
  have k3 : dOk (dwdGN (dwdGN (dwdGN y50000 tw1) tw2) tw3) = true := dOk_next k2
  have i1 : isub .i64 ((n + 1 : Nat) : Int) 1 = (n : Int) := by rw [isub_in (by omega)]; omega
  unfold n_f16_0
  rw [show igt ((n + 1 : Nat) : Int) 0 = true from decide_eq_true (by omega), br_true]
  have z1 : wdGOk y50000 tw1 = true := Bool.and_eq_true_iff.2 ⟨h0, by decide⟩
  have z2 : wdGOk (dwdGN y50000 tw1) tw2 = true := Bool.and_eq_true_iff.2 ⟨k1, by decide⟩
  have z3 : wdGOk (dwdGN (dwdGN y50000 tw1) tw2) tw3 = true := Bool.and_eq_true_iff.2 ⟨k2, by decide⟩
  have c1 : cCat x3 (dwdG y50000 tw1) = true := decide_eq_true (by omega)
  have e1 : (scat x3 (dwdG y50000 tw1)).size = x3.size + (dwdG y50000 tw1).size := ByteArray.size_append
  have e2 : (scat (scat x3 (dwdG y50000 tw1)) (dwdG (dwdGN y50000 tw1) tw2)).size = (scat x3 (dwdG y50000 tw1)).size + (dwdG (dwdGN y50000 tw1) tw2).size := ByteArray.size_append
  have e3 : (scat (scat (scat x3 (dwdG y50000 tw1)) (dwdG (dwdGN y50000 tw1) tw2)) (dwdG (dwdGN (dwdGN y50000 tw1) tw2) tw3)).size = (scat (scat x3 (dwdG y50000 tw1)) (dwdG (dwdGN y50000 tw1) tw2)).size + (dwdG (dwdGN (dwdGN y50000 tw1) tw2) tw3).size := ByteArray.size_append
  have c2 : cCat (scat x3 (dwdG y50000 tw1)) (dwdG (dwdGN y50000 tw1) tw2) = true := decide_eq_true (by omega)
  have c3 : cCat (scat (scat x3 (dwdG y50000 tw1)) (dwdG (dwdGN y50000 tw1) tw2)) (dwdG (dwdGN (dwdGN y50000 tw1) tw2) tw3) = true := decide_eq_true (by omega)
  have ih := ih (scat (scat (scat x3 (dwdG y50000 tw1)) (dwdG (dwdGN y50000 tw1) tw2)) (dwdG (dwdGN (dwdGN y50000 tw1) tw2) tw3)) (dwdGN (dwdGN (dwdGN y50000 tw1) tw2) tw3) k3 (by omega) (by omega)
  refine brY z1 (brY c1 (brY z2 (brY c2 (brY z3 (brY c3 ?_)))))
  rw [i1]
  exact ih
theorem lo_f16_0 : ∀ S l p, g_f16.L 0 (fgt fg_f16_0 S) = some (true, l) → pickA l = some p → loopF (roundF g_f16 fg_f16_0 tb_f16_0) S = some p :=
 lok_of (s := sh_f16_0) ⟨by decide, by decide⟩ (by kernel_rfl) fun x y hok p hp => by
 simp only [pickA_br, pickA_one] at hp
 exact (l_f16_0 x.2.1 x.2.2.1 y.1 (by simpa using hok)).trans hp
theorem lk_f16 : tc_f16.lok g_f16 := by
 repeat (first | exact trivial | exact lo_f16_0 | refine ⟨?_, ?_⟩)
theorem s_f16 (d : Dice) (h : dOk d = true) : r_f16 d = some (.t .str (txF d), [.box (.t tyDice (txN d))]) := by
 have hv := dval_lt (d := d) (n := 9) (by omega)
 have hn := dOk_next (n := 9) h
 unfold r_f16
 refine brY (Bool.and_eq_true_iff.2 ⟨h, by decide⟩) (brY (Bool.and_eq_true_iff.2 ⟨hn, decide_eq_true ⟨by omega, by omega, ?_⟩⟩) rfl)
 show 0 + 30 * (dval d 9).toNat ≤ 1000
 omega
def sp_f16 : Ent := specP tyDice .nil (fun d x => (dOk d)) (fun d x => (.t .str (txF d))) (fun d x => (txN d))
theorem ms_f16 : Meets Tryd.prog 16 (strip sp_f16) := by
 obtain ⟨c, hc, hi⟩ := Option.map_eq_some_iff.1 ok_f16
 exact meets_specP (R := runF g_f16 tc_f16 rv_f16 false) (meets_of (by decide) Tryd.func16 hc hi Tryd.ntmps16 rok_f16 gk_f16 lk_f16 mixed) rfl fun d x hok => (e_f16 d).trans (s_f16 d hok)
end
end Go.Proofs.YtkkoedniahnneaaDoor.K
