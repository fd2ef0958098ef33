/-
 Get by the answer; agree; the law's texts.
-/
import Derived.Test.YtkkoedniahnneaaDoorA16
set_option linter.unusedSimpArgs false
set_option linter.unusedVariables false
namespace Go.Proofs.YtkkoedniahnneaaDoor.K
open Go.RowKit
noncomputable section
theorem pgZ_len : ∀ (n : Nat) (l : List ByteArray) (sec : ByteArray) (i : Int) (out : List Setting), (pgZ n l sec i out).1.length ≤ out.length + n
 | 0, _, _, _, _ => Nat.le_refl _
 | n + 1, l, sec, i, out => by
  unfold pgZ
  cases ilt i (llen l) with
  | false => exact Nat.le_add_right _ _
  | true =>
   cases (!(rjnF l i).2.2 || !clB (rjnF l i).1) with
   | true => exact Nat.le_add_right _ _
   | false =>
    simp only [cond_true, cond_false]
    cases h : stpS (rjnF l i).1 sec (i + 1) out with
    | none => exact Nat.le_add_right _ _
    | some p =>
     have h1 := stp_len h
     have h2 := pgZ_len n l p.1 (i + (rjnF l i).2.1) p.2
     simp only
     omega
theorem par_len (s : ByteArray) : (parF s).1.length ≤ 100000 := by
 unfold parF
 cases h : (igt (slen s) 8192 || igt (endN s) 200) with
 | true => exact Nat.zero_le _
 | false =>
  rw [cond_false]
  have h1 : s.size ≤ 8192 := by
   have := (Bool.or_eq_false_iff.1 h).1
   simp only [igt, slen, decide_eq_false_iff_not] at this
   omega
  have h2 := lnsOk_len (lnB_ok (s := s) (by omega))
  have h3 := pgZ_len ((lnB s).length - (0 : Int).toNat) (lnB s) (ByteArray.mk #[]) 0 []
  cases (pgF (lnB s) (ByteArray.mk #[]) 0 []).2.2 with
  | false => exact Nat.zero_le _
  | true =>
   rw [cond_true]
   show (pgF (lnB s) (ByteArray.mk #[]) 0 []).1.length ≤ _
   unfold pgF
   have : ([] : List Setting).length = 0 := rfl
   omega
def agT (_ : ByteArray) : Bool := true
def tc_f20 : TC := (.sq (.reg [(oP 2 (.mv (cB false)))]) (.sq (.reg [(oV 10 0), (oC 11 29 [(.t 10)]), (oV 9 11), (oP 12 (.ext 0 (.t 9))), (oP 13 (.ext 1 (.t 9))), (oP 14 (.ext 2 (.t 9))), (oV 3 12), (oV 4 13), (oV 5 14)]) (.sq (.reg [(oV 16 0), (oC 17 51 [(.t 16)]), (oV 15 17), (oP 18 (.ext 0 (.t 15))), (oP 19 (.ext 1 (.t 15))), (oP 20 (.ext 2 (.t 15))), (oV 6 18), (oV 7 19), (oV 8 20)]) (.sq (.reg [(oV 21 5), (oV 22 8), (oP 23 (.bin false .eql (.t 21) (.t 22))), (oV 24 23), (oQ 25 24 true (.mv (.t 4))), (oQ 26 24 true (.mv (.t 7))), (oQ 27 24 true (.bin false .eql (.t 25) (.t 26))), (oP 28 (.pick (.t 24) (.t 27) (cB false))), (oV 29 28), (oQ 30 29 true (.mv (.t 3))), (oQ 31 29 true (.mv (.t 6))), (oG 32 29 true (.call 50 [(.t 30), (.t 31)])), (oP 33 (.pick (.t 29) (.t 32) (cB false))), (oV 2 33)]) .rt))))
def rv_f20 : List (RV × Option Ty) := [((.t 2), some .bool)]
def g_f20 : G := ⟨TYs, [], 34, EL [(29, sp_f29), (50, sp_f50), (51, sp_f51)], keeps, (fun _ _ => none), IL [], RL []⟩
def r_f20 (p0 : ByteArray) : Option (V × List VO) :=
 br ((nameG p0))
  (br ((ieq (((parF p0).2).2) (((parF p0).2).2)))
   (br ((ieq (((parF p0).2).1) (((parF p0).2).1)))
    (br ((smSeOk ((parF p0).1) ((parF p0).1)))
     (some (.t .bool (smSe ((parF p0).1) ((parF p0).1)), []))
     (none))
    (some (.t .bool false, [])))
   (some (.t .bool false, [])))
  (none)
theorem e_f20 (p0 : ByteArray) : runF g_f20 tc_f20 rv_f20 false [.t .str p0] [] = r_f20 p0 := by kernel_rfl
theorem ok_f20 : Option.map (trC Tryd.prog) Tryd.f20.body = some tc_f20.er := by kernel_rfl
theorem rok_f20 : trVs Tryd.prog Tryd.f20.results.toList = some (rv_f20.map Prod.fst) := by kernel_rfl
theorem en_f20 : Entered Tryd.prog 20 := .inr ⟨by decide, _, Tryd.func20, by kernel_rfl, by kernel_rfl⟩
theorem gk_f20 : GOk Tryd.prog g_f20 := gok_of _ (by
 intro p hp
 simp only [List.mem_cons, List.not_mem_nil, or_false] at hp
 rcases hp with rfl | rfl | rfl
 ·exact ⟨en_f29, ms_f29⟩
 ·exact ⟨en_f50, ms_f50⟩
 ·exact ⟨en_f51, ms_f51⟩)
theorem lk_f20 : tc_f20.lok g_f20 := by repeat (first | exact trivial | refine ⟨?_, ?_⟩)
theorem s_f20 (s : ByteArray) (h : nameG s = true) : r_f20 s = some (.t .bool (agT s), []) := by
 unfold r_f20
 rw [h, ieq_s, ieq_s, br_true, br_true, br_true]
 exact brY (Bool.and_eq_true_iff.2 ⟨smEq_s _, decide_eq_true (par_len s)⟩) rfl
def sp_f20 : Ent := spec (.pr .str .nil) (fun x => (nameG x.1)) (fun x => (.t .bool (agT x.1)))
theorem ms_f20 : Meets Tryd.prog 20 (strip sp_f20) := by
 obtain ⟨c, hc, hi⟩ := Option.map_eq_some_iff.1 ok_f20
 exact meets_spec (R := runF g_f20 tc_f20 rv_f20 false) (meets_of (by decide) Tryd.func20 hc hi Tryd.ntmps20 rok_f20 gk_f20 lk_f20 mixed) fun x hok => (e_f20 x.1).trans (s_f20 x.1 hok)
-- loop 0: (x3 : ByteArray) (x4 : Int) (y50000 : Dice); out: ('exit', 0) (x3 : ByteArray) (y50000 : Dice)
end
end Go.Proofs.YtkkoedniahnneaaDoor.K
