/-
 The layer's example.
-/
import Derived.Test.YtkkoedniahnneaaDoorA20
set_option linter.unusedSimpArgs false
set_option linter.unusedVariables false
namespace Go.Proofs.YtkkoedniahnneaaDoor.K
open Go.RowKit
noncomputable section
def awkT : Bool := true
def tc_f14 : TC := (.sq (.reg [(oP 0 (.mv (cB false)))]) (.sq (.reg [(oC 7 29 [(.c (.v (.string (ByteArray.mk #[91, 97, 93, 10, 120, 32, 61, 32, 49, 32, 92, 10, 32, 32, 50, 10]))))]), (oV 6 7), (oP 8 (.ext 0 (.t 6))), (oP 9 (.ext 1 (.t 6))), (oP 10 (.ext 2 (.t 6))), (oV 1 8), (oV 2 9), (oV 3 10)]) (.sq (.reg [(oV 12 1), (oC 13 45 [(.t 12), (.c (.v (.string (ByteArray.mk #[97])))), (.c (.v (.string (ByteArray.mk #[120]))))]), (oV 11 13), (oP 14 (.ext 0 (.t 11))), (oP 15 (.ext 1 (.t 11))), (oV 4 14), (oV 5 15)]) (.sq (.reg [(oV 16 3), (oP 17 (.bin false .eql (.t 16) (cI 0))), (oV 18 17), (oQ 19 18 true (.mv (.t 2))), (oQ 20 18 true (.bin false .eql (.t 19) (cI 0))), (oP 21 (.pick (.t 18) (.t 20) (cB false))), (oV 22 21), (oQ 23 22 true (.mv (.t 1))), (oQ 24 22 true (.len false (.t 23))), (oQ 25 22 true (.bin false .eql (.t 24) (cI 1))), (oP 26 (.pick (.t 22) (.t 25) (cB false))), (oV 27 26), (oQ 28 27 true (.mv (.t 5))), (oP 29 (.pick (.t 27) (.t 28) (cB false))), (oV 30 29), (oQ 31 30 true (.mv (.t 4))), (oQ 32 30 true (.bin false .eql (.t 31) (.c (.v (.string (ByteArray.mk #[49, 32, 50])))))), (oP 33 (.pick (.t 30) (.t 32) (cB false))), (oV 34 33), (oQ 35 34 true (.mv (.t 1))), (oQ 36 34 true (.ix 4 (.t 35) (cI 0))), (oQ 37 34 true (.fa 3 (.t 36))), (oG 38 34 true (.m (.ld false 1 (.t 37)))), (oQ 39 34 true (.bin false .eql (.t 38) (cI 2))), (oP 40 (.pick (.t 34) (.t 39) (cB false))), (oV 0 40)]) .rt))))
def rv_f14 : List (RV × Option Ty) := [((.t 0), some .bool)]
def g_f14 : G := ⟨TYs, [], 41, EL [(29, sp_f29), (45, sp_f45)], keeps, (fun _ _ => none), IL [], RL []⟩
def r_f14  : Option (V × List VO) :=
 br ((getOk ((parF (ByteArray.mk #[91, 97, 93, 10, 120, 32, 61, 32, 49, 32, 92, 10, 32, 32, 50, 10])).1) (ByteArray.mk #[97]) (ByteArray.mk #[120])))
  (br ((ieq (((parF (ByteArray.mk #[91, 97, 93, 10, 120, 32, 61, 32, 49, 32, 92, 10, 32, 32, 50, 10])).2).2) 0))
   (br ((ieq (((parF (ByteArray.mk #[91, 97, 93, 10, 120, 32, 61, 32, 49, 32, 92, 10, 32, 32, 50, 10])).2).1) 0))
    (br ((ieq (llen ((parF (ByteArray.mk #[91, 97, 93, 10, 120, 32, 61, 32, 49, 32, 92, 10, 32, 32, 50, 10])).1)) 1))
     (br ((getF ((parF (ByteArray.mk #[91, 97, 93, 10, 120, 32, 61, 32, 49, 32, 92, 10, 32, 32, 50, 10])).1) (ByteArray.mk #[97]) (ByteArray.mk #[120])).2)
      (br ((seq ((getF ((parF (ByteArray.mk #[91, 97, 93, 10, 120, 32, 61, 32, 49, 32, 92, 10, 32, 32, 50, 10])).1) (ByteArray.mk #[97]) (ByteArray.mk #[120])).1) (ByteArray.mk #[49, 32, 50])))
       (br (cIx ((parF (ByteArray.mk #[91, 97, 93, 10, 120, 32, 61, 32, 49, 32, 92, 10, 32, 32, 50, 10])).1) 0)
        (some (.t .bool (ieq (((((lgt tySetting ((parF (ByteArray.mk #[91, 97, 93, 10, 120, 32, 61, 32, 49, 32, 92, 10, 32, 32, 50, 10])).1) (Int.toNat 0)).2).2).2).1) 2), []))
        (none))
       (some (.t .bool false, [])))
      (some (.t .bool false, [])))
     (some (.t .bool false, [])))
    (some (.t .bool false, [])))
   (some (.t .bool false, [])))
  (none)
theorem e_f14  : runF g_f14 tc_f14 rv_f14 false [] [] = r_f14  := by kernel_rfl
theorem ok_f14 : Option.map (trC Tryd.prog) Tryd.f14.body = some tc_f14.er := by kernel_rfl
theorem rok_f14 : trVs Tryd.prog Tryd.f14.results.toList = some (rv_f14.map Prod.fst) := by kernel_rfl
theorem en_f14 : Entered Tryd.prog 14 := .inr ⟨by decide, _, Tryd.func14, by kernel_rfl, by kernel_rfl⟩
theorem gk_f14 : GOk Tryd.prog g_f14 := gok_of _ (by
 intro p hp
 simp only [List.mem_cons, List.not_mem_nil, or_false] at hp
 rcases hp with rfl | rfl
 ·exact ⟨en_f29, ms_f29⟩
 ·exact ⟨en_f45, ms_f45⟩)
theorem lk_f14 : tc_f14.lok g_f14 := by repeat (first | exact trivial | refine ⟨?_, ?_⟩)
theorem s_f14 : r_f14 = some (.t .bool awkT, []) := by kernel_rfl
def sp_f14 : Ent := spec .nil (fun x => true) (fun x => (.t .bool awkT))
theorem ms_f14 : Meets Tryd.prog 14 (strip sp_f14) := by
 obtain ⟨c, hc, hi⟩ := Option.map_eq_some_iff.1 ok_f14
 exact meets_spec (R := runF g_f14 tc_f14 rv_f14 false) (meets_of (by decide) Tryd.func14 hc hi Tryd.ntmps14 rok_f14 gk_f14 lk_f14 mixed) fun x _ => (e_f14 ).trans (s_f14 )
end
end Go.Proofs.YtkkoedniahnneaaDoor.K
