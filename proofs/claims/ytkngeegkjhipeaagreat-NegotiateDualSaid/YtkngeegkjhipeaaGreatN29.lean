import Derived.Test.YtkngeegkjhipeaaGreatN28
set_option linter.unusedSimpArgs false
set_option linter.unusedVariables false
namespace Go.Proofs.YtkngeegkjhipeaaGreat.K
open Go.RowKit
noncomputable section
def Qbv : Bool := true
noncomputable def tc_f8 : TC := (.sq (.reg (rT Tryz.f8 0)) (.sq (.reg (rT Tryz.f8 1)) (.sq (.reg (rT Tryz.f8 2)) (.sq (.reg (rT Tryz.f8 3)) (.sq (.reg (rT Tryz.f8 4)) (.sq (.reg (rT Tryz.f8 5)) .rt))))))
def rv_f8 : List (RV × Option Ty) := [((.t 0), some .bool)]
def g_f8 : G := ⟨TYs, [], 57, EL [(14, QAY), (19, QLg), (23, QLf), (30, QLb)], keeps, (fun _ _ => none), IL [], RL []⟩
def r_f8  : Option (V × List VO) :=
 let a1 := (simV (ByteArray.mk #[98]) true ([8, 10, 2]))
 let a2 := (simV (ByteArray.mk #[97]) false ([10, 8]))
 let a3 := (usesF a1 (3, (2, ())))
 let a4 := lgt Qam (Qby a2 a1) (Int.toNat 3)
 let a5 := lgt Qam (a3.1) (Int.toNat 0)
 br (QeV a2 a1 5) (br (Qcu a2 a1) (br (Qzh a1 (3, (2, ()))) (br (ieq ((QaU a2 a1 5).2) 29) (br (ieq (a3.2) 0) (br (ieq (llen (Qby a2 a1)) 4) (br (cIx (Qby a2 a1) 3) (br (and (ieq (a4.1) 3) (and (ieq ((a4.2).1) 10) true)) (br (ieq (llen (a3.1)) 4) (br (cIx (a3.1) 0) (some (.t .bool (and (ieq (a5.1) 10) (and (ieq ((a5.2).1) 2048) true)), [])) none) (some (.t .bool false, []))) (some (.t .bool false, []))) none) (some (.t .bool false, []))) (some (.t .bool false, []))) (some (.t .bool false, []))) none) none) none
theorem e_f8  : runF g_f8 tc_f8 rv_f8 false [] [] = r_f8  := by kernel_rfl
theorem en_f8 : Qag Tryz.prog 8 := .inr ⟨by decide, _, Tryz.func8, by kernel_rfl, by kernel_rfl⟩
theorem gk_f8 : GOk Tryz.prog g_f8 := Qan _ (gA (gC QMX QMF (gC en_f19 ms_f19 (gC en_f23 ms_f23 (gC en_f30 ms_f30 gN)))))
theorem lk_f8 : tc_f8.lok g_f8 := by repeat (first | exact trivial | refine ⟨?_, ?_⟩)
set_option maxRecDepth 100000 in
theorem s_f8 : r_f8 = some (.t .bool Qbv, []) := by kernel_rfl
def sp_f8 : Ent := spec .nil (fun x => true) (fun x => (.t .bool Qbv))
theorem ms_f8 : Meets Tryz.prog 8 (strip sp_f8) := Qaf (R := runF g_f8 tc_f8 rv_f8 false) (mG Tryz.func8 (by kernel_rfl) Tryz.ntmps8 (by kernel_rfl) gk_f8 lk_f8) fun x _ => (e_f8 ).trans (s_f8 )
end
end Go.Proofs.YtkngeegkjhipeaaGreat.K
