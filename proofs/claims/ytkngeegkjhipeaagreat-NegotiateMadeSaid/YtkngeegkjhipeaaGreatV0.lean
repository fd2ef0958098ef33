import Derived.Test.YtkngeegkjhipeaaGreatKD
import Derived.Test.YtkngeegkjhipeaaGreatProg
set_option linter.unusedSimpArgs false
set_option linter.unusedVariables false
namespace Go.Proofs.YtkngeegkjhipeaaGreat.K
open Go.RowKit
def cregs : Code → List (Array Oper)
 | .region _ ops _ => [ops]
 | .seq a b => cregs a ++ cregs b
 | .cond _ a b => cregs a ++ cregs b
 | .rangeFunc _ _ a b => cregs a ++ cregs b
 | .block _ c => cregs c
 | .loop c => cregs c
 | _ => []
noncomputable def opsT (f : Func) (i : Nat) : Array Oper := match f.body with
 | some c => (cregs c).getD i #[]
 | none => #[]
noncomputable def rT (f : Func) (i : Nat) : List RO := (opsT f i).toList.map (trR Tryz.prog (opsT f i))
noncomputable def dT (f : Func) (i : Nat) : List DO := (opsT f i).toList.map (trD Tryz.prog (opsT f i))
abbrev tI : Ty := .int .i64
abbrev QhF : Ty := (.pr tI (.pr tI (.pr .bool (.pr (.int .u8) .nil))))
abbrev QcH : Ty := (.pr .str (.pr (.int .u64) .nil))
abbrev Qah : Ty := (.pr tI (.pr tI .nil))
abbrev Keep : Type := Int × (Int × Unit)
abbrev Qab : Ty := (.pr tI (.pr .str (.pr .str (.pr Qah (.pr tI (.pr Qah (.pr tI (.pr tI (.pr .bool (.pr tI (.pr (.sl .str) (.pr Qah .nil))))))))))))
abbrev Qaa : Type := Int × (ByteArray × (ByteArray × (Keep × (Int × (Keep × (Int × (Int × (Bool × (Int × ((List ByteArray) × (Keep × Unit)))))))))))
abbrev Qam : Ty := (.pr Qah (.pr tI (.pr (.sl Qab) .nil)))
abbrev Qaq : Type := Keep × (Int × ((List Qaa) × Unit))
abbrev Qae : Ty := (.pr .str (.pr tI (.pr tI (.pr (.sl tI) (.pr .bool (.pr (.sl Qam) (.pr (.sl tI) (.pr (.sl tI) (.pr .bool .nil)))))))))
abbrev Qad : Type := ByteArray × (Int × (Int × ((List Int) × (Bool × ((List Qaq) × ((List Int) × ((List Int) × (Bool × Unit))))))))
abbrev Qax : Ty := (.pr tI (.pr .str (.pr Qah (.pr Qah (.pr Qah (.pr Qah (.pr tI (.pr tI .nil))))))))
abbrev Suite : Type := Int × (ByteArray × (Keep × (Keep × (Keep × (Keep × (Int × (Int × Unit)))))))
abbrev Qat : Ty := (.pr (.sl tI) (.pr tI .nil))
abbrev Dice : Type := (List Int) × (Int × Unit)
abbrev Qei : Ty := (.pr Qae (.pr tI (.pr (.sl tI) .nil)))
abbrev Talk : Type := Qad × (Int × ((List Int) × Unit))
abbrev QcL : Ty := (.pr .str (.pr tI .nil))
abbrev tyRow : Ty := (.pr .str (.pr tI (.pr tI (.pr (.sl tI) (.pr (.sl tI) .nil)))))
abbrev Row : Type := ByteArray × (Int × (Int × ((List Int) × ((List Int) × Unit))))
def TYl : List (Nat × Ty) := [(2, tI), (3, tI), (4, .bool), (5, (.int .u8)), (6, (.int .u8)), (7, QhF), (8, QhF), (9, .str), (10, .str), (11, .str), (12, (.int .u64)), (13, QcH), (14, QcH), (21, (.int .i32)), (22, (.sl tI)), (27, (.sl Qam)), (28, Qae), (29, Qae), (35, Qah), (36, Qah), (37, tI), (42, (.sl Qah)), (46, (.sl Qah)), (51, Qah), (52, Qah), (53, Qax), (54, Qax), (58, (.sl Qab)), (59, Qam), (60, Qam), (65, Qat), (66, Qat), (74, Qei), (75, Qei), (87, (.sl Qax)), (92, (.sl (.sl tI))), (94, (.sl .str)), (95, Qah), (96, Qah), (97, Qab), (98, Qab), (104, Qah), (106, (.pr tI (.pr tI (.pr tI .nil)))), (110, (.sl tI)), (128, QcL), (129, QcL), (130, (.sl QcL)), (135, (.int .u64)), (136, (.sl (.int .u8))), (145, tI), (152, (.int .u32)), (154, (.int .u64)), (156, tyRow), (157, tyRow), (161, (.sl Qak)), (162, (.pr tI (.pr (.sl (.int .u8)) (.pr .bool (.pr (.sl Qak) .nil))))), (163, Qak), (165, (.int .u64)), (171, (.pr tyRow (.pr tyRow (.pr tyRow (.pr tyRow (.pr tyRow (.pr tyRow (.pr tyRow (.pr tyRow (.pr tyRow (.pr tyRow (.pr tyRow (.pr tyRow (.pr tyRow (.pr tyRow (.pr tyRow (.pr tyRow (.pr tyRow (.pr tyRow (.pr tyRow (.pr tyRow (.pr tyRow (.pr tyRow (.pr tyRow .nil)))))))))))))))))))))))), (186, Qah), (187, (.pr Qah (.pr Qah (.pr Qah (.pr Qah (.pr Qah .nil)))))), (201, (.int .u8)), (202, (.int .u8)), (205, (.int .i32)), (206, (.int .i32))]
def TYs (e : Nat) : Option Ty := TYl.lookup e
def keeps : List Nat := [72]
theorem mixed : Tryz.prog.follows .mixedOrders = true := by kernel_rfl
def QfR : Ent := spec (.pr Qah (.pr tI .nil)) (fun x => (arrOk tI 2 x.1 x.2.1)) (fun x => (.t tI (Qbl tI 2 x.1 x.2.1)))
theorem Qpj : Qai Tryz.prog 1001666 := .inl (by kernel_rfl)
theorem QoJ : Meets Tryz.prog 1001666 (strip QfR) := Qfg (t := 104) (e := 37) (n := 2) (y := tI) (k := .i64) (by kernel_rfl) (by kernel_rfl) (by kernel_rfl) (by decide)
def QfQ : Ent := spec (.pr (.pr tI (.pr tI (.pr tI .nil))) (.pr tI .nil)) (fun x => (arrOk tI 3 x.1 x.2.1)) (fun x => (.t tI (Qbl tI 3 x.1 x.2.1)))
theorem Qpi : Qai Tryz.prog 1001698 := .inl (by kernel_rfl)
theorem QoI : Meets Tryz.prog 1001698 (strip QfQ) := Qfg (t := 106) (e := 37) (n := 3) (y := tI) (k := .i64) (by kernel_rfl) (by kernel_rfl) (by kernel_rfl) (by decide)
def QfP : Ent := spec (.pr (.pr tyRow (.pr tyRow (.pr tyRow (.pr tyRow (.pr tyRow (.pr tyRow (.pr tyRow (.pr tyRow (.pr tyRow (.pr tyRow (.pr tyRow (.pr tyRow (.pr tyRow (.pr tyRow (.pr tyRow (.pr tyRow (.pr tyRow (.pr tyRow (.pr tyRow (.pr tyRow (.pr tyRow (.pr tyRow (.pr tyRow .nil))))))))))))))))))))))) (.pr tI .nil)) (fun x => (arrOk tyRow 23 x.1 x.2.1)) (fun x => (.t tyRow (Qbl tyRow 23 x.1 x.2.1)))
theorem Qph : Qai Tryz.prog 1002738 := .inl (by kernel_rfl)
theorem QoH : Meets Tryz.prog 1002738 (strip QfP) := Qfg (t := 171) (e := 157) (n := 23) (y := tyRow) (k := .i64) (by kernel_rfl) (by kernel_rfl) (by kernel_rfl) (by decide)
def QfO : Ent := spec (.pr (.pr Qah (.pr Qah (.pr Qah (.pr Qah (.pr Qah .nil))))) (.pr tI .nil)) (fun x => (arrOk Qah 5 x.1 x.2.1)) (fun x => (.t Qah (Qbl Qah 5 x.1 x.2.1)))
theorem Qpg : Qai Tryz.prog 1002994 := .inl (by kernel_rfl)
theorem QoG : Meets Tryz.prog 1002994 (strip QfO) := Qfg (t := 187) (e := 186) (n := 5) (y := Qah) (k := .i64) (by kernel_rfl) (by kernel_rfl) (by kernel_rfl) (by decide)
def QaX : Ent := spec (.pr .str .nil) (fun x => (Qa6 x.1)) (fun x => (.t (.sl (.int .u8)) (QaG x.1)))
theorem Qbj : Qai Tryz.prog 22760144 := .inl (by kernel_rfl)
theorem Qbg : Meets Tryz.prog 22760144 (strip QaX) := Qyi (a := 9) (b := 136) (e := 5) (by kernel_rfl) (by kernel_rfl) (by kernel_rfl) (by decide)
theorem mG {g : G} {f : FuncId} {fn : Func} {tc : TC} {rv : List (RV × Option Ty)} {ro : Bool} (hf : Tryz.prog.funcs[f]? = some fn) (ok : Option.map (trC Tryz.prog) fn.body = some tc.er) (hn : fn.ntmps = g.n) (hr : trVs Tryz.prog fn.results.toList = some (rv.map Prod.fst)) (hg : GOk Tryz.prog g) (hl : tc.lok g) (hlt : f < 1000000 := by decide) : Meets Tryz.prog f (runF g tc rv ro) := by
 obtain ⟨c, hc, hi⟩ := Option.map_eq_some_iff.1 ok
 exact QLz hlt hf hc hi hn hr hg hl mixed
def AllE : List (Nat × Ent) → Prop
 | [] => True
 | p :: l => (Qai Tryz.prog p.1 ∧ Meets Tryz.prog p.1 (strip p.2)) ∧ AllE l
theorem gA : ∀ {l : List (Nat × Ent)}, AllE l → ∀ p ∈ l, Qai Tryz.prog p.1 ∧ Meets Tryz.prog p.1 (strip p.2)
 | [], _, p, hp => by cases hp
 | q :: l, h, p, hp => by
  rcases List.mem_cons.1 hp with rfl | hp
  ·exact h.1
  ·exact gA h.2 p hp
theorem gC {k : Nat} {e : Ent} {l : List (Nat × Ent)} (h1 : Qai Tryz.prog k) (h2 : Meets Tryz.prog k (strip e)) (h : AllE l) : AllE ((k, e) :: l) := ⟨⟨h1, h2⟩, h⟩
theorem gN : AllE [] := trivial
end Go.Proofs.YtkngeegkjhipeaaGreat.K
