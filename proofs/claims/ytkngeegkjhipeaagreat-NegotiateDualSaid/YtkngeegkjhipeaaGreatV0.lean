import Derived.Test.YtkngeegkjhipeaaGreatKD
import Derived.Test.YtkngeegkjhipeaaGreatProg
set_option linter.unusedSimpArgs false
set_option linter.unusedVariables false
namespace Go.Proofs.YtkngeegkjhipeaaGreat.K
open Go.RowKit
def cregs : Code → List (Array Oper)
 | .region _ ops _ => [ops]
 | .seq a b => cregs a ++ cregs b
 | .cond _ a b => cregs a ++ cregs b
 | .rangeFunc _ _ a b => cregs a ++ cregs b
 | .block _ c => cregs c
 | .loop c => cregs c
 | _ => []
noncomputable def opsT (f : Func) (i : Nat) : Array Oper := match f.body with
 | some c => (cregs c).getD i #[]
 | none => #[]
noncomputable def rT (f : Func) (i : Nat) : List RO := (opsT f i).toList.map (trR Tryz.prog (opsT f i))
noncomputable def dT (f : Func) (i : Nat) : List DO := (opsT f i).toList.map (trD Tryz.prog (opsT f i))
abbrev tI : Ty := .int .i64
abbrev Qg4 : Ty := (.pr tI (.pr tI (.pr .bool (.pr (.int .u8) .nil))))
abbrev Qcw : Ty := (.pr .str (.pr (.int .u64) .nil))
abbrev Qam : Ty := (.pr tI (.pr tI .nil))
abbrev Keep : Type := Int × (Int × Unit)
abbrev Qab : Ty := (.pr tI (.pr .str (.pr .str (.pr Qam (.pr tI (.pr Qam (.pr tI (.pr tI (.pr .bool (.pr tI (.pr (.sl .str) (.pr Qam .nil))))))))))))
abbrev Qaa : Type := Int × (ByteArray × (ByteArray × (Keep × (Int × (Keep × (Int × (Int × (Bool × (Int × ((List ByteArray) × (Keep × Unit)))))))))))
abbrev Qak : Ty := (.pr Qam (.pr tI (.pr (.sl Qab) .nil)))
abbrev Qal : Type := Keep × (Int × ((List Qaa) × Unit))
abbrev Qai : Ty := (.pr .str (.pr tI (.pr tI (.pr (.sl tI) (.pr .bool (.pr (.sl Qak) (.pr (.sl tI) (.pr (.sl tI) (.pr .bool .nil)))))))))
abbrev Qad : Type := ByteArray × (Int × (Int × ((List Int) × (Bool × ((List Qal) × ((List Int) × ((List Int) × (Bool × Unit))))))))
abbrev Qaw : Ty := (.pr tI (.pr .str (.pr Qam (.pr Qam (.pr Qam (.pr Qam (.pr tI (.pr tI .nil))))))))
abbrev Suite : Type := Int × (ByteArray × (Keep × (Keep × (Keep × (Keep × (Int × (Int × Unit)))))))
abbrev Qau : Ty := (.pr (.sl tI) (.pr tI .nil))
abbrev Dice : Type := (List Int) × (Int × Unit)
abbrev QdU : Ty := (.pr Qai (.pr tI (.pr (.sl tI) .nil)))
abbrev Talk : Type := Qad × (Int × ((List Int) × Unit))
abbrev QcA : Ty := (.pr .str (.pr tI .nil))
abbrev tyRow : Ty := (.pr .str (.pr tI (.pr tI (.pr (.sl tI) (.pr (.sl tI) .nil)))))
abbrev Row : Type := ByteArray × (Int × (Int × ((List Int) × ((List Int) × Unit))))
def TYl : List (Nat × Ty) := [(2, tI), (3, tI), (4, .bool), (5, (.int .u8)), (6, (.int .u8)), (7, Qg4), (8, Qg4), (9, .str), (10, .str), (11, .str), (12, (.int .u64)), (13, Qcw), (14, Qcw), (21, (.int .i32)), (22, (.sl tI)), (27, (.sl Qak)), (28, Qai), (29, Qai), (35, Qam), (36, Qam), (37, tI), (42, (.sl Qam)), (46, (.sl Qam)), (51, Qam), (52, Qam), (53, Qaw), (54, Qaw), (58, (.sl Qab)), (59, Qak), (60, Qak), (65, Qau), (66, Qau), (74, QdU), (75, QdU), (87, (.sl Qaw)), (92, (.sl (.sl tI))), (94, (.sl .str)), (95, Qam), (96, Qam), (97, Qab), (98, Qab), (104, Qam), (106, (.pr tI (.pr tI (.pr tI .nil)))), (110, (.sl tI)), (128, QcA), (129, QcA), (130, (.sl QcA)), (135, (.int .u64)), (136, (.sl (.int .u8))), (145, tI), (152, (.int .u32)), (154, (.int .u64)), (156, tyRow), (157, tyRow), (161, (.sl Qah)), (162, (.pr tI (.pr (.sl (.int .u8)) (.pr .bool (.pr (.sl Qah) .nil))))), (163, Qah), (165, (.int .u64)), (171, (.pr tyRow (.pr tyRow (.pr tyRow (.pr tyRow (.pr tyRow (.pr tyRow (.pr tyRow (.pr tyRow (.pr tyRow (.pr tyRow (.pr tyRow (.pr tyRow (.pr tyRow (.pr tyRow (.pr tyRow (.pr tyRow (.pr tyRow (.pr tyRow (.pr tyRow (.pr tyRow (.pr tyRow (.pr tyRow (.pr tyRow .nil)))))))))))))))))))))))), (186, Qam), (187, (.pr Qam (.pr Qam (.pr Qam (.pr Qam (.pr Qam .nil)))))), (201, (.int .u8)), (202, (.int .u8)), (205, (.int .i32)), (206, (.int .i32))]
def TYs (e : Nat) : Option Ty := TYl.lookup e
def keeps : List Nat := [72]
theorem mixed : Tryz.prog.follows .mixedOrders = true := by kernel_rfl
def Qfh : Ent := spec (.pr Qam (.pr tI .nil)) (fun x => (arrOk tI 2 x.1 x.2.1)) (fun x => (.t tI (Qbd tI 2 x.1 x.2.1)))
theorem QnC : Qag Tryz.prog 1001666 := .inl (by kernel_rfl)
theorem Qm2 : Meets Tryz.prog 1001666 (strip Qfh) := QeE (t := 104) (e := 37) (n := 2) (y := tI) (k := .i64) (by kernel_rfl) (by kernel_rfl) (by kernel_rfl) (by decide)
def Qfg : Ent := spec (.pr (.pr tI (.pr tI (.pr tI .nil))) (.pr tI .nil)) (fun x => (arrOk tI 3 x.1 x.2.1)) (fun x => (.t tI (Qbd tI 3 x.1 x.2.1)))
theorem QnB : Qag Tryz.prog 1001698 := .inl (by kernel_rfl)
theorem Qm1 : Meets Tryz.prog 1001698 (strip Qfg) := QeE (t := 106) (e := 37) (n := 3) (y := tI) (k := .i64) (by kernel_rfl) (by kernel_rfl) (by kernel_rfl) (by decide)
def Qff : Ent := spec (.pr (.pr tyRow (.pr tyRow (.pr tyRow (.pr tyRow (.pr tyRow (.pr tyRow (.pr tyRow (.pr tyRow (.pr tyRow (.pr tyRow (.pr tyRow (.pr tyRow (.pr tyRow (.pr tyRow (.pr tyRow (.pr tyRow (.pr tyRow (.pr tyRow (.pr tyRow (.pr tyRow (.pr tyRow (.pr tyRow (.pr tyRow .nil))))))))))))))))))))))) (.pr tI .nil)) (fun x => (arrOk tyRow 23 x.1 x.2.1)) (fun x => (.t tyRow (Qbd tyRow 23 x.1 x.2.1)))
theorem QnA : Qag Tryz.prog 1002738 := .inl (by kernel_rfl)
theorem Qm0 : Meets Tryz.prog 1002738 (strip Qff) := QeE (t := 171) (e := 157) (n := 23) (y := tyRow) (k := .i64) (by kernel_rfl) (by kernel_rfl) (by kernel_rfl) (by decide)
def Qfe : Ent := spec (.pr (.pr Qam (.pr Qam (.pr Qam (.pr Qam (.pr Qam .nil))))) (.pr tI .nil)) (fun x => (arrOk Qam 5 x.1 x.2.1)) (fun x => (.t Qam (Qbd Qam 5 x.1 x.2.1)))
theorem Qnz : Qag Tryz.prog 1002994 := .inl (by kernel_rfl)
theorem QmZ : Meets Tryz.prog 1002994 (strip Qfe) := QeE (t := 187) (e := 186) (n := 5) (y := Qam) (k := .i64) (by kernel_rfl) (by kernel_rfl) (by kernel_rfl) (by decide)
def QaX : Ent := spec (.pr .str .nil) (fun x => (Qa3 x.1)) (fun x => (.t (.sl (.int .u8)) (QaH x.1)))
theorem Qbc : Qag Tryz.prog 22760144 := .inl (by kernel_rfl)
theorem Qba : Meets Tryz.prog 22760144 (strip QaX) := Qvn (a := 9) (b := 136) (e := 5) (by kernel_rfl) (by kernel_rfl) (by kernel_rfl) (by decide)
theorem mG {g : G} {f : FuncId} {fn : Func} {tc : TC} {rv : List (RV × Option Ty)} {ro : Bool} (hf : Tryz.prog.funcs[f]? = some fn) (ok : Option.map (trC Tryz.prog) fn.body = some tc.er) (hn : fn.ntmps = g.n) (hr : trVs Tryz.prog fn.results.toList = some (rv.map Prod.fst)) (hg : GOk Tryz.prog g) (hl : tc.lok g) (hlt : f < 1000000 := by decide) : Meets Tryz.prog f (runF g tc rv ro) := by
 obtain ⟨c, hc, hi⟩ := Option.map_eq_some_iff.1 ok
 exact QHO hlt hf hc hi hn hr hg hl mixed
def AllE : List (Nat × Ent) → Prop
 | [] => True
 | p :: l => (Qag Tryz.prog p.1 ∧ Meets Tryz.prog p.1 (strip p.2)) ∧ AllE l
theorem gA : ∀ {l : List (Nat × Ent)}, AllE l → ∀ p ∈ l, Qag Tryz.prog p.1 ∧ Meets Tryz.prog p.1 (strip p.2)
 | [], _, p, hp => by cases hp
 | q :: l, h, p, hp => by
  rcases List.mem_cons.1 hp with rfl | hp
  ·exact h.1
  ·exact gA h.2 p hp
theorem gC {k : Nat} {e : Ent} {l : List (Nat × Ent)} (h1 : Qag Tryz.prog k) (h2 : Meets Tryz.prog k (strip e)) (h : AllE l) : AllE ((k, e) :: l) := ⟨⟨h1, h2⟩, h⟩
theorem gN : AllE [] := trivial
end Go.Proofs.YtkngeegkjhipeaaGreat.K
