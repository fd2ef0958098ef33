/-
 The types of the program, in short.
-/
import Derived.Test.YtkkoedniahnneaaDoorKD
import Derived.Test.YtkkoedniahnneaaDoorProg
set_option linter.unusedSimpArgs false
set_option linter.unusedVariables false
namespace Go.Proofs.YtkkoedniahnneaaDoor.K
open Go.RowKit
def cregs : Code → List (Array Oper)
 | .region _ ops _ => [ops]
 | .seq a b => cregs a ++ cregs b
 | .cond _ a b => cregs a ++ cregs b
 | .rangeFunc _ _ a b => cregs a ++ cregs b
 | .block _ c => cregs c
 | .loop c => cregs c
 | _ => []
noncomputable def opsT (f : Func) (i : Nat) : Array Oper := match f.body with
 | some c => (cregs c).getD i #[]
 | none => #[]
noncomputable def rT (f : Func) (i : Nat) : List RO := (opsT f i).toList.map (trR Tryd.prog (opsT f i))
noncomputable def dT (f : Func) (i : Nat) : List DO := (opsT f i).toList.map (trD Tryd.prog (opsT f i))
abbrev tI : Ty := .int .i64
abbrev tyBoundsError : Ty := (.pr tI (.pr tI (.pr .bool (.pr (.int .u8) .nil))))
abbrev tyErrorAddressString : Ty := (.pr .str (.pr (.int .u64) .nil))
abbrev tySetting : Ty := (.pr .str (.pr .str (.pr .str (.pr tI .nil))))
abbrev Setting : Type := ByteArray × (ByteArray × (ByteArray × (Int × Unit)))
abbrev tyDice : Ty := (.pr (.sl tI) (.pr tI .nil))
abbrev Dice : Type := (List Int) × (Int × Unit)
abbrev tyParser : Ty := (.pr (.sl .str) (.pr tI (.pr .str (.pr (.sl tySetting) .nil))))
abbrev tyLexer : Ty := (.pr .str (.pr tI (.pr tI (.pr .bool .nil))))
abbrev tyToken : Ty := (.pr tI (.pr tI (.pr .str .nil)))
abbrev tyParserX : Ty := (.pr tyLexer (.pr tyToken (.pr tI (.pr tI (.pr (.sl tyBlkT) .nil)))))
abbrev tyTokenX : Ty := (.pr (.int .u8) (.pr .str (.pr .bool (.pr tI .nil))))
abbrev tyParserXX : Ty := (.pr tyLexer (.pr tyTokenX (.pr tI (.pr .bool .nil))))
abbrev tyAcceptRange : Ty := (.pr (.int .u8) (.pr (.int .u8) .nil))
def TYl : List (Nat × Ty) := [(2, tI), (3, tI), (4, .bool), (5, (.int .u8)), (6, (.int .u8)), (7, tyBoundsError), (8, tyBoundsError), (9, .str), (10, .str), (11, .str), (12, (.int .u64)), (13, tyErrorAddressString), (14, tyErrorAddressString), (21, (.int .i32)), (22, (.sl tI)), (28, (.sl (.int .u8))), (35, (.sl tyBlkT)), (36, (.sl .str)), (37, (.pr (.sl .str) (.pr .bool (.pr (.sl tyBlkT) (.pr tI .nil))))), (38, tyBlkT), (39, tI), (43, (.sl tySetting)), (44, tySetting), (45, tySetting), (70, tyDice), (71, tyDice), (90, tyParser), (91, tyParser), (103, tyLexer), (104, tyLexer), (105, tyToken), (106, tyToken), (107, tyParserX), (108, tyParserX), (119, tyLexer), (120, tyLexer), (121, tyTokenX), (122, tyTokenX), (123, tyParserXX), (124, tyParserXX), (148, (.int .u64)), (168, (.int .u32)), (171, (.int .u64)), (185, tyAcceptRange), (186, tyAcceptRange), (187, (.pr tyAcceptRange (.pr tyAcceptRange (.pr tyAcceptRange (.pr tyAcceptRange (.pr tyAcceptRange (.pr tyAcceptRange (.pr tyAcceptRange (.pr tyAcceptRange (.pr tyAcceptRange (.pr tyAcceptRange (.pr tyAcceptRange (.pr tyAcceptRange (.pr tyAcceptRange (.pr tyAcceptRange (.pr tyAcceptRange (.pr tyAcceptRange .nil))))))))))))))))), (193, (.int .u8)), (194, (.int .u8)), (196, (.int .i32)), (197, (.int .i32))]
def TYs (e : Nat) : Option Ty := TYl.lookup e
def keeps : List Nat := []
theorem mixed : Tryd.prog.follows .mixedOrders = true := by kernel_rfl
def sp_op_convert_9_28 : Ent := spec (.pr .str .nil) (fun x => (bytesOk x.1)) (fun x => (.t (.sl (.int .u8)) (bytesL x.1)))
theorem en_op_convert_9_28 : Entered Tryd.prog 5480144 := .inl (by kernel_rfl)
theorem ms_op_convert_9_28 : Meets Tryd.prog 5480144 (strip sp_op_convert_9_28) := meets_bytes (a := 9) (b := 28) (e := 5) (by kernel_rfl) (by kernel_rfl) (by kernel_rfl) (by decide)
theorem mG {g : G} {f : FuncId} {fn : Func} {tc : TC} {rv : List (RV × Option Ty)} {ro : Bool} (hf : Tryd.prog.funcs[f]? = some fn) (ok : Option.map (trC Tryd.prog) fn.body = some tc.er) (hn : fn.ntmps = g.n) (hr : trVs Tryd.prog fn.results.toList = some (rv.map Prod.fst)) (hg : GOk Tryd.prog g) (hl : tc.lok g) (hlt : f < 1000000 := by decide) : Meets Tryd.prog f (runF g tc rv ro) := by
 obtain ⟨c, hc, hi⟩ := Option.map_eq_some_iff.1 ok
 exact meets_of hlt hf hc hi hn hr hg hl mixed
def AllE : List (Nat × Ent) → Prop
 | [] => True
 | p :: l => (Entered Tryd.prog p.1 ∧ Meets Tryd.prog p.1 (strip p.2)) ∧ AllE l
theorem gA : ∀ {l : List (Nat × Ent)}, AllE l → ∀ p ∈ l, Entered Tryd.prog p.1 ∧ Meets Tryd.prog p.1 (strip p.2)
 | [], _, p, hp => by cases hp
 | q :: l, h, p, hp => by
  rcases List.mem_cons.1 hp with rfl | hp
  ·exact h.1
  ·exact gA h.2 p hp
theorem gC {k : Nat} {e : Ent} {l : List (Nat × Ent)} (h1 : Entered Tryd.prog k) (h2 : Meets Tryd.prog k (strip e)) (h : AllE l) : AllE ((k, e) :: l) := ⟨⟨h1, h2⟩, h⟩
theorem gN : AllE [] := trivial
end Go.Proofs.YtkkoedniahnneaaDoor.K
