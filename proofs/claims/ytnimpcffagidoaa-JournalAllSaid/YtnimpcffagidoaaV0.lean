/-
 The types of the program, in short.
-/
import Derived.Test.YtnimpcffagidoaaKD
import Derived.Test.YtnimpcffagidoaaProg
set_option linter.unusedSimpArgs false
set_option linter.unusedVariables false
namespace Go.Proofs.Ytnimpcffagidoaa.K
open Go.RowKit
def cregs : Code → List (Array Oper)
 | .region _ ops _ => [ops]
 | .seq a b => cregs a ++ cregs b
 | .cond _ a b => cregs a ++ cregs b
 | .rangeFunc _ _ a b => cregs a ++ cregs b
 | .block _ c => cregs c
 | .loop c => cregs c
 | _ => []
noncomputable def opsT (f : Func) (i : Nat) : Array Oper := match f.body with
 | some c => (cregs c).getD i #[]
 | none => #[]
noncomputable def rT (f : Func) (i : Nat) : List RO := (opsT f i).toList.map (trR Try.prog (opsT f i))
noncomputable def dT (f : Func) (i : Nat) : List DO := (opsT f i).toList.map (trD Try.prog (opsT f i))
abbrev tI : Ty := .int .i64
abbrev tyBoundsError : Ty := (.pr tI (.pr tI (.pr .bool (.pr (.int .u8) .nil))))
abbrev tyErrorAddressString : Ty := (.pr .str (.pr (.int .u64) .nil))
abbrev tyDecision : Ty := (.pr tI (.pr tI (.pr tI (.pr tI (.pr tI .nil)))))
abbrev Decision : Type := Int × (Int × (Int × (Int × (Int × Unit))))
abbrev tyLedger : Ty := (.pr (.sl tyDecision) .nil)
abbrev Ledger : Type := (List Decision) × Unit
abbrev tyDice : Ty := (.pr (.sl tI) (.pr tI .nil))
abbrev Dice : Type := (List Int) × (Int × Unit)
def TYl : List (Nat × Ty) := [(2, tI), (3, tI), (4, .bool), (5, (.int .u8)), (6, (.int .u8)), (7, tyBoundsError), (8, tyBoundsError), (9, .str), (10, .str), (11, .str), (12, (.int .u64)), (13, tyErrorAddressString), (14, tyErrorAddressString), (21, (.int .i32)), (24, (.sl (.int .u8))), (26, (.sl tI)), (27, (.int .u16)), (29, (.sl tyDecision)), (30, tyLedger), (31, tyLedger), (39, tyDecision), (40, tyDecision), (41, tI), (63, (.sl tyLedger)), (64, (.pr tI (.pr tI (.pr tI .nil)))), (65, (.sl (.pr tI (.pr tI (.pr tI .nil))))), (71, (.sl .str)), (77, (.int .u32)), (78, tyDice), (79, tyDice), (80, (.pr (.int .u8) (.pr (.int .u8) (.pr (.int .u8) (.pr (.int .u8) (.pr (.int .u8) (.pr (.int .u8) (.pr (.int .u8) (.pr (.int .u8) (.pr (.int .u8) (.pr (.int .u8) (.pr (.int .u8) (.pr (.int .u8) .nil))))))))))))), (92, (.int .u64)), (103, (.int .u8)), (104, (.int .u8)), (107, (.int .i32)), (108, (.int .i32))]
def TYs (e : Nat) : Option Ty := TYl.lookup e
def keeps : List Nat := []
theorem mixed : Try.prog.follows .mixedOrders = true := by kernel_rfl
def sp_op_convert_24_9 : Ent := spec (.pr (.sl (.int .u8)) .nil) (fun x => true) (fun x => (.t .str (strOf x.1)))
theorem en_op_convert_24_9 : Entered Try.prog 2440384 := .inl (by kernel_rfl)
theorem ms_op_convert_24_9 : Meets Try.prog 2440384 (strip sp_op_convert_24_9) := meets_string (a := 24) (b := 9) (e := 5) (by kernel_rfl) (by kernel_rfl) (by kernel_rfl) (by decide)
def sp_op_convert_9_24_O : Ent := specO (.pr .str .nil) (fun x => (bytesOk x.1)) (fun x => (.ms 50000)) (fun x => [.arr 1000005 (.int .u8) (bytesL x.1)])
theorem en_op_convert_9_24_O : Entered Try.prog 4840144 := .inl (by kernel_rfl)
theorem ms_op_convert_9_24_O : Meets Try.prog 4840144 (strip sp_op_convert_9_24_O) := meets_bytesO (a := 9) (b := 24) (e := 5) (by kernel_rfl) (by kernel_rfl) (by kernel_rfl) (by decide)
theorem mG {g : G} {f : FuncId} {fn : Func} {tc : TC} {rv : List (RV × Option Ty)} {ro : Bool} (hf : Try.prog.funcs[f]? = some fn) (ok : Option.map (trC Try.prog) fn.body = some tc.er) (hn : fn.ntmps = g.n) (hr : trVs Try.prog fn.results.toList = some (rv.map Prod.fst)) (hg : GOk Try.prog g) (hl : tc.lok g) (hlt : f < 1000000 := by decide) : Meets Try.prog f (runF g tc rv ro) := by
 obtain ⟨c, hc, hi⟩ := Option.map_eq_some_iff.1 ok
 exact meets_of hlt hf hc hi hn hr hg hl mixed
def AllE : List (Nat × Ent) → Prop
 | [] => True
 | p :: l => (Entered Try.prog p.1 ∧ Meets Try.prog p.1 (strip p.2)) ∧ AllE l
theorem gA : ∀ {l : List (Nat × Ent)}, AllE l → ∀ p ∈ l, Entered Try.prog p.1 ∧ Meets Try.prog p.1 (strip p.2)
 | [], _, p, hp => by cases hp
 | q :: l, h, p, hp => by
  rcases List.mem_cons.1 hp with rfl | hp
  ·exact h.1
  ·exact gA h.2 p hp
theorem gC {k : Nat} {e : Ent} {l : List (Nat × Ent)} (h1 : Entered Try.prog k) (h2 : Meets Try.prog k (strip e)) (h : AllE l) : AllE ((k, e) :: l) := ⟨⟨h1, h2⟩, h⟩
theorem gN : AllE [] := trivial
end Go.Proofs.Ytnimpcffagidoaa.K
