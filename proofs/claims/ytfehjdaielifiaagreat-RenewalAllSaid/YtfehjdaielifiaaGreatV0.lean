/-
 The types of the program, in short.
-/
import Derived.Test.YtfehjdaielifiaaGreatKD
import Derived.Test.YtfehjdaielifiaaGreatProg
set_option linter.unusedSimpArgs false
set_option linter.unusedVariables false
namespace Go.Proofs.YtfehjdaielifiaaGreat.K
open Go.RowKit
abbrev tI : Ty := .int .i64
abbrev tyBoundsError : Ty := (.pr tI (.pr tI (.pr .bool (.pr (.int .u8) .nil))))
abbrev tyErrorAddressString : Ty := (.pr .str (.pr (.int .u64) .nil))
abbrev tyKeep : Ty := (.pr tI (.pr tI .nil))
abbrev Keep : Type := Int × (Int × Unit)
abbrev Keep.Alg (x : Keep) : Int := x.1
abbrev Keep.Bits (x : Keep) : Int := x.2.1
abbrev tyLink : Ty := (.pr tyKeep (.pr tI .nil))
abbrev Link : Type := Keep × (Int × Unit)
abbrev Link.Use (x : Link) : Keep := x.1
abbrev Link.Day (x : Link) : Int := x.2.1
abbrev tyItem : Ty := (.pr .str (.pr tI (.pr tI (.pr (.sl tyLink) (.pr tI .nil)))))
abbrev Item : Type := ByteArray × (Int × (Int × ((List Link) × (Int × Unit))))
abbrev Item.Name (x : Item) : ByteArray := x.1
abbrev Item.Kind (x : Item) : Int := x.2.1
abbrev Item.Purpose (x : Item) : Int := x.2.2.1
abbrev Item.Links (x : Item) : (List Link) := x.2.2.2.1
abbrev Item.Until (x : Item) : Int := x.2.2.2.2.1
abbrev tyRule : Ty := (.pr .bool (.pr tI (.pr tI (.pr tI (.pr tI (.pr tI .nil))))))
abbrev Rule : Type := Bool × (Int × (Int × (Int × (Int × (Int × Unit)))))
abbrev Rule.Allow (x : Rule) : Bool := x.1
abbrev Rule.Alg (x : Rule) : Int := x.2.1
abbrev Rule.Below (x : Rule) : Int := x.2.2.1
abbrev Rule.Purpose (x : Rule) : Int := x.2.2.2.1
abbrev Rule.From (x : Rule) : Int := x.2.2.2.2.1
abbrev Rule.To (x : Rule) : Int := x.2.2.2.2.2.1
abbrev tyPolicy : Ty := (.pr (.sl tyRule) (.pr (.sl tyKeep) .nil))
abbrev Policy : Type := (List Rule) × ((List Keep) × Unit)
abbrev Policy.Rules (x : Policy) : (List Rule) := x.1
abbrev Policy.Keeps (x : Policy) : (List Keep) := x.2.1
abbrev tyDice : Ty := (.pr (.sl tI) (.pr tI .nil))
abbrev Dice : Type := (List Int) × (Int × Unit)
abbrev Dice.L (x : Dice) : (List Int) := x.1
abbrev Dice.At (x : Dice) : Int := x.2.1
abbrev tyLinkX : Ty := (.pr tI (.pr tI (.pr .bool .nil)))
abbrev LinkX : Type := Int × (Int × (Bool × Unit))
abbrev LinkX.day (x : LinkX) : Int := x.1
abbrev LinkX.fall (x : LinkX) : Int := x.2.1
abbrev LinkX.falls (x : LinkX) : Bool := x.2.2.1
abbrev tyRow : Ty := (.pr .str (.pr tI (.pr tI (.pr (.sl tI) (.pr (.sl tI) .nil)))))
abbrev Row : Type := ByteArray × (Int × (Int × ((List Int) × ((List Int) × Unit))))
abbrev Row.name (x : Row) : ByteArray := x.1
abbrev Row.kind (x : Row) : Int := x.2.1
abbrev Row.way (x : Row) : Int := x.2.2.1
abbrev Row.sizes (x : Row) : (List Int) := x.2.2.2.1
abbrev Row.strengths (x : Row) : (List Int) := x.2.2.2.2.1
def TYl : List (Nat × Ty) := [(2, tI), (3, tI), (4, .bool), (5, (.int .u8)), (6, (.int .u8)), (7, tyBoundsError), (8, tyBoundsError), (9, .str), (10, .str), (11, .str), (12, (.int .u64)), (13, tyErrorAddressString), (14, tyErrorAddressString), (21, (.int .i32)), (22, (.sl tI)), (23, (.sl tyLink)), (24, tyItem), (25, tyItem), (30, (.sl tyRule)), (31, (.sl tyKeep)), (32, tyPolicy), (33, tyPolicy), (37, tyRule), (38, tyRule), (39, tyKeep), (40, tyKeep), (42, tI), (56, (.sl tyKeep)), (61, tyLink), (62, tyLink), (71, tyKeep), (72, (.sl tyKeep)), (73, (.sl tyItem)), (76, tyDice), (77, tyDice), (79, tyKeep), (80, tyKeep), (105, (.sl tyKeep)), (108, tyKeep), (109, tyKeep), (111, (.sl .str)), (112, (.sl tyLinkX)), (113, tyLinkX), (114, tyLinkX), (115, (.sl tyLinkX)), (116, (.sl tyLinkX)), (118, (.sl (.int .u8))), (132, tyRow), (133, tyRow), (145, (.pr tyRow (.pr tyRow (.pr tyRow (.pr tyRow (.pr tyRow (.pr tyRow (.pr tyRow (.pr tyRow (.pr tyRow (.pr tyRow (.pr tyRow (.pr tyRow (.pr tyRow (.pr tyRow (.pr tyRow (.pr tyRow (.pr tyRow (.pr tyRow (.pr tyRow (.pr tyRow (.pr tyRow (.pr tyRow (.pr tyRow .nil)))))))))))))))))))))))), (147, (.pr tyKeep (.pr tyKeep (.pr tyKeep (.pr tyKeep (.pr tyKeep .nil)))))), (148, (.int .u64)), (158, tI), (166, (.int .u32)), (168, (.int .u64)), (170, (.int .u64)), (185, (.int .u8)), (186, (.int .u8)), (189, (.int .i32)), (190, (.int .i32))]
def TYs (e : Nat) : Option Ty := TYl.lookup e
def keeps : List Nat := [112, 113]
theorem mixed : Tryz.prog.follows .mixedOrders = true := by kernel_rfl
def sp_op_index_145 : Ent := spec (.pr (.pr tyRow (.pr tyRow (.pr tyRow (.pr tyRow (.pr tyRow (.pr tyRow (.pr tyRow (.pr tyRow (.pr tyRow (.pr tyRow (.pr tyRow (.pr tyRow (.pr tyRow (.pr tyRow (.pr tyRow (.pr tyRow (.pr tyRow (.pr tyRow (.pr tyRow (.pr tyRow (.pr tyRow (.pr tyRow (.pr tyRow .nil))))))))))))))))))))))) (.pr tI .nil)) (fun x => (arrOk tyRow 23 x.1 x.2.1)) (fun x => (.t tyRow (arrGetI tyRow 23 x.1 x.2.1)))
theorem en_op_index_145 : Entered Tryz.prog 1002322 := .inl (by kernel_rfl)
theorem ms_op_index_145 : Meets Tryz.prog 1002322 (strip sp_op_index_145) := meets_index (t := 145) (e := 133) (n := 23) (y := tyRow) (k := .i64) (by kernel_rfl) (by kernel_rfl) (by kernel_rfl) (by decide)
def sp_op_index_147 : Ent := spec (.pr (.pr tyKeep (.pr tyKeep (.pr tyKeep (.pr tyKeep (.pr tyKeep .nil))))) (.pr tI .nil)) (fun x => (arrOk tyKeep 5 x.1 x.2.1)) (fun x => (.t tyKeep (arrGetI tyKeep 5 x.1 x.2.1)))
theorem en_op_index_147 : Entered Tryz.prog 1002354 := .inl (by kernel_rfl)
theorem ms_op_index_147 : Meets Tryz.prog 1002354 (strip sp_op_index_147) := meets_index (t := 147) (e := 71) (n := 5) (y := tyKeep) (k := .i64) (by kernel_rfl) (by kernel_rfl) (by kernel_rfl) (by decide)
def sp_op_convert_9_118 : Ent := spec (.pr .str .nil) (fun x => (bytesOk x.1)) (fun x => (.t (.sl (.int .u8)) (bytesL x.1)))
theorem en_op_convert_9_118 : Entered Tryz.prog 19880144 := .inl (by kernel_rfl)
theorem ms_op_convert_9_118 : Meets Tryz.prog 19880144 (strip sp_op_convert_9_118) := meets_bytes (a := 9) (b := 118) (e := 5) (by kernel_rfl) (by kernel_rfl) (by kernel_rfl) (by decide)
end Go.Proofs.YtfehjdaielifiaaGreat.K
