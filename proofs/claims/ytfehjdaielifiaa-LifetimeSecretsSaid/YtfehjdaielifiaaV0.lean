/-
  The types of the program, in short.
-/
import Derived.Test.YtfehjdaielifiaaKD
import Derived.Test.YtfehjdaielifiaaProg
set_option linter.unusedSimpArgs false
set_option linter.unusedVariables false
namespace Go.Proofs.Ytfehjdaielifiaa.K
open Go.RowKit
abbrev tI : Ty := .int .i64
abbrev tyBoundsError : Ty := (.pr tI (.pr tI (.pr .bool (.pr (.int .u8) .nil))))
abbrev BoundsError : Type := Int × (Int × (Bool × (Int × Unit)))
abbrev BoundsError.x (x : BoundsError) : Int := x.1
abbrev BoundsError.y (x : BoundsError) : Int := x.2.1
abbrev BoundsError.signed (x : BoundsError) : Bool := x.2.2.1
abbrev BoundsError.code (x : BoundsError) : Int := x.2.2.2.1
abbrev tyErrorAddressString : Ty := (.pr .str (.pr (.int .u64) .nil))
abbrev tyKeep : Ty := (.pr tI (.pr tI .nil))
abbrev Keep : Type := Int × (Int × Unit)
abbrev Keep.Alg (x : Keep) : Int := x.1
abbrev Keep.Bits (x : Keep) : Int := x.2.1
abbrev tyRule : Ty := (.pr .bool (.pr tI (.pr tI (.pr tI (.pr tI (.pr tI .nil))))))
abbrev Rule : Type := Bool × (Int × (Int × (Int × (Int × (Int × Unit)))))
abbrev Rule.Allow (x : Rule) : Bool := x.1
abbrev Rule.Alg (x : Rule) : Int := x.2.1
abbrev Rule.Below (x : Rule) : Int := x.2.2.1
abbrev Rule.Purpose (x : Rule) : Int := x.2.2.2.1
abbrev Rule.From (x : Rule) : Int := x.2.2.2.2.1
abbrev Rule.To (x : Rule) : Int := x.2.2.2.2.2.1
abbrev tyPolicy : Ty := (.pr (.sl tyRule) (.pr (.sl tyKeep) .nil))
abbrev Policy : Type := (List Rule) × ((List Keep) × Unit)
abbrev Policy.Rules (x : Policy) : (List Rule) := x.1
abbrev Policy.Keeps (x : Policy) : (List Keep) := x.2.1
abbrev tyLink : Ty := (.pr tyKeep (.pr tI .nil))
abbrev Link : Type := Keep × (Int × Unit)
abbrev Link.Use (x : Link) : Keep := x.1
abbrev Link.Day (x : Link) : Int := x.2.1
abbrev tyItem : Ty := (.pr .str (.pr tI (.pr tI (.pr (.sl tyLink) (.pr tI .nil)))))
abbrev Item : Type := ByteArray × (Int × (Int × ((List Link) × (Int × Unit))))
abbrev Item.Name (x : Item) : ByteArray := x.1
abbrev Item.Kind (x : Item) : Int := x.2.1
abbrev Item.Purpose (x : Item) : Int := x.2.2.1
abbrev Item.Links (x : Item) : (List Link) := x.2.2.2.1
abbrev Item.Until (x : Item) : Int := x.2.2.2.2.1
abbrev tyDice : Ty := (.pr (.sl tI) (.pr tI .nil))
abbrev Dice : Type := (List Int) × (Int × Unit)
abbrev Dice.L (x : Dice) : (List Int) := x.1
abbrev Dice.At (x : Dice) : Int := x.2.1
abbrev tyLinkX : Ty := (.pr tI (.pr tI (.pr .bool .nil)))
abbrev LinkX : Type := Int × (Int × (Bool × Unit))
abbrev LinkX.day (x : LinkX) : Int := x.1
abbrev LinkX.fall (x : LinkX) : Int := x.2.1
abbrev LinkX.falls (x : LinkX) : Bool := x.2.2.1
abbrev tyRow : Ty := (.pr .str (.pr tI (.pr tI (.pr (.sl tI) (.pr (.sl tI) .nil)))))
abbrev Row : Type := ByteArray × (Int × (Int × ((List Int) × ((List Int) × Unit))))
abbrev Row.name (x : Row) : ByteArray := x.1
abbrev Row.kind (x : Row) : Int := x.2.1
abbrev Row.way (x : Row) : Int := x.2.2.1
abbrev Row.sizes (x : Row) : (List Int) := x.2.2.2.1
abbrev Row.strengths (x : Row) : (List Int) := x.2.2.2.2.1
def TYl : List (Nat × Ty) := [(2, tI), (3, tI), (4, .bool), (5, (.int .u8)), (6, (.int .u8)), (7, tyBoundsError), (8, tyBoundsError), (9, .str), (10, .str), (11, .str), (12, (.int .u64)), (13, tyErrorAddressString), (14, tyErrorAddressString), (21, (.int .i32)), (22, (.sl tI)), (27, (.sl tyRule)), (28, (.sl tyKeep)), (29, tyPolicy), (30, tyPolicy), (32, (.sl tyLink)), (33, tyItem), (34, tyItem), (36, tI), (41, tyKeep), (42, tyKeep), (43, tyLink), (44, tyLink), (48, (.int .u16)), (50, tyRule), (51, tyRule), (57, tyDice), (58, tyDice), (61, tyKeep), (62, tyKeep), (63, (.sl tyKeep)), (69, (.sl tyKeep)), (72, tyKeep), (73, tyKeep), (82, (.sl tyLinkX)), (83, tyLinkX), (84, tyLinkX), (85, (.sl tyLinkX)), (86, (.sl tyLinkX)), (104, tyRow), (105, tyRow), (112, (.sl (.int .u8))), (114, (.pr tyRow (.pr tyRow (.pr tyRow (.pr tyRow (.pr tyRow (.pr tyRow (.pr tyRow (.pr tyRow (.pr tyRow (.pr tyRow (.pr tyRow (.pr tyRow (.pr tyRow (.pr tyRow (.pr tyRow (.pr tyRow (.pr tyRow (.pr tyRow (.pr tyRow (.pr tyRow (.pr tyRow (.pr tyRow (.pr tyRow .nil)))))))))))))))))))))))), (116, tyKeep), (117, (.pr tyKeep (.pr tyKeep (.pr tyKeep (.pr tyKeep (.pr tyKeep .nil)))))), (122, (.int .u64)), (128, tI), (136, (.int .u32)), (138, (.int .u64)), (140, (.int .u64)), (155, (.int .u8)), (156, (.int .u8)), (159, (.int .i32)), (160, (.int .i32))]
def TYs (e : Nat) : Option Ty := TYl.lookup e
def keeps : List Nat := [68, 69]
theorem mixed : Try.prog.follows .mixedOrders = true := by kernel_rfl
def sp_op_index_114 : Ent := spec (.pr (.pr tyRow (.pr tyRow (.pr tyRow (.pr tyRow (.pr tyRow (.pr tyRow (.pr tyRow (.pr tyRow (.pr tyRow (.pr tyRow (.pr tyRow (.pr tyRow (.pr tyRow (.pr tyRow (.pr tyRow (.pr tyRow (.pr tyRow (.pr tyRow (.pr tyRow (.pr tyRow (.pr tyRow (.pr tyRow (.pr tyRow .nil))))))))))))))))))))))) (.pr tI .nil)) (fun x => (arrOk tyRow 23 x.1 x.2.1)) (fun x => (.t tyRow (arrGetI tyRow 23 x.1 x.2.1)))
theorem en_op_index_114 : Entered Try.prog 1001826 := .inl (by kernel_rfl)
theorem ms_op_index_114 : Meets Try.prog 1001826 (strip sp_op_index_114) := meets_index (t := 114) (e := 105) (n := 23) (y := tyRow) (k := .i64) (by kernel_rfl) (by kernel_rfl) (by kernel_rfl) (by decide)
def sp_op_index_117 : Ent := spec (.pr (.pr tyKeep (.pr tyKeep (.pr tyKeep (.pr tyKeep (.pr tyKeep .nil))))) (.pr tI .nil)) (fun x => (arrOk tyKeep 5 x.1 x.2.1)) (fun x => (.t tyKeep (arrGetI tyKeep 5 x.1 x.2.1)))
theorem en_op_index_117 : Entered Try.prog 1001874 := .inl (by kernel_rfl)
theorem ms_op_index_117 : Meets Try.prog 1001874 (strip sp_op_index_117) := meets_index (t := 117) (e := 116) (n := 5) (y := tyKeep) (k := .i64) (by kernel_rfl) (by kernel_rfl) (by kernel_rfl) (by decide)
def sp_op_convert_9_112 : Ent := spec (.pr .str .nil) (fun x => (bytesOk x.1)) (fun x => (.t (.sl (.int .u8)) (bytesL x.1)))
theorem en_op_convert_9_112 : Entered Try.prog 18920144 := .inl (by kernel_rfl)
theorem ms_op_convert_9_112 : Meets Try.prog 18920144 (strip sp_op_convert_9_112) := meets_bytes (a := 9) (b := 112) (e := 5) (by kernel_rfl) (by kernel_rfl) (by kernel_rfl) (by decide)
end Go.Proofs.Ytfehjdaielifiaa.K
