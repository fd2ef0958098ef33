/-
  The types of the program, in short.
-/
import Derived.Test.YtfldcnhkppgmbaaKD
import Derived.Test.YtfldcnhkppgmbaaProg
set_option linter.unusedSimpArgs false
set_option linter.unusedVariables false
namespace Go.Proofs.Ytfldcnhkppgmbaa.K
open Go.RowKit
abbrev tI : Ty := .int .i64
abbrev tyBoundsError : Ty := (.pr tI (.pr tI (.pr .bool (.pr (.int .u8) .nil))))
abbrev BoundsError : Type := Int × (Int × (Bool × (Int × Unit)))
abbrev BoundsError.x (x : BoundsError) : Int := x.1
abbrev BoundsError.y (x : BoundsError) : Int := x.2.1
abbrev BoundsError.signed (x : BoundsError) : Bool := x.2.2.1
abbrev BoundsError.code (x : BoundsError) : Int := x.2.2.2.1
abbrev tyErrorAddressString : Ty := (.pr .str (.pr (.int .u64) .nil))
abbrev ErrorAddressString : Type := ByteArray × (Int × Unit)
abbrev ErrorAddressString.msg (x : ErrorAddressString) : ByteArray := x.1
abbrev ErrorAddressString.addr (x : ErrorAddressString) : Int := x.2.1
abbrev tyKeep : Ty := (.pr tI (.pr tI .nil))
abbrev Keep : Type := Int × (Int × Unit)
abbrev Keep.Purpose (x : Keep) : Int := x.1
abbrev Keep.Days (x : Keep) : Int := x.2.1
abbrev tyRule : Ty := (.pr .bool (.pr tI (.pr tI (.pr tI (.pr tI (.pr tI .nil))))))
abbrev Rule : Type := Bool × (Int × (Int × (Int × (Int × (Int × Unit)))))
abbrev Rule.Allow (x : Rule) : Bool := x.1
abbrev Rule.Alg (x : Rule) : Int := x.2.1
abbrev Rule.Below (x : Rule) : Int := x.2.2.1
abbrev Rule.Purpose (x : Rule) : Int := x.2.2.2.1
abbrev Rule.From (x : Rule) : Int := x.2.2.2.2.1
abbrev Rule.To (x : Rule) : Int := x.2.2.2.2.2.1
abbrev tyPolicy : Ty := (.pr (.sl tyRule) (.pr (.sl tyKeep) .nil))
abbrev Policy : Type := (List Rule) × ((List Keep) × Unit)
abbrev Policy.Rules (x : Policy) : (List Rule) := x.1
abbrev Policy.Keeps (x : Policy) : (List Keep) := x.2.1
abbrev tyLink : Ty := (.pr tyKeep (.pr tI .nil))
abbrev Link : Type := Keep × (Int × Unit)
abbrev Link.Use (x : Link) : Keep := x.1
abbrev Link.Day (x : Link) : Int := x.2.1
abbrev tyItem : Ty := (.pr .str (.pr tI (.pr tI (.pr (.sl tyLink) (.pr tI .nil)))))
abbrev Item : Type := ByteArray × (Int × (Int × ((List Link) × (Int × Unit))))
abbrev Item.Name (x : Item) : ByteArray := x.1
abbrev Item.Kind (x : Item) : Int := x.2.1
abbrev Item.Purpose (x : Item) : Int := x.2.2.1
abbrev Item.Links (x : Item) : (List Link) := x.2.2.2.1
abbrev Item.Until (x : Item) : Int := x.2.2.2.2.1
abbrev tyDice : Ty := (.pr (.sl tI) (.pr tI .nil))
abbrev Dice : Type := (List Int) × (Int × Unit)
abbrev Dice.L (x : Dice) : (List Int) := x.1
abbrev Dice.At (x : Dice) : Int := x.2.1
abbrev tyLinkX : Ty := (.pr tI (.pr tI (.pr .bool .nil)))
abbrev LinkX : Type := Int × (Int × (Bool × Unit))
abbrev LinkX.day (x : LinkX) : Int := x.1
abbrev LinkX.fall (x : LinkX) : Int := x.2.1
abbrev LinkX.falls (x : LinkX) : Bool := x.2.2.1
abbrev tyRow : Ty := (.pr .str (.pr tI (.pr tI (.pr (.sl tI) (.pr (.sl tI) .nil)))))
abbrev Row : Type := ByteArray × (Int × (Int × ((List Int) × ((List Int) × Unit))))
abbrev Row.name (x : Row) : ByteArray := x.1
abbrev Row.kind (x : Row) : Int := x.2.1
abbrev Row.way (x : Row) : Int := x.2.2.1
abbrev Row.sizes (x : Row) : (List Int) := x.2.2.2.1
abbrev Row.strengths (x : Row) : (List Int) := x.2.2.2.2.1
def TYl : List (Nat × Ty) := [(2, tI), (3, tI), (4, .bool), (5, (.int .u8)), (6, (.int .u8)), (7, tyBoundsError), (8, tyBoundsError), (9, .str), (10, .str), (11, .str), (12, (.int .u64)), (13, tyErrorAddressString), (14, tyErrorAddressString), (21, (.int .i32)), (22, (.sl (.int .u8))), (23, (.sl (.int .u16))), (25, (.sl tyRule)), (26, (.sl tyKeep)), (27, tyPolicy), (28, tyPolicy), (29, (.int .u16)), (30, tyKeep), (31, tyKeep), (34, (.sl tI)), (39, tyKeep), (40, tyKeep), (43, (.sl tyKeep)), (44, tI), (49, tyKeep), (50, tyKeep), (55, tyRule), (56, tyRule), (65, (.sl tyLink)), (66, tyItem), (67, tyItem), (71, tyLink), (72, tyLink), (82, tyDice), (83, tyDice), (93, (.sl .bool)), (94, (.sl tyKeep)), (123, (.sl tyLinkX)), (124, tyLinkX), (125, tyLinkX), (126, (.sl tyLinkX)), (127, (.sl tyLinkX)), (133, (.int .u64)), (135, tyRow), (136, tyRow), (141, tI), (149, (.int .u32)), (151, (.int .u64)), (152, (.pr tyRow (.pr tyRow (.pr tyRow (.pr tyRow (.pr tyRow (.pr tyRow (.pr tyRow (.pr tyRow (.pr tyRow (.pr tyRow (.pr tyRow (.pr tyRow (.pr tyRow (.pr tyRow (.pr tyRow (.pr tyRow (.pr tyRow (.pr tyRow (.pr tyRow (.pr tyRow (.pr tyRow (.pr tyRow (.pr tyRow .nil)))))))))))))))))))))))), (154, tyKeep), (155, (.pr tyKeep (.pr tyKeep (.pr tyKeep (.pr tyKeep (.pr tyKeep .nil)))))), (156, (.int .u64)), (171, (.int .u8)), (172, (.int .u8)), (175, (.int .i32)), (176, (.int .i32))]
def TYs (e : Nat) : Option Ty := TYl.lookup e
def keeps : List Nat := [74, 75]
theorem mixed : Try.prog.follows .mixedOrders = true := by kernel_rfl
def sp_op_make_93 : Ent := specO (.pr tI (.pr tI .nil)) (fun x => (makeOk x.1 x.2.1)) (fun x => (.ms 50000)) (fun x => [.arr 4 .bool (makeL .bool x.1 x.2.1)])
theorem en_op_make_93 : Entered Try.prog 1001489 := .inl (by kernel_rfl)
theorem ms_op_make_93 : Meets Try.prog 1001489 (strip sp_op_make_93) := meets_make (t := 93) (e := 4) (y := .bool) (z := .bool false) (by kernel_rfl) (by kernel_rfl) rfl rfl rfl (fun X w => ⟨_, _, rfl, ⟨rfl, rfl⟩, rfl⟩) (by decide)
def sp_op_index_152 : Ent := spec (.pr (.pr tyRow (.pr tyRow (.pr tyRow (.pr tyRow (.pr tyRow (.pr tyRow (.pr tyRow (.pr tyRow (.pr tyRow (.pr tyRow (.pr tyRow (.pr tyRow (.pr tyRow (.pr tyRow (.pr tyRow (.pr tyRow (.pr tyRow (.pr tyRow (.pr tyRow (.pr tyRow (.pr tyRow (.pr tyRow (.pr tyRow .nil))))))))))))))))))))))) (.pr tI .nil)) (fun x => (arrOk tyRow 23 x.1 x.2.1)) (fun x => (.t tyRow (arrGetI tyRow 23 x.1 x.2.1)))
theorem en_op_index_152 : Entered Try.prog 1002434 := .inl (by kernel_rfl)
theorem ms_op_index_152 : Meets Try.prog 1002434 (strip sp_op_index_152) := meets_index (t := 152) (e := 136) (n := 23) (y := tyRow) (k := .i64) (by kernel_rfl) (by kernel_rfl) (by kernel_rfl) (by decide)
def sp_op_index_155 : Ent := spec (.pr (.pr tyKeep (.pr tyKeep (.pr tyKeep (.pr tyKeep (.pr tyKeep .nil))))) (.pr tI .nil)) (fun x => (arrOk tyKeep 5 x.1 x.2.1)) (fun x => (.t tyKeep (arrGetI tyKeep 5 x.1 x.2.1)))
theorem en_op_index_155 : Entered Try.prog 1002482 := .inl (by kernel_rfl)
theorem ms_op_index_155 : Meets Try.prog 1002482 (strip sp_op_index_155) := meets_index (t := 155) (e := 154) (n := 5) (y := tyKeep) (k := .i64) (by kernel_rfl) (by kernel_rfl) (by kernel_rfl) (by decide)
def sp_op_convert_9_22 : Ent := spec (.pr .str .nil) (fun x => (bytesOk x.1)) (fun x => (.t (.sl (.int .u8)) (bytesL x.1)))
theorem en_op_convert_9_22 : Entered Try.prog 4520144 := .inl (by kernel_rfl)
theorem ms_op_convert_9_22 : Meets Try.prog 4520144 (strip sp_op_convert_9_22) := meets_bytes (a := 9) (b := 22) (e := 5) (by kernel_rfl) (by kernel_rfl) (by kernel_rfl) (by decide)
end Go.Proofs.Ytfldcnhkppgmbaa.K
