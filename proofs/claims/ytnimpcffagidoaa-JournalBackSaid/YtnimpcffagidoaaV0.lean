/-
  The types of the program, in short.
-/
import Derived.Test.YtnimpcffagidoaaKC
import Derived.Test.YtnimpcffagidoaaProg
set_option linter.unusedSimpArgs false
set_option linter.unusedVariables false
namespace Go.Proofs.Ytnimpcffagidoaa.K
open Go.RowKit
abbrev tI : Ty := .int .i64
abbrev tyBoundsError : Ty := (.pr tI (.pr tI (.pr .bool (.pr (.int .u8) .nil))))
abbrev BoundsError : Type := Int × (Int × (Bool × (Int × Unit)))
abbrev BoundsError.x (x : BoundsError) : Int := x.1
abbrev BoundsError.y (x : BoundsError) : Int := x.2.1
abbrev BoundsError.signed (x : BoundsError) : Bool := x.2.2.1
abbrev BoundsError.code (x : BoundsError) : Int := x.2.2.2.1
abbrev tyErrorAddressString : Ty := (.pr .str (.pr (.int .u64) .nil))
abbrev ErrorAddressString : Type := ByteArray × (Int × Unit)
abbrev ErrorAddressString.msg (x : ErrorAddressString) : ByteArray := x.1
abbrev ErrorAddressString.addr (x : ErrorAddressString) : Int := x.2.1
abbrev tyDecision : Ty := (.pr tI (.pr tI (.pr tI (.pr tI (.pr tI .nil)))))
abbrev Decision : Type := Int × (Int × (Int × (Int × (Int × Unit))))
abbrev Decision.Day (x : Decision) : Int := x.1
abbrev Decision.Known (x : Decision) : Int := x.2.1
abbrev Decision.Kind (x : Decision) : Int := x.2.2.1
abbrev Decision.Subject (x : Decision) : Int := x.2.2.2.1
abbrev Decision.Value (x : Decision) : Int := x.2.2.2.2.1
abbrev tyLedger : Ty := (.pr (.sl tyDecision) .nil)
abbrev Ledger : Type := (List Decision) × Unit
abbrev Ledger.Decisions (x : Ledger) : (List Decision) := x.1
abbrev tyDice : Ty := (.pr (.sl tI) (.pr tI .nil))
abbrev Dice : Type := (List Int) × (Int × Unit)
abbrev Dice.L (x : Dice) : (List Int) := x.1
abbrev Dice.At (x : Dice) : Int := x.2.1
def TYl : List (Nat × Ty) := [(2, tI), (3, tI), (4, .bool), (5, (.int .u8)), (6, (.int .u8)), (7, tyBoundsError), (8, tyBoundsError), (9, .str), (10, .str), (11, .str), (12, (.int .u64)), (13, tyErrorAddressString), (14, tyErrorAddressString), (21, (.int .i32)), (24, (.sl (.int .u8))), (26, (.sl tI)), (27, (.int .u16)), (29, (.sl tyDecision)), (30, tyLedger), (31, tyLedger), (39, tyDecision), (40, tyDecision), (41, tI), (63, (.sl tyLedger)), (64, (.pr tI (.pr tI (.pr tI .nil)))), (65, (.sl (.pr tI (.pr tI (.pr tI .nil))))), (71, (.sl .str)), (77, (.int .u32)), (78, tyDice), (79, tyDice), (80, (.pr (.int .u8) (.pr (.int .u8) (.pr (.int .u8) (.pr (.int .u8) (.pr (.int .u8) (.pr (.int .u8) (.pr (.int .u8) (.pr (.int .u8) (.pr (.int .u8) (.pr (.int .u8) (.pr (.int .u8) (.pr (.int .u8) .nil))))))))))))), (92, (.int .u64)), (103, (.int .u8)), (104, (.int .u8)), (107, (.int .i32)), (108, (.int .i32))]
def TYs (e : Nat) : Option Ty := TYl.lookup e
def keeps : List Nat := []
theorem mixed : Try.prog.follows .mixedOrders = true := by kernel_rfl
end Go.Proofs.Ytnimpcffagidoaa.K
