/-
  The types of the program, in short.
-/
import Derived.Test.YtdbaaejiolibfaaKD
import Derived.Test.YtdbaaejiolibfaaProg
set_option linter.unusedSimpArgs false
set_option linter.unusedVariables false
namespace Go.Proofs.Ytdbaaejiolibfaa.K
open Go.RowKit
/-! the regions of a function's own body -/
abbrev tI : Ty := .int .i64
abbrev tyBoundsError : Ty := (.pr tI (.pr tI (.pr .bool (.pr (.int .u8) .nil))))
abbrev BoundsError : Type := Int × (Int × (Bool × (Int × Unit)))
abbrev BoundsError.x (x : BoundsError) : Int := x.1
abbrev BoundsError.y (x : BoundsError) : Int := x.2.1
abbrev BoundsError.signed (x : BoundsError) : Bool := x.2.2.1
abbrev BoundsError.code (x : BoundsError) : Int := x.2.2.2.1
abbrev tyErrorAddressString : Ty := (.pr .str (.pr (.int .u64) .nil))
abbrev tySection : Ty := (.pr .str (.pr (.sl (.int .u8)) .nil))
abbrev Section : Type := ByteArray × ((List Int) × Unit)
abbrev tySymbol : Ty := (.pr .str (.pr tI .nil))
abbrev Symbol : Type := ByteArray × (Int × Unit)
abbrev Symbol.Value (x : Symbol) : Int := x.2.1
abbrev tyImage : Ty := (.pr (.sl tySection) (.pr (.sl tySymbol) .nil))
abbrev Image : Type := (List Section) × ((List Symbol) × Unit)
abbrev tyDice : Ty := (.pr (.sl tI) (.pr tI .nil))
abbrev Dice : Type := (List Int) × (Int × Unit)
abbrev Dice.L (x : Dice) : (List Int) := x.1
abbrev Dice.At (x : Dice) : Int := x.2.1
abbrev tyReader : Ty := (.pr (.sl (.int .u8)) (.pr .bool .nil))
abbrev Reader : Type := (List Int) × (Bool × Unit)
abbrev Reader.b (x : Reader) : (List Int) := x.1
abbrev tyReaderX : Ty := (.pr (.sl (.int .u8)) (.pr tI (.pr .bool .nil)))
abbrev ReaderX : Type := (List Int) × (Int × (Bool × Unit))
abbrev ReaderX.b (x : ReaderX) : (List Int) := x.1
abbrev ReaderX.at_ (x : ReaderX) : Int := x.2.1
abbrev ReaderX.ok (x : ReaderX) : Bool := x.2.2.1
abbrev tyRow : Ty := (.pr .str (.pr tI (.pr tI (.pr (.sl tI) (.pr (.sl tI) .nil)))))
abbrev Row : Type := ByteArray × (Int × (Int × ((List Int) × ((List Int) × Unit))))
abbrev Row.name (x : Row) : ByteArray := x.1
def TYl : List (Nat × Ty) := [(2, tI), (3, tI), (4, .bool), (5, (.int .u8)), (6, (.int .u8)), (7, tyBoundsError), (8, tyBoundsError), (9, .str), (10, .str), (11, .str), (12, (.int .u64)), (13, tyErrorAddressString), (14, tyErrorAddressString), (21, (.int .i32)), (22, (.sl tI)), (23, (.sl (.int .u8))), (28, tI), (31, (.sl tySection)), (32, (.sl tySymbol)), (33, tyImage), (34, tyImage), (43, tySection), (44, tySection), (45, tySymbol), (46, tySymbol), (49, tyDice), (50, tyDice), (53, (.sl .str)), (56, tyReader), (57, tyReader), (62, tyReaderX), (63, tyReaderX), (74, (.int .u64)), (80, tyRow), (81, tyRow), (82, (.pr tyRow (.pr tyRow (.pr tyRow (.pr tyRow (.pr tyRow (.pr tyRow (.pr tyRow (.pr tyRow (.pr tyRow (.pr tyRow (.pr tyRow (.pr tyRow (.pr tyRow (.pr tyRow (.pr tyRow (.pr tyRow (.pr tyRow (.pr tyRow (.pr tyRow (.pr tyRow (.pr tyRow (.pr tyRow (.pr tyRow .nil)))))))))))))))))))))))), (89, tI), (98, (.int .u32)), (100, (.int .u64)), (103, (.int .u64)), (120, (.int .u8)), (121, (.int .u8)), (124, (.int .i32)), (125, (.int .i32))]
def TYs (e : Nat) : Option Ty := TYl.lookup e
def keeps : List Nat := [36, 37]
theorem mixed : Try.prog.follows .mixedOrders = true := by kernel_rfl
def sp_op_index_82 : Ent := spec (.pr (.pr tyRow (.pr tyRow (.pr tyRow (.pr tyRow (.pr tyRow (.pr tyRow (.pr tyRow (.pr tyRow (.pr tyRow (.pr tyRow (.pr tyRow (.pr tyRow (.pr tyRow (.pr tyRow (.pr tyRow (.pr tyRow (.pr tyRow (.pr tyRow (.pr tyRow (.pr tyRow (.pr tyRow (.pr tyRow (.pr tyRow .nil))))))))))))))))))))))) (.pr tI .nil)) (fun x => (arrOk tyRow 23 x.1 x.2.1)) (fun x => (.t tyRow (arrGetI tyRow 23 x.1 x.2.1)))
theorem en_op_index_82 : Entered Try.prog 1001314 := .inl (by kernel_rfl)
theorem ms_op_index_82 : Meets Try.prog 1001314 (strip sp_op_index_82) := meets_index (t := 82) (e := 81) (n := 23) (y := tyRow) (k := .i64) (by kernel_rfl) (by kernel_rfl) (by kernel_rfl) (by decide)
def sp_op_convert_23_9 : Ent := spec (.pr (.sl (.int .u8)) .nil) (fun x => true) (fun x => (.t .str (strOf x.1)))
theorem en_op_convert_23_9 : Entered Try.prog 2440368 := .inl (by kernel_rfl)
theorem ms_op_convert_23_9 : Meets Try.prog 2440368 (strip sp_op_convert_23_9) := meets_string (a := 23) (b := 9) (e := 5) (by kernel_rfl) (by kernel_rfl) (by kernel_rfl) (by decide)
def sp_op_convert_9_23 : Ent := spec (.pr .str .nil) (fun x => (bytesOk x.1)) (fun x => (.t (.sl (.int .u8)) (bytesL x.1)))
theorem en_op_convert_9_23 : Entered Try.prog 4680144 := .inl (by kernel_rfl)
theorem ms_op_convert_9_23 : Meets Try.prog 4680144 (strip sp_op_convert_9_23) := meets_bytes (a := 9) (b := 23) (e := 5) (by kernel_rfl) (by kernel_rfl) (by kernel_rfl) (by decide)
def sp_op_convert_23_23 : Ent := specS [.ms 50000] [.arr 5 (.int .u8)] (fun _ y => !y.1.isEmpty) (fun _ _ => .ms 50000) (fun _ y => [.arr 1000005 (.int .u8) y.1])
theorem en_op_convert_23_23 : Entered Try.prog 4680368 := .inl (by kernel_rfl)
theorem ms_op_convert_23_23 : Meets Try.prog 4680368 (strip sp_op_convert_23_23) := meets_convI (a := 23) (e := 5) (by kernel_rfl) (by kernel_rfl) (by decide) (by decide)
end Go.Proofs.Ytdbaaejiolibfaa.K
