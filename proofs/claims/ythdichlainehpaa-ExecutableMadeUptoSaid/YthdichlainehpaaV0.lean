/-
  The types of the program, in short.
-/
import Derived.Test.YthdichlainehpaaKD
import Derived.Test.YthdichlainehpaaProg
set_option linter.unusedSimpArgs false
set_option linter.unusedVariables false
namespace Go.Proofs.Ythdichlainehpaa.K
open Go.RowKit
abbrev tI : Ty := .int .i64
abbrev tyBoundsError : Ty := (.pr tI (.pr tI (.pr .bool (.pr (.int .u8) .nil))))
abbrev BoundsError : Type := Int × (Int × (Bool × (Int × Unit)))
abbrev BoundsError.x (x : BoundsError) : Int := x.1
abbrev BoundsError.y (x : BoundsError) : Int := x.2.1
abbrev BoundsError.signed (x : BoundsError) : Bool := x.2.2.1
abbrev BoundsError.code (x : BoundsError) : Int := x.2.2.2.1
abbrev tyErrorAddressString : Ty := (.pr .str (.pr (.int .u64) .nil))
abbrev ErrorAddressString : Type := ByteArray × (Int × Unit)
abbrev ErrorAddressString.msg (x : ErrorAddressString) : ByteArray := x.1
abbrev ErrorAddressString.addr (x : ErrorAddressString) : Int := x.2.1
abbrev tyDecision : Ty := (.pr tI (.pr tI (.pr tI (.pr tI (.pr tI .nil)))))
abbrev Decision : Type := Int × (Int × (Int × (Int × (Int × Unit))))
abbrev Decision.Day (x : Decision) : Int := x.1
abbrev Decision.Known (x : Decision) : Int := x.2.1
abbrev Decision.Kind (x : Decision) : Int := x.2.2.1
abbrev Decision.Subject (x : Decision) : Int := x.2.2.2.1
abbrev Decision.Value (x : Decision) : Int := x.2.2.2.2.1
abbrev tyLedger : Ty := (.pr (.sl tyDecision) .nil)
abbrev Ledger : Type := (List Decision) × Unit
abbrev Ledger.Decisions (x : Ledger) : (List Decision) := x.1
abbrev tySection : Ty := (.pr .str (.pr (.sl (.int .u8)) .nil))
abbrev Section : Type := ByteArray × ((List Int) × Unit)
abbrev Section.Name (x : Section) : ByteArray := x.1
abbrev Section.Bytes (x : Section) : (List Int) := x.2.1
abbrev tySymbol : Ty := (.pr .str (.pr tI .nil))
abbrev Symbol : Type := ByteArray × (Int × Unit)
abbrev Symbol.Name (x : Symbol) : ByteArray := x.1
abbrev Symbol.Value (x : Symbol) : Int := x.2.1
abbrev tyImage : Ty := (.pr (.sl tySection) (.pr (.sl tySymbol) .nil))
abbrev Image : Type := (List Section) × ((List Symbol) × Unit)
abbrev Image.Sections (x : Image) : (List Section) := x.1
abbrev Image.Symbols (x : Image) : (List Symbol) := x.2.1
abbrev tyDice : Ty := (.pr (.sl tI) (.pr tI .nil))
abbrev Dice : Type := (List Int) × (Int × Unit)
abbrev Dice.L (x : Dice) : (List Int) := x.1
abbrev Dice.At (x : Dice) : Int := x.2.1
abbrev tyReader : Ty := (.pr (.sl (.int .u8)) (.pr .bool .nil))
abbrev Reader : Type := (List Int) × (Bool × Unit)
abbrev Reader.b (x : Reader) : (List Int) := x.1
abbrev Reader.failed (x : Reader) : Bool := x.2.1
abbrev tyReaderX : Ty := (.pr (.sl (.int .u8)) (.pr tI (.pr .bool .nil)))
abbrev ReaderX : Type := (List Int) × (Int × (Bool × Unit))
abbrev ReaderX.b (x : ReaderX) : (List Int) := x.1
abbrev ReaderX.at_ (x : ReaderX) : Int := x.2.1
abbrev ReaderX.ok (x : ReaderX) : Bool := x.2.2.1
abbrev tyRow : Ty := (.pr .str (.pr tI (.pr tI (.pr (.sl tI) (.pr (.sl tI) .nil)))))
abbrev Row : Type := ByteArray × (Int × (Int × ((List Int) × ((List Int) × Unit))))
abbrev Row.name (x : Row) : ByteArray := x.1
abbrev Row.kind (x : Row) : Int := x.2.1
abbrev Row.way (x : Row) : Int := x.2.2.1
abbrev Row.sizes (x : Row) : (List Int) := x.2.2.2.1
abbrev Row.strengths (x : Row) : (List Int) := x.2.2.2.2.1
def TYl : List (Nat × Ty) := [(2, tI), (3, tI), (4, .bool), (5, (.int .u8)), (6, (.int .u8)), (7, tyBoundsError), (8, tyBoundsError), (9, .str), (10, .str), (11, .str), (12, (.int .u64)), (13, tyErrorAddressString), (14, tyErrorAddressString), (21, (.int .i32)), (22, (.sl tI)), (23, tyDecision), (24, tyDecision), (30, (.sl tyDecision)), (31, tyLedger), (32, tyLedger), (35, tI), (39, (.sl (.int .u8))), (41, (.sl .str)), (56, (.sl tySection)), (57, (.sl tySymbol)), (58, tyImage), (59, tyImage), (68, tySymbol), (69, tySymbol), (78, tyDice), (79, tyDice), (81, (.pr (.int .u8) (.pr (.int .u8) (.pr (.int .u8) (.pr (.int .u8) (.pr (.int .u8) (.pr (.int .u8) (.pr (.int .u8) (.pr (.int .u8) (.pr (.int .u8) (.pr (.int .u8) (.pr (.int .u8) (.pr (.int .u8) .nil))))))))))))), (89, (.int .u32)), (90, tySection), (91, tySection), (95, tyReader), (96, tyReader), (101, tyReaderX), (102, tyReaderX), (118, (.int .u64)), (125, tyRow), (126, tyRow), (127, (.pr tyRow (.pr tyRow (.pr tyRow (.pr tyRow (.pr tyRow (.pr tyRow (.pr tyRow (.pr tyRow (.pr tyRow (.pr tyRow (.pr tyRow (.pr tyRow (.pr tyRow (.pr tyRow (.pr tyRow (.pr tyRow (.pr tyRow (.pr tyRow (.pr tyRow (.pr tyRow (.pr tyRow (.pr tyRow (.pr tyRow .nil)))))))))))))))))))))))), (132, tySymbol), (133, tySymbol), (134, (.sl tySymbol)), (138, tI), (147, (.int .u64)), (150, (.int .u64)), (167, (.int .u8)), (168, (.int .u8)), (171, (.int .i32)), (172, (.int .i32))]
def TYs (e : Nat) : Option Ty := TYl.lookup e
def keeps : List Nat := [76, 77]
theorem mixed : Try.prog.follows .mixedOrders = true := by kernel_rfl
def sp_op_make_39 : Ent := specO (.pr tI (.pr tI .nil)) (fun x => (makeOk x.1 x.2.1)) (fun x => (.ms 50000)) (fun x => [.arr 5 (.int .u8) (makeL (.int .u8) x.1 x.2.1)])
theorem en_op_make_39 : Entered Try.prog 1000625 := .inl (by kernel_rfl)
theorem ms_op_make_39 : Meets Try.prog 1000625 (strip sp_op_make_39) := meets_make (t := 39) (e := 5) (y := (.int .u8)) (z := .int .u8 0) (by kernel_rfl) (by kernel_rfl) rfl rfl rfl (fun X w => ⟨_, _, rfl, ⟨rfl, rfl⟩, rfl⟩) (by decide)
def sp_op_index_127 : Ent := spec (.pr (.pr tyRow (.pr tyRow (.pr tyRow (.pr tyRow (.pr tyRow (.pr tyRow (.pr tyRow (.pr tyRow (.pr tyRow (.pr tyRow (.pr tyRow (.pr tyRow (.pr tyRow (.pr tyRow (.pr tyRow (.pr tyRow (.pr tyRow (.pr tyRow (.pr tyRow (.pr tyRow (.pr tyRow (.pr tyRow (.pr tyRow .nil))))))))))))))))))))))) (.pr tI .nil)) (fun x => (arrOk tyRow 23 x.1 x.2.1)) (fun x => (.t tyRow (arrGetI tyRow 23 x.1 x.2.1)))
theorem en_op_index_127 : Entered Try.prog 1002034 := .inl (by kernel_rfl)
theorem ms_op_index_127 : Meets Try.prog 1002034 (strip sp_op_index_127) := meets_index (t := 127) (e := 126) (n := 23) (y := tyRow) (k := .i64) (by kernel_rfl) (by kernel_rfl) (by kernel_rfl) (by decide)
def sp_op_convert_39_9 : Ent := spec (.pr (.sl (.int .u8)) .nil) (fun x => true) (fun x => (.t .str (strOf x.1)))
theorem en_op_convert_39_9 : Entered Try.prog 2440624 := .inl (by kernel_rfl)
theorem ms_op_convert_39_9 : Meets Try.prog 2440624 (strip sp_op_convert_39_9) := meets_string (a := 39) (b := 9) (e := 5) (by kernel_rfl) (by kernel_rfl) (by kernel_rfl) (by decide)
def sp_op_convert_9_39 : Ent := spec (.pr .str .nil) (fun x => (bytesOk x.1)) (fun x => (.t (.sl (.int .u8)) (bytesL x.1)))
theorem en_op_convert_9_39 : Entered Try.prog 7240144 := .inl (by kernel_rfl)
theorem ms_op_convert_9_39 : Meets Try.prog 7240144 (strip sp_op_convert_9_39) := meets_bytes (a := 9) (b := 39) (e := 5) (by kernel_rfl) (by kernel_rfl) (by kernel_rfl) (by decide)
def sp_op_convert_9_39_O : Ent := specO (.pr .str .nil) (fun x => (bytesOk x.1)) (fun x => (.ms 50000)) (fun x => [.arr 1000005 (.int .u8) (bytesL x.1)])
theorem en_op_convert_9_39_O : Entered Try.prog 7240144 := .inl (by kernel_rfl)
theorem ms_op_convert_9_39_O : Meets Try.prog 7240144 (strip sp_op_convert_9_39_O) := meets_bytesO (a := 9) (b := 39) (e := 5) (by kernel_rfl) (by kernel_rfl) (by kernel_rfl) (by decide)
def sp_op_convert_39_39 : Ent := specS [.ms 50000] [.arr 5 (.int .u8)] (fun _ y => !y.1.isEmpty) (fun _ _ => .ms 50000) (fun _ y => [.arr 1000005 (.int .u8) y.1])
theorem en_op_convert_39_39 : Entered Try.prog 7240624 := .inl (by kernel_rfl)
theorem ms_op_convert_39_39 : Meets Try.prog 7240624 (strip sp_op_convert_39_39) := meets_convI (a := 39) (e := 5) (by kernel_rfl) (by kernel_rfl) (by decide) (by decide)
end Go.Proofs.Ythdichlainehpaa.K
