/-
  NARROWER THAN 'FOR EVERY INPUT', by the rows' own cells (each row's printed sentence says how): SettingsTexts: laid · BlocksTexts: laid · BlocksDeep: laid · SettingsLong: laid · SettingsBack: laid · BlocksLists: loops, laid · BlocksBack: laid · BlocksFind: laid · SettingsSet: laid · SettingsLists: laid.
  DERIVED. THE GIVEN ROWS OF THIS SEAT. 10 by the template 'for every input the law returns true; each argument reads behind the call as it read before'; 0 by the template 'total and deterministic' (their statements: YtkkoedniahnneaaDoorTotals.lean).
  GIVEN WITH THE SEED: the statements are not yours to turn. If you find one false, say at which input.
  Laid BY PROGRAM, IN A SANDBOX (cutbox-rows.mjs): the forced cells as the released guide's own fill.sh prints them over the translation db41cf073e62198e… (all of the seat's roots in one cut). By AI agents, Wed Nov 11 2026. No macro, syntax, notation, axiom, sorry.
-/
import Derived.Test.YtkkoedniahnneaaDoorChecked
import GoSem.PinnedTables
import GoSem.Claim
import GoSem.ClaimJoined
import GoSem.ClaimMapViews
import Derived.JoinedTies
import Derived.KernelRfl
namespace Go.Proofs.YtkkoedniahnneaaDoor
/- THE CELL 'sum', in the pinned program and in every row, IS THE sha256 OF THE DUMP (.gsa) THAT YtkkoedniahnneaaDoorProg.lean LOADS. Nothing in Lean hashes anything: it is a label: what it is worth is what the hold of that sum in a sandbox is worth. -/
noncomputable def Tryd.pinned : Pinned := { name := "ytkkoedniahnneaadoor", sum := "db41cf073e62198ed948543e33606b08743e71f8ed2845f3feb102a0fea082c3", checked := Tryd.checked }
namespace Rows
def none {H : Type} : Left H := { results := [], args := [] }

/- WHAT THE LISTED PACKAGE-LEVEL VARIABLES READ AS WHEN THE CALL BEGINS. Each datum BY PROGRAM (the guide's laid-datum.mjs) off the statement by which the dump's own 'gosem.cut.vars' lays the variable. In a bare row this is a premise. The card (YtkkoedniahnneaaDoorCards.lean) ties it to the program's text. -/
def laid_unicode_utf8_acceptRanges {H : Type} : DataW H := .agg [.agg [.lit (.int .u8 128), .lit (.int .u8 191)], .agg [.lit (.int .u8 160), .lit (.int .u8 191)], .agg [.lit (.int .u8 128), .lit (.int .u8 159)], .agg [.lit (.int .u8 144), .lit (.int .u8 191)], .agg [.lit (.int .u8 128), .lit (.int .u8 143)], .agg [.lit (.int .u8 0), .lit (.int .u8 0)], .agg [.lit (.int .u8 0), .lit (.int .u8 0)], .agg [.lit (.int .u8 0), .lit (.int .u8 0)], .agg [.lit (.int .u8 0), .lit (.int .u8 0)], .agg [.lit (.int .u8 0), .lit (.int .u8 0)], .agg [.lit (.int .u8 0), .lit (.int .u8 0)], .agg [.lit (.int .u8 0), .lit (.int .u8 0)], .agg [.lit (.int .u8 0), .lit (.int .u8 0)], .agg [.lit (.int .u8 0), .lit (.int .u8 0)], .agg [.lit (.int .u8 0), .lit (.int .u8 0)], .agg [.lit (.int .u8 0), .lit (.int .u8 0)]]
/-- One of Go's own tables, pinned by name: the form's constant. -/
def laid_unicode_utf8_first : DataW Unit := Go.Pinned.utf8First

/-- 'cipherplanlaw06.SettingsTexts': WHATEVER THE INPUT: true; the input reads as it did. -/
def settingsTextsSpec : ChangeSpec := { name := "settingsTexts", fn := fun _ => fun
  | [d1, d2, d3] => { results := [.lit (.bool true)], args := [d1, d2, d3] }
  | _ => none }
def settingsTextsRow : OpenClaim := { program := "ytkkoedniahnneaadoor", sum := "db41cf073e62198ed948543e33606b08743e71f8ed2845f3feb102a0fea082c3", func := "cipherplan/cipherplanlaw06.SettingsTexts", spec := "settingsTexts", inPlace := ["internal/bytealg.CountString", "internal/bytealg.IndexByteString", "internal/bytealg.IndexString"], unfollowed := true, recurses := true, named := ["internal/bytealg.MaxLen", "unicode/utf8.first", "unicode/utf8.acceptRanges"], apart := false, laid := [("unicode/utf8.acceptRanges", laid_unicode_utf8_acceptRanges), ("unicode/utf8.first", laid_unicode_utf8_first)] }
def SettingsTextsSaid : Prop := settingsTextsRow.holds Tryd.pinned (OpenSpec.ofChange settingsTextsSpec)

/-- ITS FALSE NEIGHBOUR: 'it returns false'. Refute it at one input. -/
def settingsTextsWrong : ChangeSpec := { name := "settingsTexts", fn := fun _ => fun
  | [d1, d2, d3] => { results := [.lit (.bool false)], args := [d1, d2, d3] }
  | _ => none }
def SettingsTextsWrongFalsely : Prop := settingsTextsRow.holds Tryd.pinned (OpenSpec.ofChange settingsTextsWrong)

/-- 'cipherplanlaw07.BlocksTexts': WHATEVER THE INPUT: true; the input reads as it did. -/
def blocksTextsSpec : ChangeSpec := { name := "blocksTexts", fn := fun _ => fun
  | [d1, d2, d3] => { results := [.lit (.bool true)], args := [d1, d2, d3] }
  | _ => none }
def blocksTextsRow : OpenClaim := { program := "ytkkoedniahnneaadoor", sum := "db41cf073e62198ed948543e33606b08743e71f8ed2845f3feb102a0fea082c3", func := "cipherplan/cipherplanlaw07.BlocksTexts", spec := "blocksTexts", inPlace := ["internal/bytealg.CountString", "internal/bytealg.IndexByteString", "internal/bytealg.IndexString", "internal/abi.NoEscape", "internal/bytealg.MakeNoZero"], recurses := true, named := ["internal/bytealg.MaxLen", "unicode/utf8.first", "unicode/utf8.acceptRanges"], apart := false, laid := [("unicode/utf8.acceptRanges", laid_unicode_utf8_acceptRanges), ("unicode/utf8.first", laid_unicode_utf8_first)] }
def BlocksTextsSaid : Prop := blocksTextsRow.holds Tryd.pinned (OpenSpec.ofChange blocksTextsSpec)

/-- ITS FALSE NEIGHBOUR: 'it returns false'. Refute it at one input. -/
def blocksTextsWrong : ChangeSpec := { name := "blocksTexts", fn := fun _ => fun
  | [d1, d2, d3] => { results := [.lit (.bool false)], args := [d1, d2, d3] }
  | _ => none }
def BlocksTextsWrongFalsely : Prop := blocksTextsRow.holds Tryd.pinned (OpenSpec.ofChange blocksTextsWrong)

/-- 'cipherplanlaw07.BlocksDeep': WHATEVER THE INPUT: true; the input reads as it did. -/
def blocksDeepSpec : ChangeSpec := { name := "blocksDeep", fn := fun _ => fun
  | [d1, d2, d3] => { results := [.lit (.bool true)], args := [d1, d2, d3] }
  | _ => none }
def blocksDeepRow : OpenClaim := { program := "ytkkoedniahnneaadoor", sum := "db41cf073e62198ed948543e33606b08743e71f8ed2845f3feb102a0fea082c3", func := "cipherplan/cipherplanlaw07.BlocksDeep", spec := "blocksDeep", inPlace := ["internal/bytealg.IndexByteString", "internal/abi.NoEscape", "internal/bytealg.MakeNoZero", "internal/bytealg.CountString", "internal/bytealg.IndexString"], recurses := true, named := ["internal/bytealg.MaxLen", "unicode/utf8.first", "unicode/utf8.acceptRanges"], apart := false, laid := [("unicode/utf8.acceptRanges", laid_unicode_utf8_acceptRanges), ("unicode/utf8.first", laid_unicode_utf8_first)] }
def BlocksDeepSaid : Prop := blocksDeepRow.holds Tryd.pinned (OpenSpec.ofChange blocksDeepSpec)

/-- ITS FALSE NEIGHBOUR: 'it returns false'. Refute it at one input. -/
def blocksDeepWrong : ChangeSpec := { name := "blocksDeep", fn := fun _ => fun
  | [d1, d2, d3] => { results := [.lit (.bool false)], args := [d1, d2, d3] }
  | _ => none }
def BlocksDeepWrongFalsely : Prop := blocksDeepRow.holds Tryd.pinned (OpenSpec.ofChange blocksDeepWrong)

/-- 'cipherplanlaw06.SettingsLong': WHATEVER THE INPUT: true; the input reads as it did. -/
def settingsLongSpec : ChangeSpec := { name := "settingsLong", fn := fun _ => fun
  | [d1, d2] => { results := [.lit (.bool true)], args := [d1, d2] }
  | _ => none }
def settingsLongRow : OpenClaim := { program := "ytkkoedniahnneaadoor", sum := "db41cf073e62198ed948543e33606b08743e71f8ed2845f3feb102a0fea082c3", func := "cipherplan/cipherplanlaw06.SettingsLong", spec := "settingsLong", inPlace := ["internal/bytealg.IndexByteString", "internal/bytealg.IndexString", "internal/abi.NoEscape", "internal/bytealg.CountString"], unfollowed := true, recurses := true, named := ["internal/bytealg.MaxLen", "unicode/utf8.first", "unicode/utf8.acceptRanges"], apart := false, laid := [("unicode/utf8.acceptRanges", laid_unicode_utf8_acceptRanges), ("unicode/utf8.first", laid_unicode_utf8_first)] }
def SettingsLongSaid : Prop := settingsLongRow.holds Tryd.pinned (OpenSpec.ofChange settingsLongSpec)

/-- ITS FALSE NEIGHBOUR: 'it returns false'. Refute it at one input. -/
def settingsLongWrong : ChangeSpec := { name := "settingsLong", fn := fun _ => fun
  | [d1, d2] => { results := [.lit (.bool false)], args := [d1, d2] }
  | _ => none }
def SettingsLongWrongFalsely : Prop := settingsLongRow.holds Tryd.pinned (OpenSpec.ofChange settingsLongWrong)

/-- 'cipherplanlaw06.SettingsBack': WHATEVER THE INPUT: true; the input reads as it did. -/
def settingsBackSpec : ChangeSpec := { name := "settingsBack", fn := fun _ => fun
  | [d1, d2] => { results := [.lit (.bool true)], args := [d1, d2] }
  | _ => none }
def settingsBackRow : OpenClaim := { program := "ytkkoedniahnneaadoor", sum := "db41cf073e62198ed948543e33606b08743e71f8ed2845f3feb102a0fea082c3", func := "cipherplan/cipherplanlaw06.SettingsBack", spec := "settingsBack", inPlace := ["internal/bytealg.CountString", "internal/bytealg.IndexByteString", "internal/bytealg.IndexString", "internal/abi.NoEscape"], unfollowed := true, recurses := true, named := ["internal/bytealg.MaxLen", "unicode/utf8.first", "unicode/utf8.acceptRanges"], apart := false, laid := [("unicode/utf8.acceptRanges", laid_unicode_utf8_acceptRanges), ("unicode/utf8.first", laid_unicode_utf8_first)] }
def SettingsBackSaid : Prop := settingsBackRow.holds Tryd.pinned (OpenSpec.ofChange settingsBackSpec)

/-- ITS FALSE NEIGHBOUR: 'it returns false'. Refute it at one input. -/
def settingsBackWrong : ChangeSpec := { name := "settingsBack", fn := fun _ => fun
  | [d1, d2] => { results := [.lit (.bool false)], args := [d1, d2] }
  | _ => none }
def SettingsBackWrongFalsely : Prop := settingsBackRow.holds Tryd.pinned (OpenSpec.ofChange settingsBackWrong)

/-- 'cipherplanlaw07.BlocksLists': WHATEVER THE INPUT: true; the input reads as it did. -/
def blocksListsSpec : ChangeSpec := { name := "blocksLists", fn := fun _ => fun
  | [d1, d2, d3] => { results := [.lit (.bool true)], args := [d1, d2, d3] }
  | _ => none }
def blocksListsRow : OpenClaim := { program := "ytkkoedniahnneaadoor", sum := "db41cf073e62198ed948543e33606b08743e71f8ed2845f3feb102a0fea082c3", func := "cipherplan/cipherplanlaw07.BlocksLists", spec := "blocksLists", inPlace := ["internal/bytealg.CountString", "internal/bytealg.IndexByteString", "internal/bytealg.IndexString", "internal/abi.NoEscape", "internal/bytealg.MakeNoZero"], unfollowed := true, recurses := true, named := ["internal/bytealg.MaxLen", "unicode/utf8.first", "unicode/utf8.acceptRanges"], loops := true, apart := false, laid := [("unicode/utf8.acceptRanges", laid_unicode_utf8_acceptRanges), ("unicode/utf8.first", laid_unicode_utf8_first)] }
def BlocksListsSaid : Prop := blocksListsRow.holds Tryd.pinned (OpenSpec.ofChange blocksListsSpec)

/-- ITS FALSE NEIGHBOUR: 'it returns false'. Refute it at one input. -/
def blocksListsWrong : ChangeSpec := { name := "blocksLists", fn := fun _ => fun
  | [d1, d2, d3] => { results := [.lit (.bool false)], args := [d1, d2, d3] }
  | _ => none }
def BlocksListsWrongFalsely : Prop := blocksListsRow.holds Tryd.pinned (OpenSpec.ofChange blocksListsWrong)

/-- 'cipherplanlaw07.BlocksBack': WHATEVER THE INPUT: true; the input reads as it did. -/
def blocksBackSpec : ChangeSpec := { name := "blocksBack", fn := fun _ => fun
  | [d1, d2] => { results := [.lit (.bool true)], args := [d1, d2] }
  | _ => none }
def blocksBackRow : OpenClaim := { program := "ytkkoedniahnneaadoor", sum := "db41cf073e62198ed948543e33606b08743e71f8ed2845f3feb102a0fea082c3", func := "cipherplan/cipherplanlaw07.BlocksBack", spec := "blocksBack", inPlace := ["internal/bytealg.CountString", "internal/bytealg.IndexByteString", "internal/bytealg.IndexString", "internal/abi.NoEscape", "internal/bytealg.MakeNoZero"], unfollowed := true, recurses := true, named := ["internal/bytealg.MaxLen", "unicode/utf8.first", "unicode/utf8.acceptRanges"], apart := false, laid := [("unicode/utf8.acceptRanges", laid_unicode_utf8_acceptRanges), ("unicode/utf8.first", laid_unicode_utf8_first)] }
def BlocksBackSaid : Prop := blocksBackRow.holds Tryd.pinned (OpenSpec.ofChange blocksBackSpec)

/-- ITS FALSE NEIGHBOUR: 'it returns false'. Refute it at one input. -/
def blocksBackWrong : ChangeSpec := { name := "blocksBack", fn := fun _ => fun
  | [d1, d2] => { results := [.lit (.bool false)], args := [d1, d2] }
  | _ => none }
def BlocksBackWrongFalsely : Prop := blocksBackRow.holds Tryd.pinned (OpenSpec.ofChange blocksBackWrong)

/-- 'cipherplanlaw07.BlocksFind': WHATEVER THE INPUT: true; the input reads as it did. -/
def blocksFindSpec : ChangeSpec := { name := "blocksFind", fn := fun _ => fun
  | [d] => { results := [.lit (.bool true)], args := [d] }
  | _ => none }
def blocksFindRow : OpenClaim := { program := "ytkkoedniahnneaadoor", sum := "db41cf073e62198ed948543e33606b08743e71f8ed2845f3feb102a0fea082c3", func := "cipherplan/cipherplanlaw07.BlocksFind", spec := "blocksFind", inPlace := ["internal/bytealg.CountString", "internal/bytealg.IndexByteString", "internal/bytealg.IndexString", "internal/abi.NoEscape", "internal/bytealg.MakeNoZero"], unfollowed := true, recurses := true, named := ["internal/bytealg.MaxLen", "unicode/utf8.first", "unicode/utf8.acceptRanges"], apart := false, laid := [("unicode/utf8.acceptRanges", laid_unicode_utf8_acceptRanges), ("unicode/utf8.first", laid_unicode_utf8_first)] }
def BlocksFindSaid : Prop := blocksFindRow.holds Tryd.pinned (OpenSpec.ofChange blocksFindSpec)

/-- ITS FALSE NEIGHBOUR: 'it returns false'. Refute it at one input. -/
def blocksFindWrong : ChangeSpec := { name := "blocksFind", fn := fun _ => fun
  | [d] => { results := [.lit (.bool false)], args := [d] }
  | _ => none }
def BlocksFindWrongFalsely : Prop := blocksFindRow.holds Tryd.pinned (OpenSpec.ofChange blocksFindWrong)

/-- 'cipherplanlaw06.SettingsSet': WHATEVER THE INPUT: true; the input reads as it did. -/
def settingsSetSpec : ChangeSpec := { name := "settingsSet", fn := fun _ => fun
  | [d] => { results := [.lit (.bool true)], args := [d] }
  | _ => none }
def settingsSetRow : OpenClaim := { program := "ytkkoedniahnneaadoor", sum := "db41cf073e62198ed948543e33606b08743e71f8ed2845f3feb102a0fea082c3", func := "cipherplan/cipherplanlaw06.SettingsSet", spec := "settingsSet", inPlace := ["internal/bytealg.CountString", "internal/bytealg.IndexByteString", "internal/bytealg.IndexString", "slices.overlaps[cipherplan/api.Setting]"], unfollowed := true, recurses := true, named := ["internal/bytealg.MaxLen", "unicode/utf8.first", "unicode/utf8.acceptRanges"], apart := false, laid := [("unicode/utf8.acceptRanges", laid_unicode_utf8_acceptRanges), ("unicode/utf8.first", laid_unicode_utf8_first)] }
def SettingsSetSaid : Prop := settingsSetRow.holds Tryd.pinned (OpenSpec.ofChange settingsSetSpec)

/-- ITS FALSE NEIGHBOUR: 'it returns false'. Refute it at one input. -/
def settingsSetWrong : ChangeSpec := { name := "settingsSet", fn := fun _ => fun
  | [d] => { results := [.lit (.bool false)], args := [d] }
  | _ => none }
def SettingsSetWrongFalsely : Prop := settingsSetRow.holds Tryd.pinned (OpenSpec.ofChange settingsSetWrong)

/-- 'cipherplanlaw06.SettingsLists': WHATEVER THE INPUT: true; the input reads as it did. -/
def settingsListsSpec : ChangeSpec := { name := "settingsLists", fn := fun _ => fun
  | [d1, d2, d3] => { results := [.lit (.bool true)], args := [d1, d2, d3] }
  | _ => none }
def settingsListsRow : OpenClaim := { program := "ytkkoedniahnneaadoor", sum := "db41cf073e62198ed948543e33606b08743e71f8ed2845f3feb102a0fea082c3", func := "cipherplan/cipherplanlaw06.SettingsLists", spec := "settingsLists", inPlace := ["internal/bytealg.CountString", "internal/bytealg.IndexByteString", "internal/bytealg.IndexString", "internal/abi.NoEscape", "slices.overlaps[cipherplan/api.Setting]"], unfollowed := true, recurses := true, named := ["internal/bytealg.MaxLen", "unicode/utf8.first", "unicode/utf8.acceptRanges"], apart := false, laid := [("unicode/utf8.acceptRanges", laid_unicode_utf8_acceptRanges), ("unicode/utf8.first", laid_unicode_utf8_first)] }
def SettingsListsSaid : Prop := settingsListsRow.holds Tryd.pinned (OpenSpec.ofChange settingsListsSpec)

/-- ITS FALSE NEIGHBOUR: 'it returns false'. Refute it at one input. -/
def settingsListsWrong : ChangeSpec := { name := "settingsLists", fn := fun _ => fun
  | [d1, d2, d3] => { results := [.lit (.bool false)], args := [d1, d2, d3] }
  | _ => none }
def SettingsListsWrongFalsely : Prop := settingsListsRow.holds Tryd.pinned (OpenSpec.ofChange settingsListsWrong)

/- THE SECOND FORM. 'bulk': how many values and letters a reading holds, each counted each time it is reached (what is shared counts as often as it is met; a slice's spare places count too). A statement '..UptoSaid' is the law's where the arguments, and the package variables that the reading takes, are together of bulk at most 1048576: NARROWER than '..Said'. Prove '..Said' where nothing that the law and all that it calls make is longer than what came in: it says more and counts as full. Else prove '..UptoSaid'. A law counts once. -/
mutual
def uptoBulk {H : Type} : DataW H → Nat
  | .lit (.string bytes) => bytes.length + 1
  | .lit _ => 1
  | .nil => 1
  | .ptr d => uptoBulk d + 1
  | .slice elems spare => uptoBulkAll elems + uptoBulkAll spare + 1
  | .agg parts => uptoBulkAll parts + 1
  | .iface _ d => uptoBulk d + 1
  | .map entries => uptoBulkEntries entries + 1
  | .held _ => 1
def uptoBulkAll {H : Type} : List (DataW H) → Nat
  | [] => 0
  | d :: r => uptoBulk d + uptoBulkAll r
def uptoBulkEntries {H : Type} : List (Lit × DataW H) → Nat
  | [] => 0
  | x :: r => uptoBulkEntry x + uptoBulkEntries r
def uptoBulkEntry {H : Type} : Lit × DataW H → Nat
  | (.string bytes, d) => bytes.length + uptoBulk d + 1
  | (_, d) => uptoBulk d + 1
 end
def uptoSmall : (H : Type) → List (DataW H) → Bool := fun _ ds => decide (uptoBulkAll ds ≤ 1048576)
def OpenSpec.upto (s : _root_.Go.ChangeSpec) : _root_.Go.OpenSpec := { _root_.Go.OpenSpec.ofChange s with cond := some uptoSmall }

/-- 'cipherplanlaw06.SettingsTexts', WHERE WHAT IT READS IS OF BULK AT MOST 1048576: true; the input reads as it did. -/
def settingsTextsUptoRow : OpenClaim := { program := "ytkkoedniahnneaadoor", sum := "db41cf073e62198ed948543e33606b08743e71f8ed2845f3feb102a0fea082c3", func := "cipherplan/cipherplanlaw06.SettingsTexts", spec := "settingsTexts", inPlace := ["internal/bytealg.CountString", "internal/bytealg.IndexByteString", "internal/bytealg.IndexString"], unfollowed := true, recurses := true, named := ["internal/bytealg.MaxLen", "unicode/utf8.first", "unicode/utf8.acceptRanges"], apart := false, laid := [("unicode/utf8.acceptRanges", laid_unicode_utf8_acceptRanges), ("unicode/utf8.first", laid_unicode_utf8_first)], narrowed := true }
def SettingsTextsUptoSaid : Prop := settingsTextsUptoRow.holds Tryd.pinned (OpenSpec.upto settingsTextsSpec)

/-- 'cipherplanlaw07.BlocksTexts', WHERE WHAT IT READS IS OF BULK AT MOST 1048576: true; the input reads as it did. -/
def blocksTextsUptoRow : OpenClaim := { program := "ytkkoedniahnneaadoor", sum := "db41cf073e62198ed948543e33606b08743e71f8ed2845f3feb102a0fea082c3", func := "cipherplan/cipherplanlaw07.BlocksTexts", spec := "blocksTexts", inPlace := ["internal/bytealg.CountString", "internal/bytealg.IndexByteString", "internal/bytealg.IndexString", "internal/abi.NoEscape", "internal/bytealg.MakeNoZero"], recurses := true, named := ["internal/bytealg.MaxLen", "unicode/utf8.first", "unicode/utf8.acceptRanges"], apart := false, laid := [("unicode/utf8.acceptRanges", laid_unicode_utf8_acceptRanges), ("unicode/utf8.first", laid_unicode_utf8_first)], narrowed := true }
def BlocksTextsUptoSaid : Prop := blocksTextsUptoRow.holds Tryd.pinned (OpenSpec.upto blocksTextsSpec)

/-- 'cipherplanlaw07.BlocksDeep', WHERE WHAT IT READS IS OF BULK AT MOST 1048576: true; the input reads as it did. -/
def blocksDeepUptoRow : OpenClaim := { program := "ytkkoedniahnneaadoor", sum := "db41cf073e62198ed948543e33606b08743e71f8ed2845f3feb102a0fea082c3", func := "cipherplan/cipherplanlaw07.BlocksDeep", spec := "blocksDeep", inPlace := ["internal/bytealg.IndexByteString", "internal/abi.NoEscape", "internal/bytealg.MakeNoZero", "internal/bytealg.CountString", "internal/bytealg.IndexString"], recurses := true, named := ["internal/bytealg.MaxLen", "unicode/utf8.first", "unicode/utf8.acceptRanges"], apart := false, laid := [("unicode/utf8.acceptRanges", laid_unicode_utf8_acceptRanges), ("unicode/utf8.first", laid_unicode_utf8_first)], narrowed := true }
def BlocksDeepUptoSaid : Prop := blocksDeepUptoRow.holds Tryd.pinned (OpenSpec.upto blocksDeepSpec)

/-- 'cipherplanlaw06.SettingsLong', WHERE WHAT IT READS IS OF BULK AT MOST 1048576: true; the input reads as it did. -/
def settingsLongUptoRow : OpenClaim := { program := "ytkkoedniahnneaadoor", sum := "db41cf073e62198ed948543e33606b08743e71f8ed2845f3feb102a0fea082c3", func := "cipherplan/cipherplanlaw06.SettingsLong", spec := "settingsLong", inPlace := ["internal/bytealg.IndexByteString", "internal/bytealg.IndexString", "internal/abi.NoEscape", "internal/bytealg.CountString"], unfollowed := true, recurses := true, named := ["internal/bytealg.MaxLen", "unicode/utf8.first", "unicode/utf8.acceptRanges"], apart := false, laid := [("unicode/utf8.acceptRanges", laid_unicode_utf8_acceptRanges), ("unicode/utf8.first", laid_unicode_utf8_first)], narrowed := true }
def SettingsLongUptoSaid : Prop := settingsLongUptoRow.holds Tryd.pinned (OpenSpec.upto settingsLongSpec)

/-- 'cipherplanlaw06.SettingsBack', WHERE WHAT IT READS IS OF BULK AT MOST 1048576: true; the input reads as it did. -/
def settingsBackUptoRow : OpenClaim := { program := "ytkkoedniahnneaadoor", sum := "db41cf073e62198ed948543e33606b08743e71f8ed2845f3feb102a0fea082c3", func := "cipherplan/cipherplanlaw06.SettingsBack", spec := "settingsBack", inPlace := ["internal/bytealg.CountString", "internal/bytealg.IndexByteString", "internal/bytealg.IndexString", "internal/abi.NoEscape"], unfollowed := true, recurses := true, named := ["internal/bytealg.MaxLen", "unicode/utf8.first", "unicode/utf8.acceptRanges"], apart := false, laid := [("unicode/utf8.acceptRanges", laid_unicode_utf8_acceptRanges), ("unicode/utf8.first", laid_unicode_utf8_first)], narrowed := true }
def SettingsBackUptoSaid : Prop := settingsBackUptoRow.holds Tryd.pinned (OpenSpec.upto settingsBackSpec)

/-- 'cipherplanlaw07.BlocksLists', WHERE WHAT IT READS IS OF BULK AT MOST 1048576: true; the input reads as it did. -/
def blocksListsUptoRow : OpenClaim := { program := "ytkkoedniahnneaadoor", sum := "db41cf073e62198ed948543e33606b08743e71f8ed2845f3feb102a0fea082c3", func := "cipherplan/cipherplanlaw07.BlocksLists", spec := "blocksLists", inPlace := ["internal/bytealg.CountString", "internal/bytealg.IndexByteString", "internal/bytealg.IndexString", "internal/abi.NoEscape", "internal/bytealg.MakeNoZero"], unfollowed := true, recurses := true, named := ["internal/bytealg.MaxLen", "unicode/utf8.first", "unicode/utf8.acceptRanges"], loops := true, apart := false, laid := [("unicode/utf8.acceptRanges", laid_unicode_utf8_acceptRanges), ("unicode/utf8.first", laid_unicode_utf8_first)], narrowed := true }
def BlocksListsUptoSaid : Prop := blocksListsUptoRow.holds Tryd.pinned (OpenSpec.upto blocksListsSpec)

/-- 'cipherplanlaw07.BlocksBack', WHERE WHAT IT READS IS OF BULK AT MOST 1048576: true; the input reads as it did. -/
def blocksBackUptoRow : OpenClaim := { program := "ytkkoedniahnneaadoor", sum := "db41cf073e62198ed948543e33606b08743e71f8ed2845f3feb102a0fea082c3", func := "cipherplan/cipherplanlaw07.BlocksBack", spec := "blocksBack", inPlace := ["internal/bytealg.CountString", "internal/bytealg.IndexByteString", "internal/bytealg.IndexString", "internal/abi.NoEscape", "internal/bytealg.MakeNoZero"], unfollowed := true, recurses := true, named := ["internal/bytealg.MaxLen", "unicode/utf8.first", "unicode/utf8.acceptRanges"], apart := false, laid := [("unicode/utf8.acceptRanges", laid_unicode_utf8_acceptRanges), ("unicode/utf8.first", laid_unicode_utf8_first)], narrowed := true }
def BlocksBackUptoSaid : Prop := blocksBackUptoRow.holds Tryd.pinned (OpenSpec.upto blocksBackSpec)

/-- 'cipherplanlaw07.BlocksFind', WHERE WHAT IT READS IS OF BULK AT MOST 1048576: true; the input reads as it did. -/
def blocksFindUptoRow : OpenClaim := { program := "ytkkoedniahnneaadoor", sum := "db41cf073e62198ed948543e33606b08743e71f8ed2845f3feb102a0fea082c3", func := "cipherplan/cipherplanlaw07.BlocksFind", spec := "blocksFind", inPlace := ["internal/bytealg.CountString", "internal/bytealg.IndexByteString", "internal/bytealg.IndexString", "internal/abi.NoEscape", "internal/bytealg.MakeNoZero"], unfollowed := true, recurses := true, named := ["internal/bytealg.MaxLen", "unicode/utf8.first", "unicode/utf8.acceptRanges"], apart := false, laid := [("unicode/utf8.acceptRanges", laid_unicode_utf8_acceptRanges), ("unicode/utf8.first", laid_unicode_utf8_first)], narrowed := true }
def BlocksFindUptoSaid : Prop := blocksFindUptoRow.holds Tryd.pinned (OpenSpec.upto blocksFindSpec)

/-- 'cipherplanlaw06.SettingsSet', WHERE WHAT IT READS IS OF BULK AT MOST 1048576: true; the input reads as it did. -/
def settingsSetUptoRow : OpenClaim := { program := "ytkkoedniahnneaadoor", sum := "db41cf073e62198ed948543e33606b08743e71f8ed2845f3feb102a0fea082c3", func := "cipherplan/cipherplanlaw06.SettingsSet", spec := "settingsSet", inPlace := ["internal/bytealg.CountString", "internal/bytealg.IndexByteString", "internal/bytealg.IndexString", "slices.overlaps[cipherplan/api.Setting]"], unfollowed := true, recurses := true, named := ["internal/bytealg.MaxLen", "unicode/utf8.first", "unicode/utf8.acceptRanges"], apart := false, laid := [("unicode/utf8.acceptRanges", laid_unicode_utf8_acceptRanges), ("unicode/utf8.first", laid_unicode_utf8_first)], narrowed := true }
def SettingsSetUptoSaid : Prop := settingsSetUptoRow.holds Tryd.pinned (OpenSpec.upto settingsSetSpec)

/-- 'cipherplanlaw06.SettingsLists', WHERE WHAT IT READS IS OF BULK AT MOST 1048576: true; the input reads as it did. -/
def settingsListsUptoRow : OpenClaim := { program := "ytkkoedniahnneaadoor", sum := "db41cf073e62198ed948543e33606b08743e71f8ed2845f3feb102a0fea082c3", func := "cipherplan/cipherplanlaw06.SettingsLists", spec := "settingsLists", inPlace := ["internal/bytealg.CountString", "internal/bytealg.IndexByteString", "internal/bytealg.IndexString", "internal/abi.NoEscape", "slices.overlaps[cipherplan/api.Setting]"], unfollowed := true, recurses := true, named := ["internal/bytealg.MaxLen", "unicode/utf8.first", "unicode/utf8.acceptRanges"], apart := false, laid := [("unicode/utf8.acceptRanges", laid_unicode_utf8_acceptRanges), ("unicode/utf8.first", laid_unicode_utf8_first)], narrowed := true }
def SettingsListsUptoSaid : Prop := settingsListsUptoRow.holds Tryd.pinned (OpenSpec.upto settingsListsSpec)

end Rows
end Go.Proofs.YtkkoedniahnneaaDoor
