/-
  No cell of these rows narrows 'for every input' (looked for: loops, veiled, ifaces, maps, wideKeys, modest, calm, conditions, laid).
  DERIVED. THE GIVEN ROWS OF THIS SEAT. 5 by the template 'for every input the law returns true; each argument reads behind the call as it read before'; 0 by the template 'total and deterministic' (their statements: YthdichlainehpaaTotals.lean).
  GIVEN WITH THE SEED: the statements are not yours to turn. If you find one false, say at which input.
  Laid BY PROGRAM, IN A SANDBOX (cutbox-rows.mjs): the forced cells as the released guide's own fill.sh prints them over the translation e76640dbac4fcf35… (all of the seat's roots in one cut). By AI agents, Wed Nov 11 2026. No macro, syntax, notation, axiom, sorry.
-/
import Derived.Test.YthdichlainehpaaChecked
import GoSem.Claim
import GoSem.ClaimJoined
import GoSem.ClaimMapViews
import Derived.JoinedTies
import Derived.KernelRfl
namespace Go.Proofs.Ythdichlainehpaa
/- THE CELL 'sum', in the pinned program and in every row, IS THE sha256 OF THE DUMP (.gsa) THAT YthdichlainehpaaProg.lean LOADS. Nothing in Lean hashes anything: it is a label: what it is worth is what the hold of that sum in a sandbox is worth. -/
noncomputable def Try.pinned : Pinned := { name := "ythdichlainehpaa", sum := "e76640dbac4fcf352e389225b37a253d57ff9463371798d15d761bd99f7a141e", checked := Try.checked }
namespace Rows
def none {H : Type} : Left H := { results := [], args := [] }

/-- 'cipherplanlaw42.JournalAll': WHATEVER THE INPUT: true; the input reads as it did. -/
def journalAllSpec : ChangeSpec := { name := "journalAll", fn := fun _ => fun
  | [d1, d2, d3, d4, d5, d6] => { results := [.lit (.bool true)], args := [d1, d2, d3, d4, d5, d6] }
  | _ => none }
def journalAllRow : OpenClaim := { program := "ythdichlainehpaa", sum := "e76640dbac4fcf352e389225b37a253d57ff9463371798d15d761bd99f7a141e", func := "cipherplan/cipherplanlaw42.JournalAll", spec := "journalAll", apart := false }
def JournalAllSaid : Prop := journalAllRow.holds Try.pinned (OpenSpec.ofChange journalAllSpec)

/-- ITS FALSE NEIGHBOUR: 'it returns false'. Refute it at one input. -/
def journalAllWrong : ChangeSpec := { name := "journalAll", fn := fun _ => fun
  | [d1, d2, d3, d4, d5, d6] => { results := [.lit (.bool false)], args := [d1, d2, d3, d4, d5, d6] }
  | _ => none }
def JournalAllWrongFalsely : Prop := journalAllRow.holds Try.pinned (OpenSpec.ofChange journalAllWrong)

/-- 'cipherplanlaw10.ExecutableBytes': WHATEVER THE INPUT: true; the input reads as it did. -/
def executableBytesSpec : ChangeSpec := { name := "executableBytes", fn := fun _ => fun
  | [d1, d2, d3] => { results := [.lit (.bool true)], args := [d1, d2, d3] }
  | _ => none }
def executableBytesRow : OpenClaim := { program := "ythdichlainehpaa", sum := "e76640dbac4fcf352e389225b37a253d57ff9463371798d15d761bd99f7a141e", func := "cipherplan/cipherplanlaw10.ExecutableBytes", spec := "executableBytes", inPlace := ["internal/bytealg.IndexByteString", "internal/bytealg.IndexString"], unfollowed := true, recurses := true, named := ["internal/bytealg.MaxLen"], apart := false }
def ExecutableBytesSaid : Prop := executableBytesRow.holds Try.pinned (OpenSpec.ofChange executableBytesSpec)

/-- ITS FALSE NEIGHBOUR: 'it returns false'. Refute it at one input. -/
def executableBytesWrong : ChangeSpec := { name := "executableBytes", fn := fun _ => fun
  | [d1, d2, d3] => { results := [.lit (.bool false)], args := [d1, d2, d3] }
  | _ => none }
def ExecutableBytesWrongFalsely : Prop := executableBytesRow.holds Try.pinned (OpenSpec.ofChange executableBytesWrong)

/-- 'cipherplanlaw10.ExecutableBack': WHATEVER THE INPUT: true; the input reads as it did. -/
def executableBackSpec : ChangeSpec := { name := "executableBack", fn := fun _ => fun
  | [d1, d2] => { results := [.lit (.bool true)], args := [d1, d2] }
  | _ => none }
def executableBackRow : OpenClaim := { program := "ythdichlainehpaa", sum := "e76640dbac4fcf352e389225b37a253d57ff9463371798d15d761bd99f7a141e", func := "cipherplan/cipherplanlaw10.ExecutableBack", spec := "executableBack", inPlace := ["internal/bytealg.IndexByteString", "internal/bytealg.IndexString"], unfollowed := true, recurses := true, named := ["internal/bytealg.MaxLen"], apart := false }
def ExecutableBackSaid : Prop := executableBackRow.holds Try.pinned (OpenSpec.ofChange executableBackSpec)

/-- ITS FALSE NEIGHBOUR: 'it returns false'. Refute it at one input. -/
def executableBackWrong : ChangeSpec := { name := "executableBack", fn := fun _ => fun
  | [d1, d2] => { results := [.lit (.bool false)], args := [d1, d2] }
  | _ => none }
def ExecutableBackWrongFalsely : Prop := executableBackRow.holds Try.pinned (OpenSpec.ofChange executableBackWrong)

/-- 'cipherplanlaw10.ExecutableNames': WHATEVER THE INPUT: true; the input reads as it did. -/
def executableNamesSpec : ChangeSpec := { name := "executableNames", fn := fun _ => fun
  | [d1, d2] => { results := [.lit (.bool true)], args := [d1, d2] }
  | _ => none }
def executableNamesRow : OpenClaim := { program := "ythdichlainehpaa", sum := "e76640dbac4fcf352e389225b37a253d57ff9463371798d15d761bd99f7a141e", func := "cipherplan/cipherplanlaw10.ExecutableNames", spec := "executableNames", inPlace := ["internal/bytealg.IndexByteString", "internal/bytealg.IndexString"], unfollowed := true, recurses := true, named := ["internal/bytealg.MaxLen"], apart := false }
def ExecutableNamesSaid : Prop := executableNamesRow.holds Try.pinned (OpenSpec.ofChange executableNamesSpec)

/-- ITS FALSE NEIGHBOUR: 'it returns false'. Refute it at one input. -/
def executableNamesWrong : ChangeSpec := { name := "executableNames", fn := fun _ => fun
  | [d1, d2] => { results := [.lit (.bool false)], args := [d1, d2] }
  | _ => none }
def ExecutableNamesWrongFalsely : Prop := executableNamesRow.holds Try.pinned (OpenSpec.ofChange executableNamesWrong)

/-- 'cipherplanlaw10.ExecutableMade': WHATEVER THE INPUT: true; the input reads as it did. -/
def executableMadeSpec : ChangeSpec := { name := "executableMade", fn := fun _ => fun
  | [d1, d2, d3] => { results := [.lit (.bool true)], args := [d1, d2, d3] }
  | _ => none }
def executableMadeRow : OpenClaim := { program := "ythdichlainehpaa", sum := "e76640dbac4fcf352e389225b37a253d57ff9463371798d15d761bd99f7a141e", func := "cipherplan/cipherplanlaw10.ExecutableMade", spec := "executableMade", inPlace := ["internal/bytealg.IndexByteString", "internal/bytealg.IndexString"], unfollowed := true, recurses := true, named := ["internal/bytealg.MaxLen"], apart := false }
def ExecutableMadeSaid : Prop := executableMadeRow.holds Try.pinned (OpenSpec.ofChange executableMadeSpec)

/-- ITS FALSE NEIGHBOUR: 'it returns false'. Refute it at one input. -/
def executableMadeWrong : ChangeSpec := { name := "executableMade", fn := fun _ => fun
  | [d1, d2, d3] => { results := [.lit (.bool false)], args := [d1, d2, d3] }
  | _ => none }
def ExecutableMadeWrongFalsely : Prop := executableMadeRow.holds Try.pinned (OpenSpec.ofChange executableMadeWrong)

/- THE SECOND FORM. 'bulk': how many values and letters a reading holds, each counted each time it is reached (what is shared counts as often as it is met; a slice's spare places count too). A statement '..UptoSaid' is the law's where the arguments, and the package variables that the reading takes, are together of bulk at most 1048576: NARROWER than '..Said'. Prove '..Said' where nothing that the law and all that it calls make is longer than what came in: it says more and counts as full. Else prove '..UptoSaid'. A law counts once. -/
mutual
def uptoBulk {H : Type} : DataW H → Nat
  | .lit (.string bytes) => bytes.length + 1
  | .lit _ => 1
  | .nil => 1
  | .ptr d => uptoBulk d + 1
  | .slice elems spare => uptoBulkAll elems + uptoBulkAll spare + 1
  | .agg parts => uptoBulkAll parts + 1
  | .iface _ d => uptoBulk d + 1
  | .map entries => uptoBulkEntries entries + 1
  | .held _ => 1
def uptoBulkAll {H : Type} : List (DataW H) → Nat
  | [] => 0
  | d :: r => uptoBulk d + uptoBulkAll r
def uptoBulkEntries {H : Type} : List (Lit × DataW H) → Nat
  | [] => 0
  | x :: r => uptoBulkEntry x + uptoBulkEntries r
def uptoBulkEntry {H : Type} : Lit × DataW H → Nat
  | (.string bytes, d) => bytes.length + uptoBulk d + 1
  | (_, d) => uptoBulk d + 1
 end
def uptoSmall : (H : Type) → List (DataW H) → Bool := fun _ ds => decide (uptoBulkAll ds ≤ 1048576)
def OpenSpec.upto (s : _root_.Go.ChangeSpec) : _root_.Go.OpenSpec := { _root_.Go.OpenSpec.ofChange s with cond := some uptoSmall }

/-- 'cipherplanlaw42.JournalAll', WHERE WHAT IT READS IS OF BULK AT MOST 1048576: true; the input reads as it did. -/
def journalAllUptoRow : OpenClaim := { program := "ythdichlainehpaa", sum := "e76640dbac4fcf352e389225b37a253d57ff9463371798d15d761bd99f7a141e", func := "cipherplan/cipherplanlaw42.JournalAll", spec := "journalAll", apart := false, narrowed := true }
def JournalAllUptoSaid : Prop := journalAllUptoRow.holds Try.pinned (OpenSpec.upto journalAllSpec)

/-- 'cipherplanlaw10.ExecutableBytes', WHERE WHAT IT READS IS OF BULK AT MOST 1048576: true; the input reads as it did. -/
def executableBytesUptoRow : OpenClaim := { program := "ythdichlainehpaa", sum := "e76640dbac4fcf352e389225b37a253d57ff9463371798d15d761bd99f7a141e", func := "cipherplan/cipherplanlaw10.ExecutableBytes", spec := "executableBytes", inPlace := ["internal/bytealg.IndexByteString", "internal/bytealg.IndexString"], unfollowed := true, recurses := true, named := ["internal/bytealg.MaxLen"], apart := false, narrowed := true }
def ExecutableBytesUptoSaid : Prop := executableBytesUptoRow.holds Try.pinned (OpenSpec.upto executableBytesSpec)

/-- 'cipherplanlaw10.ExecutableBack', WHERE WHAT IT READS IS OF BULK AT MOST 1048576: true; the input reads as it did. -/
def executableBackUptoRow : OpenClaim := { program := "ythdichlainehpaa", sum := "e76640dbac4fcf352e389225b37a253d57ff9463371798d15d761bd99f7a141e", func := "cipherplan/cipherplanlaw10.ExecutableBack", spec := "executableBack", inPlace := ["internal/bytealg.IndexByteString", "internal/bytealg.IndexString"], unfollowed := true, recurses := true, named := ["internal/bytealg.MaxLen"], apart := false, narrowed := true }
def ExecutableBackUptoSaid : Prop := executableBackUptoRow.holds Try.pinned (OpenSpec.upto executableBackSpec)

/-- 'cipherplanlaw10.ExecutableNames', WHERE WHAT IT READS IS OF BULK AT MOST 1048576: true; the input reads as it did. -/
def executableNamesUptoRow : OpenClaim := { program := "ythdichlainehpaa", sum := "e76640dbac4fcf352e389225b37a253d57ff9463371798d15d761bd99f7a141e", func := "cipherplan/cipherplanlaw10.ExecutableNames", spec := "executableNames", inPlace := ["internal/bytealg.IndexByteString", "internal/bytealg.IndexString"], unfollowed := true, recurses := true, named := ["internal/bytealg.MaxLen"], apart := false, narrowed := true }
def ExecutableNamesUptoSaid : Prop := executableNamesUptoRow.holds Try.pinned (OpenSpec.upto executableNamesSpec)

/-- 'cipherplanlaw10.ExecutableMade', WHERE WHAT IT READS IS OF BULK AT MOST 1048576: true; the input reads as it did. -/
def executableMadeUptoRow : OpenClaim := { program := "ythdichlainehpaa", sum := "e76640dbac4fcf352e389225b37a253d57ff9463371798d15d761bd99f7a141e", func := "cipherplan/cipherplanlaw10.ExecutableMade", spec := "executableMade", inPlace := ["internal/bytealg.IndexByteString", "internal/bytealg.IndexString"], unfollowed := true, recurses := true, named := ["internal/bytealg.MaxLen"], apart := false, narrowed := true }
def ExecutableMadeUptoSaid : Prop := executableMadeUptoRow.holds Try.pinned (OpenSpec.upto executableMadeSpec)

end Rows
end Go.Proofs.Ythdichlainehpaa
