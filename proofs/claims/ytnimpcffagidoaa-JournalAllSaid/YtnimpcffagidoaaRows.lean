/-
  No cell of these rows narrows 'for every input' (looked for: loops, veiled, ifaces, maps, wideKeys, modest, calm, conditions, laid).
  DERIVED. THE GIVEN ROWS OF THIS SEAT. 10 by the template 'for every input the law returns true; each argument reads behind the call as it read before'; 0 by the template 'total and deterministic' (their statements: YtnimpcffagidoaaTotals.lean).
  GIVEN WITH THE SEED: the statements are not yours to turn. If you find one false, say at which input.
  Laid BY PROGRAM, IN A SANDBOX (cutbox-rows.mjs): the forced cells as the released guide's own fill.sh prints them over the translation 4c8bd918a78ab4a9… (all of the seat's roots in one cut). By AI agents, Wed Nov 11 2026. No macro, syntax, notation, axiom, sorry.
-/
import Derived.Test.YtnimpcffagidoaaChecked
import GoSem.Claim
import GoSem.ClaimJoined
import GoSem.ClaimMapViews
import Derived.JoinedTies
import Derived.KernelRfl
namespace Go.Proofs.Ytnimpcffagidoaa
/- THE CELL 'sum', in the pinned program and in every row, IS THE sha256 OF THE DUMP (.gsa) THAT YtnimpcffagidoaaProg.lean LOADS. Nothing in Lean hashes anything: it is a label: what it is worth is what the hold of that sum in a sandbox is worth. -/
noncomputable def Try.pinned : Pinned := { name := "ytnimpcffagidoaa", sum := "4c8bd918a78ab4a9ed41c8cfd68a07ee453308c8240dd20ead732879be41678f", checked := Try.checked }
namespace Rows
def none {H : Type} : Left H := { results := [], args := [] }

/-- 'cipherplanlaw42.JournalSums': WHATEVER THE INPUT: true; the input reads as it did. -/
def journalSumsSpec : ChangeSpec := { name := "journalSums", fn := fun _ => fun
  | [d1, d2, d3] => { results := [.lit (.bool true)], args := [d1, d2, d3] }
  | _ => none }
def journalSumsRow : OpenClaim := { program := "ytnimpcffagidoaa", sum := "4c8bd918a78ab4a9ed41c8cfd68a07ee453308c8240dd20ead732879be41678f", func := "cipherplan/cipherplanlaw42.JournalSums", spec := "journalSums", apart := false }
def JournalSumsSaid : Prop := journalSumsRow.holds Try.pinned (OpenSpec.ofChange journalSumsSpec)

/-- ITS FALSE NEIGHBOUR: 'it returns false'. Refute it at one input. -/
def journalSumsWrong : ChangeSpec := { name := "journalSums", fn := fun _ => fun
  | [d1, d2, d3] => { results := [.lit (.bool false)], args := [d1, d2, d3] }
  | _ => none }
def JournalSumsWrongFalsely : Prop := journalSumsRow.holds Try.pinned (OpenSpec.ofChange journalSumsWrong)

/-- 'cipherplanlaw42.JournalChanged': WHATEVER THE INPUT: true; the input reads as it did. -/
def journalChangedSpec : ChangeSpec := { name := "journalChanged", fn := fun _ => fun
  | [d1, d2, d3] => { results := [.lit (.bool true)], args := [d1, d2, d3] }
  | _ => none }
def journalChangedRow : OpenClaim := { program := "ytnimpcffagidoaa", sum := "4c8bd918a78ab4a9ed41c8cfd68a07ee453308c8240dd20ead732879be41678f", func := "cipherplan/cipherplanlaw42.JournalChanged", spec := "journalChanged", apart := false }
def JournalChangedSaid : Prop := journalChangedRow.holds Try.pinned (OpenSpec.ofChange journalChangedSpec)

/-- ITS FALSE NEIGHBOUR: 'it returns false'. Refute it at one input. -/
def journalChangedWrong : ChangeSpec := { name := "journalChanged", fn := fun _ => fun
  | [d1, d2, d3] => { results := [.lit (.bool false)], args := [d1, d2, d3] }
  | _ => none }
def JournalChangedWrongFalsely : Prop := journalChangedRow.holds Try.pinned (OpenSpec.ofChange journalChangedWrong)

/-- 'cipherplanlaw41.LedgerLatest': WHATEVER THE INPUT: true; the input reads as it did. -/
def ledgerLatestSpec : ChangeSpec := { name := "ledgerLatest", fn := fun _ => fun
  | [d1, d2, d3] => { results := [.lit (.bool true)], args := [d1, d2, d3] }
  | _ => none }
def ledgerLatestRow : OpenClaim := { program := "ytnimpcffagidoaa", sum := "4c8bd918a78ab4a9ed41c8cfd68a07ee453308c8240dd20ead732879be41678f", func := "cipherplan/cipherplanlaw41.LedgerLatest", spec := "ledgerLatest", unfollowed := true, recurses := true, apart := false }
def LedgerLatestSaid : Prop := ledgerLatestRow.holds Try.pinned (OpenSpec.ofChange ledgerLatestSpec)

/-- ITS FALSE NEIGHBOUR: 'it returns false'. Refute it at one input. -/
def ledgerLatestWrong : ChangeSpec := { name := "ledgerLatest", fn := fun _ => fun
  | [d1, d2, d3] => { results := [.lit (.bool false)], args := [d1, d2, d3] }
  | _ => none }
def LedgerLatestWrongFalsely : Prop := ledgerLatestRow.holds Try.pinned (OpenSpec.ofChange ledgerLatestWrong)

/-- 'cipherplanlaw41.LedgerKnown': WHATEVER THE INPUT: true; the input reads as it did. -/
def ledgerKnownSpec : ChangeSpec := { name := "ledgerKnown", fn := fun _ => fun
  | [d] => { results := [.lit (.bool true)], args := [d] }
  | _ => none }
def ledgerKnownRow : OpenClaim := { program := "ytnimpcffagidoaa", sum := "4c8bd918a78ab4a9ed41c8cfd68a07ee453308c8240dd20ead732879be41678f", func := "cipherplan/cipherplanlaw41.LedgerKnown", spec := "ledgerKnown", unfollowed := true, recurses := true, apart := false }
def LedgerKnownSaid : Prop := ledgerKnownRow.holds Try.pinned (OpenSpec.ofChange ledgerKnownSpec)

/-- ITS FALSE NEIGHBOUR: 'it returns false'. Refute it at one input. -/
def ledgerKnownWrong : ChangeSpec := { name := "ledgerKnown", fn := fun _ => fun
  | [d] => { results := [.lit (.bool false)], args := [d] }
  | _ => none }
def LedgerKnownWrongFalsely : Prop := ledgerKnownRow.holds Try.pinned (OpenSpec.ofChange ledgerKnownWrong)

/-- 'cipherplanlaw41.LedgerAdds': WHATEVER THE INPUT: true; the input reads as it did. -/
def ledgerAddsSpec : ChangeSpec := { name := "ledgerAdds", fn := fun _ => fun
  | [d1, d2] => { results := [.lit (.bool true)], args := [d1, d2] }
  | _ => none }
def ledgerAddsRow : OpenClaim := { program := "ytnimpcffagidoaa", sum := "4c8bd918a78ab4a9ed41c8cfd68a07ee453308c8240dd20ead732879be41678f", func := "cipherplan/cipherplanlaw41.LedgerAdds", spec := "ledgerAdds", unfollowed := true, recurses := true, apart := false }
def LedgerAddsSaid : Prop := ledgerAddsRow.holds Try.pinned (OpenSpec.ofChange ledgerAddsSpec)

/-- ITS FALSE NEIGHBOUR: 'it returns false'. Refute it at one input. -/
def ledgerAddsWrong : ChangeSpec := { name := "ledgerAdds", fn := fun _ => fun
  | [d1, d2] => { results := [.lit (.bool false)], args := [d1, d2] }
  | _ => none }
def LedgerAddsWrongFalsely : Prop := ledgerAddsRow.holds Try.pinned (OpenSpec.ofChange ledgerAddsWrong)

/-- 'cipherplanlaw41.LedgerChanges': WHATEVER THE INPUT: true; the input reads as it did. -/
def ledgerChangesSpec : ChangeSpec := { name := "ledgerChanges", fn := fun _ => fun
  | [d1, d2, d3] => { results := [.lit (.bool true)], args := [d1, d2, d3] }
  | _ => none }
def ledgerChangesRow : OpenClaim := { program := "ytnimpcffagidoaa", sum := "4c8bd918a78ab4a9ed41c8cfd68a07ee453308c8240dd20ead732879be41678f", func := "cipherplan/cipherplanlaw41.LedgerChanges", spec := "ledgerChanges", unfollowed := true, recurses := true, apart := false }
def LedgerChangesSaid : Prop := ledgerChangesRow.holds Try.pinned (OpenSpec.ofChange ledgerChangesSpec)

/-- ITS FALSE NEIGHBOUR: 'it returns false'. Refute it at one input. -/
def ledgerChangesWrong : ChangeSpec := { name := "ledgerChanges", fn := fun _ => fun
  | [d1, d2, d3] => { results := [.lit (.bool false)], args := [d1, d2, d3] }
  | _ => none }
def LedgerChangesWrongFalsely : Prop := ledgerChangesRow.holds Try.pinned (OpenSpec.ofChange ledgerChangesWrong)

/-- 'cipherplanlaw41.LedgerThen': WHATEVER THE INPUT: true; the input reads as it did. -/
def ledgerThenSpec : ChangeSpec := { name := "ledgerThen", fn := fun _ => fun
  | [d1, d2] => { results := [.lit (.bool true)], args := [d1, d2] }
  | _ => none }
def ledgerThenRow : OpenClaim := { program := "ytnimpcffagidoaa", sum := "4c8bd918a78ab4a9ed41c8cfd68a07ee453308c8240dd20ead732879be41678f", func := "cipherplan/cipherplanlaw41.LedgerThen", spec := "ledgerThen", unfollowed := true, recurses := true, apart := false }
def LedgerThenSaid : Prop := ledgerThenRow.holds Try.pinned (OpenSpec.ofChange ledgerThenSpec)

/-- ITS FALSE NEIGHBOUR: 'it returns false'. Refute it at one input. -/
def ledgerThenWrong : ChangeSpec := { name := "ledgerThen", fn := fun _ => fun
  | [d1, d2] => { results := [.lit (.bool false)], args := [d1, d2] }
  | _ => none }
def LedgerThenWrongFalsely : Prop := ledgerThenRow.holds Try.pinned (OpenSpec.ofChange ledgerThenWrong)

/-- 'cipherplanlaw41.LedgerAll': WHATEVER THE INPUT: true; the input reads as it did. -/
def ledgerAllSpec : ChangeSpec := { name := "ledgerAll", fn := fun _ => fun
  | [d1, d2, d3, d4, d5, d6] => { results := [.lit (.bool true)], args := [d1, d2, d3, d4, d5, d6] }
  | _ => none }
def ledgerAllRow : OpenClaim := { program := "ytnimpcffagidoaa", sum := "4c8bd918a78ab4a9ed41c8cfd68a07ee453308c8240dd20ead732879be41678f", func := "cipherplan/cipherplanlaw41.LedgerAll", spec := "ledgerAll", unfollowed := true, recurses := true, apart := false }
def LedgerAllSaid : Prop := ledgerAllRow.holds Try.pinned (OpenSpec.ofChange ledgerAllSpec)

/-- ITS FALSE NEIGHBOUR: 'it returns false'. Refute it at one input. -/
def ledgerAllWrong : ChangeSpec := { name := "ledgerAll", fn := fun _ => fun
  | [d1, d2, d3, d4, d5, d6] => { results := [.lit (.bool false)], args := [d1, d2, d3, d4, d5, d6] }
  | _ => none }
def LedgerAllWrongFalsely : Prop := ledgerAllRow.holds Try.pinned (OpenSpec.ofChange ledgerAllWrong)

/-- 'cipherplanlaw42.JournalAll': WHATEVER THE INPUT: true; the input reads as it did. -/
def journalAllSpec : ChangeSpec := { name := "journalAll", fn := fun _ => fun
  | [d1, d2, d3, d4, d5, d6] => { results := [.lit (.bool true)], args := [d1, d2, d3, d4, d5, d6] }
  | _ => none }
def journalAllRow : OpenClaim := { program := "ytnimpcffagidoaa", sum := "4c8bd918a78ab4a9ed41c8cfd68a07ee453308c8240dd20ead732879be41678f", func := "cipherplan/cipherplanlaw42.JournalAll", spec := "journalAll", apart := false }
def JournalAllSaid : Prop := journalAllRow.holds Try.pinned (OpenSpec.ofChange journalAllSpec)

/-- ITS FALSE NEIGHBOUR: 'it returns false'. Refute it at one input. -/
def journalAllWrong : ChangeSpec := { name := "journalAll", fn := fun _ => fun
  | [d1, d2, d3, d4, d5, d6] => { results := [.lit (.bool false)], args := [d1, d2, d3, d4, d5, d6] }
  | _ => none }
def JournalAllWrongFalsely : Prop := journalAllRow.holds Try.pinned (OpenSpec.ofChange journalAllWrong)

/-- 'cipherplanlaw42.JournalBack': WHATEVER THE INPUT: true; the input reads as it did. -/
def journalBackSpec : ChangeSpec := { name := "journalBack", fn := fun _ => fun
  | [d1, d2, d3] => { results := [.lit (.bool true)], args := [d1, d2, d3] }
  | _ => none }
def journalBackRow : OpenClaim := { program := "ytnimpcffagidoaa", sum := "4c8bd918a78ab4a9ed41c8cfd68a07ee453308c8240dd20ead732879be41678f", func := "cipherplan/cipherplanlaw42.JournalBack", spec := "journalBack", apart := false }
def JournalBackSaid : Prop := journalBackRow.holds Try.pinned (OpenSpec.ofChange journalBackSpec)

/-- ITS FALSE NEIGHBOUR: 'it returns false'. Refute it at one input. -/
def journalBackWrong : ChangeSpec := { name := "journalBack", fn := fun _ => fun
  | [d1, d2, d3] => { results := [.lit (.bool false)], args := [d1, d2, d3] }
  | _ => none }
def JournalBackWrongFalsely : Prop := journalBackRow.holds Try.pinned (OpenSpec.ofChange journalBackWrong)

/- THE SECOND FORM. 'bulk': how many values and letters a reading holds, each counted each time it is reached (what is shared counts as often as it is met; a slice's spare places count too). A statement '..UptoSaid' is the law's where the arguments, and the package variables that the reading takes, are together of bulk at most 1048576: NARROWER than '..Said'. Prove '..Said' where nothing that the law and all that it calls make is longer than what came in: it says more and counts as full. Else prove '..UptoSaid'. A law counts once. -/
mutual
def uptoBulk {H : Type} : DataW H → Nat
  | .lit (.string bytes) => bytes.length + 1
  | .lit _ => 1
  | .nil => 1
  | .ptr d => uptoBulk d + 1
  | .slice elems spare => uptoBulkAll elems + uptoBulkAll spare + 1
  | .agg parts => uptoBulkAll parts + 1
  | .iface _ d => uptoBulk d + 1
  | .map entries => uptoBulkEntries entries + 1
  | .held _ => 1
def uptoBulkAll {H : Type} : List (DataW H) → Nat
  | [] => 0
  | d :: r => uptoBulk d + uptoBulkAll r
def uptoBulkEntries {H : Type} : List (Lit × DataW H) → Nat
  | [] => 0
  | x :: r => uptoBulkEntry x + uptoBulkEntries r
def uptoBulkEntry {H : Type} : Lit × DataW H → Nat
  | (.string bytes, d) => bytes.length + uptoBulk d + 1
  | (_, d) => uptoBulk d + 1
 end
def uptoSmall : (H : Type) → List (DataW H) → Bool := fun _ ds => decide (uptoBulkAll ds ≤ 1048576)
def OpenSpec.upto (s : _root_.Go.ChangeSpec) : _root_.Go.OpenSpec := { _root_.Go.OpenSpec.ofChange s with cond := some uptoSmall }

/-- 'cipherplanlaw42.JournalSums', WHERE WHAT IT READS IS OF BULK AT MOST 1048576: true; the input reads as it did. -/
def journalSumsUptoRow : OpenClaim := { program := "ytnimpcffagidoaa", sum := "4c8bd918a78ab4a9ed41c8cfd68a07ee453308c8240dd20ead732879be41678f", func := "cipherplan/cipherplanlaw42.JournalSums", spec := "journalSums", apart := false, narrowed := true }
def JournalSumsUptoSaid : Prop := journalSumsUptoRow.holds Try.pinned (OpenSpec.upto journalSumsSpec)

/-- 'cipherplanlaw42.JournalChanged', WHERE WHAT IT READS IS OF BULK AT MOST 1048576: true; the input reads as it did. -/
def journalChangedUptoRow : OpenClaim := { program := "ytnimpcffagidoaa", sum := "4c8bd918a78ab4a9ed41c8cfd68a07ee453308c8240dd20ead732879be41678f", func := "cipherplan/cipherplanlaw42.JournalChanged", spec := "journalChanged", apart := false, narrowed := true }
def JournalChangedUptoSaid : Prop := journalChangedUptoRow.holds Try.pinned (OpenSpec.upto journalChangedSpec)

/-- 'cipherplanlaw41.LedgerLatest', WHERE WHAT IT READS IS OF BULK AT MOST 1048576: true; the input reads as it did. -/
def ledgerLatestUptoRow : OpenClaim := { program := "ytnimpcffagidoaa", sum := "4c8bd918a78ab4a9ed41c8cfd68a07ee453308c8240dd20ead732879be41678f", func := "cipherplan/cipherplanlaw41.LedgerLatest", spec := "ledgerLatest", unfollowed := true, recurses := true, apart := false, narrowed := true }
def LedgerLatestUptoSaid : Prop := ledgerLatestUptoRow.holds Try.pinned (OpenSpec.upto ledgerLatestSpec)

/-- 'cipherplanlaw41.LedgerKnown', WHERE WHAT IT READS IS OF BULK AT MOST 1048576: true; the input reads as it did. -/
def ledgerKnownUptoRow : OpenClaim := { program := "ytnimpcffagidoaa", sum := "4c8bd918a78ab4a9ed41c8cfd68a07ee453308c8240dd20ead732879be41678f", func := "cipherplan/cipherplanlaw41.LedgerKnown", spec := "ledgerKnown", unfollowed := true, recurses := true, apart := false, narrowed := true }
def LedgerKnownUptoSaid : Prop := ledgerKnownUptoRow.holds Try.pinned (OpenSpec.upto ledgerKnownSpec)

/-- 'cipherplanlaw41.LedgerAdds', WHERE WHAT IT READS IS OF BULK AT MOST 1048576: true; the input reads as it did. -/
def ledgerAddsUptoRow : OpenClaim := { program := "ytnimpcffagidoaa", sum := "4c8bd918a78ab4a9ed41c8cfd68a07ee453308c8240dd20ead732879be41678f", func := "cipherplan/cipherplanlaw41.LedgerAdds", spec := "ledgerAdds", unfollowed := true, recurses := true, apart := false, narrowed := true }
def LedgerAddsUptoSaid : Prop := ledgerAddsUptoRow.holds Try.pinned (OpenSpec.upto ledgerAddsSpec)

/-- 'cipherplanlaw41.LedgerChanges', WHERE WHAT IT READS IS OF BULK AT MOST 1048576: true; the input reads as it did. -/
def ledgerChangesUptoRow : OpenClaim := { program := "ytnimpcffagidoaa", sum := "4c8bd918a78ab4a9ed41c8cfd68a07ee453308c8240dd20ead732879be41678f", func := "cipherplan/cipherplanlaw41.LedgerChanges", spec := "ledgerChanges", unfollowed := true, recurses := true, apart := false, narrowed := true }
def LedgerChangesUptoSaid : Prop := ledgerChangesUptoRow.holds Try.pinned (OpenSpec.upto ledgerChangesSpec)

/-- 'cipherplanlaw41.LedgerThen', WHERE WHAT IT READS IS OF BULK AT MOST 1048576: true; the input reads as it did. -/
def ledgerThenUptoRow : OpenClaim := { program := "ytnimpcffagidoaa", sum := "4c8bd918a78ab4a9ed41c8cfd68a07ee453308c8240dd20ead732879be41678f", func := "cipherplan/cipherplanlaw41.LedgerThen", spec := "ledgerThen", unfollowed := true, recurses := true, apart := false, narrowed := true }
def LedgerThenUptoSaid : Prop := ledgerThenUptoRow.holds Try.pinned (OpenSpec.upto ledgerThenSpec)

/-- 'cipherplanlaw41.LedgerAll', WHERE WHAT IT READS IS OF BULK AT MOST 1048576: true; the input reads as it did. -/
def ledgerAllUptoRow : OpenClaim := { program := "ytnimpcffagidoaa", sum := "4c8bd918a78ab4a9ed41c8cfd68a07ee453308c8240dd20ead732879be41678f", func := "cipherplan/cipherplanlaw41.LedgerAll", spec := "ledgerAll", unfollowed := true, recurses := true, apart := false, narrowed := true }
def LedgerAllUptoSaid : Prop := ledgerAllUptoRow.holds Try.pinned (OpenSpec.upto ledgerAllSpec)

/-- 'cipherplanlaw42.JournalAll', WHERE WHAT IT READS IS OF BULK AT MOST 1048576: true; the input reads as it did. -/
def journalAllUptoRow : OpenClaim := { program := "ytnimpcffagidoaa", sum := "4c8bd918a78ab4a9ed41c8cfd68a07ee453308c8240dd20ead732879be41678f", func := "cipherplan/cipherplanlaw42.JournalAll", spec := "journalAll", apart := false, narrowed := true }
def JournalAllUptoSaid : Prop := journalAllUptoRow.holds Try.pinned (OpenSpec.upto journalAllSpec)

/-- 'cipherplanlaw42.JournalBack', WHERE WHAT IT READS IS OF BULK AT MOST 1048576: true; the input reads as it did. -/
def journalBackUptoRow : OpenClaim := { program := "ytnimpcffagidoaa", sum := "4c8bd918a78ab4a9ed41c8cfd68a07ee453308c8240dd20ead732879be41678f", func := "cipherplan/cipherplanlaw42.JournalBack", spec := "journalBack", apart := false, narrowed := true }
def JournalBackUptoSaid : Prop := journalBackUptoRow.holds Try.pinned (OpenSpec.upto journalBackSpec)

end Rows
end Go.Proofs.Ytnimpcffagidoaa
