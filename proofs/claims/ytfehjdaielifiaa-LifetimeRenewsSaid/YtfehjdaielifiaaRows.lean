/-
  No cell of these rows narrows 'for every input' (looked for: loops, veiled, ifaces, maps, wideKeys, modest, calm, conditions, laid).
  DERIVED. THE GIVEN ROWS OF THIS SEAT. 4 by the template 'for every input the law returns true; each argument reads behind the call as it read before'; 0 by the template 'total and deterministic' (their statements: YtfehjdaielifiaaTotals.lean).
  GIVEN WITH THE SEED: the statements are not yours to turn. If you find one false, say at which input.
  Laid BY PROGRAM, IN A SANDBOX (cutbox-rows.mjs): the forced cells as the released guide's own fill.sh prints them over the translation b45679babf5f4c0b… (all of the seat's roots in one cut). By AI agents, Wed Nov 11 2026. No macro, syntax, notation, axiom, sorry.
-/
import Derived.Test.YtfehjdaielifiaaChecked
import GoSem.Claim
import GoSem.ClaimJoined
import GoSem.ClaimMapViews
import Derived.JoinedTies
import Derived.KernelRfl
namespace Go.Proofs.Ytfehjdaielifiaa
/- THE CELL 'sum', in the pinned program and in every row, IS THE sha256 OF THE DUMP (.gsa) THAT YtfehjdaielifiaaProg.lean LOADS. Nothing in Lean hashes anything: it is a label: what it is worth is what the hold of that sum in a sandbox is worth. -/
noncomputable def Try.pinned : Pinned := { name := "ytfehjdaielifiaa", sum := "b45679babf5f4c0bf9e6a5301e9fa868c39670e030d1d5055b04d9a69e968e67", checked := Try.checked }
namespace Rows
def none {H : Type} : Left H := { results := [], args := [] }

/-- 'cipherplanlaw22.LifetimeLinks': WHATEVER THE INPUT: true; the input reads as it did. -/
def lifetimeLinksSpec : ChangeSpec := { name := "lifetimeLinks", fn := fun _ => fun
  | [d] => { results := [.lit (.bool true)], args := [d] }
  | _ => none }
def lifetimeLinksRow : OpenClaim := { program := "ytfehjdaielifiaa", sum := "b45679babf5f4c0bf9e6a5301e9fa868c39670e030d1d5055b04d9a69e968e67", func := "cipherplan/cipherplanlaw22.LifetimeLinks", spec := "lifetimeLinks", unfollowed := true, recurses := true, apart := false }
def LifetimeLinksSaid : Prop := lifetimeLinksRow.holds Try.pinned (OpenSpec.ofChange lifetimeLinksSpec)

/-- ITS FALSE NEIGHBOUR: 'it returns false'. Refute it at one input. -/
def lifetimeLinksWrong : ChangeSpec := { name := "lifetimeLinks", fn := fun _ => fun
  | [d] => { results := [.lit (.bool false)], args := [d] }
  | _ => none }
def LifetimeLinksWrongFalsely : Prop := lifetimeLinksRow.holds Try.pinned (OpenSpec.ofChange lifetimeLinksWrong)

/-- 'cipherplanlaw22.LifetimeStricter': WHATEVER THE INPUT: true; the input reads as it did. -/
def lifetimeStricterSpec : ChangeSpec := { name := "lifetimeStricter", fn := fun _ => fun
  | [d1, d2] => { results := [.lit (.bool true)], args := [d1, d2] }
  | _ => none }
def lifetimeStricterRow : OpenClaim := { program := "ytfehjdaielifiaa", sum := "b45679babf5f4c0bf9e6a5301e9fa868c39670e030d1d5055b04d9a69e968e67", func := "cipherplan/cipherplanlaw22.LifetimeStricter", spec := "lifetimeStricter", unfollowed := true, recurses := true, apart := false }
def LifetimeStricterSaid : Prop := lifetimeStricterRow.holds Try.pinned (OpenSpec.ofChange lifetimeStricterSpec)

/-- ITS FALSE NEIGHBOUR: 'it returns false'. Refute it at one input. -/
def lifetimeStricterWrong : ChangeSpec := { name := "lifetimeStricter", fn := fun _ => fun
  | [d1, d2] => { results := [.lit (.bool false)], args := [d1, d2] }
  | _ => none }
def LifetimeStricterWrongFalsely : Prop := lifetimeStricterRow.holds Try.pinned (OpenSpec.ofChange lifetimeStricterWrong)

/-- 'cipherplanlaw22.LifetimeSecrets': WHATEVER THE INPUT: true; the input reads as it did. -/
def lifetimeSecretsSpec : ChangeSpec := { name := "lifetimeSecrets", fn := fun _ => fun
  | [d1, d2] => { results := [.lit (.bool true)], args := [d1, d2] }
  | _ => none }
def lifetimeSecretsRow : OpenClaim := { program := "ytfehjdaielifiaa", sum := "b45679babf5f4c0bf9e6a5301e9fa868c39670e030d1d5055b04d9a69e968e67", func := "cipherplan/cipherplanlaw22.LifetimeSecrets", spec := "lifetimeSecrets", unfollowed := true, recurses := true, apart := false }
def LifetimeSecretsSaid : Prop := lifetimeSecretsRow.holds Try.pinned (OpenSpec.ofChange lifetimeSecretsSpec)

/-- ITS FALSE NEIGHBOUR: 'it returns false'. Refute it at one input. -/
def lifetimeSecretsWrong : ChangeSpec := { name := "lifetimeSecrets", fn := fun _ => fun
  | [d1, d2] => { results := [.lit (.bool false)], args := [d1, d2] }
  | _ => none }
def LifetimeSecretsWrongFalsely : Prop := lifetimeSecretsRow.holds Try.pinned (OpenSpec.ofChange lifetimeSecretsWrong)

/-- 'cipherplanlaw22.LifetimeRenews': WHATEVER THE INPUT: true; the input reads as it did. -/
def lifetimeRenewsSpec : ChangeSpec := { name := "lifetimeRenews", fn := fun _ => fun
  | [d] => { results := [.lit (.bool true)], args := [d] }
  | _ => none }
def lifetimeRenewsRow : OpenClaim := { program := "ytfehjdaielifiaa", sum := "b45679babf5f4c0bf9e6a5301e9fa868c39670e030d1d5055b04d9a69e968e67", func := "cipherplan/cipherplanlaw22.LifetimeRenews", spec := "lifetimeRenews", unfollowed := true, recurses := true, apart := false }
def LifetimeRenewsSaid : Prop := lifetimeRenewsRow.holds Try.pinned (OpenSpec.ofChange lifetimeRenewsSpec)

/-- ITS FALSE NEIGHBOUR: 'it returns false'. Refute it at one input. -/
def lifetimeRenewsWrong : ChangeSpec := { name := "lifetimeRenews", fn := fun _ => fun
  | [d] => { results := [.lit (.bool false)], args := [d] }
  | _ => none }
def LifetimeRenewsWrongFalsely : Prop := lifetimeRenewsRow.holds Try.pinned (OpenSpec.ofChange lifetimeRenewsWrong)

/- THE SECOND FORM. 'bulk': how many values and letters a reading holds, each counted each time it is reached (what is shared counts as often as it is met; a slice's spare places count too). A statement '..UptoSaid' is the law's where the arguments, and the package variables that the reading takes, are together of bulk at most 1048576: NARROWER than '..Said'. Prove '..Said' where nothing that the law and all that it calls make is longer than what came in: it says more and counts as full. Else prove '..UptoSaid'. A law counts once. -/
mutual
def uptoBulk {H : Type} : DataW H → Nat
  | .lit (.string bytes) => bytes.length + 1
  | .lit _ => 1
  | .nil => 1
  | .ptr d => uptoBulk d + 1
  | .slice elems spare => uptoBulkAll elems + uptoBulkAll spare + 1
  | .agg parts => uptoBulkAll parts + 1
  | .iface _ d => uptoBulk d + 1
  | .map entries => uptoBulkEntries entries + 1
  | .held _ => 1
def uptoBulkAll {H : Type} : List (DataW H) → Nat
  | [] => 0
  | d :: r => uptoBulk d + uptoBulkAll r
def uptoBulkEntries {H : Type} : List (Lit × DataW H) → Nat
  | [] => 0
  | x :: r => uptoBulkEntry x + uptoBulkEntries r
def uptoBulkEntry {H : Type} : Lit × DataW H → Nat
  | (.string bytes, d) => bytes.length + uptoBulk d + 1
  | (_, d) => uptoBulk d + 1
 end
def uptoSmall : (H : Type) → List (DataW H) → Bool := fun _ ds => decide (uptoBulkAll ds ≤ 1048576)
def OpenSpec.upto (s : _root_.Go.ChangeSpec) : _root_.Go.OpenSpec := { _root_.Go.OpenSpec.ofChange s with cond := some uptoSmall }

/-- 'cipherplanlaw22.LifetimeLinks', WHERE WHAT IT READS IS OF BULK AT MOST 1048576: true; the input reads as it did. -/
def lifetimeLinksUptoRow : OpenClaim := { program := "ytfehjdaielifiaa", sum := "b45679babf5f4c0bf9e6a5301e9fa868c39670e030d1d5055b04d9a69e968e67", func := "cipherplan/cipherplanlaw22.LifetimeLinks", spec := "lifetimeLinks", unfollowed := true, recurses := true, apart := false, narrowed := true }
def LifetimeLinksUptoSaid : Prop := lifetimeLinksUptoRow.holds Try.pinned (OpenSpec.upto lifetimeLinksSpec)

/-- 'cipherplanlaw22.LifetimeStricter', WHERE WHAT IT READS IS OF BULK AT MOST 1048576: true; the input reads as it did. -/
def lifetimeStricterUptoRow : OpenClaim := { program := "ytfehjdaielifiaa", sum := "b45679babf5f4c0bf9e6a5301e9fa868c39670e030d1d5055b04d9a69e968e67", func := "cipherplan/cipherplanlaw22.LifetimeStricter", spec := "lifetimeStricter", unfollowed := true, recurses := true, apart := false, narrowed := true }
def LifetimeStricterUptoSaid : Prop := lifetimeStricterUptoRow.holds Try.pinned (OpenSpec.upto lifetimeStricterSpec)

/-- 'cipherplanlaw22.LifetimeSecrets', WHERE WHAT IT READS IS OF BULK AT MOST 1048576: true; the input reads as it did. -/
def lifetimeSecretsUptoRow : OpenClaim := { program := "ytfehjdaielifiaa", sum := "b45679babf5f4c0bf9e6a5301e9fa868c39670e030d1d5055b04d9a69e968e67", func := "cipherplan/cipherplanlaw22.LifetimeSecrets", spec := "lifetimeSecrets", unfollowed := true, recurses := true, apart := false, narrowed := true }
def LifetimeSecretsUptoSaid : Prop := lifetimeSecretsUptoRow.holds Try.pinned (OpenSpec.upto lifetimeSecretsSpec)

/-- 'cipherplanlaw22.LifetimeRenews', WHERE WHAT IT READS IS OF BULK AT MOST 1048576: true; the input reads as it did. -/
def lifetimeRenewsUptoRow : OpenClaim := { program := "ytfehjdaielifiaa", sum := "b45679babf5f4c0bf9e6a5301e9fa868c39670e030d1d5055b04d9a69e968e67", func := "cipherplan/cipherplanlaw22.LifetimeRenews", spec := "lifetimeRenews", unfollowed := true, recurses := true, apart := false, narrowed := true }
def LifetimeRenewsUptoSaid : Prop := lifetimeRenewsUptoRow.holds Try.pinned (OpenSpec.upto lifetimeRenewsSpec)

end Rows
end Go.Proofs.Ytfehjdaielifiaa
