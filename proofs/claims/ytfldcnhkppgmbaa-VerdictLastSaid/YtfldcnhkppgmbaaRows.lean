/-
  No cell of these rows narrows 'for every input' (looked for: loops, veiled, ifaces, maps, wideKeys, modest, calm, conditions, laid).
  DERIVED. THE GIVEN ROWS OF THIS SEAT. 9 by the template 'for every input the law returns true; each argument reads behind the call as it read before'; 0 by the template 'total and deterministic' (their statements: YtfldcnhkppgmbaaTotals.lean).
  GIVEN WITH THE SEED: the statements are not yours to turn. If you find one false, say at which input.
  Laid BY PROGRAM, IN A SANDBOX (cutbox-rows.mjs): the forced cells as the released guide's own fill.sh prints them over the translation 61c1a9364feac675… (all of the seat's roots in one cut). By AI agents, Wed Nov 11 2026. No macro, syntax, notation, axiom, sorry.
-/
import Derived.Test.YtfldcnhkppgmbaaChecked
import GoSem.Claim
import GoSem.ClaimJoined
import GoSem.ClaimMapViews
import Derived.JoinedTies
import Derived.KernelRfl
namespace Go.Proofs.Ytfldcnhkppgmbaa
/- THE CELL 'sum', in the pinned program and in every row, IS THE sha256 OF THE DUMP (.gsa) THAT YtfldcnhkppgmbaaProg.lean LOADS. Nothing in Lean hashes anything: it is a label: what it is worth is what the hold of that sum in a sandbox is worth. -/
noncomputable def Try.pinned : Pinned := { name := "ytfldcnhkppgmbaa", sum := "61c1a9364feac6759d61ff2e155217a7f5d5968df604840ee34cd53a3e3f1abc", checked := Try.checked }
namespace Rows
def none {H : Type} : Left H := { results := [], args := [] }

/-- 'cipherplanlaw18.VerdictKeeps': WHATEVER THE INPUT: true; the input reads as it did. -/
def verdictKeepsSpec : ChangeSpec := { name := "verdictKeeps", fn := fun _ => fun
  | [d1, d2, d3] => { results := [.lit (.bool true)], args := [d1, d2, d3] }
  | _ => none }
def verdictKeepsRow : OpenClaim := { program := "ytfldcnhkppgmbaa", sum := "61c1a9364feac6759d61ff2e155217a7f5d5968df604840ee34cd53a3e3f1abc", func := "cipherplan/cipherplanlaw18.VerdictKeeps", spec := "verdictKeeps", unfollowed := true, recurses := true, apart := false }
def VerdictKeepsSaid : Prop := verdictKeepsRow.holds Try.pinned (OpenSpec.ofChange verdictKeepsSpec)

/-- ITS FALSE NEIGHBOUR: 'it returns false'. Refute it at one input. -/
def verdictKeepsWrong : ChangeSpec := { name := "verdictKeeps", fn := fun _ => fun
  | [d1, d2, d3] => { results := [.lit (.bool false)], args := [d1, d2, d3] }
  | _ => none }
def VerdictKeepsWrongFalsely : Prop := verdictKeepsRow.holds Try.pinned (OpenSpec.ofChange verdictKeepsWrong)

/-- 'cipherplanlaw18.VerdictDays': WHATEVER THE INPUT: true; the input reads as it did. -/
def verdictDaysSpec : ChangeSpec := { name := "verdictDays", fn := fun _ => fun
  | [d1, d2] => { results := [.lit (.bool true)], args := [d1, d2] }
  | _ => none }
def verdictDaysRow : OpenClaim := { program := "ytfldcnhkppgmbaa", sum := "61c1a9364feac6759d61ff2e155217a7f5d5968df604840ee34cd53a3e3f1abc", func := "cipherplan/cipherplanlaw18.VerdictDays", spec := "verdictDays", unfollowed := true, recurses := true, apart := false }
def VerdictDaysSaid : Prop := verdictDaysRow.holds Try.pinned (OpenSpec.ofChange verdictDaysSpec)

/-- ITS FALSE NEIGHBOUR: 'it returns false'. Refute it at one input. -/
def verdictDaysWrong : ChangeSpec := { name := "verdictDays", fn := fun _ => fun
  | [d1, d2] => { results := [.lit (.bool false)], args := [d1, d2] }
  | _ => none }
def VerdictDaysWrongFalsely : Prop := verdictDaysRow.holds Try.pinned (OpenSpec.ofChange verdictDaysWrong)

/-- 'cipherplanlaw18.VerdictMade': WHATEVER THE INPUT: true; the input reads as it did. -/
def verdictMadeSpec : ChangeSpec := { name := "verdictMade", fn := fun _ => fun
  | [d1, d2, d3] => { results := [.lit (.bool true)], args := [d1, d2, d3] }
  | _ => none }
def verdictMadeRow : OpenClaim := { program := "ytfldcnhkppgmbaa", sum := "61c1a9364feac6759d61ff2e155217a7f5d5968df604840ee34cd53a3e3f1abc", func := "cipherplan/cipherplanlaw18.VerdictMade", spec := "verdictMade", unfollowed := true, recurses := true, apart := false }
def VerdictMadeSaid : Prop := verdictMadeRow.holds Try.pinned (OpenSpec.ofChange verdictMadeSpec)

/-- ITS FALSE NEIGHBOUR: 'it returns false'. Refute it at one input. -/
def verdictMadeWrong : ChangeSpec := { name := "verdictMade", fn := fun _ => fun
  | [d1, d2, d3] => { results := [.lit (.bool false)], args := [d1, d2, d3] }
  | _ => none }
def VerdictMadeWrongFalsely : Prop := verdictMadeRow.holds Try.pinned (OpenSpec.ofChange verdictMadeWrong)

/-- 'cipherplanlaw18.VerdictDead': WHATEVER THE INPUT: true; the input reads as it did. -/
def verdictDeadSpec : ChangeSpec := { name := "verdictDead", fn := fun _ => fun
  | [d] => { results := [.lit (.bool true)], args := [d] }
  | _ => none }
def verdictDeadRow : OpenClaim := { program := "ytfldcnhkppgmbaa", sum := "61c1a9364feac6759d61ff2e155217a7f5d5968df604840ee34cd53a3e3f1abc", func := "cipherplan/cipherplanlaw18.VerdictDead", spec := "verdictDead", unfollowed := true, recurses := true, apart := false }
def VerdictDeadSaid : Prop := verdictDeadRow.holds Try.pinned (OpenSpec.ofChange verdictDeadSpec)

/-- ITS FALSE NEIGHBOUR: 'it returns false'. Refute it at one input. -/
def verdictDeadWrong : ChangeSpec := { name := "verdictDead", fn := fun _ => fun
  | [d] => { results := [.lit (.bool false)], args := [d] }
  | _ => none }
def VerdictDeadWrongFalsely : Prop := verdictDeadRow.holds Try.pinned (OpenSpec.ofChange verdictDeadWrong)

/-- 'cipherplanlaw18.VerdictLast': WHATEVER THE INPUT: true; the input reads as it did. -/
def verdictLastSpec : ChangeSpec := { name := "verdictLast", fn := fun _ => fun
  | [d1, d2] => { results := [.lit (.bool true)], args := [d1, d2] }
  | _ => none }
def verdictLastRow : OpenClaim := { program := "ytfldcnhkppgmbaa", sum := "61c1a9364feac6759d61ff2e155217a7f5d5968df604840ee34cd53a3e3f1abc", func := "cipherplan/cipherplanlaw18.VerdictLast", spec := "verdictLast", unfollowed := true, recurses := true, apart := false }
def VerdictLastSaid : Prop := verdictLastRow.holds Try.pinned (OpenSpec.ofChange verdictLastSpec)

/-- ITS FALSE NEIGHBOUR: 'it returns false'. Refute it at one input. -/
def verdictLastWrong : ChangeSpec := { name := "verdictLast", fn := fun _ => fun
  | [d1, d2] => { results := [.lit (.bool false)], args := [d1, d2] }
  | _ => none }
def VerdictLastWrongFalsely : Prop := verdictLastRow.holds Try.pinned (OpenSpec.ofChange verdictLastWrong)

/-- 'cipherplanlaw22.LifetimeLinks': WHATEVER THE INPUT: true; the input reads as it did. -/
def lifetimeLinksSpec : ChangeSpec := { name := "lifetimeLinks", fn := fun _ => fun
  | [d] => { results := [.lit (.bool true)], args := [d] }
  | _ => none }
def lifetimeLinksRow : OpenClaim := { program := "ytfldcnhkppgmbaa", sum := "61c1a9364feac6759d61ff2e155217a7f5d5968df604840ee34cd53a3e3f1abc", func := "cipherplan/cipherplanlaw22.LifetimeLinks", spec := "lifetimeLinks", unfollowed := true, recurses := true, apart := false }
def LifetimeLinksSaid : Prop := lifetimeLinksRow.holds Try.pinned (OpenSpec.ofChange lifetimeLinksSpec)

/-- ITS FALSE NEIGHBOUR: 'it returns false'. Refute it at one input. -/
def lifetimeLinksWrong : ChangeSpec := { name := "lifetimeLinks", fn := fun _ => fun
  | [d] => { results := [.lit (.bool false)], args := [d] }
  | _ => none }
def LifetimeLinksWrongFalsely : Prop := lifetimeLinksRow.holds Try.pinned (OpenSpec.ofChange lifetimeLinksWrong)

/-- 'cipherplanlaw22.LifetimeStricter': WHATEVER THE INPUT: true; the input reads as it did. -/
def lifetimeStricterSpec : ChangeSpec := { name := "lifetimeStricter", fn := fun _ => fun
  | [d1, d2] => { results := [.lit (.bool true)], args := [d1, d2] }
  | _ => none }
def lifetimeStricterRow : OpenClaim := { program := "ytfldcnhkppgmbaa", sum := "61c1a9364feac6759d61ff2e155217a7f5d5968df604840ee34cd53a3e3f1abc", func := "cipherplan/cipherplanlaw22.LifetimeStricter", spec := "lifetimeStricter", unfollowed := true, recurses := true, apart := false }
def LifetimeStricterSaid : Prop := lifetimeStricterRow.holds Try.pinned (OpenSpec.ofChange lifetimeStricterSpec)

/-- ITS FALSE NEIGHBOUR: 'it returns false'. Refute it at one input. -/
def lifetimeStricterWrong : ChangeSpec := { name := "lifetimeStricter", fn := fun _ => fun
  | [d1, d2] => { results := [.lit (.bool false)], args := [d1, d2] }
  | _ => none }
def LifetimeStricterWrongFalsely : Prop := lifetimeStricterRow.holds Try.pinned (OpenSpec.ofChange lifetimeStricterWrong)

/-- 'cipherplanlaw22.LifetimeSecrets': WHATEVER THE INPUT: true; the input reads as it did. -/
def lifetimeSecretsSpec : ChangeSpec := { name := "lifetimeSecrets", fn := fun _ => fun
  | [d1, d2] => { results := [.lit (.bool true)], args := [d1, d2] }
  | _ => none }
def lifetimeSecretsRow : OpenClaim := { program := "ytfldcnhkppgmbaa", sum := "61c1a9364feac6759d61ff2e155217a7f5d5968df604840ee34cd53a3e3f1abc", func := "cipherplan/cipherplanlaw22.LifetimeSecrets", spec := "lifetimeSecrets", unfollowed := true, recurses := true, apart := false }
def LifetimeSecretsSaid : Prop := lifetimeSecretsRow.holds Try.pinned (OpenSpec.ofChange lifetimeSecretsSpec)

/-- ITS FALSE NEIGHBOUR: 'it returns false'. Refute it at one input. -/
def lifetimeSecretsWrong : ChangeSpec := { name := "lifetimeSecrets", fn := fun _ => fun
  | [d1, d2] => { results := [.lit (.bool false)], args := [d1, d2] }
  | _ => none }
def LifetimeSecretsWrongFalsely : Prop := lifetimeSecretsRow.holds Try.pinned (OpenSpec.ofChange lifetimeSecretsWrong)

/-- 'cipherplanlaw22.LifetimeRenews': WHATEVER THE INPUT: true; the input reads as it did. -/
def lifetimeRenewsSpec : ChangeSpec := { name := "lifetimeRenews", fn := fun _ => fun
  | [d] => { results := [.lit (.bool true)], args := [d] }
  | _ => none }
def lifetimeRenewsRow : OpenClaim := { program := "ytfldcnhkppgmbaa", sum := "61c1a9364feac6759d61ff2e155217a7f5d5968df604840ee34cd53a3e3f1abc", func := "cipherplan/cipherplanlaw22.LifetimeRenews", spec := "lifetimeRenews", unfollowed := true, recurses := true, apart := false }
def LifetimeRenewsSaid : Prop := lifetimeRenewsRow.holds Try.pinned (OpenSpec.ofChange lifetimeRenewsSpec)

/-- ITS FALSE NEIGHBOUR: 'it returns false'. Refute it at one input. -/
def lifetimeRenewsWrong : ChangeSpec := { name := "lifetimeRenews", fn := fun _ => fun
  | [d] => { results := [.lit (.bool false)], args := [d] }
  | _ => none }
def LifetimeRenewsWrongFalsely : Prop := lifetimeRenewsRow.holds Try.pinned (OpenSpec.ofChange lifetimeRenewsWrong)

/- THE SECOND FORM. 'bulk': how many values and letters a reading holds, each counted each time it is reached (what is shared counts as often as it is met; a slice's spare places count too). A statement '..UptoSaid' is the law's where the arguments, and the package variables that the reading takes, are together of bulk at most 1048576: NARROWER than '..Said'. Prove '..Said' where nothing that the law and all that it calls make is longer than what came in: it says more and counts as full. Else prove '..UptoSaid'. A law counts once. -/
mutual
def uptoBulk {H : Type} : DataW H → Nat
  | .lit (.string bytes) => bytes.length + 1
  | .lit _ => 1
  | .nil => 1
  | .ptr d => uptoBulk d + 1
  | .slice elems spare => uptoBulkAll elems + uptoBulkAll spare + 1
  | .agg parts => uptoBulkAll parts + 1
  | .iface _ d => uptoBulk d + 1
  | .map entries => uptoBulkEntries entries + 1
  | .held _ => 1
def uptoBulkAll {H : Type} : List (DataW H) → Nat
  | [] => 0
  | d :: r => uptoBulk d + uptoBulkAll r
def uptoBulkEntries {H : Type} : List (Lit × DataW H) → Nat
  | [] => 0
  | x :: r => uptoBulkEntry x + uptoBulkEntries r
def uptoBulkEntry {H : Type} : Lit × DataW H → Nat
  | (.string bytes, d) => bytes.length + uptoBulk d + 1
  | (_, d) => uptoBulk d + 1
 end
def uptoSmall : (H : Type) → List (DataW H) → Bool := fun _ ds => decide (uptoBulkAll ds ≤ 1048576)
def OpenSpec.upto (s : _root_.Go.ChangeSpec) : _root_.Go.OpenSpec := { _root_.Go.OpenSpec.ofChange s with cond := some uptoSmall }

/-- 'cipherplanlaw18.VerdictKeeps', WHERE WHAT IT READS IS OF BULK AT MOST 1048576: true; the input reads as it did. -/
def verdictKeepsUptoRow : OpenClaim := { program := "ytfldcnhkppgmbaa", sum := "61c1a9364feac6759d61ff2e155217a7f5d5968df604840ee34cd53a3e3f1abc", func := "cipherplan/cipherplanlaw18.VerdictKeeps", spec := "verdictKeeps", unfollowed := true, recurses := true, apart := false, narrowed := true }
def VerdictKeepsUptoSaid : Prop := verdictKeepsUptoRow.holds Try.pinned (OpenSpec.upto verdictKeepsSpec)

/-- 'cipherplanlaw18.VerdictDays', WHERE WHAT IT READS IS OF BULK AT MOST 1048576: true; the input reads as it did. -/
def verdictDaysUptoRow : OpenClaim := { program := "ytfldcnhkppgmbaa", sum := "61c1a9364feac6759d61ff2e155217a7f5d5968df604840ee34cd53a3e3f1abc", func := "cipherplan/cipherplanlaw18.VerdictDays", spec := "verdictDays", unfollowed := true, recurses := true, apart := false, narrowed := true }
def VerdictDaysUptoSaid : Prop := verdictDaysUptoRow.holds Try.pinned (OpenSpec.upto verdictDaysSpec)

/-- 'cipherplanlaw18.VerdictMade', WHERE WHAT IT READS IS OF BULK AT MOST 1048576: true; the input reads as it did. -/
def verdictMadeUptoRow : OpenClaim := { program := "ytfldcnhkppgmbaa", sum := "61c1a9364feac6759d61ff2e155217a7f5d5968df604840ee34cd53a3e3f1abc", func := "cipherplan/cipherplanlaw18.VerdictMade", spec := "verdictMade", unfollowed := true, recurses := true, apart := false, narrowed := true }
def VerdictMadeUptoSaid : Prop := verdictMadeUptoRow.holds Try.pinned (OpenSpec.upto verdictMadeSpec)

/-- 'cipherplanlaw18.VerdictDead', WHERE WHAT IT READS IS OF BULK AT MOST 1048576: true; the input reads as it did. -/
def verdictDeadUptoRow : OpenClaim := { program := "ytfldcnhkppgmbaa", sum := "61c1a9364feac6759d61ff2e155217a7f5d5968df604840ee34cd53a3e3f1abc", func := "cipherplan/cipherplanlaw18.VerdictDead", spec := "verdictDead", unfollowed := true, recurses := true, apart := false, narrowed := true }
def VerdictDeadUptoSaid : Prop := verdictDeadUptoRow.holds Try.pinned (OpenSpec.upto verdictDeadSpec)

/-- 'cipherplanlaw18.VerdictLast', WHERE WHAT IT READS IS OF BULK AT MOST 1048576: true; the input reads as it did. -/
def verdictLastUptoRow : OpenClaim := { program := "ytfldcnhkppgmbaa", sum := "61c1a9364feac6759d61ff2e155217a7f5d5968df604840ee34cd53a3e3f1abc", func := "cipherplan/cipherplanlaw18.VerdictLast", spec := "verdictLast", unfollowed := true, recurses := true, apart := false, narrowed := true }
def VerdictLastUptoSaid : Prop := verdictLastUptoRow.holds Try.pinned (OpenSpec.upto verdictLastSpec)

/-- 'cipherplanlaw22.LifetimeLinks', WHERE WHAT IT READS IS OF BULK AT MOST 1048576: true; the input reads as it did. -/
def lifetimeLinksUptoRow : OpenClaim := { program := "ytfldcnhkppgmbaa", sum := "61c1a9364feac6759d61ff2e155217a7f5d5968df604840ee34cd53a3e3f1abc", func := "cipherplan/cipherplanlaw22.LifetimeLinks", spec := "lifetimeLinks", unfollowed := true, recurses := true, apart := false, narrowed := true }
def LifetimeLinksUptoSaid : Prop := lifetimeLinksUptoRow.holds Try.pinned (OpenSpec.upto lifetimeLinksSpec)

/-- 'cipherplanlaw22.LifetimeStricter', WHERE WHAT IT READS IS OF BULK AT MOST 1048576: true; the input reads as it did. -/
def lifetimeStricterUptoRow : OpenClaim := { program := "ytfldcnhkppgmbaa", sum := "61c1a9364feac6759d61ff2e155217a7f5d5968df604840ee34cd53a3e3f1abc", func := "cipherplan/cipherplanlaw22.LifetimeStricter", spec := "lifetimeStricter", unfollowed := true, recurses := true, apart := false, narrowed := true }
def LifetimeStricterUptoSaid : Prop := lifetimeStricterUptoRow.holds Try.pinned (OpenSpec.upto lifetimeStricterSpec)

/-- 'cipherplanlaw22.LifetimeSecrets', WHERE WHAT IT READS IS OF BULK AT MOST 1048576: true; the input reads as it did. -/
def lifetimeSecretsUptoRow : OpenClaim := { program := "ytfldcnhkppgmbaa", sum := "61c1a9364feac6759d61ff2e155217a7f5d5968df604840ee34cd53a3e3f1abc", func := "cipherplan/cipherplanlaw22.LifetimeSecrets", spec := "lifetimeSecrets", unfollowed := true, recurses := true, apart := false, narrowed := true }
def LifetimeSecretsUptoSaid : Prop := lifetimeSecretsUptoRow.holds Try.pinned (OpenSpec.upto lifetimeSecretsSpec)

/-- 'cipherplanlaw22.LifetimeRenews', WHERE WHAT IT READS IS OF BULK AT MOST 1048576: true; the input reads as it did. -/
def lifetimeRenewsUptoRow : OpenClaim := { program := "ytfldcnhkppgmbaa", sum := "61c1a9364feac6759d61ff2e155217a7f5d5968df604840ee34cd53a3e3f1abc", func := "cipherplan/cipherplanlaw22.LifetimeRenews", spec := "lifetimeRenews", unfollowed := true, recurses := true, apart := false, narrowed := true }
def LifetimeRenewsUptoSaid : Prop := lifetimeRenewsUptoRow.holds Try.pinned (OpenSpec.upto lifetimeRenewsSpec)

end Rows
end Go.Proofs.Ytfldcnhkppgmbaa
