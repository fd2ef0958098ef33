/-
  No cell of these rows narrows 'for every input' (looked for: loops, veiled, ifaces, maps, wideKeys, modest, calm, conditions, laid).
  DERIVED. THE GIVEN ROWS OF THIS SEAT. 4 by the template 'for every input the law returns true; each argument reads behind the call as it read before'; 0 by the template 'total and deterministic' (their statements: YtmjnnemhoeolgaaGreatTotals.lean).
  GIVEN WITH THE SEED: the statements are not yours to turn. If you find one false, say at which input.
  Laid BY PROGRAM, IN A SANDBOX (cutbox-rows.mjs): the forced cells as the released guide's own fill.sh prints them over the translation 3e31fa2804683549… (all of the seat's roots in one cut). By AI agents, Wed Nov 11 2026. No macro, syntax, notation, axiom, sorry.
-/
import Derived.Test.YtmjnnemhoeolgaaGreatChecked
import GoSem.Claim
import GoSem.ClaimJoined
import GoSem.ClaimMapViews
import Derived.JoinedTies
import Derived.KernelRfl
namespace Go.Proofs.YtmjnnemhoeolgaaGreat
/- THE CELL 'sum', in the pinned program and in every row, IS THE sha256 OF THE DUMP (.gsa) THAT YtmjnnemhoeolgaaGreatProg.lean LOADS. Nothing in Lean hashes anything: it is a label: what it is worth is what the hold of that sum in a sandbox is worth. -/
noncomputable def Tryz.pinned : Pinned := { name := "ytmjnnemhoeolgaagreat", sum := "3e31fa28046835496b7ba2a1e3bba9c354e4c0b0b4f22a477b6f4a58ceb02d27", checked := Tryz.checked }
namespace Rows
def none {H : Type} : Left H := { results := [], args := [] }

/-- 'cipherplanlaw27.PolicyClean': WHATEVER THE INPUT: true; the input reads as it did. -/
def policyCleanSpec : ChangeSpec := { name := "policyClean", fn := fun _ => fun
  | [d1, d2] => { results := [.lit (.bool true)], args := [d1, d2] }
  | _ => none }
def policyCleanRow : OpenClaim := { program := "ytmjnnemhoeolgaagreat", sum := "3e31fa28046835496b7ba2a1e3bba9c354e4c0b0b4f22a477b6f4a58ceb02d27", func := "cipherplan/cipherplanlaw27.PolicyClean", spec := "policyClean", inPlace := ["internal/bytealg.IndexByteString"], unfollowed := true, recurses := true, plainKeys := false, apart := false }
def PolicyCleanSaid : Prop := policyCleanRow.holds Tryz.pinned (OpenSpec.ofChange policyCleanSpec)

/-- ITS FALSE NEIGHBOUR: 'it returns false'. Refute it at one input. -/
def policyCleanWrong : ChangeSpec := { name := "policyClean", fn := fun _ => fun
  | [d1, d2] => { results := [.lit (.bool false)], args := [d1, d2] }
  | _ => none }
def PolicyCleanWrongFalsely : Prop := policyCleanRow.holds Tryz.pinned (OpenSpec.ofChange policyCleanWrong)

/-- 'cipherplanlaw27.PolicyBoth': WHATEVER THE INPUT: true; the input reads as it did. -/
def policyBothSpec : ChangeSpec := { name := "policyBoth", fn := fun _ => fun
  | [d1, d2] => { results := [.lit (.bool true)], args := [d1, d2] }
  | _ => none }
def policyBothRow : OpenClaim := { program := "ytmjnnemhoeolgaagreat", sum := "3e31fa28046835496b7ba2a1e3bba9c354e4c0b0b4f22a477b6f4a58ceb02d27", func := "cipherplan/cipherplanlaw27.PolicyBoth", spec := "policyBoth", inPlace := ["internal/bytealg.IndexByteString"], unfollowed := true, recurses := true, plainKeys := false, apart := false }
def PolicyBothSaid : Prop := policyBothRow.holds Tryz.pinned (OpenSpec.ofChange policyBothSpec)

/-- ITS FALSE NEIGHBOUR: 'it returns false'. Refute it at one input. -/
def policyBothWrong : ChangeSpec := { name := "policyBoth", fn := fun _ => fun
  | [d1, d2] => { results := [.lit (.bool false)], args := [d1, d2] }
  | _ => none }
def PolicyBothWrongFalsely : Prop := policyBothRow.holds Tryz.pinned (OpenSpec.ofChange policyBothWrong)

/-- 'cipherplanlaw27.PolicyDrops': WHATEVER THE INPUT: true; the input reads as it did. -/
def policyDropsSpec : ChangeSpec := { name := "policyDrops", fn := fun _ => fun
  | [d] => { results := [.lit (.bool true)], args := [d] }
  | _ => none }
def policyDropsRow : OpenClaim := { program := "ytmjnnemhoeolgaagreat", sum := "3e31fa28046835496b7ba2a1e3bba9c354e4c0b0b4f22a477b6f4a58ceb02d27", func := "cipherplan/cipherplanlaw27.PolicyDrops", spec := "policyDrops", inPlace := ["internal/bytealg.IndexByteString"], unfollowed := true, recurses := true, plainKeys := false, apart := false }
def PolicyDropsSaid : Prop := policyDropsRow.holds Tryz.pinned (OpenSpec.ofChange policyDropsSpec)

/-- ITS FALSE NEIGHBOUR: 'it returns false'. Refute it at one input. -/
def policyDropsWrong : ChangeSpec := { name := "policyDrops", fn := fun _ => fun
  | [d] => { results := [.lit (.bool false)], args := [d] }
  | _ => none }
def PolicyDropsWrongFalsely : Prop := policyDropsRow.holds Tryz.pinned (OpenSpec.ofChange policyDropsWrong)

/-- 'cipherplanlaw27.PolicySame': WHATEVER THE INPUT: true; the input reads as it did. -/
def policySameSpec : ChangeSpec := { name := "policySame", fn := fun _ => fun
  | [d1, d2] => { results := [.lit (.bool true)], args := [d1, d2] }
  | _ => none }
def policySameRow : OpenClaim := { program := "ytmjnnemhoeolgaagreat", sum := "3e31fa28046835496b7ba2a1e3bba9c354e4c0b0b4f22a477b6f4a58ceb02d27", func := "cipherplan/cipherplanlaw27.PolicySame", spec := "policySame", inPlace := ["internal/bytealg.IndexByteString"], unfollowed := true, recurses := true, plainKeys := false, apart := false }
def PolicySameSaid : Prop := policySameRow.holds Tryz.pinned (OpenSpec.ofChange policySameSpec)

/-- ITS FALSE NEIGHBOUR: 'it returns false'. Refute it at one input. -/
def policySameWrong : ChangeSpec := { name := "policySame", fn := fun _ => fun
  | [d1, d2] => { results := [.lit (.bool false)], args := [d1, d2] }
  | _ => none }
def PolicySameWrongFalsely : Prop := policySameRow.holds Tryz.pinned (OpenSpec.ofChange policySameWrong)

/- THE SECOND FORM. 'bulk': how many values and letters a reading holds, each counted each time it is reached (what is shared counts as often as it is met; a slice's spare places count too). A statement '..UptoSaid' is the law's where the arguments, and the package variables that the reading takes, are together of bulk at most 1048576: NARROWER than '..Said'. Prove '..Said' where nothing that the law and all that it calls make is longer than what came in: it says more and counts as full. Else prove '..UptoSaid'. A law counts once. -/
mutual
def uptoBulk {H : Type} : DataW H → Nat
  | .lit (.string bytes) => bytes.length + 1
  | .lit _ => 1
  | .nil => 1
  | .ptr d => uptoBulk d + 1
  | .slice elems spare => uptoBulkAll elems + uptoBulkAll spare + 1
  | .agg parts => uptoBulkAll parts + 1
  | .iface _ d => uptoBulk d + 1
  | .map entries => uptoBulkEntries entries + 1
  | .held _ => 1
def uptoBulkAll {H : Type} : List (DataW H) → Nat
  | [] => 0
  | d :: r => uptoBulk d + uptoBulkAll r
def uptoBulkEntries {H : Type} : List (Lit × DataW H) → Nat
  | [] => 0
  | x :: r => uptoBulkEntry x + uptoBulkEntries r
def uptoBulkEntry {H : Type} : Lit × DataW H → Nat
  | (.string bytes, d) => bytes.length + uptoBulk d + 1
  | (_, d) => uptoBulk d + 1
 end
def uptoSmall : (H : Type) → List (DataW H) → Bool := fun _ ds => decide (uptoBulkAll ds ≤ 1048576)
def OpenSpec.upto (s : _root_.Go.ChangeSpec) : _root_.Go.OpenSpec := { _root_.Go.OpenSpec.ofChange s with cond := some uptoSmall }

/-- 'cipherplanlaw27.PolicyClean', WHERE WHAT IT READS IS OF BULK AT MOST 1048576: true; the input reads as it did. -/
def policyCleanUptoRow : OpenClaim := { program := "ytmjnnemhoeolgaagreat", sum := "3e31fa28046835496b7ba2a1e3bba9c354e4c0b0b4f22a477b6f4a58ceb02d27", func := "cipherplan/cipherplanlaw27.PolicyClean", spec := "policyClean", inPlace := ["internal/bytealg.IndexByteString"], unfollowed := true, recurses := true, plainKeys := false, apart := false, narrowed := true }
def PolicyCleanUptoSaid : Prop := policyCleanUptoRow.holds Tryz.pinned (OpenSpec.upto policyCleanSpec)

/-- 'cipherplanlaw27.PolicyBoth', WHERE WHAT IT READS IS OF BULK AT MOST 1048576: true; the input reads as it did. -/
def policyBothUptoRow : OpenClaim := { program := "ytmjnnemhoeolgaagreat", sum := "3e31fa28046835496b7ba2a1e3bba9c354e4c0b0b4f22a477b6f4a58ceb02d27", func := "cipherplan/cipherplanlaw27.PolicyBoth", spec := "policyBoth", inPlace := ["internal/bytealg.IndexByteString"], unfollowed := true, recurses := true, plainKeys := false, apart := false, narrowed := true }
def PolicyBothUptoSaid : Prop := policyBothUptoRow.holds Tryz.pinned (OpenSpec.upto policyBothSpec)

/-- 'cipherplanlaw27.PolicyDrops', WHERE WHAT IT READS IS OF BULK AT MOST 1048576: true; the input reads as it did. -/
def policyDropsUptoRow : OpenClaim := { program := "ytmjnnemhoeolgaagreat", sum := "3e31fa28046835496b7ba2a1e3bba9c354e4c0b0b4f22a477b6f4a58ceb02d27", func := "cipherplan/cipherplanlaw27.PolicyDrops", spec := "policyDrops", inPlace := ["internal/bytealg.IndexByteString"], unfollowed := true, recurses := true, plainKeys := false, apart := false, narrowed := true }
def PolicyDropsUptoSaid : Prop := policyDropsUptoRow.holds Tryz.pinned (OpenSpec.upto policyDropsSpec)

/-- 'cipherplanlaw27.PolicySame', WHERE WHAT IT READS IS OF BULK AT MOST 1048576: true; the input reads as it did. -/
def policySameUptoRow : OpenClaim := { program := "ytmjnnemhoeolgaagreat", sum := "3e31fa28046835496b7ba2a1e3bba9c354e4c0b0b4f22a477b6f4a58ceb02d27", func := "cipherplan/cipherplanlaw27.PolicySame", spec := "policySame", inPlace := ["internal/bytealg.IndexByteString"], unfollowed := true, recurses := true, plainKeys := false, apart := false, narrowed := true }
def PolicySameUptoSaid : Prop := policySameUptoRow.holds Tryz.pinned (OpenSpec.upto policySameSpec)

end Rows
end Go.Proofs.YtmjnnemhoeolgaaGreat
