/-
  No cell of these rows narrows 'for every input' (looked for: loops, veiled, ifaces, maps, wideKeys, modest, calm, conditions, laid).
  DERIVED. THE GIVEN ROWS OF THIS SEAT. 4 by the template 'for every input the law returns true; each argument reads behind the call as it read before'; 0 by the template 'total and deterministic' (their statements: YtkngeegkjhipeaaGreatTotals.lean).
  GIVEN WITH THE SEED: the statements are not yours to turn. If you find one false, say at which input.
  Laid BY PROGRAM, IN A SANDBOX (cutbox-rows.mjs): the forced cells as the released guide's own fill.sh prints them over the translation 2b5caad1f3060e4a… (all of the seat's roots in one cut). By AI agents, Wed Nov 11 2026. No macro, syntax, notation, axiom, sorry.
-/
import Derived.Test.YtkngeegkjhipeaaGreatChecked
import GoSem.Claim
import GoSem.ClaimJoined
import GoSem.ClaimMapViews
import Derived.JoinedTies
import Derived.KernelRfl
namespace Go.Proofs.YtkngeegkjhipeaaGreat
/- THE CELL 'sum', in the pinned program and in every row, IS THE sha256 OF THE DUMP (.gsa) THAT YtkngeegkjhipeaaGreatProg.lean LOADS. Nothing in Lean hashes anything: it is a label: what it is worth is what the hold of that sum in a sandbox is worth. -/
noncomputable def Tryz.pinned : Pinned := { name := "ytkngeegkjhipeaagreat", sum := "2b5caad1f3060e4a071d1f335c62eaf43bbb2ebd6ab560364d3c48489536ad5d", checked := Tryz.checked }
namespace Rows
def none {H : Type} : Left H := { results := [], args := [] }

/-- 'cipherplanlaw20.NegotiateMade': WHATEVER THE INPUT: true; the input reads as it did. -/
def negotiateMadeSpec : ChangeSpec := { name := "negotiateMade", fn := fun _ => fun
  | [d1, d2, d3] => { results := [.lit (.bool true)], args := [d1, d2, d3] }
  | _ => none }
def negotiateMadeRow : OpenClaim := { program := "ytkngeegkjhipeaagreat", sum := "2b5caad1f3060e4a071d1f335c62eaf43bbb2ebd6ab560364d3c48489536ad5d", func := "cipherplan/cipherplanlaw20.NegotiateMade", spec := "negotiateMade", inPlace := ["internal/bytealg.IndexByteString"], unfollowed := true, recurses := true, apart := false }
def NegotiateMadeSaid : Prop := negotiateMadeRow.holds Tryz.pinned (OpenSpec.ofChange negotiateMadeSpec)

/-- ITS FALSE NEIGHBOUR: 'it returns false'. Refute it at one input. -/
def negotiateMadeWrong : ChangeSpec := { name := "negotiateMade", fn := fun _ => fun
  | [d1, d2, d3] => { results := [.lit (.bool false)], args := [d1, d2, d3] }
  | _ => none }
def NegotiateMadeWrongFalsely : Prop := negotiateMadeRow.holds Tryz.pinned (OpenSpec.ofChange negotiateMadeWrong)

/-- 'cipherplanlaw20.NegotiateBoth': WHATEVER THE INPUT: true; the input reads as it did. -/
def negotiateBothSpec : ChangeSpec := { name := "negotiateBoth", fn := fun _ => fun
  | [d1, d2] => { results := [.lit (.bool true)], args := [d1, d2] }
  | _ => none }
def negotiateBothRow : OpenClaim := { program := "ytkngeegkjhipeaagreat", sum := "2b5caad1f3060e4a071d1f335c62eaf43bbb2ebd6ab560364d3c48489536ad5d", func := "cipherplan/cipherplanlaw20.NegotiateBoth", spec := "negotiateBoth", inPlace := ["internal/bytealg.IndexByteString"], unfollowed := true, recurses := true, apart := false }
def NegotiateBothSaid : Prop := negotiateBothRow.holds Tryz.pinned (OpenSpec.ofChange negotiateBothSpec)

/-- ITS FALSE NEIGHBOUR: 'it returns false'. Refute it at one input. -/
def negotiateBothWrong : ChangeSpec := { name := "negotiateBoth", fn := fun _ => fun
  | [d1, d2] => { results := [.lit (.bool false)], args := [d1, d2] }
  | _ => none }
def NegotiateBothWrongFalsely : Prop := negotiateBothRow.holds Tryz.pinned (OpenSpec.ofChange negotiateBothWrong)

/-- 'cipherplanlaw20.NegotiateOrder': WHATEVER THE INPUT: true; the input reads as it did. -/
def negotiateOrderSpec : ChangeSpec := { name := "negotiateOrder", fn := fun _ => fun
  | [d1, d2] => { results := [.lit (.bool true)], args := [d1, d2] }
  | _ => none }
def negotiateOrderRow : OpenClaim := { program := "ytkngeegkjhipeaagreat", sum := "2b5caad1f3060e4a071d1f335c62eaf43bbb2ebd6ab560364d3c48489536ad5d", func := "cipherplan/cipherplanlaw20.NegotiateOrder", spec := "negotiateOrder", inPlace := ["internal/bytealg.IndexByteString"], unfollowed := true, recurses := true, apart := false }
def NegotiateOrderSaid : Prop := negotiateOrderRow.holds Tryz.pinned (OpenSpec.ofChange negotiateOrderSpec)

/-- ITS FALSE NEIGHBOUR: 'it returns false'. Refute it at one input. -/
def negotiateOrderWrong : ChangeSpec := { name := "negotiateOrder", fn := fun _ => fun
  | [d1, d2] => { results := [.lit (.bool false)], args := [d1, d2] }
  | _ => none }
def NegotiateOrderWrongFalsely : Prop := negotiateOrderRow.holds Tryz.pinned (OpenSpec.ofChange negotiateOrderWrong)

/-- 'cipherplanlaw20.NegotiateDual': WHATEVER THE INPUT: true; the input reads as it did. -/
def negotiateDualSpec : ChangeSpec := { name := "negotiateDual", fn := fun _ => fun
  | [d1, d2] => { results := [.lit (.bool true)], args := [d1, d2] }
  | _ => none }
def negotiateDualRow : OpenClaim := { program := "ytkngeegkjhipeaagreat", sum := "2b5caad1f3060e4a071d1f335c62eaf43bbb2ebd6ab560364d3c48489536ad5d", func := "cipherplan/cipherplanlaw20.NegotiateDual", spec := "negotiateDual", inPlace := ["internal/bytealg.IndexByteString"], unfollowed := true, recurses := true, apart := false }
def NegotiateDualSaid : Prop := negotiateDualRow.holds Tryz.pinned (OpenSpec.ofChange negotiateDualSpec)

/-- ITS FALSE NEIGHBOUR: 'it returns false'. Refute it at one input. -/
def negotiateDualWrong : ChangeSpec := { name := "negotiateDual", fn := fun _ => fun
  | [d1, d2] => { results := [.lit (.bool false)], args := [d1, d2] }
  | _ => none }
def NegotiateDualWrongFalsely : Prop := negotiateDualRow.holds Tryz.pinned (OpenSpec.ofChange negotiateDualWrong)

/- THE SECOND FORM. 'bulk': how many values and letters a reading holds, each counted each time it is reached (what is shared counts as often as it is met; a slice's spare places count too). A statement '..UptoSaid' is the law's where the arguments, and the package variables that the reading takes, are together of bulk at most 1048576: NARROWER than '..Said'. Prove '..Said' where nothing that the law and all that it calls make is longer than what came in: it says more and counts as full. Else prove '..UptoSaid'. A law counts once. -/
mutual
def uptoBulk {H : Type} : DataW H → Nat
  | .lit (.string bytes) => bytes.length + 1
  | .lit _ => 1
  | .nil => 1
  | .ptr d => uptoBulk d + 1
  | .slice elems spare => uptoBulkAll elems + uptoBulkAll spare + 1
  | .agg parts => uptoBulkAll parts + 1
  | .iface _ d => uptoBulk d + 1
  | .map entries => uptoBulkEntries entries + 1
  | .held _ => 1
def uptoBulkAll {H : Type} : List (DataW H) → Nat
  | [] => 0
  | d :: r => uptoBulk d + uptoBulkAll r
def uptoBulkEntries {H : Type} : List (Lit × DataW H) → Nat
  | [] => 0
  | x :: r => uptoBulkEntry x + uptoBulkEntries r
def uptoBulkEntry {H : Type} : Lit × DataW H → Nat
  | (.string bytes, d) => bytes.length + uptoBulk d + 1
  | (_, d) => uptoBulk d + 1
 end
def uptoSmall : (H : Type) → List (DataW H) → Bool := fun _ ds => decide (uptoBulkAll ds ≤ 1048576)
def OpenSpec.upto (s : _root_.Go.ChangeSpec) : _root_.Go.OpenSpec := { _root_.Go.OpenSpec.ofChange s with cond := some uptoSmall }

/-- 'cipherplanlaw20.NegotiateMade', WHERE WHAT IT READS IS OF BULK AT MOST 1048576: true; the input reads as it did. -/
def negotiateMadeUptoRow : OpenClaim := { program := "ytkngeegkjhipeaagreat", sum := "2b5caad1f3060e4a071d1f335c62eaf43bbb2ebd6ab560364d3c48489536ad5d", func := "cipherplan/cipherplanlaw20.NegotiateMade", spec := "negotiateMade", inPlace := ["internal/bytealg.IndexByteString"], unfollowed := true, recurses := true, apart := false, narrowed := true }
def NegotiateMadeUptoSaid : Prop := negotiateMadeUptoRow.holds Tryz.pinned (OpenSpec.upto negotiateMadeSpec)

/-- 'cipherplanlaw20.NegotiateBoth', WHERE WHAT IT READS IS OF BULK AT MOST 1048576: true; the input reads as it did. -/
def negotiateBothUptoRow : OpenClaim := { program := "ytkngeegkjhipeaagreat", sum := "2b5caad1f3060e4a071d1f335c62eaf43bbb2ebd6ab560364d3c48489536ad5d", func := "cipherplan/cipherplanlaw20.NegotiateBoth", spec := "negotiateBoth", inPlace := ["internal/bytealg.IndexByteString"], unfollowed := true, recurses := true, apart := false, narrowed := true }
def NegotiateBothUptoSaid : Prop := negotiateBothUptoRow.holds Tryz.pinned (OpenSpec.upto negotiateBothSpec)

/-- 'cipherplanlaw20.NegotiateOrder', WHERE WHAT IT READS IS OF BULK AT MOST 1048576: true; the input reads as it did. -/
def negotiateOrderUptoRow : OpenClaim := { program := "ytkngeegkjhipeaagreat", sum := "2b5caad1f3060e4a071d1f335c62eaf43bbb2ebd6ab560364d3c48489536ad5d", func := "cipherplan/cipherplanlaw20.NegotiateOrder", spec := "negotiateOrder", inPlace := ["internal/bytealg.IndexByteString"], unfollowed := true, recurses := true, apart := false, narrowed := true }
def NegotiateOrderUptoSaid : Prop := negotiateOrderUptoRow.holds Tryz.pinned (OpenSpec.upto negotiateOrderSpec)

/-- 'cipherplanlaw20.NegotiateDual', WHERE WHAT IT READS IS OF BULK AT MOST 1048576: true; the input reads as it did. -/
def negotiateDualUptoRow : OpenClaim := { program := "ytkngeegkjhipeaagreat", sum := "2b5caad1f3060e4a071d1f335c62eaf43bbb2ebd6ab560364d3c48489536ad5d", func := "cipherplan/cipherplanlaw20.NegotiateDual", spec := "negotiateDual", inPlace := ["internal/bytealg.IndexByteString"], unfollowed := true, recurses := true, apart := false, narrowed := true }
def NegotiateDualUptoSaid : Prop := negotiateDualUptoRow.holds Tryz.pinned (OpenSpec.upto negotiateDualSpec)

end Rows
end Go.Proofs.YtkngeegkjhipeaaGreat
