/-
  No cell of these rows narrows 'for every input' (looked for: loops, veiled, ifaces, maps, wideKeys, modest, calm, conditions, laid).
  DERIVED. THE GIVEN ROWS OF THIS SEAT. 6 by the template 'for every input the law returns true; each argument reads behind the call as it read before'; 0 by the template 'total and deterministic' (their statements: YtckcgijklnloiaaGreatTotals.lean).
  GIVEN WITH THE SEED: the statements are not yours to turn. If you find one false, say at which input.
  Laid BY PROGRAM, IN A SANDBOX (cutbox-rows.mjs): the forced cells as the released guide's own fill.sh prints them over the translation bb153179be74ed6c… (all of the seat's roots in one cut). By AI agents, Wed Nov 11 2026. No macro, syntax, notation, axiom, sorry.
-/
import Derived.Test.YtckcgijklnloiaaGreatChecked
import GoSem.Claim
import GoSem.ClaimJoined
import GoSem.ClaimMapViews
import Derived.JoinedTies
import Derived.KernelRfl
namespace Go.Proofs.YtckcgijklnloiaaGreat
/- THE CELL 'sum', in the pinned program and in every row, IS THE sha256 OF THE DUMP (.gsa) THAT YtckcgijklnloiaaGreatProg.lean LOADS. Nothing in Lean hashes anything: it is a label: what it is worth is what the hold of that sum in a sandbox is worth. -/
noncomputable def Tryz.pinned : Pinned := { name := "ytckcgijklnloiaagreat", sum := "bb153179be74ed6c362be4bf8c412000a0a12faa5f24b20be00cf7abe86897e1", checked := Tryz.checked }
namespace Rows
def none {H : Type} : Left H := { results := [], args := [] }

/-- 'cipherplanlaw26.ConversationBroken': WHATEVER THE INPUT: true; the input reads as it did. -/
def conversationBrokenSpec : ChangeSpec := { name := "conversationBroken", fn := fun _ => fun
  | [d1, d2] => { results := [.lit (.bool true)], args := [d1, d2] }
  | _ => none }
def conversationBrokenRow : OpenClaim := { program := "ytckcgijklnloiaagreat", sum := "bb153179be74ed6c362be4bf8c412000a0a12faa5f24b20be00cf7abe86897e1", func := "cipherplan/cipherplanlaw26.ConversationBroken", spec := "conversationBroken", inPlace := ["internal/bytealg.IndexByteString"], unfollowed := true, recurses := true, apart := false }
def ConversationBrokenSaid : Prop := conversationBrokenRow.holds Tryz.pinned (OpenSpec.ofChange conversationBrokenSpec)

/-- ITS FALSE NEIGHBOUR: 'it returns false'. Refute it at one input. -/
def conversationBrokenWrong : ChangeSpec := { name := "conversationBroken", fn := fun _ => fun
  | [d1, d2] => { results := [.lit (.bool false)], args := [d1, d2] }
  | _ => none }
def ConversationBrokenWrongFalsely : Prop := conversationBrokenRow.holds Tryz.pinned (OpenSpec.ofChange conversationBrokenWrong)

/-- 'cipherplanlaw26.ConversationNeeds': WHATEVER THE INPUT: true; the input reads as it did. -/
def conversationNeedsSpec : ChangeSpec := { name := "conversationNeeds", fn := fun _ => fun
  | [d1, d2] => { results := [.lit (.bool true)], args := [d1, d2] }
  | _ => none }
def conversationNeedsRow : OpenClaim := { program := "ytckcgijklnloiaagreat", sum := "bb153179be74ed6c362be4bf8c412000a0a12faa5f24b20be00cf7abe86897e1", func := "cipherplan/cipherplanlaw26.ConversationNeeds", spec := "conversationNeeds", inPlace := ["internal/bytealg.IndexByteString"], unfollowed := true, recurses := true, apart := false }
def ConversationNeedsSaid : Prop := conversationNeedsRow.holds Tryz.pinned (OpenSpec.ofChange conversationNeedsSpec)

/-- ITS FALSE NEIGHBOUR: 'it returns false'. Refute it at one input. -/
def conversationNeedsWrong : ChangeSpec := { name := "conversationNeeds", fn := fun _ => fun
  | [d1, d2] => { results := [.lit (.bool false)], args := [d1, d2] }
  | _ => none }
def ConversationNeedsWrongFalsely : Prop := conversationNeedsRow.holds Tryz.pinned (OpenSpec.ofChange conversationNeedsWrong)

/-- 'cipherplanlaw26.ConversationTrust': WHATEVER THE INPUT: true; the input reads as it did. -/
def conversationTrustSpec : ChangeSpec := { name := "conversationTrust", fn := fun _ => fun
  | [d1, d2, d3] => { results := [.lit (.bool true)], args := [d1, d2, d3] }
  | _ => none }
def conversationTrustRow : OpenClaim := { program := "ytckcgijklnloiaagreat", sum := "bb153179be74ed6c362be4bf8c412000a0a12faa5f24b20be00cf7abe86897e1", func := "cipherplan/cipherplanlaw26.ConversationTrust", spec := "conversationTrust", inPlace := ["internal/bytealg.IndexByteString"], unfollowed := true, recurses := true, apart := false }
def ConversationTrustSaid : Prop := conversationTrustRow.holds Tryz.pinned (OpenSpec.ofChange conversationTrustSpec)

/-- ITS FALSE NEIGHBOUR: 'it returns false'. Refute it at one input. -/
def conversationTrustWrong : ChangeSpec := { name := "conversationTrust", fn := fun _ => fun
  | [d1, d2, d3] => { results := [.lit (.bool false)], args := [d1, d2, d3] }
  | _ => none }
def ConversationTrustWrongFalsely : Prop := conversationTrustRow.holds Tryz.pinned (OpenSpec.ofChange conversationTrustWrong)

/-- 'cipherplanlaw26.ConversationMethods': WHATEVER THE INPUT: true; the input reads as it did. -/
def conversationMethodsSpec : ChangeSpec := { name := "conversationMethods", fn := fun _ => fun
  | [d1, d2, d3] => { results := [.lit (.bool true)], args := [d1, d2, d3] }
  | _ => none }
def conversationMethodsRow : OpenClaim := { program := "ytckcgijklnloiaagreat", sum := "bb153179be74ed6c362be4bf8c412000a0a12faa5f24b20be00cf7abe86897e1", func := "cipherplan/cipherplanlaw26.ConversationMethods", spec := "conversationMethods", inPlace := ["internal/bytealg.IndexByteString"], unfollowed := true, recurses := true, apart := false }
def ConversationMethodsSaid : Prop := conversationMethodsRow.holds Tryz.pinned (OpenSpec.ofChange conversationMethodsSpec)

/-- ITS FALSE NEIGHBOUR: 'it returns false'. Refute it at one input. -/
def conversationMethodsWrong : ChangeSpec := { name := "conversationMethods", fn := fun _ => fun
  | [d1, d2, d3] => { results := [.lit (.bool false)], args := [d1, d2, d3] }
  | _ => none }
def ConversationMethodsWrongFalsely : Prop := conversationMethodsRow.holds Tryz.pinned (OpenSpec.ofChange conversationMethodsWrong)

/-- 'cipherplanlaw26.ConversationAll': WHATEVER THE INPUT: true; the input reads as it did. -/
def conversationAllSpec : ChangeSpec := { name := "conversationAll", fn := fun _ => fun
  | [d1, d2, d3, d4, d5] => { results := [.lit (.bool true)], args := [d1, d2, d3, d4, d5] }
  | _ => none }
def conversationAllRow : OpenClaim := { program := "ytckcgijklnloiaagreat", sum := "bb153179be74ed6c362be4bf8c412000a0a12faa5f24b20be00cf7abe86897e1", func := "cipherplan/cipherplanlaw26.ConversationAll", spec := "conversationAll", inPlace := ["internal/bytealg.IndexByteString"], unfollowed := true, recurses := true, apart := false }
def ConversationAllSaid : Prop := conversationAllRow.holds Tryz.pinned (OpenSpec.ofChange conversationAllSpec)

/-- ITS FALSE NEIGHBOUR: 'it returns false'. Refute it at one input. -/
def conversationAllWrong : ChangeSpec := { name := "conversationAll", fn := fun _ => fun
  | [d1, d2, d3, d4, d5] => { results := [.lit (.bool false)], args := [d1, d2, d3, d4, d5] }
  | _ => none }
def ConversationAllWrongFalsely : Prop := conversationAllRow.holds Tryz.pinned (OpenSpec.ofChange conversationAllWrong)

/-- 'cipherplanlaw26.ConversationLasts': WHATEVER THE INPUT: true; the input reads as it did. -/
def conversationLastsSpec : ChangeSpec := { name := "conversationLasts", fn := fun _ => fun
  | [d1, d2, d3, d4] => { results := [.lit (.bool true)], args := [d1, d2, d3, d4] }
  | _ => none }
def conversationLastsRow : OpenClaim := { program := "ytckcgijklnloiaagreat", sum := "bb153179be74ed6c362be4bf8c412000a0a12faa5f24b20be00cf7abe86897e1", func := "cipherplan/cipherplanlaw26.ConversationLasts", spec := "conversationLasts", inPlace := ["internal/bytealg.IndexByteString"], unfollowed := true, recurses := true, apart := false }
def ConversationLastsSaid : Prop := conversationLastsRow.holds Tryz.pinned (OpenSpec.ofChange conversationLastsSpec)

/-- ITS FALSE NEIGHBOUR: 'it returns false'. Refute it at one input. -/
def conversationLastsWrong : ChangeSpec := { name := "conversationLasts", fn := fun _ => fun
  | [d1, d2, d3, d4] => { results := [.lit (.bool false)], args := [d1, d2, d3, d4] }
  | _ => none }
def ConversationLastsWrongFalsely : Prop := conversationLastsRow.holds Tryz.pinned (OpenSpec.ofChange conversationLastsWrong)

/- THE SECOND FORM. 'bulk': how many values and letters a reading holds, each counted each time it is reached (what is shared counts as often as it is met; a slice's spare places count too). A statement '..UptoSaid' is the law's where the arguments, and the package variables that the reading takes, are together of bulk at most 1048576: NARROWER than '..Said'. Prove '..Said' where nothing that the law and all that it calls make is longer than what came in: it says more and counts as full. Else prove '..UptoSaid'. A law counts once. -/
mutual
def uptoBulk {H : Type} : DataW H → Nat
  | .lit (.string bytes) => bytes.length + 1
  | .lit _ => 1
  | .nil => 1
  | .ptr d => uptoBulk d + 1
  | .slice elems spare => uptoBulkAll elems + uptoBulkAll spare + 1
  | .agg parts => uptoBulkAll parts + 1
  | .iface _ d => uptoBulk d + 1
  | .map entries => uptoBulkEntries entries + 1
  | .held _ => 1
def uptoBulkAll {H : Type} : List (DataW H) → Nat
  | [] => 0
  | d :: r => uptoBulk d + uptoBulkAll r
def uptoBulkEntries {H : Type} : List (Lit × DataW H) → Nat
  | [] => 0
  | x :: r => uptoBulkEntry x + uptoBulkEntries r
def uptoBulkEntry {H : Type} : Lit × DataW H → Nat
  | (.string bytes, d) => bytes.length + uptoBulk d + 1
  | (_, d) => uptoBulk d + 1
 end
def uptoSmall : (H : Type) → List (DataW H) → Bool := fun _ ds => decide (uptoBulkAll ds ≤ 1048576)
def OpenSpec.upto (s : _root_.Go.ChangeSpec) : _root_.Go.OpenSpec := { _root_.Go.OpenSpec.ofChange s with cond := some uptoSmall }

/-- 'cipherplanlaw26.ConversationBroken', WHERE WHAT IT READS IS OF BULK AT MOST 1048576: true; the input reads as it did. -/
def conversationBrokenUptoRow : OpenClaim := { program := "ytckcgijklnloiaagreat", sum := "bb153179be74ed6c362be4bf8c412000a0a12faa5f24b20be00cf7abe86897e1", func := "cipherplan/cipherplanlaw26.ConversationBroken", spec := "conversationBroken", inPlace := ["internal/bytealg.IndexByteString"], unfollowed := true, recurses := true, apart := false, narrowed := true }
def ConversationBrokenUptoSaid : Prop := conversationBrokenUptoRow.holds Tryz.pinned (OpenSpec.upto conversationBrokenSpec)

/-- 'cipherplanlaw26.ConversationNeeds', WHERE WHAT IT READS IS OF BULK AT MOST 1048576: true; the input reads as it did. -/
def conversationNeedsUptoRow : OpenClaim := { program := "ytckcgijklnloiaagreat", sum := "bb153179be74ed6c362be4bf8c412000a0a12faa5f24b20be00cf7abe86897e1", func := "cipherplan/cipherplanlaw26.ConversationNeeds", spec := "conversationNeeds", inPlace := ["internal/bytealg.IndexByteString"], unfollowed := true, recurses := true, apart := false, narrowed := true }
def ConversationNeedsUptoSaid : Prop := conversationNeedsUptoRow.holds Tryz.pinned (OpenSpec.upto conversationNeedsSpec)

/-- 'cipherplanlaw26.ConversationTrust', WHERE WHAT IT READS IS OF BULK AT MOST 1048576: true; the input reads as it did. -/
def conversationTrustUptoRow : OpenClaim := { program := "ytckcgijklnloiaagreat", sum := "bb153179be74ed6c362be4bf8c412000a0a12faa5f24b20be00cf7abe86897e1", func := "cipherplan/cipherplanlaw26.ConversationTrust", spec := "conversationTrust", inPlace := ["internal/bytealg.IndexByteString"], unfollowed := true, recurses := true, apart := false, narrowed := true }
def ConversationTrustUptoSaid : Prop := conversationTrustUptoRow.holds Tryz.pinned (OpenSpec.upto conversationTrustSpec)

/-- 'cipherplanlaw26.ConversationMethods', WHERE WHAT IT READS IS OF BULK AT MOST 1048576: true; the input reads as it did. -/
def conversationMethodsUptoRow : OpenClaim := { program := "ytckcgijklnloiaagreat", sum := "bb153179be74ed6c362be4bf8c412000a0a12faa5f24b20be00cf7abe86897e1", func := "cipherplan/cipherplanlaw26.ConversationMethods", spec := "conversationMethods", inPlace := ["internal/bytealg.IndexByteString"], unfollowed := true, recurses := true, apart := false, narrowed := true }
def ConversationMethodsUptoSaid : Prop := conversationMethodsUptoRow.holds Tryz.pinned (OpenSpec.upto conversationMethodsSpec)

/-- 'cipherplanlaw26.ConversationAll', WHERE WHAT IT READS IS OF BULK AT MOST 1048576: true; the input reads as it did. -/
def conversationAllUptoRow : OpenClaim := { program := "ytckcgijklnloiaagreat", sum := "bb153179be74ed6c362be4bf8c412000a0a12faa5f24b20be00cf7abe86897e1", func := "cipherplan/cipherplanlaw26.ConversationAll", spec := "conversationAll", inPlace := ["internal/bytealg.IndexByteString"], unfollowed := true, recurses := true, apart := false, narrowed := true }
def ConversationAllUptoSaid : Prop := conversationAllUptoRow.holds Tryz.pinned (OpenSpec.upto conversationAllSpec)

/-- 'cipherplanlaw26.ConversationLasts', WHERE WHAT IT READS IS OF BULK AT MOST 1048576: true; the input reads as it did. -/
def conversationLastsUptoRow : OpenClaim := { program := "ytckcgijklnloiaagreat", sum := "bb153179be74ed6c362be4bf8c412000a0a12faa5f24b20be00cf7abe86897e1", func := "cipherplan/cipherplanlaw26.ConversationLasts", spec := "conversationLasts", inPlace := ["internal/bytealg.IndexByteString"], unfollowed := true, recurses := true, apart := false, narrowed := true }
def ConversationLastsUptoSaid : Prop := conversationLastsUptoRow.holds Tryz.pinned (OpenSpec.upto conversationLastsSpec)

end Rows
end Go.Proofs.YtckcgijklnloiaaGreat
