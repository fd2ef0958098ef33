/-
  No cell of these rows narrows 'for every input' (looked for: loops, veiled, ifaces, maps, wideKeys, modest, calm, conditions, laid).
  DERIVED. THE GIVEN ROWS OF THIS SEAT. 6 by the template 'for every input the law returns true; each argument reads behind the call as it read before'; 0 by the template 'total and deterministic' (their statements: YtfehjdaielifiaaGreatTotals.lean).
  GIVEN WITH THE SEED: the statements are not yours to turn. If you find one false, say at which input.
  Laid BY PROGRAM, IN A SANDBOX (cutbox-rows.mjs): the forced cells as the released guide's own fill.sh prints them over the translation e48baafbe6579d4d… (all of the seat's roots in one cut). By AI agents, Wed Nov 11 2026. No macro, syntax, notation, axiom, sorry.
-/
import Derived.Test.YtfehjdaielifiaaGreatChecked
import GoSem.Claim
import GoSem.ClaimJoined
import GoSem.ClaimMapViews
import Derived.JoinedTies
import Derived.KernelRfl
namespace Go.Proofs.YtfehjdaielifiaaGreat
/- THE CELL 'sum', in the pinned program and in every row, IS THE sha256 OF THE DUMP (.gsa) THAT YtfehjdaielifiaaGreatProg.lean LOADS. Nothing in Lean hashes anything: it is a label: what it is worth is what the hold of that sum in a sandbox is worth. -/
noncomputable def Tryz.pinned : Pinned := { name := "ytfehjdaielifiaagreat", sum := "e48baafbe6579d4d058a3430ac3a1a6e80a7370c4962df5e3386df7c12c44b20", checked := Tryz.checked }
namespace Rows
def none {H : Type} : Left H := { results := [], args := [] }

/-- 'cipherplanlaw22.LifetimeMade': WHATEVER THE INPUT: true; the input reads as it did. -/
def lifetimeMadeSpec : ChangeSpec := { name := "lifetimeMade", fn := fun _ => fun
  | [d1, d2, d3] => { results := [.lit (.bool true)], args := [d1, d2, d3] }
  | _ => none }
def lifetimeMadeRow : OpenClaim := { program := "ytfehjdaielifiaagreat", sum := "e48baafbe6579d4d058a3430ac3a1a6e80a7370c4962df5e3386df7c12c44b20", func := "cipherplan/cipherplanlaw22.LifetimeMade", spec := "lifetimeMade", unfollowed := true, recurses := true, apart := false }
def LifetimeMadeSaid : Prop := lifetimeMadeRow.holds Tryz.pinned (OpenSpec.ofChange lifetimeMadeSpec)

/-- ITS FALSE NEIGHBOUR: 'it returns false'. Refute it at one input. -/
def lifetimeMadeWrong : ChangeSpec := { name := "lifetimeMade", fn := fun _ => fun
  | [d1, d2, d3] => { results := [.lit (.bool false)], args := [d1, d2, d3] }
  | _ => none }
def LifetimeMadeWrongFalsely : Prop := lifetimeMadeRow.holds Tryz.pinned (OpenSpec.ofChange lifetimeMadeWrong)

/-- 'cipherplanlaw35.RenewalHolds': WHATEVER THE INPUT: true; the input reads as it did. -/
def renewalHoldsSpec : ChangeSpec := { name := "renewalHolds", fn := fun _ => fun
  | [d] => { results := [.lit (.bool true)], args := [d] }
  | _ => none }
def renewalHoldsRow : OpenClaim := { program := "ytfehjdaielifiaagreat", sum := "e48baafbe6579d4d058a3430ac3a1a6e80a7370c4962df5e3386df7c12c44b20", func := "cipherplan/cipherplanlaw35.RenewalHolds", spec := "renewalHolds", unfollowed := true, recurses := true, apart := false }
def RenewalHoldsSaid : Prop := renewalHoldsRow.holds Tryz.pinned (OpenSpec.ofChange renewalHoldsSpec)

/-- ITS FALSE NEIGHBOUR: 'it returns false'. Refute it at one input. -/
def renewalHoldsWrong : ChangeSpec := { name := "renewalHolds", fn := fun _ => fun
  | [d] => { results := [.lit (.bool false)], args := [d] }
  | _ => none }
def RenewalHoldsWrongFalsely : Prop := renewalHoldsRow.holds Tryz.pinned (OpenSpec.ofChange renewalHoldsWrong)

/-- 'cipherplanlaw35.RenewalFewest': WHATEVER THE INPUT: true; the input reads as it did. -/
def renewalFewestSpec : ChangeSpec := { name := "renewalFewest", fn := fun _ => fun
  | [d1, d2, d3] => { results := [.lit (.bool true)], args := [d1, d2, d3] }
  | _ => none }
def renewalFewestRow : OpenClaim := { program := "ytfehjdaielifiaagreat", sum := "e48baafbe6579d4d058a3430ac3a1a6e80a7370c4962df5e3386df7c12c44b20", func := "cipherplan/cipherplanlaw35.RenewalFewest", spec := "renewalFewest", unfollowed := true, recurses := true, apart := false }
def RenewalFewestSaid : Prop := renewalFewestRow.holds Tryz.pinned (OpenSpec.ofChange renewalFewestSpec)

/-- ITS FALSE NEIGHBOUR: 'it returns false'. Refute it at one input. -/
def renewalFewestWrong : ChangeSpec := { name := "renewalFewest", fn := fun _ => fun
  | [d1, d2, d3] => { results := [.lit (.bool false)], args := [d1, d2, d3] }
  | _ => none }
def RenewalFewestWrongFalsely : Prop := renewalFewestRow.holds Tryz.pinned (OpenSpec.ofChange renewalFewestWrong)

/-- 'cipherplanlaw35.RenewalBest': WHATEVER THE INPUT: true; the input reads as it did. -/
def renewalBestSpec : ChangeSpec := { name := "renewalBest", fn := fun _ => fun
  | [d1, d2, d3] => { results := [.lit (.bool true)], args := [d1, d2, d3] }
  | _ => none }
def renewalBestRow : OpenClaim := { program := "ytfehjdaielifiaagreat", sum := "e48baafbe6579d4d058a3430ac3a1a6e80a7370c4962df5e3386df7c12c44b20", func := "cipherplan/cipherplanlaw35.RenewalBest", spec := "renewalBest", unfollowed := true, recurses := true, apart := false }
def RenewalBestSaid : Prop := renewalBestRow.holds Tryz.pinned (OpenSpec.ofChange renewalBestSpec)

/-- ITS FALSE NEIGHBOUR: 'it returns false'. Refute it at one input. -/
def renewalBestWrong : ChangeSpec := { name := "renewalBest", fn := fun _ => fun
  | [d1, d2, d3] => { results := [.lit (.bool false)], args := [d1, d2, d3] }
  | _ => none }
def RenewalBestWrongFalsely : Prop := renewalBestRow.holds Tryz.pinned (OpenSpec.ofChange renewalBestWrong)

/-- 'cipherplanlaw35.RenewalReach': WHATEVER THE INPUT: true; the input reads as it did. -/
def renewalReachSpec : ChangeSpec := { name := "renewalReach", fn := fun _ => fun
  | [d1, d2] => { results := [.lit (.bool true)], args := [d1, d2] }
  | _ => none }
def renewalReachRow : OpenClaim := { program := "ytfehjdaielifiaagreat", sum := "e48baafbe6579d4d058a3430ac3a1a6e80a7370c4962df5e3386df7c12c44b20", func := "cipherplan/cipherplanlaw35.RenewalReach", spec := "renewalReach", unfollowed := true, recurses := true, apart := false }
def RenewalReachSaid : Prop := renewalReachRow.holds Tryz.pinned (OpenSpec.ofChange renewalReachSpec)

/-- ITS FALSE NEIGHBOUR: 'it returns false'. Refute it at one input. -/
def renewalReachWrong : ChangeSpec := { name := "renewalReach", fn := fun _ => fun
  | [d1, d2] => { results := [.lit (.bool false)], args := [d1, d2] }
  | _ => none }
def RenewalReachWrongFalsely : Prop := renewalReachRow.holds Tryz.pinned (OpenSpec.ofChange renewalReachWrong)

/-- 'cipherplanlaw35.RenewalAll': WHATEVER THE INPUT: true; the input reads as it did. -/
def renewalAllSpec : ChangeSpec := { name := "renewalAll", fn := fun _ => fun
  | [d1, d2, d3, d4, d5] => { results := [.lit (.bool true)], args := [d1, d2, d3, d4, d5] }
  | _ => none }
def renewalAllRow : OpenClaim := { program := "ytfehjdaielifiaagreat", sum := "e48baafbe6579d4d058a3430ac3a1a6e80a7370c4962df5e3386df7c12c44b20", func := "cipherplan/cipherplanlaw35.RenewalAll", spec := "renewalAll", unfollowed := true, recurses := true, apart := false }
def RenewalAllSaid : Prop := renewalAllRow.holds Tryz.pinned (OpenSpec.ofChange renewalAllSpec)

/-- ITS FALSE NEIGHBOUR: 'it returns false'. Refute it at one input. -/
def renewalAllWrong : ChangeSpec := { name := "renewalAll", fn := fun _ => fun
  | [d1, d2, d3, d4, d5] => { results := [.lit (.bool false)], args := [d1, d2, d3, d4, d5] }
  | _ => none }
def RenewalAllWrongFalsely : Prop := renewalAllRow.holds Tryz.pinned (OpenSpec.ofChange renewalAllWrong)

/- THE SECOND FORM. 'bulk': how many values and letters a reading holds, each counted each time it is reached (what is shared counts as often as it is met; a slice's spare places count too). A statement '..UptoSaid' is the law's where the arguments, and the package variables that the reading takes, are together of bulk at most 1048576: NARROWER than '..Said'. Prove '..Said' where nothing that the law and all that it calls make is longer than what came in: it says more and counts as full. Else prove '..UptoSaid'. A law counts once. -/
mutual
def uptoBulk {H : Type} : DataW H → Nat
  | .lit (.string bytes) => bytes.length + 1
  | .lit _ => 1
  | .nil => 1
  | .ptr d => uptoBulk d + 1
  | .slice elems spare => uptoBulkAll elems + uptoBulkAll spare + 1
  | .agg parts => uptoBulkAll parts + 1
  | .iface _ d => uptoBulk d + 1
  | .map entries => uptoBulkEntries entries + 1
  | .held _ => 1
def uptoBulkAll {H : Type} : List (DataW H) → Nat
  | [] => 0
  | d :: r => uptoBulk d + uptoBulkAll r
def uptoBulkEntries {H : Type} : List (Lit × DataW H) → Nat
  | [] => 0
  | x :: r => uptoBulkEntry x + uptoBulkEntries r
def uptoBulkEntry {H : Type} : Lit × DataW H → Nat
  | (.string bytes, d) => bytes.length + uptoBulk d + 1
  | (_, d) => uptoBulk d + 1
 end
def uptoSmall : (H : Type) → List (DataW H) → Bool := fun _ ds => decide (uptoBulkAll ds ≤ 1048576)
def OpenSpec.upto (s : _root_.Go.ChangeSpec) : _root_.Go.OpenSpec := { _root_.Go.OpenSpec.ofChange s with cond := some uptoSmall }

/-- 'cipherplanlaw22.LifetimeMade', WHERE WHAT IT READS IS OF BULK AT MOST 1048576: true; the input reads as it did. -/
def lifetimeMadeUptoRow : OpenClaim := { program := "ytfehjdaielifiaagreat", sum := "e48baafbe6579d4d058a3430ac3a1a6e80a7370c4962df5e3386df7c12c44b20", func := "cipherplan/cipherplanlaw22.LifetimeMade", spec := "lifetimeMade", unfollowed := true, recurses := true, apart := false, narrowed := true }
def LifetimeMadeUptoSaid : Prop := lifetimeMadeUptoRow.holds Tryz.pinned (OpenSpec.upto lifetimeMadeSpec)

/-- 'cipherplanlaw35.RenewalHolds', WHERE WHAT IT READS IS OF BULK AT MOST 1048576: true; the input reads as it did. -/
def renewalHoldsUptoRow : OpenClaim := { program := "ytfehjdaielifiaagreat", sum := "e48baafbe6579d4d058a3430ac3a1a6e80a7370c4962df5e3386df7c12c44b20", func := "cipherplan/cipherplanlaw35.RenewalHolds", spec := "renewalHolds", unfollowed := true, recurses := true, apart := false, narrowed := true }
def RenewalHoldsUptoSaid : Prop := renewalHoldsUptoRow.holds Tryz.pinned (OpenSpec.upto renewalHoldsSpec)

/-- 'cipherplanlaw35.RenewalFewest', WHERE WHAT IT READS IS OF BULK AT MOST 1048576: true; the input reads as it did. -/
def renewalFewestUptoRow : OpenClaim := { program := "ytfehjdaielifiaagreat", sum := "e48baafbe6579d4d058a3430ac3a1a6e80a7370c4962df5e3386df7c12c44b20", func := "cipherplan/cipherplanlaw35.RenewalFewest", spec := "renewalFewest", unfollowed := true, recurses := true, apart := false, narrowed := true }
def RenewalFewestUptoSaid : Prop := renewalFewestUptoRow.holds Tryz.pinned (OpenSpec.upto renewalFewestSpec)

/-- 'cipherplanlaw35.RenewalBest', WHERE WHAT IT READS IS OF BULK AT MOST 1048576: true; the input reads as it did. -/
def renewalBestUptoRow : OpenClaim := { program := "ytfehjdaielifiaagreat", sum := "e48baafbe6579d4d058a3430ac3a1a6e80a7370c4962df5e3386df7c12c44b20", func := "cipherplan/cipherplanlaw35.RenewalBest", spec := "renewalBest", unfollowed := true, recurses := true, apart := false, narrowed := true }
def RenewalBestUptoSaid : Prop := renewalBestUptoRow.holds Tryz.pinned (OpenSpec.upto renewalBestSpec)

/-- 'cipherplanlaw35.RenewalReach', WHERE WHAT IT READS IS OF BULK AT MOST 1048576: true; the input reads as it did. -/
def renewalReachUptoRow : OpenClaim := { program := "ytfehjdaielifiaagreat", sum := "e48baafbe6579d4d058a3430ac3a1a6e80a7370c4962df5e3386df7c12c44b20", func := "cipherplan/cipherplanlaw35.RenewalReach", spec := "renewalReach", unfollowed := true, recurses := true, apart := false, narrowed := true }
def RenewalReachUptoSaid : Prop := renewalReachUptoRow.holds Tryz.pinned (OpenSpec.upto renewalReachSpec)

/-- 'cipherplanlaw35.RenewalAll', WHERE WHAT IT READS IS OF BULK AT MOST 1048576: true; the input reads as it did. -/
def renewalAllUptoRow : OpenClaim := { program := "ytfehjdaielifiaagreat", sum := "e48baafbe6579d4d058a3430ac3a1a6e80a7370c4962df5e3386df7c12c44b20", func := "cipherplan/cipherplanlaw35.RenewalAll", spec := "renewalAll", unfollowed := true, recurses := true, apart := false, narrowed := true }
def RenewalAllUptoSaid : Prop := renewalAllUptoRow.holds Tryz.pinned (OpenSpec.upto renewalAllSpec)

end Rows
end Go.Proofs.YtfehjdaielifiaaGreat
