/-
  No cell of these rows narrows 'for every input' (looked for: loops, veiled, ifaces, maps, wideKeys, modest, calm, conditions, laid).
  DERIVED. THE GIVEN ROWS OF THIS SEAT. 5 by the template 'for every input the law returns true; each argument reads behind the call as it read before'; 0 by the template 'total and deterministic' (their statements: YthlcobdnemhcdaaGreatTotals.lean).
  GIVEN WITH THE SEED: the statements are not yours to turn. If you find one false, say at which input.
  Laid BY PROGRAM, IN A SANDBOX (cutbox-rows.mjs): the forced cells as the released guide's own fill.sh prints them over the translation d5dd34db57cb6795… (all of the seat's roots in one cut). By AI agents, Wed Nov 11 2026. No macro, syntax, notation, axiom, sorry.
-/
import Derived.Test.YthlcobdnemhcdaaGreatChecked
import GoSem.Claim
import GoSem.ClaimJoined
import GoSem.ClaimMapViews
import Derived.JoinedTies
import Derived.KernelRfl
namespace Go.Proofs.YthlcobdnemhcdaaGreat
/- THE CELL 'sum', in the pinned program and in every row, IS THE sha256 OF THE DUMP (.gsa) THAT YthlcobdnemhcdaaGreatProg.lean LOADS. Nothing in Lean hashes anything: it is a label: what it is worth is what the hold of that sum in a sandbox is worth. -/
noncomputable def Tryz.pinned : Pinned := { name := "ythlcobdnemhcdaagreat", sum := "d5dd34db57cb67956bce9cd993fda48a034a24f1f02a51639030d2242dc86f9e", checked := Tryz.checked }
namespace Rows
def none {H : Type} : Left H := { results := [], args := [] }

/-- 'cipherplanlaw34.JobOrders': WHATEVER THE INPUT: true; the input reads as it did. -/
def jobOrdersSpec : ChangeSpec := { name := "jobOrders", fn := fun _ => fun
  | [d] => { results := [.lit (.bool true)], args := [d] }
  | _ => none }
def jobOrdersRow : OpenClaim := { program := "ythlcobdnemhcdaagreat", sum := "d5dd34db57cb67956bce9cd993fda48a034a24f1f02a51639030d2242dc86f9e", func := "cipherplan/cipherplanlaw34.JobOrders", spec := "jobOrders", inPlace := ["internal/bytealg.IndexByteString"], unfollowed := true, recurses := true, plainKeys := false, apart := false }
def JobOrdersSaid : Prop := jobOrdersRow.holds Tryz.pinned (OpenSpec.ofChange jobOrdersSpec)

/-- ITS FALSE NEIGHBOUR: 'it returns false'. Refute it at one input. -/
def jobOrdersWrong : ChangeSpec := { name := "jobOrders", fn := fun _ => fun
  | [d] => { results := [.lit (.bool false)], args := [d] }
  | _ => none }
def JobOrdersWrongFalsely : Prop := jobOrdersRow.holds Tryz.pinned (OpenSpec.ofChange jobOrdersWrong)

/-- 'cipherplanlaw34.JobAll': WHATEVER THE INPUT: true; the input reads as it did. -/
def jobAllSpec : ChangeSpec := { name := "jobAll", fn := fun _ => fun
  | [d1, d2, d3] => { results := [.lit (.bool true)], args := [d1, d2, d3] }
  | _ => none }
def jobAllRow : OpenClaim := { program := "ythlcobdnemhcdaagreat", sum := "d5dd34db57cb67956bce9cd993fda48a034a24f1f02a51639030d2242dc86f9e", func := "cipherplan/cipherplanlaw34.JobAll", spec := "jobAll", inPlace := ["internal/bytealg.IndexByteString"], unfollowed := true, recurses := true, plainKeys := false, apart := false }
def JobAllSaid : Prop := jobAllRow.holds Tryz.pinned (OpenSpec.ofChange jobAllSpec)

/-- ITS FALSE NEIGHBOUR: 'it returns false'. Refute it at one input. -/
def jobAllWrong : ChangeSpec := { name := "jobAll", fn := fun _ => fun
  | [d1, d2, d3] => { results := [.lit (.bool false)], args := [d1, d2, d3] }
  | _ => none }
def JobAllWrongFalsely : Prop := jobAllRow.holds Tryz.pinned (OpenSpec.ofChange jobAllWrong)

/-- 'cipherplanlaw34.JobSorts': WHATEVER THE INPUT: true; the input reads as it did. -/
def jobSortsSpec : ChangeSpec := { name := "jobSorts", fn := fun _ => fun
  | [d] => { results := [.lit (.bool true)], args := [d] }
  | _ => none }
def jobSortsRow : OpenClaim := { program := "ythlcobdnemhcdaagreat", sum := "d5dd34db57cb67956bce9cd993fda48a034a24f1f02a51639030d2242dc86f9e", func := "cipherplan/cipherplanlaw34.JobSorts", spec := "jobSorts", inPlace := ["internal/bytealg.IndexByteString"], unfollowed := true, recurses := true, plainKeys := false, apart := false }
def JobSortsSaid : Prop := jobSortsRow.holds Tryz.pinned (OpenSpec.ofChange jobSortsSpec)

/-- ITS FALSE NEIGHBOUR: 'it returns false'. Refute it at one input. -/
def jobSortsWrong : ChangeSpec := { name := "jobSorts", fn := fun _ => fun
  | [d] => { results := [.lit (.bool false)], args := [d] }
  | _ => none }
def JobSortsWrongFalsely : Prop := jobSortsRow.holds Tryz.pinned (OpenSpec.ofChange jobSortsWrong)

/-- 'cipherplanlaw34.JobMends': WHATEVER THE INPUT: true; the input reads as it did. -/
def jobMendsSpec : ChangeSpec := { name := "jobMends", fn := fun _ => fun
  | [d1, d2] => { results := [.lit (.bool true)], args := [d1, d2] }
  | _ => none }
def jobMendsRow : OpenClaim := { program := "ythlcobdnemhcdaagreat", sum := "d5dd34db57cb67956bce9cd993fda48a034a24f1f02a51639030d2242dc86f9e", func := "cipherplan/cipherplanlaw34.JobMends", spec := "jobMends", inPlace := ["internal/bytealg.IndexByteString"], unfollowed := true, recurses := true, plainKeys := false, apart := false }
def JobMendsSaid : Prop := jobMendsRow.holds Tryz.pinned (OpenSpec.ofChange jobMendsSpec)

/-- ITS FALSE NEIGHBOUR: 'it returns false'. Refute it at one input. -/
def jobMendsWrong : ChangeSpec := { name := "jobMends", fn := fun _ => fun
  | [d1, d2] => { results := [.lit (.bool false)], args := [d1, d2] }
  | _ => none }
def JobMendsWrongFalsely : Prop := jobMendsRow.holds Tryz.pinned (OpenSpec.ofChange jobMendsWrong)

/-- 'cipherplanlaw27.PolicyAll': WHATEVER THE INPUT: true; the input reads as it did. -/
def policyAllSpec : ChangeSpec := { name := "policyAll", fn := fun _ => fun
  | [d1, d2, d3, d4] => { results := [.lit (.bool true)], args := [d1, d2, d3, d4] }
  | _ => none }
def policyAllRow : OpenClaim := { program := "ythlcobdnemhcdaagreat", sum := "d5dd34db57cb67956bce9cd993fda48a034a24f1f02a51639030d2242dc86f9e", func := "cipherplan/cipherplanlaw27.PolicyAll", spec := "policyAll", inPlace := ["internal/bytealg.IndexByteString"], unfollowed := true, recurses := true, plainKeys := false, apart := false }
def PolicyAllSaid : Prop := policyAllRow.holds Tryz.pinned (OpenSpec.ofChange policyAllSpec)

/-- ITS FALSE NEIGHBOUR: 'it returns false'. Refute it at one input. -/
def policyAllWrong : ChangeSpec := { name := "policyAll", fn := fun _ => fun
  | [d1, d2, d3, d4] => { results := [.lit (.bool false)], args := [d1, d2, d3, d4] }
  | _ => none }
def PolicyAllWrongFalsely : Prop := policyAllRow.holds Tryz.pinned (OpenSpec.ofChange policyAllWrong)

/- THE SECOND FORM. 'bulk': how many values and letters a reading holds, each counted each time it is reached (what is shared counts as often as it is met; a slice's spare places count too). A statement '..UptoSaid' is the law's where the arguments, and the package variables that the reading takes, are together of bulk at most 1048576: NARROWER than '..Said'. Prove '..Said' where nothing that the law and all that it calls make is longer than what came in: it says more and counts as full. Else prove '..UptoSaid'. A law counts once. -/
mutual
def uptoBulk {H : Type} : DataW H → Nat
  | .lit (.string bytes) => bytes.length + 1
  | .lit _ => 1
  | .nil => 1
  | .ptr d => uptoBulk d + 1
  | .slice elems spare => uptoBulkAll elems + uptoBulkAll spare + 1
  | .agg parts => uptoBulkAll parts + 1
  | .iface _ d => uptoBulk d + 1
  | .map entries => uptoBulkEntries entries + 1
  | .held _ => 1
def uptoBulkAll {H : Type} : List (DataW H) → Nat
  | [] => 0
  | d :: r => uptoBulk d + uptoBulkAll r
def uptoBulkEntries {H : Type} : List (Lit × DataW H) → Nat
  | [] => 0
  | x :: r => uptoBulkEntry x + uptoBulkEntries r
def uptoBulkEntry {H : Type} : Lit × DataW H → Nat
  | (.string bytes, d) => bytes.length + uptoBulk d + 1
  | (_, d) => uptoBulk d + 1
 end
def uptoSmall : (H : Type) → List (DataW H) → Bool := fun _ ds => decide (uptoBulkAll ds ≤ 1048576)
def OpenSpec.upto (s : _root_.Go.ChangeSpec) : _root_.Go.OpenSpec := { _root_.Go.OpenSpec.ofChange s with cond := some uptoSmall }

/-- 'cipherplanlaw34.JobOrders', WHERE WHAT IT READS IS OF BULK AT MOST 1048576: true; the input reads as it did. -/
def jobOrdersUptoRow : OpenClaim := { program := "ythlcobdnemhcdaagreat", sum := "d5dd34db57cb67956bce9cd993fda48a034a24f1f02a51639030d2242dc86f9e", func := "cipherplan/cipherplanlaw34.JobOrders", spec := "jobOrders", inPlace := ["internal/bytealg.IndexByteString"], unfollowed := true, recurses := true, plainKeys := false, apart := false, narrowed := true }
def JobOrdersUptoSaid : Prop := jobOrdersUptoRow.holds Tryz.pinned (OpenSpec.upto jobOrdersSpec)

/-- 'cipherplanlaw34.JobAll', WHERE WHAT IT READS IS OF BULK AT MOST 1048576: true; the input reads as it did. -/
def jobAllUptoRow : OpenClaim := { program := "ythlcobdnemhcdaagreat", sum := "d5dd34db57cb67956bce9cd993fda48a034a24f1f02a51639030d2242dc86f9e", func := "cipherplan/cipherplanlaw34.JobAll", spec := "jobAll", inPlace := ["internal/bytealg.IndexByteString"], unfollowed := true, recurses := true, plainKeys := false, apart := false, narrowed := true }
def JobAllUptoSaid : Prop := jobAllUptoRow.holds Tryz.pinned (OpenSpec.upto jobAllSpec)

/-- 'cipherplanlaw34.JobSorts', WHERE WHAT IT READS IS OF BULK AT MOST 1048576: true; the input reads as it did. -/
def jobSortsUptoRow : OpenClaim := { program := "ythlcobdnemhcdaagreat", sum := "d5dd34db57cb67956bce9cd993fda48a034a24f1f02a51639030d2242dc86f9e", func := "cipherplan/cipherplanlaw34.JobSorts", spec := "jobSorts", inPlace := ["internal/bytealg.IndexByteString"], unfollowed := true, recurses := true, plainKeys := false, apart := false, narrowed := true }
def JobSortsUptoSaid : Prop := jobSortsUptoRow.holds Tryz.pinned (OpenSpec.upto jobSortsSpec)

/-- 'cipherplanlaw34.JobMends', WHERE WHAT IT READS IS OF BULK AT MOST 1048576: true; the input reads as it did. -/
def jobMendsUptoRow : OpenClaim := { program := "ythlcobdnemhcdaagreat", sum := "d5dd34db57cb67956bce9cd993fda48a034a24f1f02a51639030d2242dc86f9e", func := "cipherplan/cipherplanlaw34.JobMends", spec := "jobMends", inPlace := ["internal/bytealg.IndexByteString"], unfollowed := true, recurses := true, plainKeys := false, apart := false, narrowed := true }
def JobMendsUptoSaid : Prop := jobMendsUptoRow.holds Tryz.pinned (OpenSpec.upto jobMendsSpec)

/-- 'cipherplanlaw27.PolicyAll', WHERE WHAT IT READS IS OF BULK AT MOST 1048576: true; the input reads as it did. -/
def policyAllUptoRow : OpenClaim := { program := "ythlcobdnemhcdaagreat", sum := "d5dd34db57cb67956bce9cd993fda48a034a24f1f02a51639030d2242dc86f9e", func := "cipherplan/cipherplanlaw27.PolicyAll", spec := "policyAll", inPlace := ["internal/bytealg.IndexByteString"], unfollowed := true, recurses := true, plainKeys := false, apart := false, narrowed := true }
def PolicyAllUptoSaid : Prop := policyAllUptoRow.holds Tryz.pinned (OpenSpec.upto policyAllSpec)

end Rows
end Go.Proofs.YthlcobdnemhcdaaGreat
