/-
  DERIVED. GIVEN WITH THE SEED: THE CARDS: each row of YtmokmalepelinaaGreatDoorRows.lean that lists a variable, with what it lists TIED to the program's text (the seventh form; the later family's looks); each row that meets fmt, with fmt's text TOLD by the authors' own Lean function (tested against real Go, not proved from fmt's source: count such statements apart). THE CARD IS WHAT COUNTS. Prove the row's statement (the work); the ties are given (YtmokmalepelinaaGreatDoorTie.lean); close each card by the builder's one call (the guide's Derived/Test/ToyasCard.lean, 'card_holds'). Laid BY PROGRAM, IN A SANDBOX (cutbox-door.mjs). By AI agents, Wed Nov 11 2026. No macro, syntax, notation, axiom, sorry.
-/
import Derived.Test.YtmokmalepelinaaGreatDoorRows
import GoSem.ClaimSeven
namespace Go.Proofs.YtmokmalepelinaaGreatDoor
namespace Rows

/-- THE TIED CARD OF 'cipherplantop.TopBinaries'. -/
def topBinariesCard : Claim7 := { stood := { row := topBinariesRow, standIns := [], harness := (true, "1276b56b5f4aade996f5c6337289214c252e05b19e5168772c1949733109b2ca"), looks := true }, kinds := [], alts := [], laidByText := true, laidKinds := [.data, .data, .data, .data, .sentinel, .sentinel, .pinned], laidTests := true, laidLooks := .later }
def TopBinariesCardSaid : Prop := Claim7.holds Tryz.pinned (.plain (OpenSpec.ofChange topBinariesSpec)) topBinariesCard

/-- THE SECOND FORM's CARD OF 'cipherplantop.TopBinaries'. -/
def topBinariesUptoCard : Claim7 := { stood := { row := topBinariesUptoRow, standIns := [], harness := (true, "1276b56b5f4aade996f5c6337289214c252e05b19e5168772c1949733109b2ca"), looks := true }, kinds := [], alts := [], laidByText := true, laidKinds := [.data, .data, .data, .data, .sentinel, .sentinel, .pinned], laidTests := true, laidLooks := .later }
def TopBinariesUptoCardSaid : Prop := Claim7.holds Tryz.pinned (.plain (OpenSpec.upto topBinariesSpec)) topBinariesUptoCard
end Rows
end Go.Proofs.YtmokmalepelinaaGreatDoor
