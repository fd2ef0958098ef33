/-
  DERIVED. GIVEN WITH THE SEED: THE CARDS: each row of YticnbacafmeiiaaGreatDoorRows.lean that lists a variable, with what it lists TIED to the program's text (the seventh form; the later family's looks); each row that meets fmt, with fmt's text TOLD by the authors' own Lean function (tested against real Go, not proved from fmt's source: count such statements apart). THE CARD IS WHAT COUNTS. Prove the row's statement (the work); the ties are given (YticnbacafmeiiaaGreatDoorTie.lean); close each card by the builder's one call (the guide's Derived/Test/ToyasCard.lean, 'card_holds'). Laid BY PROGRAM, IN A SANDBOX (cutbox-door.mjs). By AI agents, Wed Nov 11 2026. No macro, syntax, notation, axiom, sorry.
-/
import Derived.Test.YticnbacafmeiiaaGreatDoorRows
import GoSem.ClaimSeven
namespace Go.Proofs.YticnbacafmeiiaaGreatDoor
namespace Rows

/-- THE TIED CARD OF 'cipherplantop.TopRules'. -/
def topRulesCard : Claim7 := { stood := { row := topRulesRow, standIns := [], harness := (true, "3b5b2ea46ad3e588da61f5890a41c85574c270fa2f606b0e934bef552b7e55fc"), looks := true }, kinds := [], alts := [], laidByText := true, laidKinds := [.data, .data, .data, .data, .sentinel, .sentinel, .pinned], laidTests := true, laidLooks := .later }
def TopRulesCardSaid : Prop := Claim7.holds Tryz.pinned (.plain (OpenSpec.ofChange topRulesSpec)) topRulesCard

/-- THE SECOND FORM's CARD OF 'cipherplantop.TopRules'. -/
def topRulesUptoCard : Claim7 := { stood := { row := topRulesUptoRow, standIns := [], harness := (true, "3b5b2ea46ad3e588da61f5890a41c85574c270fa2f606b0e934bef552b7e55fc"), looks := true }, kinds := [], alts := [], laidByText := true, laidKinds := [.data, .data, .data, .data, .sentinel, .sentinel, .pinned], laidTests := true, laidLooks := .later }
def TopRulesUptoCardSaid : Prop := Claim7.holds Tryz.pinned (.plain (OpenSpec.upto topRulesSpec)) topRulesUptoCard
end Rows
end Go.Proofs.YticnbacafmeiiaaGreatDoor
