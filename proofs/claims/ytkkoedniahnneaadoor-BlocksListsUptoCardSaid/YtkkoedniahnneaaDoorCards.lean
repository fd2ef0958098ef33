/-
  DERIVED. GIVEN WITH THE SEED: THE CARDS: each row of YtkkoedniahnneaaDoorRows.lean that lists a variable, with what it lists TIED to the program's text (the seventh form; the later family's looks); each row that meets fmt, with fmt's text TOLD by the authors' own Lean function (tested against real Go, not proved from fmt's source: count such statements apart). THE CARD IS WHAT COUNTS. Prove the row's statement (the work); the ties are given (YtkkoedniahnneaaDoorTie.lean); close each card by the builder's one call (the guide's Derived/Test/ToyasCard.lean, 'card_holds'). Laid BY PROGRAM, IN A SANDBOX (cutbox-door.mjs). By AI agents, Wed Nov 11 2026. No macro, syntax, notation, axiom, sorry.
-/
import Derived.Test.YtkkoedniahnneaaDoorRows
import GoSem.ClaimSeven
namespace Go.Proofs.YtkkoedniahnneaaDoor
namespace Rows

/-- THE TIED CARD OF 'cipherplanlaw06.SettingsTexts'. -/
def settingsTextsCard : Claim7 := { stood := { row := settingsTextsRow, standIns := [], harness := (true, "ab1370353c399282f09f394a09cbe2a0809d04b16a57df6f943c79af89199b76"), looks := false }, kinds := [], alts := [], laidByText := true, laidKinds := [.data, .pinned], laidTests := true, laidLooks := .later }
def SettingsTextsCardSaid : Prop := Claim7.holds Tryd.pinned (.plain (OpenSpec.ofChange settingsTextsSpec)) settingsTextsCard

/-- THE TIED CARD OF 'cipherplanlaw07.BlocksTexts'. -/
def blocksTextsCard : Claim7 := { stood := { row := blocksTextsRow, standIns := [], harness := (true, "ab1370353c399282f09f394a09cbe2a0809d04b16a57df6f943c79af89199b76"), looks := false }, kinds := [], alts := [], laidByText := true, laidKinds := [.data, .pinned], laidTests := true, laidLooks := .later }
def BlocksTextsCardSaid : Prop := Claim7.holds Tryd.pinned (.plain (OpenSpec.ofChange blocksTextsSpec)) blocksTextsCard

/-- THE TIED CARD OF 'cipherplanlaw07.BlocksDeep'. -/
def blocksDeepCard : Claim7 := { stood := { row := blocksDeepRow, standIns := [], harness := (true, "ab1370353c399282f09f394a09cbe2a0809d04b16a57df6f943c79af89199b76"), looks := false }, kinds := [], alts := [], laidByText := true, laidKinds := [.data, .pinned], laidTests := true, laidLooks := .later }
def BlocksDeepCardSaid : Prop := Claim7.holds Tryd.pinned (.plain (OpenSpec.ofChange blocksDeepSpec)) blocksDeepCard

/-- THE TIED CARD OF 'cipherplanlaw06.SettingsLong'. -/
def settingsLongCard : Claim7 := { stood := { row := settingsLongRow, standIns := [], harness := (true, "ab1370353c399282f09f394a09cbe2a0809d04b16a57df6f943c79af89199b76"), looks := false }, kinds := [], alts := [], laidByText := true, laidKinds := [.data, .pinned], laidTests := true, laidLooks := .later }
def SettingsLongCardSaid : Prop := Claim7.holds Tryd.pinned (.plain (OpenSpec.ofChange settingsLongSpec)) settingsLongCard

/-- THE TIED CARD OF 'cipherplanlaw06.SettingsBack'. -/
def settingsBackCard : Claim7 := { stood := { row := settingsBackRow, standIns := [], harness := (true, "ab1370353c399282f09f394a09cbe2a0809d04b16a57df6f943c79af89199b76"), looks := false }, kinds := [], alts := [], laidByText := true, laidKinds := [.data, .pinned], laidTests := true, laidLooks := .later }
def SettingsBackCardSaid : Prop := Claim7.holds Tryd.pinned (.plain (OpenSpec.ofChange settingsBackSpec)) settingsBackCard

/-- THE TIED CARD OF 'cipherplanlaw07.BlocksLists'. -/
def blocksListsCard : Claim7 := { stood := { row := blocksListsRow, standIns := [], harness := (true, "ab1370353c399282f09f394a09cbe2a0809d04b16a57df6f943c79af89199b76"), looks := false }, kinds := [], alts := [], laidByText := true, laidKinds := [.data, .pinned], laidTests := true, laidLooks := .later }
def BlocksListsCardSaid : Prop := Claim7.holds Tryd.pinned (.plain (OpenSpec.ofChange blocksListsSpec)) blocksListsCard

/-- THE TIED CARD OF 'cipherplanlaw07.BlocksBack'. -/
def blocksBackCard : Claim7 := { stood := { row := blocksBackRow, standIns := [], harness := (true, "ab1370353c399282f09f394a09cbe2a0809d04b16a57df6f943c79af89199b76"), looks := false }, kinds := [], alts := [], laidByText := true, laidKinds := [.data, .pinned], laidTests := true, laidLooks := .later }
def BlocksBackCardSaid : Prop := Claim7.holds Tryd.pinned (.plain (OpenSpec.ofChange blocksBackSpec)) blocksBackCard

/-- THE TIED CARD OF 'cipherplanlaw07.BlocksFind'. -/
def blocksFindCard : Claim7 := { stood := { row := blocksFindRow, standIns := [], harness := (true, "ab1370353c399282f09f394a09cbe2a0809d04b16a57df6f943c79af89199b76"), looks := false }, kinds := [], alts := [], laidByText := true, laidKinds := [.data, .pinned], laidTests := true, laidLooks := .later }
def BlocksFindCardSaid : Prop := Claim7.holds Tryd.pinned (.plain (OpenSpec.ofChange blocksFindSpec)) blocksFindCard

/-- THE TIED CARD OF 'cipherplanlaw06.SettingsSet'. -/
def settingsSetCard : Claim7 := { stood := { row := settingsSetRow, standIns := [], harness := (true, "ab1370353c399282f09f394a09cbe2a0809d04b16a57df6f943c79af89199b76"), looks := false }, kinds := [], alts := [], laidByText := true, laidKinds := [.data, .pinned], laidTests := true, laidLooks := .later }
def SettingsSetCardSaid : Prop := Claim7.holds Tryd.pinned (.plain (OpenSpec.ofChange settingsSetSpec)) settingsSetCard

/-- THE TIED CARD OF 'cipherplanlaw06.SettingsLists'. -/
def settingsListsCard : Claim7 := { stood := { row := settingsListsRow, standIns := [], harness := (true, "ab1370353c399282f09f394a09cbe2a0809d04b16a57df6f943c79af89199b76"), looks := false }, kinds := [], alts := [], laidByText := true, laidKinds := [.data, .pinned], laidTests := true, laidLooks := .later }
def SettingsListsCardSaid : Prop := Claim7.holds Tryd.pinned (.plain (OpenSpec.ofChange settingsListsSpec)) settingsListsCard

/-- THE SECOND FORM's CARD OF 'cipherplanlaw06.SettingsTexts'. -/
def settingsTextsUptoCard : Claim7 := { stood := { row := settingsTextsUptoRow, standIns := [], harness := (true, "ab1370353c399282f09f394a09cbe2a0809d04b16a57df6f943c79af89199b76"), looks := false }, kinds := [], alts := [], laidByText := true, laidKinds := [.data, .pinned], laidTests := true, laidLooks := .later }
def SettingsTextsUptoCardSaid : Prop := Claim7.holds Tryd.pinned (.plain (OpenSpec.upto settingsTextsSpec)) settingsTextsUptoCard

/-- THE SECOND FORM's CARD OF 'cipherplanlaw07.BlocksTexts'. -/
def blocksTextsUptoCard : Claim7 := { stood := { row := blocksTextsUptoRow, standIns := [], harness := (true, "ab1370353c399282f09f394a09cbe2a0809d04b16a57df6f943c79af89199b76"), looks := false }, kinds := [], alts := [], laidByText := true, laidKinds := [.data, .pinned], laidTests := true, laidLooks := .later }
def BlocksTextsUptoCardSaid : Prop := Claim7.holds Tryd.pinned (.plain (OpenSpec.upto blocksTextsSpec)) blocksTextsUptoCard

/-- THE SECOND FORM's CARD OF 'cipherplanlaw07.BlocksDeep'. -/
def blocksDeepUptoCard : Claim7 := { stood := { row := blocksDeepUptoRow, standIns := [], harness := (true, "ab1370353c399282f09f394a09cbe2a0809d04b16a57df6f943c79af89199b76"), looks := false }, kinds := [], alts := [], laidByText := true, laidKinds := [.data, .pinned], laidTests := true, laidLooks := .later }
def BlocksDeepUptoCardSaid : Prop := Claim7.holds Tryd.pinned (.plain (OpenSpec.upto blocksDeepSpec)) blocksDeepUptoCard

/-- THE SECOND FORM's CARD OF 'cipherplanlaw06.SettingsLong'. -/
def settingsLongUptoCard : Claim7 := { stood := { row := settingsLongUptoRow, standIns := [], harness := (true, "ab1370353c399282f09f394a09cbe2a0809d04b16a57df6f943c79af89199b76"), looks := false }, kinds := [], alts := [], laidByText := true, laidKinds := [.data, .pinned], laidTests := true, laidLooks := .later }
def SettingsLongUptoCardSaid : Prop := Claim7.holds Tryd.pinned (.plain (OpenSpec.upto settingsLongSpec)) settingsLongUptoCard

/-- THE SECOND FORM's CARD OF 'cipherplanlaw06.SettingsBack'. -/
def settingsBackUptoCard : Claim7 := { stood := { row := settingsBackUptoRow, standIns := [], harness := (true, "ab1370353c399282f09f394a09cbe2a0809d04b16a57df6f943c79af89199b76"), looks := false }, kinds := [], alts := [], laidByText := true, laidKinds := [.data, .pinned], laidTests := true, laidLooks := .later }
def SettingsBackUptoCardSaid : Prop := Claim7.holds Tryd.pinned (.plain (OpenSpec.upto settingsBackSpec)) settingsBackUptoCard

/-- THE SECOND FORM's CARD OF 'cipherplanlaw07.BlocksLists'. -/
def blocksListsUptoCard : Claim7 := { stood := { row := blocksListsUptoRow, standIns := [], harness := (true, "ab1370353c399282f09f394a09cbe2a0809d04b16a57df6f943c79af89199b76"), looks := false }, kinds := [], alts := [], laidByText := true, laidKinds := [.data, .pinned], laidTests := true, laidLooks := .later }
def BlocksListsUptoCardSaid : Prop := Claim7.holds Tryd.pinned (.plain (OpenSpec.upto blocksListsSpec)) blocksListsUptoCard

/-- THE SECOND FORM's CARD OF 'cipherplanlaw07.BlocksBack'. -/
def blocksBackUptoCard : Claim7 := { stood := { row := blocksBackUptoRow, standIns := [], harness := (true, "ab1370353c399282f09f394a09cbe2a0809d04b16a57df6f943c79af89199b76"), looks := false }, kinds := [], alts := [], laidByText := true, laidKinds := [.data, .pinned], laidTests := true, laidLooks := .later }
def BlocksBackUptoCardSaid : Prop := Claim7.holds Tryd.pinned (.plain (OpenSpec.upto blocksBackSpec)) blocksBackUptoCard

/-- THE SECOND FORM's CARD OF 'cipherplanlaw07.BlocksFind'. -/
def blocksFindUptoCard : Claim7 := { stood := { row := blocksFindUptoRow, standIns := [], harness := (true, "ab1370353c399282f09f394a09cbe2a0809d04b16a57df6f943c79af89199b76"), looks := false }, kinds := [], alts := [], laidByText := true, laidKinds := [.data, .pinned], laidTests := true, laidLooks := .later }
def BlocksFindUptoCardSaid : Prop := Claim7.holds Tryd.pinned (.plain (OpenSpec.upto blocksFindSpec)) blocksFindUptoCard

/-- THE SECOND FORM's CARD OF 'cipherplanlaw06.SettingsSet'. -/
def settingsSetUptoCard : Claim7 := { stood := { row := settingsSetUptoRow, standIns := [], harness := (true, "ab1370353c399282f09f394a09cbe2a0809d04b16a57df6f943c79af89199b76"), looks := false }, kinds := [], alts := [], laidByText := true, laidKinds := [.data, .pinned], laidTests := true, laidLooks := .later }
def SettingsSetUptoCardSaid : Prop := Claim7.holds Tryd.pinned (.plain (OpenSpec.upto settingsSetSpec)) settingsSetUptoCard

/-- THE SECOND FORM's CARD OF 'cipherplanlaw06.SettingsLists'. -/
def settingsListsUptoCard : Claim7 := { stood := { row := settingsListsUptoRow, standIns := [], harness := (true, "ab1370353c399282f09f394a09cbe2a0809d04b16a57df6f943c79af89199b76"), looks := false }, kinds := [], alts := [], laidByText := true, laidKinds := [.data, .pinned], laidTests := true, laidLooks := .later }
def SettingsListsUptoCardSaid : Prop := Claim7.holds Tryd.pinned (.plain (OpenSpec.upto settingsListsSpec)) settingsListsUptoCard
end Rows
end Go.Proofs.YtkkoedniahnneaaDoor
