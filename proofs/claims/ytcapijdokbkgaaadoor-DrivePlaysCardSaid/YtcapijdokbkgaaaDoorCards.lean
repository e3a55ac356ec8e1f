/-
  DERIVED. GIVEN WITH THE SEED: THE CARDS: each row of YtcapijdokbkgaaaDoorRows.lean that lists a variable, with what it lists TIED to the program's text (the seventh form; the later family's looks); each row that meets fmt, with fmt's text TOLD by the authors' own Lean function (tested against real Go, not proved from fmt's source: count such statements apart). THE CARD IS WHAT COUNTS. Prove the row's statement (the work); the ties are given (YtcapijdokbkgaaaDoorTie.lean); close each card by the builder's one call (the guide's Derived/Test/ToyasCard.lean, 'card_holds'). Laid BY PROGRAM, IN A SANDBOX (cutbox-door.mjs). By AI agents, Wed Nov 11 2026. No macro, syntax, notation, axiom, sorry.
-/
import Derived.Test.YtcapijdokbkgaaaDoorRows
import GoSem.ClaimSeven
namespace Go.Proofs.YtcapijdokbkgaaaDoor
namespace Rows

/-- THE TIED CARD OF 'shalelaw14.ChipRules'. -/
def chipRulesCard : Claim7 := { stood := { row := chipRulesRow, standIns := [], harness := (true, "e99556064a4e7368a8f53241b345971dff8cca9f7253e0dcb746aa0e22e0193a"), looks := true }, kinds := [], alts := [], laidByText := true, laidKinds := [.sentinel, .sentinel, .sentinel, .sentinel, .sentinel, .sentinel, .sentinel], laidTests := true, laidLooks := .later }
def ChipRulesCardSaid : Prop := Claim7.holds Tryd.pinned (.plain (OpenSpec.ofChange chipRulesSpec)) chipRulesCard

/-- THE TIED CARD OF 'shalelaw14.ChipKeeps'. -/
def chipKeepsCard : Claim7 := { stood := { row := chipKeepsRow, standIns := [], harness := (true, "e99556064a4e7368a8f53241b345971dff8cca9f7253e0dcb746aa0e22e0193a"), looks := true }, kinds := [], alts := [], laidByText := true, laidKinds := [.sentinel, .sentinel, .sentinel, .sentinel, .sentinel, .sentinel, .sentinel], laidTests := true, laidLooks := .later }
def ChipKeepsCardSaid : Prop := Claim7.holds Tryd.pinned (.plain (OpenSpec.ofChange chipKeepsSpec)) chipKeepsCard

/-- THE TIED CARD OF 'shalelaw14.ChipCuts'. -/
def chipCutsCard : Claim7 := { stood := { row := chipCutsRow, standIns := [], harness := (true, "e99556064a4e7368a8f53241b345971dff8cca9f7253e0dcb746aa0e22e0193a"), looks := true }, kinds := [], alts := [], laidByText := true, laidKinds := [.sentinel, .sentinel, .sentinel, .sentinel, .sentinel, .sentinel, .sentinel], laidTests := true, laidLooks := .later }
def ChipCutsCardSaid : Prop := Claim7.holds Tryd.pinned (.plain (OpenSpec.ofChange chipCutsSpec)) chipCutsCard

/-- THE TIED CARD OF 'shalelaw14.ChipFalls'. -/
def chipFallsCard : Claim7 := { stood := { row := chipFallsRow, standIns := [], harness := (true, "e99556064a4e7368a8f53241b345971dff8cca9f7253e0dcb746aa0e22e0193a"), looks := true }, kinds := [], alts := [], laidByText := true, laidKinds := [.sentinel, .sentinel, .sentinel, .sentinel, .sentinel, .sentinel, .sentinel], laidTests := true, laidLooks := .later }
def ChipFallsCardSaid : Prop := Claim7.holds Tryd.pinned (.plain (OpenSpec.ofChange chipFallsSpec)) chipFallsCard

/-- THE TIED CARD OF 'shalelaw14.ChipPlays'. -/
def chipPlaysCard : Claim7 := { stood := { row := chipPlaysRow, standIns := [], harness := (true, "e99556064a4e7368a8f53241b345971dff8cca9f7253e0dcb746aa0e22e0193a"), looks := true }, kinds := [], alts := [], laidByText := true, laidKinds := [.sentinel, .sentinel, .sentinel, .sentinel, .sentinel, .sentinel, .sentinel, .sentinel, .sentinel, .sentinel, .sentinel, .sentinel, .sentinel, .sentinel, .sentinel, .sentinel, .sentinel, .sentinel, .sentinel], laidTests := true, laidLooks := .later }
def ChipPlaysCardSaid : Prop := Claim7.holds Tryd.pinned (.plain (OpenSpec.ofChange chipPlaysSpec)) chipPlaysCard

/-- THE TIED CARD OF 'shalelaw14.ChipApart'. -/
def chipApartCard : Claim7 := { stood := { row := chipApartRow, standIns := [], harness := (true, "e99556064a4e7368a8f53241b345971dff8cca9f7253e0dcb746aa0e22e0193a"), looks := true }, kinds := [], alts := [], laidByText := true, laidKinds := [.sentinel, .sentinel, .sentinel, .sentinel, .sentinel, .sentinel, .sentinel], laidTests := true, laidLooks := .later }
def ChipApartCardSaid : Prop := Claim7.holds Tryd.pinned (.plain (OpenSpec.ofChange chipApartSpec)) chipApartCard

/-- THE TIED CARD OF 'shalelaw15.DriveFills'. -/
def driveFillsCard : Claim7 := { stood := { row := driveFillsRow, standIns := [], harness := (true, "e99556064a4e7368a8f53241b345971dff8cca9f7253e0dcb746aa0e22e0193a"), looks := true }, kinds := [], alts := [], laidByText := true, laidKinds := [.sentinel, .sentinel, .sentinel, .sentinel, .sentinel, .sentinel, .sentinel, .sentinel], laidTests := true, laidLooks := .later }
def DriveFillsCardSaid : Prop := Claim7.holds Tryd.pinned (.plain (OpenSpec.ofChange driveFillsSpec)) driveFillsCard

/-- THE TIED CARD OF 'shalelaw15.DriveKeeps'. -/
def driveKeepsCard : Claim7 := { stood := { row := driveKeepsRow, standIns := [], harness := (true, "e99556064a4e7368a8f53241b345971dff8cca9f7253e0dcb746aa0e22e0193a"), looks := true }, kinds := [], alts := [], laidByText := true, laidKinds := [.sentinel, .sentinel, .sentinel, .sentinel, .sentinel, .sentinel, .sentinel, .sentinel], laidTests := true, laidLooks := .later }
def DriveKeepsCardSaid : Prop := Claim7.holds Tryd.pinned (.plain (OpenSpec.ofChange driveKeepsSpec)) driveKeepsCard

/-- THE TIED CARD OF 'shalelaw15.DrivePlays'. -/
def drivePlaysCard : Claim7 := { stood := { row := drivePlaysRow, standIns := [], harness := (true, "e99556064a4e7368a8f53241b345971dff8cca9f7253e0dcb746aa0e22e0193a"), looks := true }, kinds := [], alts := [], laidByText := true, laidKinds := [.sentinel, .sentinel, .sentinel, .sentinel, .sentinel, .sentinel, .sentinel, .sentinel, .sentinel, .sentinel, .sentinel, .sentinel, .sentinel, .sentinel, .sentinel, .sentinel, .sentinel, .sentinel, .sentinel], laidTests := true, laidLooks := .later }
def DrivePlaysCardSaid : Prop := Claim7.holds Tryd.pinned (.plain (OpenSpec.ofChange drivePlaysSpec)) drivePlaysCard

/-- THE SECOND FORM's CARD OF 'shalelaw14.ChipRules'. -/
def chipRulesUptoCard : Claim7 := { stood := { row := chipRulesUptoRow, standIns := [], harness := (true, "e99556064a4e7368a8f53241b345971dff8cca9f7253e0dcb746aa0e22e0193a"), looks := true }, kinds := [], alts := [], laidByText := true, laidKinds := [.sentinel, .sentinel, .sentinel, .sentinel, .sentinel, .sentinel, .sentinel], laidTests := true, laidLooks := .later }
def ChipRulesUptoCardSaid : Prop := Claim7.holds Tryd.pinned (.plain (OpenSpec.upto chipRulesSpec)) chipRulesUptoCard

/-- THE SECOND FORM's CARD OF 'shalelaw14.ChipKeeps'. -/
def chipKeepsUptoCard : Claim7 := { stood := { row := chipKeepsUptoRow, standIns := [], harness := (true, "e99556064a4e7368a8f53241b345971dff8cca9f7253e0dcb746aa0e22e0193a"), looks := true }, kinds := [], alts := [], laidByText := true, laidKinds := [.sentinel, .sentinel, .sentinel, .sentinel, .sentinel, .sentinel, .sentinel], laidTests := true, laidLooks := .later }
def ChipKeepsUptoCardSaid : Prop := Claim7.holds Tryd.pinned (.plain (OpenSpec.upto chipKeepsSpec)) chipKeepsUptoCard

/-- THE SECOND FORM's CARD OF 'shalelaw14.ChipCuts'. -/
def chipCutsUptoCard : Claim7 := { stood := { row := chipCutsUptoRow, standIns := [], harness := (true, "e99556064a4e7368a8f53241b345971dff8cca9f7253e0dcb746aa0e22e0193a"), looks := true }, kinds := [], alts := [], laidByText := true, laidKinds := [.sentinel, .sentinel, .sentinel, .sentinel, .sentinel, .sentinel, .sentinel], laidTests := true, laidLooks := .later }
def ChipCutsUptoCardSaid : Prop := Claim7.holds Tryd.pinned (.plain (OpenSpec.upto chipCutsSpec)) chipCutsUptoCard

/-- THE SECOND FORM's CARD OF 'shalelaw14.ChipFalls'. -/
def chipFallsUptoCard : Claim7 := { stood := { row := chipFallsUptoRow, standIns := [], harness := (true, "e99556064a4e7368a8f53241b345971dff8cca9f7253e0dcb746aa0e22e0193a"), looks := true }, kinds := [], alts := [], laidByText := true, laidKinds := [.sentinel, .sentinel, .sentinel, .sentinel, .sentinel, .sentinel, .sentinel], laidTests := true, laidLooks := .later }
def ChipFallsUptoCardSaid : Prop := Claim7.holds Tryd.pinned (.plain (OpenSpec.upto chipFallsSpec)) chipFallsUptoCard

/-- THE SECOND FORM's CARD OF 'shalelaw14.ChipPlays'. -/
def chipPlaysUptoCard : Claim7 := { stood := { row := chipPlaysUptoRow, standIns := [], harness := (true, "e99556064a4e7368a8f53241b345971dff8cca9f7253e0dcb746aa0e22e0193a"), looks := true }, kinds := [], alts := [], laidByText := true, laidKinds := [.sentinel, .sentinel, .sentinel, .sentinel, .sentinel, .sentinel, .sentinel, .sentinel, .sentinel, .sentinel, .sentinel, .sentinel, .sentinel, .sentinel, .sentinel, .sentinel, .sentinel, .sentinel, .sentinel], laidTests := true, laidLooks := .later }
def ChipPlaysUptoCardSaid : Prop := Claim7.holds Tryd.pinned (.plain (OpenSpec.upto chipPlaysSpec)) chipPlaysUptoCard

/-- THE SECOND FORM's CARD OF 'shalelaw14.ChipApart'. -/
def chipApartUptoCard : Claim7 := { stood := { row := chipApartUptoRow, standIns := [], harness := (true, "e99556064a4e7368a8f53241b345971dff8cca9f7253e0dcb746aa0e22e0193a"), looks := true }, kinds := [], alts := [], laidByText := true, laidKinds := [.sentinel, .sentinel, .sentinel, .sentinel, .sentinel, .sentinel, .sentinel], laidTests := true, laidLooks := .later }
def ChipApartUptoCardSaid : Prop := Claim7.holds Tryd.pinned (.plain (OpenSpec.upto chipApartSpec)) chipApartUptoCard

/-- THE SECOND FORM's CARD OF 'shalelaw15.DriveFills'. -/
def driveFillsUptoCard : Claim7 := { stood := { row := driveFillsUptoRow, standIns := [], harness := (true, "e99556064a4e7368a8f53241b345971dff8cca9f7253e0dcb746aa0e22e0193a"), looks := true }, kinds := [], alts := [], laidByText := true, laidKinds := [.sentinel, .sentinel, .sentinel, .sentinel, .sentinel, .sentinel, .sentinel, .sentinel], laidTests := true, laidLooks := .later }
def DriveFillsUptoCardSaid : Prop := Claim7.holds Tryd.pinned (.plain (OpenSpec.upto driveFillsSpec)) driveFillsUptoCard

/-- THE SECOND FORM's CARD OF 'shalelaw15.DriveKeeps'. -/
def driveKeepsUptoCard : Claim7 := { stood := { row := driveKeepsUptoRow, standIns := [], harness := (true, "e99556064a4e7368a8f53241b345971dff8cca9f7253e0dcb746aa0e22e0193a"), looks := true }, kinds := [], alts := [], laidByText := true, laidKinds := [.sentinel, .sentinel, .sentinel, .sentinel, .sentinel, .sentinel, .sentinel, .sentinel], laidTests := true, laidLooks := .later }
def DriveKeepsUptoCardSaid : Prop := Claim7.holds Tryd.pinned (.plain (OpenSpec.upto driveKeepsSpec)) driveKeepsUptoCard

/-- THE SECOND FORM's CARD OF 'shalelaw15.DrivePlays'. -/
def drivePlaysUptoCard : Claim7 := { stood := { row := drivePlaysUptoRow, standIns := [], harness := (true, "e99556064a4e7368a8f53241b345971dff8cca9f7253e0dcb746aa0e22e0193a"), looks := true }, kinds := [], alts := [], laidByText := true, laidKinds := [.sentinel, .sentinel, .sentinel, .sentinel, .sentinel, .sentinel, .sentinel, .sentinel, .sentinel, .sentinel, .sentinel, .sentinel, .sentinel, .sentinel, .sentinel, .sentinel, .sentinel, .sentinel, .sentinel], laidTests := true, laidLooks := .later }
def DrivePlaysUptoCardSaid : Prop := Claim7.holds Tryd.pinned (.plain (OpenSpec.upto drivePlaysSpec)) drivePlaysUptoCard
end Rows
end Go.Proofs.YtcapijdokbkgaaaDoor
