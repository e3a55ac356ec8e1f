/-
  DERIVED. GIVEN WITH THE SEED: THE CARDS: each row of YtaamaifnmppbgaaDoorRows.lean that lists a variable, with what it lists TIED to the program's text (the seventh form; the later family's looks); each row that meets fmt, with fmt's text TOLD by the authors' own Lean function (tested against real Go, not proved from fmt's source: count such statements apart). THE CARD IS WHAT COUNTS. Prove the row's statement (the work); the ties are given (YtaamaifnmppbgaaDoorTie.lean); close each card by the builder's one call (the guide's Derived/Test/ToyasCard.lean, 'card_holds'). Laid BY PROGRAM, IN A SANDBOX (cutbox-door.mjs). By AI agents, Wed Nov 11 2026. No macro, syntax, notation, axiom, sorry.
-/
import Derived.Test.YtaamaifnmppbgaaDoorRows
import GoSem.ClaimSeven
namespace Go.Proofs.YtaamaifnmppbgaaDoor
namespace Rows

/-- THE TIED CARD OF 'shalelaw26.ModelPlays'. -/
def modelPlaysCard : Claim7 := { stood := { row := modelPlaysRow, standIns := [], harness := (true, "c09713071105971930badae9544743499151bc50980dbbb40ad59dcc343fc53d"), looks := true }, kinds := [], alts := [], laidByText := true, laidKinds := [.sentinel, .sentinel, .sentinel], laidTests := true, laidLooks := .later }
def ModelPlaysCardSaid : Prop := Claim7.holds Tryd.pinned (.plain (OpenSpec.ofChange modelPlaysSpec)) modelPlaysCard

/-- THE TIED CARD OF 'shalelaw26.ModelForgets'. -/
def modelForgetsCard : Claim7 := { stood := { row := modelForgetsRow, standIns := [], harness := (true, "c09713071105971930badae9544743499151bc50980dbbb40ad59dcc343fc53d"), looks := true }, kinds := [], alts := [], laidByText := true, laidKinds := [.sentinel, .sentinel, .sentinel], laidTests := true, laidLooks := .later }
def ModelForgetsCardSaid : Prop := Claim7.holds Tryd.pinned (.plain (OpenSpec.ofChange modelForgetsSpec)) modelForgetsCard

/-- THE SECOND FORM's CARD OF 'shalelaw26.ModelPlays'. -/
def modelPlaysUptoCard : Claim7 := { stood := { row := modelPlaysUptoRow, standIns := [], harness := (true, "c09713071105971930badae9544743499151bc50980dbbb40ad59dcc343fc53d"), looks := true }, kinds := [], alts := [], laidByText := true, laidKinds := [.sentinel, .sentinel, .sentinel], laidTests := true, laidLooks := .later }
def ModelPlaysUptoCardSaid : Prop := Claim7.holds Tryd.pinned (.plain (OpenSpec.upto modelPlaysSpec)) modelPlaysUptoCard

/-- THE SECOND FORM's CARD OF 'shalelaw26.ModelForgets'. -/
def modelForgetsUptoCard : Claim7 := { stood := { row := modelForgetsUptoRow, standIns := [], harness := (true, "c09713071105971930badae9544743499151bc50980dbbb40ad59dcc343fc53d"), looks := true }, kinds := [], alts := [], laidByText := true, laidKinds := [.sentinel, .sentinel, .sentinel], laidTests := true, laidLooks := .later }
def ModelForgetsUptoCardSaid : Prop := Claim7.holds Tryd.pinned (.plain (OpenSpec.upto modelForgetsSpec)) modelForgetsUptoCard
end Rows
end Go.Proofs.YtaamaifnmppbgaaDoor
