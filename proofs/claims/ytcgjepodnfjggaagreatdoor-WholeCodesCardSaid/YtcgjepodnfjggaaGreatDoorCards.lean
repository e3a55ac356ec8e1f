/-
  DERIVED. GIVEN WITH THE SEED: THE CARDS: each row of YtcgjepodnfjggaaGreatDoorRows.lean that lists a variable, with what it lists TIED to the program's text (the seventh form; the later family's looks); each row that meets fmt, with fmt's text TOLD by the authors' own Lean function (tested against real Go, not proved from fmt's source: count such statements apart). THE CARD IS WHAT COUNTS. Prove the row's statement (the work); the ties are given (YtcgjepodnfjggaaGreatDoorTie.lean); close each card by the builder's one call (the guide's Derived/Test/ToyasCard.lean, 'card_holds'). Laid BY PROGRAM, IN A SANDBOX (cutbox-door.mjs). By AI agents, Wed Nov 11 2026. No macro, syntax, notation, axiom, sorry.
-/
import Derived.Test.YtcgjepodnfjggaaGreatDoorRows
import GoSem.ClaimSeven
namespace Go.Proofs.YtcgjepodnfjggaaGreatDoor
namespace Rows

/-- THE TIED CARD OF 'shaletop.WholeCodes'. -/
def wholeCodesCard : Claim7 := { stood := { row := wholeCodesRow, standIns := [], harness := (true, "a7666e118bac60dd77a550108e16b30e301eb2aa61b7ec9264cb4f2cae0d0fdf"), looks := true }, kinds := [], alts := [], laidByText := true, laidKinds := [.sentinel, .sentinel, .sentinel, .sentinel, .sentinel, .sentinel, .sentinel, .sentinel, .sentinel, .sentinel, .sentinel, .sentinel, .sentinel, .sentinel, .sentinel, .sentinel, .sentinel, .sentinel], laidTests := true, laidLooks := .later }
def WholeCodesCardSaid : Prop := Claim7.holds Tryz.pinned (.plain (OpenSpec.ofChange wholeCodesSpec)) wholeCodesCard

/-- THE SECOND FORM's CARD OF 'shaletop.WholeCodes'. -/
def wholeCodesUptoCard : Claim7 := { stood := { row := wholeCodesUptoRow, standIns := [], harness := (true, "a7666e118bac60dd77a550108e16b30e301eb2aa61b7ec9264cb4f2cae0d0fdf"), looks := true }, kinds := [], alts := [], laidByText := true, laidKinds := [.sentinel, .sentinel, .sentinel, .sentinel, .sentinel, .sentinel, .sentinel, .sentinel, .sentinel, .sentinel, .sentinel, .sentinel, .sentinel, .sentinel, .sentinel, .sentinel, .sentinel, .sentinel], laidTests := true, laidLooks := .later }
def WholeCodesUptoCardSaid : Prop := Claim7.holds Tryz.pinned (.plain (OpenSpec.upto wholeCodesSpec)) wholeCodesUptoCard
end Rows
end Go.Proofs.YtcgjepodnfjggaaGreatDoor
