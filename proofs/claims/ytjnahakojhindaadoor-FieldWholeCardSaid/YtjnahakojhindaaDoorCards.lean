/-
  DERIVED. GIVEN WITH THE SEED: THE CARDS: each row of YtjnahakojhindaaDoorRows.lean that lists a variable, with what it lists TIED to the program's text (the seventh form; the later family's looks); each row that meets fmt, with fmt's text TOLD by the authors' own Lean function (tested against real Go, not proved from fmt's source: count such statements apart). THE CARD IS WHAT COUNTS. Prove the row's statement (the work); the ties are given (YtjnahakojhindaaDoorTie.lean); close each card by the builder's one call (the guide's Derived/Test/ToyasCard.lean, 'card_holds'). Laid BY PROGRAM, IN A SANDBOX (cutbox-door.mjs). By AI agents, Wed Nov 11 2026. No macro, syntax, notation, axiom, sorry.
-/
import Derived.Test.YtjnahakojhindaaDoorRows
import GoSem.ClaimSeven
namespace Go.Proofs.YtjnahakojhindaaDoor
namespace Rows

/-- THE TIED CARD OF 'shalelaw2.FieldLogs'. -/
def fieldLogsCard : Claim7 := { stood := { row := fieldLogsRow, standIns := [], harness := (true, "273551382908f716af2b7e5d316ae63d2b0260e49afb5b6832ebf1aba412b0b3"), looks := true }, kinds := [], alts := [], laidByText := true, laidKinds := [.sentinel, .sentinel], laidTests := true, laidLooks := .later }
def FieldLogsCardSaid : Prop := Claim7.holds Tryd.pinned (.plain (OpenSpec.ofChange fieldLogsSpec)) fieldLogsCard

/-- THE TIED CARD OF 'shalelaw2.FieldOrders'. -/
def fieldOrdersCard : Claim7 := { stood := { row := fieldOrdersRow, standIns := [], harness := (true, "273551382908f716af2b7e5d316ae63d2b0260e49afb5b6832ebf1aba412b0b3"), looks := true }, kinds := [], alts := [], laidByText := true, laidKinds := [.sentinel, .sentinel], laidTests := true, laidLooks := .later }
def FieldOrdersCardSaid : Prop := Claim7.holds Tryd.pinned (.plain (OpenSpec.ofChange fieldOrdersSpec)) fieldOrdersCard

/-- THE TIED CARD OF 'shalelaw2.FieldRoots'. -/
def fieldRootsCard : Claim7 := { stood := { row := fieldRootsRow, standIns := [], harness := (true, "273551382908f716af2b7e5d316ae63d2b0260e49afb5b6832ebf1aba412b0b3"), looks := true }, kinds := [], alts := [], laidByText := true, laidKinds := [.sentinel, .sentinel], laidTests := true, laidLooks := .later }
def FieldRootsCardSaid : Prop := Claim7.holds Tryd.pinned (.plain (OpenSpec.ofChange fieldRootsSpec)) fieldRootsCard

/-- THE TIED CARD OF 'shalelaw2.FieldWhole'. -/
def fieldWholeCard : Claim7 := { stood := { row := fieldWholeRow, standIns := [], harness := (true, "273551382908f716af2b7e5d316ae63d2b0260e49afb5b6832ebf1aba412b0b3"), looks := true }, kinds := [], alts := [], laidByText := true, laidKinds := [.sentinel, .sentinel, .sentinel, .sentinel, .sentinel, .sentinel, .sentinel, .sentinel, .sentinel, .sentinel, .sentinel, .sentinel, .sentinel, .sentinel, .sentinel, .sentinel, .sentinel, .sentinel, .sentinel], laidTests := true, laidLooks := .later }
def FieldWholeCardSaid : Prop := Claim7.holds Tryd.pinned (.plain (OpenSpec.ofChange fieldWholeSpec)) fieldWholeCard

/-- THE TIED CARD OF 'shalelaw2.FieldLaws'. -/
def fieldLawsCard : Claim7 := { stood := { row := fieldLawsRow, standIns := [], harness := (true, "273551382908f716af2b7e5d316ae63d2b0260e49afb5b6832ebf1aba412b0b3"), looks := true }, kinds := [], alts := [], laidByText := true, laidKinds := [.sentinel, .sentinel], laidTests := true, laidLooks := .later }
def FieldLawsCardSaid : Prop := Claim7.holds Tryd.pinned (.plain (OpenSpec.ofChange fieldLawsSpec)) fieldLawsCard

/-- THE TIED CARD OF 'shalelaw2.FieldSays'. -/
def fieldSaysCard : Claim7 := { stood := { row := fieldSaysRow, standIns := [], harness := (true, "273551382908f716af2b7e5d316ae63d2b0260e49afb5b6832ebf1aba412b0b3"), looks := true }, kinds := [], alts := [], laidByText := true, laidKinds := [.sentinel, .sentinel], laidTests := true, laidLooks := .later }
def FieldSaysCardSaid : Prop := Claim7.holds Tryd.pinned (.plain (OpenSpec.ofChange fieldSaysSpec)) fieldSaysCard

/-- THE TIED CARD OF 'shalelaw26.ModelPlays'. -/
def modelPlaysCard : Claim7 := { stood := { row := modelPlaysRow, standIns := [], harness := (true, "273551382908f716af2b7e5d316ae63d2b0260e49afb5b6832ebf1aba412b0b3"), looks := true }, kinds := [], alts := [], laidByText := true, laidKinds := [.sentinel, .sentinel, .sentinel], laidTests := true, laidLooks := .later }
def ModelPlaysCardSaid : Prop := Claim7.holds Tryd.pinned (.plain (OpenSpec.ofChange modelPlaysSpec)) modelPlaysCard

/-- THE TIED CARD OF 'shalelaw26.ModelForgets'. -/
def modelForgetsCard : Claim7 := { stood := { row := modelForgetsRow, standIns := [], harness := (true, "273551382908f716af2b7e5d316ae63d2b0260e49afb5b6832ebf1aba412b0b3"), looks := true }, kinds := [], alts := [], laidByText := true, laidKinds := [.sentinel, .sentinel, .sentinel], laidTests := true, laidLooks := .later }
def ModelForgetsCardSaid : Prop := Claim7.holds Tryd.pinned (.plain (OpenSpec.ofChange modelForgetsSpec)) modelForgetsCard

/-- THE SECOND FORM's CARD OF 'shalelaw2.FieldLogs'. -/
def fieldLogsUptoCard : Claim7 := { stood := { row := fieldLogsUptoRow, standIns := [], harness := (true, "273551382908f716af2b7e5d316ae63d2b0260e49afb5b6832ebf1aba412b0b3"), looks := true }, kinds := [], alts := [], laidByText := true, laidKinds := [.sentinel, .sentinel], laidTests := true, laidLooks := .later }
def FieldLogsUptoCardSaid : Prop := Claim7.holds Tryd.pinned (.plain (OpenSpec.upto fieldLogsSpec)) fieldLogsUptoCard

/-- THE SECOND FORM's CARD OF 'shalelaw2.FieldOrders'. -/
def fieldOrdersUptoCard : Claim7 := { stood := { row := fieldOrdersUptoRow, standIns := [], harness := (true, "273551382908f716af2b7e5d316ae63d2b0260e49afb5b6832ebf1aba412b0b3"), looks := true }, kinds := [], alts := [], laidByText := true, laidKinds := [.sentinel, .sentinel], laidTests := true, laidLooks := .later }
def FieldOrdersUptoCardSaid : Prop := Claim7.holds Tryd.pinned (.plain (OpenSpec.upto fieldOrdersSpec)) fieldOrdersUptoCard

/-- THE SECOND FORM's CARD OF 'shalelaw2.FieldRoots'. -/
def fieldRootsUptoCard : Claim7 := { stood := { row := fieldRootsUptoRow, standIns := [], harness := (true, "273551382908f716af2b7e5d316ae63d2b0260e49afb5b6832ebf1aba412b0b3"), looks := true }, kinds := [], alts := [], laidByText := true, laidKinds := [.sentinel, .sentinel], laidTests := true, laidLooks := .later }
def FieldRootsUptoCardSaid : Prop := Claim7.holds Tryd.pinned (.plain (OpenSpec.upto fieldRootsSpec)) fieldRootsUptoCard

/-- THE SECOND FORM's CARD OF 'shalelaw2.FieldWhole'. -/
def fieldWholeUptoCard : Claim7 := { stood := { row := fieldWholeUptoRow, standIns := [], harness := (true, "273551382908f716af2b7e5d316ae63d2b0260e49afb5b6832ebf1aba412b0b3"), looks := true }, kinds := [], alts := [], laidByText := true, laidKinds := [.sentinel, .sentinel, .sentinel, .sentinel, .sentinel, .sentinel, .sentinel, .sentinel, .sentinel, .sentinel, .sentinel, .sentinel, .sentinel, .sentinel, .sentinel, .sentinel, .sentinel, .sentinel, .sentinel], laidTests := true, laidLooks := .later }
def FieldWholeUptoCardSaid : Prop := Claim7.holds Tryd.pinned (.plain (OpenSpec.upto fieldWholeSpec)) fieldWholeUptoCard

/-- THE SECOND FORM's CARD OF 'shalelaw2.FieldLaws'. -/
def fieldLawsUptoCard : Claim7 := { stood := { row := fieldLawsUptoRow, standIns := [], harness := (true, "273551382908f716af2b7e5d316ae63d2b0260e49afb5b6832ebf1aba412b0b3"), looks := true }, kinds := [], alts := [], laidByText := true, laidKinds := [.sentinel, .sentinel], laidTests := true, laidLooks := .later }
def FieldLawsUptoCardSaid : Prop := Claim7.holds Tryd.pinned (.plain (OpenSpec.upto fieldLawsSpec)) fieldLawsUptoCard

/-- THE SECOND FORM's CARD OF 'shalelaw2.FieldSays'. -/
def fieldSaysUptoCard : Claim7 := { stood := { row := fieldSaysUptoRow, standIns := [], harness := (true, "273551382908f716af2b7e5d316ae63d2b0260e49afb5b6832ebf1aba412b0b3"), looks := true }, kinds := [], alts := [], laidByText := true, laidKinds := [.sentinel, .sentinel], laidTests := true, laidLooks := .later }
def FieldSaysUptoCardSaid : Prop := Claim7.holds Tryd.pinned (.plain (OpenSpec.upto fieldSaysSpec)) fieldSaysUptoCard

/-- THE SECOND FORM's CARD OF 'shalelaw26.ModelPlays'. -/
def modelPlaysUptoCard : Claim7 := { stood := { row := modelPlaysUptoRow, standIns := [], harness := (true, "273551382908f716af2b7e5d316ae63d2b0260e49afb5b6832ebf1aba412b0b3"), looks := true }, kinds := [], alts := [], laidByText := true, laidKinds := [.sentinel, .sentinel, .sentinel], laidTests := true, laidLooks := .later }
def ModelPlaysUptoCardSaid : Prop := Claim7.holds Tryd.pinned (.plain (OpenSpec.upto modelPlaysSpec)) modelPlaysUptoCard

/-- THE SECOND FORM's CARD OF 'shalelaw26.ModelForgets'. -/
def modelForgetsUptoCard : Claim7 := { stood := { row := modelForgetsUptoRow, standIns := [], harness := (true, "273551382908f716af2b7e5d316ae63d2b0260e49afb5b6832ebf1aba412b0b3"), looks := true }, kinds := [], alts := [], laidByText := true, laidKinds := [.sentinel, .sentinel, .sentinel], laidTests := true, laidLooks := .later }
def ModelForgetsUptoCardSaid : Prop := Claim7.holds Tryd.pinned (.plain (OpenSpec.upto modelForgetsSpec)) modelForgetsUptoCard
end Rows
end Go.Proofs.YtjnahakojhindaaDoor
