/-
  DERIVED. GIVEN WITH THE SEED: THE CARDS: each row of YtppolffghjeifaaDoorRows.lean that lists a variable, with what it lists TIED to the program's text (the seventh form; the later family's looks); each row that meets fmt, with fmt's text TOLD by the authors' own Lean function (tested against real Go, not proved from fmt's source: count such statements apart). THE CARD IS WHAT COUNTS. Prove the row's statement (the work); the ties are given (YtppolffghjeifaaDoorTie.lean); close each card by the builder's one call (the guide's Derived/Test/ToyasCard.lean, 'card_holds'). Laid BY PROGRAM, IN A SANDBOX (cutbox-door.mjs). By AI agents, Wed Nov 11 2026. No macro, syntax, notation, axiom, sorry.
-/
import Derived.Test.YtppolffghjeifaaDoorRows
import GoSem.ClaimSeven
namespace Go.Proofs.YtppolffghjeifaaDoor
namespace Rows

/-- THE TIED CARD OF 'shalelaw3.BinOf'. -/
def binOfCard : Claim7 := { stood := { row := binOfRow, standIns := [], harness := (true, "4d1726ff4f40d902c266f756d7dc53ae0d92ffb06fcd150385c7b802b6d2eece"), looks := true }, kinds := [], alts := [], laidByText := true, laidKinds := [.sentinel, .sentinel], laidTests := true, laidLooks := .later }
def BinOfCardSaid : Prop := Claim7.holds Tryd.pinned (.plain (OpenSpec.ofChange binOfSpec)) binOfCard

/-- THE TIED CARD OF 'shalelaw3.BinCounts'. -/
def binCountsCard : Claim7 := { stood := { row := binCountsRow, standIns := [], harness := (true, "4d1726ff4f40d902c266f756d7dc53ae0d92ffb06fcd150385c7b802b6d2eece"), looks := true }, kinds := [], alts := [], laidByText := true, laidKinds := [.sentinel, .sentinel], laidTests := true, laidLooks := .later }
def BinCountsCardSaid : Prop := Claim7.holds Tryd.pinned (.plain (OpenSpec.ofChange binCountsSpec)) binCountsCard

/-- THE TIED CARD OF 'shalelaw3.BinShifts'. -/
def binShiftsCard : Claim7 := { stood := { row := binShiftsRow, standIns := [], harness := (true, "4d1726ff4f40d902c266f756d7dc53ae0d92ffb06fcd150385c7b802b6d2eece"), looks := true }, kinds := [], alts := [], laidByText := true, laidKinds := [.sentinel, .sentinel], laidTests := true, laidLooks := .later }
def BinShiftsCardSaid : Prop := Claim7.holds Tryd.pinned (.plain (OpenSpec.ofChange binShiftsSpec)) binShiftsCard

/-- THE TIED CARD OF 'shalelaw3.BinDivides'. -/
def binDividesCard : Claim7 := { stood := { row := binDividesRow, standIns := [], harness := (true, "4d1726ff4f40d902c266f756d7dc53ae0d92ffb06fcd150385c7b802b6d2eece"), looks := true }, kinds := [], alts := [], laidByText := true, laidKinds := [.sentinel, .sentinel, .sentinel], laidTests := true, laidLooks := .later }
def BinDividesCardSaid : Prop := Claim7.holds Tryd.pinned (.plain (OpenSpec.ofChange binDividesSpec)) binDividesCard

/-- THE TIED CARD OF 'shalelaw3.BinRing'. -/
def binRingCard : Claim7 := { stood := { row := binRingRow, standIns := [], harness := (true, "4d1726ff4f40d902c266f756d7dc53ae0d92ffb06fcd150385c7b802b6d2eece"), looks := true }, kinds := [], alts := [], laidByText := true, laidKinds := [.sentinel, .sentinel, .sentinel], laidTests := true, laidLooks := .later }
def BinRingCardSaid : Prop := Claim7.holds Tryd.pinned (.plain (OpenSpec.ofChange binRingSpec)) binRingCard

/-- THE TIED CARD OF 'shalelaw3.BinOwn'. -/
def binOwnCard : Claim7 := { stood := { row := binOwnRow, standIns := [], harness := (true, "4d1726ff4f40d902c266f756d7dc53ae0d92ffb06fcd150385c7b802b6d2eece"), looks := true }, kinds := [], alts := [], laidByText := true, laidKinds := [.sentinel, .sentinel, .sentinel], laidTests := true, laidLooks := .later }
def BinOwnCardSaid : Prop := Claim7.holds Tryd.pinned (.plain (OpenSpec.ofChange binOwnSpec)) binOwnCard

/-- THE TIED CARD OF 'shalelaw3.BinSays'. -/
def binSaysCard : Claim7 := { stood := { row := binSaysRow, standIns := [], harness := (true, "4d1726ff4f40d902c266f756d7dc53ae0d92ffb06fcd150385c7b802b6d2eece"), looks := true }, kinds := [], alts := [], laidByText := true, laidKinds := [.sentinel, .sentinel, .sentinel], laidTests := true, laidLooks := .later }
def BinSaysCardSaid : Prop := Claim7.holds Tryd.pinned (.plain (OpenSpec.ofChange binSaysSpec)) binSaysCard

/-- THE SECOND FORM's CARD OF 'shalelaw3.BinOf'. -/
def binOfUptoCard : Claim7 := { stood := { row := binOfUptoRow, standIns := [], harness := (true, "4d1726ff4f40d902c266f756d7dc53ae0d92ffb06fcd150385c7b802b6d2eece"), looks := true }, kinds := [], alts := [], laidByText := true, laidKinds := [.sentinel, .sentinel], laidTests := true, laidLooks := .later }
def BinOfUptoCardSaid : Prop := Claim7.holds Tryd.pinned (.plain (OpenSpec.upto binOfSpec)) binOfUptoCard

/-- THE SECOND FORM's CARD OF 'shalelaw3.BinCounts'. -/
def binCountsUptoCard : Claim7 := { stood := { row := binCountsUptoRow, standIns := [], harness := (true, "4d1726ff4f40d902c266f756d7dc53ae0d92ffb06fcd150385c7b802b6d2eece"), looks := true }, kinds := [], alts := [], laidByText := true, laidKinds := [.sentinel, .sentinel], laidTests := true, laidLooks := .later }
def BinCountsUptoCardSaid : Prop := Claim7.holds Tryd.pinned (.plain (OpenSpec.upto binCountsSpec)) binCountsUptoCard

/-- THE SECOND FORM's CARD OF 'shalelaw3.BinShifts'. -/
def binShiftsUptoCard : Claim7 := { stood := { row := binShiftsUptoRow, standIns := [], harness := (true, "4d1726ff4f40d902c266f756d7dc53ae0d92ffb06fcd150385c7b802b6d2eece"), looks := true }, kinds := [], alts := [], laidByText := true, laidKinds := [.sentinel, .sentinel], laidTests := true, laidLooks := .later }
def BinShiftsUptoCardSaid : Prop := Claim7.holds Tryd.pinned (.plain (OpenSpec.upto binShiftsSpec)) binShiftsUptoCard

/-- THE SECOND FORM's CARD OF 'shalelaw3.BinDivides'. -/
def binDividesUptoCard : Claim7 := { stood := { row := binDividesUptoRow, standIns := [], harness := (true, "4d1726ff4f40d902c266f756d7dc53ae0d92ffb06fcd150385c7b802b6d2eece"), looks := true }, kinds := [], alts := [], laidByText := true, laidKinds := [.sentinel, .sentinel, .sentinel], laidTests := true, laidLooks := .later }
def BinDividesUptoCardSaid : Prop := Claim7.holds Tryd.pinned (.plain (OpenSpec.upto binDividesSpec)) binDividesUptoCard

/-- THE SECOND FORM's CARD OF 'shalelaw3.BinRing'. -/
def binRingUptoCard : Claim7 := { stood := { row := binRingUptoRow, standIns := [], harness := (true, "4d1726ff4f40d902c266f756d7dc53ae0d92ffb06fcd150385c7b802b6d2eece"), looks := true }, kinds := [], alts := [], laidByText := true, laidKinds := [.sentinel, .sentinel, .sentinel], laidTests := true, laidLooks := .later }
def BinRingUptoCardSaid : Prop := Claim7.holds Tryd.pinned (.plain (OpenSpec.upto binRingSpec)) binRingUptoCard

/-- THE SECOND FORM's CARD OF 'shalelaw3.BinOwn'. -/
def binOwnUptoCard : Claim7 := { stood := { row := binOwnUptoRow, standIns := [], harness := (true, "4d1726ff4f40d902c266f756d7dc53ae0d92ffb06fcd150385c7b802b6d2eece"), looks := true }, kinds := [], alts := [], laidByText := true, laidKinds := [.sentinel, .sentinel, .sentinel], laidTests := true, laidLooks := .later }
def BinOwnUptoCardSaid : Prop := Claim7.holds Tryd.pinned (.plain (OpenSpec.upto binOwnSpec)) binOwnUptoCard

/-- THE SECOND FORM's CARD OF 'shalelaw3.BinSays'. -/
def binSaysUptoCard : Claim7 := { stood := { row := binSaysUptoRow, standIns := [], harness := (true, "4d1726ff4f40d902c266f756d7dc53ae0d92ffb06fcd150385c7b802b6d2eece"), looks := true }, kinds := [], alts := [], laidByText := true, laidKinds := [.sentinel, .sentinel, .sentinel], laidTests := true, laidLooks := .later }
def BinSaysUptoCardSaid : Prop := Claim7.holds Tryd.pinned (.plain (OpenSpec.upto binSaysSpec)) binSaysUptoCard
end Rows
end Go.Proofs.YtppolffghjeifaaDoor
