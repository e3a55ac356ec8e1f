/-
  DERIVED. GIVEN WITH THE SEED: THE CARDS: each row of YtcjddlcinaedaaaDoorRows.lean that lists a variable, with what it lists TIED to the program's text (the seventh form; the later family's looks); each row that meets fmt, with fmt's text TOLD by the authors' own Lean function (tested against real Go, not proved from fmt's source: count such statements apart). THE CARD IS WHAT COUNTS. Prove the row's statement (the work); the ties are given (YtcjddlcinaedaaaDoorTie.lean); close each card by the builder's one call (the guide's Derived/Test/ToyasCard.lean, 'card_holds'). Laid BY PROGRAM, IN A SANDBOX (cutbox-door.mjs). By AI agents, Wed Nov 11 2026. No macro, syntax, notation, axiom, sorry.
-/
import Derived.Test.YtcjddlcinaedaaaDoorRows
import GoSem.ClaimSeven
namespace Go.Proofs.YtcjddlcinaedaaaDoor
namespace Rows

/-- THE TIED CARD OF 'shalelaw19.BufferKeeps'. -/
def bufferKeepsCard : Claim7 := { stood := { row := bufferKeepsRow, standIns := [], harness := (true, "afc86d7d8a4d679bc9183e1661392bad2b71f3519ddac2ed669228401ac475a2"), looks := true }, kinds := [], alts := [], laidByText := true, laidKinds := [.sentinel, .sentinel, .sentinel, .sentinel], laidTests := true, laidLooks := .later }
def BufferKeepsCardSaid : Prop := Claim7.holds Tryd.pinned (.plain (OpenSpec.ofChange bufferKeepsSpec)) bufferKeepsCard

/-- THE TIED CARD OF 'shalelaw19.BufferOwn'. -/
def bufferOwnCard : Claim7 := { stood := { row := bufferOwnRow, standIns := [], harness := (true, "afc86d7d8a4d679bc9183e1661392bad2b71f3519ddac2ed669228401ac475a2"), looks := true }, kinds := [], alts := [], laidByText := true, laidKinds := [.sentinel, .sentinel, .sentinel, .sentinel], laidTests := true, laidLooks := .later }
def BufferOwnCardSaid : Prop := Claim7.holds Tryd.pinned (.plain (OpenSpec.ofChange bufferOwnSpec)) bufferOwnCard

/-- THE TIED CARD OF 'shalelaw19.BufferPlays'. -/
def bufferPlaysCard : Claim7 := { stood := { row := bufferPlaysRow, standIns := [], harness := (true, "afc86d7d8a4d679bc9183e1661392bad2b71f3519ddac2ed669228401ac475a2"), looks := true }, kinds := [], alts := [], laidByText := true, laidKinds := [.sentinel, .sentinel, .sentinel, .sentinel, .sentinel, .sentinel, .sentinel, .sentinel, .sentinel, .sentinel, .sentinel, .sentinel, .sentinel, .sentinel, .sentinel, .sentinel, .sentinel, .sentinel, .sentinel], laidTests := true, laidLooks := .later }
def BufferPlaysCardSaid : Prop := Claim7.holds Tryd.pinned (.plain (OpenSpec.ofChange bufferPlaysSpec)) bufferPlaysCard

/-- THE TIED CARD OF 'shalelaw5.MinimalGenerators'. -/
def minimalGeneratorsCard : Claim7 := { stood := { row := minimalGeneratorsRow, standIns := [], harness := (true, "afc86d7d8a4d679bc9183e1661392bad2b71f3519ddac2ed669228401ac475a2"), looks := true }, kinds := [], alts := [], laidByText := true, laidKinds := [.sentinel, .sentinel, .sentinel, .sentinel, .sentinel, .sentinel, .sentinel, .sentinel, .sentinel, .sentinel, .sentinel, .sentinel, .sentinel, .sentinel, .sentinel, .sentinel, .sentinel, .sentinel, .sentinel], laidTests := true, laidLooks := .later }
def MinimalGeneratorsCardSaid : Prop := Claim7.holds Tryd.pinned (.plain (OpenSpec.ofChange minimalGeneratorsSpec)) minimalGeneratorsCard

/-- THE TIED CARD OF 'shalelaw5.MinimalOf'. -/
def minimalOfCard : Claim7 := { stood := { row := minimalOfRow, standIns := [], harness := (true, "afc86d7d8a4d679bc9183e1661392bad2b71f3519ddac2ed669228401ac475a2"), looks := true }, kinds := [], alts := [], laidByText := true, laidKinds := [.sentinel, .sentinel, .sentinel, .sentinel], laidTests := true, laidLooks := .later }
def MinimalOfCardSaid : Prop := Claim7.holds Tryd.pinned (.plain (OpenSpec.ofChange minimalOfSpec)) minimalOfCard

/-- THE TIED CARD OF 'shalelaw5.MinimalCosets'. -/
def minimalCosetsCard : Claim7 := { stood := { row := minimalCosetsRow, standIns := [], harness := (true, "afc86d7d8a4d679bc9183e1661392bad2b71f3519ddac2ed669228401ac475a2"), looks := true }, kinds := [], alts := [], laidByText := true, laidKinds := [.sentinel, .sentinel, .sentinel, .sentinel], laidTests := true, laidLooks := .later }
def MinimalCosetsCardSaid : Prop := Claim7.holds Tryd.pinned (.plain (OpenSpec.ofChange minimalCosetsSpec)) minimalCosetsCard

/-- THE TIED CARD OF 'shalelaw5.MinimalZeros'. -/
def minimalZerosCard : Claim7 := { stood := { row := minimalZerosRow, standIns := [], harness := (true, "afc86d7d8a4d679bc9183e1661392bad2b71f3519ddac2ed669228401ac475a2"), looks := true }, kinds := [], alts := [], laidByText := true, laidKinds := [.sentinel, .sentinel, .sentinel, .sentinel, .sentinel], laidTests := true, laidLooks := .later }
def MinimalZerosCardSaid : Prop := Claim7.holds Tryd.pinned (.plain (OpenSpec.ofChange minimalZerosSpec)) minimalZerosCard

/-- THE TIED CARD OF 'shalelaw5.MinimalWhole'. -/
def minimalWholeCard : Claim7 := { stood := { row := minimalWholeRow, standIns := [], harness := (true, "afc86d7d8a4d679bc9183e1661392bad2b71f3519ddac2ed669228401ac475a2"), looks := true }, kinds := [], alts := [], laidByText := true, laidKinds := [.sentinel, .sentinel, .sentinel, .sentinel], laidTests := true, laidLooks := .later }
def MinimalWholeCardSaid : Prop := Claim7.holds Tryd.pinned (.plain (OpenSpec.ofChange minimalWholeSpec)) minimalWholeCard

/-- THE TIED CARD OF 'shalelaw5.MinimalDivides'. -/
def minimalDividesCard : Claim7 := { stood := { row := minimalDividesRow, standIns := [], harness := (true, "afc86d7d8a4d679bc9183e1661392bad2b71f3519ddac2ed669228401ac475a2"), looks := true }, kinds := [], alts := [], laidByText := true, laidKinds := [.sentinel, .sentinel, .sentinel, .sentinel, .sentinel], laidTests := true, laidLooks := .later }
def MinimalDividesCardSaid : Prop := Claim7.holds Tryd.pinned (.plain (OpenSpec.ofChange minimalDividesSpec)) minimalDividesCard

/-- THE TIED CARD OF 'shalelaw26.ModelPlays'. -/
def modelPlaysCard : Claim7 := { stood := { row := modelPlaysRow, standIns := [], harness := (true, "afc86d7d8a4d679bc9183e1661392bad2b71f3519ddac2ed669228401ac475a2"), looks := true }, kinds := [], alts := [], laidByText := true, laidKinds := [.sentinel, .sentinel, .sentinel], laidTests := true, laidLooks := .later }
def ModelPlaysCardSaid : Prop := Claim7.holds Tryd.pinned (.plain (OpenSpec.ofChange modelPlaysSpec)) modelPlaysCard

/-- THE TIED CARD OF 'shalelaw26.ModelForgets'. -/
def modelForgetsCard : Claim7 := { stood := { row := modelForgetsRow, standIns := [], harness := (true, "afc86d7d8a4d679bc9183e1661392bad2b71f3519ddac2ed669228401ac475a2"), looks := true }, kinds := [], alts := [], laidByText := true, laidKinds := [.sentinel, .sentinel, .sentinel], laidTests := true, laidLooks := .later }
def ModelForgetsCardSaid : Prop := Claim7.holds Tryd.pinned (.plain (OpenSpec.ofChange modelForgetsSpec)) modelForgetsCard

/-- THE TIED CARD OF 'shalelaw3.BinRing'. -/
def binRingCard : Claim7 := { stood := { row := binRingRow, standIns := [], harness := (true, "afc86d7d8a4d679bc9183e1661392bad2b71f3519ddac2ed669228401ac475a2"), looks := true }, kinds := [], alts := [], laidByText := true, laidKinds := [.sentinel, .sentinel, .sentinel], laidTests := true, laidLooks := .later }
def BinRingCardSaid : Prop := Claim7.holds Tryd.pinned (.plain (OpenSpec.ofChange binRingSpec)) binRingCard

/-- THE SECOND FORM's CARD OF 'shalelaw19.BufferKeeps'. -/
def bufferKeepsUptoCard : Claim7 := { stood := { row := bufferKeepsUptoRow, standIns := [], harness := (true, "afc86d7d8a4d679bc9183e1661392bad2b71f3519ddac2ed669228401ac475a2"), looks := true }, kinds := [], alts := [], laidByText := true, laidKinds := [.sentinel, .sentinel, .sentinel, .sentinel], laidTests := true, laidLooks := .later }
def BufferKeepsUptoCardSaid : Prop := Claim7.holds Tryd.pinned (.plain (OpenSpec.upto bufferKeepsSpec)) bufferKeepsUptoCard

/-- THE SECOND FORM's CARD OF 'shalelaw19.BufferOwn'. -/
def bufferOwnUptoCard : Claim7 := { stood := { row := bufferOwnUptoRow, standIns := [], harness := (true, "afc86d7d8a4d679bc9183e1661392bad2b71f3519ddac2ed669228401ac475a2"), looks := true }, kinds := [], alts := [], laidByText := true, laidKinds := [.sentinel, .sentinel, .sentinel, .sentinel], laidTests := true, laidLooks := .later }
def BufferOwnUptoCardSaid : Prop := Claim7.holds Tryd.pinned (.plain (OpenSpec.upto bufferOwnSpec)) bufferOwnUptoCard

/-- THE SECOND FORM's CARD OF 'shalelaw19.BufferPlays'. -/
def bufferPlaysUptoCard : Claim7 := { stood := { row := bufferPlaysUptoRow, standIns := [], harness := (true, "afc86d7d8a4d679bc9183e1661392bad2b71f3519ddac2ed669228401ac475a2"), looks := true }, kinds := [], alts := [], laidByText := true, laidKinds := [.sentinel, .sentinel, .sentinel, .sentinel, .sentinel, .sentinel, .sentinel, .sentinel, .sentinel, .sentinel, .sentinel, .sentinel, .sentinel, .sentinel, .sentinel, .sentinel, .sentinel, .sentinel, .sentinel], laidTests := true, laidLooks := .later }
def BufferPlaysUptoCardSaid : Prop := Claim7.holds Tryd.pinned (.plain (OpenSpec.upto bufferPlaysSpec)) bufferPlaysUptoCard

/-- THE SECOND FORM's CARD OF 'shalelaw5.MinimalGenerators'. -/
def minimalGeneratorsUptoCard : Claim7 := { stood := { row := minimalGeneratorsUptoRow, standIns := [], harness := (true, "afc86d7d8a4d679bc9183e1661392bad2b71f3519ddac2ed669228401ac475a2"), looks := true }, kinds := [], alts := [], laidByText := true, laidKinds := [.sentinel, .sentinel, .sentinel, .sentinel, .sentinel, .sentinel, .sentinel, .sentinel, .sentinel, .sentinel, .sentinel, .sentinel, .sentinel, .sentinel, .sentinel, .sentinel, .sentinel, .sentinel, .sentinel], laidTests := true, laidLooks := .later }
def MinimalGeneratorsUptoCardSaid : Prop := Claim7.holds Tryd.pinned (.plain (OpenSpec.upto minimalGeneratorsSpec)) minimalGeneratorsUptoCard

/-- THE SECOND FORM's CARD OF 'shalelaw5.MinimalOf'. -/
def minimalOfUptoCard : Claim7 := { stood := { row := minimalOfUptoRow, standIns := [], harness := (true, "afc86d7d8a4d679bc9183e1661392bad2b71f3519ddac2ed669228401ac475a2"), looks := true }, kinds := [], alts := [], laidByText := true, laidKinds := [.sentinel, .sentinel, .sentinel, .sentinel], laidTests := true, laidLooks := .later }
def MinimalOfUptoCardSaid : Prop := Claim7.holds Tryd.pinned (.plain (OpenSpec.upto minimalOfSpec)) minimalOfUptoCard

/-- THE SECOND FORM's CARD OF 'shalelaw5.MinimalCosets'. -/
def minimalCosetsUptoCard : Claim7 := { stood := { row := minimalCosetsUptoRow, standIns := [], harness := (true, "afc86d7d8a4d679bc9183e1661392bad2b71f3519ddac2ed669228401ac475a2"), looks := true }, kinds := [], alts := [], laidByText := true, laidKinds := [.sentinel, .sentinel, .sentinel, .sentinel], laidTests := true, laidLooks := .later }
def MinimalCosetsUptoCardSaid : Prop := Claim7.holds Tryd.pinned (.plain (OpenSpec.upto minimalCosetsSpec)) minimalCosetsUptoCard

/-- THE SECOND FORM's CARD OF 'shalelaw5.MinimalZeros'. -/
def minimalZerosUptoCard : Claim7 := { stood := { row := minimalZerosUptoRow, standIns := [], harness := (true, "afc86d7d8a4d679bc9183e1661392bad2b71f3519ddac2ed669228401ac475a2"), looks := true }, kinds := [], alts := [], laidByText := true, laidKinds := [.sentinel, .sentinel, .sentinel, .sentinel, .sentinel], laidTests := true, laidLooks := .later }
def MinimalZerosUptoCardSaid : Prop := Claim7.holds Tryd.pinned (.plain (OpenSpec.upto minimalZerosSpec)) minimalZerosUptoCard

/-- THE SECOND FORM's CARD OF 'shalelaw5.MinimalWhole'. -/
def minimalWholeUptoCard : Claim7 := { stood := { row := minimalWholeUptoRow, standIns := [], harness := (true, "afc86d7d8a4d679bc9183e1661392bad2b71f3519ddac2ed669228401ac475a2"), looks := true }, kinds := [], alts := [], laidByText := true, laidKinds := [.sentinel, .sentinel, .sentinel, .sentinel], laidTests := true, laidLooks := .later }
def MinimalWholeUptoCardSaid : Prop := Claim7.holds Tryd.pinned (.plain (OpenSpec.upto minimalWholeSpec)) minimalWholeUptoCard

/-- THE SECOND FORM's CARD OF 'shalelaw5.MinimalDivides'. -/
def minimalDividesUptoCard : Claim7 := { stood := { row := minimalDividesUptoRow, standIns := [], harness := (true, "afc86d7d8a4d679bc9183e1661392bad2b71f3519ddac2ed669228401ac475a2"), looks := true }, kinds := [], alts := [], laidByText := true, laidKinds := [.sentinel, .sentinel, .sentinel, .sentinel, .sentinel], laidTests := true, laidLooks := .later }
def MinimalDividesUptoCardSaid : Prop := Claim7.holds Tryd.pinned (.plain (OpenSpec.upto minimalDividesSpec)) minimalDividesUptoCard

/-- THE SECOND FORM's CARD OF 'shalelaw26.ModelPlays'. -/
def modelPlaysUptoCard : Claim7 := { stood := { row := modelPlaysUptoRow, standIns := [], harness := (true, "afc86d7d8a4d679bc9183e1661392bad2b71f3519ddac2ed669228401ac475a2"), looks := true }, kinds := [], alts := [], laidByText := true, laidKinds := [.sentinel, .sentinel, .sentinel], laidTests := true, laidLooks := .later }
def ModelPlaysUptoCardSaid : Prop := Claim7.holds Tryd.pinned (.plain (OpenSpec.upto modelPlaysSpec)) modelPlaysUptoCard

/-- THE SECOND FORM's CARD OF 'shalelaw26.ModelForgets'. -/
def modelForgetsUptoCard : Claim7 := { stood := { row := modelForgetsUptoRow, standIns := [], harness := (true, "afc86d7d8a4d679bc9183e1661392bad2b71f3519ddac2ed669228401ac475a2"), looks := true }, kinds := [], alts := [], laidByText := true, laidKinds := [.sentinel, .sentinel, .sentinel], laidTests := true, laidLooks := .later }
def ModelForgetsUptoCardSaid : Prop := Claim7.holds Tryd.pinned (.plain (OpenSpec.upto modelForgetsSpec)) modelForgetsUptoCard

/-- THE SECOND FORM's CARD OF 'shalelaw3.BinRing'. -/
def binRingUptoCard : Claim7 := { stood := { row := binRingUptoRow, standIns := [], harness := (true, "afc86d7d8a4d679bc9183e1661392bad2b71f3519ddac2ed669228401ac475a2"), looks := true }, kinds := [], alts := [], laidByText := true, laidKinds := [.sentinel, .sentinel, .sentinel], laidTests := true, laidLooks := .later }
def BinRingUptoCardSaid : Prop := Claim7.holds Tryd.pinned (.plain (OpenSpec.upto binRingSpec)) binRingUptoCard
end Rows
end Go.Proofs.YtcjddlcinaedaaaDoor
