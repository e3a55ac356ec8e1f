/-
  DERIVED. GIVEN WITH THE SEED: THE CARDS: each row of YtcdmmfpgeagimaaDoorRows.lean that lists a variable, with what it lists TIED to the program's text (the seventh form; the later family's looks); each row that meets fmt, with fmt's text TOLD by the authors' own Lean function (tested against real Go, not proved from fmt's source: count such statements apart). THE CARD IS WHAT COUNTS. Prove the row's statement (the work); the ties are given (YtcdmmfpgeagimaaDoorTie.lean); close each card by the builder's one call (the guide's Derived/Test/ToyasCard.lean, 'card_holds'). Laid BY PROGRAM, IN A SANDBOX (cutbox-door.mjs). By AI agents, Wed Nov 11 2026. No macro, syntax, notation, axiom, sorry.
-/
import Derived.Test.YtcdmmfpgeagimaaDoorRows
import GoSem.ClaimSeven
namespace Go.Proofs.YtcdmmfpgeagimaaDoor
namespace Rows

/-- THE TIED CARD OF 'shalelaw7.SyndromeSays'. -/
def syndromeSaysCard : Claim7 := { stood := { row := syndromeSaysRow, standIns := [], harness := (true, "0f3b19d2a55d9e432ff87f475713b72211a8f1b4776164e5329f0e90155040b0"), looks := true }, kinds := [], alts := [], laidByText := true, laidKinds := [.sentinel, .sentinel, .sentinel, .sentinel], laidTests := true, laidLooks := .later }
def SyndromeSaysCardSaid : Prop := Claim7.holds Tryd.pinned (.plain (OpenSpec.ofChange syndromeSaysSpec)) syndromeSaysCard

/-- THE TIED CARD OF 'shalelaw3.BinSays'. -/
def binSaysCard : Claim7 := { stood := { row := binSaysRow, standIns := [], harness := (true, "0f3b19d2a55d9e432ff87f475713b72211a8f1b4776164e5329f0e90155040b0"), looks := true }, kinds := [], alts := [], laidByText := true, laidKinds := [.sentinel, .sentinel, .sentinel], laidTests := true, laidLooks := .later }
def BinSaysCardSaid : Prop := Claim7.holds Tryd.pinned (.plain (OpenSpec.ofChange binSaysSpec)) binSaysCard

/-- THE TIED CARD OF 'shalelaw19.BufferKeeps'. -/
def bufferKeepsCard : Claim7 := { stood := { row := bufferKeepsRow, standIns := [], harness := (true, "0f3b19d2a55d9e432ff87f475713b72211a8f1b4776164e5329f0e90155040b0"), looks := true }, kinds := [], alts := [], laidByText := true, laidKinds := [.sentinel, .sentinel, .sentinel, .sentinel], laidTests := true, laidLooks := .later }
def BufferKeepsCardSaid : Prop := Claim7.holds Tryd.pinned (.plain (OpenSpec.ofChange bufferKeepsSpec)) bufferKeepsCard

/-- THE TIED CARD OF 'shalelaw19.BufferOwn'. -/
def bufferOwnCard : Claim7 := { stood := { row := bufferOwnRow, standIns := [], harness := (true, "0f3b19d2a55d9e432ff87f475713b72211a8f1b4776164e5329f0e90155040b0"), looks := true }, kinds := [], alts := [], laidByText := true, laidKinds := [.sentinel, .sentinel, .sentinel, .sentinel], laidTests := true, laidLooks := .later }
def BufferOwnCardSaid : Prop := Claim7.holds Tryd.pinned (.plain (OpenSpec.ofChange bufferOwnSpec)) bufferOwnCard

/-- THE TIED CARD OF 'shalelaw19.BufferPlays'. -/
def bufferPlaysCard : Claim7 := { stood := { row := bufferPlaysRow, standIns := [], harness := (true, "0f3b19d2a55d9e432ff87f475713b72211a8f1b4776164e5329f0e90155040b0"), looks := true }, kinds := [], alts := [], laidByText := true, laidKinds := [.sentinel, .sentinel, .sentinel, .sentinel, .sentinel, .sentinel, .sentinel, .sentinel, .sentinel, .sentinel, .sentinel, .sentinel, .sentinel, .sentinel, .sentinel, .sentinel, .sentinel, .sentinel, .sentinel], laidTests := true, laidLooks := .later }
def BufferPlaysCardSaid : Prop := Claim7.holds Tryd.pinned (.plain (OpenSpec.ofChange bufferPlaysSpec)) bufferPlaysCard

/-- THE TIED CARD OF 'shalelaw26.ModelPlays'. -/
def modelPlaysCard : Claim7 := { stood := { row := modelPlaysRow, standIns := [], harness := (true, "0f3b19d2a55d9e432ff87f475713b72211a8f1b4776164e5329f0e90155040b0"), looks := true }, kinds := [], alts := [], laidByText := true, laidKinds := [.sentinel, .sentinel, .sentinel], laidTests := true, laidLooks := .later }
def ModelPlaysCardSaid : Prop := Claim7.holds Tryd.pinned (.plain (OpenSpec.ofChange modelPlaysSpec)) modelPlaysCard

/-- THE TIED CARD OF 'shalelaw26.ModelForgets'. -/
def modelForgetsCard : Claim7 := { stood := { row := modelForgetsRow, standIns := [], harness := (true, "0f3b19d2a55d9e432ff87f475713b72211a8f1b4776164e5329f0e90155040b0"), looks := true }, kinds := [], alts := [], laidByText := true, laidKinds := [.sentinel, .sentinel, .sentinel], laidTests := true, laidLooks := .later }
def ModelForgetsCardSaid : Prop := Claim7.holds Tryd.pinned (.plain (OpenSpec.ofChange modelForgetsSpec)) modelForgetsCard

/-- THE SECOND FORM's CARD OF 'shalelaw7.SyndromeSays'. -/
def syndromeSaysUptoCard : Claim7 := { stood := { row := syndromeSaysUptoRow, standIns := [], harness := (true, "0f3b19d2a55d9e432ff87f475713b72211a8f1b4776164e5329f0e90155040b0"), looks := true }, kinds := [], alts := [], laidByText := true, laidKinds := [.sentinel, .sentinel, .sentinel, .sentinel], laidTests := true, laidLooks := .later }
def SyndromeSaysUptoCardSaid : Prop := Claim7.holds Tryd.pinned (.plain (OpenSpec.upto syndromeSaysSpec)) syndromeSaysUptoCard

/-- THE SECOND FORM's CARD OF 'shalelaw3.BinSays'. -/
def binSaysUptoCard : Claim7 := { stood := { row := binSaysUptoRow, standIns := [], harness := (true, "0f3b19d2a55d9e432ff87f475713b72211a8f1b4776164e5329f0e90155040b0"), looks := true }, kinds := [], alts := [], laidByText := true, laidKinds := [.sentinel, .sentinel, .sentinel], laidTests := true, laidLooks := .later }
def BinSaysUptoCardSaid : Prop := Claim7.holds Tryd.pinned (.plain (OpenSpec.upto binSaysSpec)) binSaysUptoCard

/-- THE SECOND FORM's CARD OF 'shalelaw19.BufferKeeps'. -/
def bufferKeepsUptoCard : Claim7 := { stood := { row := bufferKeepsUptoRow, standIns := [], harness := (true, "0f3b19d2a55d9e432ff87f475713b72211a8f1b4776164e5329f0e90155040b0"), looks := true }, kinds := [], alts := [], laidByText := true, laidKinds := [.sentinel, .sentinel, .sentinel, .sentinel], laidTests := true, laidLooks := .later }
def BufferKeepsUptoCardSaid : Prop := Claim7.holds Tryd.pinned (.plain (OpenSpec.upto bufferKeepsSpec)) bufferKeepsUptoCard

/-- THE SECOND FORM's CARD OF 'shalelaw19.BufferOwn'. -/
def bufferOwnUptoCard : Claim7 := { stood := { row := bufferOwnUptoRow, standIns := [], harness := (true, "0f3b19d2a55d9e432ff87f475713b72211a8f1b4776164e5329f0e90155040b0"), looks := true }, kinds := [], alts := [], laidByText := true, laidKinds := [.sentinel, .sentinel, .sentinel, .sentinel], laidTests := true, laidLooks := .later }
def BufferOwnUptoCardSaid : Prop := Claim7.holds Tryd.pinned (.plain (OpenSpec.upto bufferOwnSpec)) bufferOwnUptoCard

/-- THE SECOND FORM's CARD OF 'shalelaw19.BufferPlays'. -/
def bufferPlaysUptoCard : Claim7 := { stood := { row := bufferPlaysUptoRow, standIns := [], harness := (true, "0f3b19d2a55d9e432ff87f475713b72211a8f1b4776164e5329f0e90155040b0"), looks := true }, kinds := [], alts := [], laidByText := true, laidKinds := [.sentinel, .sentinel, .sentinel, .sentinel, .sentinel, .sentinel, .sentinel, .sentinel, .sentinel, .sentinel, .sentinel, .sentinel, .sentinel, .sentinel, .sentinel, .sentinel, .sentinel, .sentinel, .sentinel], laidTests := true, laidLooks := .later }
def BufferPlaysUptoCardSaid : Prop := Claim7.holds Tryd.pinned (.plain (OpenSpec.upto bufferPlaysSpec)) bufferPlaysUptoCard

/-- THE SECOND FORM's CARD OF 'shalelaw26.ModelPlays'. -/
def modelPlaysUptoCard : Claim7 := { stood := { row := modelPlaysUptoRow, standIns := [], harness := (true, "0f3b19d2a55d9e432ff87f475713b72211a8f1b4776164e5329f0e90155040b0"), looks := true }, kinds := [], alts := [], laidByText := true, laidKinds := [.sentinel, .sentinel, .sentinel], laidTests := true, laidLooks := .later }
def ModelPlaysUptoCardSaid : Prop := Claim7.holds Tryd.pinned (.plain (OpenSpec.upto modelPlaysSpec)) modelPlaysUptoCard

/-- THE SECOND FORM's CARD OF 'shalelaw26.ModelForgets'. -/
def modelForgetsUptoCard : Claim7 := { stood := { row := modelForgetsUptoRow, standIns := [], harness := (true, "0f3b19d2a55d9e432ff87f475713b72211a8f1b4776164e5329f0e90155040b0"), looks := true }, kinds := [], alts := [], laidByText := true, laidKinds := [.sentinel, .sentinel, .sentinel], laidTests := true, laidLooks := .later }
def ModelForgetsUptoCardSaid : Prop := Claim7.holds Tryd.pinned (.plain (OpenSpec.upto modelForgetsSpec)) modelForgetsUptoCard
end Rows
end Go.Proofs.YtcdmmfpgeagimaaDoor
