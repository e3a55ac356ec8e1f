/-
  DERIVED. GIVEN WITH THE SEED: THE CARDS: each row of YtompcfingkoldaaDoorRows.lean that lists a variable, with what it lists TIED to the program's text (the seventh form; the later family's looks); each row that meets fmt, with fmt's text TOLD by the authors' own Lean function (tested against real Go, not proved from fmt's source: count such statements apart). THE CARD IS WHAT COUNTS. Prove the row's statement (the work); the ties are given (YtompcfingkoldaaDoorTie.lean); close each card by the builder's one call (the guide's Derived/Test/ToyasCard.lean, 'card_holds'). Laid BY PROGRAM, IN A SANDBOX (cutbox-door.mjs). By AI agents, Wed Nov 11 2026. No macro, syntax, notation, axiom, sorry.
-/
import Derived.Test.YtompcfingkoldaaDoorRows
import GoSem.ClaimSeven
namespace Go.Proofs.YtompcfingkoldaaDoor
namespace Rows

/-- THE TIED CARD OF 'shalelaw6.EncodeApart'. -/
def encodeApartCard : Claim7 := { stood := { row := encodeApartRow, standIns := [], harness := (true, "773c05cb4666d15e75a3162496d17ef17433841fe05fd0ed98d891796b84c5cf"), looks := true }, kinds := [], alts := [], laidByText := true, laidKinds := [.sentinel, .sentinel, .sentinel, .sentinel], laidTests := true, laidLooks := .later }
def EncodeApartCardSaid : Prop := Claim7.holds Tryd.pinned (.plain (OpenSpec.ofChange encodeApartSpec)) encodeApartCard

/-- THE TIED CARD OF 'shalelaw6.EncodeMakes'. -/
def encodeMakesCard : Claim7 := { stood := { row := encodeMakesRow, standIns := [], harness := (true, "773c05cb4666d15e75a3162496d17ef17433841fe05fd0ed98d891796b84c5cf"), looks := true }, kinds := [], alts := [], laidByText := true, laidKinds := [.sentinel, .sentinel, .sentinel, .sentinel, .sentinel, .sentinel, .sentinel, .sentinel, .sentinel, .sentinel, .sentinel, .sentinel, .sentinel, .sentinel, .sentinel, .sentinel, .sentinel, .sentinel, .sentinel], laidTests := true, laidLooks := .later }
def EncodeMakesCardSaid : Prop := Claim7.holds Tryd.pinned (.plain (OpenSpec.ofChange encodeMakesSpec)) encodeMakesCard

/-- THE TIED CARD OF 'shalelaw6.EncodeLinear'. -/
def encodeLinearCard : Claim7 := { stood := { row := encodeLinearRow, standIns := [], harness := (true, "773c05cb4666d15e75a3162496d17ef17433841fe05fd0ed98d891796b84c5cf"), looks := true }, kinds := [], alts := [], laidByText := true, laidKinds := [.sentinel, .sentinel, .sentinel, .sentinel], laidTests := true, laidLooks := .later }
def EncodeLinearCardSaid : Prop := Claim7.holds Tryd.pinned (.plain (OpenSpec.ofChange encodeLinearSpec)) encodeLinearCard

/-- THE TIED CARD OF 'shalelaw7.SyndromeApart'. -/
def syndromeApartCard : Claim7 := { stood := { row := syndromeApartRow, standIns := [], harness := (true, "773c05cb4666d15e75a3162496d17ef17433841fe05fd0ed98d891796b84c5cf"), looks := true }, kinds := [], alts := [], laidByText := true, laidKinds := [.sentinel, .sentinel, .sentinel, .sentinel], laidTests := true, laidLooks := .later }
def SyndromeApartCardSaid : Prop := Claim7.holds Tryd.pinned (.plain (OpenSpec.ofChange syndromeApartSpec)) syndromeApartCard

/-- THE TIED CARD OF 'shalelaw6.EncodeSays'. -/
def encodeSaysCard : Claim7 := { stood := { row := encodeSaysRow, standIns := [], harness := (true, "773c05cb4666d15e75a3162496d17ef17433841fe05fd0ed98d891796b84c5cf"), looks := true }, kinds := [], alts := [], laidByText := true, laidKinds := [.sentinel, .sentinel, .sentinel, .sentinel], laidTests := true, laidLooks := .later }
def EncodeSaysCardSaid : Prop := Claim7.holds Tryd.pinned (.plain (OpenSpec.ofChange encodeSaysSpec)) encodeSaysCard

/-- THE TIED CARD OF 'shalelaw6.EncodeWide'. -/
def encodeWideCard : Claim7 := { stood := { row := encodeWideRow, standIns := [], harness := (true, "773c05cb4666d15e75a3162496d17ef17433841fe05fd0ed98d891796b84c5cf"), looks := true }, kinds := [], alts := [], laidByText := true, laidKinds := [.sentinel, .sentinel, .sentinel, .sentinel], laidTests := true, laidLooks := .later }
def EncodeWideCardSaid : Prop := Claim7.holds Tryd.pinned (.plain (OpenSpec.ofChange encodeWideSpec)) encodeWideCard

/-- THE TIED CARD OF 'shalelaw6.EncodeFlips'. -/
def encodeFlipsCard : Claim7 := { stood := { row := encodeFlipsRow, standIns := [], harness := (true, "773c05cb4666d15e75a3162496d17ef17433841fe05fd0ed98d891796b84c5cf"), looks := true }, kinds := [], alts := [], laidByText := true, laidKinds := [.sentinel, .sentinel, .sentinel, .sentinel], laidTests := true, laidLooks := .later }
def EncodeFlipsCardSaid : Prop := Claim7.holds Tryd.pinned (.plain (OpenSpec.ofChange encodeFlipsSpec)) encodeFlipsCard

/-- THE TIED CARD OF 'shalelaw7.SyndromeSays'. -/
def syndromeSaysCard : Claim7 := { stood := { row := syndromeSaysRow, standIns := [], harness := (true, "773c05cb4666d15e75a3162496d17ef17433841fe05fd0ed98d891796b84c5cf"), looks := true }, kinds := [], alts := [], laidByText := true, laidKinds := [.sentinel, .sentinel, .sentinel, .sentinel], laidTests := true, laidLooks := .later }
def SyndromeSaysCardSaid : Prop := Claim7.holds Tryd.pinned (.plain (OpenSpec.ofChange syndromeSaysSpec)) syndromeSaysCard

/-- THE TIED CARD OF 'shalelaw7.SyndromeAdds'. -/
def syndromeAddsCard : Claim7 := { stood := { row := syndromeAddsRow, standIns := [], harness := (true, "773c05cb4666d15e75a3162496d17ef17433841fe05fd0ed98d891796b84c5cf"), looks := true }, kinds := [], alts := [], laidByText := true, laidKinds := [.sentinel, .sentinel, .sentinel, .sentinel], laidTests := true, laidLooks := .later }
def SyndromeAddsCardSaid : Prop := Claim7.holds Tryd.pinned (.plain (OpenSpec.ofChange syndromeAddsSpec)) syndromeAddsCard

/-- THE TIED CARD OF 'shalelaw6.EncodeDivides'. -/
def encodeDividesCard : Claim7 := { stood := { row := encodeDividesRow, standIns := [], harness := (true, "773c05cb4666d15e75a3162496d17ef17433841fe05fd0ed98d891796b84c5cf"), looks := true }, kinds := [], alts := [], laidByText := true, laidKinds := [.sentinel, .sentinel, .sentinel, .sentinel, .sentinel], laidTests := true, laidLooks := .later }
def EncodeDividesCardSaid : Prop := Claim7.holds Tryd.pinned (.plain (OpenSpec.ofChange encodeDividesSpec)) encodeDividesCard

/-- THE TIED CARD OF 'shalelaw7.SyndromeTells'. -/
def syndromeTellsCard : Claim7 := { stood := { row := syndromeTellsRow, standIns := [], harness := (true, "773c05cb4666d15e75a3162496d17ef17433841fe05fd0ed98d891796b84c5cf"), looks := true }, kinds := [], alts := [], laidByText := true, laidKinds := [.sentinel, .sentinel, .sentinel, .sentinel], laidTests := true, laidLooks := .later }
def SyndromeTellsCardSaid : Prop := Claim7.holds Tryd.pinned (.plain (OpenSpec.ofChange syndromeTellsSpec)) syndromeTellsCard

/-- THE TIED CARD OF 'shalelaw5.MinimalWhole'. -/
def minimalWholeCard : Claim7 := { stood := { row := minimalWholeRow, standIns := [], harness := (true, "773c05cb4666d15e75a3162496d17ef17433841fe05fd0ed98d891796b84c5cf"), looks := true }, kinds := [], alts := [], laidByText := true, laidKinds := [.sentinel, .sentinel, .sentinel, .sentinel], laidTests := true, laidLooks := .later }
def MinimalWholeCardSaid : Prop := Claim7.holds Tryd.pinned (.plain (OpenSpec.ofChange minimalWholeSpec)) minimalWholeCard

/-- THE TIED CARD OF 'shalelaw3.BinSays'. -/
def binSaysCard : Claim7 := { stood := { row := binSaysRow, standIns := [], harness := (true, "773c05cb4666d15e75a3162496d17ef17433841fe05fd0ed98d891796b84c5cf"), looks := true }, kinds := [], alts := [], laidByText := true, laidKinds := [.sentinel, .sentinel, .sentinel], laidTests := true, laidLooks := .later }
def BinSaysCardSaid : Prop := Claim7.holds Tryd.pinned (.plain (OpenSpec.ofChange binSaysSpec)) binSaysCard

/-- THE TIED CARD OF 'shalelaw19.BufferKeeps'. -/
def bufferKeepsCard : Claim7 := { stood := { row := bufferKeepsRow, standIns := [], harness := (true, "773c05cb4666d15e75a3162496d17ef17433841fe05fd0ed98d891796b84c5cf"), looks := true }, kinds := [], alts := [], laidByText := true, laidKinds := [.sentinel, .sentinel, .sentinel, .sentinel], laidTests := true, laidLooks := .later }
def BufferKeepsCardSaid : Prop := Claim7.holds Tryd.pinned (.plain (OpenSpec.ofChange bufferKeepsSpec)) bufferKeepsCard

/-- THE TIED CARD OF 'shalelaw19.BufferOwn'. -/
def bufferOwnCard : Claim7 := { stood := { row := bufferOwnRow, standIns := [], harness := (true, "773c05cb4666d15e75a3162496d17ef17433841fe05fd0ed98d891796b84c5cf"), looks := true }, kinds := [], alts := [], laidByText := true, laidKinds := [.sentinel, .sentinel, .sentinel, .sentinel], laidTests := true, laidLooks := .later }
def BufferOwnCardSaid : Prop := Claim7.holds Tryd.pinned (.plain (OpenSpec.ofChange bufferOwnSpec)) bufferOwnCard

/-- THE TIED CARD OF 'shalelaw19.BufferPlays'. -/
def bufferPlaysCard : Claim7 := { stood := { row := bufferPlaysRow, standIns := [], harness := (true, "773c05cb4666d15e75a3162496d17ef17433841fe05fd0ed98d891796b84c5cf"), looks := true }, kinds := [], alts := [], laidByText := true, laidKinds := [.sentinel, .sentinel, .sentinel, .sentinel, .sentinel, .sentinel, .sentinel, .sentinel, .sentinel, .sentinel, .sentinel, .sentinel, .sentinel, .sentinel, .sentinel, .sentinel, .sentinel, .sentinel, .sentinel], laidTests := true, laidLooks := .later }
def BufferPlaysCardSaid : Prop := Claim7.holds Tryd.pinned (.plain (OpenSpec.ofChange bufferPlaysSpec)) bufferPlaysCard

/-- THE TIED CARD OF 'shalelaw26.ModelPlays'. -/
def modelPlaysCard : Claim7 := { stood := { row := modelPlaysRow, standIns := [], harness := (true, "773c05cb4666d15e75a3162496d17ef17433841fe05fd0ed98d891796b84c5cf"), looks := true }, kinds := [], alts := [], laidByText := true, laidKinds := [.sentinel, .sentinel, .sentinel], laidTests := true, laidLooks := .later }
def ModelPlaysCardSaid : Prop := Claim7.holds Tryd.pinned (.plain (OpenSpec.ofChange modelPlaysSpec)) modelPlaysCard

/-- THE TIED CARD OF 'shalelaw26.ModelForgets'. -/
def modelForgetsCard : Claim7 := { stood := { row := modelForgetsRow, standIns := [], harness := (true, "773c05cb4666d15e75a3162496d17ef17433841fe05fd0ed98d891796b84c5cf"), looks := true }, kinds := [], alts := [], laidByText := true, laidKinds := [.sentinel, .sentinel, .sentinel], laidTests := true, laidLooks := .later }
def ModelForgetsCardSaid : Prop := Claim7.holds Tryd.pinned (.plain (OpenSpec.ofChange modelForgetsSpec)) modelForgetsCard

/-- THE SECOND FORM's CARD OF 'shalelaw6.EncodeApart'. -/
def encodeApartUptoCard : Claim7 := { stood := { row := encodeApartUptoRow, standIns := [], harness := (true, "773c05cb4666d15e75a3162496d17ef17433841fe05fd0ed98d891796b84c5cf"), looks := true }, kinds := [], alts := [], laidByText := true, laidKinds := [.sentinel, .sentinel, .sentinel, .sentinel], laidTests := true, laidLooks := .later }
def EncodeApartUptoCardSaid : Prop := Claim7.holds Tryd.pinned (.plain (OpenSpec.upto encodeApartSpec)) encodeApartUptoCard

/-- THE SECOND FORM's CARD OF 'shalelaw6.EncodeMakes'. -/
def encodeMakesUptoCard : Claim7 := { stood := { row := encodeMakesUptoRow, standIns := [], harness := (true, "773c05cb4666d15e75a3162496d17ef17433841fe05fd0ed98d891796b84c5cf"), looks := true }, kinds := [], alts := [], laidByText := true, laidKinds := [.sentinel, .sentinel, .sentinel, .sentinel, .sentinel, .sentinel, .sentinel, .sentinel, .sentinel, .sentinel, .sentinel, .sentinel, .sentinel, .sentinel, .sentinel, .sentinel, .sentinel, .sentinel, .sentinel], laidTests := true, laidLooks := .later }
def EncodeMakesUptoCardSaid : Prop := Claim7.holds Tryd.pinned (.plain (OpenSpec.upto encodeMakesSpec)) encodeMakesUptoCard

/-- THE SECOND FORM's CARD OF 'shalelaw6.EncodeLinear'. -/
def encodeLinearUptoCard : Claim7 := { stood := { row := encodeLinearUptoRow, standIns := [], harness := (true, "773c05cb4666d15e75a3162496d17ef17433841fe05fd0ed98d891796b84c5cf"), looks := true }, kinds := [], alts := [], laidByText := true, laidKinds := [.sentinel, .sentinel, .sentinel, .sentinel], laidTests := true, laidLooks := .later }
def EncodeLinearUptoCardSaid : Prop := Claim7.holds Tryd.pinned (.plain (OpenSpec.upto encodeLinearSpec)) encodeLinearUptoCard

/-- THE SECOND FORM's CARD OF 'shalelaw7.SyndromeApart'. -/
def syndromeApartUptoCard : Claim7 := { stood := { row := syndromeApartUptoRow, standIns := [], harness := (true, "773c05cb4666d15e75a3162496d17ef17433841fe05fd0ed98d891796b84c5cf"), looks := true }, kinds := [], alts := [], laidByText := true, laidKinds := [.sentinel, .sentinel, .sentinel, .sentinel], laidTests := true, laidLooks := .later }
def SyndromeApartUptoCardSaid : Prop := Claim7.holds Tryd.pinned (.plain (OpenSpec.upto syndromeApartSpec)) syndromeApartUptoCard

/-- THE SECOND FORM's CARD OF 'shalelaw6.EncodeSays'. -/
def encodeSaysUptoCard : Claim7 := { stood := { row := encodeSaysUptoRow, standIns := [], harness := (true, "773c05cb4666d15e75a3162496d17ef17433841fe05fd0ed98d891796b84c5cf"), looks := true }, kinds := [], alts := [], laidByText := true, laidKinds := [.sentinel, .sentinel, .sentinel, .sentinel], laidTests := true, laidLooks := .later }
def EncodeSaysUptoCardSaid : Prop := Claim7.holds Tryd.pinned (.plain (OpenSpec.upto encodeSaysSpec)) encodeSaysUptoCard

/-- THE SECOND FORM's CARD OF 'shalelaw6.EncodeWide'. -/
def encodeWideUptoCard : Claim7 := { stood := { row := encodeWideUptoRow, standIns := [], harness := (true, "773c05cb4666d15e75a3162496d17ef17433841fe05fd0ed98d891796b84c5cf"), looks := true }, kinds := [], alts := [], laidByText := true, laidKinds := [.sentinel, .sentinel, .sentinel, .sentinel], laidTests := true, laidLooks := .later }
def EncodeWideUptoCardSaid : Prop := Claim7.holds Tryd.pinned (.plain (OpenSpec.upto encodeWideSpec)) encodeWideUptoCard

/-- THE SECOND FORM's CARD OF 'shalelaw6.EncodeFlips'. -/
def encodeFlipsUptoCard : Claim7 := { stood := { row := encodeFlipsUptoRow, standIns := [], harness := (true, "773c05cb4666d15e75a3162496d17ef17433841fe05fd0ed98d891796b84c5cf"), looks := true }, kinds := [], alts := [], laidByText := true, laidKinds := [.sentinel, .sentinel, .sentinel, .sentinel], laidTests := true, laidLooks := .later }
def EncodeFlipsUptoCardSaid : Prop := Claim7.holds Tryd.pinned (.plain (OpenSpec.upto encodeFlipsSpec)) encodeFlipsUptoCard

/-- THE SECOND FORM's CARD OF 'shalelaw7.SyndromeSays'. -/
def syndromeSaysUptoCard : Claim7 := { stood := { row := syndromeSaysUptoRow, standIns := [], harness := (true, "773c05cb4666d15e75a3162496d17ef17433841fe05fd0ed98d891796b84c5cf"), looks := true }, kinds := [], alts := [], laidByText := true, laidKinds := [.sentinel, .sentinel, .sentinel, .sentinel], laidTests := true, laidLooks := .later }
def SyndromeSaysUptoCardSaid : Prop := Claim7.holds Tryd.pinned (.plain (OpenSpec.upto syndromeSaysSpec)) syndromeSaysUptoCard

/-- THE SECOND FORM's CARD OF 'shalelaw7.SyndromeAdds'. -/
def syndromeAddsUptoCard : Claim7 := { stood := { row := syndromeAddsUptoRow, standIns := [], harness := (true, "773c05cb4666d15e75a3162496d17ef17433841fe05fd0ed98d891796b84c5cf"), looks := true }, kinds := [], alts := [], laidByText := true, laidKinds := [.sentinel, .sentinel, .sentinel, .sentinel], laidTests := true, laidLooks := .later }
def SyndromeAddsUptoCardSaid : Prop := Claim7.holds Tryd.pinned (.plain (OpenSpec.upto syndromeAddsSpec)) syndromeAddsUptoCard

/-- THE SECOND FORM's CARD OF 'shalelaw6.EncodeDivides'. -/
def encodeDividesUptoCard : Claim7 := { stood := { row := encodeDividesUptoRow, standIns := [], harness := (true, "773c05cb4666d15e75a3162496d17ef17433841fe05fd0ed98d891796b84c5cf"), looks := true }, kinds := [], alts := [], laidByText := true, laidKinds := [.sentinel, .sentinel, .sentinel, .sentinel, .sentinel], laidTests := true, laidLooks := .later }
def EncodeDividesUptoCardSaid : Prop := Claim7.holds Tryd.pinned (.plain (OpenSpec.upto encodeDividesSpec)) encodeDividesUptoCard

/-- THE SECOND FORM's CARD OF 'shalelaw7.SyndromeTells'. -/
def syndromeTellsUptoCard : Claim7 := { stood := { row := syndromeTellsUptoRow, standIns := [], harness := (true, "773c05cb4666d15e75a3162496d17ef17433841fe05fd0ed98d891796b84c5cf"), looks := true }, kinds := [], alts := [], laidByText := true, laidKinds := [.sentinel, .sentinel, .sentinel, .sentinel], laidTests := true, laidLooks := .later }
def SyndromeTellsUptoCardSaid : Prop := Claim7.holds Tryd.pinned (.plain (OpenSpec.upto syndromeTellsSpec)) syndromeTellsUptoCard

/-- THE SECOND FORM's CARD OF 'shalelaw5.MinimalWhole'. -/
def minimalWholeUptoCard : Claim7 := { stood := { row := minimalWholeUptoRow, standIns := [], harness := (true, "773c05cb4666d15e75a3162496d17ef17433841fe05fd0ed98d891796b84c5cf"), looks := true }, kinds := [], alts := [], laidByText := true, laidKinds := [.sentinel, .sentinel, .sentinel, .sentinel], laidTests := true, laidLooks := .later }
def MinimalWholeUptoCardSaid : Prop := Claim7.holds Tryd.pinned (.plain (OpenSpec.upto minimalWholeSpec)) minimalWholeUptoCard

/-- THE SECOND FORM's CARD OF 'shalelaw3.BinSays'. -/
def binSaysUptoCard : Claim7 := { stood := { row := binSaysUptoRow, standIns := [], harness := (true, "773c05cb4666d15e75a3162496d17ef17433841fe05fd0ed98d891796b84c5cf"), looks := true }, kinds := [], alts := [], laidByText := true, laidKinds := [.sentinel, .sentinel, .sentinel], laidTests := true, laidLooks := .later }
def BinSaysUptoCardSaid : Prop := Claim7.holds Tryd.pinned (.plain (OpenSpec.upto binSaysSpec)) binSaysUptoCard

/-- THE SECOND FORM's CARD OF 'shalelaw19.BufferKeeps'. -/
def bufferKeepsUptoCard : Claim7 := { stood := { row := bufferKeepsUptoRow, standIns := [], harness := (true, "773c05cb4666d15e75a3162496d17ef17433841fe05fd0ed98d891796b84c5cf"), looks := true }, kinds := [], alts := [], laidByText := true, laidKinds := [.sentinel, .sentinel, .sentinel, .sentinel], laidTests := true, laidLooks := .later }
def BufferKeepsUptoCardSaid : Prop := Claim7.holds Tryd.pinned (.plain (OpenSpec.upto bufferKeepsSpec)) bufferKeepsUptoCard

/-- THE SECOND FORM's CARD OF 'shalelaw19.BufferOwn'. -/
def bufferOwnUptoCard : Claim7 := { stood := { row := bufferOwnUptoRow, standIns := [], harness := (true, "773c05cb4666d15e75a3162496d17ef17433841fe05fd0ed98d891796b84c5cf"), looks := true }, kinds := [], alts := [], laidByText := true, laidKinds := [.sentinel, .sentinel, .sentinel, .sentinel], laidTests := true, laidLooks := .later }
def BufferOwnUptoCardSaid : Prop := Claim7.holds Tryd.pinned (.plain (OpenSpec.upto bufferOwnSpec)) bufferOwnUptoCard

/-- THE SECOND FORM's CARD OF 'shalelaw19.BufferPlays'. -/
def bufferPlaysUptoCard : Claim7 := { stood := { row := bufferPlaysUptoRow, standIns := [], harness := (true, "773c05cb4666d15e75a3162496d17ef17433841fe05fd0ed98d891796b84c5cf"), looks := true }, kinds := [], alts := [], laidByText := true, laidKinds := [.sentinel, .sentinel, .sentinel, .sentinel, .sentinel, .sentinel, .sentinel, .sentinel, .sentinel, .sentinel, .sentinel, .sentinel, .sentinel, .sentinel, .sentinel, .sentinel, .sentinel, .sentinel, .sentinel], laidTests := true, laidLooks := .later }
def BufferPlaysUptoCardSaid : Prop := Claim7.holds Tryd.pinned (.plain (OpenSpec.upto bufferPlaysSpec)) bufferPlaysUptoCard

/-- THE SECOND FORM's CARD OF 'shalelaw26.ModelPlays'. -/
def modelPlaysUptoCard : Claim7 := { stood := { row := modelPlaysUptoRow, standIns := [], harness := (true, "773c05cb4666d15e75a3162496d17ef17433841fe05fd0ed98d891796b84c5cf"), looks := true }, kinds := [], alts := [], laidByText := true, laidKinds := [.sentinel, .sentinel, .sentinel], laidTests := true, laidLooks := .later }
def ModelPlaysUptoCardSaid : Prop := Claim7.holds Tryd.pinned (.plain (OpenSpec.upto modelPlaysSpec)) modelPlaysUptoCard

/-- THE SECOND FORM's CARD OF 'shalelaw26.ModelForgets'. -/
def modelForgetsUptoCard : Claim7 := { stood := { row := modelForgetsUptoRow, standIns := [], harness := (true, "773c05cb4666d15e75a3162496d17ef17433841fe05fd0ed98d891796b84c5cf"), looks := true }, kinds := [], alts := [], laidByText := true, laidKinds := [.sentinel, .sentinel, .sentinel], laidTests := true, laidLooks := .later }
def ModelForgetsUptoCardSaid : Prop := Claim7.holds Tryd.pinned (.plain (OpenSpec.upto modelForgetsSpec)) modelForgetsUptoCard
end Rows
end Go.Proofs.YtompcfingkoldaaDoor
