/-
  DERIVED. GIVEN WITH THE SEED: THE CARDS: each row of YtfhfckoemgkdlaaDoorRows.lean that lists a variable, with what it lists TIED to the program's text (the seventh form; the later family's looks); each row that meets fmt, with fmt's text TOLD by the authors' own Lean function (tested against real Go, not proved from fmt's source: count such statements apart). THE CARD IS WHAT COUNTS. Prove the row's statement (the work); the ties are given (YtfhfckoemgkdlaaDoorTie.lean); close each card by the builder's one call (the guide's Derived/Test/ToyasCard.lean, 'card_holds'). Laid BY PROGRAM, IN A SANDBOX (cutbox-door.mjs). By AI agents, Wed Nov 11 2026. No macro, syntax, notation, axiom, sorry.
-/
import Derived.Test.YtfhfckoemgkdlaaDoorRows
import GoSem.ClaimSeven
namespace Go.Proofs.YtfhfckoemgkdlaaDoor
namespace Rows

/-- THE TIED CARD OF 'shalelaw9.SearchFew'. -/
def searchFewCard : Claim7 := { stood := { row := searchFewRow, standIns := [], harness := (true, "10953f4d4e9303d1377bafb5501ebeee7aaf23a874402537a97dbb20c3bda10b"), looks := true }, kinds := [], alts := [], laidByText := true, laidKinds := [.sentinel], laidTests := true, laidLooks := .later }
def SearchFewCardSaid : Prop := Claim7.holds Tryd.pinned (.plain (OpenSpec.ofChange searchFewSpec)) searchFewCard

/-- THE TIED CARD OF 'shalelaw9.SearchTurns'. -/
def searchTurnsCard : Claim7 := { stood := { row := searchTurnsRow, standIns := [], harness := (true, "10953f4d4e9303d1377bafb5501ebeee7aaf23a874402537a97dbb20c3bda10b"), looks := true }, kinds := [], alts := [], laidByText := true, laidKinds := [.sentinel], laidTests := true, laidLooks := .later }
def SearchTurnsCardSaid : Prop := Claim7.holds Tryd.pinned (.plain (OpenSpec.ofChange searchTurnsSpec)) searchTurnsCard

/-- THE TIED CARD OF 'shalelaw9.SearchSays'. -/
def searchSaysCard : Claim7 := { stood := { row := searchSaysRow, standIns := [], harness := (true, "10953f4d4e9303d1377bafb5501ebeee7aaf23a874402537a97dbb20c3bda10b"), looks := true }, kinds := [], alts := [], laidByText := true, laidKinds := [.sentinel], laidTests := true, laidLooks := .later }
def SearchSaysCardSaid : Prop := Claim7.holds Tryd.pinned (.plain (OpenSpec.ofChange searchSaysSpec)) searchSaysCard

/-- THE TIED CARD OF 'shalelaw9.SearchFinds'. -/
def searchFindsCard : Claim7 := { stood := { row := searchFindsRow, standIns := [], harness := (true, "10953f4d4e9303d1377bafb5501ebeee7aaf23a874402537a97dbb20c3bda10b"), looks := true }, kinds := [], alts := [], laidByText := true, laidKinds := [.sentinel, .sentinel], laidTests := true, laidLooks := .later }
def SearchFindsCardSaid : Prop := Claim7.holds Tryd.pinned (.plain (OpenSpec.ofChange searchFindsSpec)) searchFindsCard

/-- THE TIED CARD OF 'shalelaw8.LocateSquares'. -/
def locateSquaresCard : Claim7 := { stood := { row := locateSquaresRow, standIns := [], harness := (true, "10953f4d4e9303d1377bafb5501ebeee7aaf23a874402537a97dbb20c3bda10b"), looks := true }, kinds := [], alts := [], laidByText := true, laidKinds := [.sentinel, .sentinel, .sentinel], laidTests := true, laidLooks := .later }
def LocateSquaresCardSaid : Prop := Claim7.holds Tryd.pinned (.plain (OpenSpec.ofChange locateSquaresSpec)) locateSquaresCard

/-- THE TIED CARD OF 'shalelaw8.LocateGrows'. -/
def locateGrowsCard : Claim7 := { stood := { row := locateGrowsRow, standIns := [], harness := (true, "10953f4d4e9303d1377bafb5501ebeee7aaf23a874402537a97dbb20c3bda10b"), looks := true }, kinds := [], alts := [], laidByText := true, laidKinds := [.sentinel, .sentinel, .sentinel], laidTests := true, laidLooks := .later }
def LocateGrowsCardSaid : Prop := Claim7.holds Tryd.pinned (.plain (OpenSpec.ofChange locateGrowsSpec)) locateGrowsCard

/-- THE TIED CARD OF 'shalelaw8.LocateScales'. -/
def locateScalesCard : Claim7 := { stood := { row := locateScalesRow, standIns := [], harness := (true, "10953f4d4e9303d1377bafb5501ebeee7aaf23a874402537a97dbb20c3bda10b"), looks := true }, kinds := [], alts := [], laidByText := true, laidKinds := [.sentinel, .sentinel, .sentinel], laidTests := true, laidLooks := .later }
def LocateScalesCardSaid : Prop := Claim7.holds Tryd.pinned (.plain (OpenSpec.ofChange locateScalesSpec)) locateScalesCard

/-- THE TIED CARD OF 'shalelaw4.PolyLong'. -/
def polyLongCard : Claim7 := { stood := { row := polyLongRow, standIns := [], harness := (true, "10953f4d4e9303d1377bafb5501ebeee7aaf23a874402537a97dbb20c3bda10b"), looks := true }, kinds := [], alts := [], laidByText := true, laidKinds := [.sentinel, .sentinel, .sentinel], laidTests := true, laidLooks := .later }
def PolyLongCardSaid : Prop := Claim7.holds Tryd.pinned (.plain (OpenSpec.ofChange polyLongSpec)) polyLongCard

/-- THE TIED CARD OF 'shalelaw8.LocateMakes'. -/
def locateMakesCard : Claim7 := { stood := { row := locateMakesRow, standIns := [], harness := (true, "10953f4d4e9303d1377bafb5501ebeee7aaf23a874402537a97dbb20c3bda10b"), looks := true }, kinds := [], alts := [], laidByText := true, laidKinds := [.sentinel, .sentinel, .sentinel], laidTests := true, laidLooks := .later }
def LocateMakesCardSaid : Prop := Claim7.holds Tryd.pinned (.plain (OpenSpec.ofChange locateMakesSpec)) locateMakesCard

/-- THE TIED CARD OF 'shalelaw8.LocateFinds'. -/
def locateFindsCard : Claim7 := { stood := { row := locateFindsRow, standIns := [], harness := (true, "10953f4d4e9303d1377bafb5501ebeee7aaf23a874402537a97dbb20c3bda10b"), looks := true }, kinds := [], alts := [], laidByText := true, laidKinds := [.sentinel, .sentinel, .sentinel], laidTests := true, laidLooks := .later }
def LocateFindsCardSaid : Prop := Claim7.holds Tryd.pinned (.plain (OpenSpec.ofChange locateFindsSpec)) locateFindsCard

/-- THE TIED CARD OF 'shalelaw4.PolyGcds'. -/
def polyGcdsCard : Claim7 := { stood := { row := polyGcdsRow, standIns := [], harness := (true, "10953f4d4e9303d1377bafb5501ebeee7aaf23a874402537a97dbb20c3bda10b"), looks := true }, kinds := [], alts := [], laidByText := true, laidKinds := [.sentinel, .sentinel, .sentinel], laidTests := true, laidLooks := .later }
def PolyGcdsCardSaid : Prop := Claim7.holds Tryd.pinned (.plain (OpenSpec.ofChange polyGcdsSpec)) polyGcdsCard

/-- THE TIED CARD OF 'shalelaw8.LocateSays'. -/
def locateSaysCard : Claim7 := { stood := { row := locateSaysRow, standIns := [], harness := (true, "10953f4d4e9303d1377bafb5501ebeee7aaf23a874402537a97dbb20c3bda10b"), looks := true }, kinds := [], alts := [], laidByText := true, laidKinds := [.sentinel, .sentinel, .sentinel], laidTests := true, laidLooks := .later }
def LocateSaysCardSaid : Prop := Claim7.holds Tryd.pinned (.plain (OpenSpec.ofChange locateSaysSpec)) locateSaysCard

/-- THE TIED CARD OF 'shalelaw4.PolyRoots'. -/
def polyRootsCard : Claim7 := { stood := { row := polyRootsRow, standIns := [], harness := (true, "10953f4d4e9303d1377bafb5501ebeee7aaf23a874402537a97dbb20c3bda10b"), looks := true }, kinds := [], alts := [], laidByText := true, laidKinds := [.sentinel, .sentinel, .sentinel], laidTests := true, laidLooks := .later }
def PolyRootsCardSaid : Prop := Claim7.holds Tryd.pinned (.plain (OpenSpec.ofChange polyRootsSpec)) polyRootsCard

/-- THE TIED CARD OF 'shalelaw4.PolyOwn'. -/
def polyOwnCard : Claim7 := { stood := { row := polyOwnRow, standIns := [], harness := (true, "10953f4d4e9303d1377bafb5501ebeee7aaf23a874402537a97dbb20c3bda10b"), looks := true }, kinds := [], alts := [], laidByText := true, laidKinds := [.sentinel, .sentinel, .sentinel], laidTests := true, laidLooks := .later }
def PolyOwnCardSaid : Prop := Claim7.holds Tryd.pinned (.plain (OpenSpec.ofChange polyOwnSpec)) polyOwnCard

/-- THE TIED CARD OF 'shalelaw4.PolySays'. -/
def polySaysCard : Claim7 := { stood := { row := polySaysRow, standIns := [], harness := (true, "10953f4d4e9303d1377bafb5501ebeee7aaf23a874402537a97dbb20c3bda10b"), looks := true }, kinds := [], alts := [], laidByText := true, laidKinds := [.sentinel, .sentinel, .sentinel], laidTests := true, laidLooks := .later }
def PolySaysCardSaid : Prop := Claim7.holds Tryd.pinned (.plain (OpenSpec.ofChange polySaysSpec)) polySaysCard

/-- THE TIED CARD OF 'shalelaw4.PolyRing'. -/
def polyRingCard : Claim7 := { stood := { row := polyRingRow, standIns := [], harness := (true, "10953f4d4e9303d1377bafb5501ebeee7aaf23a874402537a97dbb20c3bda10b"), looks := true }, kinds := [], alts := [], laidByText := true, laidKinds := [.sentinel, .sentinel, .sentinel], laidTests := true, laidLooks := .later }
def PolyRingCardSaid : Prop := Claim7.holds Tryd.pinned (.plain (OpenSpec.ofChange polyRingSpec)) polyRingCard

/-- THE SECOND FORM's CARD OF 'shalelaw9.SearchFew'. -/
def searchFewUptoCard : Claim7 := { stood := { row := searchFewUptoRow, standIns := [], harness := (true, "10953f4d4e9303d1377bafb5501ebeee7aaf23a874402537a97dbb20c3bda10b"), looks := true }, kinds := [], alts := [], laidByText := true, laidKinds := [.sentinel], laidTests := true, laidLooks := .later }
def SearchFewUptoCardSaid : Prop := Claim7.holds Tryd.pinned (.plain (OpenSpec.upto searchFewSpec)) searchFewUptoCard

/-- THE SECOND FORM's CARD OF 'shalelaw9.SearchTurns'. -/
def searchTurnsUptoCard : Claim7 := { stood := { row := searchTurnsUptoRow, standIns := [], harness := (true, "10953f4d4e9303d1377bafb5501ebeee7aaf23a874402537a97dbb20c3bda10b"), looks := true }, kinds := [], alts := [], laidByText := true, laidKinds := [.sentinel], laidTests := true, laidLooks := .later }
def SearchTurnsUptoCardSaid : Prop := Claim7.holds Tryd.pinned (.plain (OpenSpec.upto searchTurnsSpec)) searchTurnsUptoCard

/-- THE SECOND FORM's CARD OF 'shalelaw9.SearchSays'. -/
def searchSaysUptoCard : Claim7 := { stood := { row := searchSaysUptoRow, standIns := [], harness := (true, "10953f4d4e9303d1377bafb5501ebeee7aaf23a874402537a97dbb20c3bda10b"), looks := true }, kinds := [], alts := [], laidByText := true, laidKinds := [.sentinel], laidTests := true, laidLooks := .later }
def SearchSaysUptoCardSaid : Prop := Claim7.holds Tryd.pinned (.plain (OpenSpec.upto searchSaysSpec)) searchSaysUptoCard

/-- THE SECOND FORM's CARD OF 'shalelaw9.SearchFinds'. -/
def searchFindsUptoCard : Claim7 := { stood := { row := searchFindsUptoRow, standIns := [], harness := (true, "10953f4d4e9303d1377bafb5501ebeee7aaf23a874402537a97dbb20c3bda10b"), looks := true }, kinds := [], alts := [], laidByText := true, laidKinds := [.sentinel, .sentinel], laidTests := true, laidLooks := .later }
def SearchFindsUptoCardSaid : Prop := Claim7.holds Tryd.pinned (.plain (OpenSpec.upto searchFindsSpec)) searchFindsUptoCard

/-- THE SECOND FORM's CARD OF 'shalelaw8.LocateSquares'. -/
def locateSquaresUptoCard : Claim7 := { stood := { row := locateSquaresUptoRow, standIns := [], harness := (true, "10953f4d4e9303d1377bafb5501ebeee7aaf23a874402537a97dbb20c3bda10b"), looks := true }, kinds := [], alts := [], laidByText := true, laidKinds := [.sentinel, .sentinel, .sentinel], laidTests := true, laidLooks := .later }
def LocateSquaresUptoCardSaid : Prop := Claim7.holds Tryd.pinned (.plain (OpenSpec.upto locateSquaresSpec)) locateSquaresUptoCard

/-- THE SECOND FORM's CARD OF 'shalelaw8.LocateGrows'. -/
def locateGrowsUptoCard : Claim7 := { stood := { row := locateGrowsUptoRow, standIns := [], harness := (true, "10953f4d4e9303d1377bafb5501ebeee7aaf23a874402537a97dbb20c3bda10b"), looks := true }, kinds := [], alts := [], laidByText := true, laidKinds := [.sentinel, .sentinel, .sentinel], laidTests := true, laidLooks := .later }
def LocateGrowsUptoCardSaid : Prop := Claim7.holds Tryd.pinned (.plain (OpenSpec.upto locateGrowsSpec)) locateGrowsUptoCard

/-- THE SECOND FORM's CARD OF 'shalelaw8.LocateScales'. -/
def locateScalesUptoCard : Claim7 := { stood := { row := locateScalesUptoRow, standIns := [], harness := (true, "10953f4d4e9303d1377bafb5501ebeee7aaf23a874402537a97dbb20c3bda10b"), looks := true }, kinds := [], alts := [], laidByText := true, laidKinds := [.sentinel, .sentinel, .sentinel], laidTests := true, laidLooks := .later }
def LocateScalesUptoCardSaid : Prop := Claim7.holds Tryd.pinned (.plain (OpenSpec.upto locateScalesSpec)) locateScalesUptoCard

/-- THE SECOND FORM's CARD OF 'shalelaw4.PolyLong'. -/
def polyLongUptoCard : Claim7 := { stood := { row := polyLongUptoRow, standIns := [], harness := (true, "10953f4d4e9303d1377bafb5501ebeee7aaf23a874402537a97dbb20c3bda10b"), looks := true }, kinds := [], alts := [], laidByText := true, laidKinds := [.sentinel, .sentinel, .sentinel], laidTests := true, laidLooks := .later }
def PolyLongUptoCardSaid : Prop := Claim7.holds Tryd.pinned (.plain (OpenSpec.upto polyLongSpec)) polyLongUptoCard

/-- THE SECOND FORM's CARD OF 'shalelaw8.LocateMakes'. -/
def locateMakesUptoCard : Claim7 := { stood := { row := locateMakesUptoRow, standIns := [], harness := (true, "10953f4d4e9303d1377bafb5501ebeee7aaf23a874402537a97dbb20c3bda10b"), looks := true }, kinds := [], alts := [], laidByText := true, laidKinds := [.sentinel, .sentinel, .sentinel], laidTests := true, laidLooks := .later }
def LocateMakesUptoCardSaid : Prop := Claim7.holds Tryd.pinned (.plain (OpenSpec.upto locateMakesSpec)) locateMakesUptoCard

/-- THE SECOND FORM's CARD OF 'shalelaw8.LocateFinds'. -/
def locateFindsUptoCard : Claim7 := { stood := { row := locateFindsUptoRow, standIns := [], harness := (true, "10953f4d4e9303d1377bafb5501ebeee7aaf23a874402537a97dbb20c3bda10b"), looks := true }, kinds := [], alts := [], laidByText := true, laidKinds := [.sentinel, .sentinel, .sentinel], laidTests := true, laidLooks := .later }
def LocateFindsUptoCardSaid : Prop := Claim7.holds Tryd.pinned (.plain (OpenSpec.upto locateFindsSpec)) locateFindsUptoCard

/-- THE SECOND FORM's CARD OF 'shalelaw4.PolyGcds'. -/
def polyGcdsUptoCard : Claim7 := { stood := { row := polyGcdsUptoRow, standIns := [], harness := (true, "10953f4d4e9303d1377bafb5501ebeee7aaf23a874402537a97dbb20c3bda10b"), looks := true }, kinds := [], alts := [], laidByText := true, laidKinds := [.sentinel, .sentinel, .sentinel], laidTests := true, laidLooks := .later }
def PolyGcdsUptoCardSaid : Prop := Claim7.holds Tryd.pinned (.plain (OpenSpec.upto polyGcdsSpec)) polyGcdsUptoCard

/-- THE SECOND FORM's CARD OF 'shalelaw8.LocateSays'. -/
def locateSaysUptoCard : Claim7 := { stood := { row := locateSaysUptoRow, standIns := [], harness := (true, "10953f4d4e9303d1377bafb5501ebeee7aaf23a874402537a97dbb20c3bda10b"), looks := true }, kinds := [], alts := [], laidByText := true, laidKinds := [.sentinel, .sentinel, .sentinel], laidTests := true, laidLooks := .later }
def LocateSaysUptoCardSaid : Prop := Claim7.holds Tryd.pinned (.plain (OpenSpec.upto locateSaysSpec)) locateSaysUptoCard

/-- THE SECOND FORM's CARD OF 'shalelaw4.PolyRoots'. -/
def polyRootsUptoCard : Claim7 := { stood := { row := polyRootsUptoRow, standIns := [], harness := (true, "10953f4d4e9303d1377bafb5501ebeee7aaf23a874402537a97dbb20c3bda10b"), looks := true }, kinds := [], alts := [], laidByText := true, laidKinds := [.sentinel, .sentinel, .sentinel], laidTests := true, laidLooks := .later }
def PolyRootsUptoCardSaid : Prop := Claim7.holds Tryd.pinned (.plain (OpenSpec.upto polyRootsSpec)) polyRootsUptoCard

/-- THE SECOND FORM's CARD OF 'shalelaw4.PolyOwn'. -/
def polyOwnUptoCard : Claim7 := { stood := { row := polyOwnUptoRow, standIns := [], harness := (true, "10953f4d4e9303d1377bafb5501ebeee7aaf23a874402537a97dbb20c3bda10b"), looks := true }, kinds := [], alts := [], laidByText := true, laidKinds := [.sentinel, .sentinel, .sentinel], laidTests := true, laidLooks := .later }
def PolyOwnUptoCardSaid : Prop := Claim7.holds Tryd.pinned (.plain (OpenSpec.upto polyOwnSpec)) polyOwnUptoCard

/-- THE SECOND FORM's CARD OF 'shalelaw4.PolySays'. -/
def polySaysUptoCard : Claim7 := { stood := { row := polySaysUptoRow, standIns := [], harness := (true, "10953f4d4e9303d1377bafb5501ebeee7aaf23a874402537a97dbb20c3bda10b"), looks := true }, kinds := [], alts := [], laidByText := true, laidKinds := [.sentinel, .sentinel, .sentinel], laidTests := true, laidLooks := .later }
def PolySaysUptoCardSaid : Prop := Claim7.holds Tryd.pinned (.plain (OpenSpec.upto polySaysSpec)) polySaysUptoCard

/-- THE SECOND FORM's CARD OF 'shalelaw4.PolyRing'. -/
def polyRingUptoCard : Claim7 := { stood := { row := polyRingUptoRow, standIns := [], harness := (true, "10953f4d4e9303d1377bafb5501ebeee7aaf23a874402537a97dbb20c3bda10b"), looks := true }, kinds := [], alts := [], laidByText := true, laidKinds := [.sentinel, .sentinel, .sentinel], laidTests := true, laidLooks := .later }
def PolyRingUptoCardSaid : Prop := Claim7.holds Tryd.pinned (.plain (OpenSpec.upto polyRingSpec)) polyRingUptoCard
end Rows
end Go.Proofs.YtfhfckoemgkdlaaDoor
