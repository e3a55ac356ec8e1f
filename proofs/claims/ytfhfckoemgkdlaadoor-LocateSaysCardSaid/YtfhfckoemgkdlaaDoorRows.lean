/-
  NARROWER THAN 'FOR EVERY INPUT', by the rows' own cells (each row's printed sentence says how): SearchFew: laid · SearchTurns: laid · SearchSays: laid · SearchFinds: laid · LocateSquares: laid · LocateGrows: laid · LocateScales: laid · PolyLong: laid · LocateMakes: laid · LocateFinds: laid · PolyGcds: laid · LocateSays: laid · PolyRoots: laid · PolyOwn: laid · PolySays: laid · PolyRing: laid.
  DERIVED. THE GIVEN ROWS OF THIS SEAT. 16 by the template 'for every input the law returns true; each argument reads behind the call as it read before'; 0 by the template 'total and deterministic' (their statements: YtfhfckoemgkdlaaDoorTotals.lean).
  GIVEN WITH THE SEED: the statements are not yours to turn. If you find one false, say at which input.
  Laid BY PROGRAM, IN A SANDBOX (cutbox-rows.mjs): the forced cells as the released guide's own fill.sh prints them over the translation 3ff102ce6618062b… (all of the seat's roots in one cut). By AI agents, Wed Nov 11 2026. No macro, syntax, notation, axiom, sorry.
-/
import Derived.Test.YtfhfckoemgkdlaaDoorChecked
import GoSem.Claim
import GoSem.ClaimJoined
import GoSem.ClaimMapViews
import Derived.JoinedTies
import Derived.KernelRfl
namespace Go.Proofs.YtfhfckoemgkdlaaDoor
/- THE CELL 'sum', in the pinned program and in every row, IS THE sha256 OF THE DUMP (.gsa) THAT YtfhfckoemgkdlaaDoorProg.lean LOADS. Nothing in Lean hashes anything: it is a label: what it is worth is what the hold of that sum in a sandbox is worth. -/
noncomputable def Tryd.pinned : Pinned := { name := "ytfhfckoemgkdlaadoor", sum := "3ff102ce6618062b354cc4f563a5d47b2c923ada0a4146c4286ee27f80d4ecef", checked := Tryd.checked }
namespace Rows
def none {H : Type} : Left H := { results := [], args := [] }

/- WHAT THE LISTED PACKAGE-LEVEL VARIABLES READ AS WHEN THE CALL BEGINS. Each datum BY PROGRAM (the guide's laid-datum.mjs) off the statement by which the dump's own 'gosem.cut.vars' lays the variable. In a bare row this is a premise. The card (YtfhfckoemgkdlaaDoorCards.lean) ties it to the program's text. -/
def laid_shale_api_ErrField {H : Type} : DataW H := .iface "*errors.errorString" (.ptr (.agg [.lit (.string [110, 111, 32, 115, 117, 99, 104, 32, 102, 105, 101, 108, 100])]))
def laid_shale_api_ErrLong {H : Type} : DataW H := .iface "*errors.errorString" (.ptr (.agg [.lit (.string [116, 111, 111, 32, 108, 111, 110, 103])]))
def laid_shale_api_ErrZero {H : Type} : DataW H := .iface "*errors.errorString" (.ptr (.agg [.lit (.string [122, 101, 114, 111, 32, 104, 97, 115, 32, 110, 111, 110, 101])]))

/-- 'shalelaw9.SearchFew': WHATEVER THE INPUT: true; the input reads as it did. -/
def searchFewSpec : ChangeSpec := { name := "searchFew", fn := fun _ => fun
  | [d1, d2, d3] => { results := [.lit (.bool true)], args := [d1, d2, d3] }
  | _ => none }
def searchFewRow : OpenClaim := { program := "ytfhfckoemgkdlaadoor", sum := "3ff102ce6618062b354cc4f563a5d47b2c923ada0a4146c4286ee27f80d4ecef", func := "shale/shalelaw9.SearchFew", spec := "searchFew", unfollowed := true, recurses := true, named := ["shale/api.ErrField"], apart := false, laid := [("shale/api.ErrField", laid_shale_api_ErrField)] }
def SearchFewSaid : Prop := searchFewRow.holds Tryd.pinned (OpenSpec.ofChange searchFewSpec)

/-- ITS FALSE NEIGHBOUR: 'it returns false'. Refute it at one input. -/
def searchFewWrong : ChangeSpec := { name := "searchFew", fn := fun _ => fun
  | [d1, d2, d3] => { results := [.lit (.bool false)], args := [d1, d2, d3] }
  | _ => none }
def SearchFewWrongFalsely : Prop := searchFewRow.holds Tryd.pinned (OpenSpec.ofChange searchFewWrong)

/-- 'shalelaw9.SearchTurns': WHATEVER THE INPUT: true; the input reads as it did. -/
def searchTurnsSpec : ChangeSpec := { name := "searchTurns", fn := fun _ => fun
  | [d1, d2, d3] => { results := [.lit (.bool true)], args := [d1, d2, d3] }
  | _ => none }
def searchTurnsRow : OpenClaim := { program := "ytfhfckoemgkdlaadoor", sum := "3ff102ce6618062b354cc4f563a5d47b2c923ada0a4146c4286ee27f80d4ecef", func := "shale/shalelaw9.SearchTurns", spec := "searchTurns", unfollowed := true, recurses := true, named := ["shale/api.ErrField"], apart := false, laid := [("shale/api.ErrField", laid_shale_api_ErrField)] }
def SearchTurnsSaid : Prop := searchTurnsRow.holds Tryd.pinned (OpenSpec.ofChange searchTurnsSpec)

/-- ITS FALSE NEIGHBOUR: 'it returns false'. Refute it at one input. -/
def searchTurnsWrong : ChangeSpec := { name := "searchTurns", fn := fun _ => fun
  | [d1, d2, d3] => { results := [.lit (.bool false)], args := [d1, d2, d3] }
  | _ => none }
def SearchTurnsWrongFalsely : Prop := searchTurnsRow.holds Tryd.pinned (OpenSpec.ofChange searchTurnsWrong)

/-- 'shalelaw9.SearchSays': WHATEVER THE INPUT: true; the input reads as it did. -/
def searchSaysSpec : ChangeSpec := { name := "searchSays", fn := fun _ => fun
  | [d1, d2, d3, d4] => { results := [.lit (.bool true)], args := [d1, d2, d3, d4] }
  | _ => none }
def searchSaysRow : OpenClaim := { program := "ytfhfckoemgkdlaadoor", sum := "3ff102ce6618062b354cc4f563a5d47b2c923ada0a4146c4286ee27f80d4ecef", func := "shale/shalelaw9.SearchSays", spec := "searchSays", unfollowed := true, recurses := true, named := ["shale/api.ErrField"], apart := false, laid := [("shale/api.ErrField", laid_shale_api_ErrField)] }
def SearchSaysSaid : Prop := searchSaysRow.holds Tryd.pinned (OpenSpec.ofChange searchSaysSpec)

/-- ITS FALSE NEIGHBOUR: 'it returns false'. Refute it at one input. -/
def searchSaysWrong : ChangeSpec := { name := "searchSays", fn := fun _ => fun
  | [d1, d2, d3, d4] => { results := [.lit (.bool false)], args := [d1, d2, d3, d4] }
  | _ => none }
def SearchSaysWrongFalsely : Prop := searchSaysRow.holds Tryd.pinned (OpenSpec.ofChange searchSaysWrong)

/-- 'shalelaw9.SearchFinds': WHATEVER THE INPUT: true; the input reads as it did. -/
def searchFindsSpec : ChangeSpec := { name := "searchFinds", fn := fun _ => fun
  | [d1, d2, d3] => { results := [.lit (.bool true)], args := [d1, d2, d3] }
  | _ => none }
def searchFindsRow : OpenClaim := { program := "ytfhfckoemgkdlaadoor", sum := "3ff102ce6618062b354cc4f563a5d47b2c923ada0a4146c4286ee27f80d4ecef", func := "shale/shalelaw9.SearchFinds", spec := "searchFinds", unfollowed := true, recurses := true, named := ["shale/api.ErrField", "shale/api.ErrLong"], apart := false, laid := [("shale/api.ErrField", laid_shale_api_ErrField), ("shale/api.ErrLong", laid_shale_api_ErrLong)] }
def SearchFindsSaid : Prop := searchFindsRow.holds Tryd.pinned (OpenSpec.ofChange searchFindsSpec)

/-- ITS FALSE NEIGHBOUR: 'it returns false'. Refute it at one input. -/
def searchFindsWrong : ChangeSpec := { name := "searchFinds", fn := fun _ => fun
  | [d1, d2, d3] => { results := [.lit (.bool false)], args := [d1, d2, d3] }
  | _ => none }
def SearchFindsWrongFalsely : Prop := searchFindsRow.holds Tryd.pinned (OpenSpec.ofChange searchFindsWrong)

/-- 'shalelaw8.LocateSquares': WHATEVER THE INPUT: true; the input reads as it did. -/
def locateSquaresSpec : ChangeSpec := { name := "locateSquares", fn := fun _ => fun
  | [d1, d2] => { results := [.lit (.bool true)], args := [d1, d2] }
  | _ => none }
def locateSquaresRow : OpenClaim := { program := "ytfhfckoemgkdlaadoor", sum := "3ff102ce6618062b354cc4f563a5d47b2c923ada0a4146c4286ee27f80d4ecef", func := "shale/shalelaw8.LocateSquares", spec := "locateSquares", unfollowed := true, recurses := true, named := ["shale/api.ErrField", "shale/api.ErrZero", "shale/api.ErrLong"], apart := false, laid := [("shale/api.ErrField", laid_shale_api_ErrField), ("shale/api.ErrZero", laid_shale_api_ErrZero), ("shale/api.ErrLong", laid_shale_api_ErrLong)] }
def LocateSquaresSaid : Prop := locateSquaresRow.holds Tryd.pinned (OpenSpec.ofChange locateSquaresSpec)

/-- ITS FALSE NEIGHBOUR: 'it returns false'. Refute it at one input. -/
def locateSquaresWrong : ChangeSpec := { name := "locateSquares", fn := fun _ => fun
  | [d1, d2] => { results := [.lit (.bool false)], args := [d1, d2] }
  | _ => none }
def LocateSquaresWrongFalsely : Prop := locateSquaresRow.holds Tryd.pinned (OpenSpec.ofChange locateSquaresWrong)

/-- 'shalelaw8.LocateGrows': WHATEVER THE INPUT: true; the input reads as it did. -/
def locateGrowsSpec : ChangeSpec := { name := "locateGrows", fn := fun _ => fun
  | [d1, d2, d3] => { results := [.lit (.bool true)], args := [d1, d2, d3] }
  | _ => none }
def locateGrowsRow : OpenClaim := { program := "ytfhfckoemgkdlaadoor", sum := "3ff102ce6618062b354cc4f563a5d47b2c923ada0a4146c4286ee27f80d4ecef", func := "shale/shalelaw8.LocateGrows", spec := "locateGrows", unfollowed := true, recurses := true, named := ["shale/api.ErrField", "shale/api.ErrZero", "shale/api.ErrLong"], apart := false, laid := [("shale/api.ErrField", laid_shale_api_ErrField), ("shale/api.ErrZero", laid_shale_api_ErrZero), ("shale/api.ErrLong", laid_shale_api_ErrLong)] }
def LocateGrowsSaid : Prop := locateGrowsRow.holds Tryd.pinned (OpenSpec.ofChange locateGrowsSpec)

/-- ITS FALSE NEIGHBOUR: 'it returns false'. Refute it at one input. -/
def locateGrowsWrong : ChangeSpec := { name := "locateGrows", fn := fun _ => fun
  | [d1, d2, d3] => { results := [.lit (.bool false)], args := [d1, d2, d3] }
  | _ => none }
def LocateGrowsWrongFalsely : Prop := locateGrowsRow.holds Tryd.pinned (OpenSpec.ofChange locateGrowsWrong)

/-- 'shalelaw8.LocateScales': WHATEVER THE INPUT: true; the input reads as it did. -/
def locateScalesSpec : ChangeSpec := { name := "locateScales", fn := fun _ => fun
  | [d1, d2, d3, d4] => { results := [.lit (.bool true)], args := [d1, d2, d3, d4] }
  | _ => none }
def locateScalesRow : OpenClaim := { program := "ytfhfckoemgkdlaadoor", sum := "3ff102ce6618062b354cc4f563a5d47b2c923ada0a4146c4286ee27f80d4ecef", func := "shale/shalelaw8.LocateScales", spec := "locateScales", unfollowed := true, recurses := true, named := ["shale/api.ErrField", "shale/api.ErrZero", "shale/api.ErrLong"], apart := false, laid := [("shale/api.ErrField", laid_shale_api_ErrField), ("shale/api.ErrZero", laid_shale_api_ErrZero), ("shale/api.ErrLong", laid_shale_api_ErrLong)] }
def LocateScalesSaid : Prop := locateScalesRow.holds Tryd.pinned (OpenSpec.ofChange locateScalesSpec)

/-- ITS FALSE NEIGHBOUR: 'it returns false'. Refute it at one input. -/
def locateScalesWrong : ChangeSpec := { name := "locateScales", fn := fun _ => fun
  | [d1, d2, d3, d4] => { results := [.lit (.bool false)], args := [d1, d2, d3, d4] }
  | _ => none }
def LocateScalesWrongFalsely : Prop := locateScalesRow.holds Tryd.pinned (OpenSpec.ofChange locateScalesWrong)

/-- 'shalelaw4.PolyLong': WHATEVER THE INPUT: true; the input reads as it did. -/
def polyLongSpec : ChangeSpec := { name := "polyLong", fn := fun _ => fun
  | [d1, d2] => { results := [.lit (.bool true)], args := [d1, d2] }
  | _ => none }
def polyLongRow : OpenClaim := { program := "ytfhfckoemgkdlaadoor", sum := "3ff102ce6618062b354cc4f563a5d47b2c923ada0a4146c4286ee27f80d4ecef", func := "shale/shalelaw4.PolyLong", spec := "polyLong", unfollowed := true, recurses := true, named := ["shale/api.ErrLong", "shale/api.ErrField", "shale/api.ErrZero"], apart := false, laid := [("shale/api.ErrField", laid_shale_api_ErrField), ("shale/api.ErrZero", laid_shale_api_ErrZero), ("shale/api.ErrLong", laid_shale_api_ErrLong)] }
def PolyLongSaid : Prop := polyLongRow.holds Tryd.pinned (OpenSpec.ofChange polyLongSpec)

/-- ITS FALSE NEIGHBOUR: 'it returns false'. Refute it at one input. -/
def polyLongWrong : ChangeSpec := { name := "polyLong", fn := fun _ => fun
  | [d1, d2] => { results := [.lit (.bool false)], args := [d1, d2] }
  | _ => none }
def PolyLongWrongFalsely : Prop := polyLongRow.holds Tryd.pinned (OpenSpec.ofChange polyLongWrong)

/-- 'shalelaw8.LocateMakes': WHATEVER THE INPUT: true; the input reads as it did. -/
def locateMakesSpec : ChangeSpec := { name := "locateMakes", fn := fun _ => fun
  | [d1, d2, d3, d4] => { results := [.lit (.bool true)], args := [d1, d2, d3, d4] }
  | _ => none }
def locateMakesRow : OpenClaim := { program := "ytfhfckoemgkdlaadoor", sum := "3ff102ce6618062b354cc4f563a5d47b2c923ada0a4146c4286ee27f80d4ecef", func := "shale/shalelaw8.LocateMakes", spec := "locateMakes", unfollowed := true, recurses := true, named := ["shale/api.ErrField", "shale/api.ErrZero", "shale/api.ErrLong"], apart := false, laid := [("shale/api.ErrField", laid_shale_api_ErrField), ("shale/api.ErrZero", laid_shale_api_ErrZero), ("shale/api.ErrLong", laid_shale_api_ErrLong)] }
def LocateMakesSaid : Prop := locateMakesRow.holds Tryd.pinned (OpenSpec.ofChange locateMakesSpec)

/-- ITS FALSE NEIGHBOUR: 'it returns false'. Refute it at one input. -/
def locateMakesWrong : ChangeSpec := { name := "locateMakes", fn := fun _ => fun
  | [d1, d2, d3, d4] => { results := [.lit (.bool false)], args := [d1, d2, d3, d4] }
  | _ => none }
def LocateMakesWrongFalsely : Prop := locateMakesRow.holds Tryd.pinned (OpenSpec.ofChange locateMakesWrong)

/-- 'shalelaw8.LocateFinds': WHATEVER THE INPUT: true; the input reads as it did. -/
def locateFindsSpec : ChangeSpec := { name := "locateFinds", fn := fun _ => fun
  | [d1, d2, d3] => { results := [.lit (.bool true)], args := [d1, d2, d3] }
  | _ => none }
def locateFindsRow : OpenClaim := { program := "ytfhfckoemgkdlaadoor", sum := "3ff102ce6618062b354cc4f563a5d47b2c923ada0a4146c4286ee27f80d4ecef", func := "shale/shalelaw8.LocateFinds", spec := "locateFinds", unfollowed := true, recurses := true, named := ["shale/api.ErrField", "shale/api.ErrZero", "shale/api.ErrLong"], apart := false, laid := [("shale/api.ErrField", laid_shale_api_ErrField), ("shale/api.ErrZero", laid_shale_api_ErrZero), ("shale/api.ErrLong", laid_shale_api_ErrLong)] }
def LocateFindsSaid : Prop := locateFindsRow.holds Tryd.pinned (OpenSpec.ofChange locateFindsSpec)

/-- ITS FALSE NEIGHBOUR: 'it returns false'. Refute it at one input. -/
def locateFindsWrong : ChangeSpec := { name := "locateFinds", fn := fun _ => fun
  | [d1, d2, d3] => { results := [.lit (.bool false)], args := [d1, d2, d3] }
  | _ => none }
def LocateFindsWrongFalsely : Prop := locateFindsRow.holds Tryd.pinned (OpenSpec.ofChange locateFindsWrong)

/-- 'shalelaw4.PolyGcds': WHATEVER THE INPUT: true; the input reads as it did. -/
def polyGcdsSpec : ChangeSpec := { name := "polyGcds", fn := fun _ => fun
  | [d1, d2, d3, d4] => { results := [.lit (.bool true)], args := [d1, d2, d3, d4] }
  | _ => none }
def polyGcdsRow : OpenClaim := { program := "ytfhfckoemgkdlaadoor", sum := "3ff102ce6618062b354cc4f563a5d47b2c923ada0a4146c4286ee27f80d4ecef", func := "shale/shalelaw4.PolyGcds", spec := "polyGcds", unfollowed := true, recurses := true, named := ["shale/api.ErrField", "shale/api.ErrLong", "shale/api.ErrZero"], apart := false, laid := [("shale/api.ErrField", laid_shale_api_ErrField), ("shale/api.ErrZero", laid_shale_api_ErrZero), ("shale/api.ErrLong", laid_shale_api_ErrLong)] }
def PolyGcdsSaid : Prop := polyGcdsRow.holds Tryd.pinned (OpenSpec.ofChange polyGcdsSpec)

/-- ITS FALSE NEIGHBOUR: 'it returns false'. Refute it at one input. -/
def polyGcdsWrong : ChangeSpec := { name := "polyGcds", fn := fun _ => fun
  | [d1, d2, d3, d4] => { results := [.lit (.bool false)], args := [d1, d2, d3, d4] }
  | _ => none }
def PolyGcdsWrongFalsely : Prop := polyGcdsRow.holds Tryd.pinned (OpenSpec.ofChange polyGcdsWrong)

/-- 'shalelaw8.LocateSays': WHATEVER THE INPUT: true; the input reads as it did. -/
def locateSaysSpec : ChangeSpec := { name := "locateSays", fn := fun _ => fun
  | [d1, d2, d3, d4, d5] => { results := [.lit (.bool true)], args := [d1, d2, d3, d4, d5] }
  | _ => none }
def locateSaysRow : OpenClaim := { program := "ytfhfckoemgkdlaadoor", sum := "3ff102ce6618062b354cc4f563a5d47b2c923ada0a4146c4286ee27f80d4ecef", func := "shale/shalelaw8.LocateSays", spec := "locateSays", unfollowed := true, recurses := true, named := ["shale/api.ErrLong", "shale/api.ErrField", "shale/api.ErrZero"], apart := false, laid := [("shale/api.ErrField", laid_shale_api_ErrField), ("shale/api.ErrZero", laid_shale_api_ErrZero), ("shale/api.ErrLong", laid_shale_api_ErrLong)] }
def LocateSaysSaid : Prop := locateSaysRow.holds Tryd.pinned (OpenSpec.ofChange locateSaysSpec)

/-- ITS FALSE NEIGHBOUR: 'it returns false'. Refute it at one input. -/
def locateSaysWrong : ChangeSpec := { name := "locateSays", fn := fun _ => fun
  | [d1, d2, d3, d4, d5] => { results := [.lit (.bool false)], args := [d1, d2, d3, d4, d5] }
  | _ => none }
def LocateSaysWrongFalsely : Prop := locateSaysRow.holds Tryd.pinned (OpenSpec.ofChange locateSaysWrong)

/-- 'shalelaw4.PolyRoots': WHATEVER THE INPUT: true; the input reads as it did. -/
def polyRootsSpec : ChangeSpec := { name := "polyRoots", fn := fun _ => fun
  | [d1, d2] => { results := [.lit (.bool true)], args := [d1, d2] }
  | _ => none }
def polyRootsRow : OpenClaim := { program := "ytfhfckoemgkdlaadoor", sum := "3ff102ce6618062b354cc4f563a5d47b2c923ada0a4146c4286ee27f80d4ecef", func := "shale/shalelaw4.PolyRoots", spec := "polyRoots", unfollowed := true, recurses := true, named := ["shale/api.ErrField", "shale/api.ErrLong", "shale/api.ErrZero"], apart := false, laid := [("shale/api.ErrField", laid_shale_api_ErrField), ("shale/api.ErrZero", laid_shale_api_ErrZero), ("shale/api.ErrLong", laid_shale_api_ErrLong)] }
def PolyRootsSaid : Prop := polyRootsRow.holds Tryd.pinned (OpenSpec.ofChange polyRootsSpec)

/-- ITS FALSE NEIGHBOUR: 'it returns false'. Refute it at one input. -/
def polyRootsWrong : ChangeSpec := { name := "polyRoots", fn := fun _ => fun
  | [d1, d2] => { results := [.lit (.bool false)], args := [d1, d2] }
  | _ => none }
def PolyRootsWrongFalsely : Prop := polyRootsRow.holds Tryd.pinned (OpenSpec.ofChange polyRootsWrong)

/-- 'shalelaw4.PolyOwn': WHATEVER THE INPUT: true; the input reads as it did. -/
def polyOwnSpec : ChangeSpec := { name := "polyOwn", fn := fun _ => fun
  | [d1, d2, d3] => { results := [.lit (.bool true)], args := [d1, d2, d3] }
  | _ => none }
def polyOwnRow : OpenClaim := { program := "ytfhfckoemgkdlaadoor", sum := "3ff102ce6618062b354cc4f563a5d47b2c923ada0a4146c4286ee27f80d4ecef", func := "shale/shalelaw4.PolyOwn", spec := "polyOwn", unfollowed := true, recurses := true, named := ["shale/api.ErrField", "shale/api.ErrLong", "shale/api.ErrZero"], apart := false, laid := [("shale/api.ErrField", laid_shale_api_ErrField), ("shale/api.ErrZero", laid_shale_api_ErrZero), ("shale/api.ErrLong", laid_shale_api_ErrLong)] }
def PolyOwnSaid : Prop := polyOwnRow.holds Tryd.pinned (OpenSpec.ofChange polyOwnSpec)

/-- ITS FALSE NEIGHBOUR: 'it returns false'. Refute it at one input. -/
def polyOwnWrong : ChangeSpec := { name := "polyOwn", fn := fun _ => fun
  | [d1, d2, d3] => { results := [.lit (.bool false)], args := [d1, d2, d3] }
  | _ => none }
def PolyOwnWrongFalsely : Prop := polyOwnRow.holds Tryd.pinned (OpenSpec.ofChange polyOwnWrong)

/-- 'shalelaw4.PolySays': WHATEVER THE INPUT: true; the input reads as it did. -/
def polySaysSpec : ChangeSpec := { name := "polySays", fn := fun _ => fun
  | [d1, d2, d3, d4] => { results := [.lit (.bool true)], args := [d1, d2, d3, d4] }
  | _ => none }
def polySaysRow : OpenClaim := { program := "ytfhfckoemgkdlaadoor", sum := "3ff102ce6618062b354cc4f563a5d47b2c923ada0a4146c4286ee27f80d4ecef", func := "shale/shalelaw4.PolySays", spec := "polySays", unfollowed := true, recurses := true, named := ["shale/api.ErrZero", "shale/api.ErrField", "shale/api.ErrLong"], apart := false, laid := [("shale/api.ErrField", laid_shale_api_ErrField), ("shale/api.ErrZero", laid_shale_api_ErrZero), ("shale/api.ErrLong", laid_shale_api_ErrLong)] }
def PolySaysSaid : Prop := polySaysRow.holds Tryd.pinned (OpenSpec.ofChange polySaysSpec)

/-- ITS FALSE NEIGHBOUR: 'it returns false'. Refute it at one input. -/
def polySaysWrong : ChangeSpec := { name := "polySays", fn := fun _ => fun
  | [d1, d2, d3, d4] => { results := [.lit (.bool false)], args := [d1, d2, d3, d4] }
  | _ => none }
def PolySaysWrongFalsely : Prop := polySaysRow.holds Tryd.pinned (OpenSpec.ofChange polySaysWrong)

/-- 'shalelaw4.PolyRing': WHATEVER THE INPUT: true; the input reads as it did. -/
def polyRingSpec : ChangeSpec := { name := "polyRing", fn := fun _ => fun
  | [d1, d2, d3, d4] => { results := [.lit (.bool true)], args := [d1, d2, d3, d4] }
  | _ => none }
def polyRingRow : OpenClaim := { program := "ytfhfckoemgkdlaadoor", sum := "3ff102ce6618062b354cc4f563a5d47b2c923ada0a4146c4286ee27f80d4ecef", func := "shale/shalelaw4.PolyRing", spec := "polyRing", unfollowed := true, recurses := true, named := ["shale/api.ErrField", "shale/api.ErrLong", "shale/api.ErrZero"], apart := false, laid := [("shale/api.ErrField", laid_shale_api_ErrField), ("shale/api.ErrZero", laid_shale_api_ErrZero), ("shale/api.ErrLong", laid_shale_api_ErrLong)] }
def PolyRingSaid : Prop := polyRingRow.holds Tryd.pinned (OpenSpec.ofChange polyRingSpec)

/-- ITS FALSE NEIGHBOUR: 'it returns false'. Refute it at one input. -/
def polyRingWrong : ChangeSpec := { name := "polyRing", fn := fun _ => fun
  | [d1, d2, d3, d4] => { results := [.lit (.bool false)], args := [d1, d2, d3, d4] }
  | _ => none }
def PolyRingWrongFalsely : Prop := polyRingRow.holds Tryd.pinned (OpenSpec.ofChange polyRingWrong)

/- THE SECOND FORM. 'bulk': how many values and letters a reading holds, each counted each time it is reached (what is shared counts as often as it is met; a slice's spare places count too). A statement '..UptoSaid' is the law's where the arguments, and the package variables that the reading takes, are together of bulk at most 1048576: NARROWER than '..Said'. Prove '..Said' where nothing that the law and all that it calls make is longer than what came in: it says more and counts as full. Else prove '..UptoSaid'. A law counts once. -/
mutual
def uptoBulk {H : Type} : DataW H → Nat
  | .lit (.string bytes) => bytes.length + 1
  | .lit _ => 1
  | .nil => 1
  | .ptr d => uptoBulk d + 1
  | .slice elems spare => uptoBulkAll elems + uptoBulkAll spare + 1
  | .agg parts => uptoBulkAll parts + 1
  | .iface _ d => uptoBulk d + 1
  | .map entries => uptoBulkEntries entries + 1
  | .held _ => 1
def uptoBulkAll {H : Type} : List (DataW H) → Nat
  | [] => 0
  | d :: r => uptoBulk d + uptoBulkAll r
def uptoBulkEntries {H : Type} : List (Lit × DataW H) → Nat
  | [] => 0
  | x :: r => uptoBulkEntry x + uptoBulkEntries r
def uptoBulkEntry {H : Type} : Lit × DataW H → Nat
  | (.string bytes, d) => bytes.length + uptoBulk d + 1
  | (_, d) => uptoBulk d + 1
 end
def uptoSmall : (H : Type) → List (DataW H) → Bool := fun _ ds => decide (uptoBulkAll ds ≤ 1048576)
def OpenSpec.upto (s : _root_.Go.ChangeSpec) : _root_.Go.OpenSpec := { _root_.Go.OpenSpec.ofChange s with cond := some uptoSmall }

/-- 'shalelaw9.SearchFew', WHERE WHAT IT READS IS OF BULK AT MOST 1048576: true; the input reads as it did. -/
def searchFewUptoRow : OpenClaim := { program := "ytfhfckoemgkdlaadoor", sum := "3ff102ce6618062b354cc4f563a5d47b2c923ada0a4146c4286ee27f80d4ecef", func := "shale/shalelaw9.SearchFew", spec := "searchFew", unfollowed := true, recurses := true, named := ["shale/api.ErrField"], apart := false, laid := [("shale/api.ErrField", laid_shale_api_ErrField)], narrowed := true }
def SearchFewUptoSaid : Prop := searchFewUptoRow.holds Tryd.pinned (OpenSpec.upto searchFewSpec)

/-- 'shalelaw9.SearchTurns', WHERE WHAT IT READS IS OF BULK AT MOST 1048576: true; the input reads as it did. -/
def searchTurnsUptoRow : OpenClaim := { program := "ytfhfckoemgkdlaadoor", sum := "3ff102ce6618062b354cc4f563a5d47b2c923ada0a4146c4286ee27f80d4ecef", func := "shale/shalelaw9.SearchTurns", spec := "searchTurns", unfollowed := true, recurses := true, named := ["shale/api.ErrField"], apart := false, laid := [("shale/api.ErrField", laid_shale_api_ErrField)], narrowed := true }
def SearchTurnsUptoSaid : Prop := searchTurnsUptoRow.holds Tryd.pinned (OpenSpec.upto searchTurnsSpec)

/-- 'shalelaw9.SearchSays', WHERE WHAT IT READS IS OF BULK AT MOST 1048576: true; the input reads as it did. -/
def searchSaysUptoRow : OpenClaim := { program := "ytfhfckoemgkdlaadoor", sum := "3ff102ce6618062b354cc4f563a5d47b2c923ada0a4146c4286ee27f80d4ecef", func := "shale/shalelaw9.SearchSays", spec := "searchSays", unfollowed := true, recurses := true, named := ["shale/api.ErrField"], apart := false, laid := [("shale/api.ErrField", laid_shale_api_ErrField)], narrowed := true }
def SearchSaysUptoSaid : Prop := searchSaysUptoRow.holds Tryd.pinned (OpenSpec.upto searchSaysSpec)

/-- 'shalelaw9.SearchFinds', WHERE WHAT IT READS IS OF BULK AT MOST 1048576: true; the input reads as it did. -/
def searchFindsUptoRow : OpenClaim := { program := "ytfhfckoemgkdlaadoor", sum := "3ff102ce6618062b354cc4f563a5d47b2c923ada0a4146c4286ee27f80d4ecef", func := "shale/shalelaw9.SearchFinds", spec := "searchFinds", unfollowed := true, recurses := true, named := ["shale/api.ErrField", "shale/api.ErrLong"], apart := false, laid := [("shale/api.ErrField", laid_shale_api_ErrField), ("shale/api.ErrLong", laid_shale_api_ErrLong)], narrowed := true }
def SearchFindsUptoSaid : Prop := searchFindsUptoRow.holds Tryd.pinned (OpenSpec.upto searchFindsSpec)

/-- 'shalelaw8.LocateSquares', WHERE WHAT IT READS IS OF BULK AT MOST 1048576: true; the input reads as it did. -/
def locateSquaresUptoRow : OpenClaim := { program := "ytfhfckoemgkdlaadoor", sum := "3ff102ce6618062b354cc4f563a5d47b2c923ada0a4146c4286ee27f80d4ecef", func := "shale/shalelaw8.LocateSquares", spec := "locateSquares", unfollowed := true, recurses := true, named := ["shale/api.ErrField", "shale/api.ErrZero", "shale/api.ErrLong"], apart := false, laid := [("shale/api.ErrField", laid_shale_api_ErrField), ("shale/api.ErrZero", laid_shale_api_ErrZero), ("shale/api.ErrLong", laid_shale_api_ErrLong)], narrowed := true }
def LocateSquaresUptoSaid : Prop := locateSquaresUptoRow.holds Tryd.pinned (OpenSpec.upto locateSquaresSpec)

/-- 'shalelaw8.LocateGrows', WHERE WHAT IT READS IS OF BULK AT MOST 1048576: true; the input reads as it did. -/
def locateGrowsUptoRow : OpenClaim := { program := "ytfhfckoemgkdlaadoor", sum := "3ff102ce6618062b354cc4f563a5d47b2c923ada0a4146c4286ee27f80d4ecef", func := "shale/shalelaw8.LocateGrows", spec := "locateGrows", unfollowed := true, recurses := true, named := ["shale/api.ErrField", "shale/api.ErrZero", "shale/api.ErrLong"], apart := false, laid := [("shale/api.ErrField", laid_shale_api_ErrField), ("shale/api.ErrZero", laid_shale_api_ErrZero), ("shale/api.ErrLong", laid_shale_api_ErrLong)], narrowed := true }
def LocateGrowsUptoSaid : Prop := locateGrowsUptoRow.holds Tryd.pinned (OpenSpec.upto locateGrowsSpec)

/-- 'shalelaw8.LocateScales', WHERE WHAT IT READS IS OF BULK AT MOST 1048576: true; the input reads as it did. -/
def locateScalesUptoRow : OpenClaim := { program := "ytfhfckoemgkdlaadoor", sum := "3ff102ce6618062b354cc4f563a5d47b2c923ada0a4146c4286ee27f80d4ecef", func := "shale/shalelaw8.LocateScales", spec := "locateScales", unfollowed := true, recurses := true, named := ["shale/api.ErrField", "shale/api.ErrZero", "shale/api.ErrLong"], apart := false, laid := [("shale/api.ErrField", laid_shale_api_ErrField), ("shale/api.ErrZero", laid_shale_api_ErrZero), ("shale/api.ErrLong", laid_shale_api_ErrLong)], narrowed := true }
def LocateScalesUptoSaid : Prop := locateScalesUptoRow.holds Tryd.pinned (OpenSpec.upto locateScalesSpec)

/-- 'shalelaw4.PolyLong', WHERE WHAT IT READS IS OF BULK AT MOST 1048576: true; the input reads as it did. -/
def polyLongUptoRow : OpenClaim := { program := "ytfhfckoemgkdlaadoor", sum := "3ff102ce6618062b354cc4f563a5d47b2c923ada0a4146c4286ee27f80d4ecef", func := "shale/shalelaw4.PolyLong", spec := "polyLong", unfollowed := true, recurses := true, named := ["shale/api.ErrLong", "shale/api.ErrField", "shale/api.ErrZero"], apart := false, laid := [("shale/api.ErrField", laid_shale_api_ErrField), ("shale/api.ErrZero", laid_shale_api_ErrZero), ("shale/api.ErrLong", laid_shale_api_ErrLong)], narrowed := true }
def PolyLongUptoSaid : Prop := polyLongUptoRow.holds Tryd.pinned (OpenSpec.upto polyLongSpec)

/-- 'shalelaw8.LocateMakes', WHERE WHAT IT READS IS OF BULK AT MOST 1048576: true; the input reads as it did. -/
def locateMakesUptoRow : OpenClaim := { program := "ytfhfckoemgkdlaadoor", sum := "3ff102ce6618062b354cc4f563a5d47b2c923ada0a4146c4286ee27f80d4ecef", func := "shale/shalelaw8.LocateMakes", spec := "locateMakes", unfollowed := true, recurses := true, named := ["shale/api.ErrField", "shale/api.ErrZero", "shale/api.ErrLong"], apart := false, laid := [("shale/api.ErrField", laid_shale_api_ErrField), ("shale/api.ErrZero", laid_shale_api_ErrZero), ("shale/api.ErrLong", laid_shale_api_ErrLong)], narrowed := true }
def LocateMakesUptoSaid : Prop := locateMakesUptoRow.holds Tryd.pinned (OpenSpec.upto locateMakesSpec)

/-- 'shalelaw8.LocateFinds', WHERE WHAT IT READS IS OF BULK AT MOST 1048576: true; the input reads as it did. -/
def locateFindsUptoRow : OpenClaim := { program := "ytfhfckoemgkdlaadoor", sum := "3ff102ce6618062b354cc4f563a5d47b2c923ada0a4146c4286ee27f80d4ecef", func := "shale/shalelaw8.LocateFinds", spec := "locateFinds", unfollowed := true, recurses := true, named := ["shale/api.ErrField", "shale/api.ErrZero", "shale/api.ErrLong"], apart := false, laid := [("shale/api.ErrField", laid_shale_api_ErrField), ("shale/api.ErrZero", laid_shale_api_ErrZero), ("shale/api.ErrLong", laid_shale_api_ErrLong)], narrowed := true }
def LocateFindsUptoSaid : Prop := locateFindsUptoRow.holds Tryd.pinned (OpenSpec.upto locateFindsSpec)

/-- 'shalelaw4.PolyGcds', WHERE WHAT IT READS IS OF BULK AT MOST 1048576: true; the input reads as it did. -/
def polyGcdsUptoRow : OpenClaim := { program := "ytfhfckoemgkdlaadoor", sum := "3ff102ce6618062b354cc4f563a5d47b2c923ada0a4146c4286ee27f80d4ecef", func := "shale/shalelaw4.PolyGcds", spec := "polyGcds", unfollowed := true, recurses := true, named := ["shale/api.ErrField", "shale/api.ErrLong", "shale/api.ErrZero"], apart := false, laid := [("shale/api.ErrField", laid_shale_api_ErrField), ("shale/api.ErrZero", laid_shale_api_ErrZero), ("shale/api.ErrLong", laid_shale_api_ErrLong)], narrowed := true }
def PolyGcdsUptoSaid : Prop := polyGcdsUptoRow.holds Tryd.pinned (OpenSpec.upto polyGcdsSpec)

/-- 'shalelaw8.LocateSays', WHERE WHAT IT READS IS OF BULK AT MOST 1048576: true; the input reads as it did. -/
def locateSaysUptoRow : OpenClaim := { program := "ytfhfckoemgkdlaadoor", sum := "3ff102ce6618062b354cc4f563a5d47b2c923ada0a4146c4286ee27f80d4ecef", func := "shale/shalelaw8.LocateSays", spec := "locateSays", unfollowed := true, recurses := true, named := ["shale/api.ErrLong", "shale/api.ErrField", "shale/api.ErrZero"], apart := false, laid := [("shale/api.ErrField", laid_shale_api_ErrField), ("shale/api.ErrZero", laid_shale_api_ErrZero), ("shale/api.ErrLong", laid_shale_api_ErrLong)], narrowed := true }
def LocateSaysUptoSaid : Prop := locateSaysUptoRow.holds Tryd.pinned (OpenSpec.upto locateSaysSpec)

/-- 'shalelaw4.PolyRoots', WHERE WHAT IT READS IS OF BULK AT MOST 1048576: true; the input reads as it did. -/
def polyRootsUptoRow : OpenClaim := { program := "ytfhfckoemgkdlaadoor", sum := "3ff102ce6618062b354cc4f563a5d47b2c923ada0a4146c4286ee27f80d4ecef", func := "shale/shalelaw4.PolyRoots", spec := "polyRoots", unfollowed := true, recurses := true, named := ["shale/api.ErrField", "shale/api.ErrLong", "shale/api.ErrZero"], apart := false, laid := [("shale/api.ErrField", laid_shale_api_ErrField), ("shale/api.ErrZero", laid_shale_api_ErrZero), ("shale/api.ErrLong", laid_shale_api_ErrLong)], narrowed := true }
def PolyRootsUptoSaid : Prop := polyRootsUptoRow.holds Tryd.pinned (OpenSpec.upto polyRootsSpec)

/-- 'shalelaw4.PolyOwn', WHERE WHAT IT READS IS OF BULK AT MOST 1048576: true; the input reads as it did. -/
def polyOwnUptoRow : OpenClaim := { program := "ytfhfckoemgkdlaadoor", sum := "3ff102ce6618062b354cc4f563a5d47b2c923ada0a4146c4286ee27f80d4ecef", func := "shale/shalelaw4.PolyOwn", spec := "polyOwn", unfollowed := true, recurses := true, named := ["shale/api.ErrField", "shale/api.ErrLong", "shale/api.ErrZero"], apart := false, laid := [("shale/api.ErrField", laid_shale_api_ErrField), ("shale/api.ErrZero", laid_shale_api_ErrZero), ("shale/api.ErrLong", laid_shale_api_ErrLong)], narrowed := true }
def PolyOwnUptoSaid : Prop := polyOwnUptoRow.holds Tryd.pinned (OpenSpec.upto polyOwnSpec)

/-- 'shalelaw4.PolySays', WHERE WHAT IT READS IS OF BULK AT MOST 1048576: true; the input reads as it did. -/
def polySaysUptoRow : OpenClaim := { program := "ytfhfckoemgkdlaadoor", sum := "3ff102ce6618062b354cc4f563a5d47b2c923ada0a4146c4286ee27f80d4ecef", func := "shale/shalelaw4.PolySays", spec := "polySays", unfollowed := true, recurses := true, named := ["shale/api.ErrZero", "shale/api.ErrField", "shale/api.ErrLong"], apart := false, laid := [("shale/api.ErrField", laid_shale_api_ErrField), ("shale/api.ErrZero", laid_shale_api_ErrZero), ("shale/api.ErrLong", laid_shale_api_ErrLong)], narrowed := true }
def PolySaysUptoSaid : Prop := polySaysUptoRow.holds Tryd.pinned (OpenSpec.upto polySaysSpec)

/-- 'shalelaw4.PolyRing', WHERE WHAT IT READS IS OF BULK AT MOST 1048576: true; the input reads as it did. -/
def polyRingUptoRow : OpenClaim := { program := "ytfhfckoemgkdlaadoor", sum := "3ff102ce6618062b354cc4f563a5d47b2c923ada0a4146c4286ee27f80d4ecef", func := "shale/shalelaw4.PolyRing", spec := "polyRing", unfollowed := true, recurses := true, named := ["shale/api.ErrField", "shale/api.ErrLong", "shale/api.ErrZero"], apart := false, laid := [("shale/api.ErrField", laid_shale_api_ErrField), ("shale/api.ErrZero", laid_shale_api_ErrZero), ("shale/api.ErrLong", laid_shale_api_ErrLong)], narrowed := true }
def PolyRingUptoSaid : Prop := polyRingUptoRow.holds Tryd.pinned (OpenSpec.upto polyRingSpec)

end Rows
end Go.Proofs.YtfhfckoemgkdlaaDoor
